/- Transactions as fields, on plain data: what is read. No conditions. -/
import Derived.Test.YtgfmnpbcbpobbaaDoorPForm
namespace Go.Proofs.YtgfmnpbcbpobbaaDoor.Am
open Go

def rdTr (x : D_api_Transfer) (f : Fld) : D_api_Transfer := if f.num = 1 then (f.byt, x.2) else if f.num = 2 then (x.1, ((f.val : Nat) : Int)) else x
def trOf (b : List UInt8) : D_api_Transfer := (flds b).1.foldl rdTr ([], 0)
def rdTx (t : D_api_Tx) (f : Fld) : D_api_Tx :=
  if f.num = 1 then (f.byt, t.2) else if f.num = 2 then (t.1, ((f.val : Nat) : Int), t.2.2) else if f.num = 3 then (t.1, t.2.1, ((f.val : Nat) : Int), t.2.2.2)
  else if f.num = 4 then (t.1, t.2.1, t.2.2.1, ((f.val : Nat) : Int), t.2.2.2.2) else if f.num = 5 then (t.1, t.2.1, t.2.2.1, t.2.2.2.1, f.byt, t.2.2.2.2.2)
  else if f.num = 6 then (t.1, t.2.1, t.2.2.1, t.2.2.2.1, t.2.2.2.2.1, t.2.2.2.2.2 ++ [trOf f.byt]) else t
def zeroTx : D_api_Tx := ([], 0, 0, 0, [], [])
def txOf (l : List Fld) : D_api_Tx := l.foldl rdTx zeroTx
theorem flds_len (b : List UInt8) : (flds b).1.length ≤ 1024 := by
  have h := flds_inv b
  by_cases h0 : (flds b).2.2 = 0
  · exact (h.1 h0).2.2.2
  · rw [(h.2 h0).1]; simp
theorem transfer_ok (b : List UInt8) (hb : b.length ≤ 1000000000000) : F_tx_transfer b = some (trOf b) := by
  rw [← ok_eq]
  have hl := flds_len b
  unfold F_tx_transfer trOf
  rw [fields_flds b hb, Option.bind_some]
  generalize (flds b).1 = l at *
  unfold F_tx_transfer_l1s
  have hm : (l.map toF).length = l.length := List.length_map ..
  refine ok_range (l.map toF) (fun i (x : D_api_Transfer) => ((((l.map toF).length : Nat) : Int), ((i : Nat) : Int), (([], (0 : Int)) : D_api_Transfer), x, l.map toF)) (fun i x => (l.drop i).foldl rdTr x = l.foldl rdTr ([], 0)) (fun i x hi hv => ?_) (fun x hv => ?_) rfl (by omega)
  · have hi' : i < l.length := by omega
    have q3 : List.getD (l.map toF) i d_api_Field = toF l[i] := by rw [getD_lt hi, List.getElem_map]
    have qn : (toF l[i]).1 = l[i].num := rfl
    rw [List.drop_eq_getElem_cons hi', List.foldl_cons] at hv
    simp only [F_tx_transfer_l1, ok_sel, ok_chk, ok_some, nxt_inl, nxt_inr, decide_eq_true_eq, decide_eq_false_iff_not, Int.toNat_natCast, q3, qn, wi_succ (i := i) (by omega)]
    refine ⟨fun _ => ⟨by omega, by omega, fun h1 => ⟨_, rfl, ?_⟩, fun h1 => ⟨fun h2 => ⟨_, rfl, ?_⟩, fun h2 => ⟨_, rfl, ?_⟩⟩⟩, fun hc => absurd hc (by omega)⟩
    · rw [← hv]; congr 1; unfold rdTr; rw [if_pos h1]; rfl
    · rw [← hv]; congr 1; unfold rdTr; rw [if_neg h1, if_pos h2]; rfl
    · rw [← hv]; congr 1; unfold rdTr; rw [if_neg h1, if_neg h2]
  · simp only [F_tx_transfer_l1, ok_sel, ok_chk, ok_some, nxt_inl, nxt_inr, decide_eq_true_eq, decide_eq_false_iff_not, Int.toNat_natCast]
    refine ⟨fun hc => absurd hc (by omega), fun _ => ?_⟩
    rw [hm, List.drop_length] at hv
    exact hv
theorem read_ok (l : List Fld) (hl : l.length ≤ 2000) (hb : ∀ f ∈ l, f.byt.length ≤ 1000000000000) : F_tx_read (l.map toF) = some (txOf l) := by
  rw [← ok_eq]
  have hm : (l.map toF).length = l.length := List.length_map ..
  unfold F_tx_read F_tx_read_l1s
  refine ok_range (l.map toF) (fun i (t : D_api_Tx) => (l.map toF, (((l.map toF).length : Nat) : Int), ((i : Nat) : Int), ([] : List UInt8), (0 : Int), (0 : Int), (0 : Int), ([] : List UInt8), t.1, t.2.1, t.2.2.1, t.2.2.2.1, t.2.2.2.2.1, t.2.2.2.2.2)) (fun i t => (l.drop i).foldl rdTx t = txOf l ∧ t.2.2.2.2.2.length ≤ i) (fun i t hi hv => ?_) (fun t hv => ?_) (b0 := zeroTx) ⟨rfl, by simp [zeroTx]⟩ (by omega)
  · obtain ⟨hv, hlt⟩ := hv
    have hi' : i < l.length := by omega
    have q3 : List.getD (l.map toF) i d_api_Field = toF l[i] := by rw [getD_lt hi, List.getElem_map]
    have ht := transfer_ok l[i].byt (hb _ (List.getElem_mem hi'))
    have ht' : F_tx_transfer (toF l[i]).2.2.2 = some (trOf l[i].byt) := ht
    have qn : (toF l[i]).1 = l[i].num := rfl
    rw [List.drop_eq_getElem_cons hi', List.foldl_cons] at hv
    simp only [F_tx_read_l1, ok_sel, ok_chk, ok_bind, ok_some, nxt_inl, nxt_inr, decide_eq_true_eq, decide_eq_false_iff_not, Int.toNat_natCast, q3, wi_succ (i := i) (by omega), ht', qn]
    refine ⟨fun _ => ⟨by omega, fun h1 => ?_, fun h1 => ⟨fun h2 => ?_, fun h2 => ⟨fun h3 => ?_, fun h3 => ⟨fun h4 => ?_, fun h4 => ⟨fun h5 => ?_, fun h5 => ⟨fun h6 => ⟨⟨by unfold LIM; omega, by unfold LEN; omega⟩, ?_⟩, fun h6 => ?_⟩⟩⟩⟩⟩⟩, fun hc => absurd hc (by omega)⟩
    · refine ⟨rdTx t l[i], ?_, hv, ?_⟩ <;> (unfold rdTx; rw [if_pos h1])
      · rfl
      · exact Nat.le_succ_of_le hlt
    · refine ⟨rdTx t l[i], ?_, hv, ?_⟩ <;> (unfold rdTx; rw [if_neg h1, if_pos h2])
      · rfl
      · exact Nat.le_succ_of_le hlt
    · refine ⟨rdTx t l[i], ?_, hv, ?_⟩ <;> (unfold rdTx; rw [if_neg h1, if_neg h2, if_pos h3])
      · rfl
      · exact Nat.le_succ_of_le hlt
    · refine ⟨rdTx t l[i], ?_, hv, ?_⟩ <;> (unfold rdTx; rw [if_neg h1, if_neg h2, if_neg h3, if_pos h4])
      · rfl
      · exact Nat.le_succ_of_le hlt
    · refine ⟨rdTx t l[i], ?_, hv, ?_⟩ <;> (unfold rdTx; rw [if_neg h1, if_neg h2, if_neg h3, if_neg h4, if_pos h5])
      · rfl
      · exact Nat.le_succ_of_le hlt
    · refine ⟨rdTx t l[i], ?_, hv, ?_⟩ <;> (unfold rdTx; rw [if_neg h1, if_neg h2, if_neg h3, if_neg h4, if_neg h5, if_pos h6])
      simp only [List.length_append, List.length_cons, List.length_nil]; omega
    · refine ⟨rdTx t l[i], ?_, hv, ?_⟩ <;> (unfold rdTx; rw [if_neg h1, if_neg h2, if_neg h3, if_neg h4, if_neg h5, if_neg h6])
      exact Nat.le_succ_of_le hlt
  · obtain ⟨hv, _⟩ := hv
    simp only [F_tx_read_l1, ok_sel, ok_chk, ok_bind, ok_some, nxt_inl, nxt_inr, decide_eq_true_eq, decide_eq_false_iff_not, Int.toNat_natCast]
    refine ⟨fun hc => absurd hc (by omega), fun _ => ?_⟩
    rw [hm, List.drop_length] at hv
    exact hv
/-! ### What was written is read -/
theorem num_back {v : Int} (h : u64R v) : ((v.toNat : Nat) : Int) = v := by unfold u64R at h; omega
theorem trOf_back {x : D_api_Transfer} (h : TrS x) : trOf (encs (trF x)) = x := by
  have hs := trF_s h
  have hl : (trF x).length ≤ 2 := by unfold trF; rw [List.length_append]; have := fStr_len 1 x.1; have := fNum_len 2 x.2; omega
  unfold trOf
  rw [flds_encs _ (by omega) (fun f hf => ⟨(hs f hf).1, (hs f hf).2.1, by have := (hs f hf).2.2; unfold U64; omega⟩)]
  obtain ⟨s, v⟩ := x
  have hv := num_back h.2
  simp only at hv
  unfold trF fStr fNum
  by_cases h1 : s = [] <;> by_cases h2 : v = 0 <;> simp [h1, h2, rdTr, hv]
theorem rdTx_trs : ∀ {l : List D_api_Transfer} {t : D_api_Tx}, (∀ x ∈ l, TrS x) → (l.map trFld).foldl rdTx t = (t.1, t.2.1, t.2.2.1, t.2.2.2.1, t.2.2.2.2.1, t.2.2.2.2.2 ++ l)
  | [], t, _ => by simp
  | x :: l, t, h => by
    rw [List.map_cons, List.foldl_cons, rdTx_trs (fun y hy => h y (by simp [hy]))]
    have hx := trOf_back (h x (by simp))
    simp [rdTx, trFld, hx]
theorem txOf_back {t : D_api_Tx} (h : TxS t) : txOf (txF t) = t := by
  obtain ⟨h1, h2, h3, h4, h5, h6, h7⟩ := h
  have hd : (hdF t).foldl rdTx zeroTx = (t.1, t.2.1, t.2.2.1, t.2.2.2.1, t.2.2.2.2.1, []) := by
    have n2 := num_back h2
    have n3 := num_back h3
    have n4 := num_back h4
    obtain ⟨s, a, b, c, m, l⟩ := t
    simp only at n2 n3 n4
    unfold hdF fStr fNum zeroTx
    simp only [List.foldl_append]
    by_cases c1 : s = [] <;> by_cases c2 : a = 0 <;> by_cases c3 : b = 0 <;> by_cases c4 : c = 0 <;> by_cases c5 : m = [] <;> simp [c1, c2, c3, c4, c5, rdTx, n2, n3, n4]
  unfold txOf txF
  rw [List.foldl_append, hd, rdTx_trs h7]
  simp
theorem flds_txF {t : D_api_Tx} (h : TxS t) (hl : t.2.2.2.2.2.length ≤ 1000) : flds (encs (txF t)) = (txF t, 0, 0) := by
  have hs := txF_s h
  have hn := hdF_len t
  exact flds_encs _ (by unfold txF; rw [List.length_append, List.length_map]; omega) (fun f hf => ⟨(hs f hf).1, (hs f hf).2.1, by have := (hs f hf).2.2; unfold U64; omega⟩)
end Go.Proofs.YtgfmnpbcbpobbaaDoor.Am
