/- Decoding, on plain data: the program's and the reference's. No conditions. -/
import Derived.Test.YtgfmnpbcbpobbaaDoorPMadeN
import Derived.Test.YtgfmnpbcbpobbaaDoorPFieldsSame
namespace Go.Proofs.YtgfmnpbcbpobbaaDoor.Am
open Go

theorem fld_byt_le {f : Fld} (h : f.ok = true) : f.byt.length ≤ f.enc.length := by
  simp only [Fld.ok, decide_eq_true_eq] at h
  unfold Fld.enc
  rw [List.length_append]
  split
  · omega
  · rw [List.length_append]; omega
theorem byt_le_encsA : ∀ {l : List Fld}, (∀ f ∈ l, f.ok = true) → ∀ f ∈ l, f.byt.length ≤ (encs l).length
  | g :: l, h, f, hf => by
    rw [encs_cons, List.length_append]
    rcases List.mem_cons.1 hf with rfl | hf
    · have := fld_byt_le (h f (by simp)); omega
    · have := byt_le_encsA (fun q hq => h q (by simp [hq])) f hf; omega
theorem flds_facts (b : List UInt8) : ∀ f ∈ (flds b).1, f.ok = true ∧ f.val < U64 ∧ f.byt.length ≤ b.length := by
  have h := flds_inv b
  by_cases h0 : (flds b).2.2 = 0
  · obtain ⟨_, h2, h3, _⟩ := h.1 h0
    intro f hf
    have := byt_le_encsA (fun q hq => (h3 q hq).1) f hf
    rw [h2] at this
    exact ⟨(h3 f hf).1, (h3 f hf).2, this⟩
  · rw [(h.2 h0).1]; intro f hf; cases hf
theorem rdTr_fold : ∀ (l : List Fld) (x : D_api_Transfer), (∀ f ∈ l, f.val < U64 ∧ f.byt.length ≤ 10000) → TrS x → TrS (l.foldl rdTr x)
  | [], _, _, h => h
  | f :: l, x, hf, h => by
    refine rdTr_fold l (rdTr x f) (fun g hg => hf g (by simp [hg])) ?_
    have h1 := hf f (by simp)
    unfold U64 at h1
    unfold rdTr
    split
    · exact ⟨h1.2, h.2⟩
    split
    · exact ⟨h.1, by unfold u64R; simp only; omega⟩
    · exact h
theorem trOf_s {b : List UInt8} (hb : b.length ≤ 10000) : TrS (trOf b) := by
  refine rdTr_fold _ _ (fun f hf => ?_) ⟨by simp, by decide, by decide⟩
  have := flds_facts b f hf
  exact ⟨this.2.1, by omega⟩
def TxK (k : Nat) (t : D_api_Tx) : Prop := t.1.length ≤ 10000 ∧ u64R t.2.1 ∧ u64R t.2.2.1 ∧ u64R t.2.2.2.1 ∧ t.2.2.2.2.1.length ≤ 10000 ∧ t.2.2.2.2.2.length ≤ k ∧ ∀ x ∈ t.2.2.2.2.2, TrS x
theorem rdTx_fold : ∀ (l : List Fld) (t : D_api_Tx) (k : Nat), (∀ f ∈ l, f.val < U64 ∧ f.byt.length ≤ 10000) → TxK k t → TxK (k + l.length) (l.foldl rdTx t)
  | [], _, _, _, h => h
  | f :: l, t, k, hf, h => by
    have h1 := hf f (by simp)
    unfold U64 at h1
    have hv : u64R ((f.val : Nat) : Int) := by unfold u64R; omega
    have ih := rdTx_fold l (rdTx t f) (k + 1) (fun g hg => hf g (by simp [hg])) (by
      obtain ⟨a1, a2, a3, a4, a5, a6, a7⟩ := h
      unfold rdTx
      split
      · exact ⟨h1.2, a2, a3, a4, a5, Nat.le_succ_of_le a6, a7⟩
      split
      · exact ⟨a1, hv, a3, a4, a5, Nat.le_succ_of_le a6, a7⟩
      split
      · exact ⟨a1, a2, hv, a4, a5, Nat.le_succ_of_le a6, a7⟩
      split
      · exact ⟨a1, a2, a3, hv, a5, Nat.le_succ_of_le a6, a7⟩
      split
      · exact ⟨a1, a2, a3, a4, h1.2, Nat.le_succ_of_le a6, a7⟩
      split
      · refine ⟨a1, a2, a3, a4, a5, by simp only [List.length_append, List.length_cons, List.length_nil]; omega, fun x hx => ?_⟩
        rcases List.mem_append.1 hx with hx | hx
        · exact a7 x hx
        · simp only [List.mem_singleton] at hx; subst hx; exact trOf_s h1.2
      · exact ⟨a1, a2, a3, a4, a5, Nat.le_succ_of_le a6, a7⟩)
    rw [List.foldl_cons, List.length_cons, show k + (l.length + 1) = k + 1 + l.length by omega]
    exact ih
theorem txOf_s {l : List Fld} (hl : l.length ≤ 2000) (h : ∀ f ∈ l, f.val < U64 ∧ f.byt.length ≤ 10000) : TxS (txOf l) := by
  have := rdTx_fold l zeroTx 0 h ⟨by simp [zeroTx], ⟨by decide, by decide⟩, ⟨by decide, by decide⟩, ⟨by decide, by decide⟩, by simp [zeroTx], by simp [zeroTx], by simp [zeroTx]⟩
  obtain ⟨a1, a2, a3, a4, a5, a6, a7⟩ := this
  exact ⟨a1, a2, a3, a4, a5, by unfold txOf; omega, a7⟩
theorem TxS.b {t : D_api_Tx} (h : TxS t) : TxB t := by
  obtain ⟨a1, _, _, _, a5, a6, a7⟩ := h
  exact ⟨by omega, by omega, by omega, fun x hx => by have := (a7 x hx).1; omega⟩
theorem TxS.n {t : D_api_Tx} (h : TxS t) : TxN t := by
  obtain ⟨_, a2, a3, a4, _, _, a7⟩ := h
  exact ⟨a2, a3, a4, fun x hx => (a7 x hx).2⟩
theorem encs_inj {L : List Fld} {raw : List UInt8} (hL : ∀ f ∈ L, f.ok = true ∧ f.val < U64 ∧ f.byt.length < U64) (h : encs L = raw) (h0 : (flds raw).2.2 = 0) : (flds raw).1 = L := by
  subst h
  rcases Nat.lt_or_ge 1024 L.length with hl | hl
  · have := fldsF_full L ((encs L).length + 1) 0 [] (by omega) (by simp) (by simpa using hl) hL
    rw [flds, this] at h0
    cases h0
  · rw [flds_encs L hl hL]
/-- 'Decode'. -/
def decT (raw : List UInt8) : D_api_Tx × Int :=
  if 4096 < raw.length then (zeroTx, 3) else if (flds raw).2.2 ≠ 0 then (zeroTx, 4) else if encs (txF (txOf (flds raw).1)) = raw then
    (if validTx (txOf (flds raw).1) = 0 then (txOf (flds raw).1, 0) else (zeroTx, validTx (txOf (flds raw).1))) else (zeroTx, 4)
theorem raw_s {raw : List UInt8} (h : raw.length ≤ 4096) : TxS (txOf (flds raw).1) := txOf_s (by have := flds_len raw; omega) (fun f hf => by have := flds_facts raw f hf; exact ⟨this.2.1, by omega⟩)
theorem decode_tx {raw : List UInt8} (hraw : raw.length ≤ 10000000) : F_tx_Decode raw = some (decT raw) := by
  rw [← ok_eq]
  unfold decT
  have hz : (([], (0 : Int), (0 : Int), (0 : Int), [], []) : D_api_Tx) = zeroTx := rfl
  by_cases h : 4096 < raw.length
  · rw [if_pos h]
    simp only [F_tx_Decode, ok_sel, ok_bind, ok_some, decide_eq_true_eq, decide_eq_false_iff_not, Bool.not_eq_true', Bool.not_eq_false', hz]
    exact ⟨fun _ => trivial, fun hc => absurd hc (by omega)⟩
  · rw [if_neg h]
    have hs := raw_s (raw := raw) (by omega)
    have hr := read_ok (flds raw).1 (by have := flds_len raw; omega) (fun f hf => by have := flds_facts raw f hf; omega)
    simp only [F_tx_Decode, ok_sel, ok_bind, ok_some, decide_eq_true_eq, decide_eq_false_iff_not, Bool.not_eq_true', Bool.not_eq_false', hz, fields_flds raw (by omega), hr, written_ok hs, F_bytes_Equal, valid_tx hs.b]
    refine ⟨fun hc => absurd hc (by omega), fun _ => ⟨fun h1 => ?_, fun h1 => ⟨fun h2 => ?_, fun h2 => ⟨fun h3 => ?_, fun h3 => ?_⟩⟩⟩⟩
    · rw [if_pos (by omega)]
    · rw [if_neg (by omega), if_neg h2]
    · rw [if_neg (by omega), if_pos h2, if_neg h3]
    · rw [if_neg (by omega), if_pos h2, if_pos h3]
/-! ### The reference's -/
def okTr (f : Fld) : Prop := (f.num = 1 ∧ f.kind = 2) ∨ (f.num = 2 ∧ f.kind = 0)
instance (f : Fld) : Decidable (okTr f) := by unfold okTr; infer_instance
def refTr (b : List UInt8) : Bool := (flds b).1.all (fun f => decide (okTr f)) && (decide ((flds b).2.2 = 0) && decide (encs (trF (trOf b)) = b))
theorem all_no {l : List Fld} {p : Fld → Bool} {i : Nat} (h : i < l.length) (hn : p l[i] = false) : l.all p = false := by
  rw [List.all_eq_false]
  exact ⟨l[i], List.getElem_mem h, by simp [hn]⟩
theorem all_yes {l : List Fld} {p : Fld → Bool} (h : ∀ j (hj : j < l.length), p l[j] = true) : l.all p = true := by
  rw [List.all_eq_true]
  intro x hx
  obtain ⟨j, hj, rfl⟩ := List.mem_iff_getElem.1 hx
  exact h j hj
theorem ref_transfer {b : List UInt8} (hb : b.length ≤ 10000) : Ok (F_mempoolref10_transfer b) fun r => r.2 = refTr b ∧ (refTr b = true → r.1 = trOf b) := by
  have hl := flds_len b
  have hs := trOf_s hb
  have hf := fields_flds b (by omega)
  rw [(FSm.fields_same b (by omega)).1] at hf
  unfold F_mempoolref10_transfer
  rw [hf, Option.bind_some]
  have hT : trOf b = (flds b).1.foldl rdTr ([], 0) := rfl
  have hR : refTr b = ((flds b).1.all (fun f => decide (okTr f)) && (decide ((flds b).2.2 = 0) && decide (encs (trF (trOf b)) = b))) := rfl
  generalize hq : (flds b).1 = l at *
  generalize (flds b).2.2 = err at *
  have hm : (l.map toF).length = l.length := List.length_map ..
  unfold F_mempoolref10_transfer_l2s
  refine ok_range (l.map toF) (fun i (x : D_api_Transfer) => (b, ((err : Nat) : Int), (((l.map toF).length : Nat) : Int), ((i : Nat) : Int), (([], (0 : Int)) : D_api_Transfer), x, l.map toF)) (fun i x => (∀ j (hj : j < l.length), j < i → okTr l[j]) ∧ (l.drop i).foldl rdTr x = trOf b) (fun i x hi hv => ?_) (fun x hv => ?_) ⟨fun j hj h => by omega, by rw [hT]; rfl⟩ (by omega)
  · obtain ⟨hv1, hv2⟩ := hv
    have hi' : i < l.length := by omega
    have q3 : List.getD (l.map toF) i d_api_Field = toF l[i] := by rw [getD_lt hi, List.getElem_map]
    have qn : (toF l[i]).1 = l[i].num := rfl
    have qk : (toF l[i]).2.1 = l[i].kind := rfl
    rw [List.drop_eq_getElem_cons hi', List.foldl_cons] at hv2
    have no : ¬ okTr l[i] → ∀ y : D_api_Transfer, (false = refTr b ∧ (refTr b = true → y = trOf b)) := fun hn y => by
      have e : refTr b = false := by rw [hR, all_no hi' (by simpa using hn)]; rfl
      rw [e]; exact ⟨rfl, fun h => by cases h⟩
    have yes : okTr l[i] → ∀ y : D_api_Transfer, y = rdTr x l[i] → ∃ b' : D_api_Transfer, ((b, ((err : Nat) : Int), (((l.map toF).length : Nat) : Int), ((i + 1 : Nat) : Int), (([], (0 : Int)) : D_api_Transfer), y, l.map toF) : List UInt8 × Int × Int × Int × D_api_Transfer × D_api_Transfer × List D_api_Field) = (b, ((err : Nat) : Int), (((l.map toF).length : Nat) : Int), ((i + 1 : Nat) : Int), (([], (0 : Int)) : D_api_Transfer), b', l.map toF) ∧ (∀ j (hj : j < l.length), j < i + 1 → okTr l[j]) ∧ (l.drop (i + 1)).foldl rdTr b' = trOf b := fun ho y hy => by
      refine ⟨y, rfl, fun j hj hlt => ?_, by rw [hy]; exact hv2⟩
      by_cases e : j = i
      · subst e; exact ho
      · exact hv1 j hj (by omega)
    simp only [F_mempoolref10_transfer_l2, F_mempoolref10_transfer_c3, F_mempoolref10_transfer_c4, ok_sel, ok_chk, ok_some, ok_map, nxt_inl, nxt_inr, decide_eq_true_eq, decide_eq_false_iff_not, Int.toNat_natCast, q3, qn, qk, wi_succ (i := i) (by omega)]
    refine ⟨fun _ => ⟨by omega, by omega, fun h1 => ⟨fun h2 => ?_, fun h2 => ⟨fun h3 => ?_, fun h3 => ⟨fun h4 => ?_, fun h4 => ?_⟩⟩⟩, fun h1 => ⟨fun h2 => ?_, fun h2 => ⟨fun h3 => ⟨fun h4 => ?_, fun h4 => ?_⟩, fun h3 => ⟨fun h4 => ?_, fun h4 => ?_⟩⟩⟩⟩, fun hc => absurd hc (by omega)⟩
    all_goals first
      | (exfalso; omega)
      | contradiction
      | exact no (by unfold okTr; omega) _
      | (refine yes (by unfold okTr; omega) _ ?_; unfold rdTr; rw [if_pos h1]; rfl)
      | (refine yes (by unfold okTr; omega) _ ?_; unfold rdTr; rw [if_neg h1, if_pos h3]; rfl)
      | skip
  · obtain ⟨hv1, hv2⟩ := hv
    rw [hm, List.drop_length] at hv2
    have hx : x = trOf b := hv2
    subst hx
    have hall : l.all (fun f => decide (okTr f)) = true := all_yes fun j hj => by simpa using hv1 j hj (by omega)
    have q1 := text_ok (l := []) (n := 1) (s := (trOf b).1) (by simp) (by have := hs.1; omega)
    rw [List.nil_append] at q1
    have q2 := number_ok' (l := (fStr 1 (trOf b).1).map toF) (n := 2) (by rw [List.length_map]; have := fStr_len 1 (trOf b).1; omega) hs.2
    rw [← List.map_append] at q2
    have q4 := message_ok (l := trF (trOf b)) (by omega) (trF_s hs) (by unfold trF; rw [List.length_append]; have := fStr_len 1 (trOf b).1; have := fNum_len 2 (trOf b).2; omega)
    have q4' : F_mempoolref4_Message (List.map toF (fStr 1 (trOf b).1 ++ fNum 2 (trOf b).2)) = some (encs (trF (trOf b))) := q4
    simp only [F_mempoolref10_transfer_l2, F_mempoolref10_transfer_c1, ok_sel, ok_chk, ok_bind, ok_some, ok_map, nxt_inr, decide_eq_true_eq, decide_eq_false_iff_not, Int.toNat_natCast, q1, q2, q4', F_mempoolref1_SameBytes]
    refine ⟨fun hc => absurd hc (by omega), fun _ => ⟨fun h1 => ⟨?_, fun _ => trivial⟩, fun h1 => ⟨?_, fun _ => trivial⟩⟩⟩
    · rw [hR, hall, decide_eq_true (show err = 0 by omega)]; rfl
    · rw [hR, hall, decide_eq_false (show ¬ err = 0 by omega)]; rfl
def okTx (f : Fld) : Prop := (f.num = 1 ∧ f.kind = 2) ∨ (f.num = 2 ∧ f.kind = 0) ∨ (f.num = 3 ∧ f.kind = 0) ∨ (f.num = 4 ∧ f.kind = 0) ∨ (f.num = 5 ∧ f.kind = 2) ∨ (f.num = 6 ∧ f.kind = 2 ∧ refTr f.byt = true)
instance (f : Fld) : Decidable (okTx f) := by unfold okTx; infer_instance
end Go.Proofs.YtgfmnpbcbpobbaaDoor.Am
