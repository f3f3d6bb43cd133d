/- Transactions as fields, on plain data: what is written. No conditions. -/
import Derived.Test.YtgfmnpbcbpobbaaDoorPWireU
import Derived.Test.YtgfmnpbcbpobbaaDoorPValid
namespace Go.Proofs.YtgfmnpbcbpobbaaDoor.Am
open Go

def fStr (n : Int) (s : List UInt8) : List Fld := if s = [] then [] else [⟨n, 2, 0, s⟩]
def fNum (n : Int) (v : Int) : List Fld := if v = 0 then [] else [⟨n, 0, v.toNat, []⟩]
def trF (x : D_api_Transfer) : List Fld := fStr 1 x.1 ++ fNum 2 x.2
def trFld (x : D_api_Transfer) : Fld := ⟨6, 2, 0, encs (trF x)⟩
def hdF (t : D_api_Tx) : List Fld := fStr 1 t.1 ++ (fNum 2 t.2.1 ++ (fNum 3 t.2.2.1 ++ (fNum 4 t.2.2.2.1 ++ fStr 5 t.2.2.2.2.1)))
def txF (t : D_api_Tx) : List Fld := hdF t ++ t.2.2.2.2.2.map trFld
/-- How large a transaction is that is written. -/
def TrS (x : D_api_Transfer) : Prop := x.1.length ≤ 10000 ∧ u64R x.2
def TxS (t : D_api_Tx) : Prop := t.1.length ≤ 10000 ∧ u64R t.2.1 ∧ u64R t.2.2.1 ∧ u64R t.2.2.2.1 ∧ t.2.2.2.2.1.length ≤ 10000 ∧ t.2.2.2.2.2.length ≤ 2000 ∧ ∀ x ∈ t.2.2.2.2.2, TrS x
/-- A field as it comes up. -/
def FldS (n : Nat) (f : Fld) : Prop := f.ok = true ∧ f.val < U64 ∧ f.byt.length ≤ n
theorem Fld.enc_leS {f : Fld} {n : Nat} (h : FldS n f) (hn : n ≤ 1000000000) : f.enc.length ≤ n + 20 := by
  obtain ⟨h1, h2, h3⟩ := h
  have t1 := enc_len10 f.tag (Fld.tag_lt f h1).1
  have t2 := enc_len10 f.val h2
  have t3 := enc_len10 f.byt.length (by unfold U64; omega)
  unfold Fld.enc
  rw [List.length_append]
  split
  · omega
  · rw [List.length_append]; omega
theorem encs_app (a b : List Fld) : encs (a ++ b) = encs a ++ encs b := by unfold encs; simp
theorem encs_nil : encs [] = [] := rfl
theorem encs_one (f : Fld) : encs [f] = f.enc := by unfold encs; simp
theorem fStr_s {n : Int} {s : List UInt8} {m : Nat} (h1 : 1 ≤ n) (h2 : n ≤ 100) (hs : s.length ≤ m) : ∀ f ∈ fStr n s, FldS m f := by
  intro f hf
  unfold fStr at hf
  split at hf
  · cases hf
  · simp only [List.mem_singleton] at hf; subst hf
    exact ⟨by simp [Fld.ok]; omega, by unfold U64; simp, hs⟩
theorem fNum_s {n v : Int} {m : Nat} (h1 : 1 ≤ n) (h2 : n ≤ 100) (hv : u64R v) : ∀ f ∈ fNum n v, FldS m f := by
  intro f hf
  unfold fNum at hf
  unfold u64R at hv
  split at hf
  · cases hf
  · simp only [List.mem_singleton] at hf; subst hf
    exact ⟨by simp [Fld.ok]; omega, by unfold U64; simp only; omega, by simp⟩
theorem fStr_len (n : Int) (s : List UInt8) : (fStr n s).length ≤ 1 := by unfold fStr; split <;> simp
theorem fNum_len (n v : Int) : (fNum n v).length ≤ 1 := by unfold fNum; split <;> simp
theorem app_s {m : Nat} {a b : List Fld} (ha : ∀ f ∈ a, FldS m f) (hb : ∀ f ∈ b, FldS m f) : ∀ f ∈ a ++ b, FldS m f := fun f hf => by
  rcases List.mem_append.1 hf with hf | hf
  · exact ha f hf
  · exact hb f hf
theorem encs_le {m : Nat} (hm : m ≤ 1000000000) : ∀ {l : List Fld}, (∀ f ∈ l, FldS m f) → (encs l).length ≤ l.length * (m + 20)
  | [], _ => by simp [encs]
  | f :: l, h => by
    have h1 := Fld.enc_leS (h f (by simp)) hm
    have h2 := encs_le hm (l := l) (fun g hg => h g (by simp [hg]))
    rw [encs_cons, List.length_append, List.length_cons, Nat.succ_mul]
    omega
theorem trF_s {x : D_api_Transfer} (h : TrS x) : ∀ f ∈ trF x, FldS 10000 f := app_s (fStr_s (by omega) (by omega) h.1) (fNum_s (by omega) (by omega) h.2)
theorem trF_le {x : D_api_Transfer} (h : TrS x) : (encs (trF x)).length ≤ 20040 := by
  have h1 := encs_le (by omega) (trF_s h)
  have h2 := fStr_len 1 x.1
  have h3 := fNum_len 2 x.2
  unfold trF at h1 ⊢
  rw [List.length_append] at h1
  omega
theorem trFld_s {x : D_api_Transfer} (h : TrS x) : FldS 20040 (trFld x) := ⟨by simp [trFld, Fld.ok], by unfold U64; simp [trFld], trF_le h⟩
theorem hdF_s {t : D_api_Tx} (h : TxS t) : ∀ f ∈ hdF t, FldS 10000 f := by
  obtain ⟨h1, h2, h3, h4, h5, _⟩ := h
  exact app_s (fStr_s (by omega) (by omega) h1) (app_s (fNum_s (by omega) (by omega) h2) (app_s (fNum_s (by omega) (by omega) h3) (app_s (fNum_s (by omega) (by omega) h4) (fStr_s (by omega) (by omega) h5))))
theorem hdF_len (t : D_api_Tx) : (hdF t).length ≤ 5 := by
  have h1 := fStr_len 1 t.1
  have h2 := fNum_len 2 t.2.1
  have h3 := fNum_len 3 t.2.2.1
  have h4 := fNum_len 4 t.2.2.2.1
  have h5 := fStr_len 5 t.2.2.2.2.1
  unfold hdF
  simp only [List.length_append]
  omega
theorem hdF_le {t : D_api_Tx} (h : TxS t) : (encs (hdF t)).length ≤ 50100 := by
  have h1 := encs_le (by omega) (hdF_s h)
  have h2 := hdF_len t
  omega
theorem FldS.mono {m n : Nat} (h : m ≤ n) {f : Fld} (hf : FldS m f) : FldS n f := ⟨hf.1, hf.2.1, by have := hf.2.2; omega⟩
theorem txF_s {t : D_api_Tx} (h : TxS t) : ∀ f ∈ txF t, FldS 20040 f := by
  refine app_s (fun f hf => (hdF_s h f hf).mono (by omega)) fun f hf => ?_
  obtain ⟨x, hx, rfl⟩ := List.mem_map.1 hf
  exact trFld_s (h.2.2.2.2.2.2 x hx)
/-! ### The program's -/
theorem add_str {b s : List UInt8} {n : Int} (h1 : 1 ≤ n) (h2 : n ≤ 100) (hb : b.length ≤ 10000000000) (hs : s.length ≤ 1000000) : F_tx_message_add_string b n s = some (b ++ encs (fStr n s)) := by
  rw [← ok_eq]
  simp only [F_tx_message_add_string, ok_sel, ok_chk, ok_bind, ok_some, decide_eq_true_eq, decide_eq_false_iff_not]
  refine ⟨fun h => ?_, fun h => ⟨by unfold maxLen; omega, ?_⟩⟩
  · unfold fStr; rw [if_pos h, encs_nil, List.append_nil]
  · have hf : FldS 1000000 (⟨n, 2, 0, s⟩ : Fld) := ⟨by simp [Fld.ok]; omega, by unfold U64; simp, hs⟩
    have hw := field_wire [] ⟨n, 2, 0, s⟩ hf.1 hf.2.1 (by simp) (by simp only; omega)
    have hle := Fld.enc_leS hf (by omega)
    have hw' : F_wire_Append [] (n, 2, (0 : Int), s) = some ([] ++ (⟨n, 2, 0, s⟩ : Fld).enc, 0) := hw
    rw [hw', ok_some, List.nil_append]
    dsimp only
    refine ⟨⟨by unfold LIM; omega, by unfold LEN; omega⟩, ?_⟩
    unfold fStr; rw [if_neg h, encs_one]
theorem add_num {b : List UInt8} {n v : Int} (h1 : 1 ≤ n) (h2 : n ≤ 100) (hb : b.length ≤ 10000000000) (hv : u64R v) : F_tx_message_add_uint64 b n v = some (b ++ encs (fNum n v)) := by
  rw [← ok_eq]
  unfold u64R at hv
  simp only [F_tx_message_add_uint64, ok_sel, ok_chk, ok_bind, ok_some, decide_eq_true_eq, decide_eq_false_iff_not]
  refine ⟨fun h => ?_, fun h => ?_⟩
  · unfold fNum; rw [if_pos h, encs_nil, List.append_nil]
  · have hf : FldS 0 (⟨n, 0, v.toNat, []⟩ : Fld) := ⟨by simp [Fld.ok]; omega, by unfold U64; simp only; omega, by simp⟩
    have hw := field_wire [] ⟨n, 0, v.toNat, []⟩ hf.1 hf.2.1 (by simp) (by simp)
    have hle := Fld.enc_leS hf (by omega)
    have hw' : F_wire_Append [] (n, 0, v, []) = some ([] ++ (⟨n, 0, v.toNat, []⟩ : Fld).enc, 0) := by
      rw [← hw]
      unfold toF
      simp only
      rw [show ((v.toNat : Nat) : Int) = v by omega]
    rw [hw', ok_some, List.nil_append]
    dsimp only
    refine ⟨⟨by unfold LIM; omega, by unfold LEN; omega⟩, ?_⟩
    unfold fNum; rw [if_neg h, encs_one]
theorem add_byt {b s : List UInt8} {n : Int} (h1 : 1 ≤ n) (h2 : n ≤ 100) (hb : b.length ≤ 10000000000) (hs : s.length ≤ 1000000) : F_tx_message_add_s_uint8 b n s = some (b ++ (⟨n, 2, 0, s⟩ : Fld).enc) := by
  rw [← ok_eq]
  have hf : FldS 1000000 (⟨n, 2, 0, s⟩ : Fld) := ⟨by simp [Fld.ok]; omega, by unfold U64; simp, hs⟩
  have hw := field_wire [] ⟨n, 2, 0, s⟩ hf.1 hf.2.1 (by simp) (by simp only; omega)
  have hle := Fld.enc_leS hf (by omega)
  have hw' : F_wire_Append [] (n, 2, (0 : Int), s) = some ([] ++ (⟨n, 2, 0, s⟩ : Fld).enc, 0) := hw
  simp only [F_tx_message_add_s_uint8, hw', ok_chk, ok_bind, ok_some, decide_eq_true_eq, List.nil_append]
  exact ⟨⟨by unfold LIM; omega, by unfold LEN; omega⟩, trivial⟩
theorem written_ok {t : D_api_Tx} (h : TxS t) : F_tx_written t = some (encs (txF t)) := by
  rw [← ok_eq]
  have hh := h
  obtain ⟨h1, h2, h3, h4, h5, h6, h7⟩ := h
  have hle := hdF_le hh
  have L : ∀ {a b : List UInt8} {n : Nat}, (a ++ b).length ≤ n → a.length ≤ n := fun h => by rw [List.length_append] at h; omega
  have e0 : encs (hdF t) = ((((encs (fStr 1 t.1) ++ encs (fNum 2 t.2.1)) ++ encs (fNum 3 t.2.2.1)) ++ encs (fNum 4 t.2.2.2.1)) ++ encs (fStr 5 t.2.2.2.2.1)) := by
    unfold hdF; simp only [encs_app, List.append_assoc]
  rw [e0] at hle
  have w1 := add_str (b := []) (n := 1) (s := t.1) (by omega) (by omega) (by simp) (by omega)
  rw [List.nil_append] at w1
  have w2 := add_num (b := encs (fStr 1 t.1)) (n := 2) (by omega) (by omega) (by have := L (L (L (L hle))); omega) h2
  have w3 := add_num (b := encs (fStr 1 t.1) ++ encs (fNum 2 t.2.1)) (n := 3) (by omega) (by omega) (by have := L (L (L hle)); omega) h3
  have w4 := add_num (b := (encs (fStr 1 t.1) ++ encs (fNum 2 t.2.1)) ++ encs (fNum 3 t.2.2.1)) (n := 4) (by omega) (by omega) (by have := L (L hle); omega) h4
  have w5 := add_str (b := ((encs (fStr 1 t.1) ++ encs (fNum 2 t.2.1)) ++ encs (fNum 3 t.2.2.1)) ++ encs (fNum 4 t.2.2.2.1)) (n := 5) (s := t.2.2.2.2.1) (by omega) (by omega) (by have := L hle; omega) (by omega)
  unfold F_tx_written
  rw [w1, Option.bind_some, w2, Option.bind_some, w3, Option.bind_some, w4, Option.bind_some, w5, Option.bind_some, ← e0]
  rw [← e0] at hle
  unfold F_tx_written_l1s
  refine ok_range t.2.2.2.2.2 (fun i (b : List UInt8) => (t.2.2.2.2.2, ((t.2.2.2.2.2.length : Nat) : Int), ((i : Nat) : Int), b)) (fun i b => i ≤ t.2.2.2.2.2.length ∧ b = encs (hdF t ++ (t.2.2.2.2.2.take i).map trFld) ∧ b.length ≤ 50100 + i * 20060) (fun i b hi hv => ?_) (fun b hv => ?_) ⟨Nat.zero_le _, by simp, by omega⟩ (by omega)
  · obtain ⟨v1, v2, v3⟩ := hv
    have hx := h7 _ (List.getElem_mem hi)
    have htl := trF_le hx
    have q1 := add_str (b := []) (n := 1) (s := (t.2.2.2.2.2[i]).1) (by omega) (by omega) (by simp) (by have := hx.1; omega)
    rw [List.nil_append] at q1
    have e1 : encs (trF t.2.2.2.2.2[i]) = encs (fStr 1 (t.2.2.2.2.2[i]).1) ++ encs (fNum 2 (t.2.2.2.2.2[i]).2) := by unfold trF; rw [encs_app]
    have q2 := add_num (b := encs (fStr 1 (t.2.2.2.2.2[i]).1)) (n := 2) (by omega) (by omega) (by rw [e1] at htl; have := L htl; omega) hx.2
    rw [← e1] at q2
    have q3 := add_byt (b := b) (n := 6) (s := encs (trF t.2.2.2.2.2[i])) (by omega) (by omega) (by omega) (by omega)
    have q4 := Fld.enc_leS (trFld_s hx) (by omega)
    simp only [F_tx_written_l1, ok_sel, ok_chk, ok_bind, ok_some, nxt_inl, nxt_inr, decide_eq_true_eq, decide_eq_false_iff_not, Int.toNat_natCast, getD_lt hi, q1, q2, q3, wi_succ (i := i) (by omega)]
    refine ⟨fun _ => ⟨by omega, _, rfl, by omega, ?_, ?_⟩, fun hc => absurd hc (by omega)⟩
    · rw [take_succ' hi, List.map_append, ← List.append_assoc, encs_app, ← v2, List.map_cons, List.map_nil, encs_one]; rfl
    · rw [List.length_append, Nat.succ_mul]
      have q4' : (⟨6, 2, 0, encs (trF t.2.2.2.2.2[i])⟩ : Fld).enc.length ≤ 20040 + 20 := q4
      omega
  · obtain ⟨v1, v2, v3⟩ := hv
    simp only [F_tx_written_l1, ok_sel, ok_chk, ok_bind, ok_some, nxt_inl, nxt_inr, decide_eq_true_eq, decide_eq_false_iff_not, Int.toNat_natCast]
    refine ⟨fun hc => absurd hc (by omega), fun _ => ?_⟩
    rw [v2, List.take_length]; rfl
/-! ### The reference's -/
theorem text_ok {l : List D_api_Field} {n : Int} {s : List UInt8} (hl : l.length ≤ 100000) (hs : s.length ≤ 1000000) : F_mempoolref10_text l n s = some (l ++ (fStr n s).map toF) := by
  rw [← ok_eq]
  simp only [F_mempoolref10_text, ok_sel, ok_chk, ok_some, decide_eq_true_eq, decide_eq_false_iff_not]
  refine ⟨fun h => ?_, fun h => ⟨by unfold maxLen; omega, ⟨by unfold LIM; omega, by unfold LEN; omega⟩, ?_⟩⟩
  · unfold fStr; rw [if_pos h, List.map_nil, List.append_nil]
  · unfold fStr; rw [if_neg h]; rfl
theorem number_ok' {l : List D_api_Field} {n v : Int} (hl : l.length ≤ 100000) (hv : u64R v) : F_mempoolref10_number l n v = some (l ++ (fNum n v).map toF) := by
  rw [← ok_eq]
  unfold u64R at hv
  simp only [F_mempoolref10_number, ok_sel, ok_chk, ok_some, decide_eq_true_eq, decide_eq_false_iff_not]
  refine ⟨fun h => ?_, fun h => ⟨⟨by unfold LIM; omega, by unfold LEN; omega⟩, ?_⟩⟩
  · unfold fNum; rw [if_pos h, List.map_nil, List.append_nil]
  · unfold fNum; rw [if_neg h]
    simp only [List.map_cons, List.map_nil, toF]
    rw [show ((v.toNat : Nat) : Int) = v by omega]
theorem message_ok {l : List Fld} {m : Nat} (hm : m ≤ 1000000) (h : ∀ f ∈ l, FldS m f) (hl : l.length ≤ 10000) : F_mempoolref4_Message (l.map toF) = some (encs l) := by
  rw [← ok_eq]
  unfold F_mempoolref4_Message F_mempoolref4_Message_l1s
  have hlen : (l.map toF).length = l.length := List.length_map ..
  refine ok_range (l.map toF) (fun i (b : List UInt8) => (l.map toF, (((l.map toF).length : Nat) : Int), ((i : Nat) : Int), b)) (fun i b => i ≤ l.length ∧ b = encs (l.take i) ∧ b.length ≤ i * 1000020) (fun i b hi hv => ?_) (fun b hv => ?_) ⟨Nat.zero_le _, by simp [encs], by simp⟩ (by omega)
  · obtain ⟨v1, v2, v3⟩ := hv
    have hi' : i < l.length := by omega
    have hf := h _ (List.getElem_mem hi')
    have q := field_ref b l[i] hf.1 hf.2.1 (by omega) (by have := hf.2.2; omega)
    have q2 := Fld.enc_leS hf (by omega)
    have q3 : List.getD (l.map toF) i d_api_Field = toF l[i] := by rw [getD_lt hi, List.getElem_map]
    simp only [F_mempoolref4_Message_l1, ok_sel, ok_chk, ok_bind, ok_some, nxt_inl, nxt_inr, decide_eq_true_eq, decide_eq_false_iff_not, Int.toNat_natCast, q3, q, wi_succ (i := i) (by omega)]
    refine ⟨fun _ => ⟨by omega, _, rfl, by omega, ?_, ?_⟩, fun hc => absurd hc (by omega)⟩
    · rw [take_succ' hi', encs_app, ← v2, encs_one]
    · rw [List.length_append, Nat.succ_mul]; omega
  · obtain ⟨v1, v2, v3⟩ := hv
    simp only [F_mempoolref4_Message_l1, ok_sel, ok_chk, ok_bind, ok_some, nxt_inl, nxt_inr, decide_eq_true_eq, decide_eq_false_iff_not, Int.toNat_natCast]
    refine ⟨fun hc => absurd hc (by omega), fun _ => ?_⟩
    rw [v2, hlen, List.take_length]
theorem form_ok {t : D_api_Tx} (h : TxS t) : F_mempoolref10_Form t = some (encs (txF t)) := by
  rw [← ok_eq]
  have hh := h
  obtain ⟨h1, h2, h3, h4, h5, h6, h7⟩ := h
  have hn := hdF_len t
  have e0 : (hdF t).map toF = (((((fStr 1 t.1).map toF ++ (fNum 2 t.2.1).map toF) ++ (fNum 3 t.2.2.1).map toF) ++ (fNum 4 t.2.2.2.1).map toF) ++ (fStr 5 t.2.2.2.2.1).map toF) := by
    unfold hdF; simp only [List.map_append, List.append_assoc]
  have hle : (((((fStr 1 t.1).map toF ++ (fNum 2 t.2.1).map toF) ++ (fNum 3 t.2.2.1).map toF) ++ (fNum 4 t.2.2.2.1).map toF) ++ (fStr 5 t.2.2.2.2.1).map toF).length ≤ 5 := by rw [← e0, List.length_map]; exact hn
  have L : ∀ {a b : List D_api_Field} {n : Nat}, (a ++ b).length ≤ n → a.length ≤ n := fun h => by rw [List.length_append] at h; omega
  have w1 := text_ok (l := []) (n := 1) (s := t.1) (by simp) (by omega)
  rw [List.nil_append] at w1
  have w2 := number_ok' (l := (fStr 1 t.1).map toF) (n := 2) (by have := L (L (L (L hle))); omega) h2
  have w3 := number_ok' (l := (fStr 1 t.1).map toF ++ (fNum 2 t.2.1).map toF) (n := 3) (by have := L (L (L hle)); omega) h3
  have w4 := number_ok' (l := ((fStr 1 t.1).map toF ++ (fNum 2 t.2.1).map toF) ++ (fNum 3 t.2.2.1).map toF) (n := 4) (by have := L (L hle); omega) h4
  have w5 := text_ok (l := (((fStr 1 t.1).map toF ++ (fNum 2 t.2.1).map toF) ++ (fNum 3 t.2.2.1).map toF) ++ (fNum 4 t.2.2.2.1).map toF) (n := 5) (s := t.2.2.2.2.1) (by have := L hle; omega) (by omega)
  unfold F_mempoolref10_Form
  rw [w1, Option.bind_some, w2, Option.bind_some, w3, Option.bind_some, w4, Option.bind_some, w5, Option.bind_some, ← e0]
  unfold F_mempoolref10_Form_l1s
  refine ok_range t.2.2.2.2.2 (fun i (b : List D_api_Field) => (t.2.2.2.2.2, ((t.2.2.2.2.2.length : Nat) : Int), ((i : Nat) : Int), b)) (fun i b => i ≤ t.2.2.2.2.2.length ∧ b = (hdF t ++ (t.2.2.2.2.2.take i).map trFld).map toF) (fun i b hi hv => ?_) (fun b hv => ?_) ⟨Nat.zero_le _, by simp⟩ (by omega)
  · obtain ⟨v1, v2⟩ := hv
    have hx := h7 _ (List.getElem_mem hi)
    have q1 := text_ok (l := []) (n := 1) (s := (t.2.2.2.2.2[i]).1) (by simp) (by have := hx.1; omega)
    rw [List.nil_append] at q1
    have q2 := number_ok' (l := (fStr 1 (t.2.2.2.2.2[i]).1).map toF) (n := 2) (by rw [List.length_map]; have := fStr_len 1 (t.2.2.2.2.2[i]).1; omega) hx.2
    rw [← List.map_append] at q2
    have q3 := message_ok (l := trF t.2.2.2.2.2[i]) (by omega) (trF_s hx) (by unfold trF; rw [List.length_append]; have := fStr_len 1 (t.2.2.2.2.2[i]).1; have := fNum_len 2 (t.2.2.2.2.2[i]).2; omega)
    have q3' : F_mempoolref4_Message (List.map toF (fStr 1 (t.2.2.2.2.2[i]).1 ++ fNum 2 (t.2.2.2.2.2[i]).2)) = some (encs (trF t.2.2.2.2.2[i])) := q3
    have hbl : b.length ≤ 5 + i := by
      rw [v2, List.length_map, List.length_append, List.length_map, List.length_take]; omega
    simp only [F_mempoolref10_Form_l1, ok_sel, ok_chk, ok_bind, ok_some, ok_map, nxt_inl, nxt_inr, decide_eq_true_eq, decide_eq_false_iff_not, Int.toNat_natCast, getD_lt hi, q1, q2, q3', wi_succ (i := i) (by omega)]
    refine ⟨fun _ => ⟨by omega, ⟨by unfold LIM; omega, by unfold LEN; omega⟩, _, rfl, by omega, ?_⟩, fun hc => absurd hc (by omega)⟩
    rw [take_succ' hi, List.map_append (f := trFld), ← List.append_assoc, List.map_append (f := toF), ← v2]; rfl
  · obtain ⟨v1, v2⟩ := hv
    rw [List.take_length] at v2
    have q := message_ok (l := txF t) (by omega) (txF_s hh) (by unfold txF; rw [List.length_append, List.length_map]; omega)
    have q' : F_mempoolref4_Message b = some (encs (txF t)) := by rw [v2]; exact q
    simp only [F_mempoolref10_Form_l1, ok_sel, ok_chk, ok_bind, ok_some, ok_map, nxt_inl, nxt_inr, decide_eq_true_eq, decide_eq_false_iff_not, Int.toNat_natCast, q']
    exact ⟨fun hc => absurd hc (by omega), fun _ => trivial⟩
end Go.Proofs.YtgfmnpbcbpobbaaDoor.Am
