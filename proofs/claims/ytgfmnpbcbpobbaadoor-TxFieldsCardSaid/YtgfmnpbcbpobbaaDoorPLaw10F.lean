/- Law 10, fields that are changed, on plain data. No conditions. -/
import Derived.Test.YtgfmnpbcbpobbaaDoorPLaw10D
namespace Go.Proofs.YtgfmnpbcbpobbaaDoor.Am
open Go

theorem fields_c1 {l : List Fld} (h : ∀ f ∈ l, FldS 20040 f) (hl : l.length ≤ 400) : Ok (F_mempoollaw10_TxFields_c1 (l.map toF)) (· = true) := by
  have hm := message_ok (m := 20040) (by omega) h (by omega)
  have hle := encs_le (by omega) h
  have h1 := decode_tx (raw := encs l) (by omega)
  have h2 := decode_ref (raw := encs l) (by omega)
  have hs := decT_s (encs l)
  have hok : (decT (encs l)).2 = 0 → encs (txF (decT (encs l)).1) = encs l := fun e => (decT_ok e).2.1
  simp only [F_mempoollaw10_TxFields_c1, hm, h1, h2, sametx_self hs.b, form_ok hs, F_mempoolref1_SameBytes, T_mempoollaw10_known, ok_sel, ok_bind, ok_some, decide_eq_true_eq, decide_eq_false_iff_not, Bool.not_eq_true', Bool.not_eq_false']
  exact ⟨fun _ => ⟨fun _ => ⟨fun _ => trivial, fun e => ⟨fun _ => trivial, fun hc => absurd (hok e) hc⟩⟩, fun hc => (by cases hc)⟩, fun hc => absurd trivial hc⟩
theorem toF_num (f : Fld) (n : Int) : (n, (toF f).2) = toF ⟨n, f.kind, f.val, f.byt⟩ := rfl
theorem fldS_num {f : Fld} {n : Int} {m : Nat} (h : FldS m f) (h1 : 1 ≤ n) (h2 : n ≤ 100) : FldS m ⟨n, f.kind, f.val, f.byt⟩ := by
  obtain ⟨a, b, c⟩ := h
  refine ⟨?_, b, c⟩
  simp only [Fld.ok, decide_eq_true_eq] at a ⊢
  omega
theorem fldS_zero {n k : Int} (h1 : 1 ≤ n) (h2 : n ≤ 100) (hk : k = 0 ∨ k = 2) : FldS 20040 ⟨n, k, 0, []⟩ := by
  refine ⟨?_, by unfold U64; simp, by simp⟩
  simp only [Fld.ok, decide_eq_true_eq]
  rcases hk with rfl | rfl <;> simp <;> omega
theorem set_s {m : Nat} {l : List Fld} (h : ∀ f ∈ l, FldS m f) (i : Nat) {g : Fld} (hg : FldS m g) : ∀ f ∈ l.set i g, FldS m f := fun f hf => by
  rcases List.mem_or_eq_of_mem_set hf with hf | rfl
  · exact h f hf
  · exact hg
theorem ins_s {m : Nat} {l : List Fld} (h : ∀ f ∈ l, FldS m f) (i : Nat) {g : Fld} (hg : FldS m g) : ∀ f ∈ (l.take i ++ [g]) ++ l.drop i, FldS m f := fun f hf => by
  rcases List.mem_append.1 hf with hf | hf
  · rcases List.mem_append.1 hf with hf | hf
    · exact h f (List.mem_of_mem_take hf)
    · simp only [List.mem_singleton] at hf; subst hf; exact hg
  · exact h f (List.mem_of_mem_drop hf)
theorem ins_len {α : Type} (l : List α) (i : Nat) (g : α) : ((l.take i ++ [g]) ++ l.drop i).length = l.length + 1 := by
  simp only [List.length_append, List.length_take, List.length_drop, List.length_cons, List.length_nil]; omega
theorem ins_map (l : List Fld) (i : Nat) (g : Fld) : (List.take i (l.map toF) ++ ([toF g] : List D_api_Field)) ++ List.drop i (l.map toF) = ((l.take i ++ [g]) ++ l.drop i).map toF := by
  simp only [List.map_append, List.map_take, List.map_drop, List.map_cons, List.map_nil]
theorem small_div (b : UInt8) (m : Int) (h0 : 1 ≤ m) (h1 : m ≤ 10) (k : Int) (hk : 1 ≤ k) (hk2 : k ≤ 2) : ∃ n : Int, wi64 (k + Int.tmod (wi64 (wu8 (Int.tdiv ((UInt8.toNat b : Nat) : Int) 5))) m) = n ∧ 1 ≤ n ∧ n ≤ 12 := by
  have hb := u8_range b
  have e1 : Int.tdiv ((UInt8.toNat b : Nat) : Int) 5 = ((UInt8.toNat b : Nat) : Int) / 5 := Int.tdiv_eq_ediv_of_nonneg hb.1
  have e2 : wu8 (((UInt8.toNat b : Nat) : Int) / 5) = ((UInt8.toNat b : Nat) : Int) / 5 := wu8_id (by omega) (by omega)
  have e3 : wi64 (((UInt8.toNat b : Nat) : Int) / 5) = ((UInt8.toNat b : Nat) : Int) / 5 := by rw [wi64_id] <;> omega
  have e4 : Int.tmod (((UInt8.toNat b : Nat) : Int) / 5) m = (((UInt8.toNat b : Nat) : Int) / 5) % m := Int.tmod_eq_emod_of_nonneg (by omega)
  have e5 := Int.emod_nonneg (((UInt8.toNat b : Nat) : Int) / 5) (show m ≠ 0 by omega)
  have e6 := Int.emod_lt_of_pos (((UInt8.toNat b : Nat) : Int) / 5) (show 0 < m by omega)
  refine ⟨_, rfl, ?_⟩
  rw [e1, e2, e3, e4, wi64_id] <;> omega
theorem place_nat (b : UInt8) (n : Nat) (hn : 1 ≤ n) (hn2 : n ≤ 100000) : ∃ x : Nat, Int.tmod (wi64 ((UInt8.toNat b : Nat) : Int)) ((n : Nat) : Int) = ((x : Nat) : Int) ∧ x < n := by
  have hb := u8_range b
  have e3 : wi64 ((UInt8.toNat b : Nat) : Int) = ((UInt8.toNat b : Nat) : Int) := by rw [wi64_id] <;> omega
  have e4 : Int.tmod ((UInt8.toNat b : Nat) : Int) ((n : Nat) : Int) = ((UInt8.toNat b : Nat) : Int) % ((n : Nat) : Int) := Int.tmod_eq_emod_of_nonneg hb.1
  have e5 := Int.emod_nonneg ((UInt8.toNat b : Nat) : Int) (show ((n : Nat) : Int) ≠ 0 by omega)
  have e6 := Int.emod_lt_of_pos ((UInt8.toNat b : Nat) : Int) (show 0 < ((n : Nat) : Int) by omega)
  refine ⟨(((UInt8.toNat b : Nat) : Int) % ((n : Nat) : Int)).toNat, ?_, by omega⟩
  rw [e3, e4]; omega
theorem fields_true (a0 : List Int) (a1 a2 a3 : UInt8) (w0 : wfU (.sl (.int .i64)) a0) (_w1 : wfU .byte a1) (_w2 : wfU .byte a2) (_w3 : wfU .byte a3)
    (_z0 : szU (.sl (.int .i64)) a0) (_z1 : szU .byte a1) (_z2 : szU .byte a2) (_z3 : szU .byte a3) : F_mempoollaw10_TxFields a0 a1 a2 a3 = some true := by
  rw [← ok_eq]
  have hl : a0.length ≤ maxLen := w0.1
  unfold F_mempoollaw10_TxFields
  rw [long10 hl, Option.bind_some, ok_sel]
  refine ⟨fun _ => by rw [T_mempoollaw10_known]; exact ⟨true, rfl, rfl⟩, fun _ => ?_⟩
  rw [ok_bind]
  refine (made_ss (t := ([], (0 : Int), (0 : Int), (0 : Int), [], [])) zero_s (by simp)).mono fun r3 h3 => ?_
  obtain ⟨m1, _, _⟩ := h3
  have hs := m1.s
  have ht3 := m1.2.2.2.2.2.1
  have hle := txF_le hs (n := 3) (by omega)
  have hf := fields_flds (encs (txF r3.1)) (by omega)
  rw [(FSm.fields_same _ (by omega)).1, flds_txF hs (by omega)] at hf
  have hS := txF_s hs
  have hlen : (txF r3.1).length ≤ 8 := by unfold txF; rw [List.length_append, List.length_map]; have := hdF_len r3.1; omega
  rw [form_ok hs, Option.bind_some, hf, Option.bind_some]
  clear hf hle hs m1
  generalize txF r3.1 = l at *
  dsimp only
  rw [ok_sel]
  refine ⟨fun _ => by rw [T_mempoollaw10_known]; exact ⟨true, rfl, rfl⟩, fun h2 => ?_⟩
  have h2 := of_decide_eq_false h2
  rw [List.length_map] at h2
  obtain ⟨x, hx, hxl⟩ := place_nat a1 l.length (by omega) (by omega)
  obtain ⟨y, hy, hyl⟩ := place_nat a2 l.length (by omega) (by omega)
  obtain ⟨n8, hn8, p8, q8⟩ := small_div a3 8 (by omega) (by omega) 1 (by omega) (by omega)
  obtain ⟨n3, hn3, p3, q3⟩ := small_div a3 3 (by omega) (by omega) 2 (by omega) (by omega)
  obtain ⟨n6, hn6, p6, q6⟩ := small_div a3 6 (by omega) (by omega) 1 (by omega) (by omega)
  have gx : List.getD (l.map toF) x d_api_Field = toF l[x] := by rw [getD_lt (by rw [List.length_map]; exact hxl), List.getElem_map]
  have gy : List.getD (l.map toF) y d_api_Field = toF l[y] := by rw [getD_lt (by rw [List.length_map]; exact hyl), List.getElem_map]
  have sx := hS _ (List.getElem_mem hxl)
  have sy := hS _ (List.getElem_mem hyl)
  have z3' : ((n3, (0 : Int), (0 : Int), []) : D_api_Field) = toF ⟨n3, 0, 0, []⟩ := rfl
  have z6' : ((n6, (2 : Int), (0 : Int), []) : D_api_Field) = toF ⟨n6, 2, 0, []⟩ := rfl
  have k1 := fields_c1 (l := (l.set x l[y]).set y l[x]) (set_s (set_s hS x sy) y sx) (by rw [List.length_set, List.length_set]; omega)
  rw [List.map_set, List.map_set] at k1
  have k2 := fields_c1 (ins_s hS x sy) (by rw [ins_len]; omega)
  rw [← ins_map] at k2
  have k3 := fields_c1 (l := l.set x ⟨n8, l[x].kind, l[x].val, l[x].byt⟩) (set_s hS x (fldS_num sx p8 (by omega))) (by rw [List.length_set]; omega)
  rw [List.map_set, ← toF_num] at k3
  have k4 := fields_c1 (ins_s hS x (fldS_zero (n := n3) p3 (by omega) (.inl rfl))) (by rw [ins_len]; omega)
  rw [← ins_map] at k4
  have k5 := fields_c1 (ins_s hS x (fldS_zero (n := n6) p6 (by omega) (.inr rfl))) (by rw [ins_len]; omega)
  rw [← ins_map] at k5
  simp only [List.length_map, hx, hy, hn8, hn3, hn6, Int.toNat_natCast, gx, gy, z3', z6', List.length_set, ok_sel, ok_chk, decide_eq_true_eq, decide_eq_false_iff_not, Bool.not_eq_true', Int.toNat_natCast]
  have tl : List.take l.length (l.map toF) = l.map toF := List.take_of_length_le (by rw [List.length_map]; exact Nat.le_refl _)
  simp only [tl, List.length_append, List.length_take, List.length_drop, List.length_map, List.length_cons, List.length_nil]
  refine ⟨by omega, by omega, ⟨by unfold LIM; omega, by unfold LEN; omega⟩, fun _ => ?_, fun _ => ⟨fun _ => ?_, fun _ => ⟨fun _ => ?_, fun _ => ⟨fun _ => ?_, fun _ => ?_⟩⟩⟩⟩
  all_goals (repeat' first | exact k1 | exact k2 | exact k3 | exact k4 | exact k5 | apply And.intro)
  all_goals first | omega | (unfold LIM; omega) | (unfold LEN; omega)
end Go.Proofs.YtgfmnpbcbpobbaaDoor.Am
