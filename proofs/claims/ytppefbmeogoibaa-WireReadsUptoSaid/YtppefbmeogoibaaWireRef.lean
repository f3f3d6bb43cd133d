/- The walks of the references' fields. -/
import Derived.Test.YtppefbmeogoibaaWire
import Derived.Test.YtppefbmeogoibaaVarRef
namespace Go.Proofs.Ytppefbmeogoibaa
open Go.RowKit

set_option maxHeartbeats 400000 in
set_option maxRecDepth 100000 in
theorem right_any {S : Nat → Prop} {A : Option Addr} {n c : Nat} {f : Fld} (w : World) (h : FldIs w S A n c f) :
    Calls Try.prog 32 #[.agg #[.int .i64 f.num, .int .i64 f.kind, .int .u64 f.val, .slice A n c]] w fun e w' => e = .returned (.bool f.ok) ∧ Below w.heap.size w w' := by
  have hn := h.sl.len
  unfold Fld.ok
  rw [← hn]
  clear hn h
  obtain ⟨x, y, z, b⟩ := f
  simp only
  go_enter Try.func32, Try.ntmps32
  go_wp2
  all_goals (go_ret; exact ⟨ret_bool (by rw [Bool.eq_iff_iff]; simp; omega), Grw.alloc (Below.refl _ _) _⟩)
set_option maxHeartbeats 400000 in
set_option maxRecDepth 100000 in
theorem field_no {S : Nat → Prop} {A A' : Option Addr} {n c n' c' : Nat} {f : Fld} (w : World) (h : FldIs w S A n c f) (hok : f.ok = false) :
    Calls Try.prog 22 #[.slice A' n' c', .agg #[.int .i64 f.num, .int .i64 f.kind, .int .u64 f.val, .slice A n c]] w fun e w' => e = .returned (.tuple #[.slice none 0 0, .int .i64 1]) ∧ Below w.heap.size w w' := by
  go_enter Try.func22, Try.ntmps22
  go_wp2_with fail
  refine (right_any _ (h.keep (Same.alloc _ _ _))).mono ?_
  rintro e w1 ⟨rfl, hb1⟩
  rw [hok]
  go_wp2_with fail
  go_ret2
  exact ⟨rfl, Grw.step (Grw.alloc (Below.refl _ _) _) hb1⟩
set_option maxHeartbeats 400000 in
set_option maxRecDepth 100000 in
theorem field_any {S S' : Nat → Prop} {A A' : Option Addr} {n c n' c' : Nat} {f : Fld} {l : List UInt8} (w : World) (hl : Sl Rep.u8 w S' A' n' c' l) (h : FldIs w S A n c f) (hok : f.ok = true) (hn' : n' ≤ 549755813888) (hn : n ≤ 274877906944) :
    Calls Try.prog 22 #[.slice A' n' c', .agg #[.int .i64 f.num, .int .i64 f.kind, .int .u64 f.val, .slice A n c]] w fun e w' => ∃ A2 n2 c2, e = .returned (.tuple #[.slice A2 n2 c2, .int .i64 0]) ∧ Own Rep.u8 5 w' w.heap.size No (.slice A2 n2 c2) n2 (l ++ f.enc) ∧ Below w.heap.size w w' := by
  go_enter Try.func22, Try.ntmps22
  go_wp2_with fail
  refine (right_any _ (h.keep (Same.alloc _ _ _))).mono ?_
  rintro e w1 ⟨rfl, hb1⟩
  rw [hok]
  have hbox := (Box.new w 41 [.int .i64 f.num, .int .i64 f.kind, .int .u64 f.val, .slice A n c] rfl).below hb1
  have g1 : Below w.heap.size w w1 := Grw.step (Grw.alloc (Below.refl _ _) _) hb1
  clear hb1
  have k0 := hbox.cell 0 rfl
  have k1 := hbox.cell 1 rfl
  have k2 := hbox.cell 2 rfl
  have k3 := hbox.cell 3 rfl
  have htl := (Fld.tag_lt f hok).1
  have Htl := Lib.hid htl; clear htl
  have hkind : f.kind = 0 ∨ f.kind = 2 := by simp only [Fld.ok, decide_eq_true_eq] at hok; omega
  have Henc : Hid (f.enc = enc f.tag ++ if f.kind = 0 then enc f.val else enc f.byt.length ++ f.byt) := Lib.hid rfl
  have g2 := g1
  have htag := Lib.hid (Fld.tag_lt f hok).2.1
  have hb4 : 1 ≤ f.num ∧ f.num ≤ 536870911 ∧ 0 ≤ f.kind ∧ f.kind ≤ 2 := by simp only [Fld.ok, decide_eq_true_eq] at hok; omega
  obtain ⟨x1, x2, x3, x4⟩ := hb4
  go_wp2_with fail
  rw [show f.num * 8 + f.kind = (f.tag : Int) from by have := htag.out; omega]
  refine (rappend_any _ (hl.keep (Same.below g2)) (by omega) f.tag Htl.out).mono ?_
  rintro e w3 ⟨A3, n3, c3, rfl, hown3, hb3⟩
  have g3 := Grw.step g2 hb3
  have hbox3 := hbox.below hb3
  have hn3 : n3 ≤ 549755813900 := by have := hown3.len; have := enc_len10 f.tag Htl.out; have := hl.len; simp at *; omega
  clear k0 k1 k2 k3 hbox hb3
  have k1 := hbox3.cell 1 rfl
  have k2 := hbox3.cell 2 rfl
  have k3 := hbox3.cell 3 rfl
  rcases hkind with hk | hk
  · have hk' : (f.kind == 0) = true := by simp [hk]
    have Hk := Lib.hid hk; clear hk
    go_wp2_with fail
    refine (rappend_any _ hown3.sla (by omega) f.val h.val).mono ?_
    rintro e w4 ⟨A4, n4, c4, rfl, hown4, hb4⟩
    go_wp2_with fail
    go_ret2
    rw [Henc.out, if_pos Hk.out, ← List.append_assoc]
    exact ⟨A4, n4, c4, rfl, hown4.base g3.size, Grw.step g3 hb4⟩
  · have hk' : (f.kind == 0) = false := by simp [hk]
    have hk'' : ¬ f.kind = 0 := by omega
    have Hk := Lib.hid hk''; clear hk hk''
    have hlen := h.sl.len
    have Hlen := Lib.hid hlen; clear hlen
    have hU : n < U64 := by unfold U64; omega
    have HU := Lib.hid hU; clear hU
    have hne : enc n = enc f.byt.length := by rw [Hlen.out]
    have Hne := Lib.hid hne; clear hne
    have hw : IntKind.u64.wrap (n : Int) = (n : Int) := by rw [IntKind.wrap_u64]; omega
    go_wp2_with fail
    go_region_held3 (fun w' => w'.cell? ⟨w.heap.size, 3, none⟩ = some (.slice A n c)) (first | exact k3 | exact (hbox3.drew.below hb4).cell 3 rfl | assumption)
      (first
        | (go_at_call 15; refine (rappend_any _ (hown3.sla.keep (Same.drew _ _)) (by omega) n HU.out).mono ?_; rintro e w4 ⟨A4, n4, c4, rfl, hown4, hb4⟩; have hn4 : n4 ≤ 549755813920 := (by have h1 := hown4.len; have h2 := enc_len10 n HU.out; have h3 := hown3.len; rw [List.length_append] at h1; omega))
        | (refine step_app eltB rfl rfl hown4 rfl (h.sl.keep (Same.below (Grw.step (Grw.drew g3) hb4))) rfl id (by omega) (by simp only [maxLen]; omega) hb4.size (fun h => h) ?_; intro A5 n5 c5 w5 hn5 hown5 hb5 hg5 hd5; have k5 := ((hbox3.drew.below hb4).keep (Same.of_below (S := fun b => b < w3.heap.size) hb5 (fun _ h _ => h)) hbox3.lt).cell 3 rfl))
    go_wp2
    go_ret2
    rw [Henc.out, if_neg Hk.out, ← Hne.out, ← List.append_assoc, ← List.append_assoc]
    exact ⟨A5, n5, c5, rfl, hown5.base g3.size, (Grw.step (Grw.drew g3) hb4).trans (hb5.mono g3.size)⟩
set_option maxHeartbeats 400000 in
theorem rsizef_any {S : Nat → Prop} {A : Option Addr} {n c : Nat} {f : Fld} (w : World) (h : FldIs w S A n c f) (hn : n ≤ 274877906944) :
    Calls Try.prog 31 #[.agg #[.int .i64 f.num, .int .i64 f.kind, .int .u64 f.val, .slice A n c]] w fun e w' => e = .returned (.int .i64 (if f.ok then (f.enc.length : Int) else 0)) ∧ Below w.heap.size w w' := by
  cases hok : f.ok
  · go_enter Try.func31, Try.ntmps31
    go_wp2_with fail
    refine (field_no _ (h.keep (Same.alloc _ _ _)) hok).mono ?_
    rintro e w1 ⟨rfl, hb1⟩
    go_wp2_with fail
    go_ret
    exact ⟨rfl, Grw.step (Grw.alloc (Below.refl _ _) _) hb1⟩
  · go_enter Try.func31, Try.ntmps31
    go_wp2_with fail
    refine (field_any _ (Sl.nil_ Rep.u8 _ No) (h.keep (Same.alloc _ _ _)) hok (by omega) hn).mono ?_
    rintro e w1 ⟨A1, n1, c1, rfl, hown, hb1⟩
    have hl := Lib.hid hown.len
    go_wp2_with fail
    go_ret
    exact ⟨ret_i64 (by rw [hl.out]; simp), Grw.step (Grw.alloc (Below.refl _ _) _) hb1⟩
/-- How large a field with 'n' bytes is. -/
def sizeB (n : Int) : Int := if n < 0 then 0 else 1 + (enc n.toNat).length + n
set_option maxHeartbeats 400000 in
theorem rsizeb_any (n : Int) (w : World) (h1 : -1099511627776 ≤ n) (h2 : n ≤ 1099511627776) :
    Calls Try.prog 29 #[.int .i64 n] w fun e w' => e = .returned (.int .i64 (sizeB n)) ∧ Below w.heap.size w w' := by
  by_cases h0 : n < 0
  · go_enter Try.func29, Try.ntmps29
    go_wp2_with fail
    go_ret
    exact ⟨ret_i64 (by rw [sizeB, if_pos h0]), Below.refl _ _⟩
  · obtain ⟨k, rfl⟩ := Int.eq_ofNat_of_zero_le (show 0 ≤ n by omega)
    have hU : k < U64 := by unfold U64; omega
    have HU := Lib.hid hU; clear hU
    have hw : IntKind.u64.wrap (k : Int) = (k : Int) := by rw [IntKind.wrap_u64]; omega
    have he := enc_len10 k HU.out
    go_enter Try.func29, Try.ntmps29
    go_wp2_with (go_at_call 17; refine (rsize_any k _ HU.out).mono ?_; rintro e w1 ⟨rfl, hb1⟩)
    go_ret
    exact ⟨ret_i64 (by rw [sizeB, if_neg (by omega)]; simp), hb1⟩
set_option maxHeartbeats 400000 in
theorem sizeb_any (n : Int) (w : World) (h1 : -1099511627776 ≤ n) (h2 : n ≤ 1099511627776) :
    Calls Try.prog 28 #[.int .i64 n] w fun e w' => e = .returned (.int .i64 (sizeB n)) ∧ w = w' := by
  by_cases h0 : n < 0
  · go_enter Try.func28, Try.ntmps28
    go_wp2_with fail
    go_ret
    exact ⟨ret_i64 (by rw [sizeB, if_pos h0]), rfl⟩
  · obtain ⟨k, rfl⟩ := Int.eq_ofNat_of_zero_le (show 0 ≤ n by omega)
    have hU : k < U64 := by unfold U64; omega
    have HU := Lib.hid hU; clear hU
    have hw : IntKind.u64.wrap (k : Int) = (k : Int) := by rw [IntKind.wrap_u64]; omega
    have he := enc_len10 k HU.out
    go_enter Try.func28, Try.ntmps28
    go_wp2_with (go_at_call 16; refine (size_any k _ HU.out).mono ?_; rintro e w1 ⟨rfl, rfl⟩)
    go_ret
    exact ⟨ret_i64 (by rw [sizeB, if_neg (by omega)]; simp), rfl⟩
end Go.Proofs.Ytppefbmeogoibaa
