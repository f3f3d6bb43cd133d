/- The walk of wire's Size. -/
import Derived.Test.YtppefbmeogoibaaWire
namespace Go.Proofs.Ytppefbmeogoibaa
open Go.RowKit

set_option maxHeartbeats 1000000 in
set_option maxRecDepth 100000 in
theorem wsize_any {S : Nat → Prop} {A : Option Addr} {n c : Nat} {f : Fld} (w : World) (h : FldIs w S A n c f) (hn : n ≤ 274877906944) :
    Calls Try.prog 30 #[.agg #[.int .i64 f.num, .int .i64 f.kind, .int .u64 f.val, .slice A n c]] w fun e w' => e = .returned (.int .i64 (if f.ok then (f.enc.length : Int) else 0)) ∧ Below w.heap.size w w' := by
  cases hok : f.ok
  · go_enter Try.func30, Try.ntmps30
    go_wp2_with fail
    refine (valid_any _ (h.keep (Same.alloc _ _ _))).mono ?_
    rintro e w1 ⟨rfl, hb1⟩
    rw [hok]
    go_wp2_with fail
    go_ret
    exact ⟨rfl, Grw.step (Grw.alloc (Below.refl _ _) _) hb1⟩
  have htl := (Fld.tag_lt f hok).1
  have Htl := Lib.hid htl; clear htl
  have hkind : f.kind = 0 ∨ f.kind = 2 := by simp only [Fld.ok, decide_eq_true_eq] at hok; omega
  have Henc : Hid (f.enc = enc f.tag ++ if f.kind = 0 then enc f.val else enc f.byt.length ++ f.byt) := Lib.hid rfl
  have hbox := Box.new w 41 [.int .i64 f.num, .int .i64 f.kind, .int .u64 f.val, .slice A n c] rfl
  have ht10 := enc_len10 f.tag Htl.out
  have hv10 := enc_len10 f.val h.val
  rcases hkind with hk | hk
  · have hk' : (f.kind == 0) = true := by simp [hk]
    have Hk := Lib.hid hk; clear hk
    go_enter Try.func30, Try.ntmps30
    go_wp2_with fail
    refine (valid_any _ (h.keep (Same.alloc _ _ _))).mono ?_
    rintro e w1 ⟨rfl, hb1⟩
    rw [hok]
    have hbox1 := hbox.below hb1
    have g1 : Below w.heap.size w w1 := Grw.step (Grw.alloc (Below.refl _ _) _) hb1
    clear hb1
    have k0 := hbox1.cell 0 rfl
    have k1 := hbox1.cell 1 rfl
    have k2 := hbox1.cell 2 rfl
    have k3 := hbox1.cell 3 rfl
    have hw1 := IntWalk.i64_in ((enc f.tag).length + (enc f.val).length) (by omega)
    go_wp2_with fail
    go_region_held3 (fun w' => w'.cell? ⟨w.heap.size, 0, none⟩ = some (.int .i64 f.num) ∧ w'.cell? ⟨w.heap.size, 1, none⟩ = some (.int .i64 f.kind) ∧ w'.cell? ⟨w.heap.size, 2, none⟩ = some (.int .u64 f.val) ∧ w'.cell? ⟨w.heap.size, 3, none⟩ = some (.slice A n c))
      (first | exact ⟨k0, k1, k2, k3⟩ | exact ⟨(hbox1.drew.below hb2).cell 0 rfl, (hbox1.drew.below hb2).cell 1 rfl, (hbox1.drew.below hb2).cell 2 rfl, (hbox1.drew.below hb2).cell 3 rfl⟩)
      (first
        | (go_at_call 36; refine (tag_any _ (h.keep (Same.below (Grw.drew g1))) hok).mono ?_; rintro e w2 ⟨rfl, hb2⟩)
        | (go_at_call 16; refine (size_any _ _ (by first | exact Htl.out | exact h.val)).mono ?_; rintro e w3 ⟨rfl, rfl⟩))
    go_wp2
    go_ret
    rw [Henc.out, if_pos Hk.out]
    exact ⟨ret_i64 (by simp), Grw.step (Grw.drew g1) hb2⟩
  · have hk' : (f.kind == 0) = false := by simp [hk]
    have hk'' : ¬ f.kind = 0 := by omega
    have Hk := Lib.hid hk''; clear hk hk''
    have hlen := h.sl.len
    have Hlen := Lib.hid hlen; clear hlen
    have hU : n < U64 := by unfold U64; omega
    have HU := Lib.hid hU; clear hU
    have hn10 := enc_len10 n HU.out
    go_enter Try.func30, Try.ntmps30
    go_wp2_with fail
    refine (valid_any _ (h.keep (Same.alloc _ _ _))).mono ?_
    rintro e w1 ⟨rfl, hb1⟩
    rw [hok]
    have hbox1 := hbox.below hb1
    have g1 : Below w.heap.size w w1 := Grw.step (Grw.alloc (Below.refl _ _) _) hb1
    clear hb1
    have k0 := hbox1.cell 0 rfl
    have k1 := hbox1.cell 1 rfl
    have k2 := hbox1.cell 2 rfl
    have k3 := hbox1.cell 3 rfl
    have hw0 : IntKind.u64.wrap (n : Int) = (n : Int) := by rw [IntKind.wrap_u64]; omega
    have hw1 := IntWalk.i64_in ((enc f.tag).length + (enc n).length) (by omega)
    have hw2 := IntWalk.i64_in ((enc f.tag).length + (enc n).length + n) (by omega)
    go_wp2_with fail
    go_region_held3 (fun w' => w'.cell? ⟨w.heap.size, 0, none⟩ = some (.int .i64 f.num) ∧ w'.cell? ⟨w.heap.size, 1, none⟩ = some (.int .i64 f.kind) ∧ w'.cell? ⟨w.heap.size, 2, none⟩ = some (.int .u64 f.val) ∧ w'.cell? ⟨w.heap.size, 3, none⟩ = some (.slice A n c))
      (first | exact ⟨k0, k1, k2, k3⟩ | exact ⟨(hbox1.drew.below hb2).cell 0 rfl, (hbox1.drew.below hb2).cell 1 rfl, (hbox1.drew.below hb2).cell 2 rfl, (hbox1.drew.below hb2).cell 3 rfl⟩)
      (first
        | (go_at_call 36; refine (tag_any _ (h.keep (Same.below (Grw.drew g1))) hok).mono ?_; rintro e w2 ⟨rfl, hb2⟩)
        | (go_at_call 16; refine (size_any _ _ (by first | exact Htl.out | exact HU.out)).mono ?_; rintro e w3 ⟨rfl, rfl⟩))
    go_wp2
    go_ret
    rw [Henc.out, if_neg Hk.out, ← Hlen.out]
    exact ⟨ret_i64 (by have := Hlen.out; simp; omega), Grw.step (Grw.drew g1) hb2⟩
end Go.Proofs.Ytppefbmeogoibaa
