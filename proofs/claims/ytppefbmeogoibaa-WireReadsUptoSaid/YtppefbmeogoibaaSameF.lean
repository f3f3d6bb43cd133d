/- The walk of the references' SameFields at two equal lists. -/
import Derived.Test.YtppefbmeogoibaaWireFields
import Derived.Test.YtppefbmeogoibaaVarRef
namespace Go.Proofs.Ytppefbmeogoibaa
open Go.RowKit

/-- Where a field of a slice lies. -/
theorem Sl.fld {w : World} {S : Nat → Prop} {A : Option Addr} {n c : Nat} {l : List Fld} (h : Sl Rep.fld w S A n c l) {k : Nat} (hk : k < l.length) :
    ∃ ad B m d, A = some ad ∧ FldIs w S B m d l[k] ∧ w.cell? (ad.add (k * 4)) = some (.int .i64 l[k].num) ∧ w.cell? ⟨(ad.add (k * 4)).block, (ad.add (k * 4)).off + 1, none⟩ = some (.int .i64 l[k].kind) ∧ w.cell? ⟨(ad.add (k * 4)).block, (ad.add (k * 4)).off + 2, none⟩ = some (.int .u64 l[k].val) ∧ w.cell? ⟨(ad.add (k * 4)).block, (ad.add (k * 4)).off + 3, none⟩ = some (.slice B m d) := by
  obtain ⟨ad, cs, hA, _, _, hcs, hc⟩ := h.at_ (by decide) hk
  obtain ⟨B, m, d, rfl, hf⟩ := Rep.fld_open hcs
  refine ⟨ad, B, m, d, hA, hf, ?_, ?_, ?_, ?_⟩
  · exact hc 0 _ rfl
  · have := hc 1 _ rfl; rw [← add_add] at this; exact this
  · have := hc 2 _ rfl; rw [← add_add] at this; exact this
  · have := hc 3 _ rfl; rw [← add_add] at this; exact this

set_option maxHeartbeats 1000000 in
set_option maxRecDepth 100000 in
theorem samef_any {S S' : Nat → Prop} {A A' : Option Addr} {n c n' c' : Nat} {l : List Fld} (w : World) (h : Sl Rep.fld w S A n c l) (h' : Sl Rep.fld w S' A' n' c' l) (hn : n ≤ 549755813888) :
    Calls Try.prog 26 #[.slice A n c, .slice A' n' c'] w fun e w' => e = .returned (.bool true) ∧ Below w.heap.size w w' := by
  have hnn : n' = n := by rw [h'.len, h.len]
  subst hnn
  have Hlen := Lib.hid h.len
  go_enter Try.func26, Try.ntmps26
  go_wp2_with fail
  go_loopw [13] (fun i wr => ∃ (k q : Nat), i = .int .i64 k ∧ k ≤ n' ∧ wr = w.drewN q) (fun i _ => n' - (intOf i).toNat)
  case atStart => exact ⟨0, 0, rfl, by omega, rfl⟩
  case round =>
    obtain ⟨k, q, rfl, hk, hwr⟩ := hrel
    have hd : Sl Rep.fld wr S A n' c l ∧ Sl Rep.fld wr S' A' n' c' l := by rw [hwr]; exact ⟨h.keep (Same.drewN _ _ q), h'.keep (Same.drewN _ _ q)⟩
    obtain ⟨hd1, hd2⟩ := hd
    have Hwr := Lib.hid hwr; clear hwr h h'
    by_cases hlt : (k : Int) < (n' : Int)
    · have hkl : k < l.length := by rw [← Hlen.out]; omega
      obtain ⟨ad, B, m, d, hA, hf, c0, c1, c2, c3⟩ := hd1.fld hkl
      obtain ⟨ad', B', m', d', hA', hf', c0', c1', c2', c3'⟩ := hd2.fld hkl
      subst hA; subst hA'
      have hs := fun q' => same_yes _ (hf.sl.keep (Same.drewN _ _ q')) (hf'.sl.keep (Same.drewN _ _ q')) rfl
      have Hs := Lib.hid hs; clear hs hf hf' hd1 hd2
      generalize l[k] = f at *
      have i0 : (0 : Int) ≤ (k : Int) := by omega
      go_wp2_with fail
      go_quiet ((go_at_call 13; exact Calls.quiet_of_same ((Hs.out _).mono fun _ _ hh => ⟨hh.1, hh.2.symm⟩)))
      go_wp2
      go_roundw
      case rel => exact ⟨k + 1, q + nq, by go_num, by omega, by rw [Hwr.out, World.drewN_drewN]⟩
      case measure => simp [intOf]; omega
    · go_wp2_with fail
      go_ret
      exact ⟨rfl, by rw [Hwr.out]; exact Grw.drewN (Below.refl _ _) _⟩
end Go.Proofs.Ytppefbmeogoibaa
