/- The walks of 'big' and of the example of the statements about wire. -/
import Derived.Test.YtppefbmeogoibaaWireRFields
import Derived.Test.YtppefbmeogoibaaWireSize
import Derived.Test.YtppefbmeogoibaaSameF
import Derived.Test.YtppefbmeogoibaaL3Near
namespace Go.Proofs.Ytppefbmeogoibaa
open Go.RowKit

/-- The bytes of all fields. -/
def tot (l : List Fld) : Nat := (l.map fun f => f.byt.length).sum
theorem tot_take (l : List Fld) {k : Nat} (hk : k < l.length) : tot (l.take (k + 1)) = tot (l.take k) + l[k].byt.length := by
  unfold tot
  rw [List.take_succ_eq_append_getElem hk, List.map_append, List.sum_append]; simp
theorem tot_le (l : List Fld) (k : Nat) : tot (l.take k) ≤ tot l := by
  unfold tot
  have h : (l.map fun f => f.byt.length).sum = ((l.take k).map fun f => f.byt.length).sum + ((l.drop k).map fun f => f.byt.length).sum := by
    rw [← List.sum_append, ← List.map_append, List.take_append_drop]
  omega
theorem byt_le (l : List Fld) {k : Nat} (hk : k < l.length) : l[k].byt.length ≤ tot l := by
  have h1 := tot_take l hk
  have h2 := tot_le l (k + 1)
  omega
theorem fld_sum (l : List Fld) : l.length + tot l ≤ (l.map fun f => f.byt.length + 4).sum := by
  unfold tot
  induction l with
  | nil => simp
  | cons x r ih => rw [List.map_cons, List.map_cons, List.sum_cons, List.sum_cons, List.length_cons]; omega
theorem fld_small (l : List Fld) {x : Nat} (h : (l.map fun f => f.byt.length + 4).sum + 1 ≤ x) (hx : x ≤ 1048576) : l.length + tot l ≤ 1099511627776 := by
  have := fld_sum l; omega
set_option maxHeartbeats 1000000 in
set_option maxRecDepth 100000 in
theorem big_any {S : Nat → Prop} {A : Option Addr} {n c : Nat} {l : List Fld} (w : World) (h : Sl Rep.fld w S A n c l) (hb : l.length + tot l ≤ 1099511627776) :
    Calls Try.prog 20 #[.slice A n c] w fun e w' => e = .returned (.bool (decide (400 < l.length + tot l))) ∧ Below w.heap.size w w' := by
  have Hlen := Lib.hid h.len
  have hn : n + tot l ≤ 1099511627776 := by have := h.len; omega
  clear hb
  go_enter Try.func20, Try.ntmps20
  go_wp2_with fail
  go_loopw [3, 10] (fun s i wr => ∃ (k m : Nat), i = .int .i64 k ∧ s = .int .i64 m ∧ k ≤ n ∧ m = n + tot (l.take k) ∧ Below w.heap.size w wr) (fun _ i _ => n - (intOf i).toNat)
  case atStart => exact ⟨0, n, rfl, rfl, by omega, by simp [tot], Below.refl _ _⟩
  case round =>
    obtain ⟨k, m, rfl, rfl, hk, hm, hbel⟩ := hrel
    by_cases hlt : (k : Int) < (n : Int)
    · have hkl : k < l.length := by rw [← Hlen.out]; omega
      obtain ⟨ad, B, q, d, hA, hf, c0, c1, c2, c3⟩ := (h.keep (Same.below hbel)).fld hkl
      have h1 := tot_take l hkl
      have h2 := tot_le l (k + 1)
      have h3 := tot_le l k
      have hq := hf.sl.len
      subst hA
      have hb1 : q ≤ 1099511627776 := by omega
      have hb2 : m ≤ 1099511627776 := by omega
      have hm2 : m + q = n + tot (l.take (k + 1)) := by omega
      have Hm2 := Lib.hid hm2
      clear hm hq h1 h2 h3 hm2 h hf
      generalize l[k] = f at *
      go_wp2_with fail
      go_roundw
      case rel => exact ⟨k + 1, m + q, by go_num, by go_num, by omega, Hm2.out, Grw.alloc hbel _⟩
      case measure => simp [intOf]; omega
    · have hkn : k = n := by omega
      have hm2 : m = n + tot l := by rw [hm, hkn, Hlen.out, List.take_length]
      have Hm2 := Lib.hid hm2
      clear hm hm2 hkn
      go_wp2_with fail
      go_ret
      exact ⟨ret_bool (by rw [← Hlen.out, ← Hm2.out, Bool.eq_iff_iff]; simp; omega), hbel⟩
theorem flds_ex1 : flds [8, 172, 2, 18, 2, 97, 98] = ([⟨1, 0, 300, []⟩, ⟨2, 2, 0, [97, 98]⟩], 0, 0) := by kernel_rfl
theorem flds_ex2 : flds [8, 1, 18, 2, 97] = ([], 2, 5) := by kernel_rfl
theorem fenc_ex1 : (⟨1, 0, 300, []⟩ : Fld).enc = [8, 172, 2] := by kernel_rfl
theorem fenc_ex2 : (⟨2, 2, 0, [97, 98]⟩ : Fld).enc = [18, 2, 97, 98] := by kernel_rfl
theorem sizeB_2 : sizeB 2 = 4 := by kernel_rfl
set_option maxHeartbeats 1000000 in
set_option maxRecDepth 100000 in
theorem known3 (w : World) : Calls Try.prog 21 #[] w fun e w' => e = .returned (.bool true) ∧ Below w.heap.size w w' := by
  have hu0 : (0 : Nat) < U64 := by unfold U64; omega
  have hu3 : (300 : Nat) < U64 := by unfold U64; omega
  have E1 := Lib.hid flds_ex1
  have E2 := Lib.hid flds_ex2
  have hconv := fun (w : World) (C : Array Value) (n c : Nat) => Lib.run_convert_bytes_const (P := Try.prog) w 22 5 C n c Try.underlying22 Try.underlying5
  go_enter Try.func21, Try.ntmps21
  go_wp2_with fail
  refine (wappend_any (f := ⟨1, 0, 300, []⟩) w (Sl.nil_ Rep.u8 w No) ⟨Sl.nil_ Rep.u8 w No, hu3, by decide, by decide⟩ rfl (by omega) (by omega)).mono ?_
  rintro e w1 ⟨A1, n1, c1, rfl, hown1, hb1⟩
  rw [fenc_ex1] at hown1
  have hn1 : n1 ≤ 3 := by have := hown1.len; simp at this; omega
  go_wp2_with fail
  refine (wappend_any (f := ⟨2, 2, 0, [97, 98]⟩) (n := 2) _ (hown1.sla.keep (Same.alloc _ _ _)) ⟨Sl.litB [97, 98] (by rfl) (by rfl) (by simp [maxLen]) (by first | rfl | simp), hu0, by decide, by decide⟩ rfl (by omega) (by omega)).mono ?_
  rintro e w2 ⟨A2, n2, c2, rfl, hown2, hb2⟩
  rw [fenc_ex2] at hown2
  have hn2 : n2 ≤ 7 := by have := hown2.len; simp at this; omega
  have hs2 := hown2.sla
  go_wp2_with fail
  refine (wfields_any _ hs2 (by omega)).mono ?_
  rintro e w3 ⟨A3, n3, c3, rfl, hown3, hb3⟩
  rw [show ([] ++ [8, 172, 2] ++ [18, 2, 97, 98] : List UInt8) = [8, 172, 2, 18, 2, 97, 98] from rfl, E1.out] at hown3 ⊢
  go_wp2_with fail
  refine (wfields_any _ (Sl.litB [8, 1, 18, 2, 97] (by rfl) (by rfl) (by simp [maxLen]) (by simp)) (by omega)).mono ?_
  rintro e w4 ⟨A4, n4, c4, rfl, hown4, hb4⟩
  rw [E2.out]
  go_wp2_with fail
  have hown2' := (((hown2.below hb3).alloc (.cells #[.int .u8 8, .int .u8 1, .int .u8 18, .int .u8 2, .int .u8 97] 5)).below hb4).sla
  have hown3' := ((hown3.alloc (.cells #[.int .u8 8, .int .u8 1, .int .u8 18, .int .u8 2, .int .u8 97] 5)).below hb4).alloc (.cells #[.int .u8 8, .int .u8 172, .int .u8 2, .int .u8 18, .int .u8 2, .int .u8 97, .int .u8 98] 5)
  obtain rfl : n3 = 2 := hown3.len
  obtain ⟨ad, B, m, d, hA, _, _, _, q2, _⟩ := hown3'.sla.fld (k := 0) (by simp)
  simp only [Nat.zero_mul, add_zero] at q2
  have q2' := Lib.hid q2
  subst hA
  have g4 : Below w.heap.size w w4 := Grw.step (Grw.alloc (Grw.step (Grw.step (Grw.alloc hb1 _) hb2) hb3) _) hb4
  clear hown1 hown2 hown3 hown4 hown3' hs2 hb1 hb2 hb3 hb4 q2
  refine (same_yes _ (hown2'.keep (Same.alloc _ _ _)) (Sl.litB [8, 172, 2, 18, 2, 97, 98] (by rfl) (by rfl) (by simp [maxLen]) (by simp)) rfl).mono ?_
  rintro e w5 ⟨rfl, rfl⟩
  have q2 := q2'.out
  go_wp2_with fail
  refine (sizeb_any 2 _ (by omega) (by omega)).mono ?_
  rintro e w5 ⟨rfl, rfl⟩
  rw [sizeB_2]
  go_wp2_with fail
  go_ret
  exact ⟨rfl, Grw.alloc g4 _⟩
end Go.Proofs.Ytppefbmeogoibaa
