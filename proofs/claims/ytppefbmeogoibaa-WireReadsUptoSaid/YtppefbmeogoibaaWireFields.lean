/- The walk of wire's Fields. -/
import Derived.Test.YtppefbmeogoibaaWireRead
namespace Go.Proofs.Ytppefbmeogoibaa
open Go.RowKit

theorem infoF : (Try.prog.info? 41).map (fun i => (i.zero, i.size, i.bytes)) = some (some (.agg #[.int .i64 0, .int .i64 0, .int .u64 0, .slice none 0 0]), 4, 48) := by kernel_rfl
theorem eltF : Elt Try.prog Rep.fld 38 41 48 where
  und := Try.underlying38
  info := by
    obtain ⟨i, h1, h2, h3, h4⟩ := info_parts infoF
    exact ⟨i, _, h1, h2, h3, h4, rfl⟩
  pos := by decide
  one := by
    rintro w S cs a ⟨v, rfl, ⟨A, c, xs, rfl, _⟩, _⟩ u hu
    simp at hu
    rcases hu with rfl | rfl | rfl | rfl <;> rfl
set_option maxHeartbeats 1000000 in
set_option maxRecDepth 100000 in
theorem wfields_any {S : Nat → Prop} {A : Option Addr} {n c : Nat} {l : List UInt8} (w : World) (hl : Sl Rep.u8 w S A n c l) (hn : n ≤ 549755813888) :
    Calls Try.prog 24 #[.slice A n c] w fun e w' => ∃ A' n' c', e = .returned (.tuple #[.slice A' n' c', .int .i64 (flds l).2.1, .int .i64 (flds l).2.2]) ∧ OwnF Rep.fld 41 w' w.heap.size (.slice A' n' c') n' (flds l).1 ∧ Below w.heap.size w w' := by
  have Hlen := Lib.hid hl.len
  go_enter Try.func24, Try.ntmps24
  go_wp2_with fail
  go_loopw [2, 3] (fun v i wr => ∃ (k m : Nat) (A' : Option Addr) (c' fuel : Nat) (acc : List Fld), i = .int .i64 k ∧ v = .slice A' m c' ∧ k ≤ n ∧ m ≤ 1024 ∧ OwnF Rep.fld 41 wr w.heap.size (.slice A' m c') m acc ∧ Below w.heap.size w wr ∧ n - k < fuel ∧ fldsF fuel (l.drop k) k acc = flds l) (fun _ i _ => n - (intOf i).toNat)
  case atStart => exact ⟨0, 0, none, 0, l.length + 1, [], rfl, rfl, by omega, by omega, OwnF.nil_ _ _ _ _, Below.refl _ _, by have := Hlen.out; omega, by simp [flds]⟩
  case round =>
    obtain ⟨k, m, A3, c3, fuel, acc, rfl, rfl, hk, hm, hown, hbel, hfu, hrec⟩ := hrel
    obtain ⟨fuel, rfl⟩ : ∃ f, fuel = f + 1 := ⟨fuel - 1, by omega⟩
    have hbz := hbel.size
    have hacc := hown.len
    have hlr := hl.keep (Same.below hbel)
    obtain ⟨A4, hl4, hcut⟩ := hlr.cutL eltB hk
    have hl4n := hl4.len
    have hdl : (l.drop k).length = n - k := by omega
    rw [fldsF, hdl, ← hacc] at hrec
    by_cases hlt : (k : Int) < (n : Int)
    · rw [if_neg (by omega)] at hrec
      have hb4 := rdFld_bounds (l.drop k)
      have hnk : n - k ≤ 549755813888 := by omega
      rw [hdl] at hb4
      clear hdl hl4n hacc hlr
      have Hd := Lib.hid hfu; clear hfu
      generalize n - k = n4 at *
      generalize c - k = c4 at *
      by_cases hfull : m = 1024
      · have hfull' : ((m : Int) == 1024) = true := by simp; omega
        rw [if_pos hfull] at hrec
        have Hrec := Lib.hid hrec; clear hrec hfull hb4
        go_wp2_with fail
        go_ret3
        rw [← Hrec.out]
        exact ⟨none, 0, 0, rfl, OwnF.nil_ _ _ _ _, hbel⟩
      · have hfull' : ((m : Int) == 1024) = false := by simp; omega
        rw [if_neg hfull] at hrec
        go_wp2_with fail
        refine (wread_any _ hl4 hnk).mono ?_
        rintro e w1 ⟨A5, n5, c5, rfl, hf, hb5⟩
        generalize hr : rdFld (l.drop k) = r at *
        obtain ⟨f, sz, er⟩ := r
        have Hr := Lib.hid hr; clear hr
        simp only at hf hb4 hrec
        by_cases he : er = 0
        · subst he
          rw [if_neg (by simp)] at hrec
          have hsz : sz ≤ n4 ∧ 1 ≤ sz := ⟨hb4.1, hb4.2.1 rfl⟩
          obtain ⟨hsz1, hsz2⟩ := hsz
          have hn4k : n4 + k = n := by have h1 := hl4.len; have := Hlen.out; rw [List.length_drop] at h1; omega
          have hnew : k + sz ≤ n := by omega
          have hfu2 : n - (k + sz) < fuel := by have := Hd.out; omega
          rw [List.drop_drop] at hrec
          have Hrec := Lib.hid hrec
          have Hn4k := Lib.hid hn4k
          have Hnot : Hid (∀ b, wr.heap.size ≤ b → (Value.slice A3 m c3).ownBlock ≠ some b) := Lib.hid fun b hb => hown.not hb
          have hown1 := hown.below hb5
          have hbz5 := hb5.size
          clear hrec hb4 hn4k hown
          go_wp2_with (at_builtin; refine Stop.mk ?_)
          refine Stop.un (wpList_appF eltF rfl rfl ((hown1.alloc _).alloc _) rfl (Sl.litOf (R := Rep.fld) (S := Ge wr.heap.size) [f] (Rep.all_one ((hf.keep (Same.alloc _ _ _)).keep (Same.alloc _ _ _)).shut) (by rfl) (by simp [maxLen]) (by simp)) rfl
            (fun hc => Rep.fld.mono hc (fun b hb _ => ⟨by rcases hb with hb | hb <;> (unfold Ge at *; simp at *; omega), Hnot.out b (by rcases hb with hb | hb <;> (unfold Ge at *; simp at *; omega))⟩)) (by omega) (by simp only [maxLen]; omega) (by simp; omega) ?_)
          intro A6 n6 c6 w6 hn6 hown6 hb6 _
          go_wp2_with fail
          go_roundw
          case rel => exact ⟨k + sz, n6, A6, c6, fuel, acc ++ [f], by go_num, rfl, hnew, by have := hn6.out; omega, hown6, (Grw.alloc (Grw.alloc (Grw.step hbel hb5) _) _).trans hb6, hfu2, Hrec.out⟩
          case measure => simp [intOf]; omega
        · have he' : ((er : Int) != 0) = true := by simp; omega
          rw [if_pos he] at hrec
          have Hrec := Lib.hid hrec; clear hrec hb4
          go_wp2_with fail
          go_ret3
          rw [← Hrec.out]
          exact ⟨none, 0, 0, rfl, OwnF.nil_ _ _ _ _, Grw.alloc (Grw.step hbel hb5) _⟩
    · rw [if_pos (by omega)] at hrec
      have Hrec := Lib.hid hrec; clear hrec hdl hl4n hacc hlr
      go_wp2_with fail
      go_ret3
      rw [← Hrec.out]
      exact ⟨A3, m, c3, rfl, hown, hbel⟩
end Go.Proofs.Ytppefbmeogoibaa
