/- The walks of the package varint: what each of its functions does, said of cells. No conditions but those that each theorem names. -/
import Derived.Test.YtppefbmeogoibaaProg
import Derived.Test.YtppefbmeogoibaaBase
import Derived.Test.YtppefbmeogoibaaVarPlain
namespace Go.Proofs.Ytppefbmeogoibaa
open Go.RowKit

theorem infoB : (Try.prog.info? 5).map (fun i => (i.zero, i.size, i.bytes)) = some (some (.int .u8 0), 1, 1) := by kernel_rfl
theorem eltB : Elt Try.prog Rep.u8 22 5 1 where
  und := Try.underlying22
  info := by
    obtain ⟨i, h1, h2, h3, h4⟩ := info_parts infoB
    exact ⟨i, _, h1, h2, h3, h4, rfl⟩
  pos := by decide
  one := by rintro w S cs a rfl u hu; simp at hu; subst hu; rfl

set_option maxHeartbeats 400000 in
set_option maxRecDepth 100000 in
theorem append_any {S : Nat → Prop} {A : Option Addr} {n c : Nat} {l : List UInt8} (w : World) (hl : Sl Rep.u8 w S A n c l) (hn : n ≤ 1099511627776) (N : Nat) (hN : N < U64) :
    Calls Try.prog 14 #[.slice A n c, .int .u64 N] w fun e w' => ∃ A' n' c', e = .returned (.slice A' n' c') ∧ Own Rep.u8 5 w' w.heap.size No (.slice A' n' c') n' (l ++ enc N) ∧ Below w.heap.size w w' := by
  have he := enc_len10 N hN
  have HN := Lib.hid hN; clear hN
  go_enter Try.func14, Try.ntmps14
  go_wp2_with (at_builtin; refine wpList_app0 eltB rfl rfl (base := w.heap.size) No rfl hl rfl id (by omega) (by unfold maxLen; omega) (Nat.le_refl _) (fun h => h) ?_; intro A1 c1 w1 hown1 hb1)
  go_loopw [1, 5] (fun x v wr => ∃ (m k : Nat) (A' : Option Addr) (c' : Nat) (d : List UInt8), x = .int .u64 m ∧ v = .slice A' k c' ∧ d ++ enc m = enc N ∧ k = n + d.length ∧ Own Rep.u8 5 wr w.heap.size No (.slice A' k c') k (l ++ d) ∧ Below w.heap.size w wr) (fun x _ _ => (intOf x).toNat)
  case atStart => exact ⟨N, n, A1, c1, [], rfl, rfl, rfl, by simp, by simpa using hown1, hb1⟩
  case round =>
    obtain ⟨m, k, A2, c2, d, rfl, rfl, hd, hk, hown, hbel⟩ := hrel
    have hk2 : k ≤ n + 10 := by have := congrArg List.length hd; simp at this; omega
    have Hd := Lib.hid hd; clear hd
    have Hk := Lib.hid hk; clear hk
    have hbz := hbel.size
    by_cases hlt : 128 ≤ (m : Int)
    · go_wp2_with (at_builtin; (refine wpList_app eltB rfl rfl (hown.alloc _) rfl (Sl.lit wr [_] 5 (n := 1) (S := No) (l := [UInt8.ofNat (m % 128 + 128)]) (Rep.all_one (by show [_] = [_]; rw [or128])) rfl (by simp [maxLen])) rfl id (by omega) (by unfold maxLen; omega) (by simp; omega) (fun h => h) ?_); intro A3 n3 c3 w3 hn3 hown3 hb3 _ _)
      have hbz3 := hb3.size
      go_roundw
      case rel =>
        refine ⟨m / 128, n3, A3, c3, d ++ [UInt8.ofNat (m % 128 + 128)], by go_num, rfl, ?_, ?_, by simpa using hown3, (hbel.alloc hbz _).trans hb3⟩
        · rw [← Hd.out, enc_ge m (by omega)]; simp
        · have := Hk.out; have := hn3.out; simp; omega
      case measure => simp [intOf]; omega
    · go_wp2_with (at_builtin; (refine wpList_app eltB rfl rfl (hown.alloc _) rfl (Sl.lit wr [_] 5 (n := 1) (S := No) (l := [UInt8.ofNat m]) (Rep.all_one (by show [_] = [_]; rw [toNat_small m (by omega)])) rfl (by simp [maxLen])) rfl id (by omega) (by unfold maxLen; omega) (by simp; omega) (fun h => h) ?_); intro A3 n3 c3 w3 hn3 hown3 hb3 _ _)
      go_ret
      rw [← Hd.out, enc_lt m (by omega)]
      exact ⟨A3, _, c3, rfl, by simpa using hown3, (hbel.alloc hbz _).trans hb3⟩
set_option maxHeartbeats 400000 in
set_option maxRecDepth 100000 in
theorem read_any {S : Nat → Prop} {A : Option Addr} {n c : Nat} {l : List UInt8} (w : World) (hl : Sl Rep.u8 w S A n c l) :
    Calls Try.prog 18 #[.slice A n c] w fun e w' => e = .returned (.tuple #[.int .u64 (rd l).1, .int .i64 (rd l).2.1, .int .i64 (rd l).2.2]) ∧ w = w' := by
  have hcap := hl.cap
  have hle := hl.le
  have Hlen := Lib.hid hl.len
  unfold maxLen at hcap
  go_enter Try.func18, Try.ntmps18
  go_wp2
  go_loop [2, 5] (fun a b => ∃ (m k : Nat), a = .int .u64 m ∧ b = .int .i64 k ∧ k ≤ 9 ∧ k ≤ n ∧ m < 128 ^ k ∧ rdF k m (l.drop k) = rd l) (fun _ b => n - (intOf b).toNat)
  case atStart => exact ⟨0, 0, rfl, rfl, by omega, by omega, by simp, by simp [rd]⟩
  case round =>
    obtain ⟨m, k, rfl, rfl, hk9, hkn, hm, hrd⟩ := hrel
    have Hm := Lib.hid hm; clear hm
    have Hrd := Lib.hid hrd; clear hrd
    by_cases hlt : (k : Int) < (n : Int)
    · have hkl : k < l.length := by rw [← Hlen.out]; omega
      obtain ⟨ad, cs, hA, _, _, hcs, hcell⟩ := hl.at_ (by decide) hkl
      have hc : w.cell? (ad.add k) = some (.int .u8 (l[k].toNat : Int)) := by
        have := hcell 0 (.int .u8 (l[k].toNat : Int)) (by rw [show cs = [_] from hcs]; rfl)
        simpa [Rep.u8] using this
      subst hA
      clear hcell hcs
      have hx := l[k].toNat_lt
      have Hdrop := Lib.hid (List.drop_eq_getElem_cons hkl)
      generalize l[k] = x at *
      generalize hxx : x.toNat = y at *
      have Hxx := Lib.hid hxx; clear hxx
      have hdec : rdF k m (x :: l.drop (k + 1)) = rd l := by rw [← Hdrop.out]; exact Hrd.out
      have Hdec := Lib.hid hdec; clear hdec Hrd Hdrop
      have hbad : ∀ v, rdF k m (x :: l.drop (k + 1)) = v → rd l = v := fun v h => by rw [← Hdec.out]; exact h
      have Hbad := Lib.hid hbad; clear hbad
      have hys : y < 256 := by omega
      by_cases h9 : 9 ≤ k
      · have hk9' : k = 9 := by omega
        have h9' : ((k : Int) == 9) = true := by simp; omega
        have h0' : (0 : Int) < (k : Int) := by omega
        have Hk9 := Lib.hid hk9'; clear hk9'
        by_cases hy1 : (1 : Int) < (y : Int)
        · have hfin : rd l = (0, 0, 6) := Hbad.out _ (by rw [rdF, if_pos ⟨Hk9.out, by rw [Hxx.out]; omega⟩])
          have Hfin := Lib.hid hfin; clear hfin
          go_wp2
          go_ret3
          exact ⟨by rw [Hfin.out]; rfl, rfl⟩
        · by_cases hy0 : y ≤ 0
          · have hy0' : ((y : Int) == 0) = true := by simp; omega
            have hfin : rd l = (0, 0, 4) := Hbad.out _ (by rw [rdF, if_neg (by rw [Hxx.out]; omega), if_pos ⟨by omega, by rw [Hxx.out]; omega⟩])
            have Hfin := Lib.hid hfin; clear hfin
            go_wp2
            go_ret3
            exact ⟨by rw [Hfin.out]; rfl, rfl⟩
          · have hy0' : ((y : Int) == 0) = false := by simp; omega
            have hfin : rd l = (m + y % 128 * 128 ^ k, k + 1, 0) := Hbad.out _ (by rw [rdF, Hxx.out, if_neg (by omega), if_neg (by omega), if_pos (by omega)])
            have Hfin := Lib.hid hfin; clear hfin
            have HV := Lib.hid (orshift m y k Hm.out (by omega) hys (by omega))
            go_wp2
            go_ret3
            exact ⟨by rw [Hfin.out, ← HV.out]; rfl, rfl⟩
      · have h9' : ((k : Int) == 9) = false := by simp; omega
        have HV := Lib.hid (orshift m y k Hm.out (by omega) hys (by omega))
        have Hpow := Lib.hid (show m + y % 128 * 128 ^ k < 128 ^ (k + 1) from by
          have h1 := Hm.out
          have h2 : y % 128 * 128 ^ k ≤ 127 * 128 ^ k := Nat.mul_le_mul_right _ (by omega)
          rw [Nat.pow_succ]; omega)
        by_cases h0 : k ≤ 0
        · have h0' : ((k : Int) == 0) = true := by simp; omega
          have h0'' : (k : Int) ≤ 0 := by omega
          by_cases hsm : (y : Int) < 128
          · have hfin : rd l = (m + y % 128 * 128 ^ k, k + 1, 0) := Hbad.out _ (by rw [rdF, Hxx.out, if_neg (by omega), if_neg (by omega), if_pos (by omega)])
            have Hfin := Lib.hid hfin; clear hfin
            go_wp2
            go_ret3
            exact ⟨by rw [Hfin.out, ← HV.out]; rfl, rfl⟩
          · have hfin : rdF (k + 1) (m + y % 128 * 128 ^ k) (l.drop (k + 1)) = rd l := by rw [← Hdec.out, rdF, Hxx.out, if_neg (by omega), if_neg (by omega), if_neg (by omega)]
            have Hfin := Lib.hid hfin; clear hfin
            go_wp2
            go_round
            case rel => exact ⟨m + y % 128 * 128 ^ k, k + 1, by rw [HV.out], by go_num, by omega, by omega, Hpow.out, Hfin.out⟩
            case measure => simp [intOf]; omega
        · have h0' : (0 : Int) < (k : Int) := by omega
          by_cases hy0 : y ≤ 0
          · have hy0' : ((y : Int) == 0) = true := by simp; omega
            have hfin : rd l = (0, 0, 4) := Hbad.out _ (by rw [rdF, if_neg (by omega), if_pos ⟨by omega, by rw [Hxx.out]; omega⟩])
            have Hfin := Lib.hid hfin; clear hfin
            go_wp2
            go_ret3
            exact ⟨by rw [Hfin.out]; rfl, rfl⟩
          · have hy0' : ((y : Int) == 0) = false := by simp; omega
            by_cases hsm : (y : Int) < 128
            · have hfin : rd l = (m + y % 128 * 128 ^ k, k + 1, 0) := Hbad.out _ (by rw [rdF, Hxx.out, if_neg (by omega), if_neg (by omega), if_pos (by omega)])
              have Hfin := Lib.hid hfin; clear hfin
              go_wp2
              go_ret3
              exact ⟨by rw [Hfin.out, ← HV.out]; rfl, rfl⟩
            · have hfin : rdF (k + 1) (m + y % 128 * 128 ^ k) (l.drop (k + 1)) = rd l := by rw [← Hdec.out, rdF, Hxx.out, if_neg (by omega), if_neg (by omega), if_neg (by omega)]
              have Hfin := Lib.hid hfin; clear hfin
              go_wp2
              go_round
              case rel => exact ⟨m + y % 128 * 128 ^ k, k + 1, by rw [HV.out], by go_num, by omega, by omega, Hpow.out, Hfin.out⟩
              case measure => simp [intOf]; omega
    · have hnil : l.drop k = [] := by rw [List.drop_eq_nil_iff, ← Hlen.out]; omega
      have hfin : rd l = (0, 0, 5) := by rw [← Hrd.out, hnil, rdF]
      have Hfin := Lib.hid hfin; clear hfin hnil
      go_wp2
      go_ret3
      exact ⟨by rw [Hfin.out]; rfl, rfl⟩
set_option maxHeartbeats 400000 in
set_option maxRecDepth 100000 in
theorem size_any (N : Nat) (w : World) (hN : N < U64) :
    Calls Try.prog 16 #[.int .u64 N] w fun e w' => e = .returned (.int .i64 (enc N).length) ∧ w = w' := by
  have he := enc_len10 N hN
  have HN := Lib.hid hN; clear hN
  go_enter Try.func16, Try.ntmps16
  go_wp2
  go_loop [0, 3] (fun a s => ∃ k m : Nat, a = .int .u64 m ∧ s = .int .i64 k ∧ 1 ≤ k ∧ k + (enc m).length = (enc N).length + 1) (fun a _ => (intOf a).toNat)
  case atStart => exact ⟨1, N, rfl, rfl, by omega, by omega⟩
  case round =>
    obtain ⟨k, m, rfl, rfl, hk1, hk⟩ := hrel
    by_cases hlt : 128 ≤ (m : Int)
    · have h2 := enc_ge m (by omega)
      have h3 : (enc m).length = (enc (m / 128)).length + 1 := by rw [h2]; rfl
      have H3 := Lib.hid h3; have Hk := Lib.hid hk
      have hkb : k ≤ 11 := by omega
      clear h2 h3 hk
      go_wp2
      go_round
      case rel => exact ⟨k + 1, m / 128, by go_num, by go_num, by omega, by have := H3.out; have := Hk.out; omega⟩
      case measure => simp [intOf]; omega
    · have h3 : (enc m).length = 1 := by rw [enc_lt m (by omega)]; rfl
      have hfin : (k : Int) = (enc N).length := by omega
      have Hfin := Lib.hid hfin
      clear hfin h3 hk
      go_wp2
      go_ret
      exact ⟨by rw [← Hfin.out]; rfl, rfl⟩
end Go.Proofs.Ytppefbmeogoibaa
