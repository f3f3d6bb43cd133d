/- money.Add on plain data: the sum of two numbers, and whether it fits. No conditions. -/
import Derived.Test.YtfaceeglocjkbaaKD
import Derived.Test.YtfaceeglocjkbaaProg
import Derived.Test.YtfaceeglocjkbaaBase
import Derived.Shelf.Spec.BitsCarry
namespace Go.Proofs.Ytfaceeglocjkbaa.Am
open Go Go.Proofs Go.RowKit

theorem add64_run (x y : Int) (hx : 0 ≤ x) (hy : 0 ≤ y) (w : World) : (callFunc 65 #[.int .u64 x, .int .u64 y, .int .u64 0]).run Try.prog w =
    .ok (.value (.tuple #[.int .u64 ((x + y + 0) % 18446744073709551616), .int .u64 ((x + y + 0) / 18446744073709551616)])) w := by
  rw [run_callFunc_extern Try.func65 (by kernel_rfl) (by kernel_rfl) (by kernel_rfl) (e := add64Entry) (by kernel_rfl), run_add64 x y 0 hx hy (by omega) (by omega)]
  rfl
theorem only_calls (n : Int) (b : Bool) (w : World) : Calls Try.prog 66 #[.int .u64 n, .bool b] w fun e w' => e = .returned (.tuple #[.int .u64 (if b then n else 0), .bool b]) ∧ w' = w := by
  cases b
  · go_enter Try.func66, Try.ntmps66
    go_wp2
    go_ret2
    exact ⟨rfl, rfl⟩
  · go_enter Try.func66, Try.ntmps66
    go_wp2
    go_ret2
    exact ⟨rfl, rfl⟩
/-- The sum, if it fits. -/
def F_money_Add (a0 a1 : Int) : Option (Int × Bool) := chk (decide (0 ≤ a0 ∧ 0 ≤ a1)) (some (if decide (a0 + a1 < 18446744073709551616) then a0 + a1 else 0, decide (a0 + a1 < 18446744073709551616)))
def g_money_Add : TFn := ⟨.cons (.c (.d (.int .u64))) (.cons (.c (.d (.int .u64))) .nil), .nil, .cons (.c (.d (.int .u64))) (.cons (.c (.d .bool)) .nil), Int × Bool, fun a => F_money_Add a.1 a.2.1, fun r => ((), (r.1, (r.2, ()))), .none⟩
theorem add_calls {x y : Int} (hx : 0 ≤ x) (hy : 0 ≤ y) (w : World) : Calls Try.prog 48 #[.int .u64 x, .int .u64 y] w fun e w' => e = .returned (.tuple #[.int .u64 (if decide (x + y < 18446744073709551616) then x + y else 0), .bool (decide (x + y < 18446744073709551616))]) ∧ w' = w := by
  have h := add64_run x y hx hy
  by_cases hs : x + y < 18446744073709551616
  · have e1 : (x + y + 0) % 18446744073709551616 = x + y := by omega
    have e2 : (x + y + 0) / 18446744073709551616 = 0 := by omega
    rw [e1, e2] at h
    rw [decide_eq_true hs]
    go_enter Try.func48, Try.ntmps48
    go_wp2_with (first | (simp only [h]) | (go_at_call 66; refine (only_calls _ _ _).mono ?_; rintro e w' ⟨rfl, hw⟩; rw [hw]))
    go_ret2
    exact ⟨rfl, rfl⟩
  · have e2 : ((x + y) / 18446744073709551616 == 0) = false := by simp; omega
    rw [decide_eq_false hs]
    go_enter Try.func48, Try.ntmps48
    go_wp2_with (first | (simp only [h]) | (go_at_call 66; refine (only_calls _ _ _).mono ?_; rintro e w' ⟨rfl, hw⟩; rw [hw]))
    go_ret2
    exact ⟨rfl, rfl⟩
theorem ok_money_Add : FnT Try.prog 48 g_money_Add :=
  ⟨rfl, rfl, ⟨trivial, ⟨_, Try.func48, rfl, rfl⟩, fun w I F args xs hIn hgl hargs hF hp => by
    obtain ⟨a, r, rfl, hr⟩ := hp
    obtain ⟨a0, a1, u⟩ := a
    change Int at a0
    change Int at a1
    obtain ⟨r0, r1⟩ := r
    change Int at r0
    change Bool at r1
    have hr' : F_money_Add a0 a1 = some (r0, r1) := hr
    unfold F_money_Add at hr'
    obtain ⟨hc, hr'⟩ := chk_some hr'
    have hc := of_decide_eq_true hc
    injection hr' with hr'
    replace hargs : OAs I w [.c (.d (.v (.int .u64 a0))), .c (.d (.v (.int .u64 a1)))] args.toList F := hargs
    simp only [OAs, OAr, OCr, DVr] at hargs
    obtain ⟨x, q1, F1, F2, e1, ⟨rfl, rfl, _⟩, ⟨y, q2, F3, F4, rfl, ⟨rfl, rfl, _⟩, ⟨rfl, rfl⟩, rfl⟩, rfl⟩ := hargs
    have ha : args = #[.int .u64 a0, .int .u64 a1] := by
      cases args; simp only at e1; subst e1; rfl
    subst ha
    refine Calls.mono (add_calls hc.1 hc.2 w) fun e w' h => ?_
    obtain ⟨rfl, rfl⟩ := h
    refine ⟨I, [.int .u64 r0, .bool r1], [], [], by injection hr' with h1 h2; subst h1; subst h2; rfl, ?_⟩
    refine ⟨⟨rfl, rfl, rfl, Nat.le_refl _, fun _ _ _ => rfl⟩, fun _ _ h => h, Keep.refl _ _, fun _ _ h => .inl h, hIn, ?_, ?_, by simp, by simp⟩
    · rw [TFn.post_of rfl hr]
      exact ⟨rfl, rfl⟩
    · have e1 : (g_money_Add.spec.res (g_money_Add.args.oas (a0, a1, u))) = [.c (.d (.v (.int .u64 r0))), .c (.d (.v (.bool r1)))] := by
        rw [TFn.res_of rfl hr]; rfl
      rw [e1]
      simp only [OAs, OAr, OCr, DVr]
      exact ⟨_, _, [], [], rfl, ⟨rfl, rfl, rfl⟩, ⟨_, _, [], [], rfl, ⟨rfl, rfl, rfl⟩, ⟨rfl, rfl⟩, rfl⟩, rfl⟩⟩⟩
end Go.Proofs.Ytfaceeglocjkbaa.Am
