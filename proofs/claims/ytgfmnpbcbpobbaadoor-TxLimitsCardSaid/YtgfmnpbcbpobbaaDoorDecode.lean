/- unicode/utf8.DecodeRuneInString on plain data: by the library's contract. No conditions. -/
import Derived.Test.YtgfmnpbcbpobbaaDoorKC
import Derived.Test.YtgfmnpbcbpobbaaDoorDeLay
namespace Go.Proofs.YtgfmnpbcbpobbaaDoor.Am
open Go Go.Proofs Go.RowKit

/-- The character at a string's beginning, and how many bytes it takes. -/
def F_unicode_utf8_DecodeRuneInString (a0 : List UInt8) : Option (Int × Int) := some (((Lib.decodeGo ⟨a0.toArray⟩).1 : Nat), ((Lib.decodeGo ⟨a0.toArray⟩).2 : Nat))
def g_unicode_utf8_DecodeRuneInString : TFn := ⟨.cons (.c (.d .str)) .nil, .nil, .cons (.c (.d (.int .i32))) (.cons (.c (.d (.int .i64))) .nil), Int × Int, fun a => F_unicode_utf8_DecodeRuneInString a.1, fun r => ((), (r.1, (r.2, ()))), .none⟩
theorem utf8_of_glob {I : Nat → Nat → Prop} {w : World} (h : Glob I w) : Lib.Utf8Tabs 0 1 w := by
  refine ⟨fun c hc => (h 0 c _ (by simp [GT, hc])).1, fun i hi => ⟨?_, ?_⟩⟩
  · have := (h 1 (2 * i) (.int .u8 (Lib.accLo i)) (by
      have h1 : 2 * i < 32 := by omega
      have h2 : 2 * i % 2 = 0 := by omega
      have h3 : 2 * i / 2 = i := by omega
      simp [GT, h1])).1
    exact this
  · have := (h 1 (2 * i + 1) (.int .u8 (Lib.accHi i)) (by
      have h1 : 2 * i + 1 < 32 := by omega
      have h2 : ¬ (2 * i + 1) % 2 = 0 := by omega
      have h3 : (2 * i + 1) / 2 = i := by omega
      simp [GT, h1, h3])).1
    exact this
theorem ok_unicode_utf8_DecodeRuneInString : FnT Tryd.prog 28 g_unicode_utf8_DecodeRuneInString :=
  ⟨rfl, rfl, ⟨trivial, ⟨_, Tryd.func28, rfl, rfl⟩, fun w I F args xs hIn hgl hargs hF hp => by
    obtain ⟨a, r, rfl, hr⟩ := hp
    replace hargs : OAs I w [.c (.d (.v (.string ⟨a.1.toArray⟩)))] args.toList F := hargs
    simp only [OAs, OAr, OCr, DVr] at hargs
    obtain ⟨x, r1, F1, F2, e1, ⟨rfl, rfl, _⟩, ⟨rfl, rfl⟩, rfl⟩ := hargs
    have ha : args = #[.string ⟨a.1.toArray⟩] := by
      cases args; simp only at e1; subst e1; rfl
    subst ha
    have hc := Any.utf8_DecodeRuneInString Tryd.decode ⟨a.1.toArray⟩ w (utf8_of_glob hgl)
    refine Calls.mono (show Calls Tryd.prog 28 _ _ _ from hc) fun e w' h => ?_
    obtain ⟨rfl, hb⟩ := h
    refine ⟨I, [.int .i32 (Lib.decodeGo ⟨a.1.toArray⟩).1, .int .i64 (Lib.decodeGo ⟨a.1.toArray⟩).2], [], [], rfl, ?_⟩
    refine ⟨⟨hb.os, hb.tape, hb.output, hb.size, fun k hk _ => hb.block k hk⟩, fun _ _ h => h, fun b o hi => World.cell?_of_block (a := ⟨b, o, none⟩) (hb.block b (hIn b o hi)), fun _ _ h => .inl h, fun b o hi => Nat.lt_of_lt_of_le (hIn b o hi) hb.size, ?_, ?_, by simp, by simp⟩
    · have e1 : (g_unicode_utf8_DecodeRuneInString.spec.post (g_unicode_utf8_DecodeRuneInString.args.oas a)) = [] := by
        rw [TFn.post_of rfl hr]; rfl
      rw [e1]
      exact ⟨rfl, rfl⟩
    · have e1 : (g_unicode_utf8_DecodeRuneInString.spec.res (g_unicode_utf8_DecodeRuneInString.args.oas a)) = [.c (.d (.v (.int .i32 r.1))), .c (.d (.v (.int .i64 r.2)))] := by
        rw [TFn.res_of rfl hr]; rfl
      rw [e1]
      injection hr with hr
      rw [← hr]
      simp only [OAs, OAr, OCr, DVr]
      exact ⟨_, _, [], [], rfl, ⟨rfl, rfl, rfl⟩, ⟨_, _, [], [], rfl, ⟨rfl, rfl, rfl⟩, ⟨rfl, rfl⟩, rfl⟩, rfl⟩⟩⟩
end Go.Proofs.YtgfmnpbcbpobbaaDoor.Am
