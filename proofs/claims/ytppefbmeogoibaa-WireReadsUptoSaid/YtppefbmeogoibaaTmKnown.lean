/- A typed machine over the abstract machine: a function without arguments that answers true, from a contract of it. No conditions. -/
import Derived.Test.YtppefbmeogoibaaTmRow
namespace Go.Proofs.Ytppefbmeogoibaa.Am
open Go Go.ChangeShapes Go.WideShapes Go.ChangeAt Go.RowKit Go.ChangeMaps

def gTrue : TFn := ⟨.nil, .nil, .cons (.c (.d .bool)) .nil, Bool, fun _ => some true, fun r => ((), (r, ()))⟩
theorem fnT_true {P : Program} {f : FuncId} {fn : Func} (hf : P.funcs[f]? = some fn) (hb : fn.body.isSome = true) (hn : (fn.name == "runtime.NumGoroutine") = false) (h : ∀ w, Calls P f #[] w fun e w' => e = .returned (.bool true) ∧ Below w.heap.size w w') : FnT P f gTrue := by
  refine ⟨rfl, rfl, ⟨⟨fn, hf, hb, hn⟩, fun w I F args xs hIn hargs hF hpre => ?_⟩⟩
  obtain ⟨a, r, rfl, hr⟩ := hpre
  have hargs : args.toList = [] ∧ F = [] := hargs
  obtain ⟨h1, rfl⟩ := hargs
  have e : args = #[] := by cases args; simp only at h1; subst h1; rfl
  subst e
  refine (h w).mono fun e w' he => ?_
  obtain ⟨rfl, hB⟩ := he
  refine ⟨I, [.bool true], [], [], rfl, ⟨⟨hB.os, hB.tape, hB.output, hB.size, fun k hk _ => hB.block k hk⟩, fun _ _ h => h, fun b o hi => ?_, fun b o hi => .inl hi, fun b o hi => Nat.lt_of_lt_of_le (hIn b o hi) hB.size, ?_, ?_, List.nodup_nil, fun b hb => by cases hb⟩⟩
  · exact World.cell?_of_block (a := ⟨b, o, none⟩) (hB.block b (hIn b o hi))
  · exact ⟨rfl, rfl⟩
  · show OAs I w' [.c (.d (.v (.bool true)))] [.bool true] []
    exact ⟨_, [], [], [], rfl, ⟨rfl, rfl, rfl⟩, ⟨rfl, rfl⟩, rfl⟩
end Go.Proofs.Ytppefbmeogoibaa.Am
