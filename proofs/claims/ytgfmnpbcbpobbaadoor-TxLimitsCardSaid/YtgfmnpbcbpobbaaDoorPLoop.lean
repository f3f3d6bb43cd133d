/- Loops over lists. No conditions. -/
import Derived.Test.YtgfmnpbcbpobbaaDoorKC
namespace Go.Proofs.YtgfmnpbcbpobbaaDoor.Am
open Go

/-- A loop: what holds at each round, with what is left to do. -/
theorem ok_iterE {S R : Type} {G : S → Option (S ⊕ R)} {p : R → Prop} (inv : Nat → S → Prop) (step : ∀ n x, inv n x → Ok (G x) (Nxt p fun z => ∃ m, m < n ∧ inv m z)) :
    ∀ {n : Nat} {x : S}, inv n x → n < 1180591620717411303424 → Ok (iterO G x) p := by
  have key : ∀ (f n : Nat) (x : S), inv n x → n < f → Ok (iter f G x) p := by
    intro f
    induction f with
    | zero => intro n x _ h; omega
    | succ f ih =>
      intro n x hi hm
      obtain ⟨y, hy, h⟩ := step n x hi
      unfold iter
      rw [hy]
      cases y with
      | inl z =>
        obtain ⟨m, h1, h2⟩ := h
        exact ih m z h2 (by omega)
      | inr r => exact ⟨r, rfl, h⟩
  intro n x hi hm
  unfold iterO
  rw [FUEL_eq]
  exact key _ n x hi hm
/-- A loop over the elements of a list: at 'i' the state is 'st i b'. -/
theorem ok_range {α β S R : Type} {G : S → Option (S ⊕ R)} {p : R → Prop} (l : List α) (st : Nat → β → S) (inv : Nat → β → Prop)
    (step : ∀ i b, (h : i < l.length) → inv i b → Ok (G (st i b)) (Nxt p fun z => ∃ b', z = st (i + 1) b' ∧ inv (i + 1) b'))
    (stop : ∀ b, inv l.length b → Ok (G (st l.length b)) (Nxt p fun _ => False)) {b0 : β} (h0 : inv 0 b0) (hl : l.length < 1180591620717411303424) : Ok (iterO G (st 0 b0)) p := by
  refine ok_iterE (fun n x => ∃ i b, i + n = l.length ∧ x = st i b ∧ inv i b) ?_ ⟨0, b0, by omega, rfl, h0⟩ hl
  rintro n x ⟨i, b, hn, rfl, hi⟩
  by_cases h : i < l.length
  · refine (step i b h hi).mono fun r hr => ?_
    cases r with
    | inl z =>
      obtain ⟨b', h1, h2⟩ := hr
      exact ⟨n - 1, by omega, i + 1, b', by omega, h1, h2⟩
    | inr r => exact hr
  · have e : i = l.length := by omega
    subst e
    refine (stop b hi).mono fun r hr => ?_
    cases r with
    | inl z => exact hr.elim
    | inr r => exact hr
theorem sel_t {α : Type} (x y : Option α) : sel true x y = x := rfl
theorem sel_f {α : Type} (x y : Option α) : sel false x y = y := rfl
theorem chk_t {α : Type} (x : Option α) : chk true x = x := rfl
theorem getD_lt {α : Type} {l : List α} {i : Nat} (h : i < l.length) (d : α) : l.getD i d = l[i] := by
  rw [List.getD_eq_getElem?_getD, List.getElem?_eq_getElem h]; rfl
theorem take_succ' {α : Type} {l : List α} {i : Nat} (h : i < l.length) : l.take (i + 1) = l.take i ++ [l[i]] := List.take_succ_eq_append_getElem h
theorem wi_succ {i : Nat} (h : i < 9223372036854775807) : wi64 ((i : Int) + 1) = ((i + 1 : Nat) : Int) := by
  rw [wi64_id] <;> omega
end Go.Proofs.YtgfmnpbcbpobbaaDoor.Am
