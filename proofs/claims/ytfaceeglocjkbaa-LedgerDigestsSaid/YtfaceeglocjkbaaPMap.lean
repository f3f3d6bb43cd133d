/- Maps as lists of keys with elements; places in sorted lists. No conditions. -/
import Derived.Test.YtfaceeglocjkbaaKD
import Derived.Test.YtfaceeglocjkbaaPLoop
namespace Go.Proofs.Ytfaceeglocjkbaa.Am
open Go

def KeyEq {α : Type} (eq : α → α → Bool) : Prop := ∀ a b, eq a b = true ↔ a = b
theorem intEq_ok : KeyEq intEq := fun a b => by simp [intEq]
theorem strEq_ok : KeyEq strEq := fun a b => by simp [strEq]
section
variable {α β : Type} {eq : α → α → Bool}
theorem keysOf_cons (p : α × β) (l : List (α × β)) : keysOf (p :: l) = p.1 :: keysOf l := rfl
theorem keysOf_len (l : List (α × β)) : (keysOf l).length = l.length := List.length_map ..
theorem keysOf_perm {l l' : List (α × β)} (h : l.Perm l') : (keysOf l).Perm (keysOf l') := h.map _
theorem mem_keysOf {k : α} {l : List (α × β)} : k ∈ keysOf l ↔ ∃ v, (k, v) ∈ l := by
  unfold keysOf
  rw [List.mem_map]
  exact ⟨fun ⟨p, h, e⟩ => ⟨p.2, by rw [← e]; exact h⟩, fun ⟨v, h⟩ => ⟨_, h, rfl⟩⟩
theorem mIdx_isSome (he : KeyEq eq) (k : α) : ∀ l : List (α × β), (mIdx eq k l).isSome = true ↔ k ∈ keysOf l
  | [] => by simp [mIdx, keysOf]
  | p :: l => by
    rw [keysOf_cons, List.mem_cons, ← mIdx_isSome he k l, ← he]
    show (if eq k p.1 = true then some 0 else (mIdx eq k l).map (· + 1)).isSome = true ↔ _
    by_cases h : eq k p.1 = true <;> simp [h]
theorem mIdx_none (he : KeyEq eq) {k : α} {l : List (α × β)} (h : k ∉ keysOf l) : mIdx eq k l = none := by
  cases hm : mIdx eq k l with
  | none => rfl
  | some i => exact (h ((mIdx_isSome he k l).1 (by rw [hm]; rfl))).elim
theorem mGet_none (he : KeyEq eq) {k : α} {d : β} {l : List (α × β)} (h : k ∉ keysOf l) : mGet eq k d l = d := by
  unfold mGet; rw [mIdx_none he h]; rfl
theorem mSet_new (he : KeyEq eq) {k : α} {v : β} {l : List (α × β)} (h : k ∉ keysOf l) : mSet eq k v l = l ++ [(k, v)] := by
  unfold mSet; rw [mIdx_none he h]
theorem mDel_none (he : KeyEq eq) {k : α} {l : List (α × β)} (h : k ∉ keysOf l) : mDel eq k l = l := by
  unfold mDel; rw [mIdx_none he h]
theorem mIdx_mem (he : KeyEq eq) {k : α} {v : β} : ∀ {l : List (α × β)}, (keysOf l).Nodup → (k, v) ∈ l → ∃ i, mIdx eq k l = some i ∧ l[i]? = some (k, v)
  | p :: l, hnd, hm => by
    rw [keysOf_cons, List.nodup_cons] at hnd
    unfold mIdx
    rcases List.mem_cons.1 hm with e | hm
    · subst e
      exact ⟨0, by simp [(he k k).2 rfl], rfl⟩
    · have hne : ¬ eq k p.1 = true := fun e => hnd.1 (by rw [← (he _ _).1 e]; exact mem_keysOf.2 ⟨v, hm⟩)
      obtain ⟨i, h1, h2⟩ := mIdx_mem he hnd.2 hm
      exact ⟨i + 1, by rw [if_neg hne, h1]; rfl, by simpa using h2⟩
theorem mGet_mem (he : KeyEq eq) {k : α} {v d : β} {l : List (α × β)} (hnd : (keysOf l).Nodup) (hm : (k, v) ∈ l) : mGet eq k d l = v := by
  obtain ⟨i, h1, h2⟩ := mIdx_mem he hnd hm
  unfold mGet
  rw [h1, Option.bind_some, h2]; rfl
theorem erase_perm {γ : Type} {l : List γ} {i : Nat} (h : i < l.length) : (l[i] :: l.eraseIdx i).Perm l := by
  rw [List.eraseIdx_eq_take_drop_succ]
  refine List.perm_middle.symm.trans ?_
  rw [List.getElem_cons_drop, List.take_append_drop]
theorem set_perm {γ : Type} {l : List γ} {i : Nat} (h : i < l.length) (a : γ) : (l.set i a).Perm (a :: l.eraseIdx i) := by
  rw [List.eraseIdx_eq_take_drop_succ, List.set_eq_take_append_cons_drop, if_pos h]
  exact List.perm_middle
theorem mDel_perm (he : KeyEq eq) {k : α} {v : β} {l : List (α × β)} (hnd : (keysOf l).Nodup) (hm : (k, v) ∈ l) : ((k, v) :: mDel eq k l).Perm l := by
  obtain ⟨i, h1, h2⟩ := mIdx_mem he hnd hm
  unfold mDel
  rw [h1]
  obtain ⟨h3, h4⟩ := List.getElem?_eq_some_iff.1 h2
  have := erase_perm h3
  rw [h4] at this
  exact this
theorem mSet_old (he : KeyEq eq) {k : α} {v v0 : β} {l : List (α × β)} (hnd : (keysOf l).Nodup) (hm : (k, v0) ∈ l) : (mSet eq k v l).Perm ((k, v) :: mDel eq k l) := by
  obtain ⟨i, h1, h2⟩ := mIdx_mem he hnd hm
  unfold mSet mDel
  rw [h1]
  obtain ⟨h3, _⟩ := List.getElem?_eq_some_iff.1 h2
  exact set_perm h3 _
/-! ### Places in sorted lists -/
/-- What holds of an element holds of those before it. -/
def Pre (P : α → Bool) (m : List α) : Prop := m.Pairwise fun a b => P b = true → P a = true
theorem pre_none {P : α → Bool} {m : List α} (h : ∀ x ∈ m, P x = false) : m.countP P = 0 ∧ m.filter P = [] ∧ m.filter (fun x => !P x) = m := by
  refine ⟨List.countP_eq_zero.2 fun x hx => by rw [h x hx]; simp, List.filter_eq_nil_iff.2 fun x hx => by rw [h x hx]; simp, List.filter_eq_self.2 fun x hx => by rw [h x hx]; rfl⟩
theorem pre_take {P : α → Bool} : ∀ {m : List α}, Pre P m → m.take (m.countP P) = m.filter P ∧ m.drop (m.countP P) = m.filter (fun x => !P x)
  | [], _ => ⟨rfl, rfl⟩
  | x :: m, h => by
    unfold Pre at h
    rw [List.pairwise_cons] at h
    cases hx : P x with
    | true =>
      obtain ⟨h1, h2⟩ := pre_take (m := m) h.2
      rw [List.countP_cons_of_pos hx, List.take_succ_cons, List.drop_succ_cons, h1, h2, List.filter_cons_of_pos hx, List.filter_cons_of_neg (by simp [hx])]
      exact ⟨rfl, rfl⟩
    | false =>
      have hn : ∀ y ∈ m, P y = false := fun y hy => by
        cases hy' : P y with
        | false => rfl
        | true => have := h.1 y hy hy'; rw [hx] at this; cases this
      obtain ⟨h1, h2, h3⟩ := pre_none hn
      rw [List.countP_cons_of_neg (by simp [hx]), h1, List.filter_cons_of_neg (by simp [hx]), h2, List.filter_cons_of_pos (by simp [hx]), h3]
      exact ⟨rfl, rfl⟩
theorem pre_count {P : α → Bool} {m : List α} (h : Pre P m) {i : Nat} (hi : i < m.length) (hp : P m[i] = true) : (m.take (i + 1)).countP P = i + 1 := by
  have hl : (m.take (i + 1)).length = i + 1 := by rw [List.length_take]; omega
  rw [← hl]
  rw [List.countP_eq_length.2]
  · rw [hl]; rw [hl]
  · intro x hx
    obtain ⟨j, hj, rfl⟩ := List.getElem_of_mem hx
    rw [List.getElem_take]
    rw [hl] at hj
    rcases Nat.lt_or_ge j i with hlt | hge
    · exact List.pairwise_iff_getElem.1 h j i (by omega) hi hlt hp
    · have : j = i := by omega
      subst this; exact hp
theorem count_skip {P : α → Bool} {m : List α} {i : Nat} (hi : i < m.length) (hp : P m[i] = false) : (m.take (i + 1)).countP P = (m.take i).countP P := by
  rw [take_succ' hi, List.countP_append]
  simp [hp]
theorem part_perm (P : α → Bool) (m : List α) (x : α) : (m.filter P ++ [x] ++ m.filter (fun y => !P y)).Perm (x :: m) := by
  refine List.Perm.trans ?_ ((List.filter_append_perm P m).cons x)
  rw [List.append_assoc]
  exact List.perm_middle
end
end Go.Proofs.Ytfaceeglocjkbaa.Am
