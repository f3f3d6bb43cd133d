/- Lists: places, swaps; stable sorting in plain lists. No conditions. -/
import Derived.Test.YthmfeknfiekcmaaKC
namespace Go.Proofs.Ythmfeknfiekcmaa.Am
open Go

section
variable {α : Type}
theorem getD_at {A B : List α} {x d : α} {i : Nat} (h : i = A.length) : (A ++ x :: B).getD i d = x := by
  subst h; simp
theorem set_at {A B : List α} {x y : α} {i : Nat} (h : i = A.length) : (A ++ x :: B).set i y = A ++ y :: B := by
  subst h; simp [List.set_append]
theorem swap_at {A M B : List α} {x y d : α} {i j : Nat} (hi : i = A.length) (hj : j = A.length + 1 + M.length) :
    ((A ++ x :: (M ++ y :: B)).set i ((A ++ x :: (M ++ y :: B)).getD j d)).set j ((A ++ x :: (M ++ y :: B)).getD i d) = A ++ y :: (M ++ x :: B) := by
  have e1 : (A ++ x :: (M ++ y :: B)).getD i d = x := getD_at hi
  have e2 : A ++ x :: (M ++ y :: B) = (A ++ x :: M) ++ y :: B := by simp
  have e3 : (A ++ x :: (M ++ y :: B)).getD j d = y := by rw [e2]; exact getD_at (by simp; omega)
  rw [e1, e3, set_at hi]
  have e4 : A ++ y :: (M ++ y :: B) = (A ++ y :: M) ++ y :: B := by simp
  rw [e4, set_at (by simp; omega)]
  simp
theorem swap_at' {A M B : List α} {x y d : α} {i j : Nat} (hi : i = A.length) (hj : j = A.length + 1 + M.length) :
    ((A ++ x :: (M ++ y :: B)).set j ((A ++ x :: (M ++ y :: B)).getD i d)).set i ((A ++ x :: (M ++ y :: B)).getD j d) = A ++ y :: (M ++ x :: B) := by
  rw [List.set_comm _ _ (by omega)]
  exact swap_at hi hj
/-- 'l' cut at 'i'. -/
theorem cut_at {l : List α} {i : Nat} (h : i ≤ l.length) : ∃ A B, l = A ++ B ∧ A.length = i := ⟨l.take i, l.drop i, (List.take_append_drop i l).symm, by simp; omega⟩
theorem cut_snoc {l : List α} (h : 0 < l.length) : ∃ A x, l = A ++ [x] := by
  have hne : l ≠ [] := by intro e; rw [e] at h; simp at h
  exact ⟨l.dropLast, l.getLast hne, (List.dropLast_concat_getLast hne).symm⟩
theorem cut_cons {l : List α} (h : 0 < l.length) : ∃ x A, l = x :: A := by
  cases l with
  | nil => simp at h
  | cons x A => exact ⟨x, A, rfl⟩
theorem snoc_ind {p : List α → Prop} (h0 : p []) (h1 : ∀ l x, p l → p (l ++ [x])) (l : List α) : p l := by
  have : ∀ m : List α, p m.reverse := by
    intro m
    induction m with
    | nil => exact h0
    | cons x m ih => rw [List.reverse_cons]; exact h1 _ _ ih
  have h := this l.reverse
  rwa [List.reverse_reverse] at h
end
/-! ### Sorting by insertion from the right -/
section
variable {α : Type} (lt : α → α → Bool)
def insA (x : α) : List α → List α
  | [] => [x]
  | y :: ys => if lt x y then y :: insA x ys else x :: y :: ys
def insR (x : α) (s : List α) : List α := (insA lt x s.reverse).reverse
def ssort (l : List α) : List α := l.foldl (fun s x => insR lt x s) []
theorem insR_nil (x : α) : insR lt x [] = [x] := rfl
theorem insR_snoc (x y : α) (s : List α) : insR lt x (s ++ [y]) = if lt x y then insR lt x s ++ [y] else s ++ [y, x] := by
  unfold insR
  rw [List.reverse_append]
  simp only [List.reverse_cons, List.reverse_nil, List.nil_append, List.cons_append, insA]
  split <;> simp
theorem ssort_snoc (l : List α) (x : α) : ssort lt (l ++ [x]) = insR lt x (ssort lt l) := by
  unfold ssort; rw [List.foldl_append]; rfl
theorem ssort_nil : ssort lt [] = [] := rfl
theorem insR_len (x : α) (s : List α) : (insR lt x s).length = s.length + 1 := by
  have : ∀ t : List α, (insA lt x t).length = t.length + 1 := by
    intro t
    induction t with
    | nil => rfl
    | cons y t ih => unfold insA; split <;> simp [ih]
  simp [insR, this]
theorem ssort_len : ∀ (l : List α), (ssort lt l).length = l.length := by
  intro l
  induction l using snoc_ind with
  | h0 => rfl
  | h1 l x ih => rw [ssort_snoc, insR_len, ih]; simp
theorem insR_mem (x z : α) (s : List α) : z ∈ insR lt x s ↔ z = x ∨ z ∈ s := by
  have : ∀ t : List α, z ∈ insA lt x t ↔ z = x ∨ z ∈ t := by
    intro t
    induction t with
    | nil => simp [insA]
    | cons y t ih =>
      unfold insA
      split
      · simp only [List.mem_cons, ih]
        constructor
        · rintro (h | h | h)
          · exact .inr (.inl h)
          · exact .inl h
          · exact .inr (.inr h)
        · rintro (h | h | h)
          · exact .inr (.inl h)
          · exact .inl h
          · exact .inr (.inr h)
      · simp only [List.mem_cons]
  simp [insR, this]
/-- 'less' is a strict order of classes. -/
structure Swo : Prop where
  irr : ∀ a, lt a a = false
  asy : ∀ a b, lt a b = true → lt b a = false
  tr : ∀ a b c, lt a b = false → lt b c = false → lt a c = false
def Srt (l : List α) : Prop := l.Pairwise fun a b => lt b a = false
def eqv (x y : α) : Bool := !lt x y && !lt y x
variable {lt}
theorem eqv_iff {x y : α} : eqv lt x y = true ↔ lt x y = false ∧ lt y x = false := by simp [eqv]
theorem Swo.eqv_refl (h : Swo lt) (x : α) : eqv lt x x = true := eqv_iff.2 ⟨h.irr x, h.irr x⟩
theorem Swo.eqv_symm {x y : α} (e : eqv lt x y = true) : eqv lt y x = true := eqv_iff.2 ⟨(eqv_iff.1 e).2, (eqv_iff.1 e).1⟩
theorem Swo.eqv_trans (h : Swo lt) {x y z : α} (e : eqv lt x y = true) (k : eqv lt y z = true) : eqv lt x z = true :=
  eqv_iff.2 ⟨h.tr _ _ _ (eqv_iff.1 e).1 (eqv_iff.1 k).1, h.tr _ _ _ (eqv_iff.1 k).2 (eqv_iff.1 e).2⟩
/-- The classes are as they were, in order. -/
def SameF (l m : List α) : Prop := ∀ x, l.filter (eqv lt x) = m.filter (eqv lt x)
theorem SameF.mem (h : Swo lt) {l m : List α} (e : SameF (lt := lt) l m) {x : α} (hx : x ∈ l) : x ∈ m := by
  have h1 : x ∈ l.filter (eqv lt x) := List.mem_filter.2 ⟨hx, h.eqv_refl x⟩
  rw [e x] at h1
  exact (List.mem_filter.1 h1).1
theorem SameF.refl (l : List α) : SameF (lt := lt) l l := fun _ => rfl
theorem SameF.symm {l m : List α} (e : SameF (lt := lt) l m) : SameF (lt := lt) m l := fun x => (e x).symm
theorem SameF.trans {l m n : List α} (e : SameF (lt := lt) l m) (k : SameF (lt := lt) m n) : SameF (lt := lt) l n := fun x => (e x).trans (k x)
theorem SameF.app {l m l' m' : List α} (e : SameF (lt := lt) l m) (k : SameF (lt := lt) l' m') : SameF (lt := lt) (l ++ l') (m ++ m') := fun x => by
  rw [List.filter_append, List.filter_append, e x, k x]
/-- Two parts of which each of the one is less than each of the other change places. -/
theorem SameF.comm (h : Swo lt) {A B : List α} (hlt : ∀ a ∈ A, ∀ b ∈ B, lt b a = true) : SameF (lt := lt) (A ++ B) (B ++ A) := fun x => by
  rw [List.filter_append, List.filter_append]
  cases hA : A.filter (eqv lt x) with
  | nil => simp
  | cons a as =>
    cases hB : B.filter (eqv lt x) with
    | nil => simp
    | cons b bs =>
      have ha : a ∈ A.filter (eqv lt x) := by rw [hA]; simp
      have hb : b ∈ B.filter (eqv lt x) := by rw [hB]; simp
      obtain ⟨ha1, ha2⟩ := List.mem_filter.1 ha
      obtain ⟨hb1, hb2⟩ := List.mem_filter.1 hb
      have := h.eqv_trans (Swo.eqv_symm hb2) ha2
      have h1 := hlt a ha1 b hb1
      rw [(eqv_iff.1 this).1] at h1
      cases h1
theorem srt_uniq (h : Swo lt) : ∀ {l m : List α}, Srt lt l → Srt lt m → SameF (lt := lt) l m → l = m
  | [], [], _, _, _ => rfl
  | [], b :: m, _, _, e => by
    have := e.symm.mem h (x := b) (by simp)
    simp at this
  | a :: l, [], _, _, e => by
    have := e.mem h (x := a) (by simp)
    simp at this
  | a :: l, b :: m, hl, hm, e => by
    have ha : a ∈ b :: m := e.mem h (by simp)
    have hb : b ∈ a :: l := e.symm.mem h (by simp)
    unfold Srt at hl hm
    rw [List.pairwise_cons] at hl hm
    have h1 : lt a b = false := by
      rcases List.mem_cons.1 ha with rfl | ha
      · exact h.irr _
      · exact hm.1 a ha
    have h2 : lt b a = false := by
      rcases List.mem_cons.1 hb with rfl | hb
      · exact h.irr _
      · exact hl.1 b hb
    have e1 := e a
    rw [List.filter_cons_of_pos (h.eqv_refl a), List.filter_cons_of_pos (eqv_iff.2 ⟨h1, h2⟩)] at e1
    injection e1 with e1 _
    subst e1
    refine congrArg (a :: ·) (srt_uniq h hl.2 hm.2 fun x => ?_)
    have e2 := e x
    cases hx : eqv lt x a with
    | true =>
      rw [List.filter_cons_of_pos hx, List.filter_cons_of_pos hx] at e2
      injection e2
    | false =>
      rw [List.filter_cons_of_neg (by simp [hx]), List.filter_cons_of_neg (by simp [hx])] at e2
      exact e2
theorem insR_srt (h : Swo lt) (x : α) : ∀ {s : List α}, Srt lt s → Srt lt (insR lt x s) ∧ SameF (lt := lt) (insR lt x s) (s ++ [x]) := by
  intro s
  induction s using snoc_ind with
  | h0 => intro _; exact ⟨by simp [insR_nil, Srt], SameF.refl _⟩
  | h1 s y ih =>
    intro hs
    unfold Srt at hs
    rw [List.pairwise_append] at hs
    obtain ⟨h1, _, h3⟩ := hs
    obtain ⟨i1, i2⟩ := ih h1
    rw [insR_snoc]
    split
    · rename_i hxy
      refine ⟨?_, ?_⟩
      · unfold Srt
        rw [List.pairwise_append]
        refine ⟨i1, by simp, fun a ha b hb => ?_⟩
        simp only [List.mem_singleton] at hb
        subst hb
        rcases (insR_mem lt x a s).1 ha with rfl | ha
        · exact h.asy _ _ hxy
        · exact h3 a ha b (by simp)
      · refine (i2.app (SameF.refl [y])).trans ?_
        rw [List.append_assoc, List.append_assoc]
        refine (SameF.refl s).app ?_
        have := SameF.comm h (A := [y]) (B := [x]) (by simpa using hxy)
        exact this.symm
    · rename_i hxy
      have hxy' : lt x y = false := by simpa using hxy
      refine ⟨?_, by simpa using SameF.refl _⟩
      unfold Srt
      rw [List.pairwise_append]
      refine ⟨h1, by simpa using hxy', fun a ha b hb => ?_⟩
      simp only [List.mem_cons, List.not_mem_nil, or_false] at hb
      have hay := h3 a ha y (by simp)
      rcases hb with rfl | rfl
      · exact hay
      · exact h.tr _ _ _ hxy' hay
theorem ssort_srt (h : Swo lt) : ∀ (l : List α), Srt lt (ssort lt l) ∧ SameF (lt := lt) (ssort lt l) l := by
  intro l
  induction l using snoc_ind with
  | h0 => exact ⟨by simp [ssort, Srt], SameF.refl _⟩
  | h1 l x ih =>
    rw [ssort_snoc]
    obtain ⟨h1, h2⟩ := insR_srt h x ih.1
    exact ⟨h1, h2.trans (ih.2.app (SameF.refl [x]))⟩
theorem ssort_mem (h : Swo lt) {l : List α} {x : α} : x ∈ ssort lt l ↔ x ∈ l := ⟨fun hx => (ssort_srt h l).2.mem h hx, fun hx => (ssort_srt h l).2.symm.mem h hx⟩
end
end Go.Proofs.Ythmfeknfiekcmaa.Am
