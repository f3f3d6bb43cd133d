/- One block of SHA-256: the program's and the document's are the same. No conditions. -/
import Derived.Test.YtfaceeglocjkbaaFAll
import Derived.Test.YtfaceeglocjkbaaPLoop
namespace Go.Proofs.Ytfaceeglocjkbaa.Am
open Go

/-- A loop, and one that goes on with its result. -/
theorem iter_bind {S S' R R' : Type} {G1 : S → Option (S ⊕ R)} {G2 : S' → Option (S' ⊕ R')} (f : S → S') (K : R → Option R') (inv : S → Prop)
    (h : ∀ x, inv x → G2 (f x) = (G1 x).bind (fun z => match z with | .inl y => some (.inl (f y)) | .inr r => (K r).map .inr) ∧ ∀ y, G1 x = some (.inl y) → inv y) : ∀ {x : S}, inv x → iterO G2 (f x) = (iterO G1 x).bind K := by
  have key : ∀ (n : Nat) (x : S), inv x → iter n G2 (f x) = (iter n G1 x).bind K := by
    intro n
    induction n with
    | zero => intro x _; rfl
    | succ n ih =>
      intro x hx
      obtain ⟨h1, h2⟩ := h x hx
      unfold iter
      rw [h1]
      cases hg : G1 x with
      | none => rfl
      | some y =>
        cases y with
        | inl z => exact ih z (h2 z hg)
        | inr r =>
          rw [Option.bind_some, Option.bind_some]
          dsimp only
          cases K r <;> rfl
  intro x hx
  exact key _ x hx
theorem bits_or_comm (k : IntKind) (a b : Int) : bits .or k a b = bits .or k b a := by
  unfold bits
  simp only [BitVec.or_comm]
def RotN (n : Int) : Prop := n = 2 ∨ n = 6 ∨ n = 7 ∨ n = 11 ∨ n = 13 ∨ n = 17 ∨ n = 18 ∨ n = 19 ∨ n = 22 ∨ n = 25
/-- Rotated to the right. -/
def rotR (x : Int) (n : Nat) : Int := bits .or .u32 (wu32 (x * 2 ^ (32 - n))) (x / 2 ^ n)
theorem right_rot (x : Int) : F_sha_right x 2 = some (rotR x 2) ∧ F_sha_right x 6 = some (rotR x 6) ∧ F_sha_right x 7 = some (rotR x 7) ∧ F_sha_right x 11 = some (rotR x 11) ∧ F_sha_right x 13 = some (rotR x 13) ∧ F_sha_right x 17 = some (rotR x 17) ∧ F_sha_right x 18 = some (rotR x 18) ∧ F_sha_right x 19 = some (rotR x 19) ∧ F_sha_right x 22 = some (rotR x 22) ∧ F_sha_right x 25 = some (rotR x 25) := by
  refine ⟨?_, ?_, ?_, ?_, ?_, ?_, ?_, ?_, ?_, ?_⟩ <;> kernel_rfl
theorem turn_rot (x : Int) : F_mempoolref4_turn x 2 = some (rotR x 2) ∧ F_mempoolref4_turn x 6 = some (rotR x 6) ∧ F_mempoolref4_turn x 7 = some (rotR x 7) ∧ F_mempoolref4_turn x 11 = some (rotR x 11) ∧ F_mempoolref4_turn x 13 = some (rotR x 13) ∧ F_mempoolref4_turn x 17 = some (rotR x 17) ∧ F_mempoolref4_turn x 18 = some (rotR x 18) ∧ F_mempoolref4_turn x 19 = some (rotR x 19) ∧ F_mempoolref4_turn x 22 = some (rotR x 22) ∧ F_mempoolref4_turn x 25 = some (rotR x 25) := by
  have h : ∀ n : Nat, n ≤ 32 → bits .or .u32 (x / 2 ^ n) (wu32 (x * 2 ^ (32 - n))) = rotR x n := fun n _ => bits_or_comm _ _ _
  refine ⟨(show _ = some (bits .or .u32 (x / 2 ^ 2) (wu32 (x * 2 ^ 30))) by kernel_rfl).trans (congrArg some (h 2 (by decide))), (show _ = some (bits .or .u32 (x / 2 ^ 6) (wu32 (x * 2 ^ 26))) by kernel_rfl).trans (congrArg some (h 6 (by decide))), (show _ = some (bits .or .u32 (x / 2 ^ 7) (wu32 (x * 2 ^ 25))) by kernel_rfl).trans (congrArg some (h 7 (by decide))), (show _ = some (bits .or .u32 (x / 2 ^ 11) (wu32 (x * 2 ^ 21))) by kernel_rfl).trans (congrArg some (h 11 (by decide))), (show _ = some (bits .or .u32 (x / 2 ^ 13) (wu32 (x * 2 ^ 19))) by kernel_rfl).trans (congrArg some (h 13 (by decide))), (show _ = some (bits .or .u32 (x / 2 ^ 17) (wu32 (x * 2 ^ 15))) by kernel_rfl).trans (congrArg some (h 17 (by decide))), (show _ = some (bits .or .u32 (x / 2 ^ 18) (wu32 (x * 2 ^ 14))) by kernel_rfl).trans (congrArg some (h 18 (by decide))), (show _ = some (bits .or .u32 (x / 2 ^ 19) (wu32 (x * 2 ^ 13))) by kernel_rfl).trans (congrArg some (h 19 (by decide))), (show _ = some (bits .or .u32 (x / 2 ^ 22) (wu32 (x * 2 ^ 10))) by kernel_rfl).trans (congrArg some (h 22 (by decide))), (show _ = some (bits .or .u32 (x / 2 ^ 25) (wu32 (x * 2 ^ 7))) by kernel_rfl).trans (congrArg some (h 25 (by decide)))⟩
theorem wu32_assoc (x a m : Int) : wu32 (wu32 (x + a) + m) = wu32 (x + wu32 (a + m)) := by
  unfold wu32
  rw [IntKind.wrap_u32, IntKind.wrap_u32, IntKind.wrap_u32, IntKind.wrap_u32]
  omega
theorem chk_bind {α β : Type} (b : Bool) (x : Option α) (f : α → Option β) : (chk b x).bind f = chk b (x.bind f) := by cases b <;> rfl
theorem sel_bind {α β : Type} (b : Bool) (x y : Option α) (f : α → Option β) : (sel b x y).bind f = sel b (x.bind f) (y.bind f) := by cases b <;> rfl
/-- The last additions. -/
theorem fin_eq (i : Int) (a z s : Vector Int 8) : F_mempoolref4_block_l4s i a z s = F_sha_words_block_l2s i a z s := by
  have : F_mempoolref4_block_l4 = F_sha_words_block_l2 := by kernel_rfl
  unfold F_mempoolref4_block_l4s F_sha_words_block_l2s
  rw [this]
theorem rounds_eq (i : Int) (a z : Vector Int 8) (w k : Vector Int 64) (s : Vector Int 8) : F_mempoolref4_block_l5s i a z w k s = F_sha_words_block_l3s i a z w k s := by
  have : F_mempoolref4_block_l5 = F_sha_words_block_l3 := by
    funext i a z w k s
    unfold F_mempoolref4_block_l5 F_sha_words_block_l3 F_mempoolref4_block_c3 F_sha_words_block_c1
    obtain ⟨r2, r6, _, r11, r13, _, _, _, r22, r25⟩ := right_rot (vget s 4 (0 : Int))
    obtain ⟨t2, t6, _, t11, t13, _, _, _, t22, t25⟩ := turn_rot (vget s 4 (0 : Int))
    obtain ⟨p2, p6, _, p11, p13, _, _, _, p22, p25⟩ := right_rot (vget s 0 (0 : Int))
    obtain ⟨q2, q6, _, q11, q13, _, _, _, q22, q25⟩ := turn_rot (vget s 0 (0 : Int))
    rw [r6, r11, r25, t6, t11, t25, p2, p13, p22, q2, q13, q22]
    simp only [Option.bind_some, fin_eq, wu32_assoc]
  unfold F_mempoolref4_block_l5s F_sha_words_block_l3s
  rw [this]
theorem sched2_eq (a : Vector Int 8) (z : Vector Int 8) (zz : Vector Int 64) (i : Int) (w : Vector Int 64) : F_mempoolref4_block_l6s i a z w = (F_sha_schedule_l2s i zz w).bind (F_mempoolref4_block_c2 a z) := by
  unfold F_mempoolref4_block_l6s F_sha_schedule_l2s
  refine iter_bind (G1 := fun v : Int × Vector Int 64 × Vector Int 64 => F_sha_schedule_l2 v.1 v.2.1 v.2.2) (G2 := fun v : Int × Vector Int 8 × Vector Int 8 × Vector Int 64 => F_mempoolref4_block_l6 v.1 v.2.1 v.2.2.1 v.2.2.2) (fun x => (x.1, a, z, x.2.2)) _ (fun _ => True) (fun x _ => ⟨?_, fun _ _ => trivial⟩) (x := (i, zz, w)) trivial
  obtain ⟨i, zz, w⟩ := x
  dsimp only
  unfold F_mempoolref4_block_l6 F_sha_schedule_l2
  obtain ⟨_, _, r7, _, _, _, r18, _⟩ := right_rot (vget w (Int.toNat (wi64 (i - 15))) (0 : Int))
  obtain ⟨_, _, t7, _, _, _, t18, _⟩ := turn_rot (vget w (Int.toNat (wi64 (i - 15))) (0 : Int))
  obtain ⟨_, _, _, _, _, p17, _, p19, _⟩ := right_rot (vget w (Int.toNat (wi64 (i - 2))) (0 : Int))
  obtain ⟨_, _, _, _, _, q17, _, q19, _⟩ := turn_rot (vget w (Int.toNat (wi64 (i - 2))) (0 : Int))
  rw [r7, r18, t7, t18, p17, p19, q17, q19]
  simp only [Option.bind_some, sel_bind, chk_bind]
theorem sched_eq (b : List UInt8) (a : Vector Int 8) (z : Vector Int 8) (zz : Vector Int 64) (i : Int) (w : Vector Int 64) : F_mempoolref4_block_l7s b i a z w = (F_sha_schedule_l3s b i zz w).bind (F_mempoolref4_block_c2 a z) := by
  unfold F_mempoolref4_block_l7s F_sha_schedule_l3s
  refine iter_bind (G1 := fun v : List UInt8 × Int × Vector Int 64 × Vector Int 64 => F_sha_schedule_l3 v.1 v.2.1 v.2.2.1 v.2.2.2) (G2 := fun v : List UInt8 × Int × Vector Int 8 × Vector Int 8 × Vector Int 64 => F_mempoolref4_block_l7 v.1 v.2.1 v.2.2.1 v.2.2.2.1 v.2.2.2.2) (fun x => (x.1, x.2.1, a, z, x.2.2.2)) _ (fun _ => True) (fun x _ => ⟨?_, fun _ _ => trivial⟩) (x := (b, i, zz, w)) trivial
  obtain ⟨b, i, zz, w⟩ := x
  dsimp only
  unfold F_mempoolref4_block_l7 F_sha_schedule_l3 F_mempoolref4_block_c1 F_sha_schedule_c1
  rw [sched2_eq a z zz]
  simp only [Option.bind_some, sel_bind, chk_bind]
  congr 1
  cases F_sha_schedule_l2s 16 zz w with
  | none => rfl
  | some r => rfl
theorem consts_eq : F_mempoolref4_constants = F_sha_rounds := by kernel_rfl
theorem c2_eq (a z : Vector Int 8) (w : Vector Int 64) : F_mempoolref4_block_c2 a z w = Option.bind F_sha_rounds fun k => F_sha_words_block_l3s 0 a z w k a :=
  (congrArg (fun c => Option.bind c fun r1 => F_mempoolref4_block_l5s 0 a z w r1 a) consts_eq).trans (congrArg (Option.bind F_sha_rounds) (funext fun k => rounds_eq 0 a z w k a))
theorem block_eq (a : Vector Int 8) (b : List UInt8) : F_mempoolref4_block a b = F_sha_words_block a b := by
  unfold F_mempoolref4_block F_sha_words_block F_sha_schedule
  rw [sched_eq b a _ (Vector.replicate 64 (0 : Int))]
  exact congrArg (Option.bind (F_sha_schedule_l3s b 0 (Vector.replicate 64 (0 : Int)) (Vector.replicate 64 (0 : Int)))) (funext fun w => c2_eq a _ w)
end Go.Proofs.Ytfaceeglocjkbaa.Am
