/- Messages as fields: the plain laws (no program in sight). No conditions. -/
import Derived.Test.YtppefbmeogoibaaVarPlain
namespace Go.Proofs.Ytppefbmeogoibaa
open Go.RowKit

/-- A field of a message. -/
structure Fld where
  num : Int
  kind : Int
  val : Nat
  byt : List UInt8
def Fld.zero : Fld := ⟨0, 0, 0, []⟩
/-- A field's four cells. -/
def Rep.fld : Rep Fld where
  sz := 4
  At w S cs f := ∃ v, cs = [.int .i64 f.num, .int .i64 f.kind, .int .u64 f.val, v] ∧ SliceAt Rep.u8 w S v f.byt ∧ f.val < U64 ∧ (-9223372036854775808 ≤ f.num ∧ f.num ≤ 9223372036854775807) ∧ (-9223372036854775808 ≤ f.kind ∧ f.kind ≤ 9223372036854775807)
  len := by rintro w S cs a ⟨v, rfl, _⟩; rfl
  keep := by
    rintro w w' S cs a ⟨v, rfl, h, h2⟩ hs
    obtain ⟨A, n, c, rfl, hl⟩ := h.open_
    exact ⟨_, rfl, (hl.keep hs).shut, h2⟩
  mono := by
    rintro w S S' cs a ⟨v, rfl, h, h2⟩ hs
    obtain ⟨A, n, c, rfl, hl⟩ := h.open_
    exact ⟨_, rfl, (hl.mono hs).shut, h2⟩
/-- A field is valid. -/
def Fld.ok (f : Fld) : Bool := decide (1 ≤ f.num ∧ f.num ≤ 536870911 ∧ (f.kind = 0 ∧ f.byt.length = 0 ∨ f.kind = 2 ∧ f.val = 0))
/-- The tag. -/
def Fld.tag (f : Fld) : Nat := (8 * f.num + f.kind).toNat
/-- The encoding of a valid field. -/
def Fld.enc (f : Fld) : List UInt8 := Proofs.Ytppefbmeogoibaa.enc f.tag ++ if f.kind = 0 then Proofs.Ytppefbmeogoibaa.enc f.val else Proofs.Ytppefbmeogoibaa.enc f.byt.length ++ f.byt
/-- A field's parts, opened. -/
structure FldIs (w : World) (S : Nat → Prop) (A : Option Addr) (n c : Nat) (f : Fld) : Prop where
  sl : Sl Rep.u8 w S A n c f.byt
  val : f.val < U64
  num : -9223372036854775808 ≤ f.num ∧ f.num ≤ 9223372036854775807
  kind : -9223372036854775808 ≤ f.kind ∧ f.kind ≤ 9223372036854775807
theorem Rep.fld_open {w : World} {S : Nat → Prop} {cs : List Value} {f : Fld} (h : Rep.fld.At w S cs f) : ∃ A n c, cs = [.int .i64 f.num, .int .i64 f.kind, .int .u64 f.val, .slice A n c] ∧ FldIs w S A n c f := by
  obtain ⟨v, rfl, h, h2, h3, h4⟩ := h
  obtain ⟨A, n, c, rfl, hl⟩ := h.open_
  exact ⟨A, n, c, rfl, hl, h2, h3, h4⟩
theorem FldIs.shut {w : World} {S : Nat → Prop} {A : Option Addr} {n c : Nat} {f : Fld} (h : FldIs w S A n c f) : Rep.fld.At w S [.int .i64 f.num, .int .i64 f.kind, .int .u64 f.val, .slice A n c] f :=
  ⟨_, rfl, h.sl.shut, h.val, h.num, h.kind⟩
theorem FldIs.keep {w w' : World} {S : Nat → Prop} {A : Option Addr} {n c : Nat} {f : Fld} (h : FldIs w S A n c f) (hs : Same S w w') : FldIs w' S A n c f := ⟨h.sl.keep hs, h.val, h.num, h.kind⟩
theorem FldIs.all {w : World} {S : Nat → Prop} {A : Option Addr} {n c : Nat} {f : Fld} (h : FldIs w S A n c f) : FldIs w All A n c f := ⟨h.sl.all, h.val, h.num, h.kind⟩
theorem Fld.tag_lt (f : Fld) (h : f.ok = true) : f.tag < U64 ∧ (f.tag : Int) = 8 * f.num + f.kind ∧ f.tag < 4294967296 := by
  simp only [Fld.ok, decide_eq_true_eq] at h
  unfold Fld.tag U64
  omega
/-- What 'read' returns: the field, its size, the error. -/
def rdFld (b : List UInt8) : Fld × Nat × Nat :=
  if (rd b).2.2 ≠ 0 then (Fld.zero, 0, (rd b).2.2)
  else if (rd b).1 / 8 < 1 ∨ 536870911 < (rd b).1 / 8 ∨ ((rd b).1 % 8 ≠ 0 ∧ (rd b).1 % 8 ≠ 2) then (Fld.zero, 0, 4)
  else if (rd (b.drop (rd b).2.1)).2.2 ≠ 0 then (Fld.zero, 0, (rd (b.drop (rd b).2.1)).2.2)
  else if (rd b).1 % 8 = 0 then (⟨((rd b).1 / 8 : Nat), 0, (rd (b.drop (rd b).2.1)).1, []⟩, (rd b).2.1 + (rd (b.drop (rd b).2.1)).2.1, 0)
  else if b.length - (rd b).2.1 - (rd (b.drop (rd b).2.1)).2.1 < (rd (b.drop (rd b).2.1)).1 then (Fld.zero, 0, 5)
  else (⟨((rd b).1 / 8 : Nat), 2, 0, (b.drop ((rd b).2.1 + (rd (b.drop (rd b).2.1)).2.1)).take (rd (b.drop (rd b).2.1)).1⟩, (rd b).2.1 + (rd (b.drop (rd b).2.1)).2.1 + (rd (b.drop (rd b).2.1)).1, 0)
theorem fld0 (w : World) (S : Nat → Prop) : FldIs w S none 0 0 Fld.zero := ⟨Sl.nil_ _ _ _, by unfold U64; simp [Fld.zero], by simp [Fld.zero], by simp [Fld.zero]⟩
theorem rdFld_bounds (b : List UInt8) : (rdFld b).2.1 ≤ b.length ∧ ((rdFld b).2.2 = 0 → 1 ≤ (rdFld b).2.1) ∧ (rdFld b).2.2 < 7 ∧ (rdFld b).1.byt.length ≤ b.length := by
  have h1 := rd_lt b
  have h2 := rd_lt (b.drop (rd b).2.1)
  have h3 := (rd_inv b).2
  rw [List.length_drop] at h2
  unfold rdFld
  split
  · simp [Fld.zero]; omega
  split
  · simp [Fld.zero]
  split
  · simp [Fld.zero]; omega
  rename_i e1 _ e2
  have e1' : (rd b).2.2 = 0 := by omega
  have := h3 e1'
  split
  · simp; omega
  split
  · simp [Fld.zero]
  · simp; omega
/-- What 'Fields' returns of the rest 'b' of a message, of which 'at' bytes are read and 'acc' are the fields so far. -/
def fldsF : Nat → List UInt8 → Nat → List Fld → List Fld × Nat × Nat
  | 0, _, _, acc => (acc, 0, 0)
  | k + 1, b, at_, acc => if b.length = 0 then (acc, 0, 0) else if acc.length = 1024 then ([], at_, 3) else if (rdFld b).2.2 ≠ 0 then ([], at_, (rdFld b).2.2)
    else fldsF k (b.drop (rdFld b).2.1) (at_ + (rdFld b).2.1) (acc ++ [(rdFld b).1])
def flds (b : List UInt8) : List Fld × Nat × Nat := fldsF (b.length + 1) b 0 []
end Go.Proofs.Ytppefbmeogoibaa
