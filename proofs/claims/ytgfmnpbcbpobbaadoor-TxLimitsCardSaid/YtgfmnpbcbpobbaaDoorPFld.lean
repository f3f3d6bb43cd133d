/- Messages as fields: the plain laws (no program in sight). No conditions. -/
import Derived.Test.YtgfmnpbcbpobbaaDoorPVar
namespace Go.Proofs.YtgfmnpbcbpobbaaDoor.Am
open Go

/-- A field of a message. -/
structure Fld where
  num : Int
  kind : Int
  val : Nat
  byt : List UInt8
def Fld.zero : Fld := ⟨0, 0, 0, []⟩
/-- A field is valid. -/
def Fld.ok (f : Fld) : Bool := decide (1 ≤ f.num ∧ f.num ≤ 536870911 ∧ (f.kind = 0 ∧ f.byt.length = 0 ∨ f.kind = 2 ∧ f.val = 0))
/-- The tag. -/
def Fld.tag (f : Fld) : Nat := (8 * f.num + f.kind).toNat
/-- The encoding of a valid field. -/
def Fld.enc (f : Fld) : List UInt8 := Proofs.YtgfmnpbcbpobbaaDoor.Am.enc f.tag ++ if f.kind = 0 then Proofs.YtgfmnpbcbpobbaaDoor.Am.enc f.val else Proofs.YtgfmnpbcbpobbaaDoor.Am.enc f.byt.length ++ f.byt
theorem Fld.tag_lt (f : Fld) (h : f.ok = true) : f.tag < U64 ∧ (f.tag : Int) = 8 * f.num + f.kind ∧ f.tag < 4294967296 := by
  simp only [Fld.ok, decide_eq_true_eq] at h
  unfold Fld.tag U64
  omega
/-- What 'read' returns: the field, its size, the error. -/
def rdFld (b : List UInt8) : Fld × Nat × Nat :=
  if (rd b).2.2 ≠ 0 then (Fld.zero, 0, (rd b).2.2)
  else if (rd b).1 / 8 < 1 ∨ 536870911 < (rd b).1 / 8 ∨ ((rd b).1 % 8 ≠ 0 ∧ (rd b).1 % 8 ≠ 2) then (Fld.zero, 0, 4)
  else if (rd (b.drop (rd b).2.1)).2.2 ≠ 0 then (Fld.zero, 0, (rd (b.drop (rd b).2.1)).2.2)
  else if (rd b).1 % 8 = 0 then (⟨((rd b).1 / 8 : Nat), 0, (rd (b.drop (rd b).2.1)).1, []⟩, (rd b).2.1 + (rd (b.drop (rd b).2.1)).2.1, 0)
  else if b.length - (rd b).2.1 - (rd (b.drop (rd b).2.1)).2.1 < (rd (b.drop (rd b).2.1)).1 then (Fld.zero, 0, 5)
  else (⟨((rd b).1 / 8 : Nat), 2, 0, (b.drop ((rd b).2.1 + (rd (b.drop (rd b).2.1)).2.1)).take (rd (b.drop (rd b).2.1)).1⟩, (rd b).2.1 + (rd (b.drop (rd b).2.1)).2.1 + (rd (b.drop (rd b).2.1)).1, 0)
theorem rdFld_bounds (b : List UInt8) : (rdFld b).2.1 ≤ b.length ∧ ((rdFld b).2.2 = 0 → 1 ≤ (rdFld b).2.1) ∧ (rdFld b).2.2 < 7 ∧ (rdFld b).1.byt.length ≤ b.length := by
  have h1 := rd_lt b
  have h2 := rd_lt (b.drop (rd b).2.1)
  have h3 := (rd_inv b).2
  rw [List.length_drop] at h2
  unfold rdFld
  split
  · simp [Fld.zero]; omega
  split
  · simp [Fld.zero]
  split
  · simp [Fld.zero]; omega
  rename_i e1 _ e2
  have e1' : (rd b).2.2 = 0 := by omega
  have := h3 e1'
  split
  · simp; omega
  split
  · simp [Fld.zero]
  · simp; omega
/-- What 'Fields' returns of the rest 'b' of a message, of which 'at' bytes are read and 'acc' are the fields so far. -/
def fldsF : Nat → List UInt8 → Nat → List Fld → List Fld × Nat × Nat
  | 0, _, _, acc => (acc, 0, 0)
  | k + 1, b, at_, acc => if b.length = 0 then (acc, 0, 0) else if acc.length = 1024 then ([], at_, 3) else if (rdFld b).2.2 ≠ 0 then ([], at_, (rdFld b).2.2)
    else fldsF k (b.drop (rdFld b).2.1) (at_ + (rdFld b).2.1) (acc ++ [(rdFld b).1])
def flds (b : List UInt8) : List Fld × Nat × Nat := fldsF (b.length + 1) b 0 []
/-- The encoding of some fields. -/
def encs (l : List Fld) : List UInt8 := (l.map Fld.enc).flatten
theorem encs_snoc (l : List Fld) (f : Fld) : encs (l ++ [f]) = encs l ++ f.enc := by unfold encs; simp
theorem encs_cons (l : List Fld) (f : Fld) : encs (f :: l) = f.enc ++ encs l := by unfold encs; simp

theorem rdFld_inv (b : List UInt8) (h : (rdFld b).2.2 = 0) : (rdFld b).1.ok = true ∧ (rdFld b).1.enc = b.take (rdFld b).2.1 ∧ (rdFld b).1.val < U64 := by
  have i1 := rd_inv b
  have i2 := rd_inv (b.drop (rd b).2.1)
  have l1 := rd_lt b
  have l2 := rd_lt (b.drop (rd b).2.1)
  unfold rdFld at h ⊢
  generalize hr : rd b = r at *
  obtain ⟨t, z, e⟩ := r
  generalize hr2 : rd (b.drop z) = r2 at *
  obtain ⟨t2, z2, e2⟩ := r2
  simp only at i1 i2 l1 l2 h ⊢
  by_cases h0 : e = 0
  · subst h0
    rw [if_neg (by simp)] at h ⊢
    obtain ⟨a1, a2, a3, a4⟩ := i1.2 rfl
    by_cases h1 : t / 8 < 1 ∨ 536870911 < t / 8 ∨ (t % 8 ≠ 0 ∧ t % 8 ≠ 2)
    · rw [if_pos h1] at h; simp at h
    rw [if_neg h1] at h ⊢
    by_cases h2 : e2 = 0
    · subst h2
      rw [if_neg (by simp)] at h ⊢
      obtain ⟨c1, c2, c3, c4⟩ := i2.2 rfl
      by_cases h3 : t % 8 = 0
      · rw [if_pos h3]
        refine ⟨?_, ?_, by simpa using c4⟩
        · simp [Fld.ok]; omega
        · have ht : (Fld.tag ⟨((t / 8 : Nat) : Int), 0, t2, []⟩) = t := by unfold Fld.tag; simp only; omega
          simp only [Fld.enc]
          rw [ht, a3]
          simp only [if_true]
          rw [c3, List.take_add]
      · rw [if_neg h3] at h ⊢
        by_cases h4 : b.length - z - z2 < t2
        · rw [if_pos h4] at h; simp at h
        · rw [if_neg h4]
          refine ⟨?_, ?_, by unfold U64; simp⟩
          · simp [Fld.ok]; omega
          · have ht : (Fld.tag ⟨((t / 8 : Nat) : Int), 2, 0, (b.drop (z + z2)).take t2⟩) = t := by unfold Fld.tag; simp only; omega
            have hlen : ((b.drop (z + z2)).take t2).length = t2 := by simp; omega
            simp only [Fld.enc]
            rw [ht, a3, if_neg (by decide), hlen, c3, ← List.append_assoc, ← List.take_add, ← List.take_add]
    · rw [if_pos h2] at h; simp at h; omega
  · rw [if_pos h0] at h; simp at h; omega
theorem fldsF_inv : ∀ (k : Nat) (b : List UInt8) (a : Nat) (acc : List Fld), b.length < k →
    ((fldsF k b a acc).2.2 = 0 → (fldsF k b a acc).2.1 = 0 ∧ ∃ m, (fldsF k b a acc).1 = acc ++ m ∧ encs m = b ∧ (∀ f ∈ m, f.ok = true ∧ f.val < U64) ∧ (acc.length ≤ 1024 → acc.length + m.length ≤ 1024)) ∧
    ((fldsF k b a acc).2.2 ≠ 0 → (fldsF k b a acc).1 = [] ∧ (fldsF k b a acc).2.1 < a + b.length)
  | 0, _, _, _, h => by omega
  | k + 1, b, a, acc, h => by
    rw [fldsF]
    by_cases h1 : b.length = 0
    · rw [if_pos h1]
      exact ⟨fun _ => ⟨rfl, [], by simp, by rw [List.eq_nil_of_length_eq_zero h1]; rfl, by simp, by simp⟩, fun h => absurd rfl h⟩
    rw [if_neg h1]
    by_cases h2 : acc.length = 1024
    · rw [if_pos h2]; simp; omega
    rw [if_neg h2]
    by_cases h3 : (rdFld b).2.2 = 0
    · rw [if_neg (by simpa using h3)]
      have hb := rdFld_bounds b
      have hs := hb.2.1 h3
      obtain ⟨i1, i2, i3⟩ := rdFld_inv b h3
      have ih := fldsF_inv k (b.drop (rdFld b).2.1) (a + (rdFld b).2.1) (acc ++ [(rdFld b).1]) (by rw [List.length_drop]; omega)
      refine ⟨fun h0 => ?_, fun h0 => ?_⟩
      · obtain ⟨j1, m, j2, j3, j4, j5⟩ := ih.1 h0
        clear ih
        refine ⟨j1, (rdFld b).1 :: m, by rw [j2]; simp, by rw [encs_cons, j3, i2, List.take_append_drop], ?_, fun hl => ?_⟩
        · intro f hf
          rcases List.mem_cons.1 hf with rfl | hf
          · exact ⟨i1, i3⟩
          · exact j4 f hf
        · have := j5 (by rw [List.length_append, List.length_singleton]; omega)
          rw [List.length_append, List.length_singleton] at this
          rw [List.length_cons]; omega
      · obtain ⟨j1, j2⟩ := ih.2 h0
        rw [List.length_drop] at j2
        clear ih
        have hb1 := hb.1
        exact ⟨j1, by omega⟩
    · rw [if_pos (by simpa using h3)]
      refine ⟨fun h0 => absurd h0 h3, fun _ => ⟨rfl, by simp; omega⟩⟩
theorem flds_inv (b : List UInt8) : ((flds b).2.2 = 0 → (flds b).2.1 = 0 ∧ encs (flds b).1 = b ∧ (∀ f ∈ (flds b).1, f.ok = true ∧ f.val < U64) ∧ (flds b).1.length ≤ 1024) ∧
    ((flds b).2.2 ≠ 0 → (flds b).1 = [] ∧ (flds b).2.1 < b.length) := by
  have h := fldsF_inv (b.length + 1) b 0 [] (by omega)
  refine ⟨fun h0 => ?_, fun h0 => ?_⟩
  · obtain ⟨h1, m, h2, h3, h4, h5⟩ := h.1 h0
    rw [flds, h2] at *
    exact ⟨h1, by simpa using h3, by simpa using h4, by simpa using h5⟩
  · obtain ⟨h1, h2⟩ := h.2 h0
    exact ⟨h1, by rw [flds]; omega⟩
/-- The fields that were written are read. -/
theorem rdFld_enc (f : Fld) (t : List UInt8) (hok : f.ok = true) (hv : f.val < U64) (hb : f.byt.length < U64) : rdFld (f.enc ++ t) = (f, f.enc.length, 0) := by
  have htag := Fld.tag_lt f hok
  simp only [Fld.ok, decide_eq_true_eq] at hok
  obtain ⟨num, kind, val, byt⟩ := f
  simp only at hok hv hb htag
  have e8 : (8 * num + kind).toNat / 8 = num.toNat := by omega
  simp only [Fld.enc, Fld.tag] at htag ⊢
  rcases hok.2.2 with ⟨hk, hl⟩ | ⟨hk, hl⟩
  · subst hk
    have hby : byt = [] := List.eq_nil_of_length_eq_zero hl
    subst hby
    rw [if_pos rfl, List.append_assoc]
    have r1 := rd_enc (8 * num + 0).toNat (enc val ++ t) htag.1
    have r2 := rd_enc val t hv
    unfold rdFld
    rw [r1]
    simp only [ne_eq, not_true_eq_false, if_false, List.drop_left, r2]
    rw [if_neg (by omega), if_pos (by omega)]
    simp only [List.length_append]
    congr 2
    omega
  · subst hk; subst hl
    rw [if_neg (by omega), List.append_assoc, List.append_assoc]
    have r1 := rd_enc (8 * num + 2).toNat (enc byt.length ++ (byt ++ t)) htag.1
    have r2 := rd_enc byt.length (byt ++ t) hb
    unfold rdFld
    rw [r1]
    simp only [ne_eq, not_true_eq_false, if_false, List.drop_left, r2]
    rw [if_neg (by omega), if_neg (by omega), if_neg (by simp only [List.length_append]; omega)]
    have d1 : (enc (8 * num + 2).toNat ++ (enc byt.length ++ (byt ++ t))).drop ((enc (8 * num + 2).toNat).length + (enc byt.length).length) = byt ++ t := by
      rw [← List.append_assoc, ← List.length_append, List.drop_left]
    rw [d1, List.take_left]
    simp only [List.length_append]
    have e9 : (((8 * num + 2).toNat / 8 : Nat) : Int) = num := by omega
    rw [e9]
    congr 2
    omega
theorem enc_pos (n : Nat) : 1 ≤ (enc n).length := by
  by_cases h : n < 128
  · rw [enc_lt n h]; simp
  · rw [enc_ge n (by omega)]; simp
theorem Fld.enc_pos (f : Fld) : 1 ≤ f.enc.length := by
  have := Proofs.YtgfmnpbcbpobbaaDoor.Am.enc_pos f.tag
  unfold Fld.enc
  rw [List.length_append]; omega
theorem fldsF_encs : ∀ (l : List Fld) (k a : Nat) (acc : List Fld), (encs l).length < k → acc.length + l.length ≤ 1024 → (∀ f ∈ l, f.ok = true ∧ f.val < U64 ∧ f.byt.length < U64) → fldsF k (encs l) a acc = (acc ++ l, 0, 0)
  | [], 0, _, _, h, _, _ => by omega
  | [], k + 1, a, acc, _, _, _ => by rw [fldsF]; simp [encs]
  | f :: l, 0, _, _, h, _, _ => by omega
  | f :: l, k + 1, a, acc, h, hl, hf => by
    have hp := Fld.enc_pos f
    rw [encs_cons, List.length_append] at h
    rw [List.length_cons] at hl
    have h1 := hf f (by simp)
    have hr := rdFld_enc f (encs l) h1.1 h1.2.1 h1.2.2
    rw [encs_cons, fldsF, if_neg (by rw [List.length_append]; omega), if_neg (by omega), hr]
    simp only [ne_eq, not_true_eq_false, if_false, List.drop_left]
    rw [fldsF_encs l k _ _ (by omega) (by rw [List.length_append, List.length_singleton]; omega) (fun g hg => hf g (by simp [hg]))]
    simp
theorem flds_encs (l : List Fld) (hl : l.length ≤ 1024) (hf : ∀ f ∈ l, f.ok = true ∧ f.val < U64 ∧ f.byt.length < U64) : flds (encs l) = (l, 0, 0) := by
  rw [flds, fldsF_encs l _ 0 [] (by omega) (by simpa using hl) hf]; rfl
/-- A message of more than MaxFields fields. -/
theorem fldsF_full : ∀ (l : List Fld) (k a : Nat) (acc : List Fld), (encs l).length < k → acc.length ≤ 1024 → 1024 < acc.length + l.length → (∀ f ∈ l, f.ok = true ∧ f.val < U64 ∧ f.byt.length < U64) →
    fldsF k (encs l) a acc = ([], a + (encs (l.take (1024 - acc.length))).length, 3)
  | [], _, _, _, _, h, h', _ => by simp at h'; omega
  | f :: l, 0, _, _, h, _, _, _ => by omega
  | f :: l, k + 1, a, acc, h, ha, hl, hf => by
    have hp := Fld.enc_pos f
    rw [encs_cons, List.length_append] at h
    rw [List.length_cons] at hl
    have h1 := hf f (by simp)
    have hr := rdFld_enc f (encs l) h1.1 h1.2.1 h1.2.2
    rw [encs_cons, fldsF, if_neg (by rw [List.length_append]; omega)]
    by_cases h2 : acc.length = 1024
    · rw [if_pos h2, h2]; simp [encs]
    · rw [if_neg h2, hr]
      simp only [ne_eq, not_true_eq_false, if_false, List.drop_left]
      rw [fldsF_full l k _ _ (by omega) (by rw [List.length_append, List.length_singleton]; omega) (by rw [List.length_append, List.length_singleton]; omega) (fun g hg => hf g (by simp [hg]))]
      rw [List.length_append, List.length_singleton]
      obtain ⟨q, hq⟩ : ∃ q, 1024 - acc.length = q + 1 := ⟨1024 - acc.length - 1, by omega⟩
      rw [hq, List.take_succ_cons, encs_cons, List.length_append, show 1024 - (acc.length + 1) = q from by omega]
      congr 2
      omega
theorem encs_take (l : List Fld) {k : Nat} (hk : k < l.length) : encs (l.take (k + 1)) = encs (l.take k) ++ l[k].enc := by
  rw [List.take_succ_eq_append_getElem hk, encs_snoc]
theorem encs_take_le (l : List Fld) (k : Nat) : (encs (l.take k)).length ≤ (encs l).length := by
  have h : encs l = encs (l.take k) ++ encs (l.drop k) := by unfold encs; rw [← List.flatten_append, ← List.map_append, List.take_append_drop]
  rw [h, List.length_append]; omega
theorem Fld.byt_le (f : Fld) (h : f.ok = true) : f.byt.length ≤ f.enc.length := by
  simp only [Fld.ok, decide_eq_true_eq] at h
  rcases h.2.2 with ⟨_, h1⟩ | ⟨h1, _⟩
  · omega
  · unfold Fld.enc
    rw [if_neg (by omega), List.length_append, List.length_append]; omega
theorem byt_le_encs (l : List Fld) {k : Nat} (hk : k < l.length) (h : l[k].ok = true) : l[k].byt.length ≤ (encs l).length := by
  have h1 := Fld.byt_le _ h
  have h2 := encs_take_le l (k + 1)
  rw [encs_take l hk, List.length_append] at h2
  omega
theorem Fld.enc_le (f : Fld) (h : f.ok = true) (hv : f.val < U64) (hb : f.byt.length < U64) : f.enc.length ≤ 20 + f.byt.length := by
  have h1 := enc_len10 f.tag (Fld.tag_lt f h).1
  have h2 := enc_len10 f.val hv
  have h3 := enc_len10 f.byt.length hb
  unfold Fld.enc
  rw [List.length_append]
  split
  · omega
  · rw [List.length_append]; omega
end Go.Proofs.YtgfmnpbcbpobbaaDoor.Am
