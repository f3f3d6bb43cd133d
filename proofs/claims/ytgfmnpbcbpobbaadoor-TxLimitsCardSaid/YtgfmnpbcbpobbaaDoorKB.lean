/- The machine's texts, laid together: AmReg, AmCode, AmLe, AmDraw, AmSpec, AmTake, AmCall, AmCall2, AmCall3, AmKeys, AmFn, AmBuilt, AmEval. No conditions. -/
import Derived.Test.YtgfmnpbcbpobbaaDoorKA
import Derived.Below
import Derived.Laws.Entries
import Derived.Laws.Bits64
/- An abstract machine over plain data: all operations; regions in their text's order, and in any order. No conditions. -/
namespace Go.Proofs.YtgfmnpbcbpobbaaDoor.Am
open Go

section
variable {P : Program} {T : TypeId → Option TI} {cq : Oper → Call → Q (List Upd)}
theorem opQ_ok (hT : ∀ t i, T t = some i → TOk P t i) (hcq : ∀ o c, o.op = .call c → OpOk P o (cq o c)) (o : Oper) : OpOk P o (opQ T cq o) := by
  intro W0 M s a w K Q' hd hR hq
  obtain ⟨G, h⟩ := hR
  unfold opQ at hq
  split at hq
  · rename_i x ho; exact ok_move (.inl ho) h hd hq
  · rename_i x ho; exact ok_move (.inr ho) h hd hq
  · rename_i c x y ho; exact ok_pick ho h hd hq
  · rename_i t ho; exact ok_alloc ho hT h hd hq
  · rename_i t x ho; exact ok_box ho h hd hq
  · rename_i t ps ho; exact ok_build ho hT h hd hq
  · rename_i t n ps ho; exact ok_buildSlice ho hT h hd hq
  · rename_i t x ho; exact ok_load ho hT h hd hq
  · rename_i t x y ho
    split at hq
    · exact hq.elim
    · rename_i hdst; exact ok_store ho hT h hdst hq
  · rename_i x ho; exact ok_nilCheck ho h hd hq
  · rename_i op t x y t' ho; exact ok_binOp ho hT h hd hq
  · rename_i op t x ho; exact ok_unOp ho h hd hq
  · rename_i t t' x ho; exact ok_convert ho hT h hd hq
  · rename_i t x lo hi ho; exact ok_slice ho hT h hd hq
  · rename_i t x f ho; exact ok_field ho hT h hd hq
  · rename_i t x y ho; exact ok_index ho hT h hd hq
  · rename_i t x y ho; exact ok_indexS ho hT h hd hq
  · rename_i x k ho; exact ok_extract ho h hd hq
  · rename_i t x y ho; exact ok_makeSlice ho hT h hd hq
  · rename_i t r ho; exact ok_makeMap ho hT h hd hq
  · rename_i t x y ok ho; exact ok_lookup ho hT h hd hq
  · rename_i t x y z ho
    split at hq
    · exact hq.elim
    · rename_i hdst; exact ok_mapUpdate ho hdst hT h hq
  · rename_i t x ho; exact ok_rangeOp ho hT h hd hq
  · rename_i x ho; exact ok_next ho h hd hq
  · rename_i t x ho; exact ok_makeInterface ho hT h hd hq
  · rename_i x xt t ho; exact ok_typeAssert ho hT h hd hq
  · rename_i c ho; exact hcq o c ho W0 M s a w K Q' hd ⟨G, h⟩ hq
  · exact hq.elim

/-- An operation of a region, whether it is carried out or not. -/
theorem wpO_ok (hT : ∀ t i, T t = some i → TOk P t i) (hcq : ∀ o c, o.op = .call c → OpOk P o (cq o c)) {ops : Array Oper} {l : List Oper} (hl : ops = l.toArray) {o : Oper} {W0 : World} {M : Own} {s : St} {a : Act} {w : World} {K : List Upd → Prop} {Q' : Exit → Act → World → Prop}
    (hd : ∀ d, o.dst = some d → d < s.n) (hR : RelE W0 M s a w) (hq : wpO T cq l o s K) :
    if Region.wanted o (yielded ops a.tmps) = true then o.wp P a w (fun a' w' => ∃ us, K us ∧ RelE W0 M (s.app us) a' w') Q' else ∃ us, K us ∧ RelE W0 M (s.app us) (a.put o.dst undef) w := by
  unfold wpO opD at hq
  obtain ⟨G, h⟩ := hR
  have skip : K (skipU o.dst) → ∃ us, K us ∧ RelE W0 M (s.app us) (a.put o.dst undef) w := fun hk => by
    refine ⟨_, hk, ?_⟩
    cases hdst : o.dst with
    | none => exact ⟨G, h⟩
    | some dd => exact ⟨G, h.put (hd dd hdst) ⟨fun e => by simp at e, fun _ => rfl⟩⟩
  split at hq
  · rename_i hg
    have hw : Region.wanted o (yielded ops a.tmps) = true := by simp [Region.wanted, hg]
    rw [if_pos hw]
    exact opQ_ok hT hcq o W0 M s a w K Q' hd ⟨G, h⟩ hq
  · rename_i j want hg
    split at hq
    · rename_i d hjd
      have hoj : ops[j]?.bind (·.dst) = some d := by rw [hl]; simpa using hjd
      have hgv := h.tm d
      cases ho : ops[j]? with
      | none => rw [ho] at hoj; cases hoj
      | some oj =>
        rw [ho] at hoj
        have hdst : oj.dst = some d := hoj
        simp only [Q.wp] at hq
        cases hgt : (s.t d).g with
        | false =>
          rw [hgt] at hq
          have hw : Region.wanted o (yielded ops a.tmps) = false := by
            have h1 := hgv.2 hgt
            rw [Array.getD_eq_getD_getElem?] at h1
            cases ht : a.tmps[d]? with
            | none => simp [Region.wanted, hg, yielded, ho, hdst, ht]
            | some v =>
              rw [ht] at h1
              simp only [Option.getD_some] at h1
              subst h1
              simp [Region.wanted, hg, yielded, ho, hdst, ht, undef]
          rw [if_neg (by rw [hw]; simp)]
          exact skip hq
        | true =>
          rw [hgt] at hq
          simp only [Q.wp_bind] at hq
          obtain ⟨b, hx, hq⟩ : ∃ b, (s.t d).x = .c (.d (.v (.bool b))) ∧ ((match b == want with | true => opQ T cq o | false => Q.ret (skipU o.dst)) : Q (List Upd)).wp s K := by
            unfold Q.bool at hq
            split at hq
            · rename_i b hb; exact ⟨b, hb, hq⟩
            · exact hq.elim
          have hw : Region.wanted o (yielded ops a.tmps) = (b == want) := by
            have := hgv.1 hgt
            rw [hx] at this
            simp only [AVr, ACr, DVr] at this
            have h1 := this.1
            rw [Array.getD_eq_getD_getElem?] at h1
            cases ht : a.tmps[d]? with
            | none => rw [ht] at h1; simp [undef] at h1
            | some v =>
              rw [ht] at h1
              simp only [Option.getD_some] at h1
              subst h1
              cases b <;> cases want <;> simp [Region.wanted, hg, yielded, ho, hdst, ht]
          rw [hw]
          cases hbw : (b == want) with
          | true =>
            rw [hbw] at hq
            simp only [if_true]
            exact opQ_ok hT hcq o W0 M s a w K Q' hd ⟨G, h⟩ hq
          | false =>
            rw [hbw] at hq
            simp only [Bool.false_eq_true, if_false]
            exact skip hq
    · exact hq.elim
/-- A region in its text's order. -/
def wpR (T : TypeId → Option TI) (cq : Oper → Call → Q (List Upd)) (l : List Oper) : List Oper → St → (St → Prop) → Prop
  | [], s, K => K s
  | o :: rest, s, K => wpO T cq l o s fun us => wpR T cq l rest (s.app us) K
def dstOk (n : Nat) (o : Oper) : Bool := match o.dst with | some d => decide (d < n) | none => true
theorem app_n (s : St) : ∀ us : List Upd, (s.app us).n = s.n
  | [] => rfl
  | u :: us => by rw [St.app, app_n]; cases u <;> rfl
theorem wpR_ok (hT : ∀ t i, T t = some i → TOk P t i) (hcq : ∀ o c, o.op = .call c → OpOk P o (cq o c)) {l : List Oper} {W0 : World} {M : Own} {Q' : Exit → Act → World → Prop} {K : St → Prop} {n : Nat} (hfin : ∀ s' a' w', s'.n = n → K s' → RelE W0 M s' a' w' → Q' .normal a' w') :
    ∀ {rest : List Oper} {s : St} {a : Act} {w : World}, (rest.all (dstOk n)) = true → s.n = n → RelE W0 M s a w → wpR T cq l rest s K → wpList P l.toArray Q' rest a w
  | [], s, a, w, _, hn, hR, hq => wpList_nil (hfin s a w hn hq hR)
  | o :: rest, s, a, w, hd, hn, hR, hq => by
    simp only [List.all_cons, Bool.and_eq_true] at hd
    simp only [wpR] at hq
    have hd1 : ∀ d, o.dst = some d → d < s.n := fun d e => by have h1 := hd.1; unfold dstOk at h1; rw [e] at h1; have h2 := of_decide_eq_true h1; rw [hn]; exact h2
    have := wpO_ok (P := P) hT hcq (ops := l.toArray) rfl (Q' := Q') hd1 hR hq
    refine wpList_step ?_
    intro K' hK'
    split
    · rename_i hw
      rw [if_pos hw] at this
      refine Oper.wp_mono (fun a' w' => ?_) this
      rintro ⟨us, hk, hr⟩
      exact hK' _ _ (wpR_ok hT hcq hfin hd.2 (by rw [app_n]; exact hn) hr hk)
    · rename_i hw
      rw [if_neg hw] at this
      obtain ⟨us, hk, hr⟩ := this
      exact hK' _ _ (wpR_ok hT hcq hfin hd.2 (by rw [app_n]; exact hn) hr hk)
end
end Go.Proofs.YtgfmnpbcbpobbaaDoor.Am
/- An abstract machine over plain data: statements. No conditions. -/
namespace Go.Proofs.YtgfmnpbcbpobbaaDoor.Am
open Go

inductive AX where
  | normal
  | exit (id : Nat)
  | ret
/-- Where a statement ends, and in which states. -/
def QK (W0 : World) (M : Own) (K : AX → St → Prop) : Exit → Act → World → Prop
  | .normal, a, w => ∃ s, RelE W0 M s a w ∧ K .normal s
  | .exit i, a, w => ∃ s, RelE W0 M s a w ∧ K (.exit i) s
  | .ret, a, w => ∃ s, RelE W0 M s a w ∧ K .ret s
  | _, _, _ => False
/-- From the state 's' the statement ends as 'K' says. -/
def Tri (P : Program) (c : Code) (K : AX → St → Prop) (s : St) : Prop := ∀ W0 M a w, RelE W0 M s a w → c.wp P (QK W0 M K) a w
/-- A state says less than another. -/
def Le (s s' : St) : Prop := ∀ W0 M a w, RelE W0 M s a w → RelE W0 M s' a w
def seqK (P : Program) (y : Code) (K : AX → St → Prop) : AX → St → Prop
  | .normal, s => Tri P y K s
  | .exit i, s => K (.exit i) s
  | .ret, s => K .ret s
def blkK (id : Nat) (K : AX → St → Prop) : AX → St → Prop
  | .normal, s => K .normal s
  | .exit i, s => if i = id then K .normal s else K (.exit i) s
  | .ret, s => K .ret s
def loopK (n : Nat) (I : Nat → St → Prop) (K : AX → St → Prop) : AX → St → Prop
  | .normal, s => ∃ m s', m < n ∧ Le s s' ∧ I m s'
  | .exit i, s => K (.exit i) s
  | .ret, s => K .ret s
section
variable {P : Program} {T : TypeId → Option TI} {cq : Oper → Call → Q (List Upd)} {K : AX → St → Prop} {s : St}
theorem Le.refl (s : St) : Le s s := fun _ _ _ _ h => h
theorem Le.trans {s1 s2 s3 : St} (h : Le s1 s2) (k : Le s2 s3) : Le s1 s3 := fun W0 M a w r => k W0 M a w (h W0 M a w r)
theorem tri_skip (h : K .normal s) : Tri P .skip K s := fun _ _ _ _ hR => wp_skip ⟨s, hR, h⟩
theorem tri_ret (h : K .ret s) : Tri P .ret K s := fun _ _ _ _ hR => wp_ret ⟨s, hR, h⟩
theorem tri_exit {i : Nat} (h : K (.exit i) s) : Tri P (.exit i) K s := fun _ _ _ _ hR => wp_exit ⟨s, hR, h⟩
theorem tri_mono {c : Code} {K' : AX → St → Prop} (h : Tri P c K s) (hk : ∀ e s, K e s → K' e s) : Tri P c K' s := fun W0 M a w hR => wp_mono (h W0 M a w hR) fun e a' w' hq => by
  cases e <;> first | exact hq.elim | (obtain ⟨s', h1, h2⟩ := hq; exact ⟨s', h1, hk _ _ h2⟩)
theorem tri_le {c : Code} {s' : St} (hl : Le s s') (h : Tri P c K s') : Tri P c K s := fun W0 M a w hR => h W0 M a w (hl W0 M a w hR)
theorem tri_seq {x y : Code} (h : Tri P x (seqK P y K) s) : Tri P (.seq x y) K s := fun W0 M a w hR => wp_seq (wp_mono (h W0 M a w hR) fun e a' w' hq => by
  cases e with
  | normal => obtain ⟨s', h1, h2⟩ := hq; exact h2 W0 M a' w' h1
  | exit i => exact hq
  | ret => exact hq
  | goto l => exact hq.elim
  | panic c => exact hq.elim
  | outgrown => exact hq.elim)
theorem tri_block {id : Nat} {c : Code} (h : Tri P c (blkK id K) s) : Tri P (.block id c) K s := fun W0 M a w hR => wp_block (wp_mono (h W0 M a w hR) fun e a' w' hq => by
  cases e with
  | normal => exact hq
  | exit i =>
    obtain ⟨s', h1, h2⟩ := hq
    simp only [blkK] at h2
    simp only [Exit.inBlock]
    split
    · rename_i e; rw [if_pos e] at h2; exact ⟨s', h1, h2⟩
    · rename_i e; rw [if_neg e] at h2; exact ⟨s', h1, h2⟩
  | ret => exact hq
  | goto l => exact hq.elim
  | panic c => exact hq.elim
  | outgrown => exact hq.elim)
theorem tri_cond {c : Operand} {x y : Code} (h : ((ev c).bind Q.bool).wp s fun b => (b = true → Tri P x K s) ∧ (b = false → Tri P y K s)) : Tri P (.cond c x y) K s := fun W0 M a w hR => by
  obtain ⟨G, hr⟩ := hR
  rw [Q.wp_bind] at h
  obtain ⟨v, h1, hv⟩ := ev_ok hr h
  obtain ⟨b, hb, _, h2⟩ := bool_ok hv h1
  refine wp_cond_split hb (fun e => ?_) (fun e => ?_)
  · exact h2.1 e W0 M a w ⟨G, hr⟩
  · exact h2.2 e W0 M a w ⟨G, hr⟩
theorem tri_region (hT : ∀ t i, T t = some i → TOk P t i) (hcq : ∀ o c, o.op = .call c → OpOk P o (cq o c)) {id : Nat} {l : List Oper} (hd : (l.all (dstOk s.n)) = true) (h : wpR T cq l l s (K .normal)) : Tri P (.region id l.toArray false) K s := fun _W0 _M _a _w hR =>
  wp_region_lit (wpR_ok hT hcq (n := s.n) (fun s' _a' _w' _ hk hr => ⟨s', hr, hk⟩) hd rfl hR h)
theorem exists_min (p : Nat → Prop) (h : ∃ n, p n) : ∃ n, p n ∧ ∀ m, p m → n ≤ m := by
  refine Classical.byContradiction fun hc => ?_
  have : ∀ n, ¬ p n := fun n => by
    induction n using Nat.strongRecOn with
    | _ n ih =>
      intro hn
      exact hc ⟨n, hn, fun m hm => by
        rcases Nat.lt_or_ge m n with h | h
        · exact (ih m h hm).elim
        · exact h⟩
  obtain ⟨n, hn⟩ := h
  exact this n hn
theorem tri_loop (I : Nat → St → Prop) {n0 : Nat} {s0 : St} {c : Code} (h0 : Le s s0) (hi : I n0 s0) (h : ∀ n s, I n s → Tri P c (loopK n I K) s) : Tri P (.loop c) K s := fun W0 M a w hR => by
  classical
  let J : Act → World → Nat → Prop := fun a w n => ∃ s, I n s ∧ RelE W0 M s a w
  let μ : Act → World → Nat := fun a w => if h : ∃ n, J a w n then Classical.choose (exists_min _ h) else 0
  refine wp_loop (fun a w => ∃ n, J a w n) μ ⟨n0, s0, hi, h0 W0 M a w hR⟩ (fun a w hJ => ?_)
  obtain ⟨⟨s1, hi1, hr1⟩, _⟩ := Classical.choose_spec (exists_min _ hJ)
  have hμ : μ a w = Classical.choose (exists_min _ hJ) := dif_pos hJ
  refine wp_mono (h _ s1 hi1 W0 M a w hr1) fun e a' w' hq => ?_
  cases e with
  | normal =>
    obtain ⟨s', h1, m, s'', h2, h3, h4⟩ := hq
    have hj : J a' w' m := ⟨s'', h4, h3 W0 M a' w' h1⟩
    refine ⟨⟨m, hj⟩, ?_⟩
    have h5 : μ a' w' ≤ m := by
      show (if h : ∃ n, J a' w' n then Classical.choose (exists_min _ h) else 0) ≤ m
      rw [dif_pos ⟨m, hj⟩]
      exact (Classical.choose_spec (exists_min _ (⟨m, hj⟩ : ∃ n, J a' w' n))).2 m hj
    rw [hμ]
    omega
  | exit i => exact hq
  | ret => exact hq
  | goto l => exact hq.elim
  | panic c => exact hq.elim
  | outgrown => exact hq.elim
end
end Go.Proofs.YtgfmnpbcbpobbaaDoor.Am
/- An abstract machine over plain data: states written out as lists, and when a state says less than another. No conditions. -/
namespace Go.Proofs.YtgfmnpbcbpobbaaDoor.Am
open Go

def look {α : Type} : List (Nat × α) → Nat → Option α
  | [], _ => none
  | (k, x) :: l, j => if j = k then some x else look l j
/-- A state written out: slots; boxes (number, number in the state before, cells); slices (number, number in the state before or nil, contents). -/
def stOf (n : Nat) (t : List (Nat × AV)) (b : List (Nat × Nat × List AC)) (r : List (Nat × Option Nat × Row)) : St :=
  ⟨n, fun k => ⟨decide (k < n), (look t k).getD .any⟩, fun k => ⟨0, (look b k).map (·.2)⟩, fun k => ⟨0, (look r k).map (·.2)⟩⟩
def acLe (s : St) (b : List (Nat × Nat × List AC)) (r : List (Nat × Option Nat × Row)) : AC → AC → Prop
  | _, .junk => True
  | .d x, .d y => x = y
  | .nil, .nil => True
  | .nil, .d y => y = .sl []
  | .nil, .row id' ver' => ver' = 0 ∧ (look r id').map (·.1) = some none
  | .row id ver, .row id' ver' => ver = (s.r id).ver ∧ ver' = 0 ∧ (look r id').map (·.1) = some (some id)
  | .ptr id ver off, .ptr id' ver' off' => ver = (s.b id).ver ∧ ver' = 0 ∧ off = off' ∧ (look b id').map (·.1) = some id
  | .eptr cs, .eptr cs' => cs = cs'
  | .rptr id ver i off sz, .rptr id' ver' i' off' sz' => ver = (s.r id).ver ∧ ver' = 0 ∧ (look r id').map (·.1) = some (some id) ∧ i = i' ∧ off = off' ∧ sz = sz'
  | _, _ => False
def acsLe (s : St) (b : List (Nat × Nat × List AC)) (r : List (Nat × Option Nat × Row)) : List AC → List AC → Prop
  | [], [] => True
  | x :: xs, y :: ys => acLe s b r x y ∧ acsLe s b r xs ys
  | _, _ => False
def avLe (s : St) (b : List (Nat × Nat × List AC)) (r : List (Nat × Option Nat × Row)) : AV → AV → Prop
  | _, .any => True
  | .c x, .c y => acLe s b r x y
  | .agg xs, .agg ys => acsLe s b r xs ys
  | _, _ => False
def rowLe (R R' : Row) : Prop := R.es = R'.es ∧ R.sz = R'.sz ∧ R.e = R'.e ∧ (R.fr = true → R'.fr = true)
def slotsLe (s : St) (b : List (Nat × Nat × List AC)) (r : List (Nat × Option Nat × Row)) : List (Nat × AV) → Prop
  | [] => True
  | (k, y) :: l => ((k < s.n → (s.t k).g = true) ∧ avLe s b r (s.t k).x y) ∧ slotsLe s b r l
def boxLe (s : St) (b : List (Nat × Nat × List AC)) (r : List (Nat × Option Nat × Row)) (x : Option (List AC)) (y : List AC) : Prop := match x with
  | some cs => acsLe s b r cs y
  | none => False
def boxesLe (s : St) (b : List (Nat × Nat × List AC)) (r : List (Nat × Option Nat × Row)) : List (Nat × Nat × List AC) → Prop
  | [] => True
  | (_, id, y) :: l => boxLe s b r (s.b id).c y ∧ boxesLe s b r l
def rowSrc (s : St) (id : Option Nat) (R : Row) : Prop := match id with
  | none => R.es = [] ∧ 0 < R.sz ∧ R.e < mapF
  | some id => match (s.r id).c with
    | some R' => rowLe R' R
    | none => False
def rowsLe (s : St) : List (Nat × Option Nat × Row) → Prop
  | [] => True
  | (_, id, R) :: l => rowSrc s id R ∧ rowsLe s l
section
variable {s : St} {n : Nat} {t : List (Nat × AV)} {b : List (Nat × Nat × List AC)} {r : List (Nat × Option Nat × Row)}
theorem look_mem {α : Type} : ∀ {l : List (Nat × α)} {k : Nat} {x : α}, look l k = some x → (k, x) ∈ l
  | [], _, _, h => by simp [look] at h
  | (j, y) :: l, k, x, h => by
    simp only [look] at h
    split at h
    · rename_i e; injection h with h; subst h; subst e; simp
    · exact List.mem_cons_of_mem _ (look_mem h)
theorem slotsLe.get : ∀ {l : List (Nat × AV)}, slotsLe s b r l → ∀ {k : Nat} {y : AV}, (k, y) ∈ l → (k < s.n → (s.t k).g = true) ∧ avLe s b r (s.t k).x y
  | (k0, y0) :: l, h, k, y, hm => by
    rcases List.mem_cons.1 hm with e | hm
    · injection e with e1 e2; subst e1; subst e2; exact h.1
    · exact slotsLe.get h.2 hm
theorem boxesLe.get : ∀ {l : List (Nat × Nat × List AC)}, boxesLe s b r l → ∀ {k id : Nat} {y : List AC}, (k, id, y) ∈ l → ∃ cs, (s.b id).c = some cs ∧ acsLe s b r cs y
  | (k0, id0, y0) :: l, h, k, id, y, hm => by
    rcases List.mem_cons.1 hm with e | hm
    · injection e with e1 e2; injection e2 with e2 e3; subst e1; subst e2; subst e3
      have := h.1
      unfold boxLe at this
      split at this
      · rename_i cs hc; exact ⟨cs, hc, this⟩
      · exact this.elim
    · exact boxesLe.get h.2 hm
theorem rowsLe.get : ∀ {l : List (Nat × Option Nat × Row)}, rowsLe s l → ∀ {k : Nat} {id : Option Nat} {R : Row}, (k, id, R) ∈ l → rowSrc s id R
  | (k0, id0, y0) :: l, h, k, id, y, hm => by
    rcases List.mem_cons.1 hm with e | hm
    · injection e with e1 e2; injection e2 with e2 e3; subst e1; subst e2; subst e3; exact h.1
    · exact rowsLe.get h.2 hm
theorem inj_of_nodup {α β : Type} {f : α → β} : ∀ {l : List α}, (l.map f).Nodup → ∀ {x y : α}, x ∈ l → y ∈ l → f x = f y → x = y
  | a :: l, h, x, y, hx, hy, e => by
    rw [List.map_cons, List.nodup_cons] at h
    rcases List.mem_cons.1 hx with rfl | hx' <;> rcases List.mem_cons.1 hy with rfl | hy'
    · rfl
    · exact (h.1 (by rw [e]; exact List.mem_map_of_mem hy')).elim
    · exact (h.1 (by rw [← e]; exact List.mem_map_of_mem hx')).elim
    · exact inj_of_nodup h.2 hx' hy' e
theorem le_of (hn : s.n = n) (ht : slotsLe s b r t) (hb : boxesLe s b r b) (hr : rowsLe s r) (hbn : (b.map (·.2.1)).Nodup) (hrn : (r.filterMap (·.2.1)).Nodup) : Le s (stOf n t b r) := by
  intro W0 M a w hR
  obtain ⟨G, h⟩ := hR
  let G' : Gh := ⟨G.I, fun k => G.bx (((look b k).map (·.1)).getD 0), fun k => match (look r k).map (·.1) with | some (some id) => G.rw id | _ => .slice none 0 0⟩
  -- the sources
  have hbsrc : ∀ {k id : Nat} {y : List AC}, look b k = some (id, y) → ∃ cs, (s.b id).c = some cs ∧ acsLe s b r cs y := fun h => boxesLe.get hb (look_mem h)
  have hrsrc : ∀ {k : Nat} {id : Option Nat} {R : Row}, look r k = some (id, R) → rowSrc s id R := fun h => rowsLe.get hr (look_mem h)
  have hac : ∀ {x y : AC} {v : Value}, acLe s b r x y → ACr G s w x v → ACr G' (stOf n t b r) w y v := by
    intro x y v hl hx
    have hone := hx.one
    unfold acLe at hl
    split at hl
    · exact hone
    · subst hl; exact hx
    · exact hx
    · subst hl
      simp only [ACr] at hx ⊢
      subst hx
      simp only [DVr]
      exact ⟨none, 0, 1, [], rfl, Nat.le_refl _, by simp [maxLen], by omega, by simp, by simp, by simp [DVee]⟩
    · obtain ⟨rfl, h2⟩ := hl
      simp only [ACr] at hx ⊢
      refine ⟨hone, Nat.zero_le _, fun _ _ => ?_⟩
      simp only [G', h2]
      exact hx
    · obtain ⟨h1, rfl, h2⟩ := hl
      simp only [ACr] at hx ⊢
      refine ⟨hone, Nat.zero_le _, fun _ hs => ?_⟩
      simp only [G', h2]
      refine hx.2.2 h1 ?_
      cases hlk : look r _ with
      | none => rw [hlk] at h2; cases h2
      | some p =>
        rw [hlk] at h2
        obtain ⟨id0, R0⟩ := p
        injection h2 with h2
        simp only at h2
        subst h2
        have := hrsrc hlk
        simp only [rowSrc] at this
        split at this
        · rename_i R' hR'; rw [hR']; rfl
        · exact this.elim
    · obtain ⟨h1, rfl, rfl, h2⟩ := hl
      simp only [ACr] at hx ⊢
      refine ⟨hone, Nat.zero_le _, fun _ hs => ?_⟩
      simp only [G', h2, Option.getD_some]
      refine hx.2.2 h1 ?_
      cases hlk : look b _ with
      | none => rw [hlk] at h2; cases h2
      | some p =>
        rw [hlk] at h2
        obtain ⟨id0, y0⟩ := p
        injection h2 with h2
        simp only at h2
        subst h2
        obtain ⟨cs, hc, _⟩ := hbsrc hlk
        rw [hc]; rfl
    · subst hl; exact hx
    · obtain ⟨h1, rfl, h2, rfl, rfl, rfl⟩ := hl
      simp only [ACr] at hx ⊢
      refine ⟨hone, Nat.zero_le _, fun _ hs => ?_⟩
      simp only [G', h2]
      refine hx.2.2 h1 ?_
      cases hlk : look r _ with
      | none => rw [hlk] at h2; cases h2
      | some p =>
        rw [hlk] at h2
        obtain ⟨id0, R0⟩ := p
        injection h2 with h2
        simp only at h2
        subst h2
        have := hrsrc hlk
        simp only [rowSrc] at this
        split at this
        · rename_i R' hR'; rw [hR']; rfl
        · exact this.elim
    · exact hl.elim
  have hacs : ∀ {xs ys : List AC} {vs : List Value}, acsLe s b r xs ys → ACs G s w xs vs → ACs G' (stOf n t b r) w ys vs := by
    intro xs
    induction xs with
    | nil =>
      intro ys vs hl hx
      cases ys with
      | nil => exact hx
      | cons y ys => exact hl.elim
    | cons x xs ih =>
      intro ys vs hl hx
      cases ys with
      | nil => exact hl.elim
      | cons y ys =>
        simp only [ACs] at hx ⊢
        obtain ⟨v, rest, h1, h2, h3⟩ := hx
        exact ⟨v, rest, h1, hac hl.1 h2, ih hl.2 h3⟩
  have howner : ∀ x g, own G' (stOf n t b r) x = some g → ∃ y, own G s y = some g ∧ (match x with | .inl k => ∃ id cs, look b k = some (id, cs) ∧ y = .inl id | .inr k => ∃ id R, look r k = some (some id, R) ∧ y = .inr id) := by
    intro x g hx
    rcases x with k | k
    · have e0 : ((stOf n t b r).b k).c = (look b k).map (·.2) := rfl
      simp only [own, e0] at hx
      cases hlk : look b k with
      | none => simp [hlk] at hx
      | some p =>
        obtain ⟨id, y⟩ := p
        simp only [hlk, Option.map_some, Option.isSome_some, if_true, G', Option.getD_some] at hx
        obtain ⟨cs, hc, _⟩ := hbsrc hlk
        exact ⟨.inl id, by simp only [own, hc]; exact hx, id, y, hlk, rfl⟩
    · have e0 : ((stOf n t b r).r k).c = (look r k).map (·.2) := rfl
      simp only [own, e0] at hx
      cases hlk : look r k with
      | none => simp [hlk] at hx
      | some p =>
        obtain ⟨id, R⟩ := p
        cases id with
        | none => simp [G', hlk, obk] at hx
        | some id =>
          simp only [hlk, Option.map_some, Option.isSome_some, if_true, G'] at hx
          have := hrsrc hlk
          simp only [rowSrc] at this
          split at this
          · rename_i R' hR'
            exact ⟨.inr id, by simp only [own, hR']; exact hx, id, R, hlk, rfl⟩
          · exact this.elim
  have hbinj : ∀ {k k' id : Nat} {y y' : List AC}, look b k = some (id, y) → look b k' = some (id, y') → k = k' := by
    intro k k' id y y' h1 h2
    have := inj_of_nodup hbn (look_mem h1) (look_mem h2) rfl
    injection this
  have hrinj : ∀ {k k' id : Nat} {y y' : Row}, look r k = some (some id, y) → look r k' = some (some id, y') → k = k' := by
    intro k k' id y y' h1 h2
    have key : ∀ {l : List (Nat × Option Nat × Row)}, (l.filterMap (·.2.1)).Nodup → ∀ {p q : Nat × Option Nat × Row}, p ∈ l → q ∈ l → p.2.1 = some id → q.2.1 = some id → p = q := by
      intro l
      induction l with
      | nil => intro _ p q hp; simp at hp
      | cons a l ih =>
        intro hnd p q hp hq e1 e2
        rcases List.mem_cons.1 hp with rfl | hp' <;> rcases List.mem_cons.1 hq with rfl | hq'
        · rfl
        · rw [List.filterMap_cons_some (f := fun (x : Nat × Option Nat × Row) => x.2.1) e1, List.nodup_cons] at hnd
          exact (hnd.1 (List.mem_filterMap.2 ⟨q, hq', e2⟩)).elim
        · rw [List.filterMap_cons_some (f := fun (x : Nat × Option Nat × Row) => x.2.1) e2, List.nodup_cons] at hnd
          exact (hnd.1 (List.mem_filterMap.2 ⟨p, hp', e1⟩)).elim
        · refine ih ?_ hp' hq' e1 e2
          cases ha : a.2.1 with
          | none => rw [List.filterMap_cons_none (f := fun (x : Nat × Option Nat × Row) => x.2.1) ha] at hnd; exact hnd
          | some z => rw [List.filterMap_cons_some (f := fun (x : Nat × Option Nat × Row) => x.2.1) ha, List.nodup_cons] at hnd; exact hnd.2
    have := key hrn (look_mem h1) (look_mem h2) rfl rfl
    injection this
  have hav : ∀ {x y : AV} {v : Value}, avLe s b r x y → AVr G s w x v → AVr G' (stOf n t b r) w y v := by
    intro x y v h2 hv
    unfold avLe at h2
    split at h2
    · simp only [AVr]
    · simp only [AVr] at hv ⊢; exact hac h2 hv
    · simp only [AVr] at hv ⊢
      obtain ⟨vs, e, h3⟩ := hv
      exact ⟨vs, e, hacs h2 h3⟩
    · exact h2.elim
  refine ⟨G', h.sz.trans hn, h.df, fun k => ?_, ?_, fun k => ?_⟩
  · refine ⟨fun hk => ?_, fun e => ?_⟩
    · simp only [stOf, decide_eq_true_eq] at hk ⊢
      cases hlk : look t k with
      | none => simp only [Option.getD_none, AVr]
      | some y =>
        simp only [Option.getD_some]
        obtain ⟨h1, h2⟩ := slotsLe.get ht (look_mem hlk)
        exact hav h2 ((h.tm k).1 (h1 (by rw [hn]; exact hk)))
    · simp only [stOf, decide_eq_false_iff_not] at e
      have hsz := h.sz
      rw [Array.getD_eq_getD_getElem?, Array.getElem?_eq_none (by omega)]
      rfl
  · refine ⟨fun k cs hc => ?_, fun k R hc => ?_, fun x y g hx hy => ?_, fun k hc o hi => ?_, fun k R g hc hg o hi => ?_, fun x g hx => ?_, h.mem.In, h.mem.fr, h.mem.ii, h.mem.gl⟩
    · simp only [stOf] at hc
      cases hlk : look b k with
      | none => rw [hlk] at hc; cases hc
      | some p =>
        obtain ⟨id, y⟩ := p
        rw [hlk] at hc
        injection hc with hc; simp only at hc; subst hc
        obtain ⟨cs', hc', hl⟩ := hbsrc hlk
        obtain ⟨cur, ty, h1, h2⟩ := h.mem.bx id cs' hc'
        exact ⟨cur, ty, by simp only [G', hlk, Option.map_some, Option.getD_some]; exact h1, hacs hl h2⟩
    · simp only [stOf] at hc
      cases hlk : look r k with
      | none => rw [hlk] at hc; cases hc
      | some p =>
        obtain ⟨id, y⟩ := p
        rw [hlk] at hc
        injection hc with hc; simp only at hc; subst hc
        have hsrc := hrsrc hlk
        cases id with
        | none =>
          obtain ⟨e1, e2, eF⟩ := hsrc
          refine ⟨e2, by simp [e1], .inl ⟨eF, [], ?_, by simp [e1, DVee]⟩⟩
          simp only [G', hlk, Option.map_some, e1, List.length_nil]
          exact World.ownsRow_nil w 0 _ _
        | some id =>
          simp only [rowSrc] at hsrc
          split at hsrc
          · rename_i R' hR'
            obtain ⟨e1, e2, e3, _⟩ := hsrc
            have q := h.mem.rw id R' hR'
            simp only [G', hlk, Option.map_some]
            exact RowOk.as q e1 e2 e3
          · exact hsrc.elim
    · obtain ⟨x', hx', mx⟩ := howner x g hx
      obtain ⟨y', hy', my⟩ := howner y g hy
      have e := h.mem.dj x' y' g hx' hy'
      subst e
      rcases x with k | k <;> rcases y with j | j <;> simp only at mx my
      · obtain ⟨id, cs, l1, e1⟩ := mx
        obtain ⟨id', cs', l2, e2⟩ := my
        rw [e1] at e2; injection e2 with e2; subst e2
        rw [hbinj l1 l2]
      · obtain ⟨id, cs, l1, e1⟩ := mx
        obtain ⟨id', cs', l2, e2⟩ := my
        rw [e1] at e2; cases e2
      · obtain ⟨id, cs, l1, e1⟩ := mx
        obtain ⟨id', cs', l2, e2⟩ := my
        rw [e1] at e2; cases e2
      · obtain ⟨id, cs, l1, e1⟩ := mx
        obtain ⟨id', cs', l2, e2⟩ := my
        rw [e1] at e2; injection e2 with e2; subst e2
        rw [hrinj l1 l2]
    · simp only [stOf] at hc
      cases hlk : look b k with
      | none => rw [hlk] at hc; cases hc
      | some p =>
        obtain ⟨id, y⟩ := p
        obtain ⟨cs', hc', _⟩ := hbsrc hlk
        simp only [G', hlk, Option.map_some, Option.getD_some] at hi
        exact h.mem.bI id (by rw [hc']; rfl) o hi
    · simp only [stOf] at hc
      cases hlk : look r k with
      | none => rw [hlk] at hc; cases hc
      | some p =>
        obtain ⟨id, y⟩ := p
        rw [hlk] at hc
        injection hc with hc; simp only at hc; subst hc
        have hsrc := hrsrc hlk
        cases id with
        | none => simp [G', hlk, obk] at hg
        | some id =>
          simp only [rowSrc] at hsrc
          split at hsrc
          · rename_i R' hR'
            obtain ⟨e1, e2, _, e4⟩ := hsrc
            simp only [G', hlk, Option.map_some] at hg
            obtain ⟨q1, q2⟩ := h.mem.rI id R' g hR' hg o hi
            exact ⟨e4 q1, by rw [← e1, ← e2]; exact q2⟩
          · exact hsrc.elim
    · obtain ⟨y, hy, _⟩ := howner x g hx
      exact h.mem.oM y g hy
  · have hv := h.pin k
    rw [hn] at hv
    show AVr G' (stOf n t b r) w ((look t (n + k)).getD .any) (M.pin k)
    cases hlk : look t (n + k) with
    | none => simp only [Option.getD_none, AVr]
    | some y =>
      simp only [Option.getD_some]
      obtain ⟨_, h2⟩ := slotsLe.get ht (look_mem hlk)
      exact hav h2 hv
end
end Go.Proofs.YtgfmnpbcbpobbaaDoor.Am
/- An abstract machine over plain data: a region that draws its order ends as its text's order does, where operations that touch one part of the state are ordered. No conditions. -/
namespace Go.Proofs.YtgfmnpbcbpobbaaDoor.Am
open Go

def Upd.part : Upd → Part
  | .t k _ => .t k
  | .b k _ => .b k
  | .r k _ => .r k
/-- The same with what is read. -/
def Q.wpt {α : Type} : Q α → St → List Part → (α → List Part → Prop) → Prop
  | .ret a, _, tr, K => K a tr
  | .rdT k f, s, tr, K => (f (s.t k)).wpt s (.t k :: tr) K
  | .rdB k f, s, tr, K => (f (s.b k)).wpt s (.b k :: tr) K
  | .rdR k f, s, tr, K => (f (s.r k)).wpt s (.r k :: tr) K
  | .req p q, s, tr, K => p ∧ q.wpt s tr K
  | .fail, _, _, _ => False
/-- A region in its text's order, with what each operation reads and writes. -/
def wpD (T : TypeId → Option TI) (cq : Oper → Call → Q (List Upd)) (l : List Oper) : List Oper → St → List (List Part × List Part) → (St → List (List Part × List Part) → Prop) → Prop
  | [], s, tr, K => K s tr
  | o :: rest, s, tr, K => (opD T cq l o).wpt s [] fun us rs => wpD T cq l rest (s.app us) (tr ++ [(rs, us.map Upd.part)]) K
/-- The operations that come before each. -/
def ancs : List Oper → List (List Nat) → List (List Nat)
  | [], acc => acc
  | o :: rest, acc => ancs rest (acc ++ [(o.after.toList.filter (Region.binds .any)).flatMap fun e => e.on :: acc.getD e.on []])
def meets (a b : List Part) : Bool := a.any fun c => b.contains c
def clash (x y : List Part × List Part) : Bool := meets x.1 y.2 || meets x.2 y.1 || meets x.2 y.2
/-- Whatever touches one part is ordered; and edges lead back. -/
def indepB (l : List Oper) (tr : List (List Part × List Part)) : Bool :=
  ((List.range l.length).all fun i => ((l.getD i default).after.toList.all fun e => !Region.binds .any e || decide (e.on < i))) &&
  ((List.range l.length).all fun i => (List.range i).all fun j => !clash (tr.getD j ([], [])) (tr.getD i ([], [])) || ((ancs l []).getD i []).contains j)

section
variable {P : Program} {T : TypeId → Option TI} {cq : Oper → Call → Q (List Upd)}
theorem wpt_iff {α : Type} {s : St} {K : α → List Part → Prop} : ∀ {q : Q α} {tr : List Part}, q.wpt s tr K → ∃ a rs, q.wp s (· = a) ∧ (∀ c ∈ q.reads s, c ∈ rs) ∧ (∀ c ∈ tr, c ∈ rs) ∧ K a rs
  | .ret a, tr, h => ⟨a, tr, rfl, by simp [Q.reads], fun c hc => hc, h⟩
  | .rdT k f, tr, h => by
    obtain ⟨a, rs, h1, h2, h3, h4⟩ := wpt_iff (q := f (s.t k)) h
    exact ⟨a, rs, h1, fun c hc => by rcases List.mem_cons.1 hc with rfl | hc; exact h3 _ (by simp); exact h2 c hc, fun c hc => h3 c (by simp [hc]), h4⟩
  | .rdB k f, tr, h => by
    obtain ⟨a, rs, h1, h2, h3, h4⟩ := wpt_iff (q := f (s.b k)) h
    exact ⟨a, rs, h1, fun c hc => by rcases List.mem_cons.1 hc with rfl | hc; exact h3 _ (by simp); exact h2 c hc, fun c hc => h3 c (by simp [hc]), h4⟩
  | .rdR k f, tr, h => by
    obtain ⟨a, rs, h1, h2, h3, h4⟩ := wpt_iff (q := f (s.r k)) h
    exact ⟨a, rs, h1, fun c hc => by rcases List.mem_cons.1 hc with rfl | hc; exact h3 _ (by simp); exact h2 c hc, fun c hc => h3 c (by simp [hc]), h4⟩
  | .req p q, tr, h => by
    obtain ⟨a, rs, h1, h2, h3, h4⟩ := wpt_iff (q := q) h.2
    exact ⟨a, rs, ⟨h.1, h1⟩, h2, h3, h4⟩
/-- The state behind the operations of 'X'. -/
def sub (X : Nat → Bool) : Nat → List (List Upd) → St → St
  | _, [], s => s
  | i, us :: r, s => sub X (i + 1) r (bif X i then s.app us else s)
theorem same_refl (s : St) (c : Part) : c.same s s := by cases c <;> rfl
theorem same_app1 {s s' : St} {c : Part} (u : Upd) (h : c.same s s') : c.same (s.app1 u) (s'.app1 u) := by
  cases u with
  | t k x =>
    cases c with
    | t j =>
      simp only [Part.same, St.app1, St.setT, upd] at h ⊢
      by_cases e : j = k
      · simp [e]
      · simp [e, h]
    | b j => exact h
    | r j => exact h
  | b k x =>
    cases c with
    | b j =>
      simp only [Part.same, St.app1, St.setB, upd] at h ⊢
      by_cases e : j = k
      · simp [e]
      · simp [e, h]
    | t j => exact h
    | r j => exact h
  | r k x =>
    cases c with
    | r j =>
      simp only [Part.same, St.app1, St.setR, upd] at h ⊢
      by_cases e : j = k
      · simp [e]
      · simp [e, h]
    | b j => exact h
    | t j => exact h
theorem same_app {s s' : St} {c : Part} : ∀ (us : List Upd), c.same s s' → c.same (s.app us) (s'.app us)
  | [], h => h
  | u :: us, h => same_app (s := s.app1 u) (s' := s'.app1 u) us (same_app1 u h)
theorem same_skip1 {s : St} {c : Part} (u : Upd) (h : c ≠ u.part) : c.same (s.app1 u) s := by
  cases u with
  | t k x =>
    cases c with
    | t j => simp only [Part.same, St.app1, St.setT, upd]; rw [if_neg (fun e => h (by rw [e]; rfl))]
    | b j => rfl
    | r j => rfl
  | b k x =>
    cases c with
    | b j => simp only [Part.same, St.app1, St.setB, upd]; rw [if_neg (fun e => h (by rw [e]; rfl))]
    | t j => rfl
    | r j => rfl
  | r k x =>
    cases c with
    | r j => simp only [Part.same, St.app1, St.setR, upd]; rw [if_neg (fun e => h (by rw [e]; rfl))]
    | b j => rfl
    | t j => rfl
theorem same_trans {s1 s2 s3 : St} {c : Part} (h : c.same s1 s2) (k : c.same s2 s3) : c.same s1 s3 := by cases c <;> exact Eq.trans h k
theorem same_symm {s1 s2 : St} {c : Part} (h : c.same s1 s2) : c.same s2 s1 := by cases c <;> exact Eq.symm h
theorem same_skip {c : Part} : ∀ (us : List Upd) (s : St), c ∉ us.map Upd.part → c.same (s.app us) s
  | [], s, _ => same_refl s c
  | u :: us, s, h => by
    simp only [List.map_cons, List.mem_cons, not_or] at h
    exact same_trans (same_skip us (s.app1 u) h.2) (same_skip1 u h.1)
theorem same_hit1 {s s' : St} {c : Part} (u : Upd) (h : c = u.part) : c.same (s.app1 u) (s'.app1 u) := by
  subst h
  cases u <;> simp [Part.same, Upd.part, St.app1, St.setT, St.setB, St.setR, upd]
theorem same_hit {c : Part} : ∀ (us : List Upd) (s s' : St), c ∈ us.map Upd.part → c.same (s.app us) (s'.app us)
  | u :: us, s, s', h => by
    simp only [List.map_cons, List.mem_cons] at h
    by_cases hc : c ∈ us.map Upd.part
    · exact same_hit us (s.app1 u) (s'.app1 u) hc
    · rcases h with h | h
      · exact same_app us (same_hit1 u h)
      · exact (hc h).elim
theorem sub_same {c : Part} (X Y : Nat → Bool) : ∀ (L : List (List Upd)) (k : Nat) (s s' : St), c.same s s' → (∀ j us, L[j]? = some us → c ∈ us.map Upd.part → X (k + j) = Y (k + j)) → c.same (sub X k L s) (sub Y k L s')
  | [], _, _, _, h, _ => h
  | us :: L, k, s, s', h, hw => by
    simp only [sub]
    refine sub_same X Y L (k + 1) _ _ ?_ (fun j vs hj hc => by have := hw (j + 1) vs (by simpa using hj) hc; rwa [Nat.add_assoc, Nat.add_comm 1 j])
    by_cases hc : c ∈ us.map Upd.part
    · have e := hw 0 us rfl hc
      simp only [Nat.add_zero] at e
      rw [e]
      cases Y k with
      | true => exact same_app us h
      | false => exact h
    · cases X k <;> cases Y k <;> simp only [cond_true, cond_false]
      · exact h
      · exact same_trans h (same_symm (same_skip us s' hc))
      · exact same_trans (same_skip us s hc) h
      · exact same_app us h
theorem sub_n (X : Nat → Bool) : ∀ (L : List (List Upd)) (k : Nat) (s : St), (sub X k L s).n = s.n
  | [], _, _ => rfl
  | us :: L, k, s => by rw [sub, sub_n X L]; cases X k <;> simp [app_n]
theorem sub_split (X : Nat → Bool) : ∀ (A : List (List Upd)) (B : List (List Upd)) (k : Nat) (s : St), sub X k (A ++ B) s = sub X (k + A.length) B (sub X k A s)
  | [], B, k, s => by simp [sub]
  | us :: A, B, k, s => by
    simp only [List.cons_append, sub, List.length_cons]
    rw [sub_split X A B (k + 1)]
    congr 1
    omega
theorem st_ext {s s' : St} (hn : s.n = s'.n) (h : ∀ c : Part, c.same s s') : s = s' := by
  obtain ⟨n, t, b, r⟩ := s
  obtain ⟨n', t', b', r'⟩ := s'
  have h1 : t = t' := funext fun k => h (.t k)
  have h2 : b = b' := funext fun k => h (.b k)
  have h3 : r = r' := funext fun k => h (.r k)
  simp only at hn
  subst hn; subst h1; subst h2; subst h3
  rfl
/-- The walk of the text's order, laid down. -/
structure Walk (T : TypeId → Option TI) (cq : Oper → Call → Q (List Upd)) (l : List Oper) (s : St) (L : List (List Upd)) (R : List (List Part)) : Prop where
  len : L.length = l.length
  rlen : R.length = l.length
  at_ : ∀ i o us rs, l[i]? = some o → L[i]? = some us → R[i]? = some rs → (opD T cq l o).wp (sub (fun j => decide (j < i)) 0 L s) (· = us) ∧ ∀ c ∈ (opD T cq l o).reads (sub (fun j => decide (j < i)) 0 L s), c ∈ rs
theorem sub_all (X : Nat → Bool) : ∀ (L : List (List Upd)) (k : Nat) (s : St), (∀ j, j < L.length → X (k + j) = true) → sub X k L s = sub (fun _ => true) k L s
  | [], _, _, _ => rfl
  | us :: L, k, s, h => by
    simp only [sub]
    have := h 0 (by simp)
    simp only [Nat.add_zero] at this
    rw [this]
    exact sub_all X L (k + 1) _ (fun j hj => by have := h (j + 1) (by simpa using hj); rwa [Nat.add_assoc, Nat.add_comm 1 j])
theorem sub_none (X : Nat → Bool) : ∀ (L : List (List Upd)) (k : Nat) (s : St), (∀ j, j < L.length → X (k + j) = false) → sub X k L s = s
  | [], _, _, _ => rfl
  | us :: L, k, s, h => by
    simp only [sub]
    have := h 0 (by simp)
    simp only [Nat.add_zero] at this
    rw [this]
    exact sub_none X L (k + 1) _ (fun j hj => by have := h (j + 1) (by simpa using hj); rwa [Nat.add_assoc, Nat.add_comm 1 j])
theorem sub_pre (A B : List (List Upd)) (s : St) : sub (fun j => decide (j < A.length)) 0 (A ++ B) s = sub (fun _ => true) 0 A s := by
  rw [sub_split, sub_none _ B _ _ (fun j _ => by simp), sub_all _ A 0 s (fun j hj => by simp; exact hj)]
theorem wpD_walk {l : List Oper} {K : St → List (List Part × List Part) → Prop} : ∀ {rest : List Oper} {s0 : St} {A : List (List Upd)} {tr : List (List Part × List Part)},
    wpD T cq l rest (sub (fun _ => true) 0 A s0) tr K → tr.length = A.length → (tr.map (·.2)) = A.map (fun us => us.map Upd.part) →
    ∃ (B : List (List Upd)) (tr' : List (List Part × List Part)), B.length = rest.length ∧ tr'.length = rest.length ∧ (tr'.map (·.2)) = B.map (fun us => us.map Upd.part) ∧ K (sub (fun _ => true) 0 (A ++ B) s0) (tr ++ tr') ∧
      ∀ i o us rs, rest[i]? = some o → B[i]? = some us → (tr'.map (·.1))[i]? = some rs → (opD T cq l o).wp (sub (fun j => decide (j < A.length + i)) 0 (A ++ B) s0) (· = us) ∧ ∀ c ∈ (opD T cq l o).reads (sub (fun j => decide (j < A.length + i)) 0 (A ++ B) s0), c ∈ rs
  | [], s0, A, tr, h, _, _ => ⟨[], [], rfl, rfl, rfl, by simp only [List.append_nil]; exact h, fun i o us rs hi => by simp at hi⟩
  | o :: rest, s0, A, tr, h, hl, hp => by
    simp only [wpD] at h
    obtain ⟨us, rs, h1, h2, _, h3⟩ := wpt_iff h
    have e1 : (sub (fun _ => true) 0 A s0).app us = sub (fun _ => true) 0 (A ++ [us]) s0 := by rw [sub_split]; rfl
    rw [e1] at h3
    obtain ⟨B, tr', b1, b2, b3, b4, b5⟩ := wpD_walk h3 (by simp [hl]) (by simp [hp])
    refine ⟨us :: B, (rs, us.map Upd.part) :: tr', by simp [b1], by simp [b2], by simp [b3], by simpa using b4, ?_⟩
    intro i o' us' rs' hi hu hr
    cases i with
    | zero =>
      simp only [List.getElem?_cons_zero, Option.some.injEq] at hi hu
      simp only [List.map_cons, List.getElem?_cons_zero, Option.some.injEq] at hr
      subst hi; subst hu; subst hr
      rw [Nat.add_zero, sub_pre]
      exact ⟨h1, h2⟩
    | succ i =>
      have := b5 i o' us' rs' (by simpa using hi) (by simpa using hu) (by simpa using hr)
      simp only [List.length_append, List.length_cons, List.length_nil, List.append_assoc, List.cons_append, List.nil_append] at this
      rw [show A.length + (0 + 1) + i = A.length + (i + 1) from by omega] at this
      exact this
theorem ancs_len : ∀ (l : List Oper) (acc : List (List Nat)), (ancs l acc).length = acc.length + l.length
  | [], acc => by simp [ancs]
  | o :: l, acc => by rw [ancs, ancs_len l]; simp; omega
theorem ancs_pre : ∀ (l : List Oper) (acc : List (List Nat)) (i : Nat), i < acc.length → (ancs l acc).getD i [] = acc.getD i []
  | [], acc, i, _ => rfl
  | o :: l, acc, i, h => by
    rw [ancs, ancs_pre l _ i (by simp; omega)]
    simp only [List.getD_eq_getElem?_getD]
    rw [List.getElem?_append_left h]
def dirs (o : Oper) : List Edge := o.after.toList.filter (Region.binds .any)
theorem ancs_cons (o : Oper) (l : List Oper) (acc : List (List Nat)) : ancs (o :: l) acc = ancs l (acc ++ [(dirs o).flatMap fun e => e.on :: acc.getD e.on []]) := rfl
theorem flatMap_eq {α β : Type} {f g : α → List β} : ∀ {l : List α}, (∀ x ∈ l, f x = g x) → l.flatMap f = l.flatMap g
  | [], _ => rfl
  | x :: l, h => by rw [List.flatMap_cons, List.flatMap_cons, h x (by simp), flatMap_eq fun y hy => h y (by simp [hy])]
theorem ancs_at (i : Nat) : ∀ (l : List Oper) (acc : List (List Nat)) (o : Oper), l[i]? = some o → (∀ e ∈ dirs o, e.on < acc.length + i) →
    (ancs l acc).getD (acc.length + i) [] = (dirs o).flatMap fun e => e.on :: (ancs l acc).getD e.on [] := by
  induction i with
  | zero =>
    intro l acc o h he
    cases l with
    | nil => simp at h
    | cons o1 l =>
      simp only [List.getElem?_cons_zero, Option.some.injEq] at h
      subst h
      rw [ancs_cons, Nat.add_zero, ancs_pre l _ _ (by simp)]
      have e0 : (acc ++ [(dirs o1).flatMap fun e => e.on :: acc.getD e.on []]).getD acc.length [] = (dirs o1).flatMap fun e => e.on :: acc.getD e.on [] := by
        rw [List.getD_eq_getElem?_getD, List.getElem?_append_right (Nat.le_refl _), Nat.sub_self]
        rfl
      rw [e0]
      refine flatMap_eq fun e hm => ?_
      have h1 : e.on < acc.length := he e hm
      rw [ancs_pre l _ _ (by simp; omega)]
      simp only [List.getD_eq_getElem?_getD]
      rw [List.getElem?_append_left h1]
  | succ i ih =>
    intro l acc o h he
    cases l with
    | nil => simp at h
    | cons o1 l =>
      simp only [List.getElem?_cons_succ] at h
      have := ih l (acc ++ [(dirs o1).flatMap fun e => e.on :: acc.getD e.on []]) o h (fun e hm => by have := he e hm; simp; omega)
      simp only [List.length_append, List.length_cons, List.length_nil] at this
      rw [ancs_cons, show acc.length + (i + 1) = acc.length + (0 + 1) + i from by omega]
      exact this
theorem region_any (hT : ∀ t i, T t = some i → TOk P t i) (hcq : ∀ o c, o.op = .call c → OpOk P o (cq o c)) (hm : P.follows .mixedOrders = true) {id : Nat} {l : List Oper} {K : AX → St → Prop} {s : St} (hd : (l.all (dstOk s.n)) = true)
    (h : wpD T cq l l s [] fun s' tr => indepB l tr = true ∧ K .normal s') : Tri P (.region id l.toArray true) K s := by
  intro W0 M a0 w0 hR0
  have hR0' : RelE W0 M s a0 { w0 with drawn := w0.drawn + 1 } := by
    obtain ⟨G, h⟩ := hR0
    obtain ⟨m1, e1⟩ := h.mem.grow (w' := { w0 with drawn := w0.drawn + 1 }) ⟨rfl, rfl, rfl, Nat.le_refl _, fun _ _ _ => rfl⟩
    exact ⟨G, h.mem' e1 m1 rfl rfl⟩
  obtain ⟨L, tr, b1, b2, b3, ⟨hind, hK⟩, b5⟩ := wpD_walk (A := []) (s0 := s) (tr := []) h rfl rfl
  simp only [List.nil_append, List.length_nil, Nat.zero_add] at b5 hK hind
  simp only [indepB, Bool.and_eq_true, List.all_eq_true, List.mem_range, Bool.or_eq_true, Bool.not_eq_true', decide_eq_true_eq] at hind
  obtain ⟨hedge, hcl⟩ := hind
  have hedge' : ∀ i o, l[i]? = some o → ∀ e ∈ dirs o, e.on < i := by
    intro i o hi e hm
    have hlt : i < l.length := by
      rcases Nat.lt_or_ge i l.length with h | h
      · exact h
      · rw [List.getElem?_eq_none h] at hi; cases hi
    have := hedge i hlt e (by rw [List.getD_eq_getElem?_getD, hi]; exact (List.mem_filter.1 hm).1)
    rcases this with h | h
    · have := (List.mem_filter.1 hm).2; rw [h] at this; cases this
    · exact h
  -- who is listed
  let X : Array Bool → Nat → Bool := fun lst j => lst.getD j false
  have hanc : ∀ i o, l[i]? = some o → (ancs l []).getD i [] = (dirs o).flatMap fun e => e.on :: (ancs l []).getD e.on [] := by
    intro i o hi
    have := ancs_at i l [] o hi (fun e hm => by simpa using hedge' i o hi e hm)
    simpa using this
  let Down : Array Bool → Prop := fun lst => ∀ i o, l[i]? = some o → X lst i = true → ∀ e ∈ dirs o, X lst e.on = true
  have hdown : ∀ lst, Down lst → ∀ i o, l[i]? = some o → (∀ e ∈ dirs o, X lst e.on = true) → ∀ j ∈ (ancs l []).getD i [], X lst j = true := by
    intro lst hD i
    induction i using Nat.strongRecOn with
    | _ i ih =>
      intro o hi he j hj
      rw [hanc i o hi] at hj
      obtain ⟨e, hm, hj⟩ := List.mem_flatMap.1 hj
      rcases List.mem_cons.1 hj with rfl | hj
      · exact he e hm
      · have hlt := hedge' i o hi e hm
        have hil : i < l.length := by
          rcases Nat.lt_or_ge i l.length with h | h
          · exact h
          · rw [List.getElem?_eq_none h] at hi; cases hi
        obtain ⟨o2, ho2⟩ : ∃ o2, l[e.on]? = some o2 := ⟨_, List.getElem?_eq_getElem (by omega)⟩
        exact ih e.on hlt o2 ho2 (hD e.on o2 ho2 (he e hm)) j hj
  have hclash : ∀ i j, j < i → i < l.length → ∀ c, (c ∈ (tr.getD i ([], [])).1 ∧ c ∈ (tr.getD j ([], [])).2) ∨ (c ∈ (tr.getD i ([], [])).2 ∧ c ∈ (tr.getD j ([], [])).1) ∨ (c ∈ (tr.getD i ([], [])).2 ∧ c ∈ (tr.getD j ([], [])).2) → j ∈ (ancs l []).getD i [] := by
    intro i j hji hi c hc
    rcases hcl i hi j hji with h | h
    · exfalso
      have hmeet : ∀ {x y : List Part}, c ∈ x → c ∈ y → meets x y = true := fun hx hy => List.any_eq_true.2 ⟨c, hx, by simpa using hy⟩
      simp only [clash, Bool.or_eq_false_iff] at h
      rcases hc with ⟨h1, h2⟩ | ⟨h1, h2⟩ | ⟨h1, h2⟩
      · rw [hmeet h2 h1] at h; exact absurd h.1.2 (by simp)
      · rw [hmeet h2 h1] at h; exact absurd h.1.1 (by simp)
      · rw [hmeet h2 h1] at h; exact absurd h.2 (by simp)
    · simpa using h
  have htr2 : ∀ j us, L[j]? = some us → (tr.getD j ([], [])).2 = us.map Upd.part := by
    intro j us hj
    have h1 : (tr.map (·.2))[j]? = some (us.map Upd.part) := by rw [b3, List.getElem?_map, hj]; rfl
    rw [List.getElem?_map] at h1
    cases ht : tr[j]? with
    | none => rw [ht] at h1; cases h1
    | some p => rw [ht] at h1; injection h1 with h1; rw [List.getD_eq_getElem?_getD, ht]; exact h1
  have hlen : L.length = l.length := b1
  have key : ∀ fuel (lst : Array Bool) (a : Act) (w : World), lst.size = l.length → Down lst → ((List.range l.length).countP fun i => !lst.getD i true) = fuel → RelE W0 M (sub (X lst) 0 L s) a w → wpAny P .any l.toArray (QK W0 M K) fuel lst a w := by
    intro fuel
    have hend : ∀ (lst : Array Bool) (a : Act) (w : World), lst.size = l.length → (∀ i, i < l.length → X lst i = true) → RelE W0 M (sub (X lst) 0 L s) a w → QK W0 M K .normal a w := by
      intro lst a w _ hall hR
      rw [sub_all (X lst) L 0 s (fun j hj => by rw [Nat.zero_add]; exact hall j (by omega))] at hR
      exact ⟨_, hR, hK⟩
    have hdef : ∀ (lst : Array Bool) (i : Nat), lst.size = l.length → i < l.length → lst.getD i true = X lst i := by
      intro lst i hs hi
      simp only [X, Array.getD_eq_getD_getElem?]
      rw [Array.getElem?_eq_getElem (by omega)]
      rfl
    have hready : ∀ (lst : Array Bool) (i : Nat), lst.size = l.length → i ∈ Region.ready .any l.toArray lst → ∃ o, l[i]? = some o ∧ i < l.length ∧ X lst i = false ∧ ∀ e ∈ dirs o, X lst e.on = true := by
      intro lst i hs hi
      simp only [Region.ready, List.mem_filter, List.mem_range, List.size_toArray, Bool.and_eq_true, Bool.not_eq_true'] at hi
      obtain ⟨h1, h2, h3⟩ := hi
      refine ⟨l[i], List.getElem?_eq_getElem h1, h1, by rw [← hdef lst i hs h1]; exact h2, fun e hm => ?_⟩
      have hg : (l.toArray)[i]? = some l[i] := by simp [h1]
      rw [hg] at h3
      simp only [Option.map_some, Option.getD_some] at h3
      have h4 := (Array.all_eq_true_iff_forall_mem.1 h3) e (by have := (List.mem_filter.1 hm).1; simpa using this)
      have h5 := (List.mem_filter.1 hm).2
      simp only [h5, Bool.not_true, Bool.false_or] at h4
      exact h4
    have hmin : ∀ (lst : Array Bool), lst.size = l.length → Region.ready .any l.toArray lst = [] → ∀ i, i < l.length → X lst i = true := by
      intro lst hs hr i
      induction i using Nat.strongRecOn with
      | _ i ih =>
        intro hi
        cases hx : X lst i with
        | true => rfl
        | false =>
          exfalso
          have : i ∈ Region.ready .any l.toArray lst := by
            simp only [Region.ready, List.mem_filter, List.mem_range, List.size_toArray, Bool.and_eq_true, Bool.not_eq_true']
            refine ⟨hi, by rw [hdef lst i hs hi]; exact hx, ?_⟩
            have hg : (l.toArray)[i]? = some l[i] := by simp [hi]
            rw [hg]
            simp only [Option.map_some, Option.getD_some]
            refine Array.all_eq_true_iff_forall_mem.2 fun e hm => ?_
            cases hb : Region.binds .any e with
            | false => rfl
            | true =>
              simp only [Bool.not_true, Bool.false_or]
              have hd' : e ∈ dirs l[i] := List.mem_filter.2 ⟨by simpa using hm, hb⟩
              have hlt := hedge' i _ (List.getElem?_eq_getElem hi) e hd'
              exact ih e.on hlt (by omega)
          rw [hr] at this
          cases this
    induction fuel with
    | zero =>
      intro lst a w hs hD hc hR
      have hall : ∀ i, i < l.length → X lst i = true := by
        intro i hi
        rw [List.countP_eq_zero] at hc
        have := hc i (List.mem_range.2 hi)
        rw [hdef lst i hs hi] at this
        simpa using this
      refine ⟨?_, hend lst a w hs hall hR⟩
      rw [List.eq_nil_iff_forall_not_mem]
      intro i hi
      obtain ⟨o, _, h1, h2, _⟩ := hready lst i hs hi
      rw [hall i h1] at h2
      cases h2
    | succ fuel ih =>
      intro lst a w hs hD hc hR
      refine ⟨fun hr => hend lst a w hs (hmin lst hs hr) hR, fun i hi => ?_⟩
      obtain ⟨o, ho, hil, hxi, hdi⟩ := hready lst i hs hi
      have hxset : ∀ j, X (lst.setIfInBounds i true) j = if j = i then true else X lst j := by
        intro j
        simp only [X, Array.getD_eq_getD_getElem?, Array.getElem?_setIfInBounds]
        by_cases e : i = j
        · subst e
          rw [if_pos rfl, if_pos (by omega), if_pos rfl]; rfl
        · rw [if_neg e, if_neg (fun h => e h.symm)]
      obtain ⟨us, hus⟩ : ∃ us, L[i]? = some us := ⟨_, List.getElem?_eq_getElem (by omega)⟩
      obtain ⟨rs, hrs⟩ : ∃ rs, (tr.map (·.1))[i]? = some rs := ⟨_, List.getElem?_eq_getElem (by rw [List.length_map]; omega)⟩
      obtain ⟨c1, c2⟩ := b5 i o us rs ho hus hrs
      have htr1 : (tr.getD i ([], [])).1 = rs := by
        rw [List.getElem?_map] at hrs
        cases ht : tr[i]? with
        | none => rw [ht] at hrs; cases hrs
        | some p => rw [ht] at hrs; injection hrs with hrs; rw [List.getD_eq_getElem?_getD, ht]; exact hrs
      have hlt : ∀ {j : Nat} {vs : List Upd}, L[j]? = some vs → j < l.length := by
        intro j vs hj
        rcases Nat.lt_or_ge j L.length with h | h
        · omega
        · rw [List.getElem?_eq_none h] at hj; cases hj
      have hwp : (opD T cq l o).wp (sub (X lst) 0 L s) (· = us) := by
        refine Q.wp_same c1 fun c hc' => ?_
        have hcr := c2 c hc'
        refine sub_same _ _ L 0 s s (same_refl s c) fun j vs hj hcv => ?_
        rw [Nat.zero_add]
        have hw2 : c ∈ (tr.getD j ([], [])).2 := by rw [htr2 j vs hj]; exact hcv
        rcases Nat.lt_trichotomy j i with h | h | h
        · have := hclash i j h hil c (.inl ⟨by rw [htr1]; exact hcr, hw2⟩)
          rw [hdown lst hD i o ho hdi j this]
          simp [h]
        · subst h; rw [hxi]; simp
        · have := hclash j i h (hlt hj) c (.inr (.inl ⟨hw2, by rw [htr1]; exact hcr⟩))
          cases hxj : X lst j with
          | false => simp; omega
          | true =>
            obtain ⟨o2, ho2⟩ : ∃ o2, l[j]? = some o2 := ⟨_, List.getElem?_eq_getElem (hlt hj)⟩
            have := hdown lst hD j o2 ho2 (hD j o2 ho2 hxj) i this
            rw [hxi] at this; cases this
      have hstate : (sub (X lst) 0 L s).app us = sub (X (lst.setIfInBounds i true)) 0 L s := by
        refine st_ext (by rw [app_n, sub_n, sub_n]) fun c => ?_
        have hsplit : L = L.take i ++ (us :: L.drop (i + 1)) := by
          rw [List.getElem?_eq_getElem (by omega)] at hus
          injection hus with hus
          rw [← hus, List.getElem_cons_drop, List.take_append_drop]
        by_cases hcu : c ∈ us.map Upd.part
        · have e1 : sub (X (lst.setIfInBounds i true)) 0 L s = sub (X (lst.setIfInBounds i true)) (i + 1) (L.drop (i + 1)) ((sub (X (lst.setIfInBounds i true)) 0 (L.take i) s).app us) := by
            conv => lhs; rw [hsplit]
            rw [sub_split]
            simp only [sub]
            have : 0 + (L.take i).length = i := by rw [List.length_take]; omega
            rw [this, hxset i, if_pos rfl]
            rfl
          rw [e1]
          refine same_trans (same_hit us _ (sub (X (lst.setIfInBounds i true)) 0 (L.take i) s) hcu) (same_symm ?_)
          have hno := sub_same (c := c) (X (lst.setIfInBounds i true)) (fun _ => false) (L.drop (i + 1)) (i + 1) ((sub (X (lst.setIfInBounds i true)) 0 (L.take i) s).app us) _ (same_refl _ c) (fun j vs hj hcv => by
            rw [List.getElem?_drop] at hj
            rw [hxset, if_neg (by omega)]
            cases hxj : X lst (i + 1 + j) with
            | false => rfl
            | true =>
              exfalso
              have := hclash (i + 1 + j) i (by omega) (hlt hj) c (.inr (.inr ⟨by rw [htr2 _ vs hj]; exact hcv, by rw [htr2 i us hus]; exact hcu⟩))
              obtain ⟨o2, ho2⟩ : ∃ o2, l[i + 1 + j]? = some o2 := ⟨_, List.getElem?_eq_getElem (hlt hj)⟩
              have := hdown lst hD _ o2 ho2 (hD _ o2 ho2 hxj) i this
              rw [hxi] at this; cases this)
          rw [sub_none (fun _ => false) _ _ _ (fun _ _ => rfl)] at hno
          exact hno
        · refine same_trans (same_skip us _ hcu) ?_
          refine sub_same _ _ L 0 s s (same_refl s c) fun j vs hj hcv => ?_
          rw [Nat.zero_add, hxset]
          by_cases e : j = i
          · subst e
            rw [hus] at hj
            injection hj with hj
            subst hj
            exact (hcu hcv).elim
          · rw [if_neg e]
      have hdo : ∀ d, o.dst = some d → d < (sub (X lst) 0 L s).n := by
        intro d e
        rw [sub_n]
        have := List.all_eq_true.1 hd o (List.mem_of_getElem? ho)
        unfold dstOk at this
        rw [e] at this
        exact of_decide_eq_true this
      have hD' : Down (lst.setIfInBounds i true) := by
        intro j oj hoj hxj e hm
        rw [hxset] at hxj ⊢
        split
        · rfl
        · by_cases ej : j = i
          · subst ej
            rw [ho] at hoj; injection hoj with hoj; subst hoj
            exact hdi e hm
          · rw [if_neg ej] at hxj
            exact hD j oj hoj hxj e hm
      have hcount : ((List.range l.length).countP fun j => !(lst.setIfInBounds i true).getD j true) = fuel := by
        have h1 : ∀ (r : List Nat), r.Nodup → (∀ j ∈ r, j < l.length) → i ∈ r → (r.countP fun j => !(lst.setIfInBounds i true).getD j true) + 1 = r.countP fun j => !lst.getD j true := by
          intro r
          induction r with
          | nil => intro _ _ h; cases h
          | cons x r ihr =>
            intro hnd hb hmem
            rw [List.nodup_cons] at hnd
            have hxl := hb x (by simp)
            have hsz' : (lst.setIfInBounds i true).size = l.length := by simpa using hs
            rw [List.countP_cons, List.countP_cons]
            by_cases e : x = i
            · subst e
              have h2 : (r.countP fun j => !(lst.setIfInBounds x true).getD j true) = r.countP fun j => !lst.getD j true := by
                apply List.countP_congr
                intro j hj
                have hjl := hb j (by simp [hj])
                rw [hdef _ j hsz' hjl, hdef lst j hs hjl, hxset, if_neg (fun (e : j = x) => hnd.1 (e ▸ hj))]
              rw [h2, hdef _ x hsz' hxl, hdef lst x hs hxl, hxset, if_pos rfl, hxi]
              simp
            · have hmem' : i ∈ r := by
                rcases List.mem_cons.1 hmem with h | h
                · exact (e h.symm).elim
                · exact h
              have := ihr hnd.2 (fun j hj => hb j (by simp [hj])) hmem'
              rw [hdef _ x hsz' hxl, hdef lst x hs hxl, hxset, if_neg e]
              omega
        have := h1 (List.range l.length) List.nodup_range (fun j hj => List.mem_range.1 hj) (List.mem_range.2 hil)
        omega
      have hfin := wpO_ok (P := P) hT hcq (ops := l.toArray) rfl (Q' := QK W0 M K) hdo hR hwp
      unfold wpOp
      have hg : (l.toArray)[i]? = some o := by simpa using ho
      rw [hg]
      simp only
      split
      · rename_i hw
        rw [if_pos hw] at hfin
        refine .inl (Oper.wp_mono (fun a' w' => ?_) hfin)
        rintro ⟨us', rfl, hr⟩
        rw [hstate] at hr
        exact ih _ a' w' (by simpa using hs) hD' hcount hr
      · rename_i hw
        rw [if_neg hw] at hfin
        obtain ⟨us', rfl, hr⟩ := hfin
        rw [hstate] at hr
        exact ih _ _ w (by simpa using hs) hD' hcount hr
  have hX0 : ∀ j, X (Array.replicate l.length false) j = false := by
    intro j
    simp only [X, Array.getD_eq_getD_getElem?, Array.getElem?_replicate]
    split <;> rfl
  refine wp_region_any hm ?_
  rw [List.size_toArray]
  refine key l.length _ a0 _ (by simp) (fun i o _ hx => by rw [hX0] at hx; cases hx) ?_ ?_
  · rw [List.countP_eq_length.2 (fun j hj => by simp [Array.getD_eq_getD_getElem?, List.mem_range.1 hj])]
    simp
  · rw [sub_none _ L 0 s (fun j _ => by rw [Nat.zero_add]; exact hX0 j)]
    exact hR0'
end
end Go.Proofs.YtgfmnpbcbpobbaaDoor.Am
/- An abstract machine over plain data: what a function takes and gives; new boxes and slices out of that. No conditions. -/
namespace Go.Proofs.YtgfmnpbcbpobbaaDoor.Am
open Go

/-- A cell, with all that it owns: data, a slice of its own, a pointer to a box of its own. -/
inductive OC where
  | d (x : DV)
  | row (sz : Nat) (e : TypeId) (es : List (List DV))
  | box (cs : List OC)
/-- An argument or a result; 'bx': a pointer to a box that the call may change; 'rx': a slice whose elements the call may change. -/
inductive OA where
  | c (x : OC)
  | agg (xs : List OC)
  | bx (cs : List OC)
  | rx (sz : Nat) (e : TypeId) (es : List (List DV))
mutual
def OCr (I : Nat → Nat → Prop) (w : World) : OC → Value → List Nat → Prop
  | .d x, v, F => F = [] ∧ DVr I w x v
  | .row sz e es, v, F => RowOk I w v ⟨es, sz, e, false⟩ ∧ F = (obk v).toList ∧ ∀ g o, obk v = some g → ¬ I g o
  | .box cs, v, F => ∃ g cur ty Fs, v = .pointer (some ⟨g, 0, none⟩) ∧ w.heap[g]? = some (.cells cur ty (0, 0)) ∧ OCs I w cs cur.toList Fs ∧ F = g :: Fs ∧ ∀ o, ¬ I g o
def OCs (I : Nat → Nat → Prop) (w : World) : List OC → List Value → List Nat → Prop
  | [], xs, F => xs = [] ∧ F = []
  | c :: cs, xs, F => ∃ x r F1 F2, xs = x :: r ∧ OCr I w c x F1 ∧ OCs I w cs r F2 ∧ F = F1 ++ F2
end
def OAr (I : Nat → Nat → Prop) (w : World) : OA → Value → List Nat → Prop
  | .c x, v, F => OCr I w x v F
  | .agg xs, v, F => ∃ vs, v = .agg vs ∧ OCs I w xs vs.toList F
  | .bx cs, v, F => OCr I w (.box cs) v F
  | .rx sz e es, v, F => OCr I w (.row sz e es) v F
def OAs (I : Nat → Nat → Prop) (w : World) : List OA → List Value → List Nat → Prop
  | [], xs, F => xs = [] ∧ F = []
  | c :: cs, xs, F => ∃ x r F1 F2, xs = x :: r ∧ OAr I w c x F1 ∧ OAs I w cs r F2 ∧ F = F1 ++ F2
theorem OCr.one {I : Nat → Nat → Prop} {w : World} {c : OC} {v : Value} {F : List Nat} (h : OCr I w c v F) : v.oneCell' = true := by
  cases c <;> simp only [OCr] at h
  case d => exact h.2.one
  case row => exact h.1.one
  case box => obtain ⟨g, cur, ty, Fs, rfl, _⟩ := h; rfl
/-- A made cell: what it is, what is written for it, the next number. -/
structure Mk where
  ac : AC
  us : List Upd
  m : Nat
structure Mks where
  acs : List AC
  us : List Upd
  m : Nat
mutual
def mkC (n : Nat) : OC → Q Mk
  | .d x => .ret ⟨.d x, [], n⟩
  | .row sz e es => .rdR n fun r => .ret ⟨.row n (r.ver + 1), [.r n ⟨r.ver + 1, some ⟨es, sz, e, false⟩⟩], n + 1⟩
  | .box cs => .rdB n fun b => (mkCs (n + 1) cs).bind fun k => .ret ⟨.ptr n (b.ver + 1) 0, k.us ++ [.b n ⟨b.ver + 1, some k.acs⟩], k.m⟩
def mkCs (n : Nat) : List OC → Q Mks
  | [] => .ret ⟨[], [], n⟩
  | c :: cs => (mkC n c).bind fun k => (mkCs k.m cs).bind fun ks => .ret ⟨k.ac :: ks.acs, k.us ++ ks.us, ks.m⟩
end
/-- From number 'n' on, the versions are those of another state. -/
def VerSame (n : Nat) (s0 s : St) : Prop := ∀ k, n ≤ k → (s.b k).ver = (s0.b k).ver ∧ (s.r k).ver = (s0.r k).ver
theorem VerSame.le {n m : Nat} {s0 s : St} (h : VerSame n s0 s) (hm : n ≤ m) : VerSame m s0 s := fun k hk => h k (Nat.le_trans hm hk)
structure Made (W0 : World) (M : Own) (G : Gh) (s0 s : St) (w : World) (n : Nat) (us : List Upd) (m : Nat) (F : List Nat) (G' : Gh) : Prop where
  mem : Mem W0 M G' (s.app us) w
  ext : Ext G s w G' (s.app us) w
  I : G'.I = G.I
  le : n ≤ m
  ver : VerSame m s0 (s.app us)
  own : ∀ x b, own G' (s.app us) x = some b → own G s x = some b ∨ b ∈ F
  n_ : (s.app us).n = s.n
  t : (s.app us).t = s.t
  old : ∀ k, (k < n ∨ m ≤ k) → (s.app us).b k = s.b k ∧ (s.app us).r k = s.r k ∧ G'.bx k = G.bx k ∧ G'.rw k = G.rw k
section
variable {W0 : World} {M : Own} {w : World} {s0 : St}
theorem Made.trans {G G1 G2 : Gh} {s : St} {n m k : Nat} {us vs : List Upd} {F1 F2 : List Nat} (h : Made W0 M G s0 s w n us m F1 G1) (j : Made W0 M G1 s0 (s.app us) w m vs k F2 G2) : Made W0 M G s0 s w n (us ++ vs) k (F1 ++ F2) G2 := by
  refine ⟨by rw [St.app_append]; exact j.mem, by rw [St.app_append]; exact h.ext.trans j.ext, j.I.trans h.I, Nat.le_trans h.le j.le, by rw [St.app_append]; exact j.ver, fun x b hx => ?_, by rw [St.app_append]; exact j.n_.trans h.n_, by rw [St.app_append]; exact j.t.trans h.t, fun i hi => ?_⟩
  · rw [St.app_append] at hx
    rcases j.own x b hx with h1 | h1
    · rcases h.own x b h1 with h2 | h2
      · exact .inl h2
      · exact .inr (by simp [h2])
    · exact .inr (by simp [h1])
  · rw [St.app_append]
    obtain ⟨a1, a2, a3, a4⟩ := h.old i (hi.imp id (Nat.le_trans j.le))
    obtain ⟨b1, b2, b3, b4⟩ := j.old i (hi.imp (fun h0 => Nat.lt_of_lt_of_le h0 h.le) id)
    exact ⟨b1.trans a1, b2.trans a2, b3.trans a3, b4.trans a4⟩
def Free (W0 : World) (M : Own) (G : Gh) (s : St) (F : List Nat) : Prop := ∀ b ∈ F, (∀ x, own G s x ≠ some b) ∧ (W0.heap.size ≤ b ∨ M b)
theorem Free.after {G G1 : Gh} {s : St} {n m : Nat} {us : List Upd} {F1 F2 : List Nat} (hf : Free W0 M G s F2) (hd : ∀ b ∈ F1, b ∉ F2) (h : Made W0 M G s0 s w n us m F1 G1) : Free W0 M G1 (s.app us) F2 := fun b hb => by
  refine ⟨fun x hx => ?_, (hf b hb).2⟩
  rcases h.own x b hx with h1 | h1
  · exact (hf b hb).1 x h1
  · exact hd b h1 hb
theorem app_setB (s : St) (k : Nat) (x : BS) : s.app [.b k x] = s.setB k x := rfl
theorem app_setR (s : St) (k : Nat) (x : RS) : s.app [.r k x] = s.setR k x := rfl
mutual
theorem mkC_ok : ∀ (c : OC) {n : Nat} {s : St} {G : Gh} {v : Value} {F : List Nat} {K : Mk → Prop}, (mkC n c).wp s0 K → Mem W0 M G s w → OCr G.I w c v F → F.Nodup → Free W0 M G s F → VerSame n s0 s →
    ∃ k G', K k ∧ Made W0 M G s0 s w n k.us k.m F G' ∧ ACr G' (s.app k.us) w k.ac v
  | .d x, n, s, G, v, F, K, hq, hm, hc, hn, hf, hv => by
    simp only [OCr] at hc
    obtain ⟨rfl, hd⟩ := hc
    exact ⟨_, G, hq, ⟨hm, Ext.refl _ _ _, rfl, Nat.le_refl _, hv, fun x b h => .inl h, rfl, rfl, fun k _ => ⟨rfl, rfl, rfl, rfl⟩⟩, by simpa only [ACr] using hd⟩
  | .row sz e es, n, s, G, v, F, K, hq, hm, hc, hn, hf, hv => by
    simp only [OCr] at hc
    obtain ⟨hrow, rfl, hI⟩ := hc
    simp only [mkC, Q.wp] at hq
    have hver := (hv n (Nat.le_refl _)).2
    obtain ⟨m1, x1⟩ := hm.addRow n ((s0.r n).ver + 1) v ⟨es, sz, e, false⟩ (by rw [hver]; omega) hrow (fun x b hb hx => (hf b (by simp [hb])).1 x hx) (fun g hg o hi => (hI g o hg hi).elim) (fun g hg => (hf g (by simp [hg])).2)
    refine ⟨_, _, hq, ⟨m1, x1, rfl, Nat.le_succ _, fun k hk => ?_, fun x b hx => ?_, rfl, rfl, fun k hk => ?_⟩, ?_⟩
    · have hk' : n + 1 ≤ k := hk
      have := hv k (by omega)
      simp only [app_setR, St.setR, upd]
      rw [if_neg (by omega)]
      exact this
    · rcases x with k | k
      · exact .inl hx
      · simp only [app_setR] at hx
        by_cases e : k = n
        · subst e
          simp only [Am.own, St.setR, upd, if_true, Option.isSome_some] at hx
          exact .inr (by simp [hx])
        · left
          simpa [Am.own, St.setR, upd, e] using hx
    · simp only [app_setR, St.setR, upd]
      have hne : k ≠ n := by simp only at hk; omega
      simp [hne]
    · simp only [ACr, app_setR, St.setR, upd, if_true]
      exact ⟨hrow.one, Nat.le_refl _, fun _ _ => trivial⟩
  | .box cs, n, s, G, v, F, K, hq, hm, hc, hn, hf, hv => by
    simp only [OCr] at hc
    obtain ⟨g, cur, ty, Fs, rfl, hh, hcs, rfl, hI⟩ := hc
    simp only [mkC, Q.wp] at hq
    rw [Q.wp_bind] at hq
    rw [List.nodup_cons] at hn
    obtain ⟨k, G1, hq, h1, h2⟩ := mkCs_ok cs hq hm hcs hn.2 (fun b hb => hf b (by simp [hb])) (hv.le (Nat.le_succ n))
    have hver := (hv n (Nat.le_refl _)).1
    have hbn : ((s.app k.us).b n).ver = (s0.b n).ver := by rw [(h1.old n (.inl (Nat.lt_succ_self n))).1]; exact hver
    obtain ⟨m1, x1⟩ := h1.mem.addBox n ((s0.b n).ver + 1) g k.acs (by rw [hbn]; omega) ⟨cur, ty, hh, h2⟩ (fun x hx => by
      rcases h1.own x g hx with h | h
      · exact (hf g (by simp)).1 x h
      · exact hn.1 h) (by rw [h1.I]; exact hI) (hf g (by simp)).2
    refine ⟨_, ⟨G1.I, upd G1.bx n g, G1.rw⟩, hq, ⟨by rw [St.app_append]; exact m1, by rw [St.app_append]; exact h1.ext.trans x1, h1.I, Nat.le_trans (Nat.le_succ n) h1.le, fun j hj => ?_, fun x b hx => ?_, by rw [St.app_append]; exact h1.n_, by rw [St.app_append]; exact h1.t, fun j hj => ?_⟩, ?_⟩
    · have := h1.ver j hj
      have hle := h1.le
      rw [St.app_append]
      simp only [app_setB, St.setB, upd]
      rw [if_neg (by have : n + 1 ≤ j := Nat.le_trans hle hj; omega)]
      exact this
    · rw [St.app_append] at hx
      rcases x with j | j
      · simp only [app_setB] at hx
        by_cases e : j = n
        · subst e
          simp only [Am.own, St.setB, upd, if_true, Option.isSome_some, Option.some.injEq] at hx
          exact .inr (by simp [hx])
        · have hx' : Am.own G1 (s.app k.us) (.inl j) = some b := by simpa [Am.own, St.setB, upd, e] using hx
          rcases h1.own _ _ hx' with h | h
          · exact .inl h
          · exact .inr (by simp [h])
      · have hx' : Am.own G1 (s.app k.us) (.inr j) = some b := hx
        rcases h1.own _ _ hx' with h | h
        · exact .inl h
        · exact .inr (by simp [h])
    · rw [St.app_append]
      obtain ⟨a1, a2, a3, a4⟩ := h1.old j (hj.imp Nat.lt_succ_of_lt id)
      simp only [app_setB, St.setB, upd]
      have hne : j ≠ n := by have := h1.le; simp only at hj; omega
      simp only [hne, if_false]
      exact ⟨a1, a2, a3, a4⟩
    · rw [St.app_append]
      simp only [ACr, app_setB, St.setB, upd, if_true]
      exact ⟨rfl, Nat.le_refl _, fun _ _ => trivial⟩
theorem mkCs_ok : ∀ (cs : List OC) {n : Nat} {s : St} {G : Gh} {vs : List Value} {F : List Nat} {K : Mks → Prop}, (mkCs n cs).wp s0 K → Mem W0 M G s w → OCs G.I w cs vs F → F.Nodup → Free W0 M G s F → VerSame n s0 s →
    ∃ k G', K k ∧ Made W0 M G s0 s w n k.us k.m F G' ∧ ACs G' (s.app k.us) w k.acs vs
  | [], n, s, G, vs, F, K, hq, hm, hc, hn, hf, hv => by
    simp only [OCs] at hc
    obtain ⟨rfl, rfl⟩ := hc
    exact ⟨_, G, hq, ⟨hm, Ext.refl _ _ _, rfl, Nat.le_refl _, hv, fun x b h => .inl h, rfl, rfl, fun k _ => ⟨rfl, rfl, rfl, rfl⟩⟩, by simp [ACs]⟩
  | c :: cs, n, s, G, vs, F, K, hq, hm, hc, hn, hf, hv => by
    simp only [OCs] at hc
    obtain ⟨x, r, F1, F2, rfl, h1, h2, rfl⟩ := hc
    simp only [mkCs, Q.wp_bind] at hq
    rw [List.nodup_append] at hn
    obtain ⟨k, G1, hq, j1, j2⟩ := mkC_ok c hq hm h1 hn.1 (fun b hb => hf b (by simp [hb])) hv
    have hf2 : Free W0 M G1 (s.app k.us) F2 := Free.after (F1 := F1) (fun b hb => hf b (by simp [hb])) (fun b hb1 hb2 => hn.2.2 b hb1 b hb2 rfl) j1
    obtain ⟨ks, G2, hq, j3, j4⟩ := mkCs_ok cs hq j1.mem (by rw [j1.I]; exact h2) hn.2.1 hf2 j1.ver
    refine ⟨_, G2, hq, j1.trans j3, ?_⟩
    rw [St.app_append]
    simp only [ACs]
    exact ⟨x, r, rfl, j3.ext.ac j2, j4⟩
end
end
end Go.Proofs.YtgfmnpbcbpobbaaDoor.Am
/- An abstract machine over plain data: what a call takes out of a state. No conditions. -/
namespace Go.Proofs.YtgfmnpbcbpobbaaDoor.Am
open Go

/-- How an argument's cell is handed over: read as data, given away as a slice of the caller's own, given away as a box. -/
inductive CSh where
  | D
  | R (sz : Nat) (e : TypeId)
  | B (cs : List CSh)
inductive ASh where
  | c (s : CSh)
  | agg (ss : List CSh)
  | bx (ss : List CSh)
  | rx (sz : Nat) (e : TypeId)
structure Tk where
  oc : OC
  fz : List Nat
  ids : List (Nat ⊕ Nat)
structure Tks where
  ocs : List OC
  fz : List Nat
  ids : List (Nat ⊕ Nat)
mutual
def takeC : CSh → AC → Q Tk
  | .D, ac => (toD ac).bind fun d => .ret ⟨.d d.1, d.2, []⟩
  | .R sz e, .row id ver => .rdR id fun r => match r.c with
    | some R => .req (ver = r.ver ∧ R.sz = sz ∧ R.e = e ∧ R.fr = false) (.ret ⟨.row sz e R.es, [], [.inr id]⟩)
    | none => .fail
  | .R sz e, .nil => .req (0 < sz ∧ e < mapF) (.ret ⟨.row sz e [], [], []⟩)
  | .R _ _, _ => .fail
  | .B cs, .ptr id ver off => .rdB id fun b => match b.c with
    | some acs => (takeCs cs acs).bind fun k => .req (ver = b.ver ∧ off = 0) (.ret ⟨.box k.ocs, k.fz, .inl id :: k.ids⟩)
    | none => .fail
  | .B _, _ => .fail
def takeCs : List CSh → List AC → Q Tks
  | [], [] => .ret ⟨[], [], []⟩
  | s :: ss, c :: cs => (takeC s c).bind fun k => (takeCs ss cs).bind fun ks => .ret ⟨k.oc :: ks.ocs, k.fz ++ ks.fz, k.ids ++ ks.ids⟩
  | _, _ => .fail
end
/-- An argument: what it is, what is read, what is given away, the boxes that come back. -/
structure Ta where
  oa : OA
  fz : List Nat
  ids : List (Nat ⊕ Nat)
  tops : List (Nat ⊕ Nat)
structure Tas where
  xs : List OA
  fz : List Nat
  ids : List (Nat ⊕ Nat)
  tops : List (Nat ⊕ Nat)
def takeA : ASh → AV → Q Ta
  | .c s, .c ac => (takeC s ac).bind fun k => .ret ⟨.c k.oc, k.fz, k.ids, []⟩
  | .agg ss, .agg acs => (takeCs ss acs).bind fun k => .ret ⟨.agg k.ocs, k.fz, k.ids, []⟩
  | .bx ss, .c (.ptr id ver off) => .rdB id fun b => match b.c with
    | some acs => (takeCs ss acs).bind fun k => .req (ver = b.ver ∧ off = 0) (.ret ⟨.bx k.ocs, k.fz, k.ids, [.inl id]⟩)
    | none => .fail
  | .rx sz e, .c (.row id ver) => .rdR id fun r => match r.c with
    | some R => .req (ver = r.ver ∧ R.sz = sz ∧ R.e = e ∧ R.fr = false) (.ret ⟨.rx sz e R.es, [], [], [.inr id]⟩)
    | none => .fail
  | .bx _, .c (.d (.v (.pointer none))) => .ret ⟨.c (.d (.v (.pointer none))), [], [], []⟩
  | _, _ => .fail
def takeAs : List ASh → List AV → Q Tas
  | [], [] => .ret ⟨[], [], [], []⟩
  | s :: ss, c :: cs => (takeA s c).bind fun k => (takeAs ss cs).bind fun ks => .ret ⟨k.oa :: ks.xs, k.fz ++ ks.fz, k.ids ++ ks.ids, k.tops ++ ks.tops⟩
  | _, _ => .fail
section
variable {W0 : World} {M : Own} {G : Gh} {s : St} {w : World}
/-- What has to hold of the cells that are fixed when the call begins. -/
structure Fixed (G : Gh) (s : St) (w : World) (I' : Nat → Nat → Prop) (fz : List Nat) (ids : List (Nat ⊕ Nat)) : Prop where
  I : ∀ b o, G.I b o → I' b o
  fz : ∀ id ∈ fz, ∀ R, (s.r id).c = some R → DVr I' w (.sl R.es) (G.rw id)
  no : ∀ x ∈ ids, ∀ g, own G s x = some g → ∀ o, ¬ I' g o
theorem Fixed.sub {I' : Nat → Nat → Prop} {fz fz' : List Nat} {ids ids' : List (Nat ⊕ Nat)} (h : Fixed G s w I' fz ids) (h1 : ∀ x ∈ fz', x ∈ fz) (h2 : ∀ x ∈ ids', x ∈ ids) : Fixed G s w I' fz' ids' :=
  ⟨h.I, fun id hm => h.fz id (h1 id hm), fun x hm => h.no x (h2 x hm)⟩
def live (s : St) : Nat ⊕ Nat → Prop
  | .inl id => (s.b id).c.isSome = true
  | .inr id => ∃ R, (s.r id).c = some R ∧ R.fr = false
mutual
theorem takeC_ok (h : Mem W0 M G s w) : ∀ (sh : CSh) {ac : AC} {v : Value} {K : Tk → Prop}, ACr G s w ac v → (takeC sh ac).wp s K → ∃ k, K k ∧ (∀ x ∈ k.ids, live s x) ∧ ∀ I', Fixed G s w I' k.fz k.ids → OCr I' w k.oc v (k.ids.filterMap (own G s))
  | .D, ac, v, K, hx, hq => by
    simp only [takeC, Q.wp_bind, Q.wp] at hq
    obtain ⟨d, hq, _, hd⟩ := toD_ok hx hq
    exact ⟨_, hq, by simp, fun I' hf => by simp only [OCr]; exact ⟨rfl, hd I' hf.I hf.fz⟩⟩
  | .R sz e, ac, v, K, hx, hq => by
    cases ac <;> simp only [takeC, Q.wp] at hq <;> (try exact hq.elim)
    case nil =>
      simp only [ACr] at hx
      subst hx
      refine ⟨_, hq.2, by simp, fun I' hf => ?_⟩
      simp only [OCr]
      exact ⟨⟨hq.1.1, by simp, .inl ⟨hq.1.2, [], World.ownsRow_nil w 0 e sz, by simp [DVee]⟩⟩, rfl, fun g o hg => by cases hg⟩
    case row id ver =>
      split at hq
      · rename_i R hR
        obtain ⟨⟨h1, h2, h3, h4⟩, hq⟩ := hq
        simp only [ACr] at hx
        obtain rfl := hx.2.2 h1 (by rw [hR]; rfl)
        refine ⟨_, hq, fun x hm => by simp at hm; subst hm; exact ⟨R, hR, h4⟩, fun I' hf => ?_⟩
        have q := (h.rw id R hR).mono hf.I
        simp only [OCr]
        have hown : own G s (.inr id) = obk (G.rw id) := by simp [own, hR]
        obtain ⟨Re, Rz, Rt, Rf⟩ := R
        simp only at h2 h3 h4
        subst h2; subst h3; subst h4
        refine ⟨q, ?_, fun g o hg => hf.no (.inr id) (by simp) g (by rw [hown]; exact hg) o⟩
        cases hb : obk (G.rw id) <;> simp [hown, hb]
      · exact hq.elim
  | .B cs, ac, v, K, hx, hq => by
    cases ac <;> simp only [takeC, Q.wp] at hq <;> (try exact hq.elim)
    case ptr id ver off =>
      split at hq
      · rename_i acs hc
        rw [Q.wp_bind] at hq
        obtain ⟨cur, ty, hh, hac⟩ := h.bx id acs hc
        obtain ⟨k, hk0, hl, hk⟩ := takeCs_ok h cs hac hq
        clear hq
        obtain ⟨⟨h1, h2⟩, hq⟩ := hk0
        simp only [ACr] at hx
        obtain rfl := hx.2.2 h1 (by rw [hc]; rfl)
        rw [h2]
        have hown : own G s (.inl id) = some (G.bx id) := by simp [own, hc]
        refine ⟨_, hq, fun x hm => by
          rcases List.mem_cons.1 hm with rfl | hm
          · simp [live, hc]
          · exact hl x hm, fun I' hf => ?_⟩
        simp only [OCr]
        refine ⟨G.bx id, cur, ty, _, rfl, hh, hk I' (hf.sub (fun _ h => h) (fun x hm => by simp [hm])), ?_, fun o => hf.no (.inl id) (by simp) _ hown o⟩
        rw [List.filterMap_cons_some hown]
      · exact hq.elim
theorem takeCs_ok (h : Mem W0 M G s w) : ∀ (shs : List CSh) {acs : List AC} {vs : List Value} {K : Tks → Prop}, ACs G s w acs vs → (takeCs shs acs).wp s K → ∃ k, K k ∧ (∀ x ∈ k.ids, live s x) ∧ ∀ I', Fixed G s w I' k.fz k.ids → OCs I' w k.ocs vs (k.ids.filterMap (own G s))
  | [], acs, vs, K, hx, hq => by
    cases acs with
    | nil =>
      simp only [ACs] at hx; subst hx
      exact ⟨_, hq, by simp, fun I' hf => by simp [OCs]⟩
    | cons c cs => exact hq.elim
  | sh :: shs, acs, vs, K, hx, hq => by
    cases acs with
    | nil => exact hq.elim
    | cons c cs =>
      simp only [ACs] at hx
      obtain ⟨v, r, rfl, h1, h2⟩ := hx
      simp only [takeCs, Q.wp_bind, Q.wp] at hq
      obtain ⟨k, hq, hl, hk⟩ := takeC_ok h sh h1 hq
      obtain ⟨ks, hq, hls, hks⟩ := takeCs_ok h shs h2 hq
      refine ⟨_, hq, fun x hm => by
        rcases List.mem_append.1 hm with hm | hm
        · exact hl x hm
        · exact hls x hm, fun I' hf => ?_⟩
      simp only [OCs]
      exact ⟨v, r, _, _, rfl, hk I' (hf.sub (fun x hm => by simp [hm]) (fun x hm => by simp [hm])), hks I' (hf.sub (fun x hm => by simp [hm]) (fun x hm => by simp [hm])), List.filterMap_append⟩
end
/-- All that a call is handed the memory of. -/
def Ta.foot (k : Ta) : List (Nat ⊕ Nat) := k.tops ++ k.ids
/-- What is handed over and comes back, as a value. -/
def topVal (G : Gh) : Nat ⊕ Nat → Value
  | .inl t => .pointer (some ⟨G.bx t, 0, none⟩)
  | .inr t => G.rw t
theorem takeA_ok (h : Mem W0 M G s w) {sh : ASh} {x : AV} {v : Value} {K : Ta → Prop} (hx : AVr G s w x v) (hq : (takeA sh x).wp s K) :
    ∃ k, K k ∧ (∀ x ∈ k.ids, live s x) ∧ (∀ x ∈ k.tops, live s x) ∧ (∀ I', Fixed G s w I' k.fz (k.tops ++ k.ids) → OAr I' w k.oa v ((k.tops ++ k.ids).filterMap (own G s))) ∧
      ((k.tops = [] ∧ (∀ cs, k.oa ≠ .bx cs) ∧ ∀ a b c, k.oa ≠ .rx a b c) ∨ (∃ id cs, k.tops = [.inl id] ∧ k.oa = .bx cs ∧ v = topVal G (.inl id)) ∨ ∃ id a b c, k.tops = [.inr id] ∧ k.oa = .rx a b c ∧ v = topVal G (.inr id)) := by
  unfold takeA at hq
  split at hq
  · simp only [Q.wp_bind, Q.wp] at hq
    obtain ⟨k, hq, hl, hk⟩ := takeC_ok h _ (cell_one hx) hq
    exact ⟨_, hq, hl, by simp, fun I' hf => by simpa [OAr] using hk I' (by simpa using hf), .inl ⟨rfl, by simp, by simp⟩⟩
  · simp only [Q.wp_bind, Q.wp] at hq
    simp only [AVr] at hx
    obtain ⟨vs, rfl, hx⟩ := hx
    obtain ⟨k, hq, hl, hk⟩ := takeCs_ok h _ hx hq
    exact ⟨_, hq, hl, by simp, fun I' hf => by simp only [OAr]; exact ⟨vs, rfl, by simpa using hk I' (by simpa using hf)⟩, .inl ⟨rfl, by simp, by simp⟩⟩
  · rename_i ss id ver off
    simp only [Q.wp] at hq
    split at hq
    · rename_i acs hc
      rw [Q.wp_bind] at hq
      obtain ⟨cur, ty, hh, hac⟩ := h.bx id acs hc
      obtain ⟨k, hk0, hl, hk⟩ := takeCs_ok h ss hac hq
      clear hq
      obtain ⟨⟨h1, h2⟩, hq⟩ := hk0
      have hx' := cell_one hx
      simp only [ACr] at hx'
      obtain rfl := hx'.2.2 h1 (by rw [hc]; rfl)
      rw [h2]
      have hown : own G s (.inl id) = some (G.bx id) := by simp [own, hc]
      refine ⟨_, hq, hl, fun i hi => by simp at hi; subst hi; simp [live, hc], fun I' hf => ?_, .inr (.inl ⟨id, _, rfl, rfl, rfl⟩)⟩
      simp only [OAr, OCr]
      refine ⟨G.bx id, cur, ty, _, rfl, hh, hk I' (hf.sub (fun _ h => h) (fun x hm => by simp [hm])), ?_, fun o => hf.no (.inl id) (by simp) _ hown o⟩
      simp [List.filterMap_cons_some hown]
    · exact hq.elim
  · rename_i sz e id ver
    simp only [Q.wp] at hq
    split at hq
    · rename_i R hR
      obtain ⟨⟨h1, h2, h3, h4⟩, hq⟩ := hq
      have hx' := cell_one hx
      simp only [ACr] at hx'
      obtain rfl := hx'.2.2 h1 (by rw [hR]; rfl)
      refine ⟨_, hq, by simp, fun x hm => by simp at hm; subst hm; exact ⟨R, hR, h4⟩, fun I' hf => ?_, .inr (.inr ⟨id, _, _, _, rfl, rfl, rfl⟩)⟩
      have q := (h.rw id R hR).mono hf.I
      simp only [OAr, OCr]
      have hown : own G s (.inr id) = obk (G.rw id) := by simp [own, hR]
      obtain ⟨Re, Rz, Rt, Rf⟩ := R
      simp only at h2 h3 h4
      subst h2; subst h3; subst h4
      refine ⟨q, ?_, fun g o hg => hf.no (.inr id) (by simp) g (by rw [hown]; exact hg) o⟩
      cases hb : obk (G.rw id) <;> simp [hown, hb]
    · exact hq.elim
  · have hx' := cell_one hx
    simp only [ACr, DVr] at hx'
    exact ⟨_, hq, by simp, by simp, fun I' hf => by simp [OAr, OCr, DVr, hx'], .inl ⟨rfl, by simp, by simp⟩⟩
  · exact hq.elim
/-- The arguments that come back, in order. -/
def topsOk (G : Gh) : List OA → List Value → List (Nat ⊕ Nat) → Prop
  | [], _, ts => ts = []
  | .bx _ :: xs, vs, ts => ∃ v r t tr, vs = v :: r ∧ ts = t :: tr ∧ v = topVal G t ∧ topsOk G xs r tr
  | .rx _ _ _ :: xs, vs, ts => ∃ v r t tr, vs = v :: r ∧ ts = t :: tr ∧ v = topVal G t ∧ topsOk G xs r tr
  | _ :: xs, vs, ts => ∃ v r, vs = v :: r ∧ topsOk G xs r ts
theorem OAs.perm_foot {I : Nat → Nat → Prop} {xs : List OA} {vs : List Value} {F F' : List Nat} (h : OAs I w xs vs F) (e : F = F') : OAs I w xs vs F' := e ▸ h
structure Taken (G : Gh) (s : St) (w : World) (k : Tas) (vs : List Value) (foot : List (Nat ⊕ Nat)) : Prop where
  mem : ∀ x, x ∈ foot ↔ x ∈ k.tops ∨ x ∈ k.ids
  live : ∀ x ∈ foot, live s x
  oas : ∀ I', Fixed G s w I' k.fz foot → OAs I' w k.xs vs (foot.filterMap (own G s))
  tops : topsOk G k.xs vs k.tops
  nodup : (k.tops ++ k.ids).Nodup → foot.Nodup
theorem takeAs_ok (h : Mem W0 M G s w) : ∀ (shs : List ASh) {xs : List AV} {vs : List Value} {K : Tas → Prop}, AVs G s w xs vs → (takeAs shs xs).wp s K → ∃ k foot, K k ∧ Taken G s w k vs foot
  | [], xs, vs, K, hx, hq => by
    cases xs with
    | nil =>
      simp only [AVs] at hx; subst hx
      exact ⟨_, [], hq, ⟨by simp, by simp, fun I' hf => by simp [OAs], by simp [topsOk], fun h => h⟩⟩
    | cons c cs => exact hq.elim
  | sh :: shs, xs, vs, K, hx, hq => by
    cases xs with
    | nil => exact hq.elim
    | cons c cs =>
      simp only [AVs] at hx
      obtain ⟨v, r, rfl, h1, h2⟩ := hx
      simp only [takeAs, Q.wp_bind, Q.wp] at hq
      obtain ⟨k, hq, hl, hlt, hk, htop⟩ := takeA_ok h h1 hq
      obtain ⟨ks, foot, hq, t1, t2, t3, t4, t5⟩ := takeAs_ok h shs h2 hq
      refine ⟨_, (k.tops ++ k.ids) ++ foot, hq, ⟨fun x => ?_, fun x hm => ?_, fun I' hf => ?_, ?_, fun hnd => ?_⟩⟩
      · simp only [List.mem_append, t1 x]
        constructor
        · rintro ((h | h) | (h | h))
          · exact .inl (.inl h)
          · exact .inr (.inl h)
          · exact .inl (.inr h)
          · exact .inr (.inr h)
        · rintro ((h | h) | (h | h))
          · exact .inl (.inl h)
          · exact .inr (.inl h)
          · exact .inl (.inr h)
          · exact .inr (.inr h)
      · rcases List.mem_append.1 hm with hm | hm
        · rcases List.mem_append.1 hm with hm | hm
          · exact hlt x hm
          · exact hl x hm
        · exact t2 x hm
      · simp only [OAs]
        exact ⟨v, r, _, _, rfl, hk I' (hf.sub (fun x hm => by simp [hm]) (fun x hm => List.mem_append_left _ hm)), t3 I' (hf.sub (fun x hm => by simp [hm]) (fun x hm => List.mem_append_right _ hm)), List.filterMap_append⟩
      · rcases htop with ⟨e1, e2, e3⟩ | ⟨id, cs', e1, e2, e3⟩ | ⟨id, a', b', c', e1, e2, e3⟩
        · simp only [e1, List.nil_append]
          cases hoa : k.oa with
          | c x => exact ⟨v, r, rfl, t4⟩
          | agg x => exact ⟨v, r, rfl, t4⟩
          | bx x => exact (e2 x hoa).elim
          | rx x y z => exact (e3 x y z hoa).elim
        · simp only [e1, e2]
          exact ⟨v, r, .inl id, ks.tops, rfl, rfl, e3, t4⟩
        · simp only [e1, e2]
          exact ⟨v, r, .inr id, ks.tops, rfl, rfl, e3, t4⟩
      · have hnd' : ((k.tops ++ k.ids) ++ (ks.tops ++ ks.ids)).Nodup := by
          refine (List.Perm.nodup_iff ?_).1 hnd
          simp only [List.append_assoc]
          refine List.Perm.append_left _ ?_
          rw [← List.append_assoc, ← List.append_assoc]
          exact List.Perm.append_right _ List.perm_append_comm
        rw [List.nodup_append] at hnd' ⊢
        refine ⟨hnd'.1, t5 hnd'.2.1, fun a ha b hb e => hnd'.2.2 a ha b ?_ e⟩
        rcases (t1 b).1 hb with h | h
        · exact List.mem_append_left _ h
        · exact List.mem_append_right _ h
end
end Go.Proofs.YtgfmnpbcbpobbaaDoor.Am
/- An abstract machine over plain data: what a function takes, changes and answers; memory over a call. No conditions. -/
namespace Go.Proofs.YtgfmnpbcbpobbaaDoor.Am
open Go

/-- Calls that are met by a contract of their own: maps.Keys, whose iterator is f1; slices.Sorted at what that hands back: numbers, strings. -/
inductive Sp where
  | none
  | keys (f1 : FuncId)
  | sortI (f1 : FuncId) (e : TypeId)
  | sortS (f1 : FuncId) (e : TypeId)
def SortI (P : Program) (f f1 : FuncId) (e : TypeId) : Prop := ∀ (w : World) (b g : Nat) (ty : TypeId) (en : Array MapEntry) (clock : Nat) (ks : List Int), w.heap[b]? = some (.cells #[.map (some g)] ty (0, 0)) → w.heap[g]? = some (.map en clock) → Born en.toList clock →
  en.toList.map (·.key) = ks.map (Value.int .i64) → ks.Nodup → (∀ x ∈ ks, (Lit.int .i64 x).wf = true) → ks.length ≤ maxLen → ks.length * 8 ≤ 140737488355328 →
  Calls P f #[closV f1 b] w fun o w' => ∃ v, o = .returned v ∧ w'.ownsRow w.heap.size e 1 v ks.length ((ks.mergeSort fun x y => decide (x ≤ y)).map (Value.int .i64)) ∧ RowKit.Below w.heap.size w w'
def strV (l : List UInt8) : Value := .string ⟨l.toArray⟩
def SortS (P : Program) (f f1 : FuncId) (e : TypeId) : Prop := ∀ (w : World) (b g : Nat) (ty : TypeId) (en : Array MapEntry) (clock : Nat) (ks : List (List UInt8)), w.heap[b]? = some (.cells #[.map (some g)] ty (0, 0)) → w.heap[g]? = some (.map en clock) → Born en.toList clock →
  en.toList.map (·.key) = ks.map strV → ks.Nodup → (∀ x ∈ ks, x.length ≤ maxLen) → ks.length ≤ maxLen → ks.length * 16 ≤ 140737488355328 →
  Calls P f #[closV f1 b] w fun o w' => ∃ v, o = .returned v ∧ w'.ownsRow w.heap.size e 1 v ks.length ((ks.mergeSort fun x y => decide (x ≤ y)).map strV) ∧ RowKit.Below w.heap.size w w'
def SpOk (P : Program) (f : FuncId) : Sp → Prop
  | .none => True
  | .keys f1 => ∃ tm, ∀ g w, Calls P f #[.map (some g)] w fun e w' => e = .returned (closV f1 w.heap.size) ∧ w' = w.alloc (.cells #[.map (some g)] tm)
  | .sortI f1 e => SortI P f f1 e
  | .sortS f1 e => SortS P f f1 e
structure FSpec where
  sh : List ASh
  pre : List OA → Prop
  post : List OA → List OA
  res : List OA → List OA
  sp : Sp
/-- What comes back: pointers to boxes, slices. -/
def topVals : List OA → List Value → List Value
  | .bx _ :: xs, v :: vs => v :: topVals xs vs
  | .rx _ _ _ :: xs, v :: vs => v :: topVals xs vs
  | _ :: xs, _ :: vs => topVals xs vs
  | _, _ => []
structure Ret (S : FSpec) (I : Nat → Nat → Prop) (w : World) (xs : List OA) (args : List Value) (F : List Nat) (w' : World) (I' : Nat → Nat → Prop) (vs : List Value) (Fp Fr' : List Nat) : Prop where
  fr : Fr w (· ∈ F) w'
  sub : ∀ b o, I b o → I' b o
  keep : Keep I w w'
  new : ∀ b o, I' b o → I b o ∨ b ∈ F ∨ w.heap.size ≤ b
  lt : ∀ b o, I' b o → b < w'.heap.size
  post : OAs I' w' (S.post xs) (topVals xs args) Fp
  res : OAs I' w' (S.res xs) vs Fr'
  nodup : (Fp ++ Fr').Nodup
  own : ∀ b ∈ Fp ++ Fr', b ∈ F ∨ w.heap.size ≤ b
def retV (vs : List Value) : Value := match vs with
  | [v] => v
  | vs => .tuple vs.toArray
structure FnOk (P : Program) (f : FuncId) (S : FSpec) : Prop where
  sp : SpOk P f S.sp
  isf : ∃ fn, P.funcs[f]? = some fn ∧ fn.body.isSome = true ∧ (fn.name == "runtime.NumGoroutine") = false
  calls : ∀ (w : World) (I : Nat → Nat → Prop) (F : List Nat) (args : Array Value) (xs : List OA), (∀ b o, I b o → b < w.heap.size) → Glob I w → OAs I w xs args.toList F → F.Nodup → S.pre xs →
    Calls P f args w fun | .returned v, w' => ∃ I' vs Fp Fr', v = retV vs ∧ Ret S I w xs args.toList F w' I' vs Fp Fr' | _, _ => False
/-! ### What is given away is dropped -/
def dropQ : List (Nat ⊕ Nat) → Q (List Upd)
  | [] => .ret []
  | .inl id :: ids => .rdB id fun b => (dropQ ids).bind fun us => .ret (.b id ⟨b.ver, none⟩ :: us)
  | .inr id :: ids => .rdR id fun b => (dropQ ids).bind fun us => .ret (.r id ⟨b.ver, none⟩ :: us)
def junkQ : List (Nat ⊕ Nat) → List OA → Q (List Upd)
  | [], [] => .ret []
  | .inl id :: ids, .bx cs :: css => .rdB id fun b => (junkQ ids css).bind fun us => .ret (.b id ⟨b.ver, some (cs.map fun _ => .junk)⟩ :: us)
  | .inr id :: ids, .rx sz e es :: css => .rdR id fun r => (junkQ ids css).bind fun us => .ret (.r id ⟨r.ver, some ⟨es, sz, e, false⟩⟩ :: us)
  | _, _ => .fail
def tid : Nat ⊕ Nat → Nat
  | .inl j => j
  | .inr j => j
structure Mps where
  us : List Upd
  m : Nat
def postQ (n : Nat) : List (Nat ⊕ Nat) → List OA → Q Mps
  | [], [] => .ret ⟨[], n⟩
  | .inl id :: ids, .bx cs :: css => (mkCs n cs).bind fun k => .req (∀ j ∈ .inl id :: ids, tid j < n ∨ k.m ≤ tid j) (.rdB id fun b => (postQ k.m ids css).bind fun p => .ret ⟨k.us ++ (.b id ⟨b.ver, some k.acs⟩ :: p.us), p.m⟩)
  | .inr _ :: ids, .rx _ _ _ :: css => postQ n ids css
  | _, _ => .fail
structure Mka where
  av : AV
  us : List Upd
  m : Nat
structure Mkas where
  avs : List AV
  us : List Upd
  m : Nat
def mkA (n : Nat) : OA → Q Mka
  | .c x => (mkC n x).bind fun k => .ret ⟨.c k.ac, k.us, k.m⟩
  | .agg xs => (mkCs n xs).bind fun k => .ret ⟨.agg k.acs, k.us, k.m⟩
  | .bx cs => (mkC n (.box cs)).bind fun k => .ret ⟨.c k.ac, k.us, k.m⟩
  | .rx sz e es => (mkC n (.row sz e es)).bind fun k => .ret ⟨.c k.ac, k.us, k.m⟩
def mkAs (n : Nat) : List OA → Q Mkas
  | [] => .ret ⟨[], [], n⟩
  | c :: cs => (mkA n c).bind fun k => (mkAs k.m cs).bind fun ks => .ret ⟨k.av :: ks.avs, k.us ++ ks.us, ks.m⟩
def retA (vs : List AV) : AV := match vs with
  | [v] => v
  | vs => .tup vs
def callBase : Option Nat → Nat
  | some d => (d + 1) * 1000
  | none => 900
def callQ (S : FSpec) (o : Oper) (c : Call) : Q (List Upd) :=
  (evs c.args.toList).bind fun xs => (takeAs S.sh xs).bind fun k =>
  .req ((k.tops ++ k.ids).Nodup ∧ (∀ id ∈ k.fz, Sum.inr id ∉ k.tops ++ k.ids) ∧ S.pre k.xs)
  ((freeze k.fz).bind fun us1 => (dropQ k.ids).bind fun us2 => (junkQ k.tops (S.post k.xs)).bind fun us3 => (postQ (callBase o.dst) k.tops (S.post k.xs)).bind fun p => (mkAs p.m (S.res k.xs)).bind fun r =>
  .ret (us1 ++ us2 ++ us3 ++ p.us ++ r.us ++ oneU o.dst (retA r.avs)))
section
variable {W0 : World} {M : Own} {G : Gh} {s s' s0 : St} {w w' : World}
/-- A box is given up. -/
theorem Mem.dropBox (h : Mem W0 M G s w) (id : Nat) : Mem W0 M G (s.setB id ⟨(s.b id).ver, none⟩) w ∧ Ext G s w G (s.setB id ⟨(s.b id).ver, none⟩) w := by
  have E : Ext G s w G (s.setB id ⟨(s.b id).ver, none⟩) w := by
    refine ⟨fun _ _ h => h, Keep.refl _ _, fun k => ?_, fun _ => ⟨Nat.le_refl _, fun _ h => ⟨h, rfl⟩⟩⟩
    simp only [St.setB, upd]
    by_cases e : k = id
    · subst e; simp
    · simp only [e, if_false]; exact ⟨Nat.le_refl _, fun _ h => ⟨h, trivial⟩⟩
  have ho : ∀ x b, own G (s.setB id ⟨(s.b id).ver, none⟩) x = some b → own G s x = some b := by
    intro x b hx
    rcases x with k | k
    · by_cases e : k = id
      · subst e; simp [own, St.setB, upd] at hx
      · simpa [own, St.setB, upd, e] using hx
    · exact hx
  refine ⟨⟨fun k c hc => ?_, fun k R hc => h.rw k R hc, fun x y b hx hy => h.dj x y b (ho x b hx) (ho y b hy), fun k hc => ?_, h.rI, fun x b hx => h.oM x b (ho x b hx), h.In, h.fr, h.ii, h.gl.mono E.I E.keep⟩, E⟩
  · simp only [St.setB, upd] at hc
    by_cases e : k = id
    · simp [e] at hc
    · simp only [e, if_false] at hc
      obtain ⟨cur, ty, h1, h2⟩ := h.bx k c hc
      exact ⟨cur, ty, h1, E.acs h2⟩
  · simp only [St.setB, upd] at hc
    by_cases e : k = id
    · simp [e] at hc
    · simp only [e, if_false] at hc; exact h.bI k hc
structure Drop (G : Gh) (s s' : St) (ids : List (Nat ⊕ Nat)) : Prop where
  n_ : s'.n = s.n
  t : s'.t = s.t
  gone : ∀ x ∈ ids, own G s' x = none
  less : ∀ x b, own G s' x = some b → own G s x = some b
  b : ∀ id, Sum.inl id ∉ ids → s'.b id = s.b id
  r : ∀ id, Sum.inr id ∉ ids → s'.r id = s.r id
theorem own_setB_ne (x : Nat ⊕ Nat) (id : Nat) (y : BS) (h : x ≠ .inl id) : own G (s.setB id y) x = own G s x := by
  rcases x with k | k
  · have e : k ≠ id := fun e => h (by rw [e])
    simp [own, St.setB, upd, e]
  · rfl
theorem own_setR_ne (x : Nat ⊕ Nat) (id : Nat) (y : RS) (h : x ≠ .inr id) : own G (s.setR id y) x = own G s x := by
  rcases x with k | k
  · rfl
  · have e : k ≠ id := fun e => h (by rw [e])
    simp [own, St.setR, upd, e]
theorem VerSame.setB {n : Nat} (h : VerSame n s0 s) {id ver : Nat} {c : Option (List AC)} (he : n ≤ id → ver = (s.b id).ver) : VerSame n s0 (s.setB id ⟨ver, c⟩) := fun k hk => by
  have := h k hk
  simp only [St.setB, upd]
  by_cases e : k = id
  · subst e; simp only [if_true]; exact ⟨(he hk).trans this.1, this.2⟩
  · simp only [e, if_false]; exact this
theorem VerSame.setR {n : Nat} (h : VerSame n s0 s) {id ver : Nat} {c : Option Row} (he : n ≤ id → ver = (s.r id).ver) : VerSame n s0 (s.setR id ⟨ver, c⟩) := fun k hk => by
  have := h k hk
  simp only [St.setR, upd]
  by_cases e : k = id
  · subst e; simp only [if_true]; exact ⟨this.1, (he hk).trans this.2⟩
  · simp only [e, if_false]; exact this
theorem own_none_of_less {x : Nat ⊕ Nat} (h : own G s x = none) (hl : ∀ x b, own G s' x = some b → own G s x = some b) : own G s' x = none := by
  cases hx : own G s' x with
  | none => rfl
  | some b => rw [hl x b hx] at h; cases h
theorem dropQ_ok : ∀ {ids : List (Nat ⊕ Nat)} {s : St} {K : List Upd → Prop}, (dropQ ids).wp s0 K → Mem W0 M G s w → VerSame 0 s0 s → ∃ us, K us ∧ Mem W0 M G (s.app us) w ∧ Ext G s w G (s.app us) w ∧ VerSame 0 s0 (s.app us) ∧ Drop G s (s.app us) ids
  | [], s, K, hq, hm, hv => ⟨[], hq, hm, Ext.refl _ _ _, hv, ⟨rfl, rfl, by simp, fun x b h => h, fun _ _ => rfl, fun _ _ => rfl⟩⟩
  | .inl id :: ids, s, K, hq, hm, hv => by
    simp only [dropQ, Q.wp] at hq
    rw [Q.wp_bind] at hq
    have hver : (s0.b id).ver = (s.b id).ver := ((hv id (Nat.zero_le _)).1).symm
    obtain ⟨m1, x1⟩ := hm.dropBox id
    obtain ⟨us, hK, m2, x2, v2, d2⟩ := dropQ_ok hq m1 (hv.setB (fun _ => rfl))
    have hless : ∀ x b, own G (s.setB id ⟨(s.b id).ver, none⟩) x = some b → own G s x = some b := fun x b hx => by
      by_cases e : x = .inl id
      · subst e; simp [own, St.setB, upd] at hx
      · rw [own_setB_ne x id _ e] at hx; exact hx
    refine ⟨_, hK, ?_⟩
    simp only [St.app, St.app1]
    rw [hver]
    refine ⟨m2, x1.trans x2, v2, ⟨d2.n_, d2.t, fun x hx => ?_, fun x b hx => hless x b (d2.less x b hx), fun k hk => ?_, fun k hk => ?_⟩⟩
    · rcases List.mem_cons.1 hx with rfl | hx
      · refine own_none_of_less ?_ d2.less
        simp [own, St.setB, upd]
      · exact d2.gone x hx
    · rw [d2.b k (fun h => hk (List.mem_cons_of_mem _ h))]
      have : k ≠ id := fun e => hk (by simp [e])
      simp [St.setB, upd, this]
    · rw [d2.r k (fun h => hk (List.mem_cons_of_mem _ h))]
      rfl
  | .inr id :: ids, s, K, hq, hm, hv => by
    simp only [dropQ, Q.wp] at hq
    rw [Q.wp_bind] at hq
    have hver : (s0.r id).ver = (s.r id).ver := ((hv id (Nat.zero_le _)).2).symm
    obtain ⟨m1, x1⟩ := hm.dropRow id
    obtain ⟨us, hK, m2, x2, v2, d2⟩ := dropQ_ok hq m1 (hv.setR (fun _ => rfl))
    have hless : ∀ x b, own G (s.setR id ⟨(s.r id).ver, none⟩) x = some b → own G s x = some b := fun x b hx => by
      by_cases e : x = .inr id
      · subst e; simp [own, St.setR, upd] at hx
      · rw [own_setR_ne x id _ e] at hx; exact hx
    refine ⟨_, hK, ?_⟩
    simp only [St.app, St.app1]
    rw [hver]
    refine ⟨m2, x1.trans x2, v2, ⟨d2.n_, d2.t, fun x hx => ?_, fun x b hx => hless x b (d2.less x b hx), fun k hk => ?_, fun k hk => ?_⟩⟩
    · rcases List.mem_cons.1 hx with rfl | hx
      · refine own_none_of_less ?_ d2.less
        simp [own, St.setR, upd]
      · exact d2.gone x hx
    · rw [d2.b k (fun h => hk (List.mem_cons_of_mem _ h))]
      rfl
    · rw [d2.r k (fun h => hk (List.mem_cons_of_mem _ h))]
      have : k ≠ id := fun e => hk (by simp [e])
      simp [St.setR, upd, this]
/-! ### The memory over a call -/
theorem junk_ok {cur : List Value} (h : ∀ u ∈ cur, u.oneCell' = true) : ∀ {α : Type} {cs : List α}, cs.length = cur.length → ACs G s w (cs.map fun _ => .junk) cur := by
  intro α cs
  induction cur generalizing cs with
  | nil => intro hl; cases cs with
    | nil => simp [ACs]
    | cons c cs => simp at hl
  | cons v vs ih => intro hl; cases cs with
    | nil => simp at hl
    | cons c cs =>
      simp only [List.map_cons, ACs, ACr]
      exact ⟨v, vs, rfl, h v (by simp), ih (fun u hu => h u (by simp [hu])) (by simpa using hl)⟩
theorem Mem.call (h : Mem W0 M G s w) {F : List Nat} {I' : Nat → Nat → Prop} {tops : List (Nat ⊕ Nat)} (hr : ∀ id, .inr id ∉ tops → s'.r id = s.r id) (hb : ∀ id, .inl id ∉ tops → s'.b id = s.b id)
    (htr : ∀ id, .inr id ∈ tops → (s.r id).c.isSome = true ∧ (s'.r id).ver = (s.r id).ver ∧ (∃ R', (s'.r id).c = some R' ∧ RowOk I' w' (G.rw id) R') ∧ ∀ g o, obk (G.rw id) = some g → ¬ I' g o)
    (ht : ∀ id, .inl id ∈ tops → (s.b id).c.isSome = true ∧ (s'.b id).ver = (s.b id).ver ∧ (∃ (n : Nat) (cs : List AC) (cur : Array Value) (ty : TypeId), (s'.b id).c = some cs ∧ w'.heap[G.bx id]? = some (.cells cur ty (0, 0)) ∧ cs = (List.replicate n ()).map (fun _ => .junk) ∧ n = cur.toList.length ∧ ∀ u ∈ cur.toList, u.oneCell' = true) ∧ ∀ o, ¬ I' (G.bx id) o)
    (hF : ∀ x b, own G s x = some b → b ∈ F → x ∈ tops) (hFM : ∀ b ∈ F, W0.heap.size ≤ b ∨ M b)
    (fr : Fr w (· ∈ F) w') (sub : ∀ b o, G.I b o → I' b o) (keep : Keep G.I w w') (new : ∀ b o, I' b o → G.I b o ∨ b ∈ F ∨ w.heap.size ≤ b) (lt : ∀ b o, I' b o → b < w'.heap.size) :
    Mem W0 M ⟨I', G.bx, G.rw⟩ s' w' ∧ Ext G s w ⟨I', G.bx, G.rw⟩ s' w' := by
  have hs : ∀ id, (s'.b id).c.isSome = (s.b id).c.isSome ∧ (s'.b id).ver = (s.b id).ver := fun id => by
    by_cases e : .inl id ∈ tops
    · obtain ⟨h1, h2, ⟨n, cs, cur, ty, h3, _⟩, _⟩ := ht id e
      exact ⟨by rw [h1, h3]; rfl, h2⟩
    · rw [hb id e]; exact ⟨rfl, rfl⟩
  have hsr : ∀ id, (s'.r id).c.isSome = (s.r id).c.isSome ∧ (s'.r id).ver = (s.r id).ver := fun id => by
    by_cases e : .inr id ∈ tops
    · obtain ⟨h1, h2, ⟨R', h3, _⟩, _⟩ := htr id e
      exact ⟨by rw [h1, h3]; rfl, h2⟩
    · rw [hr id e]; exact ⟨rfl, rfl⟩
  have E : Ext G s w ⟨I', G.bx, G.rw⟩ s' w' :=
    ⟨sub, keep, fun k => ⟨Nat.le_of_eq (hs k).2.symm, fun _ h1 => ⟨by rw [← (hs k).1]; exact h1, rfl⟩⟩, fun k => ⟨Nat.le_of_eq (hsr k).2.symm, fun _ h1 => ⟨by rw [← (hsr k).1]; exact h1, rfl⟩⟩⟩
  have ho : ∀ x, own ⟨I', G.bx, G.rw⟩ s' x = own G s x := by
    intro x
    rcases x with k | k
    · simp only [own, (hs k).1]
    · simp only [own, (hsr k).1]
  refine ⟨⟨fun k c hc => ?_, fun k R hc => ?_, fun x y b hx hy => h.dj x y b (by rw [ho] at hx; exact hx) (by rw [ho] at hy; exact hy), fun k hc o hi => ?_, fun k R g hc hg o hi => ?_, fun x b hx => h.oM x b (by rw [ho] at hx; exact hx), lt, ?_, ⟨fun b o hi => sub b o (h.ii.1 b o hi), fun b o hi => ?_⟩, h.gl.mono E.I E.keep⟩, E⟩
  · by_cases e : .inl k ∈ tops
    · obtain ⟨_, _, ⟨n, cs, cur, ty, h3, h4, h5, h6, h7⟩, _⟩ := ht k e
      rw [h3] at hc
      injection hc with hc
      subst hc
      refine ⟨cur, ty, h4, ?_⟩
      rw [h5]
      exact junk_ok h7 (by simpa using h6)
    · rw [hb k e] at hc
      obtain ⟨cur, ty, h1, h2⟩ := h.bx k c hc
      have hlt := (Array.getElem?_eq_some_iff.1 h1).1
      refine ⟨cur, ty, (fr.block _ hlt (fun hm => ?_)).trans h1, E.acs h2⟩
      exact e (hF (.inl k) (G.bx k) (by simp [own, hc]) hm)
  · by_cases e : .inr k ∈ tops
    · obtain ⟨_, _, ⟨R', h3, h4⟩, _⟩ := htr k e
      rw [h3] at hc
      injection hc with hc
      subst hc
      exact h4
    rw [hr k e] at hc
    obtain ⟨h1, h2, ⟨h0, xs, h3, h4⟩ | ⟨h0, g, ms, ck, hv, hg, h4, h5⟩ | ⟨h0, g, str, pos, hv, hg, h4⟩⟩ := h.rw k R hc
    rotate_left
    · have hown : own G s (.inr k) = some g := by simp [own, hc, hv, obk]
      refine ⟨h1, h2, .inr (.inl ⟨h0, g, ms, ck, hv, ?_, h4.mono sub keep, h5⟩)⟩
      rw [fr.block g (h.ownlt hown) (fun hm => ?_)]
      · exact hg
      · exact e (hF _ _ hown hm)
    · have hown : own G s (.inr k) = some g := by simp [own, hc, hv, obk]
      refine ⟨h1, h2, .inr (.inr ⟨h0, g, str, pos, hv, ?_, h4⟩)⟩
      rw [fr.block g (h.ownlt hown) (fun hm => ?_)]
      · exact hg
      · exact e (hF _ _ hown hm)
    refine ⟨h1, h2, .inl ⟨h0, xs, ⟨h3.1, ?_⟩, DVee.mono sub keep _ h4⟩⟩
    rcases h3.2 with h5 | ⟨g, cap, cur, hv, h6, hg, h7⟩
    · exact .inl h5
    · refine .inr ⟨g, cap, cur, hv, h6, ?_, h7⟩
      have hown : own G s (.inr k) = some g := by simp [own, hc, hv, obk]
      rw [fr.block g (h.ownlt hown) (fun hm => ?_)]
      · exact hg
      · exact e (hF _ _ hown hm)
  · have hc' : (s.b k).c.isSome = true := by rw [← (hs k).1]; exact hc
    have hown : own G s (.inl k) = some (G.bx k) := by simp [own, hc']
    rcases new _ _ hi with h1 | h1 | h1
    · exact h.bI k hc' o h1
    · exact (ht k (hF _ _ hown h1)).2.2.2 o hi
    · exact absurd h1 (Nat.not_le.2 (h.ownlt hown))
  · by_cases e : .inr k ∈ tops
    · exact ((htr k e).2.2.2 g o hg hi).elim
    rw [hr k e] at hc
    have hown : own G s (.inr k) = some g := by simp only [own, hc]; exact hg
    rcases new _ _ hi with h1 | h1 | h1
    · exact h.rI k R g hc hg o h1
    · exact (e (hF _ _ hown h1)).elim
    · have := h.ownlt hown; omega
  · exact ⟨fr.os.trans h.fr.os, fr.tape.trans h.fr.tape, fr.output.trans h.fr.output, Nat.le_trans h.fr.size fr.size, fun k hk hm => (fr.block k (Nat.lt_of_lt_of_le hk h.fr.size) (fun hF' => by
      rcases hFM k hF' with h1 | h1
      · omega
      · exact hm h1)).trans (h.fr.block k hk hm)⟩
  · rcases new b o hi with h1 | h1 | h1
    · exact h.ii.2 b o h1
    · rcases hFM b h1 with h2 | h2
      · exact .inr (.inr h2)
      · exact .inr (.inl h2)
    · exact .inr (.inr (Nat.le_trans h.fr.size h1))
end
end Go.Proofs.YtgfmnpbcbpobbaaDoor.Am
/- An abstract machine over plain data: a call of one of the program's functions is sound. No conditions. -/
namespace Go.Proofs.YtgfmnpbcbpobbaaDoor.Am
open Go

theorem OCs.len {I : Nat → Nat → Prop} {w : World} : ∀ {cs : List OC} {vs : List Value} {F : List Nat}, OCs I w cs vs F → cs.length = vs.length
  | [], vs, F, h => by simp only [OCs] at h; rw [h.1]; rfl
  | c :: cs, vs, F, h => by
    simp only [OCs] at h
    obtain ⟨x, r, F1, F2, rfl, _, h2, _⟩ := h
    simp [OCs.len h2]
theorem OCs.one {I : Nat → Nat → Prop} {w : World} : ∀ {cs : List OC} {vs : List Value} {F : List Nat}, OCs I w cs vs F → ∀ u ∈ vs, u.oneCell' = true
  | [], vs, F, h, u, hu => by simp only [OCs] at h; rw [h.1] at hu; simp at hu
  | c :: cs, vs, F, h, u, hu => by
    simp only [OCs] at h
    obtain ⟨x, r, F1, F2, rfl, h1, h2, _⟩ := h
    rcases List.mem_cons.1 hu with rfl | hu
    · exact h1.one
    · exact OCs.one h2 u hu
theorem topVals_eq {G : Gh} : ∀ {xs : List OA} {vs : List Value} {ts : List (Nat ⊕ Nat)}, topsOk G xs vs ts → topVals xs vs = ts.map (topVal G)
  | [], _, ts, h => by simp only [topsOk] at h; subst h; simp [topVals]
  | .bx cs :: xs, vs, ts, h => by
    simp only [topsOk] at h
    obtain ⟨v, r, t, tr, rfl, rfl, rfl, h⟩ := h
    simp only [topVals, List.map_cons, topVals_eq h]
  | .rx _ _ _ :: xs, vs, ts, h => by
    simp only [topsOk] at h
    obtain ⟨v, r, t, tr, rfl, rfl, rfl, h⟩ := h
    simp only [topVals, List.map_cons, topVals_eq h]
  | .c x :: xs, vs, ts, h => by
    simp only [topsOk] at h
    obtain ⟨v, r, rfl, h⟩ := h
    simp only [topVals, topVals_eq h]
  | .agg x :: xs, vs, ts, h => by
    simp only [topsOk] at h
    obtain ⟨v, r, rfl, h⟩ := h
    simp only [topVals, topVals_eq h]
def topBlk (G : Gh) : Nat ⊕ Nat → Option Nat
  | .inl t => some (G.bx t)
  | .inr t => obk (G.rw t)
/-- What comes back is of the kind that was handed over. -/
def topFit : List (Nat ⊕ Nat) → List OA → Prop
  | [], [] => True
  | .inl _ :: ids, .bx _ :: css => topFit ids css
  | .inr _ :: ids, .rx _ _ _ :: css => topFit ids css
  | _, _ => False
theorem own_topBlk {G : Gh} {s : St} {x : Nat ⊕ Nat} {b : Nat} (h : own G s x = some b) : topBlk G x = some b := by
  rcases x with k | k <;> simp only [own] at h <;> split at h <;> first | exact h | cases h
theorem junkQ_fit {s : St} : ∀ {tops : List (Nat ⊕ Nat)} {css : List OA} {K : List Upd → Prop}, (junkQ tops css).wp s K → topFit tops css
  | [], [], _, _ => trivial
  | .inl id :: ids, .bx cs :: css, K, h => by
    simp only [junkQ, Q.wp] at h
    rw [Q.wp_bind] at h
    show topFit ids css
    exact junkQ_fit h
  | .inr id :: ids, .rx _ _ _ :: css, K, h => by
    simp only [junkQ, Q.wp] at h
    rw [Q.wp_bind] at h
    show topFit ids css
    exact junkQ_fit h
  | [], _ :: _, _, h => h.elim
  | .inl _ :: _, [], _, h => h.elim
  | .inl _ :: _, .c _ :: _, _, h => h.elim
  | .inl _ :: _, .agg _ :: _, _, h => h.elim
  | .inl _ :: _, .rx _ _ _ :: _, _, h => h.elim
  | .inr _ :: _, [], _, h => h.elim
  | .inr _ :: _, .c _ :: _, _, h => h.elim
  | .inr _ :: _, .agg _ :: _, _, h => h.elim
  | .inr _ :: _, .bx _ :: _, _, h => h.elim
section
variable {W0 : World} {M : Own} {G : Gh} {s s' s0 : St} {w w' : World}
theorem post_cons {I : Nat → Nat → Prop} {cs : List OC} {css : List OA} {id : Nat} {ids : List (Nat ⊕ Nat)} {F : List Nat} (h : OAs I w (.bx cs :: css) ((.inl id :: ids).map (topVal G)) F) :
    ∃ cur ty Fs F2, w.heap[G.bx id]? = some (.cells cur ty (0, 0)) ∧ OCs I w cs cur.toList Fs ∧ (∀ o, ¬ I (G.bx id) o) ∧ F = (G.bx id :: Fs) ++ F2 ∧ OAs I w css (ids.map (topVal G)) F2 := by
  simp only [List.map_cons, OAs, OAr, OCr] at h
  obtain ⟨x, r, F1, F2, e, ⟨g, cur, ty, Fs, e2, h1, h2, rfl, h3⟩, h4, rfl⟩ := h
  injection e with e1 e3
  subst e1; subst e3
  simp only [topVal] at e2
  injection e2 with e2
  injection e2 with e2
  injection e2 with e2 _ _
  subst e2
  exact ⟨cur, ty, Fs, F2, h1, h2, h3, rfl, h4⟩
theorem post_cons_r {I : Nat → Nat → Prop} {sz : Nat} {e : TypeId} {es : List (List DV)} {css : List OA} {id : Nat} {ids : List (Nat ⊕ Nat)} {F : List Nat} (h : OAs I w (.rx sz e es :: css) ((.inr id :: ids).map (topVal G)) F) :
    ∃ F2, RowOk I w (G.rw id) ⟨es, sz, e, false⟩ ∧ (∀ g o, obk (G.rw id) = some g → ¬ I g o) ∧ F = (obk (G.rw id)).toList ++ F2 ∧ OAs I w css (ids.map (topVal G)) F2 := by
  simp only [List.map_cons, OAs, OAr, OCr] at h
  obtain ⟨x, r, F1, F2, e, ⟨h1, rfl, h2⟩, h4, rfl⟩ := h
  injection e with e1 e3
  subst e1; subst e3
  exact ⟨F2, h1, h2, rfl, h4⟩
theorem post_heads {I : Nat → Nat → Prop} : ∀ {ids : List (Nat ⊕ Nat)} {css : List OA} {F : List Nat}, topFit ids css → OAs I w css (ids.map (topVal G)) F → ∀ t ∈ ids, ∀ b, topBlk G t = some b → b ∈ F
  | [], _, _, _, _, t, ht, _, _ => by simp at ht
  | .inl id :: ids, .bx cs :: css, F, hf, h, t, ht, b, hb => by
    obtain ⟨cur, ty, Fs, F2, _, _, _, rfl, h4⟩ := post_cons h
    rcases List.mem_cons.1 ht with rfl | ht
    · simp only [topBlk, Option.some.injEq] at hb
      simp [hb]
    · have hf' : topFit ids css := hf
      have := post_heads hf' h4 t ht b hb
      simp [this]
  | .inr id :: ids, .rx _ _ _ :: css, F, hf, h, t, ht, b, hb => by
    obtain ⟨F2, _, _, rfl, h4⟩ := post_cons_r h
    rcases List.mem_cons.1 ht with rfl | ht
    · simp only [topBlk] at hb
      simp [hb]
    · have hf' : topFit ids css := hf
      have := post_heads hf' h4 t ht b hb
      simp [this]
  | .inl _ :: _, [], _, hf, _, _, _, _, _ => hf.elim
  | .inl _ :: _, .c _ :: _, _, hf, _, _, _, _, _ => hf.elim
  | .inl _ :: _, .agg _ :: _, _, hf, _, _, _, _, _ => hf.elim
  | .inl _ :: _, .rx _ _ _ :: _, _, hf, _, _, _, _, _ => hf.elim
  | .inr _ :: _, [], _, hf, _, _, _, _, _ => hf.elim
  | .inr _ :: _, .c _ :: _, _, hf, _, _, _, _, _ => hf.elim
  | .inr _ :: _, .agg _ :: _, _, hf, _, _, _, _, _ => hf.elim
  | .inr _ :: _, .bx _ :: _, _, hf, _, _, _, _, _ => hf.elim
/-- What holds of what comes back, ahead of its new contents. -/
def JunkB (I : Nat → Nat → Prop) (G : Gh) (w : World) (s s' : St) (id : Nat) : Prop := (s'.b id).ver = (s.b id).ver ∧ (∃ (n : Nat) (cs : List AC) (cur : Array Value) (ty : TypeId), (s'.b id).c = some cs ∧ w.heap[G.bx id]? = some (.cells cur ty (0, 0)) ∧ cs = (List.replicate n ()).map (fun _ => .junk) ∧ n = cur.toList.length ∧ ∀ u ∈ cur.toList, u.oneCell' = true) ∧ ∀ o, ¬ I (G.bx id) o
def JunkR (I : Nat → Nat → Prop) (G : Gh) (w : World) (s s' : St) (id : Nat) : Prop := (s'.r id).ver = (s.r id).ver ∧ (∃ R', (s'.r id).c = some R' ∧ RowOk I w (G.rw id) R') ∧ ∀ g o, obk (G.rw id) = some g → ¬ I g o
structure Junk (I : Nat → Nat → Prop) (G : Gh) (w : World) (s0 s s' : St) (tops : List (Nat ⊕ Nat)) : Prop where
  n_ : s'.n = s.n
  t : s'.t = s.t
  ver : VerSame 0 s0 s'
  b : ∀ id, Sum.inl id ∉ tops → s'.b id = s.b id
  r : ∀ id, Sum.inr id ∉ tops → s'.r id = s.r id
  tb : ∀ id, Sum.inl id ∈ tops → JunkB I G w s s' id
  tr : ∀ id, Sum.inr id ∈ tops → JunkR I G w s s' id
theorem junkQ_ok {I : Nat → Nat → Prop} : ∀ {tops : List (Nat ⊕ Nat)} {css : List OA} {s : St} {F : List Nat} {K : List Upd → Prop}, (junkQ tops css).wp s0 K → VerSame 0 s0 s → tops.Nodup → OAs I w css (tops.map (topVal G)) F →
    ∃ us, K us ∧ Junk I G w s0 s (s.app us) tops
  | [], [], s, F, K, hq, hv, _, h => ⟨[], hq, rfl, rfl, hv, fun _ _ => rfl, fun _ _ => rfl, by simp, by simp⟩
  | .inl id :: ids, .bx cs :: css, s, F, K, hq, hv, hn, h => by
      simp only [junkQ, Q.wp] at hq
      rw [Q.wp_bind] at hq
      obtain ⟨cur, ty, Fs, F2, h1, h2, h3, rfl, h4⟩ := post_cons h
      rw [List.nodup_cons] at hn
      have hver : (s0.b id).ver = (s.b id).ver := ((hv id (Nat.zero_le _)).1).symm
      obtain ⟨us, hK, k⟩ := junkQ_ok (s := s.setB id ⟨(s0.b id).ver, some (cs.map fun _ => .junk)⟩) hq (hv.setB (fun _ => hver)) hn.2 h4
      refine ⟨_, hK, k.n_, k.t, k.ver, fun j hj => ?_, fun j hj => ?_, fun j hj => ?_, fun j hj => ?_⟩
      · simp only [St.app, St.app1]
        rw [k.b j (fun h => hj (List.mem_cons_of_mem _ h))]
        have : j ≠ id := fun e => hj (by simp [e])
        simp [St.setB, upd, this]
      · simp only [St.app, St.app1]
        rw [k.r j (fun h => hj (List.mem_cons_of_mem _ h))]
        rfl
      · simp only [St.app, St.app1]
        by_cases e : j = id
        · subst e
          unfold JunkB
          rw [k.b j hn.1]
          simp only [St.setB, upd, if_true]
          refine ⟨hver, ⟨cs.length, _, cur, ty, rfl, h1, ?_, OCs.len h2, OCs.one h2⟩, h3⟩
          rw [List.map_const', List.map_const', List.length_replicate]
        · have hj' : Sum.inl j ∈ ids := by
            rcases List.mem_cons.1 hj with h | h
            · injection h with h; exact (e h).elim
            · exact h
          obtain ⟨a1, a2, a3⟩ := k.tb j hj'
          refine ⟨a1.trans ?_, a2, a3⟩
          simp [St.setB, upd, e]
      · simp only [St.app, St.app1]
        have hj' : Sum.inr j ∈ ids := by
          rcases List.mem_cons.1 hj with h | h
          · cases h
          · exact h
        obtain ⟨a1, a2, a3⟩ := k.tr j hj'
        exact ⟨a1.trans rfl, a2, a3⟩
  | .inr id :: ids, .rx sz e es :: css, s, F, K, hq, hv, hn, h => by
      simp only [junkQ, Q.wp] at hq
      rw [Q.wp_bind] at hq
      obtain ⟨F2, h1, h2, rfl, h4⟩ := post_cons_r h
      rw [List.nodup_cons] at hn
      have hver : (s0.r id).ver = (s.r id).ver := ((hv id (Nat.zero_le _)).2).symm
      obtain ⟨us, hK, k⟩ := junkQ_ok (s := s.setR id ⟨(s0.r id).ver, some ⟨es, sz, e, false⟩⟩) hq (hv.setR (fun _ => hver)) hn.2 h4
      refine ⟨_, hK, k.n_, k.t, k.ver, fun j hj => ?_, fun j hj => ?_, fun j hj => ?_, fun j hj => ?_⟩
      · simp only [St.app, St.app1]
        rw [k.b j (fun h => hj (List.mem_cons_of_mem _ h))]
        rfl
      · simp only [St.app, St.app1]
        rw [k.r j (fun h => hj (List.mem_cons_of_mem _ h))]
        have : j ≠ id := fun e => hj (by simp [e])
        simp [St.setR, upd, this]
      · simp only [St.app, St.app1]
        have hj' : Sum.inl j ∈ ids := by
          rcases List.mem_cons.1 hj with h | h
          · cases h
          · exact h
        obtain ⟨a1, a2, a3⟩ := k.tb j hj'
        exact ⟨a1.trans rfl, a2, a3⟩
      · simp only [St.app, St.app1]
        by_cases e : j = id
        · subst e
          unfold JunkR
          rw [k.r j hn.1]
          simp only [St.setR, upd, if_true]
          exact ⟨hver, ⟨_, rfl, h1⟩, h2⟩
        · have hj' : Sum.inr j ∈ ids := by
            rcases List.mem_cons.1 hj with h | h
            · injection h with h; exact (e h).elim
            · exact h
          obtain ⟨a1, a2, a3⟩ := k.tr j hj'
          refine ⟨a1.trans ?_, a2, a3⟩
          simp [St.setR, upd, e]
  | [], _ :: _, _, _, _, hq, _, _, _ => hq.elim
  | .inl _ :: _, [], _, _, _, hq, _, _, _ => hq.elim
  | .inl _ :: _, .c _ :: _, _, _, _, hq, _, _, _ => hq.elim
  | .inl _ :: _, .agg _ :: _, _, _, _, hq, _, _, _ => hq.elim
  | .inl _ :: _, .rx _ _ _ :: _, _, _, _, hq, _, _, _ => hq.elim
  | .inr _ :: _, [], _, _, _, hq, _, _, _ => hq.elim
  | .inr _ :: _, .c _ :: _, _, _, _, hq, _, _, _ => hq.elim
  | .inr _ :: _, .agg _ :: _, _, _, _, hq, _, _, _ => hq.elim
  | .inr _ :: _, .bx _ :: _, _, _, _, hq, _, _, _ => hq.elim
def TFree (W0 : World) (M : Own) (G : Gh) (s : St) (F : List Nat) (tops : List (Nat ⊕ Nat)) : Prop := ∀ b ∈ F, (∀ x, own G s x = some b → x ∈ tops) ∧ (W0.heap.size ≤ b ∨ M b)
theorem grown_refl (w : World) (x : Option Nat) : w.grownBy w x := ⟨rfl, rfl, rfl, Nat.le_refl _, fun _ _ _ => rfl⟩
theorem own_live {id : Nat} {ver : Nat} {cs : List AC} (h : (s.b id).c.isSome = true) (x : Nat ⊕ Nat) : own G (s.setB id ⟨ver, some cs⟩) x = own G s x := by
  by_cases e : x = .inl id
  · subst e; simp [own, St.setB, upd, h]
  · exact own_setB_ne x id _ e
def TopLive (s0 s : St) : Nat ⊕ Nat → Prop
  | .inl id => (s.b id).ver = (s0.b id).ver ∧ (s.b id).c.isSome = true
  | .inr _ => True
theorem postQ_ok : ∀ {tops : List (Nat ⊕ Nat)} {css : List OA} {n : Nat} {s : St} {G : Gh} {F : List Nat} {K : Mps → Prop}, (postQ n tops css).wp s0 K → topFit tops css → Mem W0 M G s w → (∀ x ∈ tops, TopLive s0 s x) → VerSame n s0 s → OAs G.I w css (tops.map (topVal G)) F → tops.Nodup → F.Nodup → TFree W0 M G s F tops →
    ∃ p G', K p ∧ Mem W0 M G' (s.app p.us) w ∧ Ext G s w G' (s.app p.us) w ∧ G'.I = G.I ∧ VerSame p.m s0 (s.app p.us) ∧ (∀ x b, own G' (s.app p.us) x = some b → own G s x = some b ∨ b ∈ F) ∧ (s.app p.us).n = s.n ∧ (s.app p.us).t = s.t
  | [], [], n, s, G, F, K, hq, _, hm, hT, hv, h, _, _, _ => ⟨_, G, hq, hm, Ext.refl _ _ _, rfl, hv, fun x b h => .inl h, rfl, rfl⟩
  | .inr id :: ids, .rx sz e es :: css, n, s, G, F, K, hq, hf, hm, hT, hv, h, hn, hF, hTF => by
      obtain ⟨F2, h1, h2, rfl, h4⟩ := post_cons_r h
      rw [List.nodup_cons] at hn
      rw [List.nodup_append] at hF
      obtain ⟨hF1, hF2, hF3⟩ := hF
      obtain ⟨p, G', hK, q1, q2, q3, q4, q5, q6, q7⟩ := postQ_ok (tops := ids) (css := css) (show (postQ n ids css).wp s0 K from hq) (show topFit ids css from hf) hm (fun x hx => hT x (by simp [hx])) hv h4 hn.2 hF2 (fun b hb => by
        refine ⟨fun x hx => ?_, (hTF b (by simp [hb])).2⟩
        rcases List.mem_cons.1 ((hTF b (by simp [hb])).1 x hx) with e | e
        · subst e
          have := own_topBlk hx
          simp only [topBlk] at this
          exact (hF3 b (by simp [this]) b hb rfl).elim
        · exact e)
      exact ⟨p, G', hK, q1, q2, q3, q4, fun x b hx => (q5 x b hx).imp (fun h => h) (fun h => by simp [h]), q6, q7⟩
  | .inl id :: ids, .bx cs :: css, n, s, G, F, K, hq, hf, hm, hT, hv, h, hn, hF, hTF => by
      simp only [postQ] at hq
      rw [Q.wp_bind] at hq
      obtain ⟨cur, ty, Fs, F2, h1, h2, h3, rfl, h4⟩ := post_cons h
      rw [List.nodup_cons] at hn
      rw [List.nodup_append] at hF
      obtain ⟨hF1, hF2, hF3⟩ := hF
      rw [List.nodup_cons] at hF1
      have hf' : topFit ids css := hf
      have hheads := post_heads hf' h4
      have hfree : Free W0 M G s Fs := fun b hb => by
        refine ⟨fun x hx => ?_, (hTF b (by simp [hb])).2⟩
        have ht := (hTF b (by simp [hb])).1 x hx
        have hbt := own_topBlk hx
        rcases List.mem_cons.1 ht with rfl | ht
        · simp only [topBlk, Option.some.injEq] at hbt
          exact hF1.1 (hbt ▸ hb)
        · exact hF3 b (by simp [hb]) b (hheads x ht b hbt) rfl
      obtain ⟨k, G1, hq1, j1, j2⟩ := mkCs_ok cs hq hm h2 hF1.2 hfree hv
      clear hq
      obtain ⟨hreq, hq⟩ := hq1
      simp only [Q.wp] at hq
      rw [Q.wp_bind] at hq
      have hold : ∀ j ∈ Sum.inl id :: ids, (s.app k.us).b (tid j) = s.b (tid j) ∧ G1.bx (tid j) = G.bx (tid j) ∧ (s.app k.us).r (tid j) = s.r (tid j) ∧ G1.rw (tid j) = G.rw (tid j) := fun j hj => by
        obtain ⟨a1, a2, a3, a4⟩ := j1.old (tid j) (hreq j hj)
        exact ⟨a1, a3, a2, a4⟩
      obtain ⟨hb1, hg1, _, _⟩ := hold (.inl id) (by simp)
      simp only [tid] at hb1 hg1
      have hT0 := hT (.inl id) (by simp)
      simp only [TopLive] at hT0
      have hlive : ((s.app k.us).b id).c.isSome = true := by rw [hb1]; exact hT0.2
      obtain ⟨cs0, hcs0⟩ := Option.isSome_iff_exists.1 hlive
      have hver : ((s.app k.us).b id).ver = (s0.b id).ver := by rw [hb1]; exact hT0.1
      obtain ⟨m2, e2⟩ := j1.mem.setBox hcs0 (grown_refl w _) (by rw [hg1]; exact h1) j2
      rw [hver] at m2 e2
      have hmap : ids.map (topVal G1) = ids.map (topVal G) := List.map_congr_left fun j hj => by
        obtain ⟨_, a2, _, a4⟩ := hold j (by simp [hj])
        cases j <;> simp only [topVal, tid] at a2 a4 ⊢
        · rw [a2]
        · exact a4
      have hown2 : ∀ x, own G1 ((s.app k.us).setB id ⟨(s0.b id).ver, some k.acs⟩) x = own G1 (s.app k.us) x := own_live hlive
      obtain ⟨p, G', hK, q1, q2, q3, q4, q5, q6, q7⟩ := postQ_ok hq hf' m2 (fun j hj => by
        have hjT := hT j (by simp [hj])
        cases j with
        | inr j => trivial
        | inl j =>
          have hne : j ≠ id := fun e => hn.1 (e ▸ hj)
          simp only [TopLive, St.setB, upd, hne, if_false] at hjT ⊢
          have := (hold (.inl j) (by simp [hj])).1
          simp only [tid] at this
          rw [this]
          exact hjT) (j1.ver.setB (fun _ => hver.symm)) (by rw [hmap, j1.I]; exact h4) hn.2 hF2 (fun b hb => by
        refine ⟨fun x hx => ?_, (hTF b (by simp [hb])).2⟩
        rw [hown2] at hx
        rcases j1.own x b hx with h5 | h5
        · rcases List.mem_cons.1 ((hTF b (by simp [hb])).1 x h5) with ht | ht
          · exfalso
            subst ht
            have := own_topBlk h5
            simp only [topBlk, Option.some.injEq] at this
            exact hF3 b (by simp [this]) b hb rfl
          · exact ht
        · exact (hF3 b (by simp [h5]) b hb rfl).elim)
      refine ⟨_, G', hK, ?_, ?_, q3.trans j1.I, ?_, fun x b hx => ?_, ?_, ?_⟩
      · rw [St.app_append]; exact q1
      · rw [St.app_append]; exact (j1.ext.trans e2).trans q2
      · rw [St.app_append]; exact q4
      · rw [St.app_append] at hx
        rcases q5 x b hx with h5 | h5
        · rw [hown2] at h5
          rcases j1.own x b h5 with h6 | h6
          · exact .inl h6
          · exact .inr (by simp [h6])
        · exact .inr (by simp [h5])
      · rw [St.app_append]; exact q6.trans j1.n_
      · rw [St.app_append]; exact q7.trans j1.t
  | [], _ :: _, _, _, _, _, _, hq, _, _, _, _, _, _, _, _ => hq.elim
  | .inl _ :: _, [], _, _, _, _, _, hq, _, _, _, _, _, _, _, _ => hq.elim
  | .inl _ :: _, .c _ :: _, _, _, _, _, _, hq, _, _, _, _, _, _, _, _ => hq.elim
  | .inl _ :: _, .agg _ :: _, _, _, _, _, _, hq, _, _, _, _, _, _, _, _ => hq.elim
  | .inl _ :: _, .rx _ _ _ :: _, _, _, _, _, _, hq, _, _, _, _, _, _, _, _ => hq.elim
  | .inr _ :: _, [], _, _, _, _, _, hq, _, _, _, _, _, _, _, _ => hq.elim
  | .inr _ :: _, .c _ :: _, _, _, _, _, _, hq, _, _, _, _, _, _, _, _ => hq.elim
  | .inr _ :: _, .agg _ :: _, _, _, _, _, _, hq, _, _, _, _, _, _, _, _ => hq.elim
  | .inr _ :: _, .bx _ :: _, _, _, _, _, _, hq, _, _, _, _, _, _, _, _ => hq.elim
theorem mkA_ok {c : OA} {n : Nat} {v : Value} {F : List Nat} {K : Mka → Prop} (hq : (mkA n c).wp s0 K) (hm : Mem W0 M G s w) (hc : OAr G.I w c v F) (hn : F.Nodup) (hf : Free W0 M G s F) (hv : VerSame n s0 s) :
    ∃ k G', K k ∧ Made W0 M G s0 s w n k.us k.m F G' ∧ AVr G' (s.app k.us) w k.av v := by
  cases c with
  | c x =>
    simp only [mkA, Q.wp_bind, Q.wp] at hq
    simp only [OAr] at hc
    obtain ⟨k, G', hq, h1, h2⟩ := mkC_ok x hq hm hc hn hf hv
    exact ⟨_, G', hq, h1, by simpa only [AVr] using h2⟩
  | agg xs =>
    simp only [mkA, Q.wp_bind, Q.wp] at hq
    simp only [OAr] at hc
    obtain ⟨vs, rfl, hc⟩ := hc
    obtain ⟨k, G', hq, h1, h2⟩ := mkCs_ok xs hq hm hc hn hf hv
    exact ⟨_, G', hq, h1, by simp only [AVr]; exact ⟨vs, rfl, h2⟩⟩
  | bx cs =>
    simp only [mkA, Q.wp_bind, Q.wp] at hq
    simp only [OAr] at hc
    obtain ⟨k, G', hq, h1, h2⟩ := mkC_ok (.box cs) hq hm hc hn hf hv
    exact ⟨_, G', hq, h1, by simpa only [AVr] using h2⟩
  | rx sz e es =>
    simp only [mkA, Q.wp_bind, Q.wp] at hq
    simp only [OAr] at hc
    obtain ⟨k, G', hq, h1, h2⟩ := mkC_ok (.row sz e es) hq hm hc hn hf hv
    exact ⟨_, G', hq, h1, by simpa only [AVr] using h2⟩
theorem mkAs_ok : ∀ (cs : List OA) {n : Nat} {s : St} {G : Gh} {vs : List Value} {F : List Nat} {K : Mkas → Prop}, (mkAs n cs).wp s0 K → Mem W0 M G s w → OAs G.I w cs vs F → F.Nodup → Free W0 M G s F → VerSame n s0 s →
    ∃ k G', K k ∧ Made W0 M G s0 s w n k.us k.m F G' ∧ AVs G' (s.app k.us) w k.avs vs
  | [], n, s, G, vs, F, K, hq, hm, hc, hn, hf, hv => by
    simp only [OAs] at hc
    obtain ⟨rfl, rfl⟩ := hc
    exact ⟨_, G, hq, ⟨hm, Ext.refl _ _ _, rfl, Nat.le_refl _, hv, fun x b h => .inl h, rfl, rfl, fun k _ => ⟨rfl, rfl, rfl, rfl⟩⟩, by simp [AVs]⟩
  | c :: cs, n, s, G, vs, F, K, hq, hm, hc, hn, hf, hv => by
    simp only [OAs] at hc
    obtain ⟨x, r, F1, F2, rfl, h1, h2, rfl⟩ := hc
    simp only [mkAs, Q.wp_bind] at hq
    rw [List.nodup_append] at hn
    obtain ⟨k, G1, hq, j1, j2⟩ := mkA_ok hq hm h1 hn.1 (fun b hb => hf b (by simp [hb])) hv
    have hf2 : Free W0 M G1 (s.app k.us) F2 := Free.after (F1 := F1) (fun b hb => hf b (by simp [hb])) (fun b hb1 hb2 => hn.2.2 b hb1 b hb2 rfl) j1
    obtain ⟨ks, G2, hq, j3, j4⟩ := mkAs_ok cs hq j1.mem (by rw [j1.I]; exact h2) hn.2.1 hf2 j1.ver
    refine ⟨_, G2, hq, j1.trans j3, ?_⟩
    rw [St.app_append]
    simp only [AVs]
    exact ⟨x, r, rfl, j3.ext.av _ j2, j4⟩
theorem AVs.len : ∀ {xs : List AV} {vs : List Value}, AVs G s w xs vs → xs.length = vs.length
  | [], vs, h => by simp only [AVs] at h; subst h; rfl
  | x :: xs, vs, h => by
    simp only [AVs] at h
    obtain ⟨v, r, rfl, _, h⟩ := h
    simp [AVs.len h]
theorem ret_ok {xs : List AV} {vs : List Value} (h : AVs G s w xs vs) : AVr G s w (retA xs) (retV vs) := by
  match xs, vs, h.len, h with
  | [], [], _, h => simp only [retA, retV, AVr]; exact ⟨_, rfl, h⟩
  | [x], [v], _, h =>
    simp only [AVs] at h
    obtain ⟨v', r, e, h1, h2⟩ := h
    injection e with e1 _
    subst e1
    exact h1
  | x :: y :: xs, v :: u :: vs, _, h => simp only [retA, retV, AVr]; exact ⟨_, rfl, h⟩
end
end Go.Proofs.YtgfmnpbcbpobbaaDoor.Am
/- An abstract machine over plain data: a call of one of the program's functions is sound. No conditions. -/
namespace Go.Proofs.YtgfmnpbcbpobbaaDoor.Am
open Go

theorem Frz.own {G G' : Gh} {s s' : St} (h : Frz s s') (hb : G'.bx = G.bx) (hr : G'.rw = G.rw) (x : Nat ⊕ Nat) : own G' s' x = own G s x := by
  rcases x with k | k
  · simp only [Am.own, h.2.2.1, hb]
  · have h1 := h.2.2.2 k
    have e : ((s'.r k).c).isSome = ((s.r k).c).isSome := by
      cases hc : (s.r k).c with
      | none => rw [h1.2.1 hc]
      | some R => obtain ⟨fr, h2, _⟩ := h1.2.2 R hc; rw [h2]; rfl
    simp only [Am.own, e, hr]
theorem nodup_foot {G : Gh} {s : St} {foot : List (Nat ⊕ Nat)} (hn : foot.Nodup) (hdj : ∀ x y b, own G s x = some b → own G s y = some b → x = y) : (foot.filterMap (own G s)).Nodup := by
  unfold List.Nodup
  rw [List.pairwise_filterMap]
  exact List.Pairwise.imp (fun {x y} hne b hb b' hb' => fun e => hne (hdj x y b hb (by rw [e]; exact hb'))) hn
section
variable {P : Program} {o : Oper}
theorem run_call {a : Act} {w : World} {c : Call} {f : FuncId} {S : FSpec} (ho : o.op = .call c) (hc : a.eval (match c.callee with | .value x => x | _ => .const .nilFunc) = .func (.func f) #[] #[]) (hv : ∃ x, c.callee = .value x) (hf : FnOk P f S) :
    (execOp a.eval o).run P w = .ok (.enter f (c.args.map a.eval)) w := by
  obtain ⟨x, hx⟩ := hv
  obtain ⟨fn, h1, h2, h3⟩ := hf.isf
  rw [hx] at hc
  simp only at hc
  have hb : fn.body.isNone = false := by cases hfb : fn.body with
    | none => rw [hfb] at h2; cases h2
    | some b => rfl
  have hcf : ∀ args, (callFunc f args).run P w = .ok (.enter f args) w := fun args => by
    have h4 : ¬ fn.name = "runtime.NumGoroutine" := by simpa using h3
    have h5 : ¬ fn.body = none := by intro e; rw [e] at h2; cases h2
    unfold callFunc
    simp [h1, h4, h5]
  unfold execOp
  rw [ho]
  simp only [resolve, hx, hc, Deferred.ofValue]
  simp [invoke, hcf]
/-- .. of a function value. -/
theorem call_does {c : Call} {x : Operand} {f : FuncId} {S : FSpec} {W0 : World} {M : Own} {s : St} {a : Act} {w : World} {K : List Upd → Prop} {Q' : Exit → Act → World → Prop} (ho : o.op = .call c) (hcx : c.callee = .value x) (hc : a.eval x = .func (.func f) #[] #[]) (hf : FnOk P f S)
    (hd : ∀ d, o.dst = some d → d < s.n) (hR : RelE W0 M s a w) (hq : (callQ S o c).wp s K) : o.wp P a w (fun a' w' => ∃ us, K us ∧ RelE W0 M (s.app us) a' w') Q' := by
  obtain ⟨G, h⟩ := hR
  unfold callQ at hq
  rw [Q.wp_bind] at hq
  obtain ⟨xs, hq1, hxs⟩ := evs_ok h hq
  clear hq
  rw [Q.wp_bind] at hq1
  obtain ⟨k, foot, hq2, T⟩ := takeAs_ok h.mem _ hxs hq1
  clear hq1
  obtain ⟨⟨hnd, hfz, hpre⟩, hq3⟩ := hq2
  rw [Q.wp_bind] at hq3
  obtain ⟨us1, G1, hq4, m1, e1, hfd, hfrz, hbx, hrw, hfr⟩ := freeze_ok s hq3 h.mem (Frz.refl s)
  clear hq3
  rw [Q.wp_bind] at hq4
  have hv1 : VerSame 0 s (s.app us1) := fun k _ => ⟨by rw [hfrz.2.2.1], (hfrz.2.2.2 k).1⟩
  obtain ⟨us2, hq5, m2, e2, hv2, D⟩ := dropQ_ok hq4 m1 hv1
  clear hq4
  rw [Q.wp_bind] at hq5
  have hown1 : ∀ x, own G1 (s.app us1) x = own G s x := fun x => hfrz.own hbx hrw x
  have hless : ∀ x b, own G1 ((s.app us1).app us2) x = some b → own G s x = some b := fun x b hx => by rw [← hown1]; exact D.less x b hx
  have hfoot := T.nodup hnd
  rw [List.nodup_append] at hnd
  obtain ⟨hnd1, hnd2, hnd3⟩ := hnd
  have hfixed : Fixed G s w G1.I k.fz foot := by
    refine ⟨e1.I, hfd, fun x hx g hg o' hi => ?_⟩
    have hg1 : own G1 (s.app us1) x = some g := by rw [hown1]; exact hg
    rcases x with id | id
    · simp only [own] at hg1
      split at hg1
      · rename_i hs
        injection hg1 with hg1
        subst hg1
        exact m1.bI id hs o' hi
      · cases hg1
    · obtain ⟨R, hRs, hRf⟩ := T.live _ hx
      obtain ⟨fr, hR1, _⟩ := (hfrz.2.2.2 id).2.2 R hRs
      simp only [own, hR1] at hg1
      have hfr1 := (m1.rI id _ g hR1 hg1 o' hi).1
      rcases hfr id _ hR1 hfr1 with ⟨R', r1, r2⟩ | r1
      · rw [hRs] at r1; injection r1 with r1; subst r1; rw [hRf] at r2; cases r2
      · exact hfz id r1 (List.mem_append.2 ((T.mem _).1 hx))
  have hoas := T.oas G1.I hfixed
  have hFn := nodup_foot hfoot h.mem.dj
  have hFmem : ∀ b, b ∈ foot.filterMap (own G s) → ∃ x ∈ foot, own G s x = some b := fun b hb => by simpa [List.mem_filterMap] using hb
  have hFM : ∀ b ∈ foot.filterMap (own G s), W0.heap.size ≤ b ∨ M b := fun b hb => by
    obtain ⟨x, _, hx⟩ := hFmem b hb
    exact h.mem.oM x b hx
  have hF2 : ∀ x b, own G1 ((s.app us1).app us2) x = some b → b ∈ foot.filterMap (own G s) → x ∈ k.tops := fun x b hx hb => by
    obtain ⟨y, hy, hyb⟩ := hFmem b hb
    have hxy := h.mem.dj x y b (hless x b hx) hyb
    subst hxy
    rcases (T.mem x).1 hy with h5 | h5
    · exact h5
    · rw [D.gone x h5] at hx; cases hx
  have hcalls := hf.calls w G1.I (foot.filterMap (own G s)) (c.args.map a.eval) k.xs m1.In m1.gl (by rw [Array.toList_map]; exact hoas) hFn hpre
  have hrun := run_call (w := w) (a := a) ho (by rw [hcx]; exact hc) ⟨_, hcx⟩ hf
  unfold Oper.wp
  rw [hrun]
  refine Calls.mono hcalls fun e w' he => ?_
  match e, he with
  | .panicked _, he => exact he.elim
  | .outgrown, he => exact he.elim
  | .returned v, ⟨I', vs, Fp, Fr', hve, R⟩ =>
  subst hve
  show ∃ us, K us ∧ RelE W0 M (s.app us) (a.put o.dst (retV vs)) w'
  have hpost := R.post
  rw [Array.toList_map] at hpost
  rw [topVals_eq T.tops] at hpost
  have hfit := junkQ_fit hq5
  obtain ⟨us3, hq6, J⟩ := junkQ_ok (G := G) hq5 hv2 hnd1 hpost
  clear hq5
  rw [Q.wp_bind] at hq6
  have hbxe : ∀ id, G1.bx id = G.bx id := fun id => by rw [hbx]
  have hrwe : ∀ id, G1.rw id = G.rw id := fun id => by rw [hrw]
  have hni : ∀ x ∈ k.tops, x ∉ k.ids := fun x hx h5 => hnd3 x hx _ h5 rfl
  have hlv : ∀ x ∈ k.tops, live s x := fun x hx => T.live x ((T.mem _).2 (.inl hx))
  have hlr : ∀ id, Sum.inr id ∈ k.tops → (((s.app us1).app us2).r id).c.isSome = true := fun id hid => by
    obtain ⟨R0, hR0, _⟩ := hlv _ hid
    obtain ⟨fr, hR1, _⟩ := (hfrz.2.2.2 id).2.2 R0 hR0
    rw [D.r id (hni _ hid), hR1]; rfl
  obtain ⟨m3, e3⟩ := m2.call (s' := ((s.app us1).app us2).app us3) (F := foot.filterMap (own G s)) (I' := I') (tops := k.tops) J.r J.b (fun id hid => by
    obtain ⟨a1, a2, a3⟩ := J.tr id hid
    exact ⟨hlr id hid, a1, by rw [hrwe]; exact a2, by rw [hrwe]; exact a3⟩) (fun id hid => by
    have hl := hlv _ hid
    obtain ⟨a1, a2, a3⟩ := J.tb id hid
    refine ⟨?_, a1, by rw [hbxe]; exact a2, by rw [hbxe]; exact a3⟩
    rw [D.b id (hni _ hid), hfrz.2.2.1]
    exact hl) hF2 hFM R.fr R.sub R.keep R.new R.lt
  have hown3 : ∀ x b, own ⟨I', G1.bx, G1.rw⟩ (((s.app us1).app us2).app us3) x = some b → own G1 ((s.app us1).app us2) x = some b := fun x b hx => by
    rcases x with id | id
    · by_cases hid : Sum.inl id ∈ k.tops
      · have hl := hlv _ hid
        simp only [live] at hl
        have : (((s.app us1).app us2).b id).c.isSome = true := by rw [D.b id (hni _ hid), hfrz.2.2.1]; exact hl
        obtain ⟨_, ⟨n, cs, cur, ty, h3, _⟩, _⟩ := J.tb id hid
        simp only [own, h3, this] at hx ⊢
        exact hx
      · simp only [own, J.b id hid] at hx ⊢
        exact hx
    · by_cases hid : Sum.inr id ∈ k.tops
      · have := hlr id hid
        obtain ⟨_, ⟨R', h3, _⟩, _⟩ := J.tr id hid
        simp only [own, h3, this] at hx ⊢
        exact hx
      · simp only [own, J.r id hid] at hx ⊢
        exact hx
  have hnodup := R.nodup
  rw [List.nodup_append] at hnodup
  have hTF : ∀ b ∈ Fp ++ Fr', (∀ x, own ⟨I', G1.bx, G1.rw⟩ (((s.app us1).app us2).app us3) x = some b → x ∈ k.tops) ∧ (W0.heap.size ≤ b ∨ M b) := fun b hb => by
    rcases R.own b hb with h5 | h5
    · exact ⟨fun x hx => hF2 x b (hown3 x b hx) h5, hFM b h5⟩
    · exact ⟨fun x hx => by have := m2.ownlt (hown3 x b hx); omega, .inl (Nat.le_trans h.mem.fr.size h5)⟩
  have hmap : k.tops.map (topVal ⟨I', G1.bx, G1.rw⟩) = k.tops.map (topVal G) := List.map_congr_left fun j _ => by cases j <;> simp only [topVal, hbxe, hrwe]
  obtain ⟨p, G4, hq7, m4, e4, hI4, hv4, hown4, hn4, ht4⟩ := postQ_ok hq6 hfit m3 (fun x hid => by
    cases x with
    | inr id => trivial
    | inl id =>
      refine ⟨(J.ver id (Nat.zero_le _)).1, ?_⟩
      obtain ⟨_, ⟨n, cs, cur, ty, h3, _⟩, _⟩ := J.tb id hid
      rw [h3]; rfl) (J.ver.le (Nat.zero_le _)) (by rw [hmap]; exact hpost) hnd1 hnodup.1 (fun b hb => hTF b (by simp [hb]))
  clear hq6
  rw [Q.wp_bind] at hq7
  obtain ⟨r, G5, hq8, m5, hav⟩ := mkAs_ok _ hq7 m4 (by rw [hI4]; exact R.res) hnodup.2.1 (fun b hb => by
    refine ⟨fun x hx => ?_, (hTF b (by simp [hb])).2⟩
    rcases hown4 x b hx with h5 | h5
    · have ht := (hTF b (by simp [hb])).1 x h5
      have hbt : topBlk G x = some b := by
        have := own_topBlk h5
        cases x <;> simp only [topBlk, hbxe, hrwe] at this ⊢ <;> exact this
      exact hnodup.2.2 b (post_heads hfit hpost x ht b hbt) b hb rfl
    · exact hnodup.2.2 b h5 b hb rfl) hv4
  clear hq7
  refine ⟨_, hq8, ?_⟩
  rw [St.app_append, St.app_append, St.app_append, St.app_append, St.app_append]
  have E := (((e1.trans e2).trans e3).trans e4).trans m5.ext
  have hn5 : (((((s.app us1).app us2).app us3).app p.us).app r.us).n = s.n := (m5.n_.trans hn4).trans ((J.n_.trans D.n_).trans hfrz.1)
  have ht5 : (((((s.app us1).app us2).app us3).app p.us).app r.us).t = s.t := (m5.t.trans ht4).trans ((J.t.trans D.t).trans hfrz.2.1)
  have hrel := h.mem' E m5.mem hn5 ht5
  exact hrel.putOne (fun d e => by rw [hn5]; exact hd d e) (ret_ok hav)
theorem call_ok {c : Call} {f : FuncId} {S : FSpec} (ho : o.op = .call c) (hc : c.callee = .value (.func f)) (hf : FnOk P f S) : OpOk P o (callQ S o c) :=
  fun _ _ _ _ _ _ _ hd hR hq => call_does ho hc rfl hf hd hR hq
end
end Go.Proofs.YtgfmnpbcbpobbaaDoor.Am
/- An abstract machine over plain data: a map's keys, sorted (slices.Sorted of maps.Keys). No conditions. -/
namespace Go.Proofs.YtgfmnpbcbpobbaaDoor.Am
open Go

theorem toList_one {α : Type} {xs : Array α} {x : α} (h : xs.toList = [x]) : xs = #[x] := by
  cases xs; simp only at h; subst h; rfl
def keyI : List DV → Int
  | .v (.int _ n) :: _ => n
  | _ => 0
def keyS : List DV → List UInt8
  | .v (.string b) :: _ => b.data.toList
  | _ => []
def goodI (es : List (List DV)) : Prop := (∀ c ∈ es, ∃ n r, c = .v (.int .i64 n) :: r) ∧ (es.map keyI).Nodup ∧ (∀ x ∈ es.map keyI, (Lit.int .i64 x).wf = true) ∧ es.length ≤ maxLen ∧ es.length * 8 ≤ 140737488355328
def goodS (es : List (List DV)) : Prop := (∀ c ∈ es, ∃ l r, c = .v (strV l) :: r) ∧ (es.map keyS).Nodup ∧ (∀ x ∈ es.map keyS, x.length ≤ maxLen) ∧ es.length ≤ maxLen ∧ es.length * 16 ≤ 140737488355328
def sortI (es : List (List DV)) : List (List DV) := ((es.map keyI).mergeSort fun x y => decide (x ≤ y)).map fun x => [.v (.int .i64 x)]
def sortS (es : List (List DV)) : List (List DV) := ((es.map keyS).mergeSort fun x y => decide (x ≤ y)).map fun x => [.v (strV x)]
def keysQ (f1 : FuncId) (o : Oper) : List AV → Q (List Upd)
  | [.c (.row id ver)] => (Q.ofOpt o.dst).bind fun d => .rdR id fun r => match r.c with
    | some R => .req (ver = r.ver ∧ mapF ≤ R.e ∧ R.e ≠ iterF) (.rdB d fun b => .ret [.b d ⟨b.ver + 1, some [.row id ver]⟩, .t d ⟨true, .clo f1 d (b.ver + 1)⟩])
    | none => .fail
  | _ => .fail
def sortQ (f1 : FuncId) (e : TypeId) (good : List (List DV) → Prop) (srt : List (List DV) → List (List DV)) (o : Oper) : List AV → Q (List Upd)
  | [.clo f id ver] => (Q.ofOpt o.dst).bind fun d => .rdB id fun b => match b.c with
    | some [.row rid rver] => .rdR rid fun r => match r.c with
      | some R => .req (f = f1 ∧ ver = b.ver ∧ rver = r.ver ∧ mapF ≤ R.e ∧ R.e ≠ iterF ∧ mKs R.e = 1 ∧ mKa R.e = false ∧ e < mapF ∧ good R.es) (.rdR d fun rd => .ret [.r d ⟨rd.ver + 1, some ⟨srt R.es, 1, e, false⟩⟩, .t d ⟨true, .c (.row d (rd.ver + 1))⟩])
      | none => .fail
    | _ => .fail
  | _ => .fail
def spQ (sp : Sp) (o : Oper) (c : Call) : Q (List Upd) := (evs c.args.toList).bind fun xs => match sp with
  | .none => .fail
  | .keys f1 => keysQ f1 o xs
  | .sortI f1 e => sortQ f1 e goodI sortI o xs
  | .sortS f1 e => sortQ f1 e goodS sortS o xs
section
variable {P : Program} {W0 : World} {M : Own} {G : Gh} {s : St} {a : Act} {w : World} {o : Oper} {K : List Upd → Prop} {Q' : Exit → Act → World → Prop}
theorem keys_I {I : Nat → Nat → Prop} {e : Nat} (h1 : mKs e = 1) (h2 : mKa e = false) : ∀ {es : List (List DV)} {ms : List MapEntry}, MEs I w e es ms → (∀ c ∈ es, ∃ n r, c = .v (.int .i64 n) :: r) → ms.map (·.key) = (es.map keyI).map (Value.int .i64)
  | [], ms, h, _ => by simp only [MEs] at h; subst h; rfl
  | c :: es, ms, h, hk => by
    simp only [MEs] at h
    obtain ⟨m, r, rfl, hm, hr⟩ := h
    obtain ⟨n, q, hc⟩ := hk c (by simp)
    have := (key_of (k := .int .i64) h1 h2 hm ⟨_, q, hc, rfl⟩).1
    rw [List.map_cons, List.map_cons, List.map_cons, keys_I h1 h2 hr (fun c hc => hk c (by simp [hc])), this, hc]
    rfl
theorem keys_S {I : Nat → Nat → Prop} {e : Nat} (h1 : mKs e = 1) (h2 : mKa e = false) : ∀ {es : List (List DV)} {ms : List MapEntry}, MEs I w e es ms → (∀ c ∈ es, ∃ l r, c = .v (strV l) :: r) → ms.map (·.key) = (es.map keyS).map strV
  | [], ms, h, _ => by simp only [MEs] at h; subst h; rfl
  | c :: es, ms, h, hk => by
    simp only [MEs] at h
    obtain ⟨m, r, rfl, hm, hr⟩ := h
    obtain ⟨n, q, hc⟩ := hk c (by simp)
    have := (key_of (k := .str) h1 h2 hm ⟨_, q, hc, trivial⟩).1
    rw [List.map_cons, List.map_cons, List.map_cons, keys_S h1 h2 hr (fun c hc => hk c (by simp [hc])), this, hc]
    rfl
theorem run_call_sp {c : Call} {x : Operand} {f : FuncId} {S : FSpec} (ho : o.op = .call c) (hcx : c.callee = .value x) (hc : a.eval x = .func (.func f) #[] #[]) (hf : FnOk P f S) {post : Ending → World → Prop}
    (hcalls : Calls P f (c.args.map a.eval) w post) (hk : ∀ e w', post e w' → ∃ v, e = .returned v ∧ ∃ us, K us ∧ RelE W0 M (s.app us) (a.put o.dst v) w') : Does P W0 M s o a w K Q' := by
  have hrun := run_call (w := w) (a := a) ho (by rw [hcx]; exact hc) ⟨_, hcx⟩ hf
  unfold Does Oper.wp
  rw [hrun]
  refine Calls.mono hcalls fun e w' he => ?_
  obtain ⟨v, rfl, h⟩ := hk e w' he
  exact h
theorem sort_does {c : Call} {x : Operand} {f f1 : FuncId} {S : FSpec} {e : TypeId} {good : List (List DV) → Prop} {srt : List (List DV) → List (List DV)} (ho : o.op = .call c) (hcx : c.callee = .value x) (hc : a.eval x = .func (.func f) #[] #[]) (hf : FnOk P f S)
    (hsort : ∀ (w : World) (I : Nat → Nat → Prop) (b g : Nat) (ty : TypeId) (en : Array MapEntry) (clock : Nat) (me : Nat) (es : List (List DV)), w.heap[b]? = some (.cells #[.map (some g)] ty (0, 0)) → w.heap[g]? = some (.map en clock) → Born en.toList clock →
      mKs me = 1 → mKa me = false → MEs I w me es en.toList → good es → Calls P f #[closV f1 b] w fun o w' => ∃ v ks, o = .returned v ∧ w'.ownsRow w.heap.size e 1 v (srt es).length ks ∧ (∀ I' w'', DVee I' w'' (srt es) ks) ∧ (∀ c ∈ srt es, c.length = 1) ∧ RowKit.Below w.heap.size w w')
    (hd : ∀ d, o.dst = some d → d < s.n) (_hR : RelE W0 M s a w) {xs : List AV} {vs : List Value} (hargs : (c.args.map a.eval).toList = vs) (hxs : AVs G s w xs vs) (h : Rel W0 M G s a w) (hq : (sortQ f1 e good srt o xs).wp s K) : Does P W0 M s o a w K Q' := by
  unfold sortQ at hq
  split at hq
  · rename_i f' id ver
    rw [Q.wp_bind] at hq
    obtain ⟨d, hdd, hq1⟩ := ofOpt_ok hq
    clear hq
    simp only [Q.wp] at hq1
    split at hq1
    · rename_i rid rver hb
      simp only [Q.wp] at hq1
      split at hq1
      · rename_i R hRr
        obtain ⟨⟨rfl, hver, hrver, hE, hEi, hm1, hm2, heF, hgood⟩, hq2⟩ := hq1
        simp only [Q.wp] at hq2
        simp only [AVs, AVr] at hxs
        obtain ⟨v, r, rfl, ⟨_, hclo⟩, rfl⟩ := hxs
        obtain rfl := hclo hver (by rw [hb]; rfl)
        obtain ⟨cur, ty, hbx, hac⟩ := h.mem.bx id _ hb
        simp only [ACs, ACr] at hac
        obtain ⟨u, r, hcur, ⟨_, _, hrow⟩, rfl⟩ := hac
        have hu := hrow hrver (by rw [hRr]; rfl)
        obtain ⟨g, en, clock, hrw, hg, hme, hborn, hsz, hlen⟩ := h.mem.map_at hRr hE hEi
        have hcur' : cur = #[.map (some g)] := by rw [← hrw, ← hu]; exact toList_one hcur
        subst hcur'
        have hargs' : c.args.map a.eval = #[closV f' (G.bx id)] := toList_one hargs
        refine run_call_sp ho hcx hc hf (by rw [hargs']; exact hsort w G.I (G.bx id) g ty en clock R.e R.es hbx hg hborn hm1 hm2 hme hgood) ?_
        rintro ex w' ⟨v, ks, rfl, hown, hdv, h1, hB⟩
        refine ⟨v, rfl, _, hq2, ?_⟩
        have hgr : w.grownBy w' none := ⟨hB.os, hB.tape, hB.output, hB.size, fun k hk _ => hB.block k hk⟩
        obtain ⟨m1, e1⟩ := h.mem.grow hgr
        have hbk : ∀ b, obk v = some b → w.heap.size ≤ b := fun b hb' => by
          rcases hown.2 with ⟨rfl, _⟩ | ⟨g', cap, cur', rfl, hle, _⟩
          · cases hb'
          · injection hb' with hb'; subst hb'; exact hle
        have hown0 : w'.ownsRow 0 e 1 v (srt R.es).length ks := by
          refine ⟨hown.1, ?_⟩
          rcases hown.2 with hn | ⟨g', cap, cur', hv, _, rest⟩
          · exact .inl hn
          · exact .inr ⟨g', cap, cur', hv, Nat.zero_le _, rest⟩
        have hrowok : RowOk G.I w' v ⟨srt R.es, 1, e, false⟩ := ⟨Nat.one_pos, h1, .inl ⟨heF, ks, hown0, hdv _ _⟩⟩
        obtain ⟨m2, e2⟩ := m1.addRow d ((s.r d).ver + 1) v ⟨srt R.es, 1, e, false⟩ (Nat.lt_succ_self _) hrowok (fun x b hv hx => by have := h.mem.ownlt hx; have := hbk b hv; omega) (fun g hv o hi => by have := h.mem.In _ _ hi; have := hbk g hv; omega) (fun g hv => .inl (Nat.le_trans h.mem.fr.size (hbk g hv)))
        have h2 := h.mem' (e1.trans e2) m2 rfl rfl
        rw [hdd]
        refine ⟨_, h2.put (show d < (s.setR d _).n from hd d hdd) ⟨fun _ => ?_, fun e => by cases e⟩⟩
        simp only [AVr, ACr, St.setR, upd, if_true]
        exact ⟨hrowok.one, Nat.le_refl _, fun _ _ => trivial⟩
      · exact hq1.elim
    · exact hq1.elim
  · exact hq.elim
theorem dvee_I (I : Nat → Nat → Prop) (w : World) : ∀ ks : List Int, DVee I w (ks.map fun x => [DV.v (.int .i64 x)]) (ks.map (Value.int .i64))
  | [] => by simp [DVee]
  | k :: ks => by
    simp only [List.map_cons, DVee, DVrs, DVr]
    exact ⟨[_], _, rfl, ⟨_, [], rfl, ⟨rfl, rfl⟩, rfl⟩, dvee_I I w ks⟩
theorem dvee_S (I : Nat → Nat → Prop) (w : World) : ∀ ks : List (List UInt8), DVee I w (ks.map fun x => [DV.v (strV x)]) (ks.map strV)
  | [] => by simp [DVee]
  | k :: ks => by
    simp only [List.map_cons, DVee, DVrs, DVr]
    exact ⟨[_], _, rfl, ⟨_, [], rfl, ⟨rfl, rfl⟩, rfl⟩, dvee_S I w ks⟩
theorem sp_does {c : Call} {x : Operand} {f : FuncId} {S : FSpec} {sp : Sp} (ho : o.op = .call c) (hcx : c.callee = .value x) (hc : a.eval x = .func (.func f) #[] #[]) (hf : FnOk P f S) (hsp : S.sp = sp)
    (hd : ∀ d, o.dst = some d → d < s.n) (hR : RelE W0 M s a w) (hq : (spQ sp o c).wp s K) : Does P W0 M s o a w K Q' := by
  obtain ⟨G, h⟩ := hR
  unfold spQ at hq
  rw [Q.wp_bind] at hq
  obtain ⟨xs, hq1, hxs⟩ := evs_ok h hq
  clear hq
  revert hq1
  intro hq
  have hargs : (c.args.map a.eval).toList = c.args.toList.map a.eval := by rw [Array.toList_map]
  have hok := hf.sp
  rw [hsp] at hok
  cases sp with
  | none => exact hq.elim
  | keys f1 =>
    obtain ⟨tm, hok⟩ := hok
    simp only at hq
    unfold keysQ at hq
    split at hq
    · rename_i id ver
      rw [Q.wp_bind] at hq
      obtain ⟨d, hdd, hq1⟩ := ofOpt_ok hq
      clear hq
      simp only [Q.wp] at hq1
      split at hq1
      · rename_i R hRr
        obtain ⟨⟨hver, hE, hEi⟩, hq2⟩ := hq1
        simp only [Q.wp] at hq2
        have hxs0 := hxs
        simp only [AVs, AVr, ACr] at hxs
        obtain ⟨v, r, hv, ⟨hone, hle, hrow⟩, rfl⟩ := hxs
        have hu := hrow hver (by rw [hRr]; rfl)
        obtain ⟨g, en, clock, hrw, _⟩ := h.mem.map_at hRr hE hEi
        rw [hrw] at hu
        subst hu
        have hargs' : c.args.map a.eval = #[.map (some g)] := toList_one (hargs.trans hv)
        refine run_call_sp ho hcx hc hf (by rw [hargs']; exact hok g w) ?_
        rintro ex w' ⟨rfl, rfl⟩
        refine ⟨_, rfl, _, hq2, ?_⟩
        obtain ⟨m1, e1⟩ := h.mem.grow (grown_alloc w (.cells #[.map (some g)] tm))
        have hac : ACs G s w [.row id ver] [.map (some g)] := by
          simp only [ACs, ACr]
          exact ⟨_, [], rfl, ⟨rfl, hle, fun _ _ => hrw.symm⟩, rfl⟩
        obtain ⟨m2, e2⟩ := m1.addBox d ((s.b d).ver + 1) w.heap.size [.row id ver] (Nat.lt_succ_self _) ⟨#[.map (some g)], tm, heap_alloc_new w _, e1.acs hac⟩ (fun x hx => by have := h.mem.ownlt hx; omega) (fun o hi => by have := h.mem.In _ _ hi; omega) (.inl h.mem.fr.size)
        have h2 := h.mem' (e1.trans e2) m2 rfl rfl
        rw [hdd]
        refine ⟨_, h2.put (show d < (s.setB d _).n from hd d hdd) ⟨fun _ => ?_, fun e => by cases e⟩⟩
        simp only [AVr, St.setB, upd, if_true]
        exact ⟨Nat.le_refl _, fun _ _ => trivial⟩
      · exact hq1.elim
    · exact hq.elim
  | sortI f1 e =>
    refine sort_does ho hcx hc hf ?_ hd ⟨G, h⟩ hargs hxs h hq
    intro w I b g ty en clock me es hb hg hborn h1 h2 hme hgood
    obtain ⟨g1, g2, g3, g4, g5⟩ := hgood
    refine (hok w b g ty en clock (es.map keyI) hb hg hborn (keys_I h1 h2 hme g1) g2 g3 (by simpa using g4) (by simpa using g5)).mono ?_
    rintro ex w' ⟨v, rfl, hown, hB⟩
    refine ⟨v, _, rfl, ?_, fun I' w'' => dvee_I I' w'' _, fun c hc => ?_, hB⟩
    · rw [show (sortI es).length = (es.map keyI).length from by simp [sortI]]
      exact hown
    · obtain ⟨k, _, rfl⟩ := List.mem_map.1 hc; rfl
  | sortS f1 e =>
    refine sort_does ho hcx hc hf ?_ hd ⟨G, h⟩ hargs hxs h hq
    intro w I b g ty en clock me es hb hg hborn h1 h2 hme hgood
    obtain ⟨g1, g2, g3, g4, g5⟩ := hgood
    refine (hok w b g ty en clock (es.map keyS) hb hg hborn (keys_S h1 h2 hme g1) g2 g3 (by simpa using g4) (by simpa using g5)).mono ?_
    rintro ex w' ⟨v, rfl, hown, hB⟩
    refine ⟨v, _, rfl, ?_, fun I' w'' => dvee_S I' w'' _, fun c hc => ?_, hB⟩
    · rw [show (sortS es).length = (es.map keyS).length from by simp [sortS]]
      exact hown
    · obtain ⟨k, _, rfl⟩ := List.mem_map.1 hc; rfl
end
end Go.Proofs.YtgfmnpbcbpobbaaDoor.Am
/- An abstract machine over plain data: from a function's body to the function. No conditions. -/
namespace Go.Proofs.YtgfmnpbcbpobbaaDoor.Am
open Go

def resQ (T : TypeId → Option TI) : List ResultVar → Q (List AV)
  | [] => .ret []
  | .tmp t :: rs => (ev (.tmp t)).bind fun v => (resQ T rs).bind fun vs => .ret (v :: vs)
  | .cell a t :: rs => (tq T t).bind fun i => (ev (.tmp a)).bind fun p => (loadQ i p).bind fun v => (resQ T rs).bind fun vs => .ret (v :: vs)
def pinQ (n : Nat) : Nat → Q (List AV)
  | 0 => .ret []
  | m + 1 => .rdT n fun x => (pinQ (n + 1) m).bind fun vs => .ret (x.x :: vs)
/-- What comes back. -/
def topAVs : List OA → List AV → List AV
  | .bx _ :: xs, v :: vs => v :: topAVs xs vs
  | .rx _ _ _ :: xs, v :: vs => v :: topAVs xs vs
  | _ :: xs, _ :: vs => topAVs xs vs
  | _, _ => []
def tU (g : Bool) (i : Nat) : List AV → List Upd
  | [] => []
  | v :: vs => .t i ⟨g, v⟩ :: tU g (i + 1) vs
/-- What a state has to answer where the function ends. -/
def outQ (T : TypeId → Option TI) (n m : Nat) (rs : List ResultVar) (sh : List ASh) (post : List OA) (res : List OA) : Q Unit :=
  (pinQ n m).bind fun ps => (resQ T rs).bind fun vs => (takeAs sh (ps ++ vs)).bind fun k =>
  .req (k.xs = post ++ res ∧ (k.tops ++ k.ids).Nodup ∧ ∀ id ∈ k.fz, Sum.inr id ∉ k.tops ++ k.ids) ((freeze k.fz).bind fun _ => .ret ())
def endK (T : TypeId → Option TI) (n m : Nat) (rs : List ResultVar) (sh : List ASh) (post : List OA) (res : List OA) : AX → St → Prop
  | .exit _, _ => False
  | _, s => s.n = n ∧ post.length = m ∧ (outQ T n m rs sh post res).wp s fun _ => True
section
variable {P : Program} {T : TypeId → Option TI} {W0 : World} {M : Own} {G : Gh} {s : St} {a : Act} {w : World}
def resF (tmps : Array Value) : ResultVar → Sem Value
  | .tmp t => pure (tmps.getD t undef)
  | .cell a t => do loadVar t (← asAddr (tmps.getD a undef))
theorem results_eq (fn : Func) (tmps : Array Value) : results fn tmps = (do let vs ← fn.results.mapM (resF tmps); pure (if h : vs.size = 1 then vs[0] else .tuple vs)) := by
  unfold results
  congr 1
theorem resQ_ok (h : Rel W0 M G s a w) (hT : ∀ t i, T t = some i → TOk P t i) : ∀ {rs : List ResultVar} {K : List AV → Prop}, (resQ T rs).wp s K → ∃ avs vs, K avs ∧ AVs G s w avs vs ∧ (rs.mapM (resF a.tmps)).run P w = .ok vs w
  | [], K, hq => ⟨[], [], hq, by simp [AVs], rfl⟩
  | .tmp t :: rs, K, hq => by
    simp only [resQ, Q.wp_bind] at hq
    obtain ⟨v, hq, h1⟩ := ev_ok h hq
    obtain ⟨avs, vs, hq, h2, h3⟩ := resQ_ok h hT hq
    refine ⟨_, a.eval (.tmp t) :: vs, hq, by simp only [AVs]; exact ⟨_, _, rfl, h1, h2⟩, ?_⟩
    have e : a.eval (.tmp t) = a.tmps.getD t undef := rfl
    rw [List.mapM_cons, e]
    simp [resF, h3]
  | .cell b t :: rs, K, hq => by
    simp only [resQ, Q.wp_bind] at hq
    obtain ⟨i, hi, hq⟩ := ofOpt_ok hq
    obtain ⟨p, hq, h1⟩ := ev_ok h hq
    obtain ⟨y, v, ad, hp, hq, hy, hrun⟩ := load_ok h (hT t i hi) h1 hq
    obtain ⟨avs, vs, hq, h2, h3⟩ := resQ_ok h hT hq
    refine ⟨_, v :: vs, hq, by simp only [AVs]; exact ⟨_, _, rfl, hy, h2⟩, ?_⟩
    rw [List.mapM_cons]
    have hp' : a.tmps.getD b undef = .pointer (some ad) := hp
    have hr1 : (resF a.tmps (.cell b t)).run P w = .ok v w := by
      simp only [resF, hp', Sem.run_bind]
      simp [asAddr, hrun]
    simp only [Sem.run_bind, hr1, Result.andThen_ok, h3]
    rfl
theorem results_run {fn : Func} {tmps : Array Value} {vs : List Value} (h : (fn.results.toList.mapM (resF tmps)).run P w = .ok vs w) : (results fn tmps).run P w = .ok (retV vs) w := by
  rw [results_eq, Array.mapM_eq_mapM_toList]
  simp only [Sem.run_bind, Sem.run_map, h, Result.andThen_ok]
  match vs with
  | [] => rfl
  | [v] => rfl
  | v :: u :: vs => rfl
theorem fixed_of (_h : Mem W0 M G s w) {k : Tas} {vs : List Value} {foot : List (Nat ⊕ Nat)} (T : Taken G s w k vs foot) (hfz : ∀ id ∈ k.fz, Sum.inr id ∉ k.tops ++ k.ids) {us1 : List Upd} {G1 : Gh} (m1 : Mem W0 M G1 (s.app us1) w) (e1 : Ext G s w G1 (s.app us1) w)
    (hfd : ∀ id ∈ k.fz, ∀ R, (s.r id).c = some R → DVr G1.I w (.sl R.es) (G.rw id)) (hfrz : Frz s (s.app us1)) (hbx : G1.bx = G.bx) (hrw : G1.rw = G.rw)
    (hfr : ∀ id R, ((s.app us1).r id).c = some R → R.fr = true → (∃ R', (s.r id).c = some R' ∧ R'.fr = true) ∨ id ∈ k.fz) : Fixed G s w G1.I k.fz foot := by
  refine ⟨e1.I, hfd, fun x hx g hg o' hi => ?_⟩
  have hg1 : own G1 (s.app us1) x = some g := by rw [hfrz.own hbx hrw]; exact hg
  rcases x with id | id
  · simp only [own] at hg1
    split at hg1
    · rename_i hs
      injection hg1 with hg1
      subst hg1
      exact m1.bI id hs o' hi
    · cases hg1
  · obtain ⟨R, hRs, hRf⟩ := T.live _ hx
    obtain ⟨fr, hR1, _⟩ := (hfrz.2.2.2 id).2.2 R hRs
    simp only [own, hR1] at hg1
    have hfr1 := (m1.rI id _ g hR1 hg1 o' hi).1
    rcases hfr id _ hR1 hfr1 with ⟨R', r1, r2⟩ | r1
    · rw [hRs] at r1; injection r1 with r1; subst r1; rw [hRf] at r2; cases r2
    · have := hfz id r1
      rw [List.mem_append] at this
      exact this ((T.mem _).1 hx)
theorem AVs.app : ∀ {xs ys : List AV} {us vs : List Value}, AVs G s w xs us → AVs G s w ys vs → AVs G s w (xs ++ ys) (us ++ vs)
  | [], ys, us, vs, h, k => by simp only [AVs] at h; subst h; exact k
  | x :: xs, ys, us, vs, h, k => by
    simp only [AVs] at h
    obtain ⟨v, r, rfl, h1, h2⟩ := h
    simp only [List.cons_append, AVs]
    exact ⟨v, _, rfl, h1, AVs.app h2 k⟩
theorem OAs.len {I : Nat → Nat → Prop} : ∀ {xs : List OA} {vs : List Value} {F : List Nat}, OAs I w xs vs F → xs.length = vs.length
  | [], vs, F, h => by simp only [OAs] at h; rw [h.1]; rfl
  | c :: cs, vs, F, h => by
    simp only [OAs] at h
    obtain ⟨x, r, F1, F2, rfl, _, h2, _⟩ := h
    simp [OAs.len h2]
theorem OAs.split {I : Nat → Nat → Prop} : ∀ {xs ys : List OA} {us vs : List Value} {F : List Nat}, OAs I w (xs ++ ys) (us ++ vs) F → xs.length = us.length → ∃ F1 F2, OAs I w xs us F1 ∧ OAs I w ys vs F2 ∧ F = F1 ++ F2
  | [], ys, us, vs, F, h, hl => by
    have : us = [] := List.eq_nil_of_length_eq_zero hl.symm
    subst this
    exact ⟨[], F, by simp [OAs], h, rfl⟩
  | x :: xs, ys, us, vs, F, h, hl => by
    cases us with
    | nil => simp at hl
    | cons u us =>
      simp only [List.cons_append, OAs] at h
      obtain ⟨v, r, F1, F2, e, h1, h2, rfl⟩ := h
      injection e with e1 e2
      subst e1; subst e2
      obtain ⟨F3, F4, k1, k2, rfl⟩ := OAs.split h2 (by simpa using hl)
      exact ⟨F1 ++ F3, F4, by simp only [OAs]; exact ⟨u, us, F1, F3, rfl, h1, k1, rfl⟩, k2, by simp⟩
mutual
theorem OCr.notI {I : Nat → Nat → Prop} : ∀ (c : OC) {v : Value} {F : List Nat}, OCr I w c v F → ∀ b ∈ F, ∀ o, ¬ I b o
  | .d _, v, F, h, b, hb, o => by simp only [OCr] at h; rw [h.1] at hb; simp at hb
  | .row _ _ _, v, F, h, b, hb, o => by
    simp only [OCr] at h
    obtain ⟨_, rfl, h3⟩ := h
    exact h3 b o (by simpa using hb)
  | .box cs, v, F, h, b, hb, o => by
    simp only [OCr] at h
    obtain ⟨g, cur, ty, Fs, _, _, h3, rfl, h5⟩ := h
    rcases List.mem_cons.1 hb with rfl | hb
    · exact h5 o
    · exact OCs.notI cs h3 b hb o
theorem OCs.notI {I : Nat → Nat → Prop} : ∀ (cs : List OC) {vs : List Value} {F : List Nat}, OCs I w cs vs F → ∀ b ∈ F, ∀ o, ¬ I b o
  | [], vs, F, h, b, hb, o => by simp only [OCs] at h; rw [h.2] at hb; simp at hb
  | c :: cs, vs, F, h, b, hb, o => by
    simp only [OCs] at h
    obtain ⟨x, r, F1, F2, rfl, h1, h2, rfl⟩ := h
    rcases List.mem_append.1 hb with hb | hb
    · exact OCr.notI c h1 b hb o
    · exact OCs.notI cs h2 b hb o
end
theorem OAs.notI {I : Nat → Nat → Prop} : ∀ (cs : List OA) {vs : List Value} {F : List Nat}, OAs I w cs vs F → ∀ b ∈ F, ∀ o, ¬ I b o
  | [], vs, F, h, b, hb, o => by simp only [OAs] at h; rw [h.2] at hb; simp at hb
  | c :: cs, vs, F, h, b, hb, o => by
    simp only [OAs] at h
    obtain ⟨x, r, F1, F2, rfl, h1, h2, rfl⟩ := h
    rcases List.mem_append.1 hb with hb | hb
    · cases c <;> simp only [OAr] at h1
      · exact OCr.notI _ h1 b hb o
      · obtain ⟨vs, _, h1⟩ := h1; exact OCs.notI _ h1 b hb o
      · exact OCr.notI _ h1 b hb o
      · exact OCr.notI _ h1 b hb o
    · exact OAs.notI cs h2 b hb o
theorem topAVs_ok : ∀ {xs : List OA} {avs : List AV} {vs : List Value}, AVs G s w avs vs → AVs G s w (topAVs xs avs) (topVals xs vs)
  | [], avs, vs, h => by simp [topAVs, topVals, AVs]
  | .bx cs :: xs, [], vs, h => by simp only [AVs] at h; subst h; simp [topAVs, topVals, AVs]
  | .bx cs :: xs, a :: avs, vs, h => by
    simp only [AVs] at h
    obtain ⟨v, r, rfl, h1, h2⟩ := h
    simp only [topAVs, topVals, AVs]
    exact ⟨v, _, rfl, h1, topAVs_ok h2⟩
  | .rx _ _ _ :: xs, [], vs, h => by simp only [AVs] at h; subst h; simp [topAVs, topVals, AVs]
  | .rx _ _ _ :: xs, a :: avs, vs, h => by
    simp only [AVs] at h
    obtain ⟨v, r, rfl, h1, h2⟩ := h
    simp only [topAVs, topVals, AVs]
    exact ⟨v, _, rfl, h1, topAVs_ok h2⟩
  | .c cs :: xs, [], vs, h => by simp only [AVs] at h; subst h; simp [topAVs, topVals, AVs]
  | .c cs :: xs, a :: avs, vs, h => by
    simp only [AVs] at h
    obtain ⟨v, r, rfl, h1, h2⟩ := h
    simp only [topAVs, topVals]
    exact topAVs_ok h2
  | .agg cs :: xs, [], vs, h => by simp only [AVs] at h; subst h; simp [topAVs, topVals, AVs]
  | .agg cs :: xs, a :: avs, vs, h => by
    simp only [AVs] at h
    obtain ⟨v, r, rfl, h1, h2⟩ := h
    simp only [topAVs, topVals]
    exact topAVs_ok h2
theorem pinQ_ok (h : Rel W0 M G s a w) : ∀ {vs : List Value} {i : Nat} {K : List AV → Prop}, (∀ k x, vs[k]? = some x → M.pin (i + k) = x) → (pinQ (s.n + i) vs.length).wp s K → ∃ avs, K avs ∧ AVs G s w avs vs
  | [], i, K, _, hq => ⟨[], hq, by simp [AVs]⟩
  | v :: vs, i, K, hp, hq => by
    simp only [List.length_cons, pinQ, Q.wp] at hq
    rw [Q.wp_bind] at hq
    obtain ⟨avs, hq, h2⟩ := pinQ_ok h (i := i + 1) (vs := vs) (fun k x hk => by have := hp (k + 1) x (by simpa using hk); rw [← this]; congr 1; omega) hq
    refine ⟨_, hq, ?_⟩
    simp only [AVs]
    refine ⟨v, vs, rfl, ?_, h2⟩
    have h1 := h.pin i
    have h3 := hp 0 v (by simp)
    rw [Nat.add_zero] at h3
    rw [h3] at h1
    exact h1
theorem tU_rest (g : Bool) : ∀ (vs : List AV) (i : Nat) (s : St), (s.app (tU g i vs)).n = s.n ∧ (s.app (tU g i vs)).b = s.b ∧ (s.app (tU g i vs)).r = s.r
  | [], _, _ => ⟨rfl, rfl, rfl⟩
  | v :: vs, i, s => tU_rest g vs (i + 1) (s.setT i ⟨g, v⟩)
theorem tU_lt (g : Bool) : ∀ (vs : List AV) (i : Nat) (s : St) (j : Nat), (j < i ∨ i + vs.length ≤ j) → (s.app (tU g i vs)).t j = s.t j
  | [], _, _, _, _ => rfl
  | v :: vs, i, s, j, h => by
    simp only [List.length_cons] at h
    refine (tU_lt g vs (i + 1) (s.setT i ⟨g, v⟩) j (by omega)).trans ?_
    have : j ≠ i := by omega
    simp [St.setT, upd, this]
theorem tU_at (g : Bool) : ∀ (vs : List AV) (i : Nat) (s : St) (j : Nat) (v : AV), vs[j]? = some v → (s.app (tU g i vs)).t (i + j) = ⟨g, v⟩
  | [], _, _, _, _, h => by simp at h
  | v :: vs, i, s, j, u, h => by
    cases j with
    | zero =>
      simp at h
      subst h
      refine (tU_lt g vs (i + 1) (s.setT i ⟨g, v⟩) (i + 0) (by omega)).trans ?_
      simp [St.setT, upd]
    | succ j =>
      have := tU_at g vs (i + 1) (s.setT i ⟨g, v⟩) j u (by simpa using h)
      rw [show i + (j + 1) = i + 1 + j from by omega]
      exact this
/-- A function answers as its body does. -/
theorem fnOk {f : FuncId} {fn : Func} {c : Code} {S : FSpec} (hT : ∀ t i, T t = some i → TOk P t i) (hf : P.funcs[f]? = some fn) (hb : fn.body = some c) (hname : (fn.name == "runtime.NumGoroutine") = false) (B : Nat)
    (h : ∀ xs, S.pre xs → xs.length ≤ fn.ntmps ∧ ∃ sh, (mkAs B xs).wp (stOf fn.ntmps [] [] []) fun k => Tri P c (endK T fn.ntmps (topAVs xs k.avs).length fn.results.toList sh (S.post xs) (S.res xs)) ((((stOf fn.ntmps [] [] []).app k.us).app (tU true 0 k.avs)).app (tU false fn.ntmps (topAVs xs k.avs)))) (hsp : S.sp = .none := by rfl) : FnOk P f S := by
  refine ⟨by rw [hsp]; trivial, ⟨fn, hf, by rw [hb]; rfl, hname⟩, fun w I F args xs hIn hgl hargs hF hpre => ?_⟩
  obtain ⟨hlen, sh, hq⟩ := h xs hpre
  refine calls_of_wp hf hb ?_
  generalize hn : fn.ntmps = n at *
  have hal : args.size ≤ n := by rw [← Array.length_toList, ← hargs.len]; exact hlen
  let M : Own := ⟨(· ∈ F), I, fun k => (topVals xs args.toList).getD k undef⟩
  let G0 : Gh := ⟨I, fun _ => 0, fun _ => .slice none 0 0⟩
  have hown0 : ∀ x, own G0 (stOf n [] [] []) x = none := fun x => by cases x <;> rfl
  have m0 : Mem w M G0 (stOf n [] [] []) w := ⟨fun id cs hc => (by cases hc), fun id R hc => (by cases hc), fun x y b hx => (by rw [hown0] at hx; cases hx), fun id hc => (by cases hc), fun id R g hc => (by cases hc), fun x b hx => (by rw [hown0] at hx; cases hx), hIn, ⟨rfl, rfl, rfl, Nat.le_refl _, fun _ _ _ => rfl⟩, ⟨fun _ _ h => h, fun _ _ h => .inl h⟩, hgl⟩
  obtain ⟨k, G', hK, made, hav⟩ := mkAs_ok xs hq m0 hargs hF (fun b hb => ⟨fun x hx => (by rw [hown0] at hx; cases hx), .inr hb⟩) (fun _ _ => ⟨rfl, rfl⟩)
  have htops := topAVs_ok (xs := xs) hav
  have havl := hav.len
  rw [Array.length_toList] at havl
  generalize hs1 : (((stOf n [] [] []).app k.us).app (tU true 0 k.avs)).app (tU false n (topAVs xs k.avs)) = s1 at *
  obtain ⟨a1, a2, a3⟩ := tU_rest true k.avs 0 ((stOf n [] [] []).app k.us)
  obtain ⟨b1, b2, b3⟩ := tU_rest false (topAVs xs k.avs) n (((stOf n [] [] []).app k.us).app (tU true 0 k.avs))
  rw [hs1] at b1 b2 b3
  have hs1n : s1.n = n := b1.trans (a1.trans made.n_)
  have hE : Ext G' ((stOf n [] [] []).app k.us) w G' s1 w := by
    have := Ext.slots G' ((stOf n [] [] []).app k.us) w s1.n s1.t
    have e : (⟨s1.n, s1.t, ((stOf n [] [] []).app k.us).b, ((stOf n [] [] []).app k.us).r⟩ : St) = s1 := by rw [← a2, ← a3, ← b2, ← b3]
    rw [e] at this
    exact this
  have hM1 : Mem w M G' s1 w := by
    have := made.mem.slots s1.n s1.t
    have e : (⟨s1.n, s1.t, ((stOf n [] [] []).app k.us).b, ((stOf n [] [] []).app k.us).r⟩ : St) = s1 := by rw [← a2, ← a3, ← b2, ← b3]
    rw [e] at this
    exact this
  have ht_lo : ∀ j, j < n → s1.t j = (((stOf n [] [] []).app k.us).app (tU true 0 k.avs)).t j := fun j hj => by rw [← hs1]; exact tU_lt false _ _ _ _ (.inl hj)
  have ht_base : ∀ j, k.avs.length ≤ j → (((stOf n [] [] []).app k.us).app (tU true 0 k.avs)).t j = ⟨decide (j < n), .any⟩ := fun j hj => by
    rw [tU_lt true _ _ _ _ (.inr (by omega)), made.t]
    rfl
  have hR : Rel w M G' s1 { tmps := args ++ Array.replicate (n - args.size) undef, defers := [] } w := by
    refine ⟨by rw [hs1n]; simp; omega, rfl, fun j => ?_, hM1, fun j => ?_⟩
    · by_cases hj : j < n
      · rw [ht_lo j hj]
        by_cases hja : j < k.avs.length
        · have hget : k.avs[j]? = some k.avs[j] := List.getElem?_eq_getElem hja
          have e := tU_at true k.avs 0 ((stOf n [] [] []).app k.us) j _ hget
          rw [Nat.zero_add] at e
          rw [e]
          obtain ⟨v, hv, hr⟩ := hav.get hget
          refine ⟨fun _ => ?_, fun e => by cases e⟩
          have : (args ++ Array.replicate (n - args.size) undef).getD j undef = v := by
            rw [Array.getD_eq_getD_getElem?, Array.getElem?_append_left (by omega)]
            rw [Array.getElem?_toList] at hv
            rw [hv]; rfl
          simp only [this]
          exact hE.av _ hr
        · rw [ht_base j (by omega)]
          exact ⟨fun _ => by simp only [AVr], fun e => by simp [hj] at e⟩
      · have hu : (args ++ Array.replicate (n - args.size) undef).getD j undef = undef := by
          rw [Array.getD_eq_getD_getElem?, Array.getElem?_eq_none (by simp; omega)]
          rfl
        have hg : (s1.t j).g = false := by
          by_cases hp : j < n + (topAVs xs k.avs).length
          · have hget : (topAVs xs k.avs)[j - n]? = some (topAVs xs k.avs)[j - n] := List.getElem?_eq_getElem (by omega)
            have e := tU_at false (topAVs xs k.avs) n (((stOf n [] [] []).app k.us).app (tU true 0 k.avs)) (j - n) _ hget
            rw [show n + (j - n) = j from by omega, hs1] at e
            rw [e]
          · rw [← hs1, tU_lt false _ _ _ _ (.inr (by omega)), ht_base j (by omega)]
            simp [hj]
        exact ⟨fun e => (by rw [hg] at e; cases e), fun _ => hu⟩
    · rw [hs1n]
      by_cases hp : j < (topAVs xs k.avs).length
      · have hget : (topAVs xs k.avs)[j]? = some (topAVs xs k.avs)[j] := List.getElem?_eq_getElem hp
        have e := tU_at false (topAVs xs k.avs) n (((stOf n [] [] []).app k.us).app (tU true 0 k.avs)) j _ hget
        rw [hs1] at e
        rw [e]
        obtain ⟨v, hv, hr⟩ := htops.get hget
        have : M.pin j = v := by
          show (topVals xs args.toList).getD j undef = v
          rw [List.getD_eq_getElem?_getD, hv]; rfl
        rw [this]
        exact hE.av _ hr
      · rw [← hs1, tU_lt false _ _ _ _ (.inr (by omega)), ht_base _ (by omega)]
        simp only [AVr]
  refine wp_mono (hK w M _ w ⟨G', hR⟩) fun e a' w' hqk => ?_
  have key : ∀ s', RelE w M s' a' w' → (s'.n = n ∧ (S.post xs).length = (topAVs xs k.avs).length ∧ (outQ T n (topAVs xs k.avs).length fn.results.toList sh (S.post xs) (S.res xs)).wp s' fun _ => True) →
      a'.defers = [] ∧ ∃ v, (results fn a'.tmps).run P w' = .ok v w' ∧ ∃ I' vs Fp Fr', v = retV vs ∧ Ret S I w xs args.toList F w' I' vs Fp Fr' := by
    rintro s' ⟨G2, h2⟩ ⟨hn2, hpl, ho⟩
    unfold outQ at ho
    rw [Q.wp_bind] at ho
    have hm : (topAVs xs k.avs).length = (topVals xs args.toList).length := htops.len
    rw [hm, ← hn2] at ho
    obtain ⟨ps, ho1, hps⟩ := pinQ_ok h2 (i := 0) (vs := topVals xs args.toList) (fun k x hk => by
      show (topVals xs args.toList).getD (0 + k) undef = x
      rw [Nat.zero_add, List.getD_eq_getElem?_getD, hk]; rfl) ho
    clear ho
    rw [Q.wp_bind] at ho1
    obtain ⟨avs, vs, ho2, hvs, hrun⟩ := resQ_ok h2 hT ho1
    clear ho1
    rw [Q.wp_bind] at ho2
    obtain ⟨kk, foot, ho3, Tk⟩ := takeAs_ok h2.mem _ (hps.app hvs) ho2
    clear ho2
    obtain ⟨⟨hxs, hnd, hfz⟩, ho4⟩ := ho3
    rw [Q.wp_bind] at ho4
    obtain ⟨us1, G1, _, m1, e1, hfd, hfrz, hbx, hrw, hfr⟩ := freeze_ok s' ho4 h2.mem (Frz.refl s')
    have hoas := Tk.oas G1.I (fixed_of h2.mem Tk hfz m1 e1 hfd hfrz hbx hrw hfr)
    rw [hxs] at hoas
    obtain ⟨Fp, Fr', p1, p2, p3⟩ := OAs.split hoas (by rw [hpl, hm])
    refine ⟨h2.df, _, results_run hrun, G1.I, vs, Fp, Fr', rfl, ⟨h2.mem.fr, m1.ii.1, fun b o hi => ?_, fun b o hi => m1.ii.2 b o hi, m1.In, p1, p2, ?_, fun b hb => ?_⟩⟩
    · refine World.cell?_of_block (a := ⟨b, o, none⟩) (h2.mem.fr.block b (hIn b o hi) (fun hm => ?_))
      exact OAs.notI xs hargs b hm o hi
    · rw [← p3]
      exact nodup_foot (Tk.nodup hnd) h2.mem.dj
    · rw [← p3] at hb
      obtain ⟨x, _, hx⟩ := List.mem_filterMap.1 hb
      exact (h2.mem.oM x b hx).symm
  cases e with
  | normal => obtain ⟨s', h1, h2⟩ := hqk; exact key s' h1 h2
  | ret => obtain ⟨s', h1, h2⟩ := hqk; exact key s' h1 h2
  | exit i => obtain ⟨s', h1, h2⟩ := hqk; exact h2.elim
  | goto l => exact hqk.elim
  | panic c => exact hqk.elim
  | outgrown => exact hqk.elim
end
end Go.Proofs.YtgfmnpbcbpobbaaDoor.Am
/- An abstract machine over plain data: the builtins; all calls of a function. No conditions. -/
namespace Go.Proofs.YtgfmnpbcbpobbaaDoor.Am
open Go

def lenOfQ (k : TK) (x : AV) : Q Nat := match k with
  | .slice _ => lenQ x
  | .str => strLenQ x
  | .map _ _ => mapLenQ x
  | _ => .fail
def mmQ (f : Int → Int → Int) (x y : AV) : Q AV := match x, y with
  | .c (.d (.v (.int k a))), .c (.d (.v (.int _ b))) => .ret (.c (.d (.v (.int k (f a b)))))
  | _, _ => .fail
def builtQ (T : TypeId → Option TI) (b : Builtin) (o : Oper) (c : Call) : Q (List Upd) := match b with
  | .len => match c.args.toList, c.argTypes.toList with
    | [x], [t] => (tq T t).bind fun i => (ev x).bind fun x => (lenOfQ i.k x).bind fun n => one o.dst (.c (.d (.v (.int .i64 (n : Int)))))
    | _, _ => .fail
  | .append => match c.args.toList, c.argTypes.toList with
    | [x, y], [t, t'] => (tq T t).bind fun i => match i.k with
      | .slice e => (tq T e).bind fun ie => (Q.ofOpt o.dst).bind fun d => .req (t = t' ∧ 0 < ie.size) ((ev x).bind fun x => (ev y).bind fun y => match x, y with
        | .c x, .c y => appendQ d e ie.size ie.bytes x y
        | _, _ => .fail)
      | _ => .fail
    | _, _ => .fail
  | .delete => match c.args.toList, c.argTypes.toList with
    | [x, y], t :: _ => (tq T t).bind fun i => match i.k with
      | .map kt vt => (tq T kt).bind fun ik => (tq T vt).bind fun iv => (ev x).bind fun m => (ev y).bind fun k => (keyQ k).bind fun kv => (delQ ik iv kv m).bind fun us => .ret (us ++ oneU o.dst .any)
      | _ => .fail
    | _, _ => .fail
  | .max => match c.args.toList with
    | [x, y] => (ev x).bind fun x => (ev y).bind fun y => (mmQ max x y).bind (one o.dst)
    | _ => .fail
  | .min => match c.args.toList with
    | [x, y] => (ev x).bind fun x => (ev y).bind fun y => (mmQ min x y).bind (one o.dst)
    | _ => .fail
  | _ => .fail
/-- The function that a value names. -/
def fnQ : AV → Q Nat
  | .c (.d (.v (.func (.func f) a b))) => .req (a = #[] ∧ b = #[]) (.ret f)
  | _ => .fail
theorem fnQ_ok {G : Gh} {s : St} {w : World} {v : AV} {u : Value} {K : Nat → Prop} (hv : AVr G s w v u) (hq : (fnQ v).wp s K) : ∃ f : FuncId, u = .func (.func f) #[] #[] ∧ K f := by
  unfold fnQ at hq
  split at hq
  · obtain ⟨⟨rfl, rfl⟩, hq⟩ := hq
    simp only [AVr, ACr, DVr] at hv
    exact ⟨_, hv.1, hq⟩
  · exact hq.elim
/-- Which arguments are nil pointers: each such kind of call has a text of its own, under a number of its own. -/
def kindV : AV → Nat
  | .c (.d (.v (.pointer none))) => 1
  | .c (.d (.it t _)) => 2 + t
  | _ => 0
def nilMask : List AV → Nat
  | [] => 0
  | v :: vs => kindV v + 5000 * nilMask vs
def callsQ (T : TypeId → Option TI) (Γ : List (Nat × FSpec)) (o : Oper) (c : Call) : Q (List Upd) := match c.callee with
  | .value x => (ev x).bind fun v => (fnQ v).bind fun f => (evs c.args.toList).bind fun xs => .req (f < 1000000) (match look Γ (f + nilMask xs * 1000000) with
    | some S => match S.sp with
      | .none => callQ S o c
      | sp => spQ sp o c
    | none => .fail)
  | .builtin b => builtQ T b o c
  | _ => .fail
section
variable {P : Program} {T : TypeId → Option TI} {o : Oper}
theorem toList_two {α : Type} {xs : Array α} {x y : α} (h : xs.toList = [x, y]) : xs = #[x, y] := by
  cases xs; simp only at h; subst h; rfl
theorem len_run {t : TypeId} {d : TypeDesc} (hu : P.underlying t = some d) (ty : TypeId) (v : Value) (w : World) (n : Nat) (h : (d = .string ∧ ∃ b : ByteArray, v = .string b ∧ n = b.size) ∨ (∃ e, d = .slice e) ∧ ∃ A c, v = .slice A n c) :
    (Builtin.len_ #[t] ty #[v]).run P w = .ok (.int .i64 (n : Int)) w := by
  rcases h with ⟨rfl, b, rfl, rfl⟩ | ⟨⟨e, rfl⟩, A, c, rfl⟩ <;> simp [Builtin.len_, run_underlying hu, goInt]
theorem mm_ok {f : Int → Int → Int} {G : Gh} {s : St} {w : World} {x y : AV} {u v : Value} {K : List Upd → Prop} (hx : AVr G s w x u) (hy : AVr G s w y v) (hq : (mmQ f x y).wp s fun z => (one o.dst z).wp s K) :
    ∃ k a k' b, u = .int k a ∧ v = .int k' b ∧ K (oneU o.dst (.c (.d (.v (.int k (f a b)))))) := by
  unfold mmQ at hq
  split at hq
  · rename_i k a k' b
    simp only [AVr, ACr, DVr] at hx hy
    exact ⟨k, a, k', b, hx.1, hy.1, hq⟩
  · exact hq.elim
theorem built_ok (hT : ∀ t i, T t = some i → TOk P t i) {b : Builtin} {c : Call} (ho : o.op = .call c) (hc : c.callee = .builtin b) : OpOk P o (builtQ T b o c) := by
  intro W0 M s a w K Q' hd hR hq
  obtain ⟨G, h⟩ := hR
  have hexec : ∀ (args : List Operand), c.args = args.toArray → ∀ r w', (∀ consts, (Go.builtin b c.argTypes o.type consts (args.map a.eval).toArray).run P w = .ok r w') → (execOp a.eval o).run P w = .ok r w' := fun args ha r w' hb => by
    unfold execOp
    rw [ho]
    simp only [resolve, hc, ha]
    simp [invoke]
    exact hb _
  unfold builtQ at hq
  split at hq
  · split at hq
    · rename_i x t hx ht
      obtain ⟨i, hi, hq1⟩ := ofOpt_ok (by rw [Q.wp_bind] at hq; exact hq)
      rw [Q.wp_bind] at hq1
      obtain ⟨v, hq2, hv⟩ := ev_ok h hq1
      rw [Q.wp_bind] at hq2
      have hargs := toList_one hx
      have hty := toList_one ht
      obtain ⟨d, hu, hk⟩ := (hT t i hi).und
      have fin : ∀ n : Nat, one o.dst (.c (.d (.v (.int .i64 (n : Int))))) = .ret (oneU o.dst (.c (.d (.v (.int .i64 (n : Int)))))) := fun _ => rfl
      have fin2 : ∀ n : Nat, ((d = .string ∧ ∃ b : ByteArray, a.eval x = .string b ∧ n = b.size) ∨ (∃ e, d = .slice e) ∧ ∃ A c, a.eval x = .slice A n c) → K (oneU o.dst (.c (.d (.v (.int .i64 (n : Int)))))) → Does P W0 M s o a w K Q' := fun n hn hK => by
        refine ok_one (v := .int .i64 (n : Int)) h hd ?_ hK (hexec [x] hargs (.value (.int .i64 (n : Int))) w fun consts => ?_)
        · simp only [AVr, ACr, DVr]
          exact ⟨trivial, rfl⟩
        · have := len_run hu o.type (a.eval x) w n hn
          rw [hty]
          simp [Go.builtin, this]
      unfold lenOfQ at hq2
      split at hq2
      · rename_i e hki
        rw [hki] at hk
        obtain ⟨A, n, cc, hv', hK⟩ := len_ok h hv hq2
        exact fin2 n (.inr ⟨⟨e, hk⟩, A, cc, hv'⟩) hK
      · rename_i hki
        rw [hki] at hk
        unfold strLenQ at hq2
        split at hq2
        · rename_i str
          simp only [AVr, ACr, DVr] at hv
          exact fin2 str.size (.inl ⟨hk, str, hv.1, rfl⟩) hq2
        · exact hq2.elim
      · rename_i kt vt hki
        rw [hki] at hk
        obtain ⟨g, en, ck, hv', hh, hK⟩ := mapLen_ok h hv hq2
        refine ok_one (v := .int .i64 (en.size : Int)) h hd ?_ hK (hexec [x] hargs (.value (.int .i64 (en.size : Int))) w fun consts => ?_)
        · simp only [AVr, ACr, DVr]
          exact ⟨trivial, rfl⟩
        · have := mapLen_run (P := P) hk hu o.type hh
          rw [hty]
          simp [Go.builtin, hv', this]
      · exact hq2.elim
    · exact hq.elim
  · split at hq
    · rename_i x y t t' hx ht
      obtain ⟨i, hi, hq1⟩ := ofOpt_ok (by rw [Q.wp_bind] at hq; exact hq)
      clear hq
      split at hq1
      · rename_i e hki
        obtain ⟨ie, hie, hq2⟩ := ofOpt_ok (by rw [Q.wp_bind] at hq1; exact hq1)
        clear hq1
        obtain ⟨d, hdd, hq3⟩ := ofOpt_ok (by rw [Q.wp_bind] at hq2; exact hq2)
        clear hq2
        obtain ⟨⟨rfl, hz0⟩, hq4⟩ := hq3
        rw [Q.wp_bind] at hq4
        obtain ⟨v, hq5, hv⟩ := ev_ok h hq4
        clear hq4
        rw [Q.wp_bind] at hq5
        obtain ⟨u, hq6, hu⟩ := ev_ok h hq5
        clear hq5
        split at hq6
        · obtain ⟨dd, hun, hk⟩ := (hT t i hi).und
          rw [hki] at hk
          subst hk
          refine app_ok (hT e ie hie) hz0 hun h hdd (hd d hdd) (cell_one hv) (cell_one hu) hq6 fun r w' hr => hexec [x, y] (toList_two hx) _ _ fun consts => ?_
          rw [toList_two ht]
          simp [Go.builtin, hr]
        · exact hq6.elim
      · exact hq1.elim
    · exact hq.elim
  · split at hq
    · rename_i x y t ts hx ht
      rw [Q.wp_bind] at hq
      obtain ⟨i, hi, hq1⟩ := tq_ok hq
      clear hq
      obtain ⟨dd, hun, hk⟩ := (hT t i hi).und
      split at hq1
      · rename_i kt vt hki
        rw [hki] at hk
        simp only at hk
        subst hk
        simp only [Q.wp_bind] at hq1
        obtain ⟨ik, hik, hq2⟩ := tq_ok hq1
        obtain ⟨iv, hiv, hq3⟩ := tq_ok hq2
        obtain ⟨m, hq4, hm⟩ := ev_ok h hq3
        obtain ⟨k, hq5, hkv⟩ := ev_ok h hq4
        have hq6 := keyQ_ok hkv hq5
        obtain ⟨us, w', hK, hrun, hn, hR'⟩ := del_ok hun (hT kt ik hik) h hm hq6
        refine wp_value (w' := w') (v := .tuple #[]) (hexec [x, y] (toList_two hx) _ _ fun consts => ?_) ⟨_, hK, ?_⟩
        · have : c.argTypes[0]? = some t := by
            rw [← Array.getElem?_toList, ht]; rfl
          simp [Go.builtin, hrun c.argTypes o.type this]
        · rw [St.app_append]
          obtain ⟨G', hR'⟩ := hR'
          exact hR'.putOne (fun d hdd => by rw [hn]; exact hd d hdd) (by simp only [AVr])
      · exact hq1.elim
    · exact hq.elim
  · split at hq
    · rename_i x y hx
      rw [Q.wp_bind] at hq
      obtain ⟨v, hq1, hv⟩ := ev_ok h hq
      clear hq
      rw [Q.wp_bind] at hq1
      obtain ⟨u, hq2, hu⟩ := ev_ok h hq1
      clear hq1
      rw [Q.wp_bind] at hq2
      obtain ⟨k, a', k', b', e1, e2, hK⟩ := mm_ok hv hu hq2
      refine ok_one (v := .int k (max a' b')) h hd ?_ hK (hexec [x, y] (toList_two hx) _ _ fun consts => ?_)
      · simp only [AVr, ACr, DVr]
        exact ⟨trivial, rfl⟩
      · simp only [List.map_cons, List.map_nil, e1, e2]
        have e3 : (if b' > a' then b' else a') = max a' b' := by simp only [Int.max_def]; split <;> split <;> omega
        simp [Go.builtin, Builtin.max_, Builtin.max2, e3]
    · exact hq.elim
  · split at hq
    · rename_i x y hx
      rw [Q.wp_bind] at hq
      obtain ⟨v, hq1, hv⟩ := ev_ok h hq
      clear hq
      rw [Q.wp_bind] at hq1
      obtain ⟨u, hq2, hu⟩ := ev_ok h hq1
      clear hq1
      rw [Q.wp_bind] at hq2
      obtain ⟨k, a', k', b', e1, e2, hK⟩ := mm_ok hv hu hq2
      refine ok_one (v := .int k (min a' b')) h hd ?_ hK (hexec [x, y] (toList_two hx) _ _ fun consts => ?_)
      · simp only [AVr, ACr, DVr]
        exact ⟨trivial, rfl⟩
      · simp only [List.map_cons, List.map_nil, e1, e2]
        have e3 : (if b' < a' then b' else a') = min a' b' := by simp only [Int.min_def]; split <;> split <;> omega
        simp [Go.builtin, Builtin.min_, Builtin.min2, e3]
    · exact hq.elim
  · exact hq.elim
theorem callsQ_ok (hT : ∀ t i, T t = some i → TOk P t i) {Γ : List (Nat × FSpec)} (hΓ : ∀ p ∈ Γ, FnOk P (p.1 % 1000000) p.2) (o : Oper) (c : Call) (ho : o.op = .call c) : OpOk P o (callsQ T Γ o c) := by
  unfold callsQ
  split
  · rename_i x hc
    intro W0 M s a w K Q' hd hR hq
    obtain ⟨G, h⟩ := hR
    rw [Q.wp_bind] at hq
    obtain ⟨v, hq, hv⟩ := ev_ok h hq
    rw [Q.wp_bind] at hq
    obtain ⟨f, hf, hq⟩ := fnQ_ok hv hq
    rw [Q.wp_bind] at hq
    obtain ⟨xs, hq, _⟩ := evs_ok h hq
    obtain ⟨hlt, hq⟩ := hq
    split at hq
    · rename_i S hS
      have hF : FnOk P f S := by
        have := hΓ _ (look_mem hS)
        simp only [Nat.add_mul_mod_self_right] at this
        rw [Nat.mod_eq_of_lt hlt] at this
        exact this
      split at hq
      · exact call_does ho hc hf hF hd ⟨G, h⟩ hq
      · rename_i sp hne
        exact sp_does ho hc hf hF rfl hd ⟨G, h⟩ hq
    · exact hq.elim
  · rename_i b hc
    exact built_ok hT ho hc
  · intro W0 M s a w K Q' hd hR hq; exact hq.elim
end
end Go.Proofs.YtgfmnpbcbpobbaaDoor.Am
/- An abstract machine over plain data: its evaluation. No conditions. -/
namespace Go.Proofs.YtgfmnpbcbpobbaaDoor.Am
open Go

theorem upd_app {α : Type} (f : Nat → α) (k : Nat) (x : α) (j : Nat) : upd f k x j = if j = k then x else f j := rfl
def contR (T : TypeId → Option TI) (cq : Oper → Call → Q (List Upd)) (l rest : List Oper) (K : St → Prop) (s : St) (us : List Upd) : Prop := wpR T cq l rest (s.app us) K
section
variable (T : TypeId → Option TI) (cq : Oper → Call → Q (List Upd))
theorem wpR_nil (l : List Oper) (s : St) (K : St → Prop) : wpR T cq l [] s K = K s := rfl
theorem wpR_cons (l : List Oper) (o : Oper) (rest : List Oper) (s : St) (K : St → Prop) : wpR T cq l (o :: rest) s K = wpO T cq l o s (contR T cq l rest K s) := rfl
theorem contR_eq (l rest : List Oper) (K : St → Prop) (s : St) (us : List Upd) : contR T cq l rest K s us = wpR T cq l rest (s.app us) K := rfl
theorem allLen_nil (z : Nat) : allLen z [] = True := by simp [allLen]
end
theorem look_map {α β : Type} (f : α → β) : ∀ (l : List (Nat × α)) (k : Nat), (look l k).map f = look (l.map fun p => (p.1, f p.2)) k
  | [], _ => rfl
  | (j, x) :: l, k => by
    simp only [look, List.map_cons]
    split
    · rfl
    · exact look_map f l k
theorem ib_add (k : IntKind) (a b : Int) : intBin .add k a b = .ret (.int k (k.wrap (a + b))) := rfl
theorem ib_sub (k : IntKind) (a b : Int) : intBin .sub k a b = .ret (.int k (k.wrap (a - b))) := rfl
theorem ib_mul (k : IntKind) (a b : Int) : intBin .mul k a b = .ret (.int k (k.wrap (a * b))) := rfl
theorem ib_quo (k : IntKind) (a b : Int) : intBin .quo k a b = .req (b ≠ 0) (.ret (.int k (k.wrap (a.tdiv b)))) := rfl
theorem ib_rem (k : IntKind) (a b : Int) : intBin .rem k a b = .req (b ≠ 0) (.ret (.int k (a.tmod b))) := rfl
theorem ib_and (k : IntKind) (a b : Int) : intBin .and k a b = .ret (.int k (bits .and k a b)) := rfl
theorem ib_or (k : IntKind) (a b : Int) : intBin .or k a b = .ret (.int k (bits .or k a b)) := rfl
theorem ib_xor (k : IntKind) (a b : Int) : intBin .xor k a b = .ret (.int k (bits .xor k a b)) := rfl
theorem ib_andNot (k : IntKind) (a b : Int) : intBin .andNot k a b = .ret (.int k (bits .andNot k a b)) := rfl
theorem ib_eql (k : IntKind) (a b : Int) : intBin .eql k a b = .ret (.bool (decide (a = b))) := rfl
theorem ib_neq (k : IntKind) (a b : Int) : intBin .neq k a b = .ret (.bool (!decide (a = b))) := rfl
theorem ib_lss (k : IntKind) (a b : Int) : intBin .lss k a b = .ret (.bool (decide (a < b))) := rfl
theorem ib_leq (k : IntKind) (a b : Int) : intBin .leq k a b = .ret (.bool (decide (a ≤ b))) := rfl
theorem ib_gtr (k : IntKind) (a b : Int) : intBin .gtr k a b = .ret (.bool (decide (b < a))) := rfl
theorem ib_geq (k : IntKind) (a b : Int) : intBin .geq k a b = .ret (.bool (decide (b ≤ a))) := rfl
theorem fdiv_pow (a : Int) (m : Nat) : a.fdiv (2 ^ m) = a / 2 ^ m := Int.fdiv_eq_ediv_of_nonneg a (Int.le_of_lt (Int.pow_pos (by decide)))
theorem sh_shr (k : IntKind) (a b : Int) : shiftQ .shr k a b = .req (0 ≤ b) (.ret (.int k (a / (2 ^ (min b.toNat k.bits))))) := by rw [← fdiv_pow]; rfl
theorem sh_shl (k : IntKind) (a b : Int) : shiftQ .shl k a b = .req (0 ≤ b) (.ret (.int k (k.wrap (a * 2 ^ (min b.toNat k.bits))))) := rfl
/-- Where the boxes and slices came from does not matter. -/
theorem stOf_eq {n : Nat} {t : List (Nat × AV)} {b b' : List (Nat × Nat × List AC)} {r r' : List (Nat × Option Nat × Row)} (hb : b.map (fun p => (p.1, p.2.2)) = b'.map (fun p => (p.1, p.2.2))) (hr : r.map (fun p => (p.1, p.2.2)) = r'.map (fun p => (p.1, p.2.2))) : stOf n t b r = stOf n t b' r' := by
  have e1 : ∀ k, (look b k).map (·.2) = (look b' k).map (·.2) := fun k => by rw [look_map, look_map, hb]
  have e2 : ∀ k, (look r k).map (·.2) = (look r' k).map (·.2) := fun k => by rw [look_map, look_map, hr]
  simp only [stOf, e1, e2]
def contD (T : TypeId → Option TI) (cq : Oper → Call → Q (List Upd)) (l rest : List Oper) (tr : List (List Part × List Part)) (K : St → List (List Part × List Part) → Prop) (s : St) (us : List Upd) (rs : List Part) : Prop := wpD T cq l rest (s.app us) (tr ++ [(rs, us.map Upd.part)]) K
section
variable (T : TypeId → Option TI) (cq : Oper → Call → Q (List Upd))
theorem wpD_nil (l : List Oper) (s : St) (tr : List (List Part × List Part)) (K : St → List (List Part × List Part) → Prop) : wpD T cq l [] s tr K = K s tr := rfl
theorem wpD_cons (l : List Oper) (o : Oper) (rest : List Oper) (s : St) (tr : List (List Part × List Part)) (K : St → List (List Part × List Part) → Prop) : wpD T cq l (o :: rest) s tr K = (opD T cq l o).wpt s [] (contD T cq l rest tr K s) := rfl
theorem contD_eq (l rest : List Oper) (tr : List (List Part × List Part)) (K : St → List (List Part × List Part) → Prop) (s : St) (us : List Upd) (rs : List Part) : contD T cq l rest tr K s us rs = wpD T cq l rest (s.app us) (tr ++ [(rs, us.map Upd.part)]) K := rfl
end
section
variable {P : Program} {T : TypeId → Option TI} {cq : Oper → Call → Q (List Upd)} {K : AX → St → Prop} {s : St}
theorem region_any' (hT : ∀ t i, T t = some i → TOk P t i) (hcq : ∀ o c, o.op = .call c → OpOk P o (cq o c)) (hm : P.follows .mixedOrders = true) {id : Nat} {l : List Oper} (hd : (l.all (dstOk s.n)) = true)
    (h : ∀ l', l' = l → ∀ K', K' = K .normal → wpD T cq l' l s [] fun s' tr => indepB l' tr = true ∧ K' s') : Tri P (.region id l.toArray true) K s := region_any hT hcq hm hd (h l rfl _ rfl)
/-- What follows is kept behind a name. -/
theorem tri_seq' {x y : Code} (h : ∀ c, c = y → Tri P x (seqK P c K) s) : Tri P (.seq x y) K s := tri_seq (h y rfl)
theorem tri_region' (hT : ∀ t i, T t = some i → TOk P t i) (hcq : ∀ o c, o.op = .call c → OpOk P o (cq o c)) {id : Nat} {l : List Oper} (hd : (l.all (dstOk s.n)) = true) (h : ∀ l', l' = l → ∀ K', K' = K .normal → wpR T cq l' l s K') : Tri P (.region id l.toArray false) K s := tri_region hT hcq hd (h l rfl _ rfl)
theorem tri_loop' (I : Nat → St → Prop) {n0 : Nat} {s0 : St} {c : Code} (h0 : Le s s0) (hi : I n0 s0) (h : ∀ n s, I n s → ∀ K', K' = loopK n I K → Tri P c K' s) : Tri P (.loop c) K s := tri_loop I h0 hi fun n s hi => h n s hi _ rfl
theorem stOf_n (n : Nat) (t : List (Nat × AV)) (b : List (Nat × Nat × List AC)) (r : List (Nat × Option Nat × Row)) : (stOf n t b r).n = n := rfl
theorem stOf_t (n : Nat) (t : List (Nat × AV)) (b : List (Nat × Nat × List AC)) (r : List (Nat × Option Nat × Row)) (k : Nat) : (stOf n t b r).t k = ⟨decide (k < n), (look t k).getD .any⟩ := rfl
theorem stOf_b (n : Nat) (t : List (Nat × AV)) (b : List (Nat × Nat × List AC)) (r : List (Nat × Option Nat × Row)) (k : Nat) : (stOf n t b r).b k = ⟨0, (look b k).map (·.2)⟩ := rfl
theorem stOf_r (n : Nat) (t : List (Nat × AV)) (b : List (Nat × Nat × List AC)) (r : List (Nat × Option Nat × Row)) (k : Nat) : (stOf n t b r).r k = ⟨0, (look r k).map (·.2)⟩ := rfl
theorem seqK_normal (y : Code) (K : AX → St → Prop) (s : St) : seqK P y K .normal s = Tri P y K s := rfl
theorem seqK_exit (y : Code) (K : AX → St → Prop) (i : Nat) (s : St) : seqK P y K (.exit i) s = K (.exit i) s := rfl
theorem seqK_ret (y : Code) (K : AX → St → Prop) (s : St) : seqK P y K .ret s = K .ret s := rfl
theorem blkK_normal (id : Nat) (K : AX → St → Prop) (s : St) : blkK id K .normal s = K .normal s := rfl
theorem blkK_ret (id : Nat) (K : AX → St → Prop) (s : St) : blkK id K .ret s = K .ret s := rfl
theorem blkK_exit (id : Nat) (K : AX → St → Prop) (i : Nat) (s : St) : blkK id K (.exit i) s = if i = id then K .normal s else K (.exit i) s := rfl
theorem loopK_normal (n : Nat) (I : Nat → St → Prop) (K : AX → St → Prop) (s : St) : loopK n I K .normal s = ∃ m s', m < n ∧ Le s s' ∧ I m s' := rfl
theorem loopK_exit (n : Nat) (I : Nat → St → Prop) (K : AX → St → Prop) (i : Nat) (s : St) : loopK n I K (.exit i) s = K (.exit i) s := rfl
theorem loopK_ret (n : Nat) (I : Nat → St → Prop) (K : AX → St → Prop) (s : St) : loopK n I K .ret s = K .ret s := rfl
end
/-! ### Data -/
def bytesD (l : List UInt8) : DV := .sl (l.map byteC)
theorem unByte_byteC (x : UInt8) : unByte (byteC x) = x := by simp [unByte, byteC]
theorem map_unByte (l : List UInt8) : (l.map byteC).map unByte = l := by
  rw [List.map_map]
  conv => rhs; rw [← List.map_id l]
  exact List.map_congr_left fun x _ => unByte_byteC x
theorem allLen_bytes (l : List UInt8) : allLen 1 (l.map byteC) = True := by
  simp [allLen, byteC]
theorem allLen_cons (z : Nat) (e : List DV) (es : List (List DV)) : allLen z (e :: es) = (e.length = z ∧ allLen z es) := by simp [allLen]
theorem allLen_app (z : Nat) (e es : List (List DV)) : allLen z (e ++ es) = (allLen z e ∧ allLen z es) := by
  simp only [allLen, List.mem_append, eq_iff_iff]
  constructor
  · exact fun h => ⟨fun x hx => h x (.inl hx), fun x hx => h x (.inr hx)⟩
  · rintro ⟨h1, h2⟩ x (hx | hx)
    · exact h1 x hx
    · exact h2 x hx
theorem getD_map_lt {α β : Type} (f : α → β) {l : List α} {i : Nat} (h : i < l.length) (d : β) (d' : α) : (l.map f).getD i d = f (l.getD i d') := by
  simp only [List.getD_eq_getElem?_getD, List.getElem?_map, List.getElem?_eq_getElem h, Option.map_some, Option.getD_some]
/-- What a function does to data. -/
def spec {α : Type} (sh : List ASh) (dec : List OA → α) (enc : α → List OA) (cond : α → Prop) (post : α → List OA) (res : α → List OA) : FSpec :=
  ⟨sh, fun xs => xs = enc (dec xs) ∧ cond (dec xs), fun xs => post (dec xs), fun xs => res (dec xs), .none⟩
theorem fnOk_spec {P : Program} {T : TypeId → Option TI} {f : FuncId} {fn : Func} {c : Code} {α : Type} {sh : List ASh} {dec : List OA → α} {enc : α → List OA} {cond : α → Prop} {post : α → List OA} {res : α → List OA} (hT : ∀ t i, T t = some i → TOk P t i) (hf : P.funcs[f]? = some fn) (hb : fn.body = some c) (hname : (fn.name == "runtime.NumGoroutine") = false) (B : Nat)
    (h : ∀ a, cond a → (enc a).length ≤ fn.ntmps ∧ ∃ sh', (mkAs B (enc a)).wp (stOf fn.ntmps [] [] []) fun k => Tri P c (endK T fn.ntmps (topAVs (enc a) k.avs).length fn.results.toList sh' (post a) (res a)) ((((stOf fn.ntmps [] [] []).app k.us).app (tU true 0 k.avs)).app (tU false fn.ntmps (topAVs (enc a) k.avs)))) : FnOk P f (spec sh dec enc cond post res) := by
  refine fnOk hT hf hb hname B fun xs hx => ?_
  obtain ⟨e, hc⟩ := hx
  have := h (dec xs) hc
  rw [← e] at this
  exact this
theorem tri_le' {P : Program} {c : Code} {K : AX → St → Prop} {s : St} {n : Nat} {t : List (Nat × AV)} {b : List (Nat × Nat × List AC)} {r : List (Nat × Option Nat × Row)} (h : Tri P c K (stOf n t b r)) (hn : s.n = n) (ht : slotsLe s b r t) (hb : boxesLe s b r b) (hr : rowsLe s r) (hbn : (b.map (·.2.1)).Nodup) (hrn : (r.filterMap (·.2.1)).Nodup) : Tri P c K s := tri_le (le_of hn ht hb hr hbn hrn) h
end Go.Proofs.YtgfmnpbcbpobbaaDoor.Am
