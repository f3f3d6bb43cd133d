/- Decoding, on plain data: the reference's reading. No conditions. -/
import Derived.Test.YtgfmnpbcbpobbaaDoorPDec
namespace Go.Proofs.YtgfmnpbcbpobbaaDoor.Am
open Go

theorem ref_read (l : List Fld) (hl : l.length ≤ 2000) (hb : ∀ f ∈ l, f.byt.length ≤ 10000) : Ok (F_mempoolref10_read (l.map toF)) fun r => r.2 = l.all (fun f => decide (okTx f)) ∧ (r.2 = true → r.1 = txOf l) := by
  have hm : (l.map toF).length = l.length := List.length_map ..
  unfold F_mempoolref10_read F_mempoolref10_read_l1s
  refine ok_range (l.map toF) (fun i (t : D_api_Tx) => (l.map toF, (((l.map toF).length : Nat) : Int), ((i : Nat) : Int), ([] : List UInt8), (0 : Int), (0 : Int), (0 : Int), ([] : List UInt8), t.1, t.2.1, t.2.2.1, t.2.2.2.1, t.2.2.2.2.1, t.2.2.2.2.2)) (fun i t => (∀ j (hj : j < l.length), j < i → okTx l[j]) ∧ (l.drop i).foldl rdTx t = txOf l ∧ t.2.2.2.2.2.length ≤ i) (fun i t hi hv => ?_) (fun t hv => ?_) (b0 := zeroTx) ⟨fun j hj h => by omega, rfl, by simp [zeroTx]⟩ (by omega)
  · obtain ⟨hv1, hv2, hlt⟩ := hv
    have hi' : i < l.length := by omega
    have q3 : List.getD (l.map toF) i d_api_Field = toF l[i] := by rw [getD_lt hi, List.getElem_map]
    rw [List.drop_eq_getElem_cons hi', List.foldl_cons] at hv2
    have htr := ref_transfer (hb _ (List.getElem_mem hi'))
    have hfi : (l.drop (i + 1)).foldl rdTx (rdTx t l[i]) = txOf l := hv2
    clear hv2
    have no : ¬ okTx l[i] → ∀ y : D_api_Tx, (false = l.all (fun f => decide (okTx f)) ∧ (false = true → y = txOf l)) := fun hn y => by
      rw [all_no hi' (by simpa using hn)]; exact ⟨rfl, fun h => by cases h⟩
    have yes : okTx l[i] → (rdTx t l[i]).2.2.2.2.2.length ≤ i + 1 → ((∀ j (hj : j < l.length), j < i + 1 → okTx l[j]) ∧ (l.drop (i + 1)).foldl rdTx (rdTx t l[i]) = txOf l ∧ (rdTx t l[i]).2.2.2.2.2.length ≤ i + 1) := fun ho h => by
      refine ⟨fun j hj hlt => ?_, hfi, h⟩
      by_cases e : j = i
      · subst e; exact ho
      · exact hv1 j hj (by omega)
    generalize hf : l[i] = f at *
    have qn : (toF f).1 = f.num := rfl
    have qk : (toF f).2.1 = f.kind := rfl
    have qb : (toF f).2.2.2 = f.byt := rfl
    have qv : (toF f).2.2.1 = ((f.val : Nat) : Int) := rfl
    obtain ⟨G, hG⟩ : ∃ G : Option ((List D_api_Field × Int × Int × List UInt8 × Int × Int × Int × List UInt8 × List UInt8 × Int × Int × Int × List UInt8 × List D_api_Transfer) ⊕ (D_api_Tx × Bool)) → Prop, G = fun o => Ok o (Nxt (fun r : D_api_Tx × Bool => r.2 = l.all (fun f => decide (okTx f)) ∧ (r.2 = true → r.1 = txOf l)) fun z => ∃ b', z = (l.map toF, (((l.map toF).length : Nat) : Int), ((i + 1 : Nat) : Int), ([] : List UInt8), (0 : Int), (0 : Int), (0 : Int), ([] : List UInt8), b'.1, b'.2.1, b'.2.2.1, b'.2.2.2.1, b'.2.2.2.2.1, b'.2.2.2.2.2) ∧ (∀ j (hj : j < l.length), j < i + 1 → okTx l[j]) ∧ (l.drop (i + 1)).foldl rdTx b' = txOf l ∧ b'.2.2.2.2.2.length ≤ i + 1) := ⟨_, rfl⟩
    have gno : ¬ okTx f → ∀ y : D_api_Tx, G (some (.inr (y, false))) := fun hn y => by rw [hG]; exact ⟨_, rfl, no hn y⟩
    have gyes : okTx f → ∀ y : D_api_Tx, y = rdTx t f → y.2.2.2.2.2.length ≤ i + 1 → G (some (.inl (l.map toF, (((l.map toF).length : Nat) : Int), ((i + 1 : Nat) : Int), ([] : List UInt8), (0 : Int), (0 : Int), (0 : Int), ([] : List UInt8), y.1, y.2.1, y.2.2.1, y.2.2.2.1, y.2.2.2.2.1, y.2.2.2.2.2))) := fun ho y hy hle => by
      subst hy
      rw [hG]
      exact ⟨_, rfl, rdTx t f, rfl, yes ho hle⟩
    have hw := wi_succ (i := i) (by omega)
    have c7 : ∀ v : Bool, (v = true ↔ (f.num = 6 ∧ f.kind = 2)) → ¬ (f.num = 1 ∧ f.kind = 2) → ¬ (f.num = 2 ∧ f.kind = 0) → ¬ (f.num = 3 ∧ f.kind = 0) → ¬ (f.num = 4 ∧ f.kind = 0) → ¬ (f.num = 5 ∧ f.kind = 2) → G (F_mempoolref10_read_c7 (l.map toF) (((l.map toF).length : Nat) : Int) ((i : Nat) : Int) v [] 0 0 0 [] t.1 t.2.1 t.2.2.1 t.2.2.2.1 t.2.2.2.2.1 (toF f) t.2.2.2.2.2) := by
      intro v hv n1 n2 n3 n4 n5
      unfold F_mempoolref10_read_c7
      cases v with
      | false =>
        rw [sel_f]
        refine gno ?_ _
        have : ¬ (f.num = 6 ∧ f.kind = 2) := fun h => by have := hv.2 h; cases this
        rintro (h | h | h | h | h | ⟨h, h', _⟩)
        · exact n1 h
        · exact n2 h
        · exact n3 h
        · exact n4 h
        · exact n5 h
        · exact this ⟨h, h'⟩
      | true =>
        have h6 := hv.1 rfl
        rw [sel_t, qb]
        obtain ⟨r, hr, r1, r2⟩ := htr
        rw [hr, Option.bind_some, hw]
        cases hb2 : refTr f.byt with
        | false =>
          rw [r1, hb2]
          refine gno ?_ t
          rintro (h | h | h | h | h | ⟨h, h', h''⟩)
          · exact n1 h
          · exact n2 h
          · exact n3 h
          · exact n4 h
          · exact n5 h
          · rw [hb2] at h''; cases h''
        | true =>
          rw [r1, hb2, r2 hb2, Bool.not_true, sel_f]
          have c : decide ((t.2.2.2.2.2.length + 1) * 24 ≤ LIM ∧ t.2.2.2.2.2.length + 1 ≤ LEN) = true := decide_eq_true ⟨by unfold LIM; omega, by unfold LEN; omega⟩
          rw [c, chk_t]
          refine gyes (.inr (.inr (.inr (.inr (.inr ⟨h6.1, h6.2, hb2⟩))))) (t.1, t.2.1, t.2.2.1, t.2.2.2.1, t.2.2.2.2.1, t.2.2.2.2.2 ++ [trOf f.byt]) ?_ ?_
          · unfold rdTx
            rw [if_neg (by omega), if_neg (by omega), if_neg (by omega), if_neg (by omega), if_neg (by omega), if_pos h6.1]
          · simp only [List.length_append, List.length_cons, List.length_nil]; omega
    have c6 : ∀ v : Bool, (v = true ↔ (f.num = 5 ∧ f.kind = 2)) → ¬ (f.num = 1 ∧ f.kind = 2) → ¬ (f.num = 2 ∧ f.kind = 0) → ¬ (f.num = 3 ∧ f.kind = 0) → ¬ (f.num = 4 ∧ f.kind = 0) → G (F_mempoolref10_read_c6 (l.map toF) (((l.map toF).length : Nat) : Int) ((i : Nat) : Int) v [] 0 0 0 [] t.1 t.2.1 t.2.2.1 t.2.2.2.1 t.2.2.2.2.1 (toF f) t.2.2.2.2.2) := by
      intro v hv n1 n2 n3 n4
      unfold F_mempoolref10_read_c6
      rw [qn, qk, qb, hw]
      cases v with
      | true =>
        have h6 := hv.1 rfl
        refine gyes (.inr (.inr (.inr (.inr (.inl h6))))) (t.1, t.2.1, t.2.2.1, t.2.2.2.1, f.byt, t.2.2.2.2.2) ?_ (Nat.le_succ_of_le hlt)
        unfold rdTx
        rw [if_neg (by omega), if_neg (by omega), if_neg (by omega), if_neg (by omega), if_pos h6.1]
      | false =>
        have n5 : ¬ (f.num = 5 ∧ f.kind = 2) := fun h => by have := hv.2 h; cases this
        rw [sel_f]
        by_cases h : f.num = 6
        · rw [decide_eq_true h, sel_t]
          exact c7 _ (by rw [decide_eq_true_eq]; exact ⟨fun q => ⟨h, q⟩, fun q => q.2⟩) n1 n2 n3 n4 n5
        · rw [decide_eq_false h, sel_f]
          exact c7 _ ⟨(fun q => by cases q), fun q => absurd q.1 h⟩ n1 n2 n3 n4 n5
    have c5 : ∀ v : Bool, (v = true ↔ (f.num = 4 ∧ f.kind = 0)) → ¬ (f.num = 1 ∧ f.kind = 2) → ¬ (f.num = 2 ∧ f.kind = 0) → ¬ (f.num = 3 ∧ f.kind = 0) → G (F_mempoolref10_read_c5 (l.map toF) (((l.map toF).length : Nat) : Int) ((i : Nat) : Int) v [] 0 0 0 [] t.1 t.2.1 t.2.2.1 t.2.2.2.1 t.2.2.2.2.1 (toF f) t.2.2.2.2.2) := by
      intro v hv n1 n2 n3
      unfold F_mempoolref10_read_c5
      rw [qn, qk, qv, hw]
      cases v with
      | true =>
        have h6 := hv.1 rfl
        refine gyes (.inr (.inr (.inr (.inl h6)))) (t.1, t.2.1, t.2.2.1, ((f.val : Nat) : Int), t.2.2.2.2.1, t.2.2.2.2.2) ?_ (Nat.le_succ_of_le hlt)
        unfold rdTx
        rw [if_neg (by omega), if_neg (by omega), if_neg (by omega), if_pos h6.1]
      | false =>
        have n4 : ¬ (f.num = 4 ∧ f.kind = 0) := fun h => by have := hv.2 h; cases this
        rw [sel_f]
        by_cases h : f.num = 5
        · rw [decide_eq_true h, sel_t]
          exact c6 _ (by rw [decide_eq_true_eq]; exact ⟨fun q => ⟨h, q⟩, fun q => q.2⟩) n1 n2 n3 n4
        · rw [decide_eq_false h, sel_f]
          exact c6 _ ⟨(fun q => by cases q), fun q => absurd q.1 h⟩ n1 n2 n3 n4
    have c4 : ∀ v : Bool, (v = true ↔ (f.num = 3 ∧ f.kind = 0)) → ¬ (f.num = 1 ∧ f.kind = 2) → ¬ (f.num = 2 ∧ f.kind = 0) → G (F_mempoolref10_read_c4 (l.map toF) (((l.map toF).length : Nat) : Int) ((i : Nat) : Int) v [] 0 0 0 [] t.1 t.2.1 t.2.2.1 t.2.2.2.1 t.2.2.2.2.1 (toF f) t.2.2.2.2.2) := by
      intro v hv n1 n2
      unfold F_mempoolref10_read_c4
      rw [qn, qk, qv, hw]
      cases v with
      | true =>
        have h6 := hv.1 rfl
        refine gyes (.inr (.inr (.inl h6))) (t.1, t.2.1, ((f.val : Nat) : Int), t.2.2.2.1, t.2.2.2.2.1, t.2.2.2.2.2) ?_ (Nat.le_succ_of_le hlt)
        unfold rdTx
        rw [if_neg (by omega), if_neg (by omega), if_pos h6.1]
      | false =>
        have n3 : ¬ (f.num = 3 ∧ f.kind = 0) := fun h => by have := hv.2 h; cases this
        rw [sel_f]
        by_cases h : f.num = 4
        · rw [decide_eq_true h, sel_t]
          exact c5 _ (by rw [decide_eq_true_eq]; exact ⟨fun q => ⟨h, q⟩, fun q => q.2⟩) n1 n2 n3
        · rw [decide_eq_false h, sel_f]
          exact c5 _ ⟨(fun q => by cases q), fun q => absurd q.1 h⟩ n1 n2 n3
    have c3 : ∀ v : Bool, (v = true ↔ (f.num = 2 ∧ f.kind = 0)) → ¬ (f.num = 1 ∧ f.kind = 2) → G (F_mempoolref10_read_c3 (l.map toF) (((l.map toF).length : Nat) : Int) ((i : Nat) : Int) v [] 0 0 0 [] t.1 t.2.1 t.2.2.1 t.2.2.2.1 t.2.2.2.2.1 (toF f) t.2.2.2.2.2) := by
      intro v hv n1
      unfold F_mempoolref10_read_c3
      rw [qn, qk, qv, hw]
      cases v with
      | true =>
        have h6 := hv.1 rfl
        refine gyes (.inr (.inl h6)) (t.1, ((f.val : Nat) : Int), t.2.2.1, t.2.2.2.1, t.2.2.2.2.1, t.2.2.2.2.2) ?_ (Nat.le_succ_of_le hlt)
        unfold rdTx
        rw [if_neg (by omega), if_pos h6.1]
      | false =>
        have n2 : ¬ (f.num = 2 ∧ f.kind = 0) := fun h => by have := hv.2 h; cases this
        rw [sel_f]
        by_cases h : f.num = 3
        · rw [decide_eq_true h, sel_t]
          exact c4 _ (by rw [decide_eq_true_eq]; exact ⟨fun q => ⟨h, q⟩, fun q => q.2⟩) n1 n2
        · rw [decide_eq_false h, sel_f]
          exact c4 _ ⟨(fun q => by cases q), fun q => absurd q.1 h⟩ n1 n2
    have c2 : ∀ v : Bool, (v = true ↔ (f.num = 1 ∧ f.kind = 2)) → G (F_mempoolref10_read_c2 (l.map toF) (((l.map toF).length : Nat) : Int) ((i : Nat) : Int) v [] 0 0 0 [] t.1 t.2.1 t.2.2.1 t.2.2.2.1 t.2.2.2.2.1 (toF f) t.2.2.2.2.2) := by
      intro v hv
      unfold F_mempoolref10_read_c2
      rw [qn, qk, qb, hw]
      cases v with
      | true =>
        have h6 := hv.1 rfl
        refine gyes (.inl h6) (f.byt, t.2.1, t.2.2.1, t.2.2.2.1, t.2.2.2.2.1, t.2.2.2.2.2) ?_ (Nat.le_succ_of_le hlt)
        unfold rdTx
        rw [if_pos h6.1]
      | false =>
        have n1 : ¬ (f.num = 1 ∧ f.kind = 2) := fun h => by have := hv.2 h; cases this
        rw [sel_f]
        by_cases h : f.num = 2
        · rw [decide_eq_true h, sel_t]
          exact c3 _ (by rw [decide_eq_true_eq]; exact ⟨fun q => ⟨h, q⟩, fun q => q.2⟩) n1
        · rw [decide_eq_false h, sel_f]
          exact c3 _ ⟨(fun q => by cases q), fun q => absurd q.1 h⟩ n1
    have fin : G (F_mempoolref10_read_l1 (l.map toF) (((l.map toF).length : Nat) : Int) ((i : Nat) : Int) [] 0 0 0 [] t.1 t.2.1 t.2.2.1 t.2.2.2.1 t.2.2.2.2.1 t.2.2.2.2.2) := by
      unfold F_mempoolref10_read_l1
      rw [decide_eq_true (show ((i : Nat) : Int) < (((l.map toF).length : Nat) : Int) by omega), sel_t, decide_eq_true (show (0 : Int) ≤ ((i : Nat) : Int) ∧ ((i : Nat) : Int) < (((l.map toF).length : Nat) : Int) by omega), chk_t, Int.toNat_natCast, q3, qn, qk]
      by_cases h : f.num = 1
      · rw [decide_eq_true h, sel_t]
        exact c2 _ (by rw [decide_eq_true_eq]; exact ⟨fun q => ⟨h, q⟩, fun q => q.2⟩)
      · rw [decide_eq_false h, sel_f]
        exact c2 _ ⟨(fun q => by cases q), fun q => absurd q.1 h⟩
    rw [hG] at fin
    exact fin
  · obtain ⟨hv1, hv2, _⟩ := hv
    rw [hm, List.drop_length] at hv2
    have hx : t = txOf l := hv2
    simp only [F_mempoolref10_read_l1, ok_sel, ok_chk, ok_some, nxt_inr, decide_eq_true_eq, decide_eq_false_iff_not, Int.toNat_natCast]
    refine ⟨fun hc => absurd hc (by omega), fun _ => ⟨?_, fun _ => hx⟩⟩
    exact (all_yes fun j hj => by simpa using hv1 j hj (by omega)).symm
theorem trF_okTr (x : D_api_Transfer) : (trF x).all (fun f => decide (okTr f)) = true := by
  rw [List.all_eq_true]
  intro f hf
  unfold trF fStr fNum at hf
  rw [decide_eq_true_eq]
  rcases List.mem_append.1 hf with hf | hf
  · split at hf
    · cases hf
    · simp only [List.mem_singleton] at hf; subst hf; exact .inl ⟨rfl, rfl⟩
  · split at hf
    · cases hf
    · simp only [List.mem_singleton] at hf; subst hf; exact .inr ⟨rfl, rfl⟩
theorem refTr_trF {x : D_api_Transfer} (h : TrS x) : refTr (encs (trF x)) = true := by
  have hs := trF_s h
  have hl : (trF x).length ≤ 2 := by unfold trF; rw [List.length_append]; have := fStr_len 1 x.1; have := fNum_len 2 x.2; omega
  have hf := flds_encs (trF x) (by omega) (fun f hf => ⟨(hs f hf).1, (hs f hf).2.1, by have := (hs f hf).2.2; unfold U64; omega⟩)
  unfold refTr
  rw [trOf_back h, hf]
  simp [trF_okTr x]
theorem str_okTx {n : Int} {s : List UInt8} (h : n = 1 ∨ n = 5) : ∀ f ∈ fStr n s, okTx f := by
  intro f hf
  unfold fStr at hf
  split at hf
  · cases hf
  · simp only [List.mem_singleton] at hf; subst hf
    rcases h with rfl | rfl
    · exact .inl ⟨rfl, rfl⟩
    · exact .inr (.inr (.inr (.inr (.inl ⟨rfl, rfl⟩))))
theorem num_okTx {n v : Int} (h : n = 2 ∨ n = 3 ∨ n = 4) : ∀ f ∈ fNum n v, okTx f := by
  intro f hf
  unfold fNum at hf
  split at hf
  · cases hf
  · simp only [List.mem_singleton] at hf; subst hf
    rcases h with rfl | rfl | rfl
    · exact .inr (.inl ⟨rfl, rfl⟩)
    · exact .inr (.inr (.inl ⟨rfl, rfl⟩))
    · exact .inr (.inr (.inr (.inl ⟨rfl, rfl⟩)))
theorem txF_okTx {t : D_api_Tx} (h : TxS t) : (txF t).all (fun f => decide (okTx f)) = true := by
  rw [List.all_eq_true]
  intro f hf
  rw [decide_eq_true_eq]
  unfold txF hdF at hf
  simp only [List.mem_append, List.mem_map] at hf
  rcases hf with (hf | hf | hf | hf | hf) | ⟨x, hx, rfl⟩
  · exact str_okTx (.inl rfl) f hf
  · exact num_okTx (.inl rfl) f hf
  · exact num_okTx (.inr (.inl rfl)) f hf
  · exact num_okTx (.inr (.inr rfl)) f hf
  · exact str_okTx (.inr rfl) f hf
  · exact .inr (.inr (.inr (.inr (.inr ⟨rfl, rfl, refTr_trF (h.2.2.2.2.2.2 x hx)⟩))))
theorem decode_ref {raw : List UInt8} (hraw : raw.length ≤ 10000000) : F_mempoolref10_DecodeTx raw = some (decT raw) := by
  rw [← ok_eq]
  unfold decT
  have hz : (([], (0 : Int), (0 : Int), (0 : Int), [], []) : D_api_Tx) = zeroTx := rfl
  by_cases h : 4096 < raw.length
  · rw [if_pos h]
    simp only [F_mempoolref10_DecodeTx, ok_sel, ok_bind, ok_some, decide_eq_true_eq, decide_eq_false_iff_not, Bool.not_eq_true', Bool.not_eq_false', hz]
    exact ⟨fun _ => trivial, fun hc => absurd hc (by omega)⟩
  · rw [if_neg h]
    have hs := raw_s (raw := raw) (by omega)
    have hf := fields_flds raw (by omega)
    rw [(FSm.fields_same raw (by omega)).1] at hf
    obtain ⟨r, hr, r1, r2⟩ := ref_read (flds raw).1 (by have := flds_len raw; omega) (fun f hf => by have := flds_facts raw f hf; omega)
    simp only [F_mempoolref10_DecodeTx, ok_sel, ok_bind, ok_some, decide_eq_true_eq, decide_eq_false_iff_not, Bool.not_eq_true', Bool.not_eq_false', hz, hf, hr]
    refine ⟨fun hc => absurd hc (by omega), fun _ => ⟨fun h1 => ?_, fun h1 => ⟨fun h2 => ?_, fun h2 => ?_⟩⟩⟩
    · rw [if_pos (by omega)]
    · rw [if_neg (by omega), if_neg (fun e => ?_)]
      have e2 := encs_inj (L := txF (txOf (flds raw).1)) (raw := raw) (fun f hf => by have := txF_s hs f hf; exact ⟨this.1, this.2.1, by have := this.2.2; unfold U64; omega⟩) e (by omega)
      have e3 := txF_okTx hs
      rw [← e2, ← r1, h2] at e3
      cases e3
    · have hx := r2 h2
      rw [hx]
      simp only [form_ok hs, F_mempoolref1_SameBytes, valid_ref hs.b, ok_some, decide_eq_true_eq, decide_eq_false_iff_not]
      refine ⟨fun h2 => ?_, fun h2 => ⟨fun h3 => ?_, fun h3 => ?_⟩⟩
      · rw [if_neg (by omega), if_neg h2]
      · rw [if_neg (by omega), if_pos h2, if_neg h3]
      · rw [if_neg (by omega), if_pos h2, if_pos h3]
end Go.Proofs.YtgfmnpbcbpobbaaDoor.Am
