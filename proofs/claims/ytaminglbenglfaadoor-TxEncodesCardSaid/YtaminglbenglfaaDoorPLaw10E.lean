/- Law 10, encodings, on plain data. No conditions. -/
import Derived.Test.YtaminglbenglfaaDoorPMadeN
import Derived.Test.YtaminglbenglfaaDoorFAllKmempoollaw10
namespace Go.Proofs.YtaminglbenglfaaDoor.Am
open Go

theorem encodes_l1 (L : List D_api_Tx) (hL : L.length = 3) (h : ∀ x ∈ L, TxB x ∧ TxN x) : Ok (F_mempoollaw10_TxEncodes_l1s 3 0 L) (· = true) := by
  unfold F_mempoollaw10_TxEncodes_l1s
  refine ok_range L (fun i (_ : Unit) => (3, ((i : Nat) : Int), L)) (fun i _ => i ≤ 3) (fun i _ hi hv => ?_) (fun _ hv => ?_) (b0 := ()) (by omega) (by omega)
  · have hx : List.getD L i d_api_Tx ∈ L := by rw [getD_lt hi]; exact List.getElem_mem hi
    obtain ⟨hb, hn⟩ := h _ hx
    generalize hq : List.getD L i d_api_Tx = x at *
    have hd : (encT x).2 = 0 → F_tx_Decode (encT x).1 = some (x, 0) := fun e => by
      obtain ⟨e1, e2, e3⟩ := encT_ok e
      rw [e2]; exact decode_written hb hn e1 e3
    simp only [F_mempoollaw10_TxEncodes_l1, ok_sel, ok_chk, ok_bind, ok_some, ok_map, nxt_inl, nxt_inr, decide_eq_true_eq, decide_eq_false_iff_not, Bool.not_eq_true', Bool.not_eq_false', Int.toNat_natCast, hq, encode_tx hb hn, encode_ref hb hn, F_mempoolref1_SameBytes, wi_succ (i := i) (by omega)]
    refine ⟨fun _ => ⟨by omega, by omega, fun h => absurd trivial h, fun _ => ⟨fun h => absurd trivial h, fun _ => ⟨fun e => ?_, fun _ => ⟨(), trivial, by omega⟩⟩⟩⟩, fun hc => absurd hc (by omega)⟩
    rw [hd e, ok_some]
    simp only [sametx_self hb, ok_some]
    exact ⟨fun h => absurd trivial h, fun _ => ⟨fun h => (by cases h), fun _ => ⟨(), trivial, by omega⟩⟩⟩
  · simp only [F_mempoollaw10_TxEncodes_l1, ok_sel, ok_chk, ok_bind, ok_some, ok_map, nxt_inl, nxt_inr, decide_eq_true_eq, decide_eq_false_iff_not, Bool.not_eq_true', Bool.not_eq_false', Int.toNat_natCast, hL]
    refine ⟨fun h => absurd h (by omega), fun _ => ?_⟩
    rw [T_mempoollaw10_known, ok_some]
theorem encodes_true (a0 : D_api_Tx) (a1 : List Int) (w0 : wfU U_api_Tx a0) (w1 : wfU (.sl (.int .i64)) a1) (z0 : szU U_api_Tx a0) (_z1 : szU (.sl (.int .i64)) a1) : F_mempoollaw10_TxEncodes a0 a1 = some true := by
  rw [← ok_eq]
  have hl : a1.length ≤ maxLen := w1.1
  obtain ⟨hb, h24⟩ := sz_tx z0
  have hn := wf_tx w0
  unfold F_mempoollaw10_TxEncodes
  rw [long10 hl, Option.bind_some, ok_sel]
  refine ⟨fun _ => by rw [T_mempoollaw10_known]; exact ⟨true, rfl, rfl⟩, fun _ => ?_⟩
  rw [ok_bind]
  refine (big10 hb).mono fun r3 _ => ?_
  rw [ok_sel]
  refine ⟨fun _ => by rw [T_mempoollaw10_known]; exact ⟨true, rfl, rfl⟩, fun _ => ?_⟩
  rw [ok_bind]
  refine (made_sn hb hn h24).mono fun r5 h5 => ?_
  refine encodes_l1 _ rfl fun x hx => ?_
  simp only [List.mem_cons, List.not_mem_nil, or_false] at hx
  rcases hx with rfl | rfl | rfl
  · exact ⟨hb, hn⟩
  · exact ⟨h5.1.b, h5.1.n⟩
  · exact ⟨h5.2.1, h5.2.2⟩
end Go.Proofs.YtaminglbenglfaaDoor.Am
