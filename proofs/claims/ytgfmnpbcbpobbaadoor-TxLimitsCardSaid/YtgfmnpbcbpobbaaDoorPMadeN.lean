/- Transactions that are made, with their numbers' ranges. No conditions. -/
import Derived.Test.YtgfmnpbcbpobbaaDoorPCodec
namespace Go.Proofs.YtgfmnpbcbpobbaaDoor.Am
open Go

theorem TxM.n {t : D_api_Tx} (h : TxM t) : TxN t := by
  obtain ⟨h1, h2, h3, h4, h5, h6, h7⟩ := h
  exact ⟨h2, ⟨by omega, by omega⟩, h4, fun x hx => by have := (h7 x hx).2; exact ⟨by omega, by omega⟩⟩
theorem inK_u64 {n : Int} (h : inK .u64 n) : u64R n := by
  unfold inK at h
  simp [IntKind.min, IntKind.max, IntKind.signed, IntKind.bits] at h
  exact ⟨h.1, by omega⟩
theorem wf_tx {t : D_api_Tx} (h : wfU U_api_Tx t) : TxN t := by
  obtain ⟨_, h1, h2, h3, _, h4, h5⟩ := h
  exact ⟨inK_u64 h1, inK_u64 h2, inK_u64 h3, fun x hx => inK_u64 (h5 x hx).2⟩
theorem made_sn {L : List Int} {t : D_api_Tx} (h : TxB t) (hn : TxN t) (h24 : t.2.2.2.2.2.length * 24 ≤ reachBytes) : Ok (F_mempoollaw10_made L t) fun r => TxM r.1 ∧ TxB r.2 ∧ TxN r.2 := by
  simp only [reachBytes] at h24
  unfold F_mempoollaw10_made
  rw [from_ok, Option.bind_some, ok_bind]
  refine (accounts_s (numS0 L) (by omega) (by omega)).mono fun r2 h2 => ?_
  obtain ⟨a1, a2, a3⟩ := h2
  rw [ok_bind]
  refine (maketx_s (p := 1) (g := (r2.2, (0 : Int))) a1 (by omega) (by omega) (by have := a3.1; simp only; omega) a3.2).mono fun r3 h3 => ?_
  obtain ⟨b1, b2, b3⟩ := h3
  rw [ok_bind]
  refine (next_s b1 (n := 8) (by omega) (by omega) (by omega)).mono fun r4 h4 => ?_
  obtain ⟨c1, c2, c3, c4⟩ := h4
  have hM := b3
  have hlen3 := b3.2.2.2.2.2.1
  obtain ⟨m1, m2, m3, m4⟩ := b3.n
  obtain ⟨e1, e2, e3, e4⟩ := b3.b
  obtain ⟨f1, f2, f3, f4⟩ := h
  obtain ⟨n1, n2, n3, n4⟩ := hn
  simp only [ok_sel, ok_chk, ok_bind, ok_some, decide_eq_true_eq, decide_eq_false_iff_not]
  refine ⟨fun _ => ⟨hM, ⟨f1, e2, e3, e4⟩, m1, m2, m3, m4⟩, fun _ => ⟨fun _ => ⟨hM, ⟨e1, e2, e3, e4⟩, n1, m2, m3, m4⟩, fun _ => ⟨fun _ => ?_, fun _ => ⟨fun _ => ⟨hM, ⟨e1, f2, e3, e4⟩, m1, m2, m3, m4⟩, fun _ => ⟨fun _ => ⟨hM, ⟨e1, e2, f3, f4⟩, m1, m2, m3, n4⟩, fun _ => ⟨fun _ => ?_, fun _ => ⟨fun _ => ?_, fun _ => ⟨hM, ⟨e1, e2, e3, e4⟩, m1, m2, n3, m4⟩⟩⟩⟩⟩⟩⟩⟩
  · refine (next_s c1 (n := 2) (by omega) (by omega) (by omega)).mono fun r5 h5 => ?_
    exact ⟨hM, ⟨e1, e2, e3, e4⟩, m1, wu64_range _, m3, m4⟩
  · refine ⟨⟨by unfold LIM; omega, by unfold LEN; omega⟩, ⟨by unfold LIM; omega, by unfold LEN; omega⟩, hM, ⟨e1, e2, by simp only [List.length_append]; omega, fun x hx => ?_⟩, m1, m2, m3, fun x hx => ?_⟩
    · rcases List.mem_append.1 hx with hx | hx
      · exact e4 x hx
      · exact f4 x hx
    · rcases List.mem_append.1 hx with hx | hx
      · exact m4 x hx
      · exact n4 x hx
  · refine ⟨⟨by unfold LIM; omega, by unfold LEN; omega⟩, ⟨by unfold LIM; omega, by unfold LEN; omega⟩, hM, ⟨e1, e2, by simp only [List.length_append, List.length_cons, List.length_nil]; omega, fun x hx => ?_⟩, m1, m2, m3, fun x hx => ?_⟩
    · rcases List.mem_append.1 hx with hx | hx
      · exact e4 x hx
      · simp only [List.mem_singleton] at hx; subst hx; simp
    · rcases List.mem_append.1 hx with hx | hx
      · exact m4 x hx
      · simp only [List.mem_singleton] at hx; subst hx; exact ⟨by decide, by decide⟩
end Go.Proofs.YtgfmnpbcbpobbaaDoor.Am
