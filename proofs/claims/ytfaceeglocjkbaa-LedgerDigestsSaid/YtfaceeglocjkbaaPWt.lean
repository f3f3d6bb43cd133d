/- What the weight of data bounds. No conditions. -/
import Derived.Test.YtfaceeglocjkbaaTmRow
import Derived.Test.YtfaceeglocjkbaaPLoop
namespace Go.Proofs.Ytfaceeglocjkbaa.Am
open Go

theorem sum_mem : ∀ {l : List Nat} {x : Nat}, x ∈ l → x ≤ l.sum
  | [], _, h => by simp at h
  | y :: l, x, h => by
    rw [List.sum_cons]
    rcases List.mem_cons.1 h with rfl | h
    · omega
    · have := sum_mem h; omega
theorem sum_len : ∀ {l : List Nat}, (∀ x ∈ l, 1 ≤ x) → l.length ≤ l.sum
  | [], _ => by simp
  | y :: l, h => by
    rw [List.sum_cons, List.length_cons]
    have := sum_len (l := l) (fun x hx => h x (by simp [hx]))
    have := h y (by simp)
    omega
theorem wt_sl_mem {u : U} {l : List u.den} {x : u.den} (h : x ∈ l) : wtU u x + 1 ≤ wtU (.sl u) l := by
  show wtU u x + 1 ≤ (l.map (wtU u)).sum + 1
  have := sum_mem (l := l.map (wtU u)) (List.mem_map.2 ⟨x, h, rfl⟩)
  omega
theorem wt_sl_len {u : U} {l : List u.den} (h : ∀ x ∈ l, 1 ≤ wtU u x) : l.length + 1 ≤ wtU (.sl u) l := by
  show l.length + 1 ≤ (l.map (wtU u)).sum + 1
  have := sum_len (l := l.map (wtU u)) (fun x hx => by obtain ⟨y, hy, rfl⟩ := List.mem_map.1 hx; exact h y hy)
  rw [List.length_map] at this
  omega
theorem wt_len_bytes (l : List UInt8) : l.length + 1 ≤ wtU (.sl .byte) l := wt_sl_len (u := .byte) fun _ _ => Nat.le_refl _
theorem wt_len_ints (k : IntKind) (l : List Int) : l.length + 1 ≤ wtU (.sl (.int k)) l := wt_sl_len (u := .int k) fun _ _ => Nat.le_refl _
theorem wf_len {u : U} {l : List u.den} (h : wfU (.sl u) l) : l.length ≤ maxLen := h.1
theorem wf_str {l : List UInt8} (h : wfU .str l) : l.length ≤ maxLen := h
theorem wf_i64 {n : Int} (h : wfU (.int .i64) n) : -9223372036854775808 ≤ n ∧ n ≤ 9223372036854775807 := by
  have h' : IntKind.i64.min ≤ n ∧ n ≤ IntKind.i64.max := h
  simpa [IntKind.min, IntKind.max, IntKind.signed, IntKind.bits] using h'
theorem wf_u64 {n : Int} (h : wfU (.int .u64) n) : 0 ≤ n ∧ n < 18446744073709551616 := by
  have h' : IntKind.u64.min ≤ n ∧ n ≤ IntKind.u64.max := h
  simp [IntKind.min, IntKind.max, IntKind.signed, IntKind.bits] at h'
  omega
theorem wf_u16 {n : Int} (h : wfU (.int .u16) n) : 0 ≤ n ∧ n < 65536 := by
  have h' : IntKind.u16.min ≤ n ∧ n ≤ IntKind.u16.max := h
  simp [IntKind.min, IntKind.max, IntKind.signed, IntKind.bits] at h'
  omega
end Go.Proofs.Ytfaceeglocjkbaa.Am
