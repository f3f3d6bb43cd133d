/- The statements about layer 20 hold of plain data: what is played and read. No conditions. -/
import Derived.Test.YthkhcbphbabefaaGreatPLaw20
namespace Go.Proofs.YthkhcbphbabefaaGreat.Am
open Go
theorem OO{l:List Int}(h:szU (.sl (.int .i64)) l):l.length<=1000000000000000:=by
 have h1:List.length l*8<=reachBytes:=h.1;simp only[reachBytes]at h1;omega
theorem NB{l:List Int}(h:szU (.sl (.int .i64)) l):J3 [l]=some (decide (160<l.length)):=by
 rw[Lf (by simp) λx hx=>by rw[List.mem_singleton.1 hx];exact OO h];simp
end Go.Proofs.YthkhcbphbabefaaGreat.Am
