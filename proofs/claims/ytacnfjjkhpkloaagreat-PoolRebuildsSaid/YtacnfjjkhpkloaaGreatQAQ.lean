/- Texts laid together: PSortR, PSlab, PPlace, PNum, PSameI. No conditions. -/
import Derived.Test.YtacnfjjkhpkloaaGreatFAll
import Derived.Test.YtacnfjjkhpkloaaGreatQAO
import Derived.KernelRfl
import Derived.Test.YtacnfjjkhpkloaaGreatQAP
namespace Go.Proofs.YtacnfjjkhpkloaaGreat.Am
open Go
def c5c (x y:Int):Int:=if x < y then -1 else if y < x then 1 else 0
def cE (a b:o7):Int:=if c5c b.2.2.2.2.2.1 a.2.2.2.2.2.1=0 then c5c a.2.2.2.2.2.2.2.2.1 b.2.2.2.2.2.2.2.2.1 else c5c b.2.2.2.2.2.1 a.2.2.2.2.2.1
theorem b0e {a b:o7}:ltc cE a b=true ↔ b.2.2.2.2.2.1 < a.2.2.2.2.2.1\/(a.2.2.2.2.2.1=b.2.2.2.2.2.1/\a.2.2.2.2.2.2.2.2.1 < b.2.2.2.2.2.2.2.2.1):=by
 unfold ltc cE c5c
 rw [decide_eq_true_eq]
 generalize a.2.2.2.2.2.1=x
 generalize b.2.2.2.2.2.1=y
 generalize a.2.2.2.2.2.2.2.2.1=p
 generalize b.2.2.2.2.2.2.2.2.1=q
 by_cases h1:y < x
 ·simp [h1]
 ·by_cases h2:x < y
  ·simp [h1,h2];omega
  ·simp only [h1,h2,if_false,if_true]
   by_cases h3:p < q
   ·simp [h3];omega
   ·by_cases h4:q < p <;> simp [h3,h4]
theorem a4n {a b:o7}:ltc cE a b=false ↔ ¬ (b.2.2.2.2.2.1 < a.2.2.2.2.2.1\/(a.2.2.2.2.2.1=b.2.2.2.2.2.1/\a.2.2.2.2.2.2.2.2.1 < b.2.2.2.2.2.2.2.2.1)):=by
 rw [<-b0e,Bool.not_eq_true]
theorem d0r:Swo (ltc cE):=⟨fun a=>by rw [a4n];omega,fun a b h=>by rw [b0e] at h;rw [a4n];omega,fun a b c h k=>by rw [a4n] at h k ⊢;omega⟩
def a5p (l:List o7):List o7:=a4Y (ltc cE) l
def c4G (e:o7):Prop:=e.2.1.length<=140737488351232/\e.2.2.2.2.2.2.2.2.2.length * 8<=140737488351232
def c4H (l:List o7):Prop:=l.length * 144<=140737488351232/\∀ e ∈ l,c4G e
theorem b3z {u:U} {by_:Nat} {l:List u.den} (h:l.length * by_<=140737488351232) (hb:1<=by_):a5w by_ l=some l:=by
 unfold a5w
 have h1:l.length * 1<=l.length * by_:=Nat.mul_le_mul_left _ hb
 rw [Nat.zero_add,decide_eq_true (by unfold LIM LEN;omega)]
 rfl
theorem a4Z {n:Nat} (h:n<=977343669105):n * 144<=LIM/\n<=LEN:=by unfold LIM LEN;omega
theorem b0f {e:o7} (h:c4G e):a3Q e=some e:=by
 have h1:a1O e.2.1=some e.2.1:=b3z (u:= .byte) (by_:=1) (by rw [Nat.mul_one];exact h.1) (by omega)
 have h2:a2u e.2.2.2.2.2.2.2.2.2=some e.2.2.2.2.2.2.2.2.2:=b3z (u:= .int .i64) (by_:=8) h.2 (by omega)
 simp only [a3Q,h1,h2,Option.bind_some]
theorem a40 (l:List o7):(a5p l).length=l.length:=b0d _ l
theorem a59 {l:List o7} {e:o7}:e ∈ a5p l ↔ e ∈ l:=c0l d0r
theorem c4H.sort {l:List o7} (h:c4H l):c4H (a5p l):=⟨by rw [a40];exact h.1,fun e he=>h.2 e (a59.1 he)⟩
theorem b3A {e:o7} {v7:List o7} {v8:Int} {i:Nat} {out:List o7} (hl:out.length < 977343669105) (hi:i < 1000000000000):W7 ((out.length:Nat):Int) v7 v8 (i:Int) e out=some (.inl (v7,v8,((i + 1:Nat):Int),a58 (ltc cE) e out)):=by
 unfold W7
 refine a1q.1 (O3 (fun n v=>∃ s t,s.length=n/\out=s ++ t/\a58 (ltc cE) e out=a58 (ltc cE) e s ++ t/\v=(((s.length:Nat):Int),v7,v8,(i:Int),e,out)) ?_ ⟨out,[],rfl,by simp,by simp,rfl⟩ (by omega))
 rintro n v ⟨s,t,rfl,rfl,hins,rfl⟩
 simp only [List.length_append] at hl
 have place:a58 (ltc cE) e s=s ++ [e]->Ok (H7 ((s.length:Nat):Int) v7 v8 (i:Int) e (s ++ t)) fun r=>r= .inl (v7,v8,((i + 1:Nat):Int),a58 (ltc cE) e (s ++ t)):=fun hp=>by
  have e1:(s ++ t).take s.length=s:=List.take_left
  have e2:((s ++ t).take (Int.toNat (((List.length (s ++ t)):Nat):Int))).drop s.length=t:=by rw [Int.toNat_natCast,List.take_length,List.drop_left]
  have e3:(s ++ [e]).length=s.length + 1:=by rw [List.length_append];rfl
  have e4:(s ++ t).length=s.length + t.length:=List.length_append
  simp only [H7,H2 (i:=i) (by omega),F8,B9,decide_eq_true_eq]
  rw [Int.toNat_natCast (n:=s.length),e2,e1,e3,e4]
  refine⟨by omega,a4Z (by omega),a4Z (by omega),by omega,a4Z (by omega),?_⟩
  rw [hins,hp]
 dsimp only
 rcases Nat.eq_zero_or_pos s.length with h0 | h0
 ·have:=List.eq_nil_of_length_eq_zero h0
  subst this
  simp only [P7,D2,F0,decide_eq_true_eq,decide_eq_false_iff_not]
  exact⟨fun h=>by simp at h,fun _=>place (by rw [a9l];rfl)⟩
 ·obtain⟨s2,y,rfl⟩:=a4m h0
  have e3:(s2 ++ [y]).length=s2.length + 1:=by rw [List.length_append];rfl
  rw [e3] at hl
  have w0:C6 ((((s2 ++ [y]).length:Nat):Int) - 1)=((s2.length:Nat):Int):=by rw [e3,E4] <;> omega
  have e5:(s2 ++ [y] ++ t)=s2 ++ y :: t:=by rw [List.append_assoc];rfl
  have gy:(s2 ++ [y] ++ t).getD s2.length B7=y:=by rw [e5];exact c0k rfl
  have e4:(s2 ++ [y] ++ t).length=s2.length + 1 + t.length:=by rw [List.length_append,e3]
  have hlt:=b0e (a:=e) (b:=y)
  have go:ltc cE e y=true->∃ m,m < (s2 ++ [y]).length/\∃ s t',s.length=m/\s2 ++ [y] ++ t=s ++ t'/\a58 (ltc cE) e (s2 ++ [y] ++ t)=a58 (ltc cE) e s ++ t'/\(((s2.length:Nat):Int),v7,v8,(i:Int),e,s2 ++ [y] ++ t)=(((s.length:Nat):Int),v7,v8,(i:Int),e,s2 ++ [y] ++ t):=fun hl=>by
   refine⟨s2.length,by omega,s2,y :: t,rfl,e5,?_,rfl⟩
   rw [hins,a2p,if_pos hl,List.append_assoc]
   rfl
  have stop:ltc cE e y=false->a58 (ltc cE) e (s2 ++ [y])=s2 ++ [y] ++ [e]:=fun hl=>by
   rw [a2p,hl,List.append_assoc]
   rfl
  have stop':¬ (y.2.2.2.2.2.1 < e.2.2.2.2.2.1\/(e.2.2.2.2.2.1=y.2.2.2.2.2.1/\e.2.2.2.2.2.2.2.2.1 < y.2.2.2.2.2.2.2.2.1))->ltc cE e y=false:=fun h=>a4n.2 h
  simp only [P7,w0,D2,F8,B9,F0,C9,D4,decide_eq_true_eq,decide_eq_false_iff_not,Int.toNat_natCast,gy,e4]
  refine⟨fun _=>⟨by omega,by omega,fun h1=>go (hlt.2 (.inl h1)),fun h1=>⟨by omega,by omega,fun h2=>⟨by omega,by omega,fun h3=>go (hlt.2 (.inr ⟨h2.symm,h3⟩)),fun h3=>place (stop (stop' (by omega)))⟩,fun h2=>place (stop (stop' (by omega)))⟩⟩,fun h=>by omega⟩
theorem b3B {l:List o7} (h:l.length * 144<=140737488351232):V5 l=some (a5p l):=by
 refine a1q.1 ?_
 unfold V5 a1n
 refine O4 l (fun i (acc:List o7)=>(l,((l.length:Nat):Int),((i:Nat):Int),acc)) (fun i acc=>acc=a5p (l.take i)) (fun i acc hi hinv=>?_) (fun acc hinv=>?_) (b0:=[]) rfl (by omega)
 ·subst hinv
  have hlen:(a5p (l.take i)).length=i:=by rw [a40,List.length_take];omega
  have h3:=b3A (e:=l.getD i B7) (v7:=l) (v8:=((l.length:Nat):Int)) (i:=i) (out:=a5p (l.take i)) (by omega) (by omega)
  simp only [P8,D2,F8,B9,D4,decide_eq_true_eq,decide_eq_false_iff_not,Int.toNat_natCast,h3]
  refine⟨fun _=>⟨by omega,?_⟩,fun h=>by omega⟩
  rw [C9]
  refine⟨_,rfl,?_⟩
  rw [M2 hi,R4 hi]
  show a58 (ltc cE) l[i] (a4Y (ltc cE) (l.take i))=a4Y (ltc cE) (l.take i ++ [l[i]])
  rw [a1R]
 ·subst hinv
  simp only [P8,D2,F8,B9,D4,decide_eq_true_eq,decide_eq_false_iff_not,Int.toNat_natCast]
  exact⟨fun h=>by omega,fun _=>by rw [List.take_length]⟩
end Go.Proofs.YtacnfjjkhpkloaaGreat.Am
namespace Go.Proofs.YtacnfjjkhpkloaaGreat.Am
open Go
abbrev ED:=o7
abbrev SlD:=A6
abbrev HD:=Int × Int
def e0:ED:=((Vector.replicate 32 (0:UInt8)),[],[],(0:Int),(0:Int),(0:Int),(0:Int),(0:Int),(0:Int),[])
def a6S (e:ED):Nat:=e.2.1.length
def a6G (s:SlD):Nat:=s.1.2.1.length
def b1c (sl:List SlD):Int->List Nat->Prop
 | f,[]=>f= -1
 | f,i :: fl=>f=(i:Int)/\i ∉ fl/\∃ u nx,sl[i]?=some (e0,u,false,nx)/\b1c sl nx fl
theorem b0h {sl:List SlD} {i:Nat} {x:SlD}:∀ {fl:List Nat} {f:Int},b1c sl f fl->i ∉ fl->b1c (sl.set i x) f fl
 | [],_,h,_=>h
 | j :: fl,f,⟨h1,h2,u,nx,h3,h4⟩,hi=>by
  simp only [List.mem_cons,not_or] at hi
  exact⟨h1,h2,u,nx,by rw [List.getElem?_set_ne hi.1];exact h3,b0h h4 hi.2⟩
theorem b3C {sl:List SlD} {i:Nat}:∀ {fl:List Nat} {f:Int},b1c sl f fl->i ∈ fl->∃ u nx,sl[i]?=some (e0,u,false,nx)
 | j :: fl,f,⟨h1,h2,u,nx,h3,h4⟩,hi=>by
  rcases List.mem_cons.1 hi with rfl | hi
  ·exact⟨u,nx,h3⟩
  ·exact b3C h4 hi
theorem b42 {α:Type} (f:α->Nat) (x:α):∀ {l:List α} {i:Nat} {y:α},l[i]?=some y->((l.set i x).map f).sum + f y=(l.map f).sum + f x
 | [],_,_,h=>by cases h
 | a :: l,0,y,h=>by
  injection h with h;subst h
  simp only [List.set_cons_zero,List.map_cons,List.sum_cons];omega
 | a :: l,i + 1,y,h=>by
  have ih:=b42 f x (l:=l) (i:=i) (y:=y) (by simpa using h)
  simp only [List.set_cons_succ,List.map_cons,List.sum_cons];omega
structure SJ (c:Nat) (size:Int) (sl:List SlD) (free:Int) (live:List (HD × ED)):Prop where
 size:size=((live.length:Nat):Int)
 at_:∀ x ∈ live,∃ (i:Nat) (nx:Int),x.1.1=(i:Int)/\sl[i]?=some (x.2,x.1.2,true,nx)
 uniq:(live.map fun x=>x.1.1).Nodup
 fr:∃ fl,b1c sl free fl
 bytes:(sl.map a6G).sum=(live.map fun x=>a6S x.2).sum
 len:sl.length<=c
 cnt:live.length<=c
 ents:∀ x ∈ live,c4G x.2/\a6S x.2<=1000
theorem sj0:SJ 0 0 [] (-1) []:=⟨rfl,by simp,List.nodup_nil,⟨[],rfl⟩,rfl,Nat.le_refl _,Nat.le_refl _,by simp⟩
theorem SJ.le {c d:Nat} {size:Int} {sl:List SlD} {free:Int} {live:List (HD × ED)} (h:SJ c size sl free live) (hd:c<=d):SJ d size sl free live:={h with len:=Nat.le_trans h.len hd,cnt:=Nat.le_trans h.cnt hd}
theorem SJ.perm {c:Nat} {size:Int} {sl:List SlD} {free:Int} {live live':List (HD × ED)} (h:SJ c size sl free live) (hp:live.Perm live'):SJ c size sl free live' where
 size:=by rw [<-hp.length_eq];exact h.size
 at_ x hx:=h.at_ x (hp.mem_iff.2 hx)
 uniq:=(hp.map _).nodup_iff.1 h.uniq
 fr:=h.fr
 bytes:=by rw [h.bytes];exact(hp.map _).sum_nat
 len:=h.len
 cnt:=by rw [<-hp.length_eq];exact h.cnt
 ents x hx:=h.ents x (hp.mem_iff.2 hx)
theorem SJ.put {c:Nat} {size:Int} {sl:List SlD} {free free':Int} {live:List (HD × ED)} (h:SJ c size sl free live) {i:Nat} {u nx:Int} {fl:List Nat} (hi:sl[i]?=some (e0,u,false,nx)) (hfl:b1c sl free' fl) (hn:i ∉ fl) {e:ED} (he:c4G e/\a6S e<=1000) :
  SJ (c + 1) (size + 1) (sl.set i (e,u,true,nx)) free' ((((i:Int),u),e) :: live):=by
 have hil:=(List.getElem?_eq_some_iff.1 hi).1
 have hne:∀ x ∈ live,∀ (j:Nat) (n:Int),sl[j]?=some (x.2,x.1.2,true,n)->j ≠ i:=fun x _ j n hj e=>by
  subst e;rw [hi] at hj;injection hj with hj;injection hj with _ hj;injection hj with _ hj;injection hj with hj;cases hj
 refine⟨?_,fun x hx=>?_,?_,⟨fl,b0h hfl hn⟩,?_,?_,?_,fun x hx=>?_⟩
 ·rw [h.size,List.length_cons];omega
 ·rcases List.mem_cons.1 hx with rfl | hx
  ·exact⟨i,nx,rfl,List.getElem?_set_self hil⟩
  ·obtain⟨j,n,h1,h2⟩:=h.at_ x hx
   exact⟨j,n,h1,by rw [List.getElem?_set_ne (hne x hx j n h2).symm];exact h2⟩
 ·rw [List.map_cons,List.nodup_cons]
  refine⟨fun hm=>?_,h.uniq⟩
  obtain⟨x,hx,e1⟩:=List.mem_map.1 hm
  obtain⟨j,n,h1,h2⟩:=h.at_ x hx
  have h3:(j:Int)=(i:Int):=h1.symm.trans e1
  exact hne x hx j n h2 (by omega)
 ·have h1:=b42 a6G (e,u,true,nx) hi
  have h2:a6G (e0,u,false,nx)=0:=rfl
  have h3:a6G (e,u,true,nx)=a6S e:=rfl
  have h4:=h.bytes
  rw [List.map_cons,List.sum_cons]
  rw [h2,h3] at h1
  show _=a6S e + _
  omega
 ·rw [List.length_set];have:=h.len;omega
 ·rw [List.length_cons];have:=h.cnt;omega
 ·rcases List.mem_cons.1 hx with rfl | hx
  ·exact he
  ·exact h.ents x hx
theorem SJ.app {c:Nat} {size:Int} {sl:List SlD} {live:List (HD × ED)} (h:SJ c size sl (-1) live):SJ (c + 1) size (sl ++ [(e0,0,false,0)]) (-1) live where
 size:=h.size
 at_ x hx:=by
  obtain⟨j,n,h1,h2⟩:=h.at_ x hx
  exact⟨j,n,h1,by rw [List.getElem?_append_left (List.getElem?_eq_some_iff.1 h2).1];exact h2⟩
 uniq:=h.uniq
 fr:=⟨[],rfl⟩
 bytes:=by
  rw [List.map_append,List.sum_append,h.bytes];rfl
 len:=by rw [List.length_append];have:=h.len;simp;omega
 cnt:=Nat.le_succ_of_le h.cnt
 ents:=h.ents
theorem c2s {α:Type} {l:List α} {i:Nat} (h:i < l.length) (x d:α):(l.set i x).getD i d=x:=by
 rw [List.getD_eq_getElem?_getD,List.getElem?_set_self h];rfl
theorem c3h {sl:List SlD} {i:Nat} {u nx:Int} (hi:sl[i]?=some (e0,u,false,nx)) {e:ED} (he:c4G e) (most size free:Int) (h0:HD):S2 (i:Int) most size free e h0 sl=some (most,C6 (size + 1),sl.set i (e,u,true,nx),free,((i:Int),u),true):=by
 have hil:=(List.getElem?_eq_some_iff.1 hi).1
 have g1:List.getD sl i C4=(e0,u,false,nx):=by rw [List.getD_eq_getElem?_getD,hi];rfl
 have g2:∀ x,(sl.set i x).getD i C4=x:=fun x=>c2s hil x _
 refine a1q.1 ?_
 unfold S2
 rw [b0f he,C2,B9]
 simp only [F8,B9,Int.toNat_natCast,List.length_set,g1,g2,List.set_set,decide_eq_true_eq]
 refine⟨by omega,by omega,by omega,by omega,by omega,by omega,trivial⟩
theorem SJ.add {c:Nat} {size:Int} {sl:List SlD} {free:Int} {live:List (HD × ED)} (h:SJ c size sl free live) {most:Int} (hm:size ≠ most) (hc:c<=100000) {e:ED} (he:c4G e/\a6S e<=1000) :
  ∃ sl' free' hd,a1t most size sl free e=some (most,size + 1,sl',free',hd,true)/\SJ (c + 2) (size + 1) sl' free' ((hd,e) :: live):=by
 have hs:=h.size
 have hcnt:=h.cnt
 have hlen:=h.len
 have hw:C6 (size + 1)=size + 1:=E4 (by omega) (by omega)
 obtain⟨fl,hfl⟩:=h.fr
 unfold a1t
 rw [decide_eq_false hm,L0]
 cases fl with
 | nil=>
  have hfl:free= -1:=hfl
  subst hfl
  have hz:(sl ++ [(e0,(0:Int),false,(0:Int))])[sl.length]?=some (e0,0,false,0):=by simp
  rw [decide_eq_true (by omega),U3,decide_eq_true (by unfold LIM LEN;omega),M5]
  have ha:=c3h hz he.1 most size (-1) ((0:Int),(0:Int))
  refine⟨_,_,_,ha.trans (by rw [hw]),?_⟩
  exact h.app.put hz (fl:=[]) rfl (by simp) he
 | cons i fl=>
  obtain⟨rfl,h2,u,nx,h3,h4⟩:=hfl
  have hil:=(List.getElem?_eq_some_iff.1 h3).1
  have g1:List.getD sl i C4=(e0,u,false,nx):=by rw [List.getD_eq_getElem?_getD,h3];rfl
  rw [decide_eq_false (by omega),L0,decide_eq_true (by omega),M5,Int.toNat_natCast,decide_eq_true hil,M5,g1]
  have ha:=c3h h3 he.1 most size nx ((0:Int),(0:Int))
  refine⟨_,_,_,ha.trans (by rw [hw]),?_⟩
  exact(h.put h3 h4 h2 he).le (by omega)
section
variable {c:Nat} {size:Int} {sl:List SlD} {free:Int} {live:List (HD × ED)}
theorem SJ.has (h:SJ c size sl free live) (most:Int) {x:HD × ED} (hx:x ∈ live):a0f most size sl free x.1=some (most,size,sl,free,true):=by
 obtain⟨i,nx,h1,h2⟩:=h.at_ x hx
 have hil:=(List.getElem?_eq_some_iff.1 h2).1
 have g1:List.getD sl i C4=(x.2,x.1.2,true,nx):=by rw [List.getD_eq_getElem?_getD,h2];rfl
 unfold a0f
 rw [h1,Int.toNat_natCast,g1,decide_eq_true (by omega),U3,decide_eq_true (by omega),U3,decide_eq_true (by omega),M5,decide_eq_true hil,M5,U3,M5,M5,decide_eq_true rfl]
theorem SJ.get (h:SJ c size sl free live) (most:Int) {x:HD × ED} (hx:x ∈ live):U5 most size sl free x.1=some (most,size,sl,free,x.2,true):=by
 obtain⟨i,nx,h1,h2⟩:=h.at_ x hx
 have hil:=(List.getElem?_eq_some_iff.1 h2).1
 have g1:List.getD sl i C4=(x.2,x.1.2,true,nx):=by rw [List.getD_eq_getElem?_getD,h2];rfl
 unfold U5
 rw [h.has most hx,Option.bind_some]
 dsimp only
 rw [Bool.not_true,L0,h1,Int.toNat_natCast,decide_eq_true (by omega),M5,decide_eq_true hil,M5,g1,b0f (h.ents x hx).1,Option.bind_some]
theorem SJ.remove (h:SJ c size sl free live) (most:Int) (hc:c<=100000) {x:HD × ED} {live':List (HD × ED)} (hp:live.Perm (x :: live')) :
  ∃ sl' free',S5 most size sl free x.1=some (most,size - 1,sl',free',true)/\SJ c (size - 1) sl' free' live':=by
 have h':=h.perm hp
 obtain⟨i,nx,h1,h2⟩:=h'.at_ x (by simp)
 have hil:=(List.getElem?_eq_some_iff.1 h2).1
 have hs:=h'.size
 have hcnt:=h'.cnt
 rw [List.length_cons] at hs hcnt
 have hw:C6 (size - 1)=size - 1:=E4 (by omega) (by omega)
 obtain⟨fl,hfl⟩:=h'.fr
 have hnot:i ∉ fl:=fun hm=>by
  obtain⟨u,n,h3⟩:=b3C hfl hm
  rw [h2] at h3;injection h3 with h3;injection h3 with _ h3;injection h3 with _ h3;injection h3 with h3;cases h3
 refine⟨sl.set i (e0,C6 (x.1.2 + 1),false,free),x.1.1,?_,?_⟩
 ·unfold S5
  rw [h'.has most (x:=x) (by simp),Option.bind_some]
  dsimp only
  rw [Bool.not_true,L0,h1,Int.toNat_natCast,decide_eq_true (by omega),M5,decide_eq_true hil,M5,hw]
  rfl
 ·have hu:=h'.uniq
  rw [List.map_cons,List.nodup_cons] at hu
  refine⟨by omega,fun y hy=>?_,hu.2,⟨i :: fl,h1,hnot,C6 (x.1.2 + 1),free,List.getElem?_set_self hil,b0h hfl hnot⟩,?_,by rw [List.length_set];exact h'.len,by omega,fun y hy=>h'.ents y (by simp [hy])⟩
  ·obtain⟨j,n,h3,h4⟩:=h'.at_ y (by simp [hy])
   refine⟨j,n,h3,?_⟩
   rw [List.getElem?_set_ne (fun e=>?_)]
   ·exact h4
   ·subst e
    exact hu.1 (List.mem_map.2 ⟨y,hy,h3.trans h1.symm⟩)
  ·have h5:=b42 a6G (e0,C6 (x.1.2 + 1),false,free) h2
   have h6:a6G (e0,C6 (x.1.2 + 1),false,free)=0:=rfl
   have h7:a6G (x.2,x.1.2,true,nx)=a6S x.2:=rfl
   have h8:=h'.bytes
   rw [List.map_cons,List.sum_cons] at h8
   rw [h6,h7] at h5
   omega
theorem c0n {α:Type} (f:α->Nat) (B:Nat):∀ (l:List α),(∀ x ∈ l,f x<=B)->(l.map f).sum<=l.length * B
 | [],_=>by simp
 | a :: l,h=>by
  have ih:=c0n f B l fun x hx=>h x (by simp [hx])
  have h1:=h a (by simp)
  rw [List.map_cons,List.sum_cons,List.length_cons,Nat.succ_mul];omega
theorem a6s {α:Type} (f:α->Nat):∀ (l:List α) (i:Nat),((l.take i).map f).sum<=(l.map f).sum
 | [],_=>by simp
 | a :: l,0=>by simp
 | a :: l,i + 1=>by
  have ih:=a6s f l i
  rw [List.take_succ_cons,List.map_cons,List.map_cons,List.sum_cons,List.sum_cons];omega
theorem b2n {sl:List SlD} {most size free:Int} (hl:sl.length<=1000000) (hb:(sl.map a6G).sum<=4611686018427387904):L5 most size sl free=some (most,size,sl,free,(((sl.map a6G).sum:Nat):Int)):=by
 refine a1q.1 ?_
 unfold L5 a2t
 refine O4 sl (fun i (j:Nat)=>(((j:Nat):Int),((sl.length:Nat):Int),((i:Nat):Int),most,size,free,sl)) (fun i j=>j=((sl.take i).map a6G).sum) (fun i j hi hinv=>?_) (fun j hinv=>?_) (b0:=0) (by simp) (by omega)
 ·have h1:=a6s a6G sl (i + 1)
  have h2:((sl.take (i + 1)).map a6G).sum=j + a6G sl[i]:=by rw [M2 hi,List.map_append,List.sum_append,hinv];simp
  simp only [U9,H2 (i:=i) (by omega),D2,F8,B9,C9,D4,decide_eq_true_eq,decide_eq_false_iff_not,Int.toNat_natCast,R4 hi]
  refine⟨fun _=>⟨by omega,hi,j + a6G sl[i],?_,h2.symm⟩,fun h=>by omega⟩
  have:C6 ((j:Int) + ((sl[i].1.2.1.length:Nat):Int))=((j + a6G sl[i]:Nat):Int):=by
   show C6 ((j:Int) + ((a6G sl[i]:Nat):Int))=_
   rw [E4] <;> omega
  rw [this]
 ·rw [List.take_length] at hinv
  simp only [U9,D2,F8,B9,C9,D4,decide_eq_true_eq,decide_eq_false_iff_not,Int.toNat_natCast]
  exact⟨fun h=>by omega,fun _=>by rw [hinv]⟩
theorem SJ.bytes_ok (h:SJ c size sl free live) (most:Int) (hc:c<=100000):L5 most size sl free=some (most,size,sl,free,(((live.map fun x=>a6S x.2).sum:Nat):Int))/\(live.map fun x=>a6S x.2).sum<=100000000:=by
 have hb:=c0n (fun x:HD × ED=>a6S x.2) 1000 live fun x hx=>(h.ents x hx).2
 have hcnt:=h.cnt
 have:live.length * 1000<=100000 * 1000:=Nat.mul_le_mul_right _ (by omega)
 have hs:=h.bytes
 have hlen:=h.len
 refine⟨?_,by omega⟩
 rw [b2n (by omega) (by omega),hs]
end
end Go.Proofs.YtacnfjjkhpkloaaGreat.Am
namespace Go.Proofs.YtacnfjjkhpkloaaGreat.Am
open Go
theorem b2o {x n:Int} (hn:1<=n) (hn2:n<=4611686018427387904):Ok (N4 x n) fun r=>0<=r/\r < n/\r=x % n:=by
 have h1:=Int.tmod_eq_emod (a:=x) (b:=n)
 have h2:=Int.emod_nonneg x (show n ≠ 0 by omega)
 have h3:=Int.emod_lt_of_pos x (show 0 < n by omega)
 have h4:((n.natAbs:Nat):Int)=n:=by omega
 simp only [N4,D2,F8,B9,decide_eq_true_eq,decide_eq_false_iff_not,Bool.not_eq_true']
 refine⟨by omega,fun h=>?_,fun h=>?_⟩
 ·rw [E4]
  ·split at h1 <;> omega
  ·split at h1 <;> omega
  ·split at h1 <;> omega
 ·split at h1 <;> omega
end Go.Proofs.YtacnfjjkhpkloaaGreat.Am
namespace Go.Proofs.YtacnfjjkhpkloaaGreat.Am
open Go
theorem c4I {s:A4} {n:Int} (hn:1<=n) (hn2:n<=4611686018427387904) (h0:0<=s.2) (h1:s.2 < 4611686018427387904):Ok (A7 s n) fun r=>r.1.1=s.1/\r.1.2=s.2 + 1/\0<=r.2/\r.2 < n:=by
 have hw:C6 (s.2 + 1)=s.2 + 1:=E4 (by omega) (by omega)
 have hp:∀ x,Ok (H1 n x s) fun r=>r.1.1=s.1/\r.1.2=s.2 + 1/\0<=r.2/\r.2 < n:=fun x=>by
  unfold H1
  rw [C2]
  refine(b2o hn hn2).mono fun r hr=>?_
  rw [B9,hw]
  exact⟨rfl,rfl,hr.1,hr.2.1⟩
 simp only [A7,D2,F8,decide_eq_true_eq,decide_eq_false_iff_not]
 exact⟨fun h=>⟨⟨h0,h⟩,hp _⟩,fun _=>hp _⟩
def a8Z (L:List Int) (k:Int) (s:A4):Prop:=s.1=L/\0<=s.2/\s.2<=k
theorem R6 {L:List Int} {k:Int} {s:A4} {n:Int} (hs:a8Z L k s) (hn:1<=n) (hn2:n<=4611686018427387904) (hk:k < 4611686018427387904):Ok (A7 s n) fun r=>a8Z L (k + 1) r.1/\s.2 < r.1.2/\0<=r.2/\r.2 < n:=by
 obtain⟨h1,h2,h3⟩:=hs
 refine(c4I hn hn2 h2 (by omega)).mono fun r hr=>?_
 obtain⟨a1,a2,a3,a4⟩:=hr
 exact⟨⟨a1.trans h1,by omega,by omega⟩,by omega,a3,a4⟩
theorem a8Z.le {L:List Int} {k m:Int} {s:A4} (h:a8Z L k s) (hkm:k<=m):a8Z L m s:=⟨h.1,h.2.1,by have:=h.2.2;omega⟩
def c2t (L:List Int):A4:=(L,0)
theorem c0o (L:List Int):a0B L=some (c2t L):=rfl
theorem c7c (L:List Int):a8Z L 0 (c2t L):=⟨rfl,Int.le_refl _,Int.le_refl _⟩
end Go.Proofs.YtacnfjjkhpkloaaGreat.Am
namespace Go.Proofs.YtacnfjjkhpkloaaGreat.Am
open Go
theorem b2p {l:List Int} (h:l.length < 9223372036854775807):T8 l l=some true:=by
 refine a1q.1 ?_
 simp only [T8,D2,B9,decide_eq_true_eq,decide_eq_false_iff_not,Bool.not_eq_true',Bool.not_eq_false']
 refine⟨fun h=>(h trivial).elim,fun _=>?_⟩
 unfold a07
 refine O4 l (fun i (_:Unit)=>(l,l,((l.length:Nat):Int),((i:Nat):Int))) (fun _ _=>True) (fun i b hi _=>?_) (fun b _=>?_) (b0:=()) trivial (by omega)
 ·simp only [N9,H2 (i:=i) (by omega),D2,F8,B9,C9,D4,decide_eq_true_eq,decide_eq_false_iff_not,Bool.not_eq_true',Bool.not_eq_false',Int.toNat_natCast]
  refine⟨fun _=>⟨by omega,by omega,?_⟩,fun h=>by omega⟩
  simp
 ·simp only [N9,D2,F8,B9,C9,D4,decide_eq_true_eq,decide_eq_false_iff_not,Bool.not_eq_true',Bool.not_eq_false',Int.toNat_natCast]
  exact⟨fun h=>by omega,fun _=>trivial⟩
end Go.Proofs.YtacnfjjkhpkloaaGreat.Am
