/- What the plain functions answer where a pool is asked for its entries: they are the one that was put into it. No conditions. -/
import Derived.Test.YthkhcbphbabefaaGreatPLaw20B
import Derived.Test.YthkhcbphbabefaaGreatQAH
namespace Go.Proofs.YthkhcbphbabefaaGreat.Am
open Go
theorem Ll: @O9= @H6:=by kernel_rfl
theorem HX: @U1= @af:=by kernel_rfl
theorem HY: @V7= @O7:=by kernel_rfl
theorem Ia: @V8= @O8:=by kernel_rfl
def dP(p:PP):jL:=(p.cf,((p.most,(p.size,(p.sl,(p.free,())))),((p.it,(p.hp,())),((p.ix,(p.n,())),((p.b,(p.t,(p.w,()))),(p.pl,(p.ids,(p.nx,()))))))))
theorem xL{p:PP}{l:List ED}(h:Eo p=some (jg p l)):kz jj (dP p,()) (dP p) l:=by
 unfold Eo at h;rw[<-HX]at h;exact⟨jg p l,h,rfl,rfl⟩
theorem xM{p:PP}{l:List ED}(h:Am.sortP p=some (jg p l)):kz mA (dP p,()) (dP p) l:=by
 unfold Am.sortP at h;rw[<-HY]at h;exact⟨jg p l,h,rfl,rfl⟩
theorem xN{p:PP}{l:List ED}{n:List UInt8}(h:BH p n=some (jg p l)):kz mB (dP p,(n,())) (dP p) l:=by
 unfold BH at h;rw[<-Ia]at h;exact⟨jg p l,h,rfl,rfl⟩
theorem EA{e:ED}(h:qf e<=1000):mV N6 [] e=([e],0):=by
 unfold mV;rw[Ql (by rintro⟨x,hx,_⟩;cases hx),Ql (by rintro⟨x,hx,_⟩;cases hx),Ql]
 ·rfl
 ·rintro(h1|h1)
  ·exact absurd h1 (by decide)
  ·have h2:(65536:Int)<((bG []+qf e:Nat):Int):=h1;have h3:bG []=0:=rfl;omega
def jl(e:ED):ED:=(e.1,[1]++e.2.1,e.2.2.1,e.2.2.2.1,e.2.2.2.2.1,e.2.2.2.2.2.1,e.2.2.2.2.2.2.1,e.2.2.2.2.2.2.2.1,e.2.2.2.2.2.2.2.2.1,[1]++e.2.2.2.2.2.2.2.2.2)
theorem um{k:List Int}(_hk:k.length<=1000000000000000) (hl:J3 [k]=some (decide (160<k.length))) (b:UInt8):jN k b:=by
 have hb:gS k b=some (decide (160<k.length),k,b):=by
  unfold gS;rw[hl,PS]
 by_cases h160:160<k.length
 ·left;rw[PT h160]at hb;refine⟨hb,?_⟩;unfold pF;rw[rD];rfl
 right;rw[Qw h160]at hb;refine⟨hb,?_⟩;obtain⟨⟨s1,e0'⟩,he,_,_,hM,_⟩:=HM (L:=k) (k:=0) (s:=KP k) ⟨rfl,Tg _,Tg _⟩ (by omega) (Tg _);dsimp only at hM;obtain⟨m1,m2,m3,m4,m5,m6,m7,m8,m9⟩:=hM;have hG:LF (jl e0'):=by
  refine⟨⟨?_,?_⟩,?_,?_,m3.1,?_⟩
  ·show([1]++e0'.2.1:List UInt8).length<=_;rw[PU,QG];omega
  ·show([1]++e0'.2.2.2.2.2.2.2.2.2:List Int).length*8<=_;rw[PU,QG];omega
  ·show([1]++e0'.2.1:List UInt8).length<=_;rw[PU,QG];omega
  ·show e0'.2.2.1.length<=60;omega
  ·show e0'.2.2.2.1<_;omega
 have hpe:(jl e0').2.2.2.2.2.2.2.2.2.length<9223372036854775807:=by
  show([1]++e0'.2.2.2.2.2.2.2.2.2:List Int).length<_;rw[PU,QG];omega
 have hsame:=mY hpe;have h0:PJ 0 (P6 N6) []:=FA pS;obtain⟨p1,L1,i1,hj,hL1,hc1⟩:=h0.insert (by omega) hG;have hins:mV (P6 N6).cf (List.map bN []) (jl e0')=([jl e0'],0):=EA hG.2.1;rw[hins]at i1 hL1;have hnew:ap N6=some (Ip (P6 N6)):=by
  have:=FB (cf:=N6) (pS.range (by decide))
  rwa [show LG N6=N6 from Qx pS]at this
 have hC:pG k b=some ((P6 N6).cf,(P6 N6).most,(P6 N6).size,(P6 N6).sl,(P6 N6).free,(P6 N6).it,(P6 N6).hp,(P6 N6).ix,(P6 N6).n,(P6 N6).b,(P6 N6).t,(P6 N6).w,(P6 N6).pl,(P6 N6).ids,(P6 N6).nx,jl e0',(jl e0').1,(jl e0').2.1,(jl e0').2.2.1,(jl e0').2.2.2.1,(jl e0').2.2.2.2.1,(jl e0').2.2.2.2.2.1,(jl e0').2.2.2.2.2.2.1,(jl e0').2.2.2.2.2.2.2.1,(jl e0').2.2.2.2.2.2.2.2.1,(jl e0').2.2.2.2.2.2.2.2.2,b):=by
  unfold pG;rw[pR,PS,hnew,PS,HC,PS,he,PS];dsimp only;rw[PT ⟨by unfold LIM;omega,by unfold LEN;omega⟩,rN,PT ⟨by unfold LIM;omega,by unfold LEN;omega⟩,rN,PT ⟨by rw[PU,QG];unfold LIM;omega,by rw[PU,QG];unfold LEN;omega⟩,rN,PT ⟨by rw[PU,QG];unfold LIM;omega,by rw[PU,QG];unfold LEN;omega⟩,rN];rfl
 have i1':O9 (P6 N6).cf (P6 N6).most (P6 N6).size (P6 N6).sl (P6 N6).free (P6 N6).it (P6 N6).hp (P6 N6).ix (P6 N6).n (P6 N6).b (P6 N6).t (P6 N6).w (P6 N6).pl (P6 N6).ids (P6 N6).nx (jl e0')=some (jg p1 0):=by
  rw[Ll];exact i1
 have hE:=hj.ents_ok (by omega);have hS:=hj.sorted_ok (by omega);have hN:=hj.sender_ok (by omega) (jl e0').2.2.1;rw[hL1]at hE hS hN;have hs1:DZ [jl e0']=[jl e0']:=rfl;have hn1:xF [jl e0'] (jl e0').2.2.1=[jl e0']:=by
  unfold xF isN;rw[RU (by simp),List.filter_nil];rfl
 rw[hs1]at hS;rw[hn1]at hN;obtain⟨x,hx,hxe⟩:∃x∈L1,x.2.2=jl e0':=by
  have:jl e0'∈L1.map bN:=by rw[hL1];exact Qn ..
  obtain⟨x,hx,h⟩:=List.mem_map.1 this;exact⟨x,hx,h⟩
 have hget:=hj.get hx;rw[hxe]at hget;unfold Nv at hget;have hg:pI p1.cf p1.most p1.size p1.sl p1.free p1.it p1.hp p1.ix p1.n p1.b p1.t p1.w p1.pl p1.ids p1.nx (jl e0') 0=some (p1.cf,p1.most,p1.size,p1.sl,p1.free,p1.it,p1.hp,p1.ix,p1.n,p1.b,p1.t,p1.w,p1.pl,p1.ids,p1.nx,jl e0',true):=by
  unfold pI;rw[hget,PS];unfold jg;dsimp only;unfold V9 U3 R9 U2 S0 U4 U5 S1 ai W4;simp only[PS,hsame,rD,decide_true,aZ,SW,QF];rfl
 refine⟨dP (P6 N6),dP p1,jl e0',0,⟨_,hC,rfl⟩,by simp[jl],by simp[jl],hsame,⟨_,i1',rfl,rfl⟩,xL hE,xM hS,xN hN,⟨_,hg,rfl⟩⟩
theorem qc(x0:List Int) (x1:UInt8) (_:wfU (.sl (.int .i64)) x0) (_:wfU .byte x1) (z0:szU (.sl (.int .i64)) x0) (_:szU .byte x1):E6 x0 x1=some true:=by
 unfold E6;exact Qx (um (OO z0) (NB z0) x1)
end Go.Proofs.YthkhcbphbabefaaGreat.Am
