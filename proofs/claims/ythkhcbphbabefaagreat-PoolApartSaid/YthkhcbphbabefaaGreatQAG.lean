/- Texts laid together: PPool3, PShaN, PEnt, PPlay20, PSameE, Hand, Hand2, Nest, RegI, Hand3, Hand4, Hand5. No conditions. -/
import Derived.Test.YthkhcbphbabefaaGreatQAF
import Derived.Great.BuildSlice
import Derived.Test.YthkhcbphbabefaaGreatFAllOk
namespace Go.Proofs.YthkhcbphbabefaaGreat.Am
open Go
theorem Ep{α β:Type}{ca:α->α->Int}{cb:β->β->Int}(f:α->β) (hf:∀x y,ca x y=cb (f x) (f y)) (x:α) (s:List α):(Bj (ltc ca) x s).map f=Bj (ltc cb) (f x) (s.map f):=by
 obtain⟨n,hn⟩:∃n,s.length=n:=⟨_,rfl⟩
 induction n generalizing s with
 |zero=>have:=Qd hn;subst this;rfl
 |succ n ih=>
  obtain⟨s2,y,rfl⟩:=fR (by omega:0<s.length);have hl:s2.length=n:=by simpa using hn
  have hlt:ltc ca x y=ltc cb (f x) (f y):=by unfold ltc;rw[hf]
  rw[PV];show _=Bj (ltc cb) (f x) (s2.map f++[f y]);rw[ja,ja,hlt];by_cases h:ltc cb (f x) (f y)=true
  ·rw[Qx h,Qx h,PV,ih s2 hl];rfl
  ·rw[Ql h,Ql h,PV];rfl
theorem rB{α β:Type}{ca:α->α->Int}{cb:β->β->Int}(f:α->β) (hf:∀x y,ca x y=cb (f x) (f y)) (l:List α):(jH (ltc ca) l).map f=jH (ltc cb) (l.map f):=by
 obtain⟨n,hn⟩:∃n,l.length=n:=⟨_,rfl⟩
 induction n generalizing l with
 |zero=>have:=Qd hn;subst this;rfl
 |succ n ih=>
  obtain⟨s2,y,rfl⟩:=fR (by omega:0<l.length);rw[PV];show _=jH (ltc cb) (s2.map f++[f y]);rw[fS,fS,Ep f hf,ih s2 (by simpa using hn)]
theorem rC{α:Type}(lt:α->α->Bool) (x:α) (s:List α):(Bj lt x s).Perm (x::s):=by
 obtain⟨n,hn⟩:∃n,s.length=n:=⟨_,rfl⟩
 induction n generalizing s with
 |zero=>have:=Qd hn;subst this;exact List.Perm.refl _
 |succ n ih=>
  obtain⟨s2,y,rfl⟩:=fR (by omega:0<s.length);rw[ja];split
  ·exact(ih s2 (by simpa using hn)).append_right [y]
  ·have:(s2++[y,x]).Perm ([x]++(s2++[y])):=by
    have:=QX (l₁:=s2++[y]) (l₂:=[x])
    rwa [Qe]at this
   exact this
theorem aA{α:Type}(lt:α->α->Bool) (l:List α):(jH lt l).Perm l:=by
 obtain⟨n,hn⟩:∃n,l.length=n:=⟨_,rfl⟩
 induction n generalizing l with
 |zero=>have:=Qd hn;subst this;exact List.Perm.refl _
 |succ n ih=>
  obtain⟨s2,y,rfl⟩:=fR (by omega:0<l.length);rw[fS];exact(rC lt y _).trans (((ih s2 (by simpa using hn)).cons y).trans (QX (l₁:=[y]) (l₂:=s2)))
theorem HL{α:Type}{lt:α->α->Bool}{R:α->α->Prop}(tr:∀a b c,R a b->R b c->R a c){x:α}(s:List α) (h1:∀y∈s,lt x y=true->R x y) (h2:∀y∈s,lt x y=false->R y x) (hs:s.Pairwise R):(Bj lt x s).Pairwise R:=by
 obtain⟨n,hn⟩:∃n,s.length=n:=⟨_,rfl⟩
 induction n generalizing s with
 |zero=>have:=Qd hn;subst this;rw[DX];simp
 |succ n ih=>
  obtain⟨s2,y,rfl⟩:=fR (by omega:0<s.length);have hs0:=hs;rw[QI]at hs;obtain⟨p1,_,p3⟩:=hs;rw[ja];by_cases h:lt x y=true
  ·rw[Qx h,QI];refine⟨ih s2 (λz hz=>h1 z (QH _ hz)) (λz hz=>h2 z (QH _ hz)) p1 (by simpa using hn),by simp,λa ha b hb=>?_⟩;rw[List.mem_singleton.1 hb];rcases List.mem_cons.1 ((rC lt x s2).mem_iff.1 ha)with rfl|ha
   ·exact h1 y (by simp) h
   ·exact p3 a ha y (by simp)
  ·have h:lt x y=false:=by simpa using h
   rw[Ql (by rw[h];decide)];have hyx:=h2 y (by simp) h;have:s2++[y,x]=(s2++[y])++[x]:=by rw[Qe];rfl
   rw[this,QI];refine⟨hs0,by simp,λa ha b hb=>?_⟩;rw[List.mem_singleton.1 hb];rcases List.mem_append.1 ha with ha|ha
   ·exact tr _ _ _ (p3 a ha y (by simp)) hyx
   ·rw[List.mem_singleton.1 ha];exact hyx
theorem wi{α:Type}{lt:α->α->Bool}{R Q:α->α->Prop}(tr:∀a b c,R a b->R b c->R a c) (h1:∀x y,Q y x->lt x y=true->R x y) (h2:∀x y,Q y x->lt x y=false->R y x) (l:List α) (hl:l.Pairwise Q):(jH lt l).Pairwise R:=by
 obtain⟨n,hn⟩:∃n,l.length=n:=⟨_,rfl⟩
 induction n generalizing l with
 |zero=>have:=Qd hn;subst this;exact List.Pairwise.nil
 |succ n ih=>
  obtain⟨s2,y,rfl⟩:=fR (by omega:0<l.length);rw[QI]at hl;obtain⟨p1,_,p3⟩:=hl;rw[fS];exact HL tr _ (λz hz=>h1 y z (p3 z ((aA lt s2).mem_iff.1 hz) y (by simp))) (λz hz=>h2 y z (p3 z ((aA lt s2).mem_iff.1 hz) y (by simp))) (ih s2 p1 (by simpa using hn))
section
variable {c:Nat}{p:PP}{L:List Rec}
def mw(L:List Rec):List Rec:=jH (ltc λx y:Rec=>cE x.2.2 y.2.2) L
theorem uf(L:List Rec):(mw L).map bN=DZ (L.map bN):=rB bN (λ_ _=>rfl) L
theorem PJ.sortItems(h:PJ c p L){m:List IT}(hp:m.Perm (L.map pY)) (hm:BF m):(mw L).map pY=m:=by
 refine mv (R:=Bef) (λa b=>Bef.asymm) (((aA _ L).map pY).trans hp.symm) ?_ hm;refine List.pairwise_map.2 (wi (lt:=ltc λx y:Rec=>cE x.2.2 y.2.2) (R:=λa b=>Bef (pY a) (pY b)) (Q:=λa b=>a.1<b.1) (λa b c=>Bef.trans) (λx y hxy hlt=>?_) (λx y hxy hlt=>?_) L h.sort)
 ·have hlt:ltc cE x.2.2 y.2.2=true:=hlt;rw[Bk]at hlt;unfold Bef pY;dsimp only;omega
 ·have hlt:ltc cE x.2.2 y.2.2=false:=hlt;rw[DY]at hlt;unfold Bef pY;dsimp only;omega
theorem PJ.sorted_ok(h:PJ c p L) (_hc:c<=900):Am.sortP p=some (jg p (DZ (L.map bN))):=by
 have hl:=h.len;obtain⟨m,hh,hmp⟩:=h.heap;have hml:m.length=L.length:=by rw[hmp.length_eq,PR]
 have hms:=h.sortItems hmp hh.sort;have hsl:(mw L).length=L.length:=(aA _ L).length_eq;refine iZ.1 ?_;unfold Am.sortP O7;rw[hh.sorted (by omega),PS];unfold be;dsimp only;have ho:=h.of (xs:=mw L) (λx hx=>(aA _ L).mem_iff.1 hx) (by omega);rw[uf]at ho;unfold ofP at ho;have hmi:m.map (·.1)=(mw L).map (·.1):=by rw[<-hms,QN];rfl
 refine eI m (λi (out:List Int)=>(((m.length:Nat):Int),((i:Nat):Int),p.cf,p.nx,p.most,p.size,p.free,p.n,p.b,p.t,p.sl,p.it,p.hp,p.ix,p.w,p.pl,p.ids,out,m)) (λi out=>out=(m.take i).map (·.1)) (λi out hi hinv=>?_) (λout hinv=>?_) (b0:=[]) rfl (by omega)
 ·have h1:out.length=i:=by rw[hinv,PR,Qb];omega
  unfold O6;dsimp only;rw[PT (by omega),aZ,PT (by omega),aC,PY,PT hi,aC,PT ⟨by unfold LIM;omega,by unfold LEN;omega⟩,aC,Y4 (i:=i) (by omega),C6,F9,eJ hi];exact⟨_,rfl,by rw[cu hi,PV,hinv];rfl⟩
 ·rw[Ro]at hinv;unfold O6 V5;dsimp only;rw[Qw (by omega),dV,hinv,hmi,ho,N4,PS,C6,E5]
def hY(L:List Rec) (n:List UInt8):List Rec:=jH (ltc λx y:Rec=>cS x.2.2 y.2.2) (L.filter λx=>isN n x.2.2)
theorem ug(L:List Rec) (n:List UInt8):(hY L n).map bN=xF (L.map bN) n:=by
 unfold hY xF;rw[rB (ca:=λx y:Rec=>cS x.2.2 y.2.2) (cb:=cS) bN (λ_ _=>rfl),Su];rfl
theorem PJ.sendIds(h:PJ c p L){m:List R17}(hp:m.Perm (L.map rowR)) (hm:jJ m) (n:List UInt8):(hY L n).map (·.1)=Ej n m:=by
 have hs:=fV hm n;have key:(hY L n).map (λx=>(rowR x).2)=cL n m:=by
  refine mv (R:=λa b:PlD=>a.1<b.1) (λa b h1 h2=>by omega) ?_ ?_ hs
  ·refine((aA _ _).map _).trans ?_;unfold cL;have h1:(L.filter λx=>isN n x.2.2).map (λx=>(rowR x).2)=((L.map rowR).filter λr=>decide (r.1=n)).map (·.2):=by
    rw[Su,QN];rfl
   rw[h1];exact((hp.filter _).map _).symm
  ·refine List.pairwise_map.2 (wi (lt:=ltc λx y:Rec=>cS x.2.2 y.2.2) (R:=λa b=>(rowR a).2.1<(rowR b).2.1) (Q:=λa b=>a.2.2.2.2.2.1≠b.2.2.2.2.2.1) (λa b c h1 h2=>Int.lt_trans h1 h2) (λx y hxy hlt=>?_) (λx y hxy hlt=>?_) _ ?_)
   ·have hlt:ltc cS x.2.2 y.2.2=true:=hlt;rw[Bs]at hlt;exact hlt
   ·have hlt:ltc cS x.2.2 y.2.2=false:=hlt;rw[Eh]at hlt;show y.2.2.2.2.2.1<x.2.2.2.2.2.1;omega
   ·rw[List.pairwise_filter];exact h.sd.imp fun {a b} hab ha hb e=>hab ⟨(PN ha).trans (PN hb).symm,e⟩
 unfold Ej;rw[<-key,QN];rfl
theorem PJ.sender_ok(h:PJ c p L) (hc:c<=900) (n:List UInt8):BH p n=some (jg p (xF (L.map bN) n)):=by
 have hl:=h.len;obtain⟨m,hx,hmp⟩:=h.send;have hsl:(hY L n).length<=L.length:=by
  rw[show(hY L n).length=(L.filter λx=>isN n x.2.2).length from(aA _ _).length_eq];exact Sb ..
 have ho:=h.of (xs:=hY L n) (λx hx=>(List.mem_filter.1 ((aA _ _).mem_iff.1 hx)).1) (by omega);rw[ug,h.sendIds hmp hx.sort]at ho;unfold ofP at ho;unfold BH O8;rw[hx.list (by omega),PS];dsimp only;rw[ho];rfl
theorem PJ.expired_ok(h:PJ c p L) (hc:c<=900) (ht tm:Int):Nw p ht tm=some (jg p (Br p.cf (L.map bN) ht tm)):=by
 have hl:=h.len;have hlat:∀x:Rec,Ca p.b p.t ht tm (En x)=mX p.cf ht tm x.2.2:=λx=>by
  unfold Ca mX;rw[h.ttl.1,h.ttl.2];rfl
 have e1:Bp p.b p.t ht tm (L.map En)=(L.filter λx=>mX p.cf ht tm x.2.2).map (·.1):=by
  unfold Bp;rw[Su,QN];have:(Ca p.b p.t ht tm∘En)=λx:Rec=>mX p.cf ht tm x.2.2:=funext hlat
  rw[this];rfl
 have e2:((L.filter λx=>mX p.cf ht tm x.2.2).map bN).map (·.1)=Br p.cf (L.map bN) ht tm:=by
  unfold Br;rw[Su];rfl
 have hfl:(L.filter λx=>mX p.cf ht tm x.2.2).length<=L.length:=Sb ..;have ho:=h.of (xs:=L.filter λx=>mX p.cf ht tm x.2.2) (λx hx=>(List.mem_filter.1 hx).1) (by omega);rw[<-e1]at ho;unfold ofP at ho;have hel:((L.filter λx=>mX p.cf ht tm x.2.2).map bN).length<=L.length:=by rw[PR];exact hfl
 generalize (L.filter λx=>mX p.cf ht tm x.2.2).map bN=es at ho e2 hel;refine iZ.1 ?_;unfold Nw M8;rw[KQ h.wait (by omega),PS];dsimp only;rw[ho,PS];unfold jg aO;dsimp only;refine eI es (λi (out:List KD)=>(((es.length:Nat):Int),((i:Nat):Int),p.cf,p.nx,p.most,p.size,p.free,p.n,p.b,p.t,out,es,p.sl,p.it,p.hp,p.ix,p.w,p.pl,p.ids)) (λi out=>out=(es.take i).map (·.1)) (λi out hi hinv=>?_) (λout hinv=>?_) (b0:=[]) rfl (by omega)
 ·have h1:out.length=i:=by rw[hinv,PR,Qb];omega
  unfold N0;dsimp only;rw[PT (by omega),aZ,PT (by omega),aC,PY,PT hi,aC,PT ⟨by unfold LIM;omega,by unfold LEN;omega⟩,aC,Y4 (i:=i) (by omega),C6,F9,eJ hi];exact⟨_,rfl,by rw[cu hi,PV,hinv];rfl⟩
 ·rw[Ro]at hinv;unfold N0;dsimp only;rw[Qw (by omega),dV,C6,E5,hinv,e2]
def P6(cf:eu):PP:=⟨cf,cf.1,0,[],-1,[],[],[],0,cf.2.2.2.2.1,cf.2.2.2.2.2.1,[],[],[],0⟩
def Ip(p:PP):eu×Int×Int×List SlD×Int×List IT×List (Int×Int)×IxD×Int×Int×Int×List W3×List (Int×HD)×List (List UInt8×Int)×Int:=
 (p.cf,p.most,p.size,p.sl,p.free,p.it,p.hp,p.ix,p.n,p.b,p.t,p.w,p.pl,p.ids,p.nx)
def LG(c:eu):eu:=if hU c then c else N6
theorem FA{cf:eu}(h:hU cf):PJ 0 (P6 cf) []:=
 {cfg:=h,most:=rfl,ttl:=⟨rfl,rfl⟩,sort:=List.Pairwise.nil,num:=by simp,nx:=⟨Tg _,Tg _⟩,slab:=sj0,heap:=⟨[],hh0,List.Perm.refl _⟩,send:=⟨[],xj0,List.Perm.refl _⟩
  wait:=⟨List.Perm.refl _,List.Pairwise.nil,PW _,by simp⟩,place:=List.Perm.refl _,keys:=List.Perm.refl _,kd:=List.Pairwise.nil,sd:=List.Pairwise.nil
  lim:=by have:=h.max;exact⟨by simp only[P6,QF];omega,by simp only[P6,Qs,bG,List.sum_nil];omega⟩,ents:=by simp}
theorem FB{cf:eu}(hr:KS cf):ap cf=some (Ip (P6 (LG cf))):=by
 have hc1:∀d:eu,hU d->aM d=some (Ip (P6 d)):=λd hd=>by
  have:=hd.max;unfold aM jA jB cW fp;rw[PS,PS,PS,PS,Int.max_eq_left (by omega),Int.min_eq_left (by omega)];rfl
 unfold ap LG;rw[tT hr,PS];by_cases h:hU cf
 ·rw[Qx h,Qx h];exact hc1 cf h
 ·rw[Ql h,Ql h];show(S5).bind _=_;rw[pQ];exact hc1 N6 pS
theorem hU.range{c:eu}(h:hU c) (hp:0<=c.2.2.2.2.2.2.2.2.2.1/\c.2.2.2.2.2.2.2.2.2.1<18446744073709551616):KS c:=by
 refine⟨λi x hx=>?_,hp⟩;have h0:1<=c.1/\c.1<=512:=PN (h.1 0 (by omega));have h1:1<=c.2.1/\c.2.1<=1048576:=PN (h.1 1 (by omega));have h2:1<=c.2.2.1/\c.2.2.1<=4096:=PN (h.1 2 (by omega));have h3:0<=c.2.2.2.1/\c.2.2.2.1<=1024:=PN (h.1 3 (by omega));have h4:0<=c.2.2.2.2.1/\c.2.2.2.2.1<=1073741824:=PN (h.1 4 (by omega));have h5:0<=c.2.2.2.2.2.1/\c.2.2.2.2.2.1<=1073741824:=PN (h.1 5 (by omega));have h7:1<=c.2.2.2.2.2.2.2.1/\c.2.2.2.2.2.2.2.1<=1048576:=PN (h.1 7 (by omega));have h8: -1<=c.2.2.2.2.2.2.2.2.1/\c.2.2.2.2.2.2.2.2.1<=1125899906842624:=PN (h.1 8 (by omega));have h10:0<=c.2.2.2.2.2.2.2.2.2.2.1/\c.2.2.2.2.2.2.2.2.2.2.1<=7:=PN (h.1 10 (by omega));have h11:1<=c.2.2.2.2.2.2.2.2.2.2.2/\c.2.2.2.2.2.2.2.2.2.2.2<=8:=PN (h.1 11 (by omega));unfold BZ at hx;split at hx <;> first | (injection hx with hx;omega) | cases hx
end
abbrev Ans{α:Type}(o:Option α):Prop:=Ok o λ_=>True
theorem bp(x:Int){k:Int}(h0:0<=k) (h1:k<=32):Ans (C8 x k):=by
 have w:D1 (32-k)=32-k:=I4 (by omega) (by omega);simp only[Ans,C8,w,M1,C6,PX];exact⟨h0,by omega,trivial⟩
theorem kY{α β:Type}{o:Option α}{f:α->Option β}{p:β->Prop}(h:Ans o) (k:∀r,Ok (f r) p):Ok (o.bind f) p:=by
 rw[D6];exact h.mono λr _=>k r
theorem KX(b0 b1 b2:Vector Int 8):Ans (R3 0 b0 b1 b2):=by
 unfold R3;refine S2 (λn v=>∃i:Nat,i+n=8/\v.1=(i:Int)) ?_ ⟨0,rfl,rfl⟩ (n:=8) (by omega);rintro n ⟨v,b0,b1,b2⟩ ⟨i,hi,rfl⟩;simp only[T0,Y4 (i:=i) (by omega),K6,M1,C6,F9,E5,PX,Qa,PY];refine⟨λh=>⟨by omega,by omega,by omega,by omega,by omega,by omega,n-1,by omega,i+1,by omega,rfl⟩,λ_=>trivial⟩
theorem KY(b0 b1:Vector Int 8) (b2 b3:Vector Int 64) (b4:Vector Int 8):Ans (R4 0 b0 b1 b2 b3 b4):=by
 unfold R4;refine S2 (λn v=>∃i:Nat,i+n=64/\v.1=(i:Int)) ?_ ⟨0,rfl,rfl⟩ (n:=64) (by omega);rintro n ⟨v,b0,b1,b2,b3,b4⟩ ⟨i,hi,rfl⟩;simp only[T2,Y4 (i:=i) (by omega)];rw[K6];refine⟨λh=>?_,λ_=>?_⟩
 ·have h':(i:Int)<64:=PN h;refine kY (bp _ (by omega) (by omega)) λr2=>kY (bp _ (by omega) (by omega)) λr3=>kY (bp _ (by omega) (by omega)) λr4=>?_;simp only[M1,D6,C6,F9,PX,PY];refine⟨by omega,by omega,by omega,by omega,(bp _ (by omega) (by omega)).mono λr5 _=>(bp _ (by omega) (by omega)).mono λr6 _=>(bp _ (by omega) (by omega)).mono λr7 _=>⟨n-1,by omega,i+1,by omega,rfl⟩⟩
 ·rw[N4];exact KX _ _ _
theorem KZ(b0 b1:Vector Int 8) (b2:Vector Int 64):Ans (R5 16 b0 b1 b2):=by
 unfold R5;refine S2 (λn v=>∃i:Nat,i+n=64/\16<=i/\v.1=(i:Int)) ?_ ⟨16,rfl,by omega,rfl⟩ (n:=48) (by omega);rintro n ⟨v,b0,b1,b2⟩ ⟨i,hi,h16,rfl⟩;have w1:D1 ((i:Int)-15)=(i:Int)-15:=I4 (by omega) (by omega);have w2:D1 ((i:Int)-2)=(i:Int)-2:=I4 (by omega) (by omega);have w3:D1 ((i:Int)-7)=(i:Int)-7:=I4 (by omega) (by omega);have w4:D1 ((i:Int)-16)=(i:Int)-16:=I4 (by omega) (by omega);simp only[T4,Y4 (i:=i) (by omega),w1,w2,w3,w4,K6,M1,D6,C6,N4,F9,E5,PX,Qa,PY];refine⟨λh=>⟨by omega,by omega,by omega,by omega,(bp _ (by omega) (by omega)).mono λr5 _=>(bp _ (by omega) (by omega)).mono λr6 _=>⟨by omega,by omega,(bp _ (by omega) (by omega)).mono λr7 _=>(bp _ (by omega) (by omega)).mono λr8 _=>⟨by omega,by omega,by omega,by omega,n-1,by omega,i+1,by omega,by omega,rfl⟩⟩⟩,λ_=>?_⟩;unfold T3;exact kY ⟨_,rfl,trivial⟩ λr=>KY _ _ _ _ _
theorem BI(s:Vector Int 8){b:List UInt8}(hb:64<=b.length):Ans (R6 s b):=by
 unfold R6 aU;refine S2 (λn v=>∃i:Nat,i+n=16/\v.1=b/\v.2.1=(i:Int)) ?_ ⟨0,rfl,rfl,rfl⟩ (n:=16) (by omega);rintro n ⟨v0,v,b0,b1,b2⟩ ⟨i,hi,h0,h1⟩;dsimp only at h0 h1⊢;subst h0 h1;have w0:D1 (4*(i:Int))=4*(i:Int):=I4 (by omega) (by omega);have w1:D1 (4*(i:Int)+1)=4*(i:Int)+1:=I4 (by omega) (by omega);have w2:D1 (4*(i:Int)+2)=4*(i:Int)+2:=I4 (by omega) (by omega);have w3:D1 (4*(i:Int)+3)=4*(i:Int)+3:=I4 (by omega) (by omega);simp only[T6,Y4 (i:=i) (by omega),w0,w1,w2,w3,K6,M1,C6,N4,F9,E5,PX,Qa,PY];refine⟨λh=>⟨by omega,by omega,by omega,by omega,by omega,by omega,n-1,by omega,i+1,by omega,trivial,rfl⟩,λ_=>?_⟩;unfold T5;exact KZ _ _ _
theorem La(b0:Vector UInt8 32) (b1:Vector Int 8):Ans (P7 b0 b1):=by
 unfold P7 bC;refine S2 (λn v=>∃i:Nat,i+n=32/\v.1=(i:Int)) ?_ ⟨0,rfl,rfl⟩ (n:=32) (by omega);rintro n ⟨v,b0,b1,b2⟩ ⟨i,hi,rfl⟩;have e1:Int.tdiv (i:Int) 4=((i / 4:Nat):Int):=by rw[Int.tdiv_eq_ediv_of_nonneg (by omega)];omega
 have e2:Int.tmod (i:Int) 4=((i%4:Nat):Int):=by rw[Int.tmod_eq_emod_of_nonneg (by omega)];omega
 dsimp only;unfold X8;rw[K6];refine⟨λh=>?_,λ_=>(C6 _ _).2 trivial⟩;have h':(i:Int)<32:=PN h;have w0:D1 (Int.tdiv (i:Int) 4)=((i / 4:Nat):Int):=by rw[e1];exact I4 (by omega) (by omega)
 have w1:D1 (Int.tmod (i:Int) 4*8)=((i%4:Nat):Int)*8:=by rw[e2];exact I4 (by omega) (by omega)
 have w2:D1 (24-((i%4:Nat):Int)*8)=24-((i%4:Nat):Int)*8:=I4 (by omega) (by omega);simp only[w0,w1,w2,Y4 (i:=i) (by omega),M1,C6,F9,PX,PY];refine⟨by omega,by omega,by omega,by omega,by omega,ml _,n-1,by omega,i+1,by omega,rfl⟩
theorem Lb(b0:Vector UInt8 32){l:List UInt8}(hl:l.length%64=0) (hb:l.length<4611686018427387904):Ans (P8 b0 l):=by
 unfold P8 bD;refine S2 (λn v=>∃i:Nat,i*64+n=l.length/\v.1=((i*64:Nat):Int)/\v.2.2.2=l) ?_ ⟨0,by omega,rfl,rfl⟩ (n:=l.length) (by omega);rintro n ⟨v,b0,b1,l'⟩ ⟨i,hi,h1,h2⟩;simp only at h1 h2;subst h1 h2;have w0:D1 (((i*64:Nat):Int)+64)=(((i+1)*64:Nat):Int):=by rw[I4] <;> omega
 simp only[X9,w0,K6,M1,D6,C6,N4,F9,E5,PX,Qa,PY];refine⟨λh=>⟨by omega,(BI _ ?_).mono λr _=>⟨n-64,by omega,i+1,by omega,rfl,trivial⟩⟩,λ_=>La _ _⟩;rw[Qk,Qb];omega
theorem Lc(m:Int) (b0:Vector UInt8 32){l:List UInt8}(hl:l.length%64=56) (hb:l.length<1152921504606846976) (hb2:l.length<140737488355000):Ans (V6 m 7 b0 l):=by
 unfold V6;refine S2 (λn v=>n<=8/\v.2.1=(n:Int)-1/\v.2.2.2.length+n=l.length+8) ?_ ⟨by omega,rfl,rfl⟩ (n:=8) (by omega);rintro n ⟨m,k,b0,l'⟩ ⟨h8,h1,h2⟩;simp only at h1 h2;subst h1;have w0:D1 ((n:Int)-1-1)=(n:Int)-1-1:=I4 (by omega) (by omega);have w1:D1 (8*((n:Int)-1))=8*((n:Int)-1):=I4 (by omega) (by omega);simp only[Y0,w0,w1,K6,M1,C6,N4,F9,E5,PX,Qa];refine⟨λh=>⟨by omega,ml _,⟨by unfold LIM;omega,by unfold LEN;omega⟩,n-1,by omega,by omega,by omega,?_⟩,λh=>Lb _ (by omega) (by omega)⟩;simp only[PU,Qg,QF];omega
theorem Er{l:List UInt8}(hb:l.length<140737488350000):Ans (X0 l):=by
 unfold X0;simp only[Ans,M1,PX];refine⟨⟨by unfold LIM;omega,by unfold LEN;omega⟩,⟨by unfold LIM;omega,by unfold LEN;omega⟩,?_⟩;unfold bE;refine S2 (λn v=>v.1=l/\n<64/\(v.2.2.length+n)%64=56/\v.2.2.length<=l.length+64/\v.2.2.length+n<=l.length+64) ?_ (n:=(55+64-l.length%64)%64) ⟨rfl,by omega,by simp;omega,by simp,by simp;omega⟩ (by omega);rintro n ⟨v0,b0,l'⟩ ⟨h0,h1,h2,h3,h4⟩;dsimp only at h0 h2 h3 h4⊢;subst h0;have e2:Int.tmod (((List.length l'):Nat):Int) 64=((l'.length%64:Nat):Int):=by rw[Int.tmod_eq_emod_of_nonneg (by omega)];omega
 simp only[Y2,e2,K6,M1,C6,N4,F9,E5,PX,Qa,Qf,Qj];refine⟨λh=>⟨⟨by unfold LIM;omega,by unfold LEN;omega⟩,n-1,by omega,trivial,by omega,?_,?_,?_⟩,λh=>?_⟩
 ·simp only[PU,Qg,QF];omega
 ·simp only[PU,Qg,QF];omega
 ·simp only[PU,Qg,QF];omega
 ·unfold Y1;exact Lc _ _ (by omega) (by omega) (by omega)
def FC:List (List UInt8):=[[97,110,110],[98,111,98],[101,118,101],[122,111,101],[110,101,119],[120,45,49]]
theorem Ld{L:List Int}{k:Int}{s:A7}(hs:Bo L k s) (hk:k<4611686018427387904):Ok (U8 s) λr=>Bo L (k+1) r.1/\s.2<r.1.2/\(r.2.length<=3/\r.2∈FC):=by
 unfold U8;rw[D6];refine(fw hs (by omega) (by omega) hk).mono ?_;rintro⟨s1,i⟩ ⟨h1,h2,h3,h4⟩;dsimp only at h1 h2 h3 h4⊢;simp only[M1,C6,PX];refine⟨⟨h3,h4⟩,by omega,h1,h2,?_⟩;have:i=0\/i=1\/i=2\/i=3\/i=4\/i=5:=by omega
 rcases this with rfl|rfl|rfl|rfl|rfl|rfl <;> decide
def Py(e:o8):Prop:=e.2.1.length<=8/\e.2.2.1.length<=3/\(0<=e.2.2.2.1/\e.2.2.2.1<4)/\(0<=e.2.2.2.2.1/\e.2.2.2.2.1<50)/\(0<=e.2.2.2.2.2.1/\e.2.2.2.2.2.1<5)/\(0<=e.2.2.2.2.2.2.1/\e.2.2.2.2.2.2.1<9)/\(0<=e.2.2.2.2.2.2.2.1/\e.2.2.2.2.2.2.2.1<30)/\(0<=e.2.2.2.2.2.2.2.2.1/\e.2.2.2.2.2.2.2.2.1<1000)/\e.2.2.2.2.2.2.2.2.2.length<=2
theorem HM{L:List Int}{k:Int}{s:A7}(hs:Bo L k s) (hk:k<1000000000000) (h0:0<=k):Ok (R7 s) λr=>Bo L (k+19) r.1/\s.2<r.1.2/\Py r.2/\(r.2.2.2.2.2.2.2.2.2.1<9/\r.2.2.2.1∈FC):=by
 unfold R7;rw[D6];refine(fw hs (by omega) (by omega) (by omega)).mono ?_;rintro⟨s1,n⟩ ⟨h1,h2,h3,h4⟩;dsimp only at h1 h2 h3 h4⊢;simp only[M1,PX];refine⟨⟨h3,by omega,by omega,by omega⟩,?_⟩;unfold aW;refine S2 (λm v=>∃(i:Nat) (l:List UInt8),l.length<=8/\i+m=l.length/\Bo L (k+1+i) v.2.2.1/\s.2<v.2.2.1.2/\v.1=(l.length:Int)/\v.2.1=(i:Int)/\v.2.2.2.2=l) ?_ ⟨0,List.replicate (Int.toNat n) (0:UInt8),by simp;omega,Qo _,by simpa using h1,h2,rfl,rfl,rfl⟩ (by simp;omega);rintro m ⟨v0,v1,sx,ex,l'⟩ ⟨i,l,hl,hi,hn,hlt,g1,g2,g3⟩;dsimp only at hn hlt g1 g2 g3⊢;subst g1 g2 g3;simp only[T9,Y4 (i:=i) (by omega),K6,M1,D6,C6,N4,F9,E5,PX,Qa,PY];refine⟨λh=>?_,λh=>?_⟩
 ·refine(fw hn (by omega) (by omega) (by omega)).mono ?_;rintro⟨s2,x⟩ ⟨q1,q2,q3,q4⟩;dsimp only at q1 q2 q3 q4⊢;refine⟨by omega,ml _,by omega,m-1,by omega,i+1,_,by rw[QW];exact hl,by rw[QW];omega,?_,by omega,by rw[QW],rfl,rfl⟩;exact q1.le (by omega)
 ·have hn9:=hn.le (m:=k+9) (by omega);unfold T8;rw[D6];refine(Er (by omega)).mono λkey _=>?_;rw[D6];refine(Ld hn9 (by omega)).mono ?_;rintro⟨s3,nm⟩ ⟨a1,a2,a3⟩;dsimp only at a1 a2 a3⊢;rw[D6];refine(fw a1 (by omega) (by omega) (by omega)).mono ?_;rintro⟨s4,x4⟩ ⟨b1,b2,b3,b4⟩;dsimp only at b1 b2 b3 b4⊢;rw[D6];refine(fw b1 (by omega) (by omega) (by omega)).mono ?_;rintro⟨s5,x5⟩ ⟨c1,c2,c3,c4⟩;dsimp only at c1 c2 c3 c4⊢;rw[D6];refine(fw c1 (by omega) (by omega) (by omega)).mono ?_;rintro⟨s6,x6⟩ ⟨d1,d2,d3,d4⟩;dsimp only at d1 d2 d3 d4⊢;rw[D6];refine(fw d1 (by omega) (by omega) (by omega)).mono ?_;rintro⟨s7,x7⟩ ⟨e1,e2,e3,e4⟩;dsimp only at e1 e2 e3 e4⊢;rw[D6];refine(fw e1 (by omega) (by omega) (by omega)).mono ?_;rintro⟨s8,x8⟩ ⟨f1,f2,f3,f4⟩;dsimp only at f1 f2 f3 f4⊢;rw[D6];refine(fw f1 (by omega) (by omega) (by omega)).mono ?_;rintro⟨s9,x9⟩ ⟨i1,i2,i3,i4⟩;dsimp only at i1 i2 i3 i4⊢;rw[D6];refine(fw i1 (by omega) (by omega) (by omega)).mono ?_;rintro⟨s10,x10⟩ ⟨j1,j2,j3,j4⟩;dsimp only at j1 j2 j3 j4⊢;have w4:dX x4=x4:=jG (by omega) (by omega);have w5:dX x5=x5:=jG (by omega) (by omega);have w6:dX x6=x6:=jG (by omega) (by omega);rw[w4,w5,w6];unfold aV;refine S2 (λm v=>∃(sx:A7) (ps:List Int),m<=2/\ps.length+m<=2/\Bo L (k+19-m) sx/\s.2<sx.2/\v=((m:Int),sx,ex,key,nm,x4,x5,x6,x7,x8,x9,l',ps)) ?_ (n:=x10.toNat) ⟨s10,[],by omega,by simp;omega,j1.le (by omega),by omega,by rw[Ri (by omega)]⟩ (by omega);rintro m v ⟨sx,ps,hm,hps,hsx,hlt2,rfl⟩;dsimp only;have w0:D1 ((m:Int)-1)=(m:Int)-1:=I4 (by omega) (by omega);simp only[T7,w0,K6,M1,D6,C6,F9,E5,PX,Qa];refine⟨λh=>?_,λh=>?_⟩
  ·refine(fw hsx (by omega) (by omega) (by omega)).mono ?_;rintro⟨s11,x11⟩ ⟨k1,k2,k3,k4⟩;dsimp only at k1 k2 k3 k4⊢;refine⟨⟨by unfold LIM;omega,by unfold LEN;omega⟩,m-1,by omega,s11,ps++[D1 (1+x11)],by omega,?_,k1.le (by omega),by omega,?_⟩
   ·simp;omega
   ·have:((m-1:Nat):Int)=(m:Int)-1:=by omega
    rw[this]
  ·exact⟨hsx.le (by omega),hlt2,⟨hl,a3.1,⟨b3,b4⟩,⟨c3,c4⟩,⟨d3,d4⟩,⟨e3,e4⟩,⟨f3,f4⟩,⟨i3,by dsimp only;omega⟩,by dsimp only;omega⟩,i4,a3.2⟩
theorem mY{e:o8}(h:e.2.2.2.2.2.2.2.2.2.length<9223372036854775807):B8 e e=some true:=by
 have hk:U.beq (.arr 32 .byte) e.1 e.1=true:=(U.beq_iff _ _ rfl _ _).2 rfl;simp only[B8,hk,R8,pO h,sel,decide_true,PS]
section
variable {P:Program}{a:Act}{w w':World}{Q:Exit->Act->World->Prop}{ops:Array Oper}{rest:List Oper}{o:Oper}
theorem Et{v:Value}(hg:o.guard=none) (h:(execOp a.eval o).run P w= .ok (.value v) w') (hn:wpList P ops Q rest (a.put o.dst v) w'):wpList P ops Q (o::rest) a w:=by
 refine wpList_step λK hK=>?_;have hw:Region.wanted o (yielded ops a.tmps)=true:=by unfold Region.wanted;rw[hg]
 rw[Qx hw];exact J6 h (hK _ _ hn)
theorem BK(hg:o.guard=none) (h:(execOp a.eval o).run P w= .ok .skip w') (hn:wpList P ops Q rest (a.put o.dst undef) w'):wpList P ops Q (o::rest) a w:=by
 refine wpList_step λK hK=>?_;have hw:Region.wanted o (yielded ops a.tmps)=true:=by unfold Region.wanted;rw[hg]
 rw[Qx hw];exact ip h (hK _ _ hn)
theorem rE{k:Nat}{v:Value}(h:k<a.tmps.size):(a.put (some k) v).tmps.getD k undef=v:=by
 simp[Act.put,h]
theorem kh{k j:Nat}{v:Value}(h:j≠k):(a.put (some k) v).tmps.getD j undef=a.tmps.getD j undef:=by
 simp[Act.put,Ne.symm h]
theorem fX{k:Nat}{v:Value}:(a.put (some k) v).tmps.size=a.tmps.size:=by simp[Act.put]
theorem eM{x:Operand}(ho:o.op= .move x):(execOp a.eval o).run P w= .ok (.value (a.eval x)) w:=by unfold execOp;rw[ho];rfl
theorem rF{x:Operand}(ho:o.op= .assign x):(execOp a.eval o).run P w= .ok (.value (a.eval x)) w:=by unfold execOp;rw[ho];rfl
theorem eN{t e:TypeId}{x y:Operand}{i:TI}{ad:Addr}{m c:Nat}{kd:IntKind}{n:Int}(ho:o.op= .indexAddr t x y) (hT:TOk P e i) (hu:P.underlying t=some (.slice e)) (hx:a.eval x= .slice (some ad) m c) (hy:a.eval y= .int kd n) (h0:0<=n) (h1:n<m) :
  (execOp a.eval o).run P w= .ok (.value (.pointer (some (ad.add (n.toNat*i.size))))) w:=by
 have hsz:=hT.sizeOf w;have hr:(Instr.indexAt t (.slice (some ad) m c) (.int kd n)).run P w= .ok (.pointer (some (ad.add (n.toNat*i.size)))) w:=by
  simp[Instr.indexAt,asIntOf,run_underlying hu,h0,h1,hsz]
 unfold execOp;rw[ho];simp only[hx,hy,Sem.run_bind,hr,Result.andThen_ok,Sem.run_pure]
theorem qa{t:TypeId}{x:Operand}{f:Nat}{ad:Addr}{i:TI}{fs:List (Nat×Nat)}{p:Nat×Nat}(ho:o.op= .fieldAddr t x f) (hT:TOk P t i) (hk:i.k= .struct fs) (hp:fs[f]?=some p) (hx:a.eval x= .pointer (some ad)) :
  (execOp a.eval o).run P w= .ok (.value (.pointer (some (ad.add p.1)))) w:=by
 obtain⟨d,hu,hdk⟩:=hT.und;rw[hk]at hdk;obtain⟨fields,rfl,hmap,hall⟩:=hdk;rw[<-hmap,List.getElem?_map]at hp;obtain⟨fl,hfl,rfl⟩:=Option.map_eq_some_iff.1 hp;have hfl':fields[f]?=some fl:=by simpa using hfl
 have hpos:=List.all_eq_true.1 hall fl (List.mem_of_getElem? hfl);simp only[PM,PX]at hpos;obtain⟨inf,hinf⟩:=Option.isSome_iff_exists.1 hpos.2;have hsz:(Go.sizeOf fl.type).run P w= .ok (P.cellsOf fl.type) w:=run_sizeOf w hinf;have hne:¬P.cellsOf fl.type=0:=by omega
 unfold execOp;rw[ho];simp only[hx,Instr.fieldAt,Sem.run_bind,run_underlying hu,Result.andThen_ok,hfl',Instr.sureAddr,Sem.run_pure,fieldPlace,hsz,hne,Qr]
theorem fY{t:TypeId}{x:Operand}{ad:Addr}{i:TI}{v:Value}(ho:o.op= .load t x) (hT:TOk P t i) (h1:i.size=1) (hk:i.agg=false) (hx:a.eval x= .pointer (some ad)) (hc:w.cell? ad=some v) :
  (execOp a.eval o).run P w= .ok (.value v) w:=by
 have hr:=gE (w:=w) hT (xs:=[v]) (ad:=ad) (by rw[h1];rfl) (λj u hj=>by
  cases j with
  |zero=>rw[add_zero];simp at hj;rw[<-hj];exact hc
  |succ j=>simp at hj)
 have hl:=hr.2 hk v rfl;unfold execOp;rw[ho];simp only[hx,Instr.loadAt,Instr.sureAddr,Sem.run_bind,Sem.run_pure,Result.andThen_ok,hl]
theorem rG{op:BinOp}{t t':TypeId}{x y:Operand}{k:IntKind}{p q:Int}{r:Value}(ho:o.op= .binOp op t x y t') (hx:a.eval x= .int k p) (hy:a.eval y= .int k q) (hg:(eqGuard op t x y (.int k p) (.int k q)).run P w= .ok () w) (hb:(binOp op t (.int k p) (.int k q)).run P w= .ok r w) :
  (execOp a.eval o).run P w= .ok (.value r) w:=by
 unfold execOp;rw[ho];simp only[hx,hy,Sem.run_bind,hg,Result.andThen_ok,hb];rfl
theorem rH{t:TypeId}{x y:Operand}{ad:Addr}{i:TI}{v u:Value}(ho:o.op= .store t x y) (hT:TOk P t i) (h1:i.size=1) (hx:a.eval x= .pointer (some ad)) (hy:a.eval y=v) (hv:v.oneCell'=true) (hc:w.cell? ad=some u) (hf:w.frozen? ad=false) :
  (execOp a.eval o).run P w= .ok .skip (w.setCells ad.block ad.off [v]):=by
 have hcells:v.cells= #[v]:=by cases v <;> first | rfl | (simp[Value.oneCell']at hv)
 have had:=dw hc;have hs:(storeVar t ad v).run P w= .ok () (w.setCells ad.block ad.off [v]):=by
  rw[had]at hc hf⊢;unfold storeVar;simp only[Sem.run_bind,hT.sizeOf,Result.andThen_ok,hcells,h1,ne_eq,QC,Qg,QF,not_true_eq_false,Qr];exact run_storeCells_cells (P:=P) ad.block ad.off [v] 0 w (λj hj=>by
   have:j=0:=by simp at hj;omega
   subst this;simpa using (by rw[hc];rfl:(w.cell? ⟨ad.block,ad.off,none⟩).isSome=true)) (λj hj=>by
   have:j=0:=by simp at hj;omega
   subst this;simpa using hf) (λz hz=>by simp at hz;rw[hz];exact hv)
 unfold execOp;rw[ho];simp only[hx,hy,Instr.storeAt,Instr.sureAddr,Sem.run_bind,Sem.run_pure,Result.andThen_ok,hs]
theorem nW{k:Nat}{v:Value}:(a.put (some k) v).defers=a.defers:=rfl
end
theorem J4{P:Program}{a:Act}{w w':World}{Q:Exit->Act->World->Prop}{ops:Array Oper}{rest:List Oper}{o:Oper}{v:Value}{d:Nat}(hg:o.guard=none) (hd:o.dst=some d) (hlt:d<a.tmps.size) (h:(execOp a.eval o).run P w= .ok (.value v) w')
  (hn:∀a':Act,a'.tmps.size=a.tmps.size->a'.defers=a.defers->a'.tmps.getD d undef=v->(∀k,k≠d->a'.tmps.getD k undef=a.tmps.getD k undef)->wpList P ops Q rest a' w'):wpList P ops Q (o::rest) a w:=by
 refine Et hg h ?_;rw[hd];exact hn _ fX nW (rE hlt) λk hk=>kh hk
noncomputable def rJ:Code:=cIn (cIn (M0 1 (kV (M0 11 (L5 Tryz.f3)))))
noncomputable def HN:Code:=cIn (kV (M0 2 rJ))
noncomputable def c18:Code:=kV (M0 2 HN)
set_option maxRecDepth 100000 in
theorem NC{a:Act}{w:World}{Q:Exit->Act->World->Prop}{ad ar:Addr}{m c nr cr:Nat}{x b0:Int}(hs:a.tmps.size=179) (h10:a.tmps.getD 10 undef= .slice (some ad) m c) (hm:0<m) (h1:a.tmps.getD 1 undef= .int .u8 x) (hraw:w.cell? (ad.add 32)=some (.slice (some ar) nr cr)) (hnr:0<nr) (hb:w.cell? ar=some (.int .u8 b0)) (hf:w.frozen? ar=false)
  (hQ:∀(v:Value) (a':Act),v.oneCell'=true->a'.tmps.size=179->a'.defers=a.defers->(∀k,(k<90\/99<k)->a'.tmps.getD k undef=a.tmps.getD k undef)->Q .normal a' (w.setCells ar.block ar.off [v])):c18.wp Tryz.prog Q a w:=by
 rw[show c18=_ from rfl];refine wp_region_lit ?_;refine J4 rfl rfl (by omega) (eM rfl) λa1 s1 d1 t90 k1=>?_;have e90:a1.eval (.tmp 90)= .slice (some ad) m c:=t90.trans h10;refine J4 rfl rfl (by omega) (eN (e:=35) rfl (K7 35 _ rfl) Tryz.underlying41 e90 rfl (by decide) (by omega)) λa2 s2 d2 t91 k2=>?_;refine J4 rfl rfl (by omega) (qa rfl (K7 35 _ rfl) rfl rfl t91) λa3 s3 d3 t92 k3=>?_;refine J4 rfl rfl (by omega) (fY rfl (K7 33 _ rfl) rfl rfl t92 (v:=.slice (some ar) nr cr) (by simpa [add_add]using hraw)) λa4 s4 d4 t93 k4=>?_;refine J4 rfl rfl (by omega) (eN (e:=5) rfl (K7 5 _ rfl) Tryz.underlying33 t93 rfl (by decide) (by omega)) λa5 s5 d5 t94 k5=>?_;have z0:ar.add (Int.toNat 0*(ti5).size)=ar:=by simp[Addr.add]
 refine J4 rfl rfl (by omega) (fY rfl (K7 5 _ rfl) rfl rfl t94 (v:=.int .u8 b0) (by rw[z0];exact hb)) λa6 s6 d6 t95 k6=>?_;refine J4 rfl rfl (by omega) (eM rfl) λa7 s7 d7 t96 k7=>?_;have e96:a7.eval (.tmp 96)= .int .u8 x:=by
  show a7.tmps.getD 96 undef=_;rw[t96];show a6.tmps.getD 1 undef=_;rw[k6 1 (by decide),k5 1 (by decide),k4 1 (by decide),k3 1 (by decide),k2 1 (by decide),k1 1 (by decide),h1]
 obtain⟨r1,hr1,hb1⟩:=dA (P:=Tryz.prog) (w:=w) (s:=Z9 0 [] [] []) .or 5 .u8 x 1 rfl (show(dy .or .u8 x 1).wp _ (λr=>∃n,r= .int .u8 n) from⟨_,rfl⟩);obtain⟨n1,rfl⟩:=hr1;refine J4 rfl rfl (by omega) (rG (k:=.u8) rfl e96 rfl rfl hb1) λa8 s8 d8 t97 k8=>?_;obtain⟨r2,hr2,hb2⟩:=dA (P:=Tryz.prog) (w:=w) (s:=Z9 0 [] [] []) .xor 5 .u8 b0 n1 rfl (show(dy .xor .u8 b0 n1).wp _ (λr=>∃n,r= .int .u8 n) from⟨_,rfl⟩);obtain⟨n2,rfl⟩:=hr2;have e95:a8.eval (.tmp 95)= .int .u8 b0:=by
  show a8.tmps.getD 95 undef=_;rw[k8 95 (by decide),k7 95 (by decide),t95]
 refine J4 rfl rfl (by omega) (rG (k:=.u8) rfl e95 t97 rfl hb2) λa9 s9 d9 t98 k9=>?_;have e93:a9.eval (.tmp 93)= .slice (some ar) nr cr:=by
  show a9.tmps.getD 93 undef=_;rw[k9 93 (by decide),k8 93 (by decide),k7 93 (by decide),k6 93 (by decide),k5 93 (by decide),t93]
 refine J4 rfl rfl (by omega) (eN (e:=5) rfl (K7 5 _ rfl) Tryz.underlying33 e93 rfl (by decide) (by omega)) λa10 s10 d10 t99 k10=>?_;have e98:a10.eval (.tmp 98)= .int .u8 n2:=by
  show a10.tmps.getD 98 undef=_;rw[k10 98 (by decide),t98]
 have e99:a10.eval (.tmp 99)= .pointer (some ar):=by
  show a10.tmps.getD 99 undef=_;rw[t99,z0]
 refine BK rfl (rH rfl (K7 5 _ rfl) rfl e99 e98 rfl hb hf) (wpList_nil ?_);refine hQ _ _ rfl ?_ ?_ λk hk=>?_
 ·show a10.tmps.size=179;omega
 ·show a10.defers=a.defers;rw[d10,d9,d8,d7,d6,d5,d4,d3,d2,d1]
 ·show a10.tmps.getD k undef=_;rw[k10 k (by omega),k9 k (by omega),k8 k (by omega),k7 k (by omega),k6 k (by omega),k5 k (by omega),k4 k (by omega),k3 k (by omega),k2 k (by omega),k1 k (by omega)]
noncomputable def c19:Code:=M0 3 HN
noncomputable def c15:Code:=kV HN
noncomputable def c14:Code:=kV rJ
noncomputable def c20:Code:=M0 3 rJ
set_option maxRecDepth 100000 in
theorem ND{a:Act}{w:World}{Q:Exit->Act->World->Prop}{ad ar:Addr}{m c nr cr:Nat}{b0:Int}(hs:a.tmps.size=179) (h10:a.tmps.getD 10 undef= .slice (some ad) m c) (hm:0<m) (hraw:w.cell? (ad.add 40)=some (.slice (some ar) nr cr)) (hnr:0<nr) (hb:w.cell? ar=some (.int .i64 b0)) (hf:w.frozen? ar=false)
  (hQ:∀(v:Value) (a':Act),v.oneCell'=true->a'.tmps.size=179->a'.defers=a.defers->(∀k,(k<100\/107<k)->a'.tmps.getD k undef=a.tmps.getD k undef)->Q .normal a' (w.setCells ar.block ar.off [v])):c19.wp Tryz.prog Q a w:=by
 rw[show c19=_ from rfl];refine wp_region_lit ?_;refine J4 rfl rfl (by omega) (eM rfl) λa1 s1 d1 t90 k1=>?_;have e90:a1.eval (.tmp 100)= .slice (some ad) m c:=t90.trans h10;refine J4 rfl rfl (by omega) (eN (e:=35) rfl (K7 35 _ rfl) Tryz.underlying41 e90 rfl (by decide) (by omega)) λa2 s2 d2 t91 k2=>?_;refine J4 rfl rfl (by omega) (qa rfl (K7 35 _ rfl) rfl rfl t91) λa3 s3 d3 t92 k3=>?_;refine J4 rfl rfl (by omega) (fY rfl (K7 22 _ rfl) rfl rfl t92 (v:=.slice (some ar) nr cr) (by simpa [add_add]using hraw)) λa4 s4 d4 t93 k4=>?_;refine J4 rfl rfl (by omega) (eN (e:=3) rfl (K7 3 _ rfl) Tryz.underlying22 t93 rfl (by decide) (by omega)) λa5 s5 d5 t94 k5=>?_;have z0:ar.add (Int.toNat 0*(ti3).size)=ar:=by simp[Addr.add]
 refine J4 rfl rfl (by omega) (fY rfl (K7 3 _ rfl) rfl rfl t94 (v:=.int .i64 b0) (by rw[z0];exact hb)) λa6 s6 d6 t95 k6=>?_;obtain⟨r1,hr1,hb1⟩:=dA (P:=Tryz.prog) (w:=w) (s:=Z9 0 [] [] []) .add 3 .i64 b0 1 rfl (show(dy .add .i64 b0 1).wp _ (λr=>∃n,r= .int .i64 n) from⟨_,rfl⟩);obtain⟨n1,rfl⟩:=hr1;refine J4 rfl rfl (by omega) (rG (k:=.i64) rfl t95 rfl rfl hb1) λa7 s7 d7 t96 k7=>?_;have e93:a7.eval (.tmp 103)= .slice (some ar) nr cr:=by
  show a7.tmps.getD 103 undef=_;rw[k7 103 (by decide),k6 103 (by decide),k5 103 (by decide),t93]
 refine J4 rfl rfl (by omega) (eN (e:=3) rfl (K7 3 _ rfl) Tryz.underlying22 e93 rfl (by decide) (by omega)) λa8 s8 d8 t97 k8=>?_;have e98:a8.eval (.tmp 106)= .int .i64 n1:=by
  show a8.tmps.getD 106 undef=_;rw[k8 106 (by decide),t96]
 have e99:a8.eval (.tmp 107)= .pointer (some ar):=by
  show a8.tmps.getD 107 undef=_;rw[t97,z0]
 refine BK rfl (rH rfl (K7 3 _ rfl) rfl e99 e98 rfl hb hf) (wpList_nil ?_);refine hQ _ _ rfl ?_ ?_ λk hk=>?_
 ·show a8.tmps.size=179;omega
 ·show a8.defers=a.defers;rw[d8,d7,d6,d5,d4,d3,d2,d1]
 ·show a8.tmps.getD k undef=_;rw[k8 k (by omega),k7 k (by omega),k6 k (by omega),k5 k (by omega),k4 k (by omega),k3 k (by omega),k2 k (by omega),k1 k (by omega)]
set_option maxRecDepth 100000 in
theorem NE{a:Act}{w:World}{Q:Exit->Act->World->Prop}{ad:Addr}{m c i:Nat}{v:Value}(hs:a.tmps.size=179) (h73:a.tmps.getD 73 undef= .slice (some ad) m c) (h75:a.tmps.getD 75 undef= .int .i64 (i:Int)) (hm:i<m) (hv:w.cell? (ad.add i)=some v)
  (hQ:∀a':Act,a'.tmps.size=179->a'.defers=a.defers->a'.tmps.getD 10 undef=v->(∀k,(k≠10/\(k<77\/78<k))->a'.tmps.getD k undef=a.tmps.getD k undef)->Q .normal a' w):c15.wp Tryz.prog Q a w:=by
 rw[show c15=_ from rfl];refine wp_region_lit ?_;refine J4 rfl rfl (by omega) (eN (e:=41) rfl (K7 41 _ rfl) Tryz.underlying44 h73 h75 (by omega) (by omega)) λa1 s1 d1 t77 k1=>?_;refine J4 rfl rfl (by omega) (fY rfl (K7 41 _ rfl) rfl rfl t77 (v:=v) (by simpa [show(MD).size=1 from rfl]using hv)) λa2 s2 d2 t78 k2=>?_;refine J4 rfl rfl (by omega) (rF rfl) λa3 s3 d3 t10 k3=>wpList_nil ?_;refine hQ _ (by omega) (by rw[d3,d2,d1]) (t10.trans t78) λk hk=>?_;rw[k3 k hk.1,k2 k (by omega),k1 k (by omega)]
set_option maxRecDepth 100000 in
theorem Lg{a:Act}{w:World}{Q:Exit->Act->World->Prop}{i n:Int}(hs:a.tmps.size=179) (h75:a.tmps.getD 75 undef= .int .i64 i) (h74:a.tmps.getD 74 undef= .int .i64 n)
  (hQ:∀a':Act,a'.tmps.size=179->a'.defers=a.defers->a'.tmps.getD 76 undef= .bool (decide (i<n))->(∀k,k≠76->a'.tmps.getD k undef=a.tmps.getD k undef)->Q .normal a' w):c14.wp Tryz.prog Q a w:=by
 rw[show c14=_ from rfl];refine wp_region_lit ?_;obtain⟨r1,rfl,hb1⟩:=dA (P:=Tryz.prog) (w:=w) (s:=Z9 0 [] [] []) .lss 3 .i64 i n rfl (show(dy .lss .i64 i n).wp _ (λr=>r= .bool (decide (i<n)))from rfl);refine J4 rfl rfl (by omega) (rG (k:=.i64) rfl h75 h74 rfl hb1) λa1 s1 d1 t76 k1=>wpList_nil ?_;exact hQ _ (by omega) d1 t76 k1
set_option maxRecDepth 100000 in
theorem NF{a:Act}{w:World}{Q:Exit->Act->World->Prop}{i:Int}(hs:a.tmps.size=179) (h75:a.tmps.getD 75 undef= .int .i64 i) (hi:0<=i/\i<1000)
  (hQ:∀a':Act,a'.tmps.size=179->a'.defers=a.defers->a'.tmps.getD 75 undef= .int .i64 (i+1)->(∀k,(k≠75/\k≠108)->a'.tmps.getD k undef=a.tmps.getD k undef)->Q .normal a' w):c20.wp Tryz.prog Q a w:=by
 rw[show c20=_ from rfl];refine wp_region_lit ?_;obtain⟨r1,rfl,hb1⟩:=dA (P:=Tryz.prog) (w:=w) (s:=Z9 0 [] [] []) .add 3 .i64 i 1 rfl (show(dy .add .i64 i 1).wp _ (λr=>r= .int .i64 (D1 (i+1)))from rfl);refine J4 rfl rfl (by omega) (rG (k:=.i64) rfl h75 rfl rfl hb1) λa1 s1 d1 t108 k1=>?_;refine J4 rfl rfl (by omega) (eM rfl) λa2 s2 d2 t75 k2=>wpList_nil ?_;refine hQ _ (by omega) (by rw[d2,d1]) (t75.trans (t108.trans (by rw[I4 (by omega) (by omega)]))) λk hk=>?_;rw[k2 k hk.1,k1 k hk.2]
theorem HO(e:o8):(A9.enc e)[32]?=some (.sl (List.map U.byte.enc e.2.1)):=by
 have h:((U.arr 32 .byte).enc e.1).length=32:=(U.arr 32 .byte).enc_len e.1;show(((U.arr 32 .byte).enc e.1)++_)[32]?=_;rw[List.getElem?_append_right (by omega),h];rfl
theorem BL(e:o8):(A9.enc e)[40]?=some (.sl (List.map (U.int .i64).enc e.2.2.2.2.2.2.2.2.2)):=by
 have h:((U.arr 32 .byte).enc e.1).length=32:=(U.arr 32 .byte).enc_len e.1;show(((U.arr 32 .byte).enc e.1)++_)[40]?=_;rw[List.getElem?_append_right (by omega),h];rfl
section
variable {J:Nat->Nat->Prop}{w:World}
theorem BM{α:Type}{f:α->List DV}{x:α}{l:List α}{v:Value}{y:Value}(hf:f x=[.v y]) (h:DVr J w (.sl ((x::l).map f)) v):∃ad n c,v= .slice (some ad) n c/\0<n/\w.cell? ad=some y/\J ad.block (2*ad.off):=by
 simp only[DVr]at h;obtain⟨A,c,z,xs,h1,h2,h3,h4,h5,h6,h7⟩:=h;obtain⟨ad,rfl,hc⟩:=h6 (by simp);simp only[PQ,D2,hf,E4,DVr]at h7;obtain⟨c0,r,rfl,⟨y0,r0,rfl,⟨rfl,_⟩,rfl⟩,_⟩:=h7;obtain⟨k1,k2⟩:=hc 0 y0 (by simp);rw[add_zero]at k1;exact⟨ad,_,c,h1,by simp,k1,k2⟩
theorem BN{e:o8}{v:Value}(h:DVr J w (.sl [A9.enc e]) v) (hr:e.2.1≠[]) (hp:e.2.2.2.2.2.2.2.2.2≠[]) :
  ∃ad c ar nr cr aq nq cq b0 p0,v= .slice (some ad) 1 c/\w.cell? (ad.add 32)=some (.slice (some ar) nr cr)/\0<nr/\w.cell? ar=some (.int .u8 b0)/\J ar.block (2*ar.off)/\
   w.cell? (ad.add 40)=some (.slice (some aq) nq cq)/\0<nq/\w.cell? aq=some (.int .i64 p0)/\J aq.block (2*aq.off):=by
 simp only[DVr]at h;obtain⟨A,c,z,xs,h1,h2,h3,h4,h5,h6,h7⟩:=h;obtain⟨ad,rfl,hc⟩:=h6 (by simp);simp only[D2]at h7;obtain⟨c0,r,rfl,hd,rfl⟩:=h7;rw[PO]at hc;obtain⟨x1,g1,d1⟩:=hd.get (HO e);obtain⟨x2,g2,d2⟩:=hd.get (BL e);cases hrl:e.2.1 with
 |nil=>exact absurd hrl hr
 |cons b l=>
  cases hpl:e.2.2.2.2.2.2.2.2.2 with
  |nil=>exact absurd hpl hp
  |cons p m=>
   rw[hrl]at d1;rw[hpl]at d2;obtain⟨ar,nr,cr,rfl,q1,q2,q3⟩:=BM (f:=U.byte.enc) rfl d1;obtain⟨aq,nq,cq,rfl,q4,q5,q6⟩:=BM (f:=(U.int .i64).enc) rfl d2;exact⟨ad,c,ar,nr,cr,aq,nq,cq,_,_,h1,(hc _ _ g1).1,q1,q2,q3,(hc _ _ g2).1,q4,q5,q6⟩
end
theorem xK{P:Program}{Q:Exit->Act->World->Prop}{a0:Act}{w0:World}(hm:P.follows .mixedOrders=true){id:Nat}{l:List Oper}(Inv:(Nat->Bool)->Act->World->Prop) (hedge':∀i o,l[i]?=some o->∀e∈jr o,e.on<i)
  (h0:Inv (λ_=>false) a0 {w0 with drawn:=w0.drawn+1})
  (step:∀D a w i o,l[i]?=some o->D i=false->(∀e∈jr o,D e.on=true)->Inv D a w->wpOp P l.toArray Q i (λa' w'=>Inv (λj=>if j=i then true else D j) a' w') a w)
  (fin:∀D a w,(∀i,i<l.length->D i=true)->Inv D a w->Q .normal a w):(Code.region id l.toArray true).wp P Q a0 w0:=by
 let X:Array Bool->Nat->Bool:=λlst j=>lst.getD j false;have key:∀fuel (lst:Array Bool) (a:Act) (w:World),lst.size=l.length->((List.range l.length).countP λi=> !lst.getD i true)=fuel->Inv (X lst) a w->wpAny P .any l.toArray Q fuel lst a w:=by
  intro fuel;have hdef:∀(lst:Array Bool) (i:Nat),lst.size=l.length->i<l.length->lst.getD i true=X lst i:=by
   intro lst i hs hi;simp only[X,Array.getD_eq_getD_getElem?];rw[Array.getElem?_eq_getElem (by omega)];rfl
  have hready:∀(lst:Array Bool) (i:Nat),lst.size=l.length->i∈Region.ready .any l.toArray lst->∃o,l[i]?=some o/\i<l.length/\X lst i=false/\∀e∈jr o,X lst e.on=true:=by
   intro lst i hs hi;simp only[Region.ready,SP,Sy,QC,PM,Qf]at hi;obtain⟨h1,h2,h3⟩:=hi;refine⟨l[i],List.getElem?_eq_getElem h1,h1,by rw[<-hdef lst i hs h1];exact h2,λe hm=>?_⟩;have hg:(l.toArray)[i]?=some l[i]:=by simp[h1]
   rw[hg]at h3;simp only[Qm,Qq]at h3;have h4:=(Array.all_eq_true_iff_forall_mem.1 h3) e (by have:=(List.mem_filter.1 hm).1;simpa using this);have h5:=(List.mem_filter.1 hm).2;simp only[h5,RE,Td]at h4;exact h4
  have hmin:∀(lst:Array Bool),lst.size=l.length->Region.ready .any l.toArray lst=[]->∀i,i<l.length->X lst i=true:=by
   intro lst hs hr i
   induction i using Nat.strongRecOn with
   |_ i ih=>
    intro hi;cases hx:X lst i with
    |true=>rfl
    |false=>
     exfalso;have:i∈Region.ready .any l.toArray lst:=by
      simp only[Region.ready,SP,Sy,QC,PM,Qf];refine⟨hi,by rw[hdef lst i hs hi];exact hx,?_⟩;have hg:(l.toArray)[i]?=some l[i]:=by simp[hi]
      rw[hg];simp only[Qm,Qq];refine Array.all_eq_true_iff_forall_mem.2 λe hm=>?_;cases hb:Region.binds .any e with
      |false=>rfl
      |true=>
       simp only[RE,Td];have hd':e∈jr l[i]:=List.mem_filter.2 ⟨by simpa using hm,hb⟩;have hlt:=hedge' i _ (List.getElem?_eq_getElem hi) e hd';exact ih e.on hlt (by omega)
     rw[hr]at this;cases this
  induction fuel with
  |zero=>
   intro lst a w hs hc hR;have hall:∀i,i<l.length->X lst i=true:=by
    intro i hi;rw[List.countP_eq_zero]at hc;have:=hc i (List.mem_range.2 hi);rw[hdef lst i hs hi]at this;simpa using this
   refine⟨?_,fin _ a w hall hR⟩;rw[SC];intro i hi;obtain⟨o,_,h1,h2,_⟩:=hready lst i hs hi;rw[hall i h1]at h2;cases h2
  |succ fuel ih=>
   intro lst a w hs hc hR;refine⟨λhr=>fin _ a w (hmin lst hs hr) hR,λi hi=>?_⟩;obtain⟨o,ho,hil,hxi,hdi⟩:=hready lst i hs hi;have hxset:∀j,X (lst.setIfInBounds i true) j=if j=i then true else X lst j:=by
    intro j;simp only[X,Array.getD_eq_getD_getElem?,Array.getElem?_setIfInBounds];by_cases e:i=j
    ·subst e;rw[Qx rfl,Qx (by omega),Qx rfl];rfl
    ·rw[Ql e,Ql (λh=>e h.symm)]
   have hcount:((List.range l.length).countP λj=> !(lst.setIfInBounds i true).getD j true)=fuel:=by
    have h1:∀(r:List Nat),r.Nodup->(∀j∈r,j<l.length)->i∈r->(r.countP λj=> !(lst.setIfInBounds i true).getD j true)+1=r.countP λj=> !lst.getD j true:=by
     intro r
     induction r with
     |nil=>intro _ _ h;cases h
     |cons x r ihr=>
      intro hnd hb hmem;rw[Qz]at hnd;have hxl:=hb x (by simp);have hsz':(lst.setIfInBounds i true).size=l.length:=by simpa using hs
      rw[SF,SF];by_cases e:x=i
      ·subst e;have h2:(r.countP λj=> !(lst.setIfInBounds x true).getD j true)=r.countP λj=> !lst.getD j true:=by
        apply List.countP_congr;intro j hj;have hjl:=hb j (by simp[hj]);rw[hdef _ j hsz' hjl,hdef lst j hs hjl,hxset,Ql (λ(e:j=x)=>hnd.1 (e▸hj))]
       rw[h2,hdef _ x hsz' hxl,hdef lst x hs hxl,hxset,Qx rfl,hxi];simp
      ·have hmem':i∈r:=by
        rcases List.mem_cons.1 hmem with h|h
        ·exact(e h.symm).elim
        ·exact h
       have:=ihr hnd.2 (λj hj=>hb j (by simp[hj])) hmem';rw[hdef _ x hsz' hxl,hdef lst x hs hxl,hxset,Ql e];omega
    have:=h1 (List.range l.length) List.nodup_range (λj hj=>List.mem_range.1 hj) (List.mem_range.2 hil);omega
   refine wpOp_mono (λa' w' h'=>?_) (step _ a w i o ho hxi hdi hR);exact ih _ a' w' (by simpa using hs) hcount (by rw[show X (lst.setIfInBounds i true)=λj=>if j=i then true else X lst j from funext hxset];exact h')
 refine wp_region_any hm ?_;have:=key (l.toArray.size) (Array.replicate l.toArray.size false) a0 {w0 with drawn:=w0.drawn+1} (by simp) (by
  simp only[QC];rw[List.countP_eq_length_filter,List.filter_eq_self.2 (λi hi=>by simp at hi;simp[hi])];simp) (by
  have e:X (Array.replicate l.toArray.size false)=λ_=>false:=by
   funext j;simp only[X,Array.getD_eq_getD_getElem?,Array.getElem?_replicate];split <;> rfl
  rw[e];exact h0)
 exact this
theorem aB{P:Program}{Q:Exit->Act->World->Prop}{a:Act}{w w':World}{l:List Oper}{i:Nat}{o:Oper}{v:Value}{K:Act->World->Prop}(ho:l[i]?=some o) (hg:o.guard=none) (h:(execOp a.eval o).run P w= .ok (.value v) w') (hn:K (a.put o.dst v) w'):wpOp P l.toArray Q i K a w:=by
 unfold wpOp;rw[show(l.toArray)[i]?=some o from by simpa using ho];have hw:Region.wanted o (yielded l.toArray a.tmps)=true:=by unfold Region.wanted;rw[hg]
 simp only;rw[Qx hw];exact .inl (J6 h hn)
theorem BO{P:Program}{Q:Exit->Act->World->Prop}{a:Act}{w:World}{l:List Oper}{i:Nat}{o:Oper}{c:Call}{f:FuncId}{S:TFn}{I:Nat->Nat->Prop}{F:List Nat}{K:Act->World->Prop}(ho:l[i]?=some o) (hg:o.guard=none) (hop:o.op= .call c) (hc:c.callee= .value (.func f)) (h:FnT P f S)
  (x:S.args.den) {r:S.R} (hG:S.G x=some r) (hIn:∀b o,I b o->b<w.heap.size) (hgl:nX I w) (hargs:OAs I w (S.args.oas x) (c.args.map a.eval).toList F) (hF:F.Nodup)
  (hn:∀v w' I' vs Fp Fr',GS S r I w F (D4 (S.args.oas x) (c.args.map a.eval).toList) v w' I' vs Fp Fr'->K (a.put o.dst v) w'):wpOp P l.toArray Q i K a w:=by
 unfold wpOp;rw[show(l.toArray)[i]?=some o from by simpa using ho];have hw:Region.wanted o (yielded l.toArray a.tmps)=true:=by unfold Region.wanted;rw[hg]
 simp only;rw[Qx hw];left;have hrun:=kJ (P:=P) (a:=a) (w:=w) (cap:= #[]) hop (by rw[hc];rfl) ⟨_,hc⟩ h.ok;rw[Array.append_empty]at hrun;unfold Oper.wp;rw[hrun];refine Calls.mono (FnT.call h x hG hIn hgl hargs hF) λe w' he=>?_;obtain⟨v,I',vs,Fp,Fr',rfl,hL⟩:=he;exact hn v w' I' vs Fp Fr' hL
section
variable {P:Program}{a:Act}{w w':World}{Q:Exit->Act->World->Prop}{ops:Array Oper}{rest:List Oper}{o:Oper}
theorem Eu{t:TypeId}{x:Operand}{ad:Addr}{i:TI}{xs:List Value}(ho:o.op= .load t x) (hT:TOk P t i) (hl:xs.length=i.size) (hk:i.agg=true) (hx:a.eval x= .pointer (some ad)) (hc:∀j u,xs[j]?=some u->w.cell? (ad.add j)=some u) :
  (execOp a.eval o).run P w= .ok (.value (.agg xs.toArray)) w:=by
 have hl:=(gE (w:=w) hT hl hc).1 hk;unfold execOp;rw[ho];simp only[hx,Instr.loadAt,Instr.sureAddr,Sem.run_bind,Sem.run_pure,Result.andThen_ok,hl]
theorem Lh{c:Call}{t:TypeId}{x:Operand}{e:TypeId}{A:Option Addr}{n m:Nat}(ho:o.op= .call c) (hc:c.callee= .builtin .len) (ha:c.args= #[x]) (ht:c.argTypes= #[t]) (hu:P.underlying t=some (.slice e)) (hx:a.eval x= .slice A n m) :
  (execOp a.eval o).run P w= .ok (.value (.int .i64 (n:Int))) w:=by
 have hl:=yT (P:=P) hu o.type (a.eval x) w n (.inr ⟨⟨e,rfl⟩,A,m,hx⟩);unfold execOp;rw[ho];simp only[resolve,hc,ha];simp[invoke,ht,Go.builtin,hl]
theorem BP{t e:TypeId}{x0 x1 x2:Operand}{i:TI}{v0 v1 v2:Value}(ho:o.op= .buildSlice t 3 #[(0,x0),(1,x1),(2,x2)]) (hT:TOk P e i) (h1:i.size=1) (hu:P.underlying t=some (.slice e)) (e0:a.eval x0=v0) (e1:a.eval x1=v1) (e2:a.eval x2=v2) (k0:v0.oneCell'=true) (k1:v1.oneCell'=true) (k2:v2.oneCell'=true) :
  (execOp a.eval o).run P w= .ok (.value (.slice (some ⟨w.heap.size,0,none⟩) 3 3)) (w.alloc (.cells #[v0,v1,v2] e)):=by
 obtain⟨inf,z,hinf,hsz,hby,hz,hzl,hzn,hz1⟩:=hT.info;have hc:∀{v:Value},v.oneCell'=true->v.cells= #[v]:=fun {v} hv=>by cases v <;> first|rfl|(simp[Value.oneCell']at hv)
 have hrun:=run_buildSlice (P:=P) w t e 3 #[(0,v0),(1,v1),(2,v2)] #[v0,v1,v2] inf z hu hinf hz (by rw[hsz,h1];omega) (by rw[hsz,h1];omega) (by
  rw[hsz,h1];generalize hzs:(Array.range (3*1)).map (z.cells[· % z.cells.size]!)=zs;have h3:zs.size=3:=by rw[<-hzs];simp
  obtain⟨zs⟩:=zs
  match zs,h3 with
  |[p,q,r],_=>simp[Instr.fill,hc k0,hc k1,hc k2,Array.zipIdx])
 unfold execOp;rw[ho];have hp:(#[(0,x0),(1,x1),(2,x2)]:Array (Nat×Operand)).map (λ(i,x)=>(i,a.eval x))= #[(0,v0),(1,v1),(2,v2)]:=by simp[e0,e1,e2]
 simp only[Sem.run_bind,hp,hrun,Result.andThen_ok];rfl
theorem HP{c:Call}{f:FuncId}{S:TFn}{I:Nat->Nat->Prop}{F:List Nat}{l:List Operand}(hg:o.guard=none) (hop:o.op= .call c) (hc:c.callee= .value (.func f)) (hl:c.args.toList=l) (h:FnT P f S)
  (x:S.args.den) {r:S.R} (hG:S.G x=some r) (hIn:∀b o,I b o->b<w.heap.size) (hgl:nX I w) (hargs:OAs I w (S.args.oas x) (l.map a.eval) F) (hF:F.Nodup)
  (hn:∀v w' I' vs Fp Fr',GS S r I w F (D4 (S.args.oas x) (l.map a.eval)) v w' I' vs Fp Fr'->wpList P ops Q rest (a.put o.dst v) w'):wpList P ops Q (o::rest) a w:=by
 refine wpList_step λK hK=>?_;have hw:Region.wanted o (yielded ops a.tmps)=true:=by unfold Region.wanted;rw[hg]
 rw[Qx hw];have hrun:=kJ (P:=P) (a:=a) (w:=w) (cap:= #[]) hop (by rw[hc];rfl) ⟨_,hc⟩ h.ok;rw[Array.append_empty]at hrun;unfold Oper.wp;rw[hrun];have ha:(c.args.map a.eval).toList=l.map a.eval:=by rw[SG,hl]
 refine Calls.mono (FnT.call h x hG hIn hgl (by rw[ha];exact hargs) hF) λe w' he=>?_;obtain⟨v,I',vs,Fp,Fr',rfl,hL⟩:=he;rw[ha]at hL;exact hK _ _ (hn v w' I' vs Fp Fr' hL)
theorem jK{l:List Oper}{i:Nat}{c:Call}{f:FuncId}{S:TFn}{I:Nat->Nat->Prop}{F:List Nat}{K:Act->World->Prop}{al:List Operand}(ho:l[i]?=some o) (hg:o.guard=none) (hop:o.op= .call c) (hc:c.callee= .value (.func f)) (hl:c.args.toList=al) (h:FnT P f S)
  (x:S.args.den) {r:S.R} (hG:S.G x=some r) (hIn:∀b o,I b o->b<w.heap.size) (hgl:nX I w) (hargs:OAs I w (S.args.oas x) (al.map a.eval) F) (hF:F.Nodup)
  (hn:∀v w' I' vs Fp Fr',GS S r I w F (D4 (S.args.oas x) (al.map a.eval)) v w' I' vs Fp Fr'->K (a.put o.dst v) w'):wpOp P l.toArray Q i K a w:=by
 have ha:(c.args.map a.eval).toList=al.map a.eval:=by rw[SG,hl]
 refine BO ho hg hop hc h x hG hIn hgl (by rw[ha];exact hargs) hF λv w' I' vs Fp Fr' hL=>?_;rw[ha]at hL;exact hn v w' I' vs Fp Fr' hL
end
noncomputable def c10:Code:=kV (M0 8 (L5 Tryz.f3))
set_option maxRecDepth 100000 in
theorem NG{S:TFn}(h:FnT Tryz.prog 10 S){a:Act}{w:World}{Q:Exit->Act->World->Prop}{I:Nat->Nat->Prop}{F:List Nat}{g:Nat}{cur:Array Value}{ty:TypeId}{fz:Nat×Nat}(x:S.args.den){r:S.R}(hG:S.G x=some r) (hs:a.tmps.size=179) (h7:a.tmps.getD 7 undef= .pointer (some ⟨g,0,none⟩)) (hg:w.heap[g]?=some (.cells cur ty fz)) (hcs:cur.size=41)
  (hIn:∀b o,I b o->b<w.heap.size) (hgl:nX I w) (hargs:OAs I w (S.args.oas x) [a.tmps.getD 5 undef,.agg cur] F) (hF:F.Nodup)
  (hQ:∀v w' I' vs Fp Fr' a',GS S r I w F (D4 (S.args.oas x) [a.tmps.getD 5 undef,.agg cur]) v w' I' vs Fp Fr'->a'.tmps.size=179->a'.defers=a.defers->a'.tmps.getD 8 undef=v->(∀k,(k<48\/50<k)->k≠8->a'.tmps.getD k undef=a.tmps.getD k undef)->Q .normal a' w'):c10.wp Tryz.prog Q a w:=by
 rw[show c10=_ from rfl];refine wp_region_lit ?_;refine J4 rfl rfl (by omega) (eM rfl) λa1 s1 d1 t48 k1=>?_;have e7:a1.eval (.tmp 7)= .pointer (some ⟨g,0,none⟩):=(k1 7 (by decide)).trans h7;refine J4 rfl rfl (by omega) (Eu (xs:=cur.toList) rfl (K7 35 _ rfl) (by rw[PZ,hcs];rfl) rfl e7 (λj u hj=>by
  rw[H1 _ _ rfl];simp only[World.cell?,hg,Qo];simpa using hj)) λa2 s2 d2 t49 k2=>?_
 have e48:a2.eval (.tmp 48)=a.tmps.getD 5 undef:=(k2 48 (by decide)).trans t48;have e49:a2.eval (.tmp 49)= .agg cur:=by rw[show a2.eval (.tmp 49)=a2.tmps.getD 49 undef from rfl,t49,Sd]
 refine HP (l:=[.tmp 48,.tmp 49]) rfl rfl rfl rfl h x hG hIn hgl (by rw[PQ,PQ,Qs,e48,e49];exact hargs) hF λv w' I' vs Fp Fr' hL=>?_;rw[PQ,PQ,Qs,e48,e49]at hL;refine J4 (a:=a2.put (some 50) v) rfl rfl (by rw[fX];omega) (rF rfl) λa4 s4 d4 t8 k4=>wpList_nil ?_;refine hQ v w' I' vs Fp Fr' a4 hL (by rw[s4,fX];omega) (by rw[d4,nW,d2,d1]) (t8.trans (rE (by omega))) λk hk h8=>?_;rw[k4 k h8,kh (by omega),k2 k (by omega),k1 k (by omega)]
abbrev uh:OTs:=.cons (.d A8) (.cons (.box (.cons (.d i_6) (.cons (.d i_6) (.cons (.row B3 132) (.cons (.d i_6) .nil))))) (.cons (.box (.cons (.row B0 82) (.cons (.row o5 4000004) .nil))) (.cons (.box (.cons (.row (.pr .str (.sl U_sender_place)) 10000130) (.cons (.d i_6) .nil))) (.cons (.box (.cons (.d i_6) (.cons (.d i_6) (.cons (.row (.pr i_6 o5) 4000005) .nil)))) (.cons (.row (.pr i_6 o5) 4000005) (.cons (.row (.pr .str i_6) 4000130) (.cons (.d i_6) .nil)))))))
abbrev ui:OTs:=.cons (.d A8) (.cons (.box (.cons (.d i_6) (.cons (.d i_6) (.cons (.row C9 132) (.cons (.d i_6) .nil))))) (.cons (.box (.cons (.row B0 82) (.cons (.row o5 4000004) .nil))) (.cons (.box (.cons (.row (.pr .str (.sl U_sender_place)) 10000130) (.cons (.d i_6) .nil))) (.cons (.box (.cons (.d i_6) (.cons (.d i_6) (.cons (.row (.pr i_6 o5) 4000005) .nil)))) (.cons (.row (.pr i_6 o5) 4000005) (.cons (.row (.pr .str i_6) 4000130) (.cons (.d i_6) .nil)))))))
abbrev jL:Type:=uh.den
def dT(p:jL):List OC:=uh.ocs p
def dL(p:jL):List OC:=OTs.ocs ui p
def eT(e:o8):List OC:=(A9.enc e).map .d
def eL(e:o8):List OC:=(U.enc C4 e).map .d
theorem LOs.app:∀{a b c d:List OC},LOs a b->LOs c d->LOs (a++c) (b++d)
 |[],[],_,_,_,h=>h
 |x::a,y::b,_,_,h,k=>by
  simp only[LOs,Qu]at h⊢;exact⟨h.1,LOs.app h.2 k⟩
 |[],_::_,_,_,h,_=>by simp only[LOs]at h
 |_::_,[],_,_,h,_=>by simp only[LOs]at h
theorem Li{ds ds':List DV}(h:LDs ds ds'):LOs (ds.map .d) (ds'.map .d):=by
 induction h with
 |nil=>simp only[Qs,LOs]
 |cons h _ ih=>simp only[PQ,LOs,LO];exact⟨h,ih⟩
theorem rK{u:U}(h:u.noSl=true) (x:u.den):LOs ((u.enc x).map .d) ((u.enc x).map .d):=Li (iS _ (Y6 u h x))
theorem ia{sz e:Nat}{es es':List (List DV)}(h:LR e es es'):LOs [.row sz e es] [.row sz e es']:=by simp only[LOs,LO];exact⟨⟨trivial,trivial,h⟩,trivial⟩
theorem qb{cs ds:List OC}(h:LOs cs ds):LOs [.box cs] [.box ds]:=by simp only[LOs,LO];exact⟨h,trivial⟩
theorem Lj{u:U}(h:u.noSl=true) (e:Nat) (l:List u.den):LR e (l.map u.enc) (l.map u.enc):=.map λc hc d hd=>by
 obtain⟨x,_,rfl⟩:=List.mem_map.1 hc;exact Y6 u h x d hd
theorem FD(e:o8):LDs (A9.enc e) (U.enc C4 e):=(LE.pr (LE.refl (u:=(.arr 32 .byte)) rfl) (LE.pr (LE.sl (u:=.byte) rfl) (LE.pr (LE.refl (u:=.str) rfl) (LE.pr (LE.refl (u:=(.int .u64)) rfl) (LE.pr (LE.refl (u:=(.int .u64)) rfl) (LE.pr (LE.refl (u:=(.int .u64)) rfl) (LE.pr (LE.refl (u:=(.int .i64)) rfl) (LE.pr (LE.refl (u:=(.int .i64)) rfl) (LE.pr (LE.refl (u:=(.int .i64)) rfl) (LE.sl (u:=(.int .i64)) rfl)))))))))) e
theorem HQ(s:A1):LDs (B3.enc s) (U.enc C9 s):=(FD s.1).app (iS _ (Y6 (.pr (.int .i64) (.pr .bool (.int .i64))) rfl s.2))
theorem wj:∀(l:List A1),LDe (l.map B3.enc) (l.map (U.enc C9))
 |[]=>.nil
 |s::l=>.cons (HQ s) (wj l)
theorem HR(p:jL):LOs (dT p) (dL p):=by
 refine LOs.app (rK (u:=A8) rfl p.1) (LOs.app (qb ?_) (LOs.app (qb ?_) (LOs.app (qb ?_) (LOs.app (qb ?_) (LOs.app (ia (Lj rfl _ _)) (LOs.app (ia (Lj rfl _ _)) (LOs.app (rK (u:=i_6) rfl p.2.2.2.2.2.2.2.1) trivial)))))))
 ·exact LOs.app (rK (u:=i_6) rfl p.2.1.1) (LOs.app (rK (u:=i_6) rfl p.2.1.2.1) (LOs.app (ia (.sl (by decide) (wj p.2.1.2.2.1))) (LOs.app (rK (u:=i_6) rfl p.2.1.2.2.2.1) trivial)))
 ·exact LOs.app (ia (Lj rfl _ _)) (LOs.app (ia (Lj rfl _ _)) trivial)
 ·exact LOs.app (ia (.send (by decide))) (LOs.app (rK (u:=i_6) rfl p.2.2.2.1.2.1) trivial)
 ·exact LOs.app (rK (u:=i_6) rfl p.2.2.2.2.1.1) (LOs.app (rK (u:=i_6) rfl p.2.2.2.2.1.2.1) (LOs.app (ia (Lj rfl _ _)) trivial))
theorem kZ(p:jL):LO (.box (dT p)) (.box (dL p)):=by simp only[LO];exact HR p
theorem uj(e:o8):LO (.box (eT e)) (.box (eL e)):=by simp only[LO];exact Li (FD e)
def kz(S:TFn) (a:S.args.den) (p:jL) (l:List o8):Prop:=∃r,S.G a=some r/\S.posts.ocs (S.out r).1=[.bx (dL p)]/\S.res.oas (S.out r).2=[.c (.row 41 35 (l.map A9.enc))]
def cI:Nat->Nat
 |0=>1
 |1=>3
 |_=>7
theorem eO{n:Nat}(h:n<3):(n=0/\cI n=1)\/(n=1/\cI n=3)\/(n=2/\cI n=7):=by
 match n,h with
 |0,_=>exact .inl ⟨rfl,rfl⟩
 |1,_=>exact .inr (.inl ⟨rfl,rfl⟩)
 |2,_=>exact .inr (.inr ⟨rfl,rfl⟩)
theorem FE{n m:Nat}(hn:n<3) (hm:m<3) (h:cI n=cI m):n=m:=by
 have a:=eO hn;have b:=eO hm;omega
structure R13 (I0:Nat->Nat->Prop) (w0:World) (F0:List Nat) (Pc:OC) (vp:Value) (Ec:OC) (ve:Value) (ge:Nat) (es:List (List DV)) (sn:Value) (a0:Act) (f:Nat->Value) (J:Nat->Nat->Nat->Prop) (Fp:List Nat) (D:Nat->Bool) (a:Act) (w:World):Prop where
 sz:a.tmps.size=179
 df:a.defers=a0.defers
 keep:∀k,(k<65\/75<k)->a.tmps.getD k undef=a0.tmps.getD k undef
 vals:∀i,i<11->D i=true->a.tmps.getD (65+i) undef=f i
 cs:f 0=vp/\f 2=vp/\f 4=vp/\f 5= .pointer (some ⟨ge,33,none⟩)/\f 6=sn/\f 9= .int .i64 3/\f 10= .int .i64 0
 apt:Apt I0 w0 F0 Pc vp Ec ve ge w Fp J
 emp:∀n,n<3->D (cI n)=false->∀b o,¬J n b o
 lst:∀n,n<3->D (cI n)=true->DVr (J n) w (.sl es) (f (cI n))
 sl:D 8=true->(∀n,n<3->D (cI n)=true)/\∃g,f 8= .slice (some ⟨g,0,none⟩) 3 3/\w.heap[g]?=some (.cells #[f 1,f 3,f 7] 41 (0,0))/\g∉ge::Fp/\(∀i b o,J i b o->b≠g)/\(∀o,¬I0 g o)/\w0.heap.size<=g
section
variable {I0:Nat->Nat->Prop}{w0 w w':World}{F0 Fp:List Nat}{Pc Ec:OC}{vp ve sn:Value}{ge:Nat}{es:List (List DV)}{a0 a:Act}{f:Nat->Value}{J:Nat->Nat->Nat->Prop}{D:Nat->Bool}
def uk(D:Nat->Bool) (i:Nat):Nat->Bool:=λj=>if j=i then true else D j
theorem bk{D:Nat->Bool}{i j:Nat}(h:j≠i):uk D i j=D j:=Ql h
theorem HS{D:Nat->Bool}{i:Nat}:uk D i i=true:=Qx rfl
theorem R13.pure(h:R13 I0 w0 F0 Pc vp Ec ve ge es sn a0 f J Fp D a w){i:Nat}(hi:i<11) (h8:i≠8) (hc:∀n,n<3->cI n≠i):R13 I0 w0 F0 Pc vp Ec ve ge es sn a0 f J Fp (uk D i) (a.put (some (65+i)) (f i)) w:=by
 refine⟨by rw[fX];exact h.sz,h.df,λk hk=>?_,λj hj hd=>?_,h.cs,h.apt,λn hn hd=>?_,λn hn hd=>?_,λhd=>?_⟩
 ·rw[kh (by omega)];exact h.keep k hk
 ·by_cases e:j=i
  ·subst e;exact rE (by rw[h.sz];omega)
  ·rw[kh (by omega)];rw[bk e]at hd;exact h.vals j hj hd
 ·rw[bk (hc n hn)]at hd;exact h.emp n hn hd
 ·rw[bk (hc n hn)]at hd;exact h.lst n hn hd
 ·rw[bk (λe=>h8 e.symm)]at hd;obtain⟨k1,k2⟩:=h.sl hd;exact⟨λn hn=>by rw[bk (hc n hn)];exact k1 n hn,k2⟩
theorem R13.call(h:R13 I0 w0 F0 Pc vp Ec ve ge es sn a0 f J Fp D a w){Pd:OC}(hL:LO Pd Pc){n:Nat}(hn:n<3) (hD:D (cI n)=false) (hes:mz es=true){I':Nat->Nat->Prop}{Fp' Fr':List Nat}{v:Value}(fr:Fr w (· ∈ Fp) w') (new:∀b o,I' b o->I0 b o\/b∈Fp\/w.heap.size<=b) (lt:∀b o,I' b o->b<w'.heap.size) (odd:∀b o,I' b o->o%2=1->I0 b o) (soft:∀b o,I' b o->o%2=0->¬I0 b o->w'.frozen? ⟨b,o / 2,none⟩=false)
  (post:OCr I' w' Pc vp Fp') (res:OCr I' w' (.row 41 35 es) v Fr') (nd:(Fp'++Fr').Nodup) (own:∀b∈Fp'++Fr',b∈Fp\/w.heap.size<=b) :
  ∃f' J',R13 I0 w0 F0 Pc vp Ec ve ge es sn a0 f' J' Fp' (uk D (cI n)) (a.put (some (65+cI n)) v) w':=by
 obtain⟨Ji,h1,h2,h3⟩:=h.apt.call hL (h.emp n hn hD) hes (by decide) fr new lt odd soft post res nd own;have hcn:=eO hn;have hlt:cI n<11:=by omega
 refine⟨λj=>if j=cI n then v else f j,_,⟨by rw[fX];exact h.sz,h.df,λk hk=>?_,λj hj hd=>?_,?_,h1,λm hm hd=>?_,λm hm hd=>?_,λhd=>?_⟩⟩
 ·rw[kh (by omega)];exact h.keep k hk
 ·by_cases e:j=cI n
  ·subst e;simp only[Qy];exact rE (by rw[h.sz];omega)
  ·simp only[e,Qr];rw[kh (by omega)];rw[bk e]at hd;exact h.vals j hj hd
 ·obtain⟨c1,c2,c3,c4,c5,c6,c7⟩:=h.cs;simp only[show ¬ 0=cI n by omega,show ¬ 2=cI n by omega,show ¬ 4=cI n by omega,show ¬ 5=cI n by omega,show ¬ 6=cI n by omega,show ¬ 9=cI n by omega,show ¬ 10=cI n by omega,Qr];exact⟨c1,c2,c3,c4,c5,c6,c7⟩
 ·by_cases e:m=n
  ·subst e;rw[HS]at hd;cases hd
  ·have hne:cI m≠cI n:=λe'=>e (FE hm hn e');rw[bk hne]at hd;simp only[e,Qr];exact h.emp m hm hd
 ·by_cases e:m=n
  ·subst e;simp only[Qy];exact h2
  ·have hne:cI m≠cI n:=λe'=>e (FE hm hn e');rw[bk hne]at hd;simp only[e,hne,Qr];exact h3 m e _ _ (h.lst m hm hd)
 ·rw[bk (by omega)]at hd;have:=(h.sl hd).1 n hn;rw[hD]at this;cases this
theorem R13.slice(h:R13 I0 w0 F0 Pc vp Ec ve ge es sn a0 f J Fp D a w) (hD:∀n,n<3->D (cI n)=true):R13 I0 w0 F0 Pc vp Ec ve ge es sn a0 (λj=>if j=8 then .slice (some ⟨w.heap.size,0,none⟩) 3 3 else f j) J Fp (uk D 8) (a.put (some 73) (.slice (some ⟨w.heap.size,0,none⟩) 3 3)) (w.alloc (.cells #[f 1,f 3,f 7] 41)):=by
 have hfr:Fr w (λ_=>False) (w.alloc (.cells #[f 1,f 3,f 7] 41)):=(Fr.grow1 (D9 w _)).mono λx hx=>by cases hx
 have hcne:∀n,n<3->cI n≠8:=λn hn=>by have:=eO hn;omega
 refine⟨by rw[fX];exact h.sz,h.df,λk hk=>?_,λj hj hd=>?_,?_,?_,λm hm hd=>?_,λm hm hd=>?_,λhd=>⟨λn hn=>?_,?_⟩⟩
 ·rw[kh (by omega)];exact h.keep k hk
 ·by_cases e:j=8
  ·subst e;simp only[Qy];exact rE (by rw[h.sz];omega)
  ·simp only[e,Qr];rw[kh (by omega)];rw[bk e]at hd;exact h.vals j hj hd
 ·obtain⟨c1,c2,c3,c4,c5,c6,c7⟩:=h.cs;exact⟨c1,c2,c3,c4,c5,c6,c7⟩
 ·exact h.apt.upd' hfr (λb hb=>hb.elim) λi b o hj=>(dY (hfr.block b (h.apt.mark i b o hj).2.1 (λh=>h))).2
 ·rw[bk (hcne m hm)]at hd;exact h.emp m hm hd
 ·rw[bk (hcne m hm)]at hd;simp only[hcne m hm,Qr];exact DVr.mono (λ_ _ h=>h) (hfr.keep λb o hj=>⟨(h.apt.mark m b o hj).2.1,λh=>h⟩) _ (h.lst m hm hd)
 ·rw[bk (hcne n hn)];exact hD n hn
 ·refine⟨w.heap.size,rfl,heap_alloc_new w _,λhm=>?_,λi b o hj=>?_,λo hi=>?_,h.apt.fr.size⟩
  ·rcases List.mem_cons.1 hm with e|hm
   ·have:=OCr.ltF _ h.apt.ent ge (by simp);omega
   ·have:=OCr.ltF _ h.apt.pool _ hm;omega
  ·have:=(h.apt.mark i b o hj).2.1;omega
  ·have:=(h.apt.odd _ _ hi).2;have:=h.apt.fr.size;omega
end
abbrev jj:TFn:=mkF [.bx ui] (.cons ui .nil) [ar A9 35] U1
abbrev mA:TFn:=mkF [.bx ui] (.cons ui .nil) [ar A9 35] V7
abbrev mB:TFn:=mkF [.bx ui,ad .str] (.cons ui .nil) [ar A9 35] V8
theorem BQ:FnT Tryz.prog 11 jj:=eC
theorem Ev:FnT Tryz.prog 12 mA:=eX
theorem Ew:FnT Tryz.prog 13 mB:=eY
noncomputable def c13:Code:=kV (kV (M0 11 (L5 Tryz.f3)))
def eSn(e:o8):Value:=.string ⟨List.toArray e.2.2.1⟩
abbrev xU(e:o8):List (List DV):=[A9.enc e]
theorem Ex(e:o8):mz (xU e)=true:=by
 have key:∀(u:U),u.noSl=true->∀x:u.den,ji (u.enc x)=true:=λu hu x=>by
  have h:=Y6 u hu x;generalize u.enc x=ds at h
  induction ds with
  |nil=>rfl
  |cons d ds ih=>
   obtain⟨y,rfl⟩:=h d (Qn ..);simp only[ji,Es,Sm];exact ih λd hd=>h d (Qc _ hd)
 have app:∀{a b:List DV},ji a=true->ji b=true->ji (a++b)=true:=fun {a b} ha hb=>by
  induction a with
  |nil=>exact hb
  |cons d a ih=>
   simp only[ji,PM,Qu]at ha⊢;exact⟨ha.1,ih ha.2⟩
 have sl:∀(u:U),u.noSl=true->∀l:List u.den,ji ((U.sl u).enc l)=true:=λu hu l=>by
  show ji [.sl (l.map u.enc)]=true;simp only[ji,Es,Rg]
  induction l with
  |nil=>rfl
  |cons x l ih=>simp only[PQ,mz,key u hu x,Sm];exact ih
 simp only[mz,Rg];exact app (key (.arr 32 .byte) rfl e.1) (app (sl .byte rfl e.2.1) (app (key .str rfl e.2.2.1) (app (key (.int .u64) rfl e.2.2.2.1) (app (key (.int .u64) rfl e.2.2.2.2.1) (app (key (.int .u64) rfl e.2.2.2.2.2.1) (app (key (.int .i64) rfl e.2.2.2.2.2.2.1) (app (key (.int .i64) rfl e.2.2.2.2.2.2.2.1) (app (key (.int .i64) rfl e.2.2.2.2.2.2.2.2.1) (sl (.int .i64) rfl e.2.2.2.2.2.2.2.2.2)))))))))
theorem HT(e:o8):(U.enc C4 e)[33]?=some (.v (eSn e)):=by
 have h:((U.arr 32 .byte).enc e.1).length=32:=(U.arr 32 .byte).enc_len e.1;show(((U.arr 32 .byte).enc e.1)++([lnD (List.map U.byte.enc e.2.1)]++_))[33]?=_;rw[List.getElem?_append_right (by omega),h];rfl
theorem mC{I:Nat->Nat->Prop}{w:World}{ds:List DV}{v:Value}{g:Nat}(h:OCr I w (.box (ds.map .d)) v [g]):∃cur ty,v= .pointer (some ⟨g,0,none⟩)/\w.heap[g]?=some (.cells cur ty (0,0))/\E4 I w ds cur.toList:=by
 simp only[OCr]at h;obtain⟨g',cur,ty,Fs,rfl,hh,hc,hF,_⟩:=h;obtain⟨h1,rfl⟩:=BY.1 hc;injection hF with e _;subst e;exact⟨cur,ty,rfl,hh,h1⟩
theorem mD(I:Nat->Nat->Prop) (w:World):nX I w:=λg j v h=>by simp[GT]at h
section
variable {I0:Nat->Nat->Prop}{w0 w w':World}{F0 Fp:List Nat}{Ec:OC}{vp ve sn:Value}{ge:Nat}{e:o8}{a0 a:Act}{f:Nat->Value}{J:Nat->Nat->Nat->Prop}{D:Nat->Bool}{p:jL}
theorem R13.left(h:R13 I0 w0 F0 (.box (dL p)) vp Ec ve ge (xU e) sn a0 f J Fp D a w){n:Nat}(hn:n<3) (hD:D (cI n)=false){S:TFn}{r:S.R}(hp:S.posts.ocs (S.out r).1=[.bx (dL p)]) (hr:S.res.oas (S.out r).2=[.c (.row 41 35 (xU e))]){v:Value}{I':Nat->Nat->Prop}{vs:List Value}{Fp' Fr':List Nat}(hL:GS S r I0 w Fp [vp] v w' I' vs Fp' Fr') :
  ∃f' J' Fp',R13 I0 w0 F0 (.box (dL p)) vp Ec ve ge (xU e) sn a0 f' J' Fp' (uk D (cI n)) (a.put (some (65+cI n)) v) w':=by
 have hpost:=hL.post;rw[hp]at hpost;simp only[OAs,OAr]at hpost;obtain⟨x1,r1,F1,F2,e1,hpo,⟨rfl,rfl⟩,rfl⟩:=hpost;injection e1 with e1 _;subst e1;have hres:=hL.res;rw[hr]at hres;simp only[OAs,OAr]at hres;obtain⟨x2,r2,F3,F4,rfl,hre,⟨rfl,rfl⟩,rfl⟩:=hres;have hv:=hL.val;simp only[uM]at hv;subst hv;have hnd:=hL.nodup;have how:=hL.own;rw[PO,PO]at *
 obtain⟨f',J',hR⟩:=h.call (kZ p) hn hD (Ex e) hL.fr hL.new hL.lt hL.odd hL.soft hpo hre hnd how;exact⟨f',J',_,hR⟩
end
set_option maxRecDepth 100000 in
theorem NH{I0:Nat->Nat->Prop}{w0 w:World}{F0 Fp:List Nat}{vp ve:Value}{ge:Nat}{e:o8}{p:jL}{a:Act}{Q:Exit->Act->World->Prop}(hA:Apt I0 w0 F0 (.box (dL p)) vp (.box (eL e)) ve ge w Fp λ_ _ _=>False)
  (hE:kz jj (p,()) p [e]) (hS:kz mA (p,()) p [e]) (hN:kz mB (p,(e.2.2.1,())) p [e]) (hs:a.tmps.size=179) (h5:a.tmps.getD 5 undef=vp) (h6:a.tmps.getD 6 undef=ve)
  (hQ:∀(a':Act) (w':World) (Fp':List Nat) (J:Nat->Nat->Nat->Prop) (g:Nat) (v:Nat->Value),Apt I0 w0 F0 (.box (dL p)) vp (.box (eL e)) ve ge w' Fp' J->(∀n,n<3->DVr (J n) w' (.sl (xU e)) (v n))->a'.tmps.getD 73 undef= .slice (some ⟨g,0,none⟩) 3 3->w'.heap[g]?=some (.cells #[v 0,v 1,v 2] 41 (0,0))->g∉ge::Fp'->(∀i b o,J i b o->b≠g)->(∀o,¬I0 g o)->w0.heap.size<=g->a'.tmps.getD 74 undef= .int .i64 3->a'.tmps.getD 75 undef= .int .i64 0->a'.tmps.size=179->a'.defers=a.defers->(∀k,(k<65\/75<k)->a'.tmps.getD k undef=a.tmps.getD k undef)->Q .normal a' w'):c13.wp Tryz.prog Q a w:=by
 rw[show c13=_ from rfl];obtain⟨cur,ty,rfl,hge,hcur⟩:=mC hA.ent;refine xK rfl (λD a' w'=>∃f J Fp',R13 I0 w0 F0 (.box (dL p)) vp (.box (eL e)) (.pointer (some ⟨ge,0,none⟩)) ge (xU e) (eSn e) a f J Fp' D a' w') ?_ ?_ ?_ ?_
 ·intro i o ho e he;rcases i with _|_|_|_|_|_|_|_|_|_|_|i <;> first|(cases ho;simp[jr,Region.binds]at he;first|done|(rcases he with rfl|rfl|rfl <;> decide)|(rcases he with rfl|rfl <;> decide)|(subst he;decide))|(simp at ho)
 ·let f:Nat->Value:=λi=>if i=5 then .pointer (some ⟨ge,33,none⟩)else if i=6 then eSn e else if i=9 then .int .i64 3 else if i=10 then .int .i64 0 else vp
  refine⟨f,λ_ _ _=>False,Fp,⟨hs,rfl,λ_ _=>rfl,λi _ h=>(by cases h),⟨rfl,rfl,rfl,rfl,rfl,rfl,rfl⟩,?_,λn _ _ b o h=>h,λn _ h=>(by cases h),λh=>(by cases h)⟩⟩;exact hA.upd' (M:=λ_=>False) ⟨rfl,rfl,rfl,PW _,λ_ _ _=>rfl⟩ (λb h=>h.elim) λi b o h=>h.elim
 ·intro D a1 w1 i o ho hDi hd hI;obtain⟨f,J,Fp1,h⟩:=hI;have hIn:∀b o,I0 b o->b<w1.heap.size:=λb o hi=>Qi (h.apt.odd b o hi).2 h.apt.fr.size;have hargs:OAs I0 w1 [.bx (dL p)] [vp] Fp1:=by
   simp only[OAs,OAr];exact⟨vp,[],Fp1,[],rfl,h.apt.pool,⟨rfl,rfl⟩,(PO _).symm⟩
  have hndp:Fp1.Nodup:=(List.nodup_cons.1 h.apt.nd).2;have pu:∀{i:Nat},i<11->i≠8->(∀n,n<3->cI n≠i)->∀{v:Value},v=f i->∃f J Fp',R13 I0 w0 F0 (.box (dL p)) vp (.box (eL e)) (.pointer (some ⟨ge,0,none⟩)) ge (xU e) (eSn e) a f J Fp' (uk D i) (a1.put (some (65+i)) v) w1:=λhi h8 hc v hv=>by
   subst hv;exact⟨f,J,Fp1,h.pure hi h8 hc⟩
  have hcne:∀{i:Nat},i≠1->i≠3->i≠7->∀n,n<3->cI n≠i:=λh1 h3 h7 n hn=>by have:=eO hn;omega
  obtain⟨c0,c2,c4,c5,c6,c9,c10⟩:=h.cs;have g5:a1.tmps.getD 5 undef=vp:=(h.keep 5 (by decide)).trans h5;have g6:a1.tmps.getD 6 undef= .pointer (some ⟨ge,0,none⟩):=(h.keep 6 (by decide)).trans h6;have dn:∀{k:Nat} {gr:Ground},(⟨k,gr⟩:Edge)∈jr o->D k=true:=λhm=>hd _ hm;rcases i with _|_|_|_|_|_|_|_|_|_|_|i
  ·cases ho;exact aB rfl rfl (eM rfl) (pu (i:=0) (by decide) (by decide) (hcne (by decide) (by decide) (by decide)) (g5.trans c0.symm))
  ·cases ho;have d0:D 0=true:=dn (k:=0) (gr:=.data) (by simp[jr,Region.binds]);have t0:a1.eval (.tmp 65)=vp:=(h.vals 0 (by decide) d0).trans c0;obtain⟨r,hG,hp,hr⟩:=hE;refine jK (al:=[.tmp 65]) rfl rfl rfl rfl rfl BQ (p,()) hG hIn (mD _ _) (by rw[PQ,Qs,t0];exact hargs) hndp λv w' I' vs Fp' Fr' hL=>?_;rw[PQ,Qs,t0]at hL;exact h.left (n:=0) (by decide) hDi hp hr hL
  ·cases ho;exact aB rfl rfl (eM rfl) (pu (i:=2) (by decide) (by decide) (hcne (by decide) (by decide) (by decide)) (g5.trans c2.symm))
  ·cases ho;have d0:D 2=true:=dn (k:=2) (gr:=.data) (by simp[jr,Region.binds]);have t0:a1.eval (.tmp 67)=vp:=(h.vals 2 (by decide) d0).trans c2;obtain⟨r,hG,hp,hr⟩:=hS;refine jK (al:=[.tmp 67]) rfl rfl rfl rfl rfl Ev (p,()) hG hIn (mD _ _) (by rw[PQ,Qs,t0];exact hargs) hndp λv w' I' vs Fp' Fr' hL=>?_;rw[PQ,Qs,t0]at hL;exact h.left (n:=1) (by decide) hDi hp hr hL
  ·cases ho;exact aB rfl rfl (eM rfl) (pu (i:=4) (by decide) (by decide) (hcne (by decide) (by decide) (by decide)) (g5.trans c4.symm))
  ·cases ho;exact aB rfl rfl (qa rfl (K7 35 _ rfl) rfl rfl g6) (pu (i:=5) (by decide) (by decide) (hcne (by decide) (by decide) (by decide)) c5.symm)
  ·cases ho;have d0:D 5=true:=dn (k:=5) (gr:=.data) (by simp[jr,Region.binds]);have t0:a1.eval (.tmp 70)= .pointer (some ⟨ge,33,none⟩):=(h.vals 5 (by decide) d0).trans c5;obtain⟨cur1,ty1,_,hge1,hcur1⟩:=mC h.apt.ent;obtain⟨x,hx,hdx⟩:=hcur1.get (HT e);simp only[DVr]at hdx;refine aB rfl rfl (fY rfl (K7 9 _ rfl) rfl rfl t0 (v:=eSn e) ?_) (pu (i:=6) (by decide) (by decide) (hcne (by decide) (by decide) (by decide)) c6.symm);rw[<-hdx.1];simp only[World.cell?,hge1];simpa using hx
  ·cases ho;have d4:D 4=true:=dn (k:=4) (gr:=.data) (by simp[jr,Region.binds]);have d6:D 6=true:=dn (k:=6) (gr:=.data) (by simp[jr,Region.binds]);have t4:a1.eval (.tmp 69)=vp:=(h.vals 4 (by decide) d4).trans c4;have t6:a1.eval (.tmp 71)=eSn e:=(h.vals 6 (by decide) d6).trans c6;obtain⟨r,hG,hp,hr⟩:=hN;refine jK (al:=[.tmp 69,.tmp 71]) rfl rfl rfl rfl rfl Ew (p,(e.2.2.1,())) hG hIn (mD _ _) (F:=Fp1) (by
    rw[PQ,PQ,Qs,t4,t6];show OAs I0 w1 [.bx (dL p),.c (.d (.v (eSn e)))] [vp,eSn e] Fp1;simp only[OAs,OAr];exact⟨vp,_,Fp1,[],rfl,h.apt.pool,⟨_,_,[],[],rfl,by simp only[OCr,DVr];exact⟨trivial,trivial,rfl⟩,⟨rfl,rfl⟩,rfl⟩,(PO _).symm⟩) hndp λv w' I' vs Fp' Fr' hL=>?_
   rw[PQ,PQ,Qs,t4,t6]at hL;exact h.left (n:=2) (by decide) hDi hp hr hL
  ·cases ho;have d1:D 1=true:=dn (k:=1) (gr:=.data) (by simp[jr,Region.binds]);have d3:D 3=true:=dn (k:=3) (gr:=.data) (by simp[jr,Region.binds]);have d7:D 7=true:=dn (k:=7) (gr:=.data) (by simp[jr,Region.binds]);have hall:∀n,n<3->D (cI n)=true:=λn hn=>by rcases eO hn with⟨_,e⟩|⟨_,e⟩|⟨_,e⟩ <;> rw[e] <;> assumption
   have o1:=(h.lst 0 (by decide) d1).one;have o3:=(h.lst 1 (by decide) d3).one;have o7:=(h.lst 2 (by decide) d7).one;exact aB rfl rfl (BP rfl (K7 41 _ rfl) rfl Tryz.underlying44 (h.vals 1 (by decide) d1) (h.vals 3 (by decide) d3) (h.vals 7 (by decide) d7) o1 o3 o7) ⟨_,J,Fp1,h.slice hall⟩
  ·cases ho;have d8:D 8=true:=dn (k:=8) (gr:=.data) (by simp[jr,Region.binds]);obtain⟨_,g,e8,_⟩:=h.sl d8;have t8:a1.eval (.tmp 73)= .slice (some ⟨g,0,none⟩) 3 3:=(h.vals 8 (by decide) d8).trans e8;exact aB rfl rfl (Lh rfl rfl rfl rfl Tryz.underlying44 t8) (pu (i:=9) (by decide) (by decide) (hcne (by decide) (by decide) (by decide)) c9.symm)
  ·cases ho;exact aB rfl rfl (eM rfl) (pu (i:=10) (by decide) (by decide) (hcne (by decide) (by decide) (by decide)) c10.symm)
  ·simp at ho
 ·intro D a1 w1 hD hI;obtain⟨f,J,Fp1,h⟩:=hI;have hD':∀i,i<11->D i=true:=hD;obtain⟨c0,c2,c4,c5,c6,c9,c10⟩:=h.cs;obtain⟨_,g,e8,hg,hgn,hgj,hgi,hgs⟩:=h.sl (hD' 8 (by decide));exact hQ a1 w1 Fp1 J g (λn=>f (cI n)) h.apt (λn hn=>h.lst n hn (hD' _ (by have:=eO hn;omega))) ((h.vals 8 (by decide) (hD' 8 (by decide))).trans e8) hg hgn hgj hgi hgs ((h.vals 9 (by decide) (hD' 9 (by decide))).trans c9) ((h.vals 10 (by decide) (hD' 10 (by decide))).trans c10) h.sz h.df h.keep
end Go.Proofs.YthkhcbphbabefaaGreat.Am
