/- Texts laid together: PHeapL, PWt, Apt. No conditions. -/
import Derived.Test.YthkhcbphbabefaaGreatQAD
namespace Go.Proofs.YthkhcbphbabefaaGreat.Am
open Go
abbrev IT:=Int×Int×Int
def Bef(a b:IT):Prop:=b.2.1<a.2.1\/(a.2.1=b.2.1/\(a.2.2<b.2.2\/(a.2.2=b.2.2/\a.1<b.1)))
instance (a b:IT):Decidable (Bef a b):=by unfold Bef;infer_instance
theorem Bef.asymm{a b:IT}(h:Bef a b):¬Bef b a:=by unfold Bef at *;omega
theorem Bef.trans{a b c:IT}(h:Bef a b) (k:Bef b c):Bef a c:=by unfold Bef at *;omega
theorem Bef.ntrans{a b c:IT}(h:¬Bef a b) (k:¬Bef b c):¬Bef a c:=by unfold Bef at *;omega
theorem Bef.tri{a b:IT}(h:¬Bef a b) (k:¬Bef b a):a=b:=by
 obtain⟨a1,a2,a3⟩:=a;obtain⟨b1,b2,b3⟩:=b;unfold Bef at *
 simp only at h k;have e1:a1=b1:=by omega
 have e2:a2=b2:=by omega
 have e3:a3=b3:=by omega
 rw[e1,e2,e3]
def nth(l:List IT) (i:Nat):IT:=l.getD i ((0:Int),(0:Int),(0:Int))
theorem nU{l:List IT}{i:Nat}(h:i<l.length):nth l i=l[i]:=eJ h _
theorem Bz{l:List IT}{i:Nat}(h:i<l.length):nth l i∈l:=by rw[nU h];exact RK h
theorem BA(l:List IT) (i m:Nat) (x:IT) (hi:i<l.length):nth (l.set i x) m=if m=i then x else nth l m:=by
 unfold nth;rw[List.getD_eq_getElem?_getD,List.getElem?_set];by_cases h:i=m
 ·subst h;simp[hi]
 ·rw[Ql h,Ql (λe=>h e.symm),List.getD_eq_getElem?_getD]
theorem pW{l:List IT}{m:Nat}(x:IT) (h:m<l.length):nth (l++[x]) m=nth l m:=by
 unfold nth;rw[List.getD_eq_getElem?_getD,List.getElem?_append_left h,List.getD_eq_getElem?_getD]
theorem BB(l:List IT) (x:IT):nth (l++[x]) l.length=x:=by
 unfold nth;rw[List.getD_eq_getElem?_getD,List.getElem?_append_right (PW _),To];rfl
def sw(l:List IT) (i j:Nat):List IT:=(l.set i (nth l j)).set j (nth l i)
theorem BC(l:List IT) (i j:Nat):(sw l i j).length=l.length:=by unfold sw;rw[QW,QW]
theorem kg{l:List IT}{i j:Nat}(hi:i<l.length) (hj:j<l.length) (m:Nat):nth (sw l i j) m=if m=j then nth l i else if m=i then nth l j else nth l m:=by
 unfold sw;rw[BA _ _ _ _ (by rw[QW];exact hj)];split
 ·rfl
 ·rw[BA _ _ _ _ hi]
theorem HI{l:List IT}{i j:Nat}(hi:i<l.length) (hj:j<l.length):(sw l i j).Perm l:=by
 unfold sw;rw[nU hi,nU hj];exact List.set_set_perm hi hj
def xJ(l:List IT) (k:Nat):Prop:=¬Bef (nth l k) (nth l ((k-1) / 2))
def ue(l:List IT):Prop:=∀k,0<k->k<l.length->xJ l k
def Ns(l:List IT) (i:Nat):Prop:=0<i->∀c,0<c->c<l.length->(c-1) / 2=i->¬Bef (nth l c) (nth l ((i-1) / 2))
def AH(l:List IT) (i:Nat):Prop:=(∀k,0<k->k<l.length->k≠i->(k-1) / 2≠i->xJ l k)/\Ns l i
def DH(l:List IT) (i:Nat):Prop:=(∀k,0<k->k<l.length->(k-1) / 2≠i->xJ l k)/\Ns l i
def UH(l:List IT) (i:Nat):Prop:=(∀k,0<k->k<l.length->k≠i->xJ l k)/\Ns l i
theorem HJ{l:List IT}{i p:Nat}(hi:0<i) (hl:i<l.length) (hp:(i-1) / 2=p) (h:AH l i) (hb:Bef (nth l i) (nth l p)):UH (sw l i p) p:=by
 have hpi:p<i:=by omega
 have hpl:p<l.length:=by omega
 refine⟨λk k0 kl kp=>?_,λp0 c c0 cl cp=>?_⟩
 ·rw[BC]at kl;unfold xJ;rw[kg hl hpl k,kg hl hpl ((k-1) / 2),Ql kp];by_cases h1:k=i
  ·rw[Qx h1,Qx (by rw[h1];exact hp)];exact hb.asymm
  ·rw[Ql h1];by_cases h2:(k-1) / 2=p
   ·rw[Qx h2];have:=h.1 k k0 kl h1 (by omega);unfold xJ at this;rw[h2]at this;exact λhx=>this (hx.trans hb)
   ·rw[Ql h2];by_cases h3:(k-1) / 2=i
    ·rw[Qx h3];have:=h.2 hi k k0 kl h3;rw[hp]at this;exact this
    ·rw[Ql h3];exact h.1 k k0 kl h1 h3
 ·rw[BC]at cl;have hpo:=h.1 p p0 hpl (by omega) (by omega);rw[kg hl hpl c,kg hl hpl ((p-1) / 2),Ql (show(p-1) / 2≠p by omega),Ql (show(p-1) / 2≠i by omega),Ql (show c≠p by omega)];by_cases h1:c=i
  ·rw[Qx h1];exact hpo
  ·rw[Ql h1];have:=h.1 c c0 cl h1 (by omega);unfold xJ at this hpo;rw[cp]at this;exact Bef.ntrans this hpo
theorem UH.ah{l:List IT}{i:Nat}(h:UH l i):AH l i:=⟨λk k0 kl ki _=>h.1 k k0 kl ki,h.2⟩
theorem Ek{l:List IT}{i:Nat}(h:AH l i) (hs:i=0\/xJ l i):DH l i:=⟨λk k0 kl kp=>by
 by_cases e:k=i
 ·subst e;rcases hs with h|h
  ·omega
  ·exact h
 ·exact h.1 k k0 kl e kp,h.2⟩
theorem El{l:List IT}{i:Nat}(h:UH l i) (hs:i=0\/xJ l i):ue l:=λk k0 kl=>by
 by_cases e:k=i
 ·subst e;rcases hs with h|h
  ·omega
  ·exact h
 ·exact h.1 k k0 kl e
theorem ue.dh{l:List IT}(h:ue l){i:Nat}(hi:i<l.length):DH l i:=⟨λk k0 kl _=>h k k0 kl,λi0 c c0 cl cp=>by
 have h1:=h c c0 cl;have h2:=h i i0 hi;unfold xJ at h1 h2;rw[cp]at h1;exact Bef.ntrans h1 h2⟩
theorem BD{l:List IT}{i:Nat}(h:DH l i) (hn:∀c,0<c->c<l.length->(c-1) / 2=i->¬Bef (nth l c) (nth l i)):ue l:=λk k0 kl=>by
 by_cases e:(k-1) / 2=i
 ·have:=hn k k0 kl e;unfold xJ;rw[e];exact this
 ·exact h.1 k k0 kl e
theorem ue.push{l:List IT}(h:ue l) (x:IT):AH (l++[x]) l.length:=by
 refine⟨λk k0 kl ki _=>?_,λ_ c _ cl cp=>?_⟩
 ·rw[PU,QG]at kl;unfold xJ;rw[pW x (show k<l.length by omega),pW x (show(k-1) / 2<l.length by omega)];exact h k k0 (by omega)
 ·rw[PU,QG]at cl;omega
section
variable {p:List (Int×Int)}
theorem pX{k v k' v':Int}(hnd:(B9 p).Nodup):(k',v')∈Z0 L0 k v p↔(k'=k/\v'=v)\/(k'≠k/\(k',v')∈p):=by
 by_cases hk:k∈B9 p
 ·obtain⟨v0,hv⟩:=E3.1 hk;rw[(pL Z6 hnd hv).mem_iff,QY];have hd:=mp Z6 hnd hv;have hnd2:(B9 ((k,v0)::kO L0 k p)).Nodup:=(I6 hd).nodup_iff.2 hnd;rw[bi,Qz]at hnd2;have hm:=hd.mem_iff (a:=(k',v'));rw[QY]at hm;constructor
  ·rintro(h|h)
   ·injection h with h1 h2;exact .inl ⟨h1,h2⟩
   ·right;exact⟨λe=>by subst e;exact hnd2.1 (E3.2 ⟨_,h⟩),hm.1 (.inr h)⟩
  ·rintro(⟨rfl,rfl⟩|⟨h1,h2⟩)
   ·exact .inl rfl
   ·rcases hm.2 h2 with h|h
    ·injection h with h _;exact(h1 h).elim
    ·exact .inr h
 ·rw[jb Z6 hk,RQ,Qp];constructor
  ·rintro(h|h)
   ·exact .inr ⟨λe=>hk (by rw[<-e];exact E3.2 ⟨_,h⟩),h⟩
   ·injection h with h1 h2;exact .inl ⟨h1,h2⟩
  ·rintro(⟨rfl,rfl⟩|⟨_,h2⟩)
   ·exact .inr rfl
   ·exact .inl h2
theorem az{k v:Int}(hnd:(B9 p).Nodup):(B9 (Z0 L0 k v p)).Nodup:=by
 by_cases hk:k∈B9 p
 ·obtain⟨v0,hv⟩:=E3.1 hk;have hd:=mp Z6 hnd hv;have hnd2:(B9 ((k,v0)::kO L0 k p)).Nodup:=(I6 hd).nodup_iff.2 hnd;exact(I6 (pL Z6 hnd hv)).nodup_iff.2 hnd2
 ·rw[jb Z6 hk];have:B9 (p++[(k,v)])=B9 p++[k]:=by simp[B9]
  rw[this,QP];exact⟨hnd,by simp,λa ha b hb e=>hk (by rw[List.mem_singleton.1 hb]at e;rw[<-e];exact ha)⟩
def Pl(l:List IT) (p:List (Int×Int)):Prop:=(B9 p).Nodup/\∀k v,(k,v)∈p↔∃m:Nat,m<l.length/\v=(m:Int)/\(nth l m).1=k
def Ids(l:List IT):Prop:=(l.map λx=>x.1).Nodup
theorem Ids.perm{l l':List IT}(h:Ids l) (hp:l'.Perm l):Ids l':=(hp.map _).nodup_iff.2 h
theorem Ids.inj{l:List IT}(h:Ids l){m n:Nat}(hm:m<l.length) (hn:n<l.length) (e:(nth l m).1=(nth l n).1):m=n:=by
 rw[nU hm,nU hn]at e;have h1:(l.map λx=>x.1)[m]'(by simpa using hm)=(l.map λx=>x.1)[n]'(by simpa using hn):=by simpa using e
 exact(List.getElem_inj h).1 h1
def pSw(l':List IT) (p:List (Int×Int)) (i j:Nat):List (Int×Int):=
 let p1:=Z0 L0 (nth l' i).1 (i:Int) (Z0 L0 (nth l' i).1 (Q5 L0 (nth l' i).1 (0:Int) p) p)
 Z0 L0 (nth l' j).1 (j:Int) (Z0 L0 (nth l' j).1 (Q5 L0 (nth l' j).1 (0:Int) p1) p1)
theorem rz{k v w k' v':Int}(hnd:(B9 p).Nodup):(k',v')∈Z0 L0 k v (Z0 L0 k w p)↔(k'=k/\v'=v)\/(k'≠k/\(k',v')∈p):=by
 rw[pX (az hnd),pX hnd];constructor
 ·rintro(h|⟨h1,⟨h2,_⟩|⟨_,h3⟩⟩)
  ·exact .inl h
  ·exact(h1 h2).elim
  ·exact .inr ⟨h1,h3⟩
 ·rintro(h|⟨h1,h2⟩)
  ·exact .inl h
  ·exact .inr ⟨h1,.inr ⟨h1,h2⟩⟩
theorem Pl.swap{l:List IT}(h:Pl l p) (hd:Ids l){i j:Nat}(hi:i<l.length) (hj:j<l.length):Pl (sw l i j) (pSw (sw l i j) p i j):=by
 have hnd:=h.1;have e2:nth (sw l i j) j=nth l i:=by rw[kg hi hj,Qx rfl]
 have e1:nth (sw l i j) i=nth l j:=by
  rw[kg hi hj];by_cases e:i=j
  ·rw[Qx e,e]
  ·rw[Ql e,Qx rfl]
 unfold pSw;refine⟨az (az (az (az hnd))),λk v=>?_⟩;rw[rz (az (az hnd)),rz hnd,e1,e2,h.2,BC];constructor
 ·rintro(⟨rfl,rfl⟩|⟨h1,⟨rfl,rfl⟩|⟨h2,m,hm,rfl,rfl⟩⟩)
  ·exact⟨j,hj,rfl,by rw[e2]⟩
  ·exact⟨i,hi,rfl,by rw[e1]⟩
  ·have n1:m≠i:=λe=>h1 (by rw[e]);have n2:m≠j:=λe=>h2 (by rw[e]);exact⟨m,hm,rfl,by rw[kg hi hj,Ql n2,Ql n1]⟩
 ·rintro⟨m,hm,rfl,rfl⟩;by_cases n2:m=j
  ·subst n2;exact .inl ⟨by rw[e2],rfl⟩
  ·right;by_cases n1:m=i
   ·subst n1;rw[e1];exact⟨λe=>n2 (hd.inj hj hi e).symm,.inl ⟨rfl,rfl⟩⟩
   ·rw[kg hi hj,Ql n2,Ql n1];exact⟨λe=>n1 (hd.inj hm hi e),.inr ⟨λe=>n2 (hd.inj hm hj e),m,hm,rfl,rfl⟩⟩
theorem Pl.push{l:List IT}(h:Pl l p){x:IT}(hx:∀m,m<l.length->(nth l m).1≠x.1):Pl (l++[x]) (Z0 L0 x.1 (l.length:Int) p):=by
 refine⟨az h.1,λk v=>?_⟩;rw[pX h.1,h.2,PU,QG];constructor
 ·rintro(⟨rfl,rfl⟩|⟨_,m,hm,rfl,rfl⟩)
  ·exact⟨l.length,by omega,rfl,by rw[BB]⟩
  ·exact⟨m,by omega,rfl,by rw[pW x hm]⟩
 ·rintro⟨m,hm,rfl,rfl⟩;by_cases e:m=l.length
  ·left;rw[e,BB];exact⟨rfl,rfl⟩
  ·right;have hm':m<l.length:=by omega
   rw[pW x hm'];exact⟨hx m hm',m,hm',rfl,rfl⟩
theorem Pl.has{l:List IT}(h:Pl l p) (k:Int):(aG L0 k p).isSome=decide (k∈l.map λx=>x.1):=by
 have h1:=bj Z6 k p;have h2:k∈B9 p↔k∈l.map λx=>x.1:=by
  rw[E3,Ts];constructor
  ·rintro⟨v,hv⟩;obtain⟨m,hm,_,e⟩:=(h.2 k v).1 hv;exact⟨_,Bz hm,e⟩
  ·rintro⟨x,hx,e⟩;obtain⟨m,hm,rfl⟩:=RJ hx;exact⟨m,(h.2 k m).2 ⟨m,hm,rfl,by rw[nU hm];exact e⟩⟩
 cases hb:(aG L0 k p).isSome with
 |true=>exact(PT (h2.1 (h1.1 hb))).symm
 |false=>exact(Qw (λhm=>by rw[h1.2 (h2.2 hm)]at hb;cases hb)).symm
end
mutual
def Es:DV->Bool
 |.v _=>true
 |.it _ d=>Es d
 |.clo _ cs=>ji cs
 |.sl es=>mz es
 |.ln _=>false
 |.kv _ _=>false
def ji:List DV->Bool
 |[]=>true
 |d::ds=>Es d&&ji ds
def mz:List (List DV)->Bool
 |[]=>true
 |e::es=>ji e&&mz es
end
section
variable {I I':Nat->Nat->Prop}{w w':World}
mutual
theorem DVr.ev:∀(d:DV){x:Value},Es d=true->DVr I w d x->DVr (evI I) w d x
 |.v _,_,_,h=>h
 |.it _ d,_,k,h=>by
  simp only[Es]at k;simp only[DVr]at h⊢;obtain⟨y,h1,h2⟩:=h;exact⟨y,h1,DVr.ev d k h2⟩
 |.clo _ cs,_,k,h=>by
  simp only[Es]at k;simp only[DVr]at h⊢;obtain⟨ad,xs,h1,h2,h3⟩:=h;exact⟨ad,xs,h1,E4.ev cs k h2,λj u hu=>⟨(h3 j u hu).1,(h3 j u hu).2,_,rfl⟩⟩
 |.sl es,_,k,h=>by
  simp only[Es]at k;simp only[DVr]at h⊢;obtain⟨A,c,z,xs,h1,h2,h3,h4,h5,h6,h7⟩:=h;refine⟨A,c,z,xs,h1,h2,h3,h4,h5,λh0=>?_,D2.ev es k h7⟩;obtain⟨ad,e,hc⟩:=h6 h0;exact⟨ad,e,λj u hu=>⟨(hc j u hu).1,(hc j u hu).2,_,rfl⟩⟩
 |.ln _,_,k,_=>by cases k
 |.kv _ _,_,k,_=>by cases k
theorem E4.ev:∀(ds:List DV){xs:List Value},ji ds=true->E4 I w ds xs->E4 (evI I) w ds xs
 |[],_,_,h=>h
 |d::ds,_,k,h=>by
  simp only[ji,PM]at k;simp only[E4]at h⊢;obtain⟨x,r,h1,h2,h3⟩:=h;exact⟨x,r,h1,DVr.ev d k.1 h2,E4.ev ds k.2 h3⟩
theorem D2.ev:∀(es:List (List DV)){xs:List Value},mz es=true->D2 I w es xs->D2 (evI I) w es xs
 |[],_,_,h=>h
 |e::es,_,k,h=>by
  simp only[mz,PM]at k;simp only[D2]at h⊢;obtain⟨c,r,h1,h2,h3⟩:=h;exact⟨c,r,h1,E4.ev e k.1 h2,D2.ev es k.2 h3⟩
end
theorem OCr.odd(c:OC){d:OC}{v:Value}{F:List Nat}(hL:LO c d) (h:OCr I w d v F) (ho:∀b o,I b o->o%2=1->I' b o) (hn:∀b∈F,∀o,¬I' b o):OCr I' w d v F:=
 OCr.frame (I:=mQ (qW I)) (λb k hk=>by
  obtain⟨o,rfl,o',h1,h2⟩:=hk;have e:o'=o:=by omega
  subst e;exact ho _ _ h2 (by omega)) (U9.refl _ _) (PW _) d (LO.to c hL (LO.back c hL h)) (λ_ _=>rfl) hn
theorem Fr.refl{M:Nat->Prop}:Fr w M w:=⟨rfl,rfl,rfl,PW _,λ_ _ _=>rfl⟩
theorem Fr.trans{w0:World}{M M':Nat->Prop}(h:Fr w0 M w) (k:Fr w M' w') (hm:∀b,M' b->M b\/w0.heap.size<=b):Fr w0 M w':=by
 refine⟨k.os.trans h.os,k.tape.trans h.tape,k.output.trans h.output,Qt h.size k.size,λb hb hn=>?_⟩;refine(k.block b (Qi hb h.size) λhmb=>?_).trans (h.block b hb hn);rcases hm b hmb with h1|h1
 ·exact hn h1
 ·omega
theorem Fr.mono{w0:World}{M M':Nat->Prop}(h:Fr w0 M w) (hm:∀b,M b->M' b):Fr w0 M' w:=⟨h.os,h.tape,h.output,h.size,λb hb hn=>h.block b hb λhmb=>hn (hm b hmb)⟩
theorem Fr.keep{M:Nat->Prop}(h:Fr w M w') (hI:∀b o,I b o->b<w.heap.size/\¬M b):U9 I w w':=λb o hi=>dY (h.block b (hI b o hi).1 (hI b o hi).2)
theorem Fr.grow1{row:Option Nat}(h:w.grownBy w' row):Fr w (λb=>row=some b) w':=⟨h.os,h.tape,h.output,h.size,λb hb hn=>h.block b hb λe=>hn e.symm⟩
theorem Fr.set(b o:Nat) (vs:List Value) (w:World):Fr w (· =b) (w.setCells b o vs):=(Fr.grow1 (P0 b o vs w)).mono λx hx=>by injection hx with hx;exact hx.symm
end
structure Apt (I0:Nat->Nat->Prop) (w0:World) (F0:List Nat) (Pc:OC) (vp:Value) (Ec:OC) (ve:Value) (ge:Nat) (w:World) (Fp:List Nat) (J:Nat->Nat->Nat->Prop):Prop where
 fr:Fr w0 (· ∈ F0) w
 odd:∀b o,I0 b o->o%2=1/\b<w0.heap.size
 pool:OCr I0 w Pc vp Fp
 nd:(ge::Fp).Nodup
 own:∀b∈ge::Fp,b∈F0\/w0.heap.size<=b
 ent:OCr I0 w Ec ve [ge]
 mark:∀i b o,J i b o->o%2=0/\b<w.heap.size/\b∉ge::Fp/\(∀o',¬I0 b o')/\w.frozen? ⟨b,o / 2,none⟩=false/\(b∈F0\/w0.heap.size<=b)
 apart:∀i j b o o',J i b o->J j b o'->i=j
section
variable {I0:Nat->Nat->Prop}{w0 w w':World}{F0 Fp:List Nat}{Pc Ec:OC}{vp ve:Value}{ge:Nat}{J:Nat->Nat->Nat->Prop}
theorem Apt.upd(h:Apt I0 w0 F0 Pc vp Ec ve ge w Fp J){M:Nat->Prop}(hf:Fr w M w') (hM:∀b,M b->b∉Fp/\(∀o,¬I0 b o)/\(b∈F0\/w0.heap.size<=b)) (he:OCr I0 w' Ec ve [ge]) (hz:∀i b o,J i b o->w'.frozen? ⟨b,o / 2,none⟩=w.frozen? ⟨b,o / 2,none⟩):Apt I0 w0 F0 Pc vp Ec ve ge w' Fp J:=by
 have hlt:∀b o,I0 b o->b<w.heap.size:=λb o hi=>Qi (h.odd b o hi).2 h.fr.size;refine⟨h.fr.trans hf λb hb=>(hM b hb).2.2,h.odd,?_,h.nd,h.own,he,λi b o hj=>?_,h.apart⟩
 ·exact OCr.frame (λ_ _ h=>h) (hf.keep λb o hi=>⟨hlt b o hi,λhb=>(hM b hb).2.1 o hi⟩) hf.size _ h.pool (λb hb=>hf.block b (OCr.ltF _ h.pool b hb) λhm=>(hM b hm).1 hb) (OCr.notI _ h.pool)
 ·obtain⟨h1,h2,h3,h4,h5,h6⟩:=h.mark i b o hj;exact⟨h1,Qi h2 hf.size,h3,h4,(hz i b o hj).trans h5,h6⟩
theorem Apt.upd'(h:Apt I0 w0 F0 Pc vp Ec ve ge w Fp J){M:Nat->Prop}(hf:Fr w M w') (hM:∀b,M b->b∉ge::Fp/\(∀o,¬I0 b o)/\(b∈F0\/w0.heap.size<=b)) (hz:∀i b o,J i b o->w'.frozen? ⟨b,o / 2,none⟩=w.frozen? ⟨b,o / 2,none⟩):Apt I0 w0 F0 Pc vp Ec ve ge w' Fp J:=by
 have hlt:∀b o,I0 b o->b<w.heap.size:=λb o hi=>Qi (h.odd b o hi).2 h.fr.size;refine h.upd hf (λb hb=>⟨λhm=>(hM b hb).1 (Qc _ hm),(hM b hb).2⟩) ?_ hz;exact OCr.frame (λ_ _ h=>h) (hf.keep λb o hi=>⟨hlt b o hi,λhb=>(hM b hb).2.1 o hi⟩) hf.size _ h.ent (λb hb=>hf.block b (OCr.ltF _ h.ent b hb) λhm=>(hM b hm).1 (by rw[List.mem_singleton.1 hb];exact Qn ..)) (OCr.notI _ h.ent)
theorem Apt.set(h:Apt I0 w0 F0 Pc vp Ec ve ge w Fp J){i b o:Nat}(hj:J i b o) (off:Nat) (vs:List Value):Apt I0 w0 F0 Pc vp Ec ve ge (w.setCells b off vs) Fp J:=by
 obtain⟨h1,h2,h3,h4,h5,h6⟩:=h.mark i b o hj;exact h.upd' (Fr.set b off vs w) (λx hx=>by subst hx;exact⟨h3,h4,h6⟩) λ_ _ _ _=>World.frozen?_setCells ..
theorem Apt.other(h:Apt I0 w0 F0 Pc vp Ec ve ge w Fp J){i k b o:Nat}(hj:J i b o) (hk:k≠i) (off:Nat) (vs:List Value){d:DV}{v:Value}(hd:DVr (J k) w d v):DVr (J k) (w.setCells b off vs) d v:=
 DVr.mono (λ_ _ h=>h) ((Fr.set b off vs w).keep λb' o' hi=>⟨(h.mark k b' o' hi).2.1,λe=>hk (by subst e;exact h.apart _ _ _ _ _ hi hj)⟩) _ hd
theorem Apt.call(h:Apt I0 w0 F0 Pc vp Ec ve ge w Fp J){Pd:OC}(hL:LO Pd Pc){I':Nat->Nat->Prop}{i:Nat}(_hi:∀b o,¬J i b o){Fp' Fr':List Nat}{z e:Nat}{es:List (List DV)}{v:Value}(hes:mz es=true) (hem:e<Q7) (fr:Fr w (· ∈ Fp) w') (new:∀b o,I' b o->I0 b o\/b∈Fp\/w.heap.size<=b) (lt:∀b o,I' b o->b<w'.heap.size) (odd:∀b o,I' b o->o%2=1->I0 b o) (soft:∀b o,I' b o->o%2=0->¬I0 b o->w'.frozen? ⟨b,o / 2,none⟩=false)
  (post:OCr I' w' Pc vp Fp') (res:OCr I' w' (.row z e es) v Fr') (nd:(Fp'++Fr').Nodup) (own:∀b∈Fp'++Fr',b∈Fp\/w.heap.size<=b) :
  ∃Ji:Nat->Nat->Prop,Apt I0 w0 F0 Pc vp Ec ve ge w' Fp' (λk=>if k=i then Ji else J k)/\DVr Ji w' (.sl es) v/\∀k,k≠i->∀(d:DV) (x:Value),DVr (J k) w d x->DVr (J k) w' d x:=by
 have hlt:∀b o,I0 b o->b<w.heap.size:=λb o hi=>Qi (h.odd b o hi).2 h.fr.size;have hnp:∀b∈Fp,∀o,¬I0 b o:=OCr.notI _ h.pool;have hgp:ge∉Fp:=(List.nodup_cons.1 h.nd).1;have hgl:ge<w.heap.size:=OCr.ltF _ h.ent ge (by simp);have hge:∀o,¬I0 ge o:=OCr.notI _ h.ent ge (by simp);have hnew:∀b,(b∈Fp\/w.heap.size<=b)->(∀o',¬I0 b o')/\(b∈F0\/w0.heap.size<=b)/\b≠ge/\∀k o,¬J k b o:=λb hb=>by
  refine⟨λo' ho=>?_,?_,?_,λk o hj=>?_⟩
  ·rcases hb with hb|hb
   ·exact hnp b hb o' ho
   ·have:=hlt b o' ho;omega
  ·rcases hb with hb|hb
   ·exact h.own b (Qc _ hb)
   ·exact .inr (Qt h.fr.size hb)
  ·rintro rfl;rcases hb with hb|hb
   ·exact hgp hb
   ·omega
  ·obtain⟨_,h2,h3,_⟩:=h.mark k b o hj;rcases hb with hb|hb
   ·exact h3 (Qc _ hb)
   ·omega
 obtain⟨ex,hrow,hF,hnI,_⟩:=(by simpa only[OCr]using res:∃ex,M4 I' w' v ⟨es,z,e,false⟩/\Fr'=(obk v).toList++(if Q4 e then ex else [])/\(∀g o,obk v=some g->¬I' g o)/\(Q4 e->cO w' v ex ⟨es,z,e,false⟩/\∀b∈ex,∀o,¬I' b o))
 rw[Ql (D3 hem),PO]at hF;obtain⟨hz,hlen,xs,hown,hdv⟩:=hrow.sl hem;have hob:∀g,obk v=some g->g∈Fr':=λg hg=>by rw[hF,hg];simp
 let Ji:Nat->Nat->Prop:=λb o=>(I' b o/\o%2=0)\/(obk v=some b/\o%2=0);have hJb:∀b o,Ji b o->o%2=0/\(b∈Fp\/w.heap.size<=b)/\b<w'.heap.size/\b∉Fp'/\w'.frozen? ⟨b,o / 2,none⟩=false:=λb o hj=>by
  rcases hj with⟨hj,h0⟩|⟨hj,h0⟩
  ·have hn:¬I0 b o:=λhi0=>by have:=(h.odd b o hi0).1;omega
   refine⟨h0,(new b o hj).resolve_left hn,lt b o hj,λhb=>OCr.notI _ post b hb o hj,soft b o hj h0 hn⟩
  ·have hb:=hob b hj;refine⟨h0,own b (Rj _ hb),OCr.ltF _ res b hb,λhp=>(List.nodup_append.1 nd).2.2 b hp b hb rfl,ig hown (by rw[<-N7 hown];exact hj) _⟩
 refine⟨Ji,⟨h.fr.trans fr λb hb=>h.own b (Qc _ hb),h.odd,?_,?_,?_,?_,?_,?_⟩,?_,?_⟩
 ·refine OCr.odd Pd hL post (λb o hi h1=>odd b o hi h1) λb hb=>(hnew b (own b (QH _ hb))).1
 ·refine List.nodup_cons.2 ⟨λhm=>?_,(List.nodup_append.1 nd).1⟩;exact(hnew ge (own ge (QH _ hm))).2.2.1 rfl
 ·intro b hb;rcases List.mem_cons.1 hb with rfl|hb
  ·exact h.own b (Qn ..)
  ·exact(hnew b (own b (QH _ hb))).2.1
 ·exact OCr.frame (λ_ _ h=>h) (fr.keep λb o hi=>⟨hlt b o hi,λhb=>hnp b hb o hi⟩) fr.size _ h.ent (λb hb=>fr.block b (OCr.ltF _ h.ent b hb) λhm=>by rw[List.mem_singleton.1 hb]at hm;exact hgp hm) (OCr.notI _ h.ent)
 ·intro k b o hj;by_cases hk:k=i
  ·simp only[hk,Qy]at hj;obtain⟨j1,j2,j3,j4,j5⟩:=hJb b o hj;obtain⟨n1,n2,n3,_⟩:=hnew b j2;exact⟨j1,j3,λhm=>by rcases List.mem_cons.1 hm with e|hm;exact n3 e;exact j4 hm,n1,j5,n2⟩
  ·simp only[hk,Qr]at hj;obtain⟨h1,h2,h3,h4,h5,h6⟩:=h.mark k b o hj;have hbp:b∉Fp:=λhm=>h3 (Qc _ hm);refine⟨h1,Qi h2 fr.size,λhm=>?_,h4,(dY (o:=o) (fr.block b h2 hbp)).2.trans h5,h6⟩;rcases List.mem_cons.1 hm with e|hm
   ·exact h3 (by rw[e];exact Qn ..)
   ·rcases own b (QH _ hm)with hm|hm
    ·exact hbp hm
    ·omega
 ·intro k j b o o' hk hj;by_cases e1:k=i <;> by_cases e2:j=i
  ·rw[e1,e2]
  ·simp only[e1,e2,Qy,Qr]at hk hj;exact absurd hj ((hnew b (hJb b o hk).2.1).2.2.2 j o')
  ·simp only[e1,e2,Qy,Qr]at hk hj;exact absurd hk ((hnew b (hJb b o' hj).2.1).2.2.2 k o)
  ·simp only[e1,e2,Qr]at hk hj;exact h.apart _ _ _ _ _ hk hj
 ·have hd2:D2 Ji w' es xs:=D2.mono (λb o hi=>by
   obtain⟨hi,o',rfl⟩:=hi;exact .inl ⟨hi,by omega⟩) (U9.refl _ _) _ (D2.ev es hes hdv)
  simp only[DVr];obtain⟨hl,⟨rfl,hn⟩|⟨g,cap,cur,rfl,_,hg,hc1,hc2,hcs,hct⟩⟩:=hown
  ·have hn':es.length=0:=hn;refine⟨none,0,z,xs,by rw[hn'],by omega,by decide,hz,hlen,λh0=>by omega,hd2⟩
  ·refine⟨some ⟨g,0,none⟩,cap,z,xs,rfl,hc1,hc2,hz,hlen,λ_=>⟨_,rfl,λj u hu=>?_⟩,hd2⟩;refine⟨?_,.inr ⟨rfl,by omega⟩⟩;rw[<-hct]at hu;have hu':cur.toList[j]?=some u:=by
    rw[List.getElem?_take]at hu;split at hu
    ·exact hu
    ·cases hu
   rw[H1 _ _ rfl];simp only[World.cell?,hg,Qo];simpa using hu'
 ·intro k hk d x hd;refine DVr.mono (λ_ _ h=>h) (fr.keep λb o hj=>?_) d hd;obtain⟨_,h2,h3,_⟩:=h.mark k b o hj;exact⟨h2,λhm=>h3 (Qc _ hm)⟩
end
end Go.Proofs.YthkhcbphbabefaaGreat.Am
