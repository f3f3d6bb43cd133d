/- Texts laid together: PUpd, PBlk, PSumZ, PDecB, PReap, PBld, PBldR, PJdg, PNode, PMkN, PPlM. No conditions. -/
import Derived.Test.YtjbgdpjgfjnkbaaGreatDoorQAF
namespace Go.Proofs.YtjbgdpjgfjnkbaaGreatDoor.Am
open Go
variable {md:Int}
theorem VZ{n:Nat}{s:StD}{raws:List (List UInt8)}{rs:List B1}(h:StV md n s) (hn:n<=1000) (hl:raws.length<=1000000) (hr:∀r∈raws,r.length<=1000000):Ok (M6 s raws rs) λx=>StV md n x.1:=by
 unfold M6 fN;refine L5 (λm v=>∃(i:Nat) (b0 b1:StD) (l0:List KD),i+m=raws.length/\v=(raws,rs,(i:Int),b0,b1,l0)/\StV md n b0/\l0.length<=i) ?_ ⟨0,s,_,[],by omega,rfl,h,by simp⟩ (n:=raws.length) (by omega);rintro m v ⟨i,b0,b1,l0,hi,rfl,hb,h0⟩;have c3:∀{s':StD} {k:KD} {v18 v20:Int} {v19:List B1} {v21:Bool},i<raws.length->StV md n s'->Ok (M2 raws rs (i:Int) v18 v19 v20 v21 s' b1 k l0) (Nxt (λx=>StV md n x.1) λz=>∃m',m'<m/\∃(i:Nat) (b0 b1:StD) (l0:List KD),i+m'=raws.length/\z=(raws,rs,(i:Int),b0,b1,l0)/\StV md n b0/\l0.length<=i):=fun {s'} {k} {v18} {v20} {v19} {v21} hir hs=>by
  unfold M2;rw[A4];refine(EA hs hn k).mono λr2 h2=>?_;obtain⟨l,hl',e2⟩:=h2;have hs2:StV md n r2.1:=by rw[e2];exact hs.e (hs.2.2.1.sub hl')
  rw[A5];refine⟨λ_=>?_,λ_=>?_⟩
  ·rw[a5H (nZ (by omega)),B7,A1,A8,C1 (by omega)];exact⟨m-1,by omega,i+1,_,_,_,by omega,rfl,hs2,by rw[a5K,a51];omega⟩
  ·rw[A1,A8,C1 (by omega)];exact⟨m-1,by omega,i+1,_,_,_,by omega,rfl,hs2,by omega⟩
 have c1:Ok (Option.map Sum.inr (Q7 b0 b1 l0):Option ((List (List UInt8)×List B1×Int×StD×StD×List KD)⊕(StD×List KD))) (Nxt (λx=>StV md n x.1) λz=>∃m',m'<m/\∃(i:Nat) (b0 b1:StD) (l0:List KD),i+m'=raws.length/\z=(raws,rs,(i:Int),b0,b1,l0)/\StV md n b0/\l0.length<=i):=by
  rw[C4];exact⟨_,rfl,hb⟩
 unfold bP;dsimp only;rw[A5];refine⟨λhc=>?_,λ_=>c1⟩;have hc:=a5P hc;have hir:i<raws.length:=by omega
 rw[A5];refine⟨λhd=>?_,λ_=>c1⟩;have hd:=a5P hd;rw[a5H (by omega),B7,a5J,C9 hir,GP (by have:=hr _ (a5V hir);omega),a5I,a5H (by omega),B7,A5];refine⟨λ_=>?_,λ_=>?_⟩
 ·rw[A4];refine(RG hb _).mono λr hr=>?_;obtain⟨c,hc,rfl⟩:=hr;exact c3 hir (hb.c hc)
 ·rw[A4];refine(Ez hb _).mono λr hr=>?_;obtain⟨c,hc,rfl⟩:=hr;exact c3 hir (hb.c hc)
theorem LG(a b c:Int):Ans (X0 a b c):=by
 unfold X0;simp only[Ans,A5,A1,a5M,a5L];exact⟨λ_=>⟨λ_=>trivial,λ_=>trivial⟩,λ_=>trivial⟩
theorem Wa{l:List ED}(hl:l.length<=1000000) (c:C6) (a b:Int):Ok (X1 c l a b) λr=>r.length<=l.length:=by
 unfold X1 iw;refine C8 l (λi (v:List KD)=>(a,b,l,((l.length:Nat):Int),((i:Nat):Int),c,v)) (λi v=>v.length<=i) (λi v hi hv=>?_) (λv hv=>?_) (b0:=[]) (by simp) (by omega)
 ·have app:∀{k:KD},Ok (chk (decide ((v.length+1)*32<=LIM/\v.length+1<=LEN)) (some (Sum.inl (a,b,l,((l.length:Nat):Int),B3 ((i:Int)+1),c,v++[k]))):Option ((Int×Int×List ED×Int×Int×C6×List KD)⊕List KD)) (Nxt (λr=>r.length<=l.length) λz=>∃b':List KD,z=(a,b,l,((l.length:Nat):Int),(((i+1:Nat):Nat):Int),c,b')/\b'.length<=i+1):=fun {k}=>by
   rw[a5H (nZ (by omega)),B7,A1,A8,C1 (by omega)];exact⟨_,rfl,by rw[a5K,a51];omega⟩
  unfold V3;dsimp only;rw[a5H (by omega:(i:Int)<((l.length:Nat):Int)),D1,a5H (by omega:(0:Int)<=(i:Int)/\(i:Int)<((l.length:Nat):Int)),B7];refine I5 (LG _ _ _) λr1=>?_;rw[A5];refine⟨λ_=>app,λ_=>I5 (LG _ _ _) λr2=>?_⟩;rw[A5];refine⟨λ_=>app,λ_=>?_⟩;rw[A1,A8,C1 (by omega)];exact⟨_,rfl,by omega⟩
 ·unfold V3;dsimp only;rw[a5N (by omega),D3,A1,B5];exact hv
theorem Zq{n:Nat}{s:StD}(h:StV md n s) (hn:n<=1000):Ok (U2 s) λx=>StV md n x.1:=by
 have hl:=h.2.2.1.1;unfold U2;rw[A4];refine(Wa (by omega) _ _ _).mono λl hl'=>?_;unfold gG;refine C8 l (λi (v:StD)=>(((l.length:Nat):Int),((i:Nat):Int),v,_,l)) (λ_ v=>StV md n v) (λi v hi hv=>?_) (λv hv=>?_) (b0:=s) h (by omega)
 ·unfold T4;dsimp only;rw[a5H (by omega:(i:Int)<((l.length:Nat):Int)),D1,a5H (by omega:(0:Int)<=(i:Int)/\(i:Int)<((l.length:Nat):Int)),B7,a5J,a5H hi,B7,A4];refine(EA hv hn _).mono λr1 h1=>?_;obtain⟨m,hm,e1⟩:=h1;rw[e1,A4];refine(RH (hv.e (hv.2.2.1.sub hm)) _).mono λr2 h2=>?_;obtain⟨c,hc,rfl⟩:=h2;rw[A1,A8,C1 (by omega)];exact⟨_,rfl,(hv.e (hv.2.2.1.sub hm)).c hc⟩
 ·unfold T4 cZ;dsimp only;rw[a5N (by omega),D3,C4];exact⟨_,rfl,hv⟩
theorem Nw{n:Nat}{s t:StD}{l:List KD}(h:StV md n s) (hn:n<=1000) (hl:l.length<=1000000):Ok (V6 s t l) λx=>StV md n x.1:=by
 unfold V6 eR;refine C8 l (λi (v:StD)=>(((l.length:Nat):Int),((i:Nat):Int),v,t,l)) (λ_ v=>StV md n v) (λi v hi hv=>?_) (λv hv=>?_) (b0:=s) h (by omega)
 ·unfold O3;dsimp only;rw[a5H (by omega:(i:Int)<((l.length:Nat):Int)),D1,a5H (by omega:(0:Int)<=(i:Int)/\(i:Int)<((l.length:Nat):Int)),B7,a5J,a5H hi,B7,A4];refine(EA hv hn _).mono λr1 h1=>?_;obtain⟨m,hm,e1⟩:=h1;rw[e1,A4];refine(Ez (hv.e (hv.2.2.1.sub hm)) _).mono λr2 h2=>?_;obtain⟨c,hc,rfl⟩:=h2;rw[A1,A8,C1 (by omega)];exact⟨_,rfl,(hv.e (hv.2.2.1.sub hm)).c hc⟩
 ·unfold O3 aU;dsimp only;rw[a5N (by omega),D3,C4];exact⟨_,rfl,hv⟩
def Zr(s:StD) (a:H6):StD:=(s.1,a,s.2.2)
theorem StV.a{n:Nat}{s:StD}(h:StV md n s){a:H6}(ha:Jk a):StV md n (Zr s a):=⟨h.1,ha,h.2.2⟩
theorem LH{a:H6}(h:Jk a):Ok (cH a) Jk:=⟨_,rfl,h.1,h.1,h.2.2⟩
theorem RT{n:Nat}{s:StD}(h:StV md n s) (hn:n<=1000):Ok (P4 s) λx=>StV md n x.1:=by
 have hl:=h.2.2.1.1;have hE:=h.2.2.1;unfold P4;rw[A4];refine(LH h.2.1).mono λa ha=>?_;obtain⟨l,el⟩:∃l,l=s.2.2.2.2.2.1:=⟨_,rfl⟩;rw[<-el]at hl hE⊢;unfold eS;refine C8 l (λi (v:StD×List KD)=>(l,((l.length:Nat):Int),((i:Nat):Int),v.1,_,v.2)) (λi v=>StV md n v.1/\v.2.length<=i) (λi v hi hv=>?_) (λv hv=>?_) (b0:=(Zr s a,[])) ⟨h.a ha,by simp⟩ (by omega)
 ·have hk:=hE.2.1 _ (a5V hi);have c5:∀{b:Bool} {t:StD},Ok (L1 l ((l.length:Nat):Int) (i:Int) b v.1 t l[i] v.2) (Nxt (λx=>StV md n x.1) λz=>∃b':StD×List KD,z=(l,((l.length:Nat):Int),(((i+1:Nat):Nat):Int),b'.1,t,b'.2)/\StV md n b'.1/\b'.2.length<=i+1):=fun {b} {t}=>by
   unfold L1;rw[A5];refine⟨λ_=>?_,λ_=>?_⟩
   ·rw[A4];refine(GU hv.1.2.1 (by have:=hk.2.1;omega)).mono λr5 h5=>?_;rw[A1,A8,C1 (by omega)];exact⟨(Zr v.1 r5,v.2),rfl,hv.1.a h5,by dsimp only;omega⟩
   ·rw[a5H (nZ (by omega)),B7,A1,A8,C1 (by omega)];exact⟨(v.1,v.2++[l[i].1]),rfl,hv.1,by simp only[a5K,a51];omega⟩
  unfold O4;dsimp only;rw[a5H (by omega:(i:Int)<((l.length:Nat):Int)),D1,a5H (by omega:(0:Int)<=(i:Int)/\(i:Int)<((l.length:Nat):Int)),B7,a5J,C9 hi,Bc hv.1.2.1 (by have:=hk.2.1;omega),a5I,A5];refine⟨λ_=>I5 (GS _ _) λr6=>c5,λ_=>c5⟩
 ·unfold O4;dsimp only;rw[a5N (by omega),D3,C4];exact(Nw hv.1 hn (by omega)).mono λx hx=>hx
theorem Wb{n:Nat}{s:StD}{raws:List (List UInt8)}{rs:List B1}{a b:Int}(h:StV md n s) (hn:n<=1000) (hl:raws.length<=1000000) (hr:∀r∈raws,r.length<=1000000):Ok (S4 s raws rs a b) λx=>StV md n x.1:=by
 unfold S4;rw[A4];refine(VZ (n:=n) (⟨h.1,h.2.1,h.2.2.1,h.2.2.2⟩:StV md n (s.1,s.2.1,a,max s.2.2.2.1 b,s.2.2.2.2)) hn hl hr).mono λr1 h1=>?_;rw[A4];refine(Zq h1 hn).mono λr2 h2=>?_;rw[A4];exact(RT h2 hn).mono λr3 h3=>⟨_,rfl,h3⟩
theorem CJ{a:H6}{raws:List (List UInt8)}(h:Jk a) (hr:RQ raws):Ok (T3 a raws) λx=>x.2.2=0->(x.1=(a.1,a.2.1,(nv a.1 a.2.2.2.2 raws).1,true,a.2.2.2.2)/\x.2.1=(nv a.1 a.2.2.2.2 raws).2):=by
 unfold T3;rw[A5];refine⟨λ_=>⟨_,rfl,λe=>by cases e⟩,λ_=>?_⟩;rw[A5];refine⟨λ_=>⟨_,rfl,λe=>by cases e⟩,λ_=>?_⟩;rw[RR h.1.b h.2.2.2.2 hr,a5I];exact⟨_,rfl,λ_=>⟨rfl,rfl⟩⟩
theorem LI{a:H6}{g:o8}(h:Jk a) (hg:xl g):Ok (X6 (a.1,a.2.1,g,true,a.2.2.2.2)) λx=>Jk x.1:=by
 unfold X6;dsimp only;rw[a6a,D3];exact⟨_,rfl,hg,hg,AW,rfl,h.2.2.2.2⟩
end Go.Proofs.YtjbgdpjgfjnkbaaGreatDoor.Am
namespace Go.Proofs.YtjbgdpjgfjnkbaaGreatDoor.Am
open Go
theorem xg(a b:List UInt8):Ans (G8 a b):=⟨_,rfl,trivial⟩
theorem Zs{n:Nat}(h:n<=1000000000):n*48<=LIM/\n<=LEN:=by unfold LIM LEN;omega
theorem BI{n:Nat}(h:n<=1000000000):n*24<=LIM/\n<=LEN:=by unfold LIM LEN;omega
theorem Xn{n:Nat}(h:n<=1000000000):n*1<=LIM/\n<=LEN:=by unfold LIM LEN;omega
theorem RU{b0:List A3}{L:List KD}(hL:L.length=4) (hb:b0.length<=10) (hf:∀f∈b0,ZO f/\f.2.2.2.length<=100):Ok (fK 4 0 b0 L) λr=>r.length<=3000:=by
 unfold fK;have e4:(4:Int)=((L.length:Nat):Int):=by rw[hL];rfl
 rw[e4];refine C8 L (λi (v:List A3)=>(((L.length:Nat):Int),((i:Nat):Int),v,L)) (λi v=>v.length<=10+i/\∀f∈v,ZO f/\f.2.2.2.length<=100) (λi v hi hv=>?_) (λv hv=>?_) (b0:=b0) ⟨hb,hf⟩ (by omega)
 ·have h32:(Vector.toList L[i]).length=32:=a6F;unfold bG;dsimp only;rw[a5H (by omega:(i:Int)<((L.length:Nat):Int)),D1,a5H (by omega:(0:Int)<=(i:Int)/\(i:Int)<((L.length:Nat):Int)),B7,a5J,a5H hi,B7,C9 hi,a5H (Xn (by omega)),B7,a5H (Zs (by omega)),B7,A1,A8,C1 (by omega)];refine⟨_,rfl,by rw[a5K,a51];omega,λf hm=>?_⟩;rcases List.mem_append.1 hm with hm|hm
  ·exact hv.2 f hm
  ·rw[List.mem_singleton.1 hm];have e:B3 ((i:Int)+4)=(i:Int)+4:=D9 (by omega) (by omega);rw[e];exact⟨⟨⟨by dsimp only;omega,by dsimp only;omega⟩,.inr rfl,by dsimp only;omega,by dsimp only;omega⟩,by dsimp only;omega⟩
 ·unfold bG;dsimp only;rw[a5N (by omega),D3,C4,A4];have hw:wtF v<=v.length*120:=by
   unfold wtF;have:=hv.2;generalize v=w at this⊢
   induction w with
   |nil=>simp
   |cons f w ih=>
    have h1:=(this f a6M).2;have h2:=ih λg hg=>this g (a6h _ hg);simp only[a55,a63,a54];omega
  refine(GM (λf hm=>(hv.2 f hm).1) (by omega) (by omega)).mono λr hr=>⟨_,rfl,?_⟩;show r.length<=3000;omega
theorem xX(h:D0):Ok (X4 h) λr=>r.length<=3000:=by
 obtain⟨L,hL⟩:∃L:List Int,L=[h.1,h.2.1,h.2.2.1]:=⟨_,rfl⟩;have hL3:L.length=3:=by rw[hL];rfl
 unfold X4 kE;rw[<-hL];have e3:(3:Int)=((L.length:Nat):Int):=by rw[hL3];rfl
 rw[e3];refine C8 L (λi (v:List A3)=>(((L.length:Nat):Int),((i:Nat):Int),h,v,L)) (λi v=>v.length<=i/\∀f∈v,ZO f/\f.2.2.2.length<=100) (λi v hi hv=>?_) (λv hv=>?_) (b0:=[]) ⟨by simp,λf hf=>by cases hf⟩ (by omega)
 ·unfold bH;dsimp only;rw[a5H (by omega:(i:Int)<((L.length:Nat):Int)),D1,a5H (by omega:(0:Int)<=(i:Int)/\(i:Int)<((L.length:Nat):Int)),B7,a5J,a5H hi,B7,a5H (Zs (by omega)),B7,A1,A8,C1 (by omega)];refine⟨_,rfl,by rw[a5K,a51];omega,λf hm=>?_⟩;rcases List.mem_append.1 hm with hm|hm
  ·exact hv.2 f hm
  ·rw[List.mem_singleton.1 hm];exact⟨⟨⟨by dsimp only;omega,by dsimp only;omega⟩,.inl rfl,Y2 _⟩,by simp⟩
 ·unfold bH gD;dsimp only;rw[a5N (by omega),D3,C4];exact(RU rfl (by omega) hv.2).mono λr hr=>hr
def Bk(n:Nat) (l:List (List UInt8)):Prop:=l.length<=2000/\∀b∈l,b.length<=n
theorem EE{b:H4}{n:Nat}(h:Bk n b.2) (hn:n<=10000000):Ok (H7 b) λr=>r.length<=(b.2.length+1)*(n+3020):=by
 have hl:=h.1;unfold H7;rw[A4];refine(xX b.1).mono λhd hh=>?_;unfold mq;refine C8 b.2 (λi (v:List A3)=>(b.2,((b.2.length:Nat):Int),((i:Nat):Int),v)) (λi v=>v.length=i+1/\∀f∈v,ZO f/\f.2.2.2.length<=n+3000) (λi v hi hv=>?_) (λv hv=>?_) (b0:=[(1,2,(0:Int),hd)]) ⟨rfl,λf hf=>?_⟩ (by omega)
 ·have hb:=h.2 _ (a5V hi);unfold eB;dsimp only;rw[a5H (by omega:(i:Int)<((b.2.length:Nat):Int)),D1,a5H (by omega:(0:Int)<=(i:Int)/\(i:Int)<((b.2.length:Nat):Int)),B7,a5J,C9 hi,a5H (Zs (by omega)),B7,A1,A8,C1 (by omega)];refine⟨_,rfl,by rw[a5K,a51];omega,λf hm=>?_⟩;rcases List.mem_append.1 hm with hm|hm
  ·exact hv.2 f hm
  ·rw[List.mem_singleton.1 hm];exact⟨⟨⟨by dsimp only;omega,by dsimp only;omega⟩,.inr rfl,by dsimp only;omega,by dsimp only;omega⟩,by dsimp only;omega⟩
 ·unfold eB;dsimp only;rw[a5N (by omega),D3,C4,A4];have hw:wtF v<=v.length*(n+3020):=by
   unfold wtF;have:=hv.2;generalize v=w at this⊢
   induction w with
   |nil=>simp
   |cons f w ih=>
    have h1:=(this f a6M).2;have h2:=ih λg hg=>this g (a6h _ hg);simp only[a55,a63,a54,a6r];omega
  rw[hv.1]at hw;have h2:(b.2.length+1)*(n+3020)<=2001*10003020:=a7V (by omega) (by omega);refine(GM (λf hm=>(hv.2 f hm).1) (by omega) (by omega)).mono λr hr=>⟨_,rfl,a6c hr hw⟩
 ·rw[List.mem_singleton.1 hf];exact⟨⟨⟨by dsimp only;omega,by dsimp only;omega⟩,.inr rfl,by dsimp only;omega,by dsimp only;omega⟩,by dsimp only;omega⟩
theorem zA(h:D0):Ans (W9 h):=by
 unfold W9;rw[Ans,A4];refine(xX h).mono λr hr=>I5 (qf (by omega)) λr2=>⟨_,rfl,trivial⟩
theorem LJ{b:H4}{n:Nat}(h:Bk n b.2) (hn:n<=10000000):Ok (bk b) λr=>r.2=0->r.1.length<=2097152/\b.2.length<=512:=by
 have bad:∀e:Int,e≠0->Ok (some (([]:List UInt8),e)) λr=>r.2=0->r.1.length<=2097152/\b.2.length<=512:=λe he=>⟨_,rfl,λh=>absurd h he⟩;unfold bk;rw[A5];refine⟨λ_=>bad 1 (by decide),λ_=>?_⟩;rw[A5];refine⟨λ_=>bad 1 (by decide),λ_=>?_⟩;rw[A5];refine⟨λ_=>bad 1 (by decide),λ_=>?_⟩;rw[A5];refine⟨λ_=>bad 1 (by decide),λ_=>?_⟩;rw[A5];refine⟨λ_=>bad 1 (by decide),λ_=>?_⟩;rw[A5];refine⟨λ_=>bad 1 (by decide),λ_=>?_⟩;rw[A5];refine⟨λ_=>bad 3 (by decide),λh5=>?_⟩;have h5:=a57 h5;rw[A4];refine(EE h hn).mono λr hr=>?_;rw[A5];refine⟨λ_=>bad 3 (by decide),λh6=>⟨_,rfl,λ_=>?_⟩⟩;have h6:=a57 h6;dsimp only;omega
theorem Jo{log p:List UInt8}(hl:log.length<=16777216):Ok (bO log p) λr=>r.1.length<=16777216:=by
 unfold bO;rw[A5];refine⟨λ_=>⟨_,rfl,by simp⟩,λh1=>?_⟩;have h1:=a57 h1;rw[A5];refine⟨λ_=>⟨_,rfl,by simp⟩,λh2=>?_⟩;have h2:=a57 h2;rw[D9 (n:=((log.length:Nat):Int)+8) (by omega) (by omega),D9 (by omega) (by omega)]at h2;rw[A4];refine(qf (by omega)).mono λk _=>?_;have hk:(Vector.toList k).length=32:=a6F;simp only[a5K,a54,a6v,a5T,hk];rw[a5H (Xn (by omega)),B7,a5H (aJ _),B7,a5H (aJ _),B7,a5H (aJ _),B7,a5H (aJ _),B7,a5H (Xn (by omega)),B7,a5H (Xn (by omega)),B7,a5H (Xn (by omega)),B7];refine⟨_,rfl,?_⟩;simp only[a5K,a54,a6v,a5T,hk];omega
theorem Jp{b:H4}{g:o8}{rs:List B1}(hg:Jj 256 g) (hr:∀r∈rs,okU r.2.2.2.1) (hl:rs.length<=1000000):Ans (eD b g rs):=by
 unfold eD;exact I5 (zA _) λr1=>I5 (LA hg) λr2=>I5 (RA hr hl) λr3=>⟨_,rfl,trivial⟩
theorem Zt{l:List KD}{es:List ED}(hl:l.length<=1000000) (he:es.length<=1000000):Ok (ge l es) λr=>r.length<=l.length:=by
 unfold ge lH;refine C8 l (λi (v:List KD)=>(es,l,((l.length:Nat):Int),((i:Nat):Int),v)) (λi v=>v.length<=i) (λi v hi hv=>?_) (λv hv=>?_) (b0:=[]) (by simp) (by omega)
 ·unfold da;dsimp only;rw[a5H (by omega:(i:Int)<((l.length:Nat):Int)),D1,a5H (by omega:(0:Int)<=(i:Int)/\(i:Int)<((l.length:Nat):Int)),B7,IP he,a5I,A5];refine⟨λ_=>?_,λ_=>?_⟩
  ·rw[a5H (nZ (by omega)),B7,A1,A8,C1 (by omega)];exact⟨_,rfl,by rw[a5K,a51];omega⟩
  ·rw[A1,A8,C1 (by omega)];exact⟨_,rfl,by omega⟩
 ·unfold da;dsimp only;rw[a5N (by omega),D3,A1,B5];exact hv
theorem a2A{l:List ED}{k:List KD}{n:Nat}(h:yP n l) (hn:n<=1000) (hk:k.length<=1000000) (p:Int):Ok (iy l p k) λr=>r.1.length<=10000:=by
 have hl:=h.1;unfold iy mr;refine C8 l (λi (_:Unit)=>(p,k,l,((l.length:Nat):Int),((i:Nat):Int))) (λ_ _=>True) (λi _ hi _=>?_) (λ_ _=>?_) (b0:=()) trivial (by omega)
 ·have he:=h.2.1 _ (a5V hi);have he1:=he.2.1;have he2:=he.2.2.2;have go:Ok (some (Sum.inl (p,k,l,((l.length:Nat):Int),B3 ((i:Int)+1))):Option ((Int×List KD×List ED×Int×Int)⊕(List UInt8×Bool))) (Nxt (λr=>r.1.length<=10000) λz=>∃_:Unit,z=(p,k,l,((l.length:Nat):Int),(((i+1:Nat):Nat):Int))/\True):=by
   rw[A1,A8,C1 (by omega)];exact⟨(),rfl,trivial⟩
  unfold eE;dsimp only;rw[a5H (by omega:(i:Int)<((l.length:Nat):Int)),D1,a5H (by omega:(0:Int)<=(i:Int)/\(i:Int)<((l.length:Nat):Int)),B7,a5J,C9 hi,Ge (by omega),a5I,A5];refine⟨λ_=>I5 (RE hk _) λr2=>?_,λ_=>go⟩;rw[A5];refine⟨λ_=>?_,λ_=>go⟩;rw[a5H (Xn (by omega)),B7,A1,B5];exact he1
 ·unfold eE;dsimp only;rw[a5N (by omega),D3,A1,B5];simp
def vT(l:List (List UInt8)):Nat:=(l.map λb=>fsz b.length).sum
theorem zB(a b:List (List UInt8)):vT (a++b)=vT a+vT b:=by simp[vT]
theorem EF(b:List UInt8):vT [b]=fsz b.length:=by simp[vT]
theorem Zu{l:List (List UInt8)}{c:Nat}(h:∀b∈l,b.length<=c) (hc:c<4611686018427387904):vT l<=l.length*(c+11):=by
 induction l with
 |nil=>simp[vT]
 |cons b l ih=>
  have h1:=ih (λx hx=>h x (by simp[hx]));have h2:=h b (by simp);have h3:=LB (n:=b.length) (by omega);have e:vT (b::l)=fsz b.length+vT l:=by simp[vT]
  rw[e,a54,a6r];omega
def Nx(l:List (List UInt8)):Prop:=l.length<=2000/\∀b∈l,b.length<=140737488351232
theorem Nx.sum{l:List (List UInt8)}(h:Nx l) (i:Nat):vT (l.take i)<=281474976702486000:=by
 have h1:=Zu (l:=l.take i) (c:=140737488351232) (λb hb=>h.2 b (a6V hb)) (by omega);have hl:(l.take i).length<=2000:=by rw[a5T];have:=h.1;omega
 generalize (l.take i).length=n at h1 hl;omega
theorem a2B{l:List (List UInt8)}(h:Nx l):Ax l=some (vT l:Int):=by
 refine J1.1 ?_;have hl:=h.1;unfold Ax ta;refine C8 l (λi (a:Int)=>(a,l,((l.length:Nat):Int),((i:Nat):Int))) (λi a=>a=(vT (l.take i):Int)) (λi a hi ha=>?_) (λa ha=>?_) (b0:=0) rfl (by omega)
 ·subst ha;have hs:=h.sum i;have hbl:=h.2 (l.getD i []) (by rw[C9 hi];exact a5V hi);have hsz:=GO (n:=(l.getD i []).length) (by omega);have hf:=LB (n:=(l.getD i []).length) (by omega);have w:B3 ((vT (l.take i):Int)+(fsz (l.getD i []).length:Int))=((vT (l.take (i+1)):Nat):Int):=by
   rw[D9 (by omega) (by omega),E4 hi,zB,EF,C9 hi];omega
  simp only[ql,A5,D8,A4,A1,A8,a5M,a5L,a5J,hsz,w,C1 (i:=i) (by omega)];exact⟨λ_=>⟨by omega,_,rfl,rfl⟩,λh=>by omega⟩
 ·subst ha;simp only[ql,A5,D8,A4,A1,A8,B5,a5M,a5L,a5J];exact⟨λh=>by omega,λ_=>by rw[a52]⟩
theorem LK{l:List (List UInt8)}(h:Nx l):fA l=some (vT l:Int):=by
 refine J1.1 ?_;have hl:=h.1;unfold fA mN;refine C8 l (λi (a:Int)=>(a,l,((l.length:Nat):Int),((i:Nat):Int))) (λi a=>a=(vT (l.take i):Int)) (λi a hi ha=>?_) (λa ha=>?_) (b0:=0) rfl (by omega)
 ·subst ha;have hs:=h.sum i;have hbl:=h.2 (l.getD i []) (by rw[C9 hi];exact a5V hi);have hsz:=pC (n:=(l.getD i []).length) (by omega);have hf:=LB (n:=(l.getD i []).length) (by omega);have w:B3 ((vT (l.take i):Int)+(fsz (l.getD i []).length:Int))=((vT (l.take (i+1)):Nat):Int):=by
   rw[D9 (by omega) (by omega),E4 hi,zB,EF,C9 hi];omega
  simp only[fw,A5,D8,A4,A1,A8,a5M,a5L,a5J,hsz,w,C1 (i:=i) (by omega)];exact⟨λ_=>⟨by omega,_,rfl,rfl⟩,λh=>by omega⟩
 ·subst ha;simp only[fw,A5,D8,A4,A1,A8,B5,a5M,a5L,a5J];exact⟨λh=>by omega,λ_=>by rw[a52]⟩
theorem RV{b:List UInt8}(hb:b.length<=1000000000):K3 b=some ((oy b).1.map toF,(((oy b).2.1:Nat):Int),(((oy b).2.2:Nat):Int)):=by
 rw[<-(FSm.fields_same b hb).1];exact pB b (by omega)
theorem Jq{b:List UInt8}:∀f∈(oy b).1.map toF,f.2.2.2.length<=b.length:=λf hf=>by
 obtain⟨g,hg,rfl⟩:=List.mem_map.1 hf;exact(rm b g hg).2.2
theorem a4b{v0:List UInt8}{j:Nat}{v55:Int}{b0 b1:D0}{b2:Vector (Vector UInt8 32) 4}{l0:List A3}(hl:l0.length=7) (hj:j<4) (hb:(l0.getD (j+3) D6).2.2.2.length=32):Ok (cn v0 (j:Int) v55 0 b0 b1 b2 l0) λr=>∃c,r= .inl (v0,B3 (v55+1),b0,b1,c,l0):=by
 have w3:B3 ((j:Int)+3)=((j+3:Nat):Int):=by rw[D9 (by omega) (by omega)];omega
 unfold cn;refine L5 (λn v=>∃(i:Nat) (c:Vector (Vector UInt8 32) 4),i+n=32/\v=(v0,(j:Int),v55,(i:Int),b0,b1,c,l0)) ?_ ⟨0,b2,rfl,rfl⟩ (n:=32) (by omega);rintro n v ⟨i,c,hi,rfl⟩;unfold de;dsimp only;rw[w3,A5];refine⟨λh=>?_,λh=>?_⟩
 ·have h:=a5P h;simp only[a5J,hb];rw[a5H (by omega),B7,a5H (by omega),B7,a5H (by omega),B7,a5H (by omega),B7,a5H (by omega),B7,a5H (by omega),B7,A1,A8,C1 (by omega)];exact⟨n-1,by omega,i+1,_,by omega,rfl⟩
 ·rw[A1,B5];exact⟨c,rfl⟩
theorem a4c{v0:List UInt8}{b0 b1:D0}{b2:Vector (Vector UInt8 32) 4}{l0:List A3}(hl:l0.length=7):Ans (co v0 0 b0 b1 b2 l0):=by
 unfold co;refine L5 (λn v=>∃(i:Nat) (c:Vector (Vector UInt8 32) 4),i+n=4/\v=(v0,(i:Int),b0,b1,c,l0)) ?_ ⟨0,b2,rfl,rfl⟩ (n:=4) (by omega);rintro n v ⟨i,c,hi,rfl⟩;unfold dg;dsimp only;rw[A5];refine⟨λh=>?_,λh=>?_⟩
 ·have h:=a5P h;have w3:B3 ((i:Int)+3)=((i+3:Nat):Int):=by rw[D9 (by omega) (by omega)];omega
  rw[w3,a5H (by omega),B7,a5H (by rw[a5J];omega),B7,A5];refine⟨λ_=>?_,λhb=>?_⟩
  ·rw[A1,B5];trivial
  ·have hb:(l0.getD (i+3) D6).2.2.2.length=32:=by
    rw[a5J]at hb;have:=hb;simp only[a5Q,a5M]at this;omega
   refine(a4b hl (by omega) hb).mono λr hr=>?_;obtain⟨c',rfl⟩:=hr;rw[A8,C1 (by omega)];exact⟨n-1,by omega,i+1,c',by omega,rfl⟩
 ·unfold db;rw[C4,A4];refine(xX _).mono λr2 _=>I5 (xg _ _) λr3=>⟨_,rfl,trivial⟩
theorem BJ{b:List UInt8}(hb:b.length<=1000000000):Ans (aV b):=by
 unfold aV;rw[RV hb,a5I];generalize ((oy b).1.map toF)=l0;rw[Ans,A5];refine⟨λ_=>⟨_,rfl,trivial⟩,λ_=>?_⟩;rw[A5];refine⟨λ_=>⟨_,rfl,trivial⟩,λh7=>?_⟩;have hl:l0.length=7:=by
  simp only[a5Q,a5M]at h7;omega
 unfold iJ;dsimp only;refine L5 (λn v=>∃(i:Nat),i+n=3/\v=(b,(i:Int),_,_,l0)) ?_ ⟨0,rfl,rfl⟩ (n:=3) (by omega);rintro n v ⟨i,hi,rfl⟩;unfold di;dsimp only;rw[A5];refine⟨λh=>?_,λh=>?_⟩
 ·have h:=a5P h;rw[a5H (by omega),B7,a5H (by rw[a5J];omega),B7,A5];refine⟨λ_=>?_,λ_=>?_⟩
  ·rw[A1,B5];trivial
  ·rw[A1,A8,C1 (by omega)];exact⟨n-1,by omega,i+1,by omega,rfl⟩
 ·unfold dh;rw[C4,a5H (by omega),B7,a5H (by omega),B7,a5H (by omega),B7,a5H (by omega),B7,a5H (by omega),B7,a5H (by omega),B7];exact(a4c hl).mono λr _=>trivial
theorem RW{raw:List UInt8}{a b c:Int}{d e f g:Vector UInt8 32}{h:D0}{l:List (List UInt8)}{n:Nat}(hl:Bk n l) (hn:n<=10000000):Ok (bR raw a b c d e f g h l) λr=>Bk n r.1.2:=by
 have nil:Bk n []:=⟨by simp,λx hx=>by cases hx⟩;unfold bR;rw[A4];refine(EE (b:=(h,l)) hl hn).mono λr3 _=>I5 (xg _ _) λr4=>?_;rw[A5];refine⟨λ_=>⟨_,rfl,nil⟩,λ_=>?_⟩;rw[A4];refine(LJ (b:=(h,l)) hl hn).mono λr5 _=>?_;rw[A5];exact⟨λ_=>⟨_,rfl,nil⟩,λ_=>⟨_,rfl,hl⟩⟩
theorem Wc{raw:List UInt8}(hr:raw.length<=10000000):Ok (fv raw) λr=>Bk raw.length r.1.2:=by
 have nil:Bk raw.length []:=⟨by simp,λx hx=>by cases hx⟩;have hbyt:=Jq (b:=raw);have hln:=uh raw;unfold fv;rw[A5];refine⟨λ_=>⟨_,rfl,nil⟩,λ_=>?_⟩;rw[RV (by omega),a5I];have hln':((oy raw).1.map toF).length<=1024:=by rw[a5X];exact hln
 generalize ((oy raw).1.map toF)=l0 at hbyt hln';rw[A5];refine⟨λ_=>⟨_,rfl,nil⟩,λ_=>?_⟩;rw[A5];refine⟨λ_=>⟨_,rfl,nil⟩,λh0=>?_⟩;have h0:=a57 h0;dsimp only at h0⊢;have hp:0<l0.length:=by omega
 have hd:=hbyt (l0.getD 0 D6) (by rw[C9 hp];exact a5V hp);rw[a5H (by omega),B7,a5H hp,B7];refine I5 (BJ (by omega)) λr2=>?_;rw[A5];refine⟨λ_=>⟨_,rfl,nil⟩,λ_=>?_⟩;rw[a5H (by omega),B7,a5J,a52];have hdl:(l0.drop 1).length<=1024:=by rw[a5Y];omega
 have hdb:∀f∈l0.drop 1,f.2.2.2.length<=raw.length:=λf hf=>hbyt f (a7E hf);generalize l0.drop 1=l1 at hdl hdb;unfold kI;refine C8 l1 (λi (v:List (List UInt8))=>(raw,l1,((l1.length:Nat):Int),((i:Nat):Int),_,_,_,_,_,_,_,r2.1,v)) (λi v=>v.length=i/\∀x∈v,x.length<=raw.length) (λi v hi hv=>?_) (λv hv=>?_) (b0:=[]) ⟨rfl,λx hx=>by cases hx⟩ (by omega)
 ·unfold bS;dsimp only;rw[a5H (by omega:(i:Int)<((l1.length:Nat):Int)),D1,a5H (by omega:(0:Int)<=(i:Int)/\(i:Int)<((l1.length:Nat):Int)),B7,a5J,C9 hi,a5H (BI (by omega)),B7,A1,A8,C1 (by omega)];refine⟨_,rfl,by rw[a5K,a51];omega,λx hx=>?_⟩;rcases List.mem_append.1 hx with hx|hx
  ·exact hv.2 x hx
  ·rw[List.mem_singleton.1 hx];exact hdb _ (a5V hi)
 ·unfold bS;dsimp only;rw[a5N (by omega),D3,C4];exact(RW ⟨by omega,hv.2⟩ hr).mono λr hr=>hr
theorem Bk.list{n:Nat}{l:List (List UInt8)}(h:Bk n l) (hn:n<=10000000):Nx l:=⟨h.1,λb hb=>by have:=h.2 b hb;omega⟩
theorem BK{t:eX}{b:H4}{m:Int}{n:Nat}(h:Bk n b.2) (hn:n<=10000000):Ans (aW t b 1 m):=by
 have c3:∀v,Ans (P7 m v t b b.1):=λv=>by
  unfold P7;rw[Ans,A5];refine⟨λ_=>⟨_,rfl,trivial⟩,λ_=>?_⟩;rw[A5];refine⟨λ_=>⟨_,rfl,trivial⟩,λ_=>?_⟩;rw[A5];refine⟨λ_=>⟨_,rfl,trivial⟩,λ_=>?_⟩;rw[A5];refine⟨λ_=>⟨_,rfl,trivial⟩,λ_=>?_⟩;refine I5 (xd (by have:=h.1;omega) λx hx=>by have:=h.2 x hx;omega) λr1=>?_;rw[A5];refine⟨λ_=>⟨_,rfl,trivial⟩,λ_=>?_⟩;rw[A5];refine⟨λ_=>⟨_,rfl,trivial⟩,λ_=>?_⟩;rw[LK (h.list hn),a5I,A5];exact⟨λ_=>⟨_,rfl,trivial⟩,λ_=>⟨_,rfl,trivial⟩⟩
 have c2:∀v,Ans (P8 1 m v t b b.1):=λv=>by
  unfold P8;rw[Ans,A5];refine⟨λ_=>⟨_,rfl,trivial⟩,λ_=>?_⟩;rw[a5N (by decide:¬(1:Int)=0),a6g,B7,A5];refine⟨λ_=>⟨_,rfl,trivial⟩,λ_=>?_⟩;rw[A5];exact⟨λ_=>c3 _,λ_=>c3 _⟩
 have c1:∀v,Ans (J4 1 m v t b b.1):=λv=>by
  unfold J4;rw[Ans,A5];refine⟨λ_=>⟨_,rfl,trivial⟩,λ_=>?_⟩;rw[A5];exact⟨λ_=>c2 _,λ_=>c2 _⟩
 unfold aW;rw[Ans,A5];refine⟨λ_=>c1 _,λ_=>?_⟩;rw[A5];refine⟨λ_=>c1 _,λ_=>?_⟩;rw[A5];exact⟨λ_=>c1 _,λ_=>c1 _⟩
theorem Xo{t:eX}{tm p:Int}{l:List (List UInt8)}{n:Nat}(h:Bk n l) (hn:n<=10000000):Ok (dH t tm p l) λb=>b.2=l:=by
 have hl:=h.1;unfold dH;refine I5 (xd (by omega) λx hx=>by have:=h.2 x hx;omega) λr1=>?_;unfold mo;refine C8 l (λi (v:List (List UInt8))=>(l,((l.length:Nat):Int),((i:Nat):Int),_,_,_,_,_,_,_,_,_,_,_,_,_,_,v)) (λi v=>v=l.take i) (λi v hi hv=>?_) (λv hv=>?_) (b0:=[]) rfl (by omega)
 ·have hb:=h.2 _ (a5V hi);have hv':v.length<=l.length:=by rw[hv,a5T];omega
  unfold eA;dsimp only;rw[a5H (by omega:(i:Int)<((l.length:Nat):Int)),D1,a5H (by omega:(0:Int)<=(i:Int)/\(i:Int)<((l.length:Nat):Int)),B7,a5J,C9 hi,a5H (Xn (by omega)),B7,a5H (BI (by omega)),B7,A1,A8,C1 (by omega)];exact⟨_,rfl,by rw[hv,E4 hi]⟩
 ·unfold eA;dsimp only;rw[a5N (by omega),D3,A1,B5];show v=l;rw[hv,a52]
def raws(l:List o6):List (List UInt8):=l.map λe=>e.2.1
def xY(free:Bool) (b g:Int) (e:o6):Bool:=decide ((fsz e.2.1.length:Int)<=b)&&(free||decide (e.2.2.2.2.1<=g))
theorem CL{r:E6}{e:o6}(hb:a31 e) (h0:0<=r.1) (h1:r.1<=9223372036854775807) (hg0:0<=r.2.1) (hg1:r.2.1<18446744073709551616) (he:0<=e.2.2.2.2.1) :
  aN r e=some (if xY r.2.2 r.1 r.2.1 e then((r.1-fsz e.2.1.length,(if r.2.2 then r.2.1 else r.2.1-e.2.2.2.2.1),r.2.2),true) else(r,false)):=by
 obtain⟨b,g,free⟩:=r;dsimp only at h0 h1 hg0 hg1⊢;have hb1:=hb.1;have hf:=LB (n:=e.2.1.length) (by omega);have hsz:=pC (n:=e.2.1.length) (by omega);have w1:(fsz e.2.1.length:Int)<=b->B3 (b-(fsz e.2.1.length:Int))=b-(fsz e.2.1.length:Int):=λh=>D9 (by omega) (by omega);have w2:e.2.2.2.2.1<=g->D4 (g-e.2.2.2.2.1)=g-e.2.2.2.2.1:=λh=>Q0 (by omega) (by omega);refine J1.1 ?_;cases free
 ·simp only[aN,aG,hsz,a6g,D1,A5,A4,A1,a5M,a5L];refine⟨λh3=>?_,λh3=>⟨λh5=>?_,λh5=>?_⟩⟩
  ·rw[a5U (by simp[xY];omega)] <;> rfl
  ·rw[a5U (by simp[xY];omega)] <;> rfl
  ·rw[a5W (by simp[xY];omega),w1 (by omega),w2 (by omega)] <;> rfl
 ·simp only[aN,aG,hsz,a6a,D3,A5,A4,A1,a5M,a5L];refine⟨λh3=>?_,λh3=>?_⟩
  ·rw[a5U (by simp[xY];omega)] <;> rfl
  ·rw[a5W (by simp[xY];omega),w1 (by omega)] <;> rfl
variable {md:Int}
abbrev BSt:=Int×Int×o8×List (List UInt8)
def Ny(free:Bool) (p:Int) (s:BSt) (e:ED):Bool:=xY free s.1 s.2.1 e&&decide ((N9 s.2.2.1 p e.2.1).2.1=0)
def Jr(free:Bool) (p:Int) (s:BSt) (e:ED):BSt:=(s.1-fsz e.2.1.length,(if free then s.2.1 else s.2.1-e.2.2.2.2.1),(N9 s.2.2.1 p e.2.1).1,s.2.2.2++[e.2.1])
def Nz(free:Bool) (p:Int) (s:BSt) (e:ED):BSt:=if Ny free p s e=true then Jr free p s e else s
def GW(free:Bool) (p:Int) (s:BSt) (l:List ED):BSt:=l.foldl (Nz free p) s
def GX(s:StD) (mb mg:Int):BSt:=(mb,max mg 0,s.2.1.1,[])
def CM(s:StD) (mb mg:Int):List (List UInt8):=if mb<0\/mg < -1 then [] else(GW (decide (mg<0)) s.2.1.2.2.2.2 (GX s mb mg) (AI s.2.2.2.2.2.1)).2.2.2
def a2C(i:Nat) (s:BSt):Prop:=(0<=s.1/\s.1<=9223372036854775807)/\okU s.2.1/\xl s.2.2.1/\s.2.2.2.length<=i/\∀r∈s.2.2.2,r.length<=10000
theorem SG.gas{n:Nat}{e:ED}(h:SG n e):okU e.2.2.2.2.1:=by
 rw[h.2.2.1];exact(yB e.2.1).2.2.1
theorem yP.b{n:Nat}{l:List ED}(h:yP n l) (hn:n<=1000):a11 l:=⟨by have:=h.1;omega,λe he=>⟨by have:=(h.2.1 e he).2.1;omega,by have:=(h.2.1 e he).2.2.2;omega⟩⟩
theorem Xp{g:o8}(h:xl g) (p:Int) (raw:List UInt8):xl (N9 g p raw).1:=GR (p:=p) (l:=[raw]) h
theorem RX{free:Bool}{p:Int}{s:BSt}{e:ED}{i n:Nat}(h:a2C i s) (he:SG n e):a2C (i+1) (Nz free p s e):=by
 obtain⟨h1,h2,h3,h4,h5⟩:=h;unfold Nz;split
 ·rename_i ht;unfold Ny xY at ht;simp only[a5S,a60,a5M]at ht;have hg:=he.gas;unfold okU at hg h2;refine⟨⟨by unfold Jr;dsimp only;omega,by unfold Jr;dsimp only;omega⟩,?_,Xp h3 _ _,?_,λr hr=>?_⟩
  ·unfold Jr okU;dsimp only;split
   ·exact h2
   ·rename_i hf;rcases ht.1.2 with hx|hx
    ·exact absurd hx hf
    ·omega
  ·unfold Jr;dsimp only;rw[List.length_append,List.length_singleton];omega
  ·unfold Jr at hr;rcases List.mem_append.1 hr with hr|hr
   ·exact h5 r hr
   ·rw[List.mem_singleton.1 hr];exact he.2.1
 ·exact⟨h1,h2,h3,by omega,h5⟩
theorem xZ{free:Bool}{p:Int}{s:BSt}{l:List ED}{i:Nat}(h:i<l.length):GW free p s (l.take (i+1))=Nz free p (GW free p s (l.take i)) l[i]:=by
 unfold GW;rw[E4 h,a7Q];rfl
theorem Bd{free:Bool}{p:Int}{s:BSt}{l:List ED}{n:Nat}(h:a2C 0 s) (hl:∀e∈l,SG n e):∀i:Nat,i<=l.length->a2C i (GW free p s (l.take i))
 |0,_=>h
 |i+1,hi=>by
  rw[xZ (by omega)];exact RX (Bd h hl i (by omega)) (hl _ (a5V _))
theorem GY{n:Nat}{s:StD}(h:StV md n s){mb mg:Int}(h0:0<=mb) (h1:mb<=9223372036854775807) (h2:mg<=9223372036854775807):a2C 0 (GX s mb mg):=
 ⟨⟨h0,h1⟩,⟨by unfold GX;dsimp only;omega,by unfold GX;dsimp only;omega⟩,h.2.1.1,Nat.le_refl _,λr hr=>by cases hr⟩
theorem RY{n:Nat}{s:StD}(h:StV md n s){mb mg:Int}(h1:mb<=9223372036854775807) (h2:mg<=9223372036854775807):(CM s mb mg).length<=n/\∀r∈CM s mb mg,r.length<=10000:=by
 unfold CM;split
 ·exact⟨by simp,λr hr=>by cases hr⟩
 ·rename_i hm;have hl:∀e∈AI s.2.2.2.2.2.1,SG n e:=λe he=>h.2.2.1.2.1 e (Gb.1 he);have hi:=Bd (free:=decide (mg<0)) (p:=s.2.1.2.2.2.2) (GY h (mb:=mb) (mg:=mg) (by omega) h1 h2) hl _ (a56 _);rw[a52]at hi;refine⟨?_,hi.2.2.2.2⟩;have:=hi.2.2.2.1;rw[AK]at this;have:=h.2.2.1.1;omega
end Go.Proofs.YtjbgdpjgfjnkbaaGreatDoor.Am
namespace Go.Proofs.YtjbgdpjgfjnkbaaGreatDoor.Am
open Go
variable {md:Int}
theorem CN(mb mg:Int) (h:mg<=9223372036854775807):bj mb mg=some (if mb<0\/mg < -1 then(((0:Int),(0:Int),false),false) else((mb,max mg 0,decide (mg<0)),true)):=by
 unfold bj;by_cases c1:mb<0
 ·rw[a5H c1,D1,a5W (.inl c1)]
 by_cases c2:mg < -1
 ·rw[a5N c1,D3,a5H c2,D1,a5W (.inr c2)]
 rw[a5N c1,D3,a5N c2,D3,a5U (by omega),Q0 (by omega) (by omega)]
theorem RZ{n:Nat}{s:StD}(h:StV md n s) (hn:n<=500){mb mg:Int}(h1:mb<=9223372036854775807) (h2:mg<=9223372036854775807):gd s mb mg=some (CM s mb mg):=by
 unfold gd CM;rw[CN mb mg h2,a5I];by_cases c:mb<0\/mg < -1
 ·rw[a5W c,a5W c];rfl
 rw[a5U c,a5U c];dsimp only;have hes:=h.2.2.1.1;rw[a6a,D3,Gd (by omega),a5I];refine J1.1 ?_;have hl:∀e∈AI s.2.2.2.2.2.1,SG n e:=λe he=>h.2.2.1.2.1 e (Gb.1 he);have hlen:(AI s.2.2.2.2.2.1).length<=n:=by rw[AK];exact h.2.2.1.1
 generalize AI s.2.2.2.2.2.1=l at hl hlen;have hinit:=GY h (mb:=mb) (mg:=mg) (by omega) h1 h2;unfold lG;refine C8 l (λi (v:BSt)=>(l,((l.length:Nat):Int),((i:Nat):Int),s,(v.1,v.2.1,decide (mg<0)),v.2.2.1,v.2.2.2)) (λi v=>v=GW (decide (mg<0)) s.2.1.2.2.2.2 (GX s mb mg) (l.take i)) (λi v hi hv=>?_) (λv hv=>?_) (b0:=GX s mb mg) rfl (by omega)
 ·have hb:=Bd (free:=decide (mg<0)) (p:=s.2.1.2.2.2.2) hinit hl i (by omega);rw[<-hv]at hb;have he:=hl _ (a5V hi);have heg:=he.gas;have her:=he.2.1;obtain⟨b1,b2,b3,b4,b5⟩:=hb;unfold okU at b2 heg;have c2:∀{b4:E6} {b5:o8} {b:Bool},b=Ny (decide (mg<0)) s.2.1.2.2.2.2 v l[i]->(b=true->(b4,b5)=(((v.1-fsz l[i].2.1.length,(if decide (mg<0)=true then v.2.1 else v.2.1-l[i].2.2.2.2.1),decide (mg<0)):E6),(N9 v.2.2.1 s.2.1.2.2.2.2 l[i].2.1).1))->Ok (T2 l ((l.length:Nat):Int) (i:Int) b s (v.1,v.2.1,decide (mg<0)) v.2.2.1 l[i] b4 b5 v.2.2.2) (Nxt (λr=>r=(GW (decide (mg<0)) s.2.1.2.2.2.2 (GX s mb mg) l).2.2.2) λz=>∃b':BSt,z=(l,((l.length:Nat):Int),(((i+1:Nat):Nat):Int),s,(b'.1,b'.2.1,decide (mg<0)),b'.2.2.1,b'.2.2.2)/\b'=GW (decide (mg<0)) s.2.1.2.2.2.2 (GX s mb mg) (l.take (i+1))):=fun {b4'} {b5'} {b} e1 e2=>by
   unfold T2;rw[A5];refine⟨λhb=>?_,λhb=>?_⟩
   ·have e3:=e2 hb;injection e3 with e4 e5;subst e4 e5;rw[a5H (Xn (by omega)),B7,a5H (BI (by omega)),B7,A1,A8,C1 (by omega)];refine⟨Jr (decide (mg<0)) s.2.1.2.2.2.2 v l[i],rfl,?_⟩;rw[xZ hi,<-hv];unfold Nz;rw[<-e1,a5W hb]
   ·rw[A1,A8,C1 (by omega)];refine⟨v,rfl,?_⟩;rw[xZ hi,<-hv];unfold Nz;rw[<-e1,hb];rfl
  have ht:=CL (r:=(v.1,v.2.1,decide (mg<0))) (e:=l[i]) ⟨by omega,by have:=he.2.2.2;omega⟩ b1.1 (by dsimp only;omega) b2.1 (by dsimp only;omega) heg.1;dsimp only at ht;unfold cY;dsimp only;rw[a5H (by omega:(i:Int)<((l.length:Nat):Int)),D1,a5H (by omega:(0:Int)<=(i:Int)/\(i:Int)<((l.length:Nat):Int)),B7,a5J,C9 hi,ht,a5I,AU b3.b h.2.1.2.2.2.2 (by omega),a5I];by_cases hf:xY (decide (mg<0)) v.1 v.2.1 l[i]=true
  ·rw[a5W hf];dsimp only;rw[D1];by_cases hc:(N9 v.2.2.1 s.2.1.2.2.2.2 l[i].2.1).2.1=0
   ·rw[a5H hc,D1,a5H (by omega)];refine c2 ?_ (λ_=>rfl);unfold Ny;rw[hf,a5H hc];rfl
   ·rw[a5N hc,D3];refine c2 ?_ (λe=>by cases e);unfold Ny;rw[hf,a5N hc];rfl
  ·rw[a5U hf];dsimp only;rw[D3];refine c2 ?_ (λe=>by cases e);unfold Ny;rw[Bool.not_eq_true _ |>.mp hf];rfl
 ·unfold cY;dsimp only;rw[a5N (by omega),D3,A1,B5];show v.2.2.2=_;rw[hv,a52]
def EQ(l:List (List UInt8)):List Int:=l.map λr=>(iM r).1.2.2.1
theorem a2D(l:List (List UInt8)):∀x∈EQ l,okU x:=λx hx=>by
 obtain⟨r,_,rfl⟩:=List.mem_map.1 hx;exact(yB r).2.2.1
def Xq(s:StD) (l:List (List UInt8)) (mb mg:Int):Int:=
 if mb<0\/mg < -1 then 1 else if 512<l.length\/mb<(vT l:Int)then 3
 else if(VR s.2.1.1 s.2.1.2.2.2.2 l).2.2≠0 then(VR s.2.1.1 s.2.1.2.2.2.2 l).2.2
 else if 0<=mg/\mg<(EQ l).sum then 3 else 0
theorem Sa(l:List (List UInt8)):0<=(EQ l).sum:=AL λx hx=>(a2D l x hx).1
end Go.Proofs.YtjbgdpjgfjnkbaaGreatDoor.Am
namespace Go.Proofs.YtjbgdpjgfjnkbaaGreatDoor.Am
open Go
variable {md:Int}
theorem GZ(l:List (List UInt8)) (i:Nat):vT (l.take i)<=vT l:=by
 have e:vT l=vT (l.take i)+vT (l.drop i):=by rw[<-zB,a6d]
 omega
theorem Ha(l:List (List UInt8)) (i:Nat):(EQ (l.take i)).sum<=(EQ l).sum:=by
 have e:(EQ l).sum=(EQ (l.take i)).sum+(EQ (l.drop i)).sum:=by
  unfold EQ;rw[<-a7n,<-a53,a6d]
 have:=Sa (l.drop i);omega
theorem Sb{l:List (List UInt8)}{i:Nat}(h:i<l.length):(EQ (l.take (i+1))).sum=(EQ (l.take i)).sum+(iM l[i]).1.2.2.1:=by
 rw[E4 h];unfold EQ;rw[a53,a7n];simp
theorem Sc{n:Nat}{s:StD}{l:List (List UInt8)}(h:StV md n s) (hl:Nx l){mb mg:Int}(h1:mb<=9223372036854775807) (h2:mg<=9223372036854775807):gf s l mb mg=some (Xq s l mb mg):=by
 unfold gf Xq;rw[CN mb mg h2,a5I];by_cases c:mb<0\/mg < -1
 ·rw[a5W c,a5W c];rfl
 rw[a5U c,a5U c];dsimp only;rw[a6a,D3];by_cases c3:512<l.length
 ·rw[a5H (by omega),D1,a5W (.inl c3)]
 rw[a5N (by omega),D3,LK hl,a5I];by_cases c4:mb<(vT l:Int)
 ·rw[a5H c4,D1,a5W (.inr c4)]
 rw[a5N c4,D3,a5U (by omega),CI h.2.1.1.b h.2.1.2.2.2.2 ⟨by omega,hl.2⟩,a5I];by_cases c5:(VR s.2.1.1 s.2.1.2.2.2.2 l).2.2=0
 ·rw[a5H c5,a6a,D3,a5U (λhx=>hx c5)];refine J1.1 ?_;have hl':=hl.1;unfold lI;refine C8 l (λi (v:Int×Int)=>(l,((l.length:Nat):Int),((i:Nat):Int),(v.1,v.2,decide (mg<0)))) (λi v=>v.1=mb-(vT (l.take i):Int)/\(mg<0->v.2=max mg 0)/\(0<=mg->v.2=mg-(EQ (l.take i)).sum/\(EQ (l.take i)).sum<=mg)) (λi v hi hv=>?_) (λv hv=>?_) (b0:=(mb,max mg 0)) ⟨by simp[vT],λ_=>rfl,λhm=>⟨by simp[EQ];omega,by simp[EQ];omega⟩⟩ (by omega)
  ·obtain⟨b,g⟩:=v;obtain⟨v1,v2,v3⟩:=hv;dsimp only at v1 v2 v3;have hr:=hl.2 _ (a5V hi);have hz:=GZ l (i+1);have hz2:vT (l.take (i+1))=vT (l.take i)+fsz l[i].length:=by rw[E4 hi,zB,EF]
   have hg:=Ha l (i+1);have hg2:=Sb hi;have hu:=(yB l[i]).2.2.1;have hnn:=Sa (l.take i);have hgr:0<=g/\g<18446744073709551616:=by
    by_cases hm:0<=mg
    ·obtain⟨w1,w2⟩:=v3 hm;omega
    ·have:=v2 (by omega);omega
   unfold tH at hu;have ht:=CL (r:=(b,g,decide (mg<0))) (e:=((Vector.replicate 32 (0:UInt8)),l[i],[],(0:Int),(iM l[i]).1.2.2.1,(0:Int),(0:Int),(0:Int),(0:Int),[])) ⟨by dsimp only;omega,by simp⟩ (by dsimp only;omega) (by dsimp only;omega) hgr.1 hgr.2 hu.1;dsimp only at ht;unfold dk
   try dsimp only
   rw[a5H (by omega:(i:Int)<((l.length:Nat):Int)),D1,a5H (by omega:(0:Int)<=(i:Int)/\(i:Int)<((l.length:Nat):Int)),B7,a5J,C9 hi,CD hr,a5I,ht,a5I];by_cases hf:mg<0\/(iM l[i]).1.2.2.1<=g
   ·have hfit:xY (decide (mg<0)) b g ((Vector.replicate 32 (0:UInt8)),l[i],[],(0:Int),(iM l[i]).1.2.2.1,(0:Int),(0:Int),(0:Int),(0:Int),[])=true:=by
     unfold xY;simp only[a5S,a60,a5M];exact⟨by omega,hf⟩
    rw[a5W hfit];dsimp only;rw[a6a,D3,A1,A8,C1 (by omega)];refine⟨(_,_),rfl,by dsimp only;omega,λhm=>?_,λhm=>?_⟩
    ·show(if decide (mg<0)=true then g else g-(iM l[i]).1.2.2.1)=max mg 0
     rw[a5W (a5H hm)];exact v2 hm
    ·obtain⟨w1,w2⟩:=v3 hm;show(if decide (mg<0)=true then g else g-(iM l[i]).1.2.2.1)=mg-(EQ (l.take (i+1))).sum/\(EQ (l.take (i+1))).sum<=mg
     rw[a5U (by rw[a5N (by omega)];decide)];omega
   ·have hfit:¬xY (decide (mg<0)) b g ((Vector.replicate 32 (0:UInt8)),l[i],[],(0:Int),(iM l[i]).1.2.2.1,(0:Int),(0:Int),(0:Int),(0:Int),[])=true:=by
     unfold xY;simp only[a5S,a60,a5M];exact λhx=>hf hx.2
    rw[a5U hfit];dsimp only;rw[a6g,D1,A1,B5];obtain⟨w1,w2⟩:=v3 (by omega);show(3:Int)=_;rw[a5W ⟨by omega,by omega⟩]
  ·obtain⟨b,g⟩:=v;obtain⟨v1,v2,v3⟩:=hv;dsimp only at v1 v2 v3;rw[a52]at v3;unfold dk
   try dsimp only
   rw[a5N (by omega),D3,A1,B5];show(0:Int)=_;rw[a5U (λhx=>by have:=v3 hx.1;omega)]
 ·rw[a5N c5,a6g,D1,a5W c5]
end Go.Proofs.YtjbgdpjgfjnkbaaGreatDoor.Am
namespace Go.Proofs.YtjbgdpjgfjnkbaaGreatDoor.Am
open Go
abbrev qA:=B0
def lv(n:Nat) (x:qA):Prop:=StV 1 n x.1/\x.2.2.1.length<=n/\(x.2.2.2.1.length=15/\∀k∈x.2.2.2.1,k.length<=n)/\Bk 10000 x.2.2.2.2.2.1.2/\x.2.2.2.2.2.2.length<=16777216
theorem lv.mono{n m:Nat}{x:qA}(h:lv n x) (k:n<=m):lv m x:=
 ⟨h.1.mono k,a6c h.2.1 k,⟨h.2.2.1.1,λl hl=>a6c (h.2.2.1.2 l hl) k⟩,h.2.2.2⟩
theorem a49(n:Nat):Bk n []:=⟨by simp,λx hx=>by cases hx⟩
theorem Zv(n:Nat):yP n []:=⟨a6p _,λe he=>(by cases he),a6T⟩
theorem eL{n:Nat}{x:qA}(h:lv n x) (e:Int):Ok ((D2 x e).bind λr=>some (r.1,r.2)) λr=>lv (n+1) r.1:=⟨_,rfl,h.mono (by omega)⟩
theorem Xr{n:Nat}(h:n<=1000000):n*176<=LIM/\n<=LEN:=by unfold LIM LEN;omega
theorem LL{n:Nat}{x:qA}{b:H4}(h:lv n x) (hn:n<=400) (hb:Bk 1000000 b.2):Ok (bl x b) λr=>lv (n+1) r.1:=by
 obtain⟨hs,hbl,hse,hpr,hlog⟩:=h;have h:lv n x:=⟨hs,hbl,hse,hpr,hlog⟩;unfold bl;rw[A4];refine(LJ hb (by omega)).mono λr1 h1=>?_;rw[A5];refine⟨λ_=>eL h _,λe1=>?_⟩;obtain⟨_,hb512⟩:=h1 (by simpa using e1);rw[A4];refine(Jo hlog).mono λr3 h3=>?_;rw[A5];refine⟨λ_=>eL h _,λ_=>?_⟩;rw[A4];refine(CJ hs.2.1 (raws:=b.2) ⟨by omega,λr hr=>by have:=hb.2 r hr;omega⟩).mono λr5 h5=>?_;rw[A5];refine⟨λ_=>eL h _,λe5=>?_⟩;obtain⟨f1,f2⟩:=h5 (by simpa using e5);rw[a5H (Xr (by omega)),B7,a5H (Xr (by omega)),B7,f1,f2,A4];refine(LI (a:=x.1.2.1) hs.2.1 (GR hs.2.1.1)).mono λr7 h7=>?_;refine I5 (Jp h7.1.1 (LF _ _ _) (by rw[nw];omega)) λr8=>?_;rw[A4];refine(Wb (n:=n) (s:=(x.1.1,r7.1,x.1.2.2)) (hs.a h7) (by omega) (by omega) (λr hr=>by have:=hb.2 r hr;omega)).mono λr9 h9=>?_;obtain⟨hl15,hsk⟩:=hse;obtain⟨sent,es⟩:∃sent,sent=x.2.2.2.1:=⟨_,rfl⟩;rw[<-es]at hl15 hsk⊢;have hent:=h9.2.2.1.1;unfold kH;refine C8 sent (λi (v:List (List KD))=>(sent,((sent.length:Nat):Int),((i:Nat):Int),_,_,_,_,_,_,_,_,_,_,_,_,_,_,_,_,_,_,_,_,_,_,_,_,_,_,_,_,_,_,_,_,_,_,_,_,_,_,_,_,_,_,_,_,_,_,_,_,_,_,_,_,v,_)) (λi v=>v.length=i/\∀k∈v,k.length<=n) (λi v hi hv=>?_) (λv hv=>?_) (b0:=[]) ⟨rfl,λk hk=>by cases hk⟩ (by omega)
 ·have hk:=hsk _ (a5V hi);unfold bQ;dsimp only;rw[a5H (by omega:(i:Int)<((sent.length:Nat):Int)),D1,a5H (by omega:(0:Int)<=(i:Int)/\(i:Int)<((sent.length:Nat):Int)),B7,a5J,C9 hi,A4];refine(Zt (by omega) (by omega)).mono λr11 h11=>?_;rw[a5H (BI (by omega)),B7,A1,A8,C1 (by omega)];refine⟨_,rfl,by rw[a5K,a51];omega,λk hk'=>?_⟩;rcases List.mem_append.1 hk' with hk'|hk'
  ·exact hv.2 k hk'
  ·rw[List.mem_singleton.1 hk'];omega
 ·unfold bQ;dsimp only;rw[a5N (by omega),D3,C4];unfold gH;refine I5 (zA _) λr10=>⟨_,rfl,?_⟩;refine⟨h9.mono (by omega),?_,⟨by rw[<-hl15];exact hv.1,λk hk=>a6i (hv.2 k hk)⟩,a49 _,h3⟩;show(x.2.2.1++[b]).length<=n+1;rw[a5K,a51];omega
theorem Wd(c:C6) (h:CfV 1 c){a b:Int}(ha:a<=9223372036854775807) (hb:b<=9223372036854775807):Ok (fp c a b) λr=>r.1<=9223372036854775807/\r.2<=9223372036854775807:=by
 have h1:=h.2.1;have h2:=h.2.2.1;unfold fp X5;rw[A5];refine⟨λ_=>⟨_,rfl,by dsimp only;omega,hb⟩,λ_=>?_⟩;rw[A5];exact⟨λ_=>⟨_,rfl,by dsimp only;omega,h2⟩,λ_=>⟨_,rfl,by dsimp only;omega,by dsimp only;omega⟩⟩
theorem Sd{n:Nat}{x:qA}{op:R3}(h:lv n x) (hn:n<=400) (h1:op.2.2.1<=9223372036854775807) (h2:op.2.2.2.1<=9223372036854775807):Ok (eC x op) λr=>lv (n+1) r.1:=by
 unfold eC;rw[A5];refine⟨λ_=>eL h _,λ_=>?_⟩;rw[A5];refine⟨λ_=>eL h _,λ_=>?_⟩;rw[h.1.1.1,a5N (by decide:¬(1:Int)=0),a6g,B7,A5];refine⟨λ_=>eL h _,λ_=>?_⟩;rw[A5];refine⟨λ_=>eL h _,λ_=>?_⟩;rw[A5];refine⟨λ_=>eL h _,λ_=>?_⟩;rw[A4];refine(Wd _ h.1.1 h1 h2).mono λr6 h6=>?_;have hbl:=RY h.1 h6.1 h6.2;rw[RZ h.1 (by omega) h6.1 h6.2,a5I,A4];have htx:Bk 10000 (CM x.1 r6.1 r6.2):=⟨by omega,hbl.2⟩;refine(Xo htx (by omega)).mono λr8 h8=>?_;refine I5 (zA _) λr9=>⟨_,rfl,h.1.mono (by omega),a6i h.2.1,⟨h.2.2.1.1,λl hl=>a6i (h.2.2.1.2 l hl)⟩,?_,h.2.2.2.2⟩;show Bk 10000 r8.2;rw[h8];exact htx
theorem Hb{n:Nat}{x:qA}{raw:List UInt8}(h:lv n x) (hr:raw.length<=1000000):Ok (aH x raw) λr=>Bk 1000000 r.1.2:=by
 unfold aH;rw[A4];refine(Wc (by omega)).mono λr1 h1=>?_;have hb:Bk 1000000 r1.1.2:=⟨h1.1,λb hb=>by have:=h1.2 b hb;omega⟩;rw[A5];refine⟨λ_=>⟨_,rfl,hb⟩,λ_=>?_⟩;rw[h.1.1.1];exact I5 (BK hb (by omega)) λr2=>⟨_,rfl,hb⟩
theorem NA{n:Nat}{x:qA}{raw:List UInt8}(h:lv n x) (hr:raw.length<=1000000):Ok (dl x raw) λr=>lv (n+1) r.1:=by
 unfold dl;rw[A4];refine(Hb h hr).mono λr1 h1=>?_;rw[A5];refine⟨λ_=>eL h _,λ_=>?_⟩;rw[Sc h.1 (h1.list (by omega)) h.1.1.2.1 h.1.1.2.2.1,a5I,A5];refine⟨λ_=>eL h _,λ_=>?_⟩;exact I5 (zA _) λr5=>⟨_,rfl,h.mono (by omega)⟩
theorem Zw{n:Nat}{x:qA}(h:lv n x) (hn:n<=400):Ok (gg x) λr=>lv (n+1) r.1:=by
 have hl:=h.1.2.2.1.1;unfold gg lJ;obtain⟨es,e0⟩:∃es,es=x.1.2.2.2.2.2.1:=⟨_,rfl⟩;rw[<-e0]at hl⊢;refine C8 es (λi (v:List KD)=>(es,((es.length:Nat):Int),((i:Nat):Int),_,_,_,_,_,_,_,_,_,_,_,_,_,_,_,_,_,_,_,_,_,_,_,_,_,_,_,_,_,_,_,_,_,_,_,_,_,_,_,_,_,_,_,_,v)) (λi v=>v.length=i) (λi v hi hv=>?_) (λv hv=>?_) (b0:=[]) rfl (by omega)
 ·unfold dm;dsimp only;rw[a5H (by omega:(i:Int)<((es.length:Nat):Int)),D1,a5H (by omega:(0:Int)<=(i:Int)/\(i:Int)<((es.length:Nat):Int)),B7,a5H (nZ (by omega)),B7,A1,A8,C1 (by omega)];exact⟨_,rfl,by rw[a5K,a51];omega⟩
 ·unfold dm;dsimp only;rw[a5N (by omega),D3,C4];unfold ix;rw[A4];refine(LH h.1.2.1).mono λr1 h1=>⟨_,rfl,?_⟩;refine⟨⟨h.1.1,h1,Zv _,CaV.nil _⟩,a6i h.2.1,⟨by simp,λk hk=>?_⟩,h.2.2.2⟩;rw[a6Q hk];simp
theorem a2E{n:Nat}{x:qA}{p:Int}(h:lv n x) (hn:n<=400) (h1:1<=p) (h2:p<=15):Ok (iz x p) λr=>lv (n+1) r.1:=by
 obtain⟨i,rfl⟩:∃i:Nat,p=(i:Int)+1:=⟨(p-1).toNat,by omega⟩;have w:B3 ((i:Int)+1-1)=(i:Int):=by rw[D9 (by omega) (by omega)];omega
 have hi:i<x.2.2.2.1.length:=by have:=h.2.2.1.1;omega
 have hk:=h.2.2.1.2 _ (a5V hi);have hl:=h.2.2.1.1;unfold iz;rw[w,a5H (by omega),B7,a5J,C9 hi,A4];refine(a2A h.1.2.2.1 (by omega) (by omega) _).mono λr1 h1=>?_;rw[A5];refine⟨λ_=>eL h _,λ_=>?_⟩;refine I5 (qf (by omega)) λr3=>?_;rw[a5H (BI (by omega)),B7,B7,a5H hi,B7,a5H (nZ (by omega)),B7,a5H (nZ (by omega)),B7,B7,B7];refine⟨_,rfl,h.1.mono (by omega),a6i h.2.1,⟨by rw[a6z];exact hl,λk hk'=>?_⟩,h.2.2.2⟩;rcases a6C hk' with hk'|rfl
 ·exact a6i (h.2.2.1.2 k hk')
 ·rw[a5K,a51];omega
def OpV(op:R3):Prop:=op.2.2.1<=9223372036854775807/\op.2.2.2.1<=9223372036854775807/\(op.1=1\/op.1=2->op.2.2.2.2.length<=10000)/\op.2.2.2.2.length<=1000000
theorem CO{n:Nat}{o:Option (qA×E3)}(h:Ok o λr=>lv n r.1):Ok (o.bind λr=>some (r.1,r.2)) λr=>lv n r.1:=by
 rw[A4];exact h.mono λr hr=>⟨_,rfl,hr⟩
theorem a2F{n:Nat}{x y:qA}{op:R3}{b:Bool}{rp:E3}(h:lv n x) (hn:n<=400) (ho:OpV op) (hb:b=true->1<=op.2.1/\op.2.1<=15):Ok (cI b x op y rp) λr=>lv (n+1) r.1:=by
 obtain⟨o1,o2,o3,o4⟩:=ho;have chk':∀p,op.2.2.2.2.length<=10000->Ok ((O5 x.1 op.2.2.2.2 p).bind λr=>some ((r.1,x.2),r.2)) λr=>lv (n+1) r.1:=λp hp=>by
  rw[A4];refine(Zn h.1 (by omega) hp p).mono λr hr=>⟨_,rfl,hr,a6i h.2.1,⟨h.2.2.1.1,λl hl=>a6i (h.2.2.1.2 l hl)⟩,h.2.2.2⟩
 unfold cI;rw[A5];refine⟨λe=>chk' _ (o3 (.inl (a5P e))),λ_=>?_⟩;rw[A5];refine⟨λe=>?_,λ_=>?_⟩
 ·rw[A5];exact⟨λ_=>eL h _,λ_=>chk' _ (o3 (.inr (a5P e)))⟩
 rw[A5];refine⟨λ_=>?_,λ_=>?_⟩
 ·rw[A5];refine⟨λ_=>eL h _,λ_=>?_⟩;rw[A5];refine⟨λ_=>eL h _,λ_=>⟨_,rfl,(⟨h.1.1,h.1.2.1,h.1.2.2.1.mono (by omega),h.1.2.2.2⟩:StV 1 (n+1) _),a6i h.2.1,⟨h.2.2.1.1,λl hl=>a6i (h.2.2.1.2 l hl)⟩,h.2.2.2⟩⟩
 rw[A5];refine⟨λ_=>CO (Sd h hn o1 o2),λ_=>?_⟩;rw[A5];refine⟨λ_=>?_,λ_=>?_⟩
 ·rw[A5];exact⟨λ_=>eL h _,λ_=>CO (LL h hn ⟨h.2.2.2.1.1,λb hb=>by have:=h.2.2.2.1.2 b hb;omega⟩)⟩
 rw[A5];refine⟨λ_=>CO (NA h o4),λ_=>?_⟩;rw[A5];refine⟨λ_=>?_,λ_=>?_⟩
 ·rw[A4];refine(Hb h o4).mono λr10 h10=>?_;rw[A5];exact⟨λ_=>eL h _,λ_=>CO (LL h hn h10)⟩
 rw[A5];refine⟨λ_=>CO (Zw h hn),λ_=>?_⟩;rw[A5];refine⟨λ_=>?_,λ_=>eL h _⟩;rw[A5];refine⟨λ_=>eL h _,λe=>?_⟩;have e:=hb (by simpa using e);exact CO (a2E h hn e.1 e.2)
theorem a5F{n:Nat}{x:qA}{op:R3}(h:lv n x) (hn:n<=400) (ho:OpV op):Ok (jU x op) λr=>lv (n+1) r.1:=by
 unfold jU;rw[A5];exact⟨λe=>a2F h hn ho (λe2=>⟨a5P e,a5P e2⟩),λ_=>a2F h hn ho (λe=>by cases e)⟩
abbrev CP:=o7
theorem We{L:List Int}{k:Int}{s:CP}(hs:ky L k s) (hk:k<1000000000):Ok (gc s) λr=>ky L (k+14) r.1/\CfV 1 r.2/\okU r.2.2.2.2.2.2.2.2.2.2.1:=by
 have c1:∀{t:CP} {c0 c:C6},ky L (k+12) t->CfV 1 c->okU c.2.2.2.2.2.2.2.2.2.1->Ok (Z5 t c0 c) λr=>ky L (k+14) r.1/\CfV 1 r.2/\okU r.2.2.2.2.2.2.2.2.2.2.1:=fun {t} {c0} {c} ht hc hp=>by
  unfold Z5;rw[A4];refine(K9 ht (n:=6) (by omega) (by omega) (by omega)).mono λr11 h11=>?_;rw[A5];refine⟨λ_=>?_,λ_=>⟨_,rfl,h11.1.le (by omega),hc,hp⟩⟩;rw[A4];exact(K9 h11.1 (n:=40) (by omega) (by omega) (by omega)).mono λr12 h12=>⟨_,rfl,h12.1.le (by omega),hc,hp⟩
 unfold gc;rw[A4];refine(K9 hs (by omega) (by omega) (by omega)).mono λr1 h1=>?_;rw[A4];refine(K9 h1.1 (by omega) (by omega) (by omega)).mono λr2 h2=>?_;rw[A4];refine(K9 h2.1 (by omega) (by omega) (by omega)).mono λr3 h3=>?_;rw[A4];refine(K9 h3.1 (by omega) (by omega) (by omega)).mono λr4 h4=>?_;rw[A4];refine(K9 h4.1 (by omega) (by omega) (by omega)).mono λr5 h5=>?_;rw[A4];refine(K9 h5.1 (by omega) (by omega) (by omega)).mono λr6 h6=>?_;rw[A4];refine(K9 h6.1 (by omega) (by omega) (by omega)).mono λr7 h7=>?_;rw[A4];refine(K9 h7.1 (by omega) (by omega) (by omega)).mono λr8 h8=>?_;rw[A4];refine(K9 h8.1 (by omega) (by omega) (by omega)).mono λr9 h9=>?_;rw[A4];refine(K9 h9.1 (by omega) (by omega) (by omega)).mono λr10 h10=>?_;rw[A4];refine(K9 h10.1 (by omega) (by omega) (by omega)).mono λr13 h13=>?_;have w9:B3 (100+r9.2)=100+r9.2:=D9 (by omega) (by omega);have w67:0<=B3 (r6.2*r7.2):=by
  have:r6.2=0\/r6.2=1\/r6.2=2:=by omega
  rcases this with e|e|e
  ·rw[e,D9 (by omega) (by omega)];omega
  ·rw[e,D9 (by omega) (by omega)];omega
  ·rw[e,D9 (by omega) (by omega)];omega
 rw[A5];refine⟨λ_=>?_,λ_=>c1 (h13.1.le (by omega)) ⟨rfl,?_,?_,?_,w67,?_⟩ (Y2 _)⟩
 ·rw[A4];refine(K9 h13.1 (by omega) (by omega) (by omega)).mono λr14 h14=>?_;have w14:B3 (200+r14.2)=200+r14.2:=D9 (by omega) (by omega);refine c1 (h14.1.le (by omega)) ⟨rfl,?_,?_,?_,w67,?_⟩ (Y2 _)
  ·dsimp only;rw[w9];omega
  ·dsimp only;rw[w14];omega
  ·dsimp only;omega
  ·dsimp only;rw[w14];omega
 ·dsimp only;rw[w9];omega
 ·dsimp only;omega
 ·dsimp only;omega
 ·dsimp only;omega
theorem Se(c:C6):Ans (V8 c):=by
 obtain⟨K,hK,h12⟩:∃K,lj=some K/\K.length=12:=⟨_,rfl,rfl⟩;have hv:∀i:Nat,i<12->Ans (cr c (i:Int)):=λi hi=>by
  unfold cr cL;rw[a5H (by omega),B7,a5H (by rw[a5J];omega),B7,Ans,A5];exact⟨λ_=>⟨_,rfl,trivial⟩,λ_=>⟨_,rfl,trivial⟩⟩
 have hl:∀i:Nat,i<12->Ans (fP (i:Int)):=λi hi=>by
  unfold fP;rw[a5H (by omega),B7,a5H (by rw[a5J];omega),B7];exact⟨_,rfl,trivial⟩
 have hg:∀i:Nat,i<12->Ans (cM (i:Int)):=λi hi=>by
  unfold cM;rw[a5H (by omega),B7,a5H (by rw[a5J];omega),B7];exact⟨_,rfl,trivial⟩
 unfold V8;rw[hK,a5I];unfold eY;refine C8 K (λi (_:Unit)=>(((K.length:Nat):Int),((i:Nat):Int),c)) (λ_ _=>True) (λi _ hi _=>?_) (λ_ _=>?_) (b0:=()) trivial (by omega)
 ·have go:Ok (some (Sum.inl (((K.length:Nat):Int),B3 ((i:Int)+1),c)):Option ((Int×Int×C6)⊕Int)) (Nxt (λ_=>True) λz=>∃_:Unit,z=(((K.length:Nat):Int),(((i+1:Nat):Nat):Int),c)/\True):=by
   rw[A1,A8,C1 (by omega)];exact⟨(),rfl,trivial⟩
  unfold R4;dsimp only;rw[a5H (by omega:(i:Int)<((K.length:Nat):Int)),D1,A5];refine⟨λ_=>I5 (hv i (by omega)) λr2=>I5 (hl i (by omega)) λr3=>?_,λ_=>go⟩;rw[A5];refine⟨λ_=>by rw[A1,B5];trivial,λ_=>I5 (hv i (by omega)) λr4=>I5 (hg i (by omega)) λr5=>?_⟩;rw[A5];exact⟨λ_=>by rw[A1,B5];trivial,λ_=>go⟩
 ·unfold R4 ah;dsimp only;rw[a5N (by omega),D3,C4,A5];exact⟨λ_=>⟨_,rfl,trivial⟩,λ_=>⟨_,rfl,trivial⟩⟩
theorem Zx{c:C6}{l:List o5}(hc:CfV 1 c) (hp:okU c.2.2.2.2.2.2.2.2.2.1) (hl:Nd l):Ok (cu c l) λr=>r.2=0->StV 1 0 r.1:=by
 unfold cu;refine I5 (Se c) λr1=>?_;rw[A5];refine⟨λe=>⟨_,rfl,λh=>?_⟩,λ_=>?_⟩
 ·have h:r1=0:=h;rw[h]at e;cases e
 rw[A4];refine(a2o hl hp).mono λr2 h2=>?_;rw[A5];refine⟨λe=>⟨_,rfl,λh=>?_⟩,λ_=>⟨_,rfl,λ_=>⟨hc,h2,Zv _,CaV.nil _⟩⟩⟩;have h:r2.2=0:=h;rw[h]at e;cases e
theorem a4d{c:C6}{l:List o5}(hc:CfV 1 c) (hp:okU c.2.2.2.2.2.2.2.2.2.1) (hl:Nd l):Ok (jh c l) λr=>(r.2=0->lv 0 r.1)/\(r.2≠0->StV 0 0 r.1.1):=by
 unfold jh;rw[A4];refine(Zx hc hp hl).mono λr1 h1=>?_;rw[A5];refine⟨λe=>⟨_,rfl,λh=>?_,λ_=>⟨⟨rfl,(by dsimp only;omega),(by dsimp only;omega),(by dsimp only;omega),(by dsimp only;omega),(by dsimp only;omega)⟩,⟨AW,AW,AW,rfl,qe⟩,Zv _,CaV.nil _⟩⟩,λe=>?_⟩
 ·have h:r1.2=0:=h;rw[h]at e;cases e
 have h1:=h1 (by simpa using e);rw[A4];refine(Jl h1.2.1.1.1).mono λr2 _=>⟨_,rfl,λ_=>⟨h1,a56 _,⟨by simp,λk hk=>?_⟩,a49 _,a6p _⟩,λh=>absurd rfl h⟩;rw[a6Q hk];simp
theorem Sf{l:List (List UInt8)}(hl:l.length<=1000000):Ans (iu l):=by
 unfold iu mn;refine C8 l (λi (v:Int)=>(v,l,((l.length:Nat):Int),((i:Nat):Int))) (λ_ _=>True) (λi v hi _=>?_) (λv _=>?_) (b0:=0) trivial (by omega)
 ·unfold eo;dsimp only;rw[a5H (by omega:(i:Int)<((l.length:Nat):Int)),D1,a5H (by omega:(0:Int)<=(i:Int)/\(i:Int)<((l.length:Nat):Int)),B7,A1,A8,C1 (by omega)];exact⟨_,rfl,trivial⟩
 ·unfold eo;dsimp only;rw[a5N (by omega),D3,A1,B5];trivial
theorem NB{L:List Int}{k:Int}{s:CP}{x:qA}{c:C6}{l:List (List UInt8)}(hs:ky L k s) (hk:k<1000000000) (hl:Bk 10000 l) (h60:l.length<=60):Ok (M1 l s x c) λr=>ky L (k+3) r.1/\r.2.length<=1000000:=by
 have fin:∀{q:CP} {hd:D0},ky L (k+3) q->Ok ((H7 (hd,l)).bind λr=>some (q,r)) λr=>ky L (k+3) r.1/\r.2.length<=1000000:=fun {q} {hd} hq=>by
  rw[A4];refine(EE (b:=(hd,l)) hl (by omega)).mono λr hr=>⟨_,rfl,hq,?_⟩;have h2:(l.length+1)*(10000+3020)<=61*13020:=a7V (by omega) (by omega);dsimp only at hr⊢;omega
 unfold M1;rw[A4];refine(K9 hs (by omega) (by omega) (by omega)).mono λr1 h1=>?_;rw[a5N (by omega:¬max c.2.2.2.2.2.2.2.2.2.2.2 1=0),a6g,B7,A4];refine(Xo hl (by omega)).mono ?_;rintro⟨hd,txs⟩ h2;have h2:txs=l:=h2;subst h2;rw[A4];refine(K9 h1.1 (by omega) (by omega) (by omega)).mono λr3 h3=>?_;rw[A5];refine⟨λ_=>?_,λ_=>?_⟩
 ·rw[A4];exact(K9 h3.1 (by omega) (by omega) (by omega)).mono λr4 h4=>fin (h4.1.le (by omega))
 rw[A5];refine⟨λ_=>?_,λ_=>?_⟩
 ·rw[A4];refine(K9 h3.1 (by omega) (by omega) (by omega)).mono λr6 h6=>?_;rw[a5H (by omega),B7,a5H (by omega),B7,B7,B7,a5H (aJ _),B7];exact fin (h6.1.le (by omega))
 rw[A5];refine⟨λ_=>?_,λ_=>?_⟩
 ·rw[a5H (aJ _),B7];exact fin (h3.1.le (by omega))
 rw[A5];refine⟨λ_=>?_,λ_=>?_⟩
 ·rw[a5H (aJ _),B7];exact fin (h3.1.le (by omega))
 rw[A5];refine⟨λ_=>?_,λ_=>?_⟩
 ·rw[a5H (aJ _),B7];exact fin (h3.1.le (by omega))
 rw[A5];refine⟨λ_=>?_,λ_=>?_⟩
 ·rw[A4];exact(K9 h3.1 (by omega) (by omega) (by omega)).mono λr4 h4=>fin (h4.1.le (by omega))
 rw[A5];refine⟨λ_=>?_,λ_=>fin (h3.1.le (by omega))⟩;rw[A4];exact(K9 h3.1 (by omega) (by omega) (by omega)).mono λr4 h4=>fin (h4.1.le (by omega))
theorem CQ{L:List Int}{k:Int}{s:CP}{x:qA}{c:C6}{l:List (List UInt8)}(hs:ky L k s) (hk:k<100000000) (hl:Bk 10000 l) (h60:l.length<=60):Ok (fL l s x c) λr=>ky L (k+100) r.1/\r.2.length<=1000000:=by
 unfold fL;refine L5 (λn v=>∃(l:List (List UInt8)) (s:CP),v=(l,s,x,c)/\l.length=n/\n<=60/\Bk 10000 l/\ky L (k+(60-(n:Int))) s) ?_ ⟨l,s,rfl,rfl,h60,hl,hs.le (by omega)⟩ (by omega);rintro n v ⟨l,s,rfl,hn,h60,hl,hs⟩;have c3:∀{t:CP},ky L (k+(60-(n:Int))+1) t->Ok (Option.map Sum.inr (M1 l t x c):Option ((List (List UInt8)×CP×qA×C6)⊕(CP×List UInt8))) (Nxt (λr=>ky L (k+100) r.1/\r.2.length<=1000000) λz=>∃m,m<n/\∃(l:List (List UInt8)) (s:CP),z=(l,s,x,c)/\l.length=m/\m<=60/\Bk 10000 l/\ky L (k+(60-(m:Int))) s):=fun {t} ht=>by
  rw[C4];exact(NB ht (by omega) hl (by omega)).mono λr hr=>⟨hr.1.le (by omega),hr.2⟩
 unfold gE;dsimp only;rw[A5];refine⟨λh0=>?_,λ_=>c3 (hs.le (by omega))⟩;have h0:=a5P h0;rw[A4];refine(K9 hs (by omega) (by omega) (by omega)).mono λr16 h16=>?_;rw[A5];refine⟨λ_=>I5 (Sf (by omega)) λr17=>?_,λ_=>c3 h16.1⟩;rw[A5];refine⟨λ_=>?_,λ_=>c3 h16.1⟩;have w:B3 (((l.length:Nat):Int)-1)=((n-1:Nat):Int):=by rw[D9 (by omega) (by omega)];omega
 rw[w,a5H (by omega),B7,a5J,A1,A8];refine⟨n-1,by omega,_,_,rfl,by rw[a5T];omega,by omega,⟨by rw[a5T];omega,λb hb=>hl.2 b (a6V hb)⟩,h16.1.le (by omega)⟩
theorem Sg{L:List Int}{k:Int}{s:CP}{x:qA}{n:Nat}(hs:ky L k s) (h0:0<=k) (hk:k<10000000) (h:lv n x) (hn:n<=40):Ok (fo s x) λr=>ky L (k+600) r.1/\r.2.length<=1000000:=by
 have hE:=h.1.2.2.1;have hl:=hE.1;unfold fo kF;generalize x.1.2.2.2.2.2.1=es at hE hl;refine C8 es (λi (v:CP×List (List UInt8))=>(es,((es.length:Nat):Int),((i:Nat):Int),v.1,x,x.1.1,v.2)) (λi v=>ky L (k+(i:Int)) v.1/\v.2.length<=i/\∀b∈v.2,b.length<=10000) (λi v hi hv=>?_) (λv hv=>?_) (b0:=(s,[])) ⟨hs.le (by omega),a56 _,λb hb=>by cases hb⟩ (by omega)
 ·have he:=(hE.2.1 _ (a5V hi)).2.1;unfold bK;dsimp only;rw[a5H (by omega:(i:Int)<((es.length:Nat):Int)),D1,a5H (by omega:(0:Int)<=(i:Int)/\(i:Int)<((es.length:Nat):Int)),B7,A4];refine(K9 hv.1 (by omega) (by omega) (by omega)).mono λr20 h20=>?_;rw[A5];refine⟨λ_=>?_,λ_=>?_⟩
  ·rw[a5H (BI (by omega)),B7,a5J,C9 hi,A1,A8,C1 (by omega)];refine⟨(r20.1,v.2++[es[i].2.1]),rfl,h20.1.le (by omega),by dsimp only;rw[List.length_append,List.length_singleton];omega,λb hb=>?_⟩;rcases List.mem_append.1 hb with hb|hb
   ·exact hv.2.2 b hb
   ·rw[List.mem_singleton.1 hb];exact he
  ·rw[A1,A8,C1 (by omega)];exact⟨(r20.1,v.2),rfl,h20.1.le (by omega),by dsimp only;omega,hv.2.2⟩
 ·unfold bK;dsimp only;rw[a5N (by omega),D3,C4];unfold gF bJ;rw[A4];refine(K9 hv.1 (by omega) (by omega) (by omega)).mono λr18 h18=>?_;rw[A5];refine⟨λ_=>?_,λ_=>?_⟩
  ·rw[A4];refine(Xm h18.1 (by omega) (by omega) h.1.2.1 (by omega) (by omega)).mono λr19 h19=>?_;rw[a5H (BI (by omega)),B7];refine(CQ (k:=k+450) (h19.1.le (by omega)) (by omega) ⟨by rw[a5K];omega,λb hb=>?_⟩ (by rw[a5K];omega)).mono λr hr=>⟨hr.1.le (by omega),hr.2⟩;rcases List.mem_append.1 hb with hb|hb
   ·exact hv.2.2 b hb
   ·have:=h19.2.2.2 b hb;omega
  ·exact(CQ (k:=k+450) (h18.1.le (by omega)) (by omega) ⟨by omega,hv.2.2⟩ (by omega)).mono λr hr=>⟨hr.1.le (by omega),hr.2⟩
def OpQ(b:R3):Prop:=b.2.2.1<=9223372036854775807/\b.2.2.2.1<=9223372036854775807/\b.2.2.2.2.length<=10000
theorem OpQ.v{b:R3}(h:OpQ b):OpV b:=⟨h.1,h.2.1,λ_=>h.2.2,by have:=h.2.2;omega⟩
theorem a2G{L:List Int}{k:Int}{s:CP}{x:qA}{n:Nat}{b2 b3:R3}{v:Bool}(hs:ky L k s) (hk:k<100000000) (h:lv n x) (hn:n<=40) (hb:OpQ b3) (hv:v=true->0<x.1.2.2.2.2.2.1.length):Ok (dI ((x.1.2.2.2.2.2.1.length:Nat):Int) v s x b2 b3) λr=>ky L (k+2) r.1/\OpV r.2:=by
 have hl:=h.1.2.2.1.1;unfold dI;rw[A5];refine⟨λhv'=>?_,λ_=>?_⟩
 ·have h0:=hv hv';rw[A4];refine(K9 hs (by omega) (by omega) (by omega)).mono λr3 h3=>?_;obtain⟨j,hj⟩:∃j:Nat,r3.2=(j:Int):=⟨r3.2.toNat,by omega⟩;have hj2:j<x.1.2.2.2.2.2.1.length:=by omega
  have he:=(h.1.2.2.1.2.1 _ (a5V hj2)).2.1;rw[a5H (by omega),B7,A4];refine(K9 h3.1 (by omega) (by omega) (by omega)).mono λr4 h4=>⟨_,rfl,h4.1.le (by omega),?_⟩;refine OpQ.v ⟨hb.1,hb.2.1,?_⟩;show(List.getD x.1.2.2.2.2.2.1 (Int.toNat r3.2) B2).2.1.length<=10000;rw[hj,a5J,C9 hj2];exact he
 ·rw[A4];exact(K9 hs (by omega) (by omega) (by omega)).mono λr4 h4=>⟨_,rfl,h4.1.le (by omega),OpQ.v ⟨hb.1,hb.2.1,hb.2.2⟩⟩
theorem a2H{L:List Int}{k:Int}{s:CP}{x:qA}{n:Nat}{b2 b3:R3}{v:Bool}{w:Int}(hs:ky L k s) (h0:0<=k) (hk:k<1000000) (h:lv n x) (hn:n<=40) (hb:OpQ b3) (hv:v=true->b3.1=6\/b3.1=7):Ok (dJ w v s x b2 b3) λr=>ky L (k+600) r.1/\OpV r.2:=by
 unfold dJ;rw[A5];refine⟨λhv'=>?_,λ_=>?_⟩
 ·have h67:=hv hv';rw[A4];refine(Sg hs h0 (by omega) h hn).mono λr11 h11=>⟨_,rfl,h11.1,hb.1,hb.2.1,λhk=>?_,h11.2⟩;dsimp only at hk;omega
 ·rw[A5];refine⟨λ_=>?_,λ_=>⟨_,rfl,hs.le (by omega),hb.v⟩⟩;rw[A4];exact(K9 hs (by omega) (by omega) (by omega)).mono λr4 h4=>⟨_,rfl,h4.1.le (by omega),OpQ.v ⟨hb.1,hb.2.1,hb.2.2⟩⟩
theorem a2I{L:List Int}{k:Int}{s:CP}{x:qA}{n:Nat}{b2 b3:R3}{v:Bool}{w:Int}(hs:ky L k s) (h0:0<=k) (hk:k<1000000) (h:lv n x) (hn:n<=40) (hb:OpQ b3) (hw:w=b3.1):Ok (dK w v s x b2 b3) λr=>ky L (k+900) r.1/\OpV r.2:=by
 unfold dK;rw[A5];refine⟨λ_=>?_,λ_=>?_⟩
 ·rw[A4];refine(Xj hs (by omega) h0 h.1.2.1.2.1.1).mono λr2 h2=>?_;have hq:OpQ (b3.1,b3.2.1,b3.2.2.1,b3.2.2.2.1,r2.2):=⟨hb.1,hb.2.1,by have:=h2.2.2;dsimp only;omega⟩;rw[A5];refine⟨λhl=>?_,λ_=>?_⟩
  ·have hl:=a5P hl;rw[A4];refine(K9 h2.1 (by omega) (by omega) (by omega)).mono λr6 h6=>?_;exact(a2G (n:=n) h6.1 (by omega) h hn hq (λ_=>by omega)).mono λr hr=>⟨hr.1.le (by omega),hr.2⟩
  ·exact(a2G (n:=n) h2.1 (by omega) h hn hq (λe=>by cases e)).mono λr hr=>⟨hr.1.le (by omega),hr.2⟩
 rw[A5];refine⟨λ_=>?_,λ_=>?_⟩
 ·rw[A4];exact(K9 hs (by omega) (by omega) (by omega)).mono λr4 h4=>⟨_,rfl,h4.1.le (by omega),OpQ.v ⟨hb.1,hb.2.1,hb.2.2⟩⟩
 rw[A5];refine⟨λ_=>?_,λ_=>?_⟩
 ·rw[A4];refine(K9 hs (by omega) (by omega) (by omega)).mono λr8 h8=>?_;rw[A4];refine(K9 h8.1 (by omega) (by omega) (by omega)).mono λr9 h9=>?_;rw[A4];refine(K9 h9.1 (by omega) (by omega) (by omega)).mono λr10 h10=>?_;have w9:B3 (r9.2-1)=r9.2-1:=D9 (by omega) (by omega);rw[A5];refine⟨λ_=>⟨_,rfl,h10.1.le (by omega),OpQ.v ⟨?_,?_,hb.2.2⟩⟩,λ_=>⟨_,rfl,h10.1.le (by omega),OpQ.v ⟨?_,?_,hb.2.2⟩⟩⟩
  ·dsimp only;omega
  ·dsimp only;omega
  ·dsimp only;omega
  ·dsimp only;rw[w9];omega
 rw[A5];refine⟨λe=>?_,λ_=>?_⟩
 ·exact(a2H (n:=n) hs h0 hk h hn hb (λe=>.inl (by have:=a5P e;omega))).mono λr hr=>⟨hr.1.le (by omega),hr.2⟩
 ·exact(a2H (n:=n) hs h0 hk h hn hb (λe=>.inr (by have:=a5P e;omega))).mono λr hr=>⟨hr.1.le (by omega),hr.2⟩
theorem a5G{L:List Int}{k:Int}{s:CP}{x:qA}{n:Nat}(hs:ky L k s) (h0:0<=k) (hk:k<900000) (h:lv n x) (hn:n<=40):Ok (kW s x) λr=>ky L (k+1000) r.1/\OpV r.2:=by
 unfold kW;rw[A4];refine(K9 hs (by omega) (by omega) (by omega)).mono λr1 h1=>?_;rw[a5H (by omega),B7,a5H (by omega),B7];generalize List.getD [1,1,1,2,2,3,4,4,5,5,6,7,8,9,9] (Int.toNat r1.2) (0:Int)=K;have hq:OpQ (K,(0:Int),(0:Int),(0:Int),[]):=⟨by dsimp only;omega,by dsimp only;omega,Nat.zero_le _⟩;rw[A5];exact⟨λ_=>(a2I (n:=n) h1.1 (by omega) (by omega) h hn hq rfl).mono λr hr=>⟨hr.1.le (by omega),hr.2⟩,λ_=>(a2I (n:=n) h1.1 (by omega) (by omega) h hn hq rfl).mono λr hr=>⟨hr.1.le (by omega),hr.2⟩⟩
theorem a4e{n:Nat}(h:n<=1000000):n*56<=LIM/\n<=LEN:=by unfold LIM LEN;omega
theorem Wf{L:List Int}{k M:Int}{s:CP}(hs:ky L k s) (h0:0<=k) (hk:k<1000) (hM0:0<=M) (hM:M<=12):Ok (gh s M) λr=>ky L (k+20000) r.1/\∃md,StV md 12 r.2.1.1:=by
 unfold gh;rw[A4];refine(We hs (by omega)).mono λr1 h1=>?_;rw[A4];refine(Nq h1.1 (by omega) (by omega)).mono λr2 h2=>?_;rw[A4];refine(a4d h1.2.1 h1.2.2 h2.2.2).mono λr3 h3=>?_;rw[A5];refine⟨λe=>⟨_,rfl,h2.1.le (by omega),0,(h3.2 (by simpa using e)).mono (by omega)⟩,λe=>?_⟩;have hnode:=h3.1 (by simpa using e);rw[D9 (by omega) (by omega),A4];refine(K9 h2.1 (by omega) (by omega) (by omega)).mono λr4 h4=>?_;obtain⟨m,hm⟩:∃m:Nat,r4.2=(m:Int):=⟨r4.2.toNat,by omega⟩;rw[hm];unfold lK;refine L5 (λj v=>∃(s:CP) (x:qA) (ops:List R3),v=((j:Int),s,_,x,r2.2,ops)/\j<=12/\lv (12-j) x/\ky L (k+1000+(12-(j:Int))*1000) s/\ops.length<=12-j) ?_ ⟨r4.1,r3.1,[],rfl,by omega,hnode.mono (by omega),h4.1.le (by omega),a6p _⟩ (by omega);rintro j v ⟨s,x,ops,rfl,hj,hx,hs,hops⟩;unfold iA;dsimp only;rw[A5];refine⟨λhc=>?_,λ_=>?_⟩
 ·have hc:=a5P hc;rw[A4];refine(a5G hs (by omega) (by omega) hx (by omega)).mono λr5 h5=>?_;rw[a5H (a4e (by omega)),B7,A4];refine(a5F hx (by omega) h5.2).mono λr6 h6=>?_;have w:B3 ((j:Int)-1)=((j-1:Nat):Int):=by rw[D9 (by omega) (by omega)];omega
  rw[w,A1,A8];exact⟨j-1,by omega,r5.1,r6.1,_,rfl,by omega,h6.mono (by omega),h5.1.le (by omega),by rw[a5K,a51];omega⟩
 ·rw[C4];exact⟨_,rfl,hs.le (by omega),1,hx.1.mono (by omega)⟩
end Go.Proofs.YtjbgdpjgfjnkbaaGreatDoor.Am
