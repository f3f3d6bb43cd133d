/- Texts laid together: PUpd, PBlk, PSumZ. No conditions. -/
import Derived.Test.YtjbgdpjgfjnkbaaGreatDoorQAX
namespace Go.Proofs.YtjbgdpjgfjnkbaaGreatDoor.Am
open Go
variable {md:Int}
theorem SV {n:Nat} {s:StD} {raws:List (List UInt8)} {rs:List D0} (h:StV md n s) (hn:n<=1000) (hl:raws.length<=1000000) (hr:∀ r ∈ raws,r.length<=1000000):Ok (eA s raws rs) λx=>StV md n x.1:=by
 unfold eA jS;refine T2 (λm v=>∃ (i:Nat) (b0 b1:StD) (l0:List KD),i + m=raws.length/\v=(raws,rs,(i:Int),b0,b1,l0)/\StV md n b0/\l0.length<=i) ?_ ⟨0,s,_,[],by omega,rfl,h,by simp⟩ (n:=raws.length) (by omega);rintro m v ⟨i,b0,b1,l0,hi,rfl,hb,h0⟩;have c3:∀ {s':StD} {k:KD} {v18 v20:Int} {v19:List D0} {v21:Bool},i < raws.length->StV md n s'->Ok (V7 raws rs (i:Int) v18 v19 v20 v21 s' b1 k l0) (Nxt (λx=>StV md n x.1) λz=>∃ m',m' < m/\∃ (i:Nat) (b0 b1:StD) (l0:List KD),i + m'=raws.length/\z=(raws,rs,(i:Int),b0,b1,l0)/\StV md n b0/\l0.length<=i):=fun {s'} {k} {v18} {v20} {v19} {v21} hir hs=>by
  unfold V7;rw [A5];refine(CA hs hn k).mono λr2 h2=>?_;obtain⟨l,hl',e2⟩:=h2;have hs2:StV md n r2.1:=by rw [e2];exact hs.e (hs.2.2.1.sub hl')
  rw [A7];refine⟨λ_=>?_,λ_=>?_⟩
  ·rw [a2S (tn (by omega)),C4,A4,B5,D2 (by omega)];exact⟨m - 1,by omega,i + 1,_,_,_,by omega,rfl,hs2,by rw [a2V,a3f];omega⟩
  ·rw [A4,B5,D2 (by omega)];exact⟨m - 1,by omega,i + 1,_,_,_,by omega,rfl,hs2,by omega⟩
 have c1:Ok (Option.map Sum.inr (bo b0 b1 l0):Option ((List (List UInt8) × List D0 × Int × StD × StD × List KD) ⊕ (StD × List KD))) (Nxt (λx=>StV md n x.1) λz=>∃ m',m' < m/\∃ (i:Nat) (b0 b1:StD) (l0:List KD),i + m'=raws.length/\z=(raws,rs,(i:Int),b0,b1,l0)/\StV md n b0/\l0.length<=i):=by
  rw [C9];exact⟨_,rfl,hb⟩
 unfold fV;dsimp only;rw [A7];refine⟨λhc=>?_,λ_=>c1⟩;have hc:=a23 hc;have hir:i < raws.length:=by omega
 rw [A7];refine⟨λhd=>?_,λ_=>c1⟩;have hd:=a23 hd;rw [a2S (by omega),C4,a2T,E0 hir,Jg (by have:=hr _ (a29 hir);omega),a2X,a2S (by omega),C4,A7];refine⟨λ_=>?_,λ_=>?_⟩
 ·rw [A5];refine(Pi hb _).mono λr hr=>?_;obtain⟨c,hc,rfl⟩:=hr;exact c3 hir (hb.c hc)
 ·rw [A5];refine(Cz hb _).mono λr hr=>?_;obtain⟨c,hc,rfl⟩:=hr;exact c3 hir (hb.c hc)
theorem Jo (a b c:Int):Ans (dk a b c):=by
 unfold dk;simp only [Ans,A7,A4,a2W,a2U];exact⟨λ_=>⟨λ_=>trivial,λ_=>trivial⟩,λ_=>trivial⟩
theorem SW {l:List ED} (hl:l.length<=1000000) (c:D9) (a b:Int):Ok (gJ c l a b) λr=>r.length<=l.length:=by
 unfold gJ lr;refine D8 l (λi (v:List KD)=>(a,b,l,((l.length:Nat):Int),((i:Nat):Int),c,v)) (λi v=>v.length<=i) (λi v hi hv=>?_) (λv hv=>?_) (b0:=[]) (by simp) (by omega)
 ·have app:∀ {k:KD},Ok (chk (decide ((v.length + 1) * 32<=LIM/\v.length + 1<=LEN)) (some (Sum.inl (a,b,l,((l.length:Nat):Int),A9 ((i:Int) + 1),c,v ++ [k]))):Option ((Int × Int × List ED × Int × Int × D9 × List KD) ⊕ List KD)) (Nxt (λr=>r.length<=l.length) λz=>∃ b':List KD,z=(a,b,l,((l.length:Nat):Int),(((i + 1:Nat):Nat):Int),c,b')/\b'.length<=i + 1):=fun {k}=>by
   rw [a2S (tn (by omega)),C4,A4,B5,D2 (by omega)];exact⟨_,rfl,by rw [a2V,a3f];omega⟩
  unfold dD;dsimp only;rw [a2S (by omega:(i:Int) < ((l.length:Nat):Int)),E8,a2S (by omega:(0:Int)<=(i:Int)/\(i:Int) < ((l.length:Nat):Int)),C4];refine H2 (Jo _ _ _) λr1=>?_;rw [A7];refine⟨λ_=>app,λ_=>H2 (Jo _ _ _) λr2=>?_⟩;rw [A7];refine⟨λ_=>app,λ_=>?_⟩;rw [A4,B5,D2 (by omega)];exact⟨_,rfl,by omega⟩
 ·unfold dD;dsimp only;rw [a2Y (by omega),E3,A4,B8];exact hv
theorem Wr {n:Nat} {s:StD} (h:StV md n s) (hn:n<=1000):Ok (fv s) λx=>StV md n x.1:=by
 have hl:=h.2.2.1.1;unfold fv;rw [A5];refine(SW (by omega) _ _ _).mono λl hl'=>?_;unfold kG;refine D8 l (λi (v:StD)=>(((l.length:Nat):Int),((i:Nat):Int),v,_,l)) (λ_ v=>StV md n v) (λi v hi hv=>?_) (λv hv=>?_) (b0:=s) h (by omega)
 ·unfold cF;dsimp only;rw [a2S (by omega:(i:Int) < ((l.length:Nat):Int)),E8,a2S (by omega:(0:Int)<=(i:Int)/\(i:Int) < ((l.length:Nat):Int)),C4,a2T,a2S hi,C4,A5];refine(CA hv hn _).mono λr1 h1=>?_;obtain⟨m,hm,e1⟩:=h1;rw [e1,A5];refine(Jh (hv.e (hv.2.2.1.sub hm)) _).mono λr2 h2=>?_;obtain⟨c,hc,rfl⟩:=h2;rw [A4,B5,D2 (by omega)];exact⟨_,rfl,(hv.e (hv.2.2.1.sub hm)).c hc⟩
 ·unfold cF gK;dsimp only;rw [a2Y (by omega),E3,C9];exact⟨_,rfl,hv⟩
theorem Lc {n:Nat} {s t:StD} {l:List KD} (h:StV md n s) (hn:n<=1000) (hl:l.length<=1000000):Ok (aw s t l) λx=>StV md n x.1:=by
 unfold aw ju;refine D8 l (λi (v:StD)=>(((l.length:Nat):Int),((i:Nat):Int),v,t,l)) (λ_ v=>StV md n v) (λi v hi hv=>?_) (λv hv=>?_) (b0:=s) h (by omega)
 ·unfold au;dsimp only;rw [a2S (by omega:(i:Int) < ((l.length:Nat):Int)),E8,a2S (by omega:(0:Int)<=(i:Int)/\(i:Int) < ((l.length:Nat):Int)),C4,a2T,a2S hi,C4,A5];refine(CA hv hn _).mono λr1 h1=>?_;obtain⟨m,hm,e1⟩:=h1;rw [e1,A5];refine(Cz (hv.e (hv.2.2.1.sub hm)) _).mono λr2 h2=>?_;obtain⟨c,hc,rfl⟩:=h2;rw [A4,B5,D2 (by omega)];exact⟨_,rfl,(hv.e (hv.2.2.1.sub hm)).c hc⟩
 ·unfold au eW;dsimp only;rw [a2Y (by omega),E3,C9];exact⟨_,rfl,hv⟩
def Ws (s:StD) (a:J8):StD:=(s.1,a,s.2.2)
theorem StV.a {n:Nat} {s:StD} (h:StV md n s) {a:J8} (ha:KY a):StV md n (Ws s a):=⟨h.1,ha,h.2.2⟩
theorem Jp {a:J8} (h:KY a):Ok (fw a) KY:=⟨_,rfl,h.1,h.1,h.2.2⟩
theorem Ps {n:Nat} {s:StD} (h:StV md n s) (hn:n<=1000):Ok (dE s) λx=>StV md n x.1:=by
 have hl:=h.2.2.1.1;have hE:=h.2.2.1;unfold dE;rw [A5];refine(Jp h.2.1).mono λa ha=>?_;obtain⟨l,el⟩:∃ l,l=s.2.2.2.2.2.1:=⟨_,rfl⟩;rw [<-el] at hl hE ⊢;unfold jv;refine D8 l (λi (v:StD × List KD)=>(l,((l.length:Nat):Int),((i:Nat):Int),v.1,_,v.2)) (λi v=>StV md n v.1/\v.2.length<=i) (λi v hi hv=>?_) (λv hv=>?_) (b0:=(Ws s a,[])) ⟨h.a ha,by simp⟩ (by omega)
 ·have hk:=hE.2.1 _ (a29 hi);have c5:∀ {b:Bool} {t:StD},Ok (T6 l ((l.length:Nat):Int) (i:Int) b v.1 t l[i] v.2) (Nxt (λx=>StV md n x.1) λz=>∃ b':StD × List KD,z=(l,((l.length:Nat):Int),(((i + 1:Nat):Nat):Int),b'.1,t,b'.2)/\StV md n b'.1/\b'.2.length<=i + 1):=fun {b} {t}=>by
   unfold T6;rw [A7];refine⟨λ_=>?_,λ_=>?_⟩
   ·rw [A5];refine(Ex hv.1.2.1 (by have:=hk.2.1;omega)).mono λr5 h5=>?_;rw [A4,B5,D2 (by omega)];exact⟨(Ws v.1 r5,v.2),rfl,hv.1.a h5,by dsimp only;omega⟩
   ·rw [a2S (tn (by omega)),C4,A4,B5,D2 (by omega)];exact⟨(v.1,v.2 ++ [l[i].1]),rfl,hv.1,by simp only [a2V,a3f];omega⟩
  unfold ay;dsimp only;rw [a2S (by omega:(i:Int) < ((l.length:Nat):Int)),E8,a2S (by omega:(0:Int)<=(i:Int)/\(i:Int) < ((l.length:Nat):Int)),C4,a2T,E0 hi,Ew hv.1.2.1 (by have:=hk.2.1;omega),a2X,A7];refine⟨λ_=>H2 (Ev _ _) λr6=>c5,λ_=>c5⟩
 ·unfold ay;dsimp only;rw [a2Y (by omega),E3,C9];exact(Lc hv.1 hn (by omega)).mono λx hx=>hx
theorem SX {n:Nat} {s:StD} {raws:List (List UInt8)} {rs:List D0} {a b:Int} (h:StV md n s) (hn:n<=1000) (hl:raws.length<=1000000) (hr:∀ r ∈ raws,r.length<=1000000):Ok (eC s raws rs a b) λx=>StV md n x.1:=by
 unfold eC;rw [A5];refine(SV (n:=n) (⟨h.1,h.2.1,h.2.2.1,h.2.2.2⟩:StV md n (s.1,s.2.1,a,max s.2.2.2.1 b,s.2.2.2.2)) hn hl hr).mono λr1 h1=>?_;rw [A5];refine(Wr h1 hn).mono λr2 h2=>?_;rw [A5];exact(Ps h2 hn).mono λr3 h3=>⟨_,rfl,h3⟩
theorem Ld {a:J8} {raws:List (List UInt8)} (h:KY a) (hr:SS raws):Ok (cD a raws) λx=>x.2.2=0->(x.1=(a.1,a.2.1,(lC a.1 a.2.2.2.2 raws).1,true,a.2.2.2.2)/\x.2.1=(lC a.1 a.2.2.2.2 raws).2):=by
 unfold cD;rw [A7];refine⟨λ_=>⟨_,rfl,λe=>by cases e⟩,λ_=>?_⟩;rw [A7];refine⟨λ_=>⟨_,rfl,λe=>by cases e⟩,λ_=>?_⟩;rw [Ey h.1.b h.2.2.2.2 hr,a2X];exact⟨_,rfl,λ_=>⟨rfl,rfl⟩⟩
theorem SY {a:J8} {g:o8} (h:KY a) (hg:xu g):Ok (eo (a.1,a.2.1,g,true,a.2.2.2.2)) λx=>KY x.1:=by
 unfold eo;dsimp only;rw [a3m,E3];exact⟨_,rfl,hg,hg,yQ,rfl,h.2.2.2.2⟩
end Go.Proofs.YtjbgdpjgfjnkbaaGreatDoor.Am
namespace Go.Proofs.YtjbgdpjgfjnkbaaGreatDoor.Am
open Go
theorem vC (a b:List UInt8):Ans (G6 a b):=⟨_,rfl,trivial⟩
theorem Wt {n:Nat} (h:n<=1000000000):n * 48<=LIM/\n<=LEN:=by unfold LIM LEN;omega
theorem yW {n:Nat} (h:n<=1000000000):n * 24<=LIM/\n<=LEN:=by unfold LIM LEN;omega
theorem Uu {n:Nat} (h:n<=1000000000):n * 1<=LIM/\n<=LEN:=by unfold LIM LEN;omega
theorem Pt {b0:List A6} {L:List KD} (hL:L.length=4) (hb:b0.length<=10) (hf:∀ f ∈ b0,WO f/\f.2.2.2.length<=100):Ok (eT 4 0 b0 L) λr=>r.length<=3000:=by
 unfold eT;have e4:(4:Int)=((L.length:Nat):Int):=by rw [hL];rfl
 rw [e4];refine D8 L (λi (v:List A6)=>(((L.length:Nat):Int),((i:Nat):Int),v,L)) (λi v=>v.length<=10 + i/\∀ f ∈ v,WO f/\f.2.2.2.length<=100) (λi v hi hv=>?_) (λv hv=>?_) (b0:=b0) ⟨hb,hf⟩ (by omega)
 ·have h32:(Vector.toList L[i]).length=32:=a3N;unfold bh;dsimp only;rw [a2S (by omega:(i:Int) < ((L.length:Nat):Int)),E8,a2S (by omega:(0:Int)<=(i:Int)/\(i:Int) < ((L.length:Nat):Int)),C4,a2T,a2S hi,C4,E0 hi,a2S (Uu (by omega)),C4,a2S (Wt (by omega)),C4,A4,B5,D2 (by omega)];refine⟨_,rfl,by rw [a2V,a3f];omega,λf hm=>?_⟩;rcases List.mem_append.1 hm with hm | hm
  ·exact hv.2 f hm
  ·rw [List.mem_singleton.1 hm];have e:A9 ((i:Int) + 4)=(i:Int) + 4:=C8 (by omega) (by omega);rw [e];exact⟨⟨⟨by dsimp only;omega,by dsimp only;omega⟩,.inr rfl,by dsimp only;omega,by dsimp only;omega⟩,by dsimp only;omega⟩
 ·unfold bh;dsimp only;rw [a2Y (by omega),E3,C9,A5];have hw:wtF v<=v.length * 120:=by
   unfold wtF;have:=hv.2;generalize v=w at this ⊢
   induction w with
   | nil=>simp
   | cons f w ih=>
    have h1:=(this f a3V).2;have h2:=ih λg hg=>this g (a3t _ hg);simp only [a3h,a35,a27];omega
  refine(Et (λf hm=>(hv.2 f hm).1) (by omega) (by omega)).mono λr hr=>⟨_,rfl,?_⟩;show r.length<=3000;omega
theorem wa (h:D5):Ok (V5 h) λr=>r.length<=3000:=by
 obtain⟨L,hL⟩:∃ L:List Int,L=[h.1,h.2.1,h.2.2.1]:=⟨_,rfl⟩;have hL3:L.length=3:=by rw [hL];rfl
 unfold V5 jP;rw [<-hL];have e3:(3:Int)=((L.length:Nat):Int):=by rw [hL3];rfl
 rw [e3];refine D8 L (λi (v:List A6)=>(((L.length:Nat):Int),((i:Nat):Int),h,v,L)) (λi v=>v.length<=i/\∀ f ∈ v,WO f/\f.2.2.2.length<=100) (λi v hi hv=>?_) (λv hv=>?_) (b0:=[]) ⟨by simp,λf hf=>by cases hf⟩ (by omega)
 ·unfold bi;dsimp only;rw [a2S (by omega:(i:Int) < ((L.length:Nat):Int)),E8,a2S (by omega:(0:Int)<=(i:Int)/\(i:Int) < ((L.length:Nat):Int)),C4,a2T,a2S hi,C4,a2S (Wt (by omega)),C4,A4,B5,D2 (by omega)];refine⟨_,rfl,by rw [a2V,a3f];omega,λf hm=>?_⟩;rcases List.mem_append.1 hm with hm | hm
  ·exact hv.2 f hm
  ·rw [List.mem_singleton.1 hm];exact⟨⟨⟨by dsimp only;omega,by dsimp only;omega⟩,.inl rfl,V9 _⟩,by simp⟩
 ·unfold bi fS;dsimp only;rw [a2Y (by omega),E3,C9];exact(Pt rfl (by omega) hv.2).mono λr hr=>hr
def za (n:Nat) (l:List (List UInt8)):Prop:=l.length<=2000/\∀ b ∈ l,b.length<=n
theorem CB {b:G9} {n:Nat} (h:za n b.2) (hn:n<=10000000):Ok (H1 b) λr=>r.length<=(b.2.length + 1) * (n + 3020):=by
 have hl:=h.1;unfold H1;rw [A5];refine(wa b.1).mono λhd hh=>?_;unfold lp;refine D8 b.2 (λi (v:List A6)=>(b.2,((b.2.length:Nat):Int),((i:Nat):Int),v)) (λi v=>v.length=i + 1/\∀ f ∈ v,WO f/\f.2.2.2.length<=n + 3000) (λi v hi hv=>?_) (λv hv=>?_) (b0:=[(1,2,(0:Int),hd)]) ⟨rfl,λf hf=>?_⟩ (by omega)
 ·have hb:=h.2 _ (a29 hi);unfold dA;dsimp only;rw [a2S (by omega:(i:Int) < ((b.2.length:Nat):Int)),E8,a2S (by omega:(0:Int)<=(i:Int)/\(i:Int) < ((b.2.length:Nat):Int)),C4,a2T,E0 hi,a2S (Wt (by omega)),C4,A4,B5,D2 (by omega)];refine⟨_,rfl,by rw [a2V,a3f];omega,λf hm=>?_⟩;rcases List.mem_append.1 hm with hm | hm
  ·exact hv.2 f hm
  ·rw [List.mem_singleton.1 hm];exact⟨⟨⟨by dsimp only;omega,by dsimp only;omega⟩,.inr rfl,by dsimp only;omega,by dsimp only;omega⟩,by dsimp only;omega⟩
 ·unfold dA;dsimp only;rw [a2Y (by omega),E3,C9,A5];have hw:wtF v<=v.length * (n + 3020):=by
   unfold wtF;have:=hv.2;generalize v=w at this ⊢
   induction w with
   | nil=>simp
   | cons f w ih=>
    have h1:=(this f a3V).2;have h2:=ih λg hg=>this g (a3t _ hg);simp only [a3h,a35,a27,a3D];omega
  rw [hv.1] at hw;have h2:(b.2.length + 1) * (n + 3020)<=2001 * 10003020:=a42 (by omega) (by omega);refine(Et (λf hm=>(hv.2 f hm).1) (by omega) (by omega)).mono λr hr=>⟨_,rfl,a3w hr hw⟩
 ·rw [List.mem_singleton.1 hf];exact⟨⟨⟨by dsimp only;omega,by dsimp only;omega⟩,.inr rfl,by dsimp only;omega,by dsimp only;omega⟩,by dsimp only;omega⟩
theorem xx (h:D5):Ans (U9 h):=by
 unfold U9;rw [Ans,A5];refine(wa h).mono λr hr=>H2 (oN (by omega)) λr2=>⟨_,rfl,trivial⟩
theorem Jq {b:G9} {n:Nat} (h:za n b.2) (hn:n<=10000000):Ok (aM b) λr=>r.2=0->r.1.length<=2097152/\b.2.length<=512:=by
 have bad:∀ e:Int,e ≠ 0->Ok (some (([]:List UInt8),e)) λr=>r.2=0->r.1.length<=2097152/\b.2.length<=512:=λe he=>⟨_,rfl,λh=>absurd h he⟩;unfold aM;rw [A7];refine⟨λ_=>bad 1 (by decide),λ_=>?_⟩;rw [A7];refine⟨λ_=>bad 1 (by decide),λ_=>?_⟩;rw [A7];refine⟨λ_=>bad 1 (by decide),λ_=>?_⟩;rw [A7];refine⟨λ_=>bad 1 (by decide),λ_=>?_⟩;rw [A7];refine⟨λ_=>bad 1 (by decide),λ_=>?_⟩;rw [A7];refine⟨λ_=>bad 1 (by decide),λ_=>?_⟩;rw [A7];refine⟨λ_=>bad 3 (by decide),λh5=>?_⟩;have h5:=a3k h5;rw [A5];refine(CB h hn).mono λr hr=>?_;rw [A7];refine⟨λ_=>bad 3 (by decide),λh6=>⟨_,rfl,λ_=>?_⟩⟩;have h6:=a3k h6;dsimp only;omega
theorem GP {log p:List UInt8} (hl:log.length<=16777216):Ok (bn log p) λr=>r.1.length<=16777216:=by
 unfold bn;rw [A7];refine⟨λ_=>⟨_,rfl,by simp⟩,λh1=>?_⟩;have h1:=a3k h1;rw [A7];refine⟨λ_=>⟨_,rfl,by simp⟩,λh2=>?_⟩;have h2:=a3k h2;rw [C8 (n:=((log.length:Nat):Int) + 8) (by omega) (by omega),C8 (by omega) (by omega)] at h2;rw [A5];refine(oN (by omega)).mono λk _=>?_;have hk:(Vector.toList k).length=32:=a3N;simp only [a2V,a27,a3l,a26,hk];rw [a2S (Uu (by omega)),C4,a2S (fZ _),C4,a2S (fZ _),C4,a2S (fZ _),C4,a2S (fZ _),C4,a2S (Uu (by omega)),C4,a2S (Uu (by omega)),C4,a2S (Uu (by omega)),C4];refine⟨_,rfl,?_⟩;simp only [a2V,a27,a3l,a26,hk];omega
theorem GQ {b:G9} {g:o8} {rs:List D0} (hg:GI 256 g) (hr:∀ r ∈ rs,okU r.2.2.2.1) (hl:rs.length<=1000000):Ans (dC b g rs):=by
 unfold dC;exact H2 (xx _) λr1=>H2 (Jd hg) λr2=>H2 (Pc hr hl) λr3=>⟨_,rfl,trivial⟩
theorem Wu {l:List KD} {es:List ED} (hl:l.length<=1000000) (he:es.length<=1000000):Ok (fA l es) λr=>r.length<=l.length:=by
 unfold fA kH;refine D8 l (λi (v:List KD)=>(es,l,((l.length:Nat):Int),((i:Nat):Int),v)) (λi v=>v.length<=i) (λi v hi hv=>?_) (λv hv=>?_) (b0:=[]) (by simp) (by omega)
 ·unfold cG;dsimp only;rw [a2S (by omega:(i:Int) < ((l.length:Nat):Int)),E8,a2S (by omega:(0:Int)<=(i:Int)/\(i:Int) < ((l.length:Nat):Int)),C4,RH he,a2X,A7];refine⟨λ_=>?_,λ_=>?_⟩
  ·rw [a2S (tn (by omega)),C4,A4,B5,D2 (by omega)];exact⟨_,rfl,by rw [a2V,a3f];omega⟩
  ·rw [A4,B5,D2 (by omega)];exact⟨_,rfl,by omega⟩
 ·unfold cG;dsimp only;rw [a2Y (by omega),E3,A4,B8];exact hv
theorem ZK {l:List ED} {k:List KD} {n:Nat} (h:wO n l) (hn:n<=1000) (hk:k.length<=1000000) (p:Int):Ok (gM l p k) λr=>r.1.length<=10000:=by
 have hl:=h.1;unfold gM ls;refine D8 l (λi (_:Unit)=>(p,k,l,((l.length:Nat):Int),((i:Nat):Int))) (λ_ _=>True) (λi _ hi _=>?_) (λ_ _=>?_) (b0:=()) trivial (by omega)
 ·have he:=h.2.1 _ (a29 hi);have he1:=he.2.1;have he2:=he.2.2.2;have go:Ok (some (Sum.inl (p,k,l,((l.length:Nat):Int),A9 ((i:Int) + 1))):Option ((Int × List KD × List ED × Int × Int) ⊕ (List UInt8 × Bool))) (Nxt (λr=>r.1.length<=10000) λz=>∃ _:Unit,z=(p,k,l,((l.length:Nat):Int),(((i + 1:Nat):Nat):Int))/\True):=by
   rw [A4,B5,D2 (by omega)];exact⟨(),rfl,trivial⟩
  unfold dF;dsimp only;rw [a2S (by omega:(i:Int) < ((l.length:Nat):Int)),E8,a2S (by omega:(0:Int)<=(i:Int)/\(i:Int) < ((l.length:Nat):Int)),C4,a2T,E0 hi,DM (by omega),a2X,A7];refine⟨λ_=>H2 (Ph hk _) λr2=>?_,λ_=>go⟩;rw [A7];refine⟨λ_=>?_,λ_=>go⟩;rw [a2S (Uu (by omega)),C4,A4,B8];exact he1
 ·unfold dF;dsimp only;rw [a2Y (by omega),E3,A4,B8];simp
def pZ (l:List (List UInt8)):Nat:=(l.map λb=>fsz b.length).sum
theorem vD (a b:List (List UInt8)):pZ (a ++ b)=pZ a + pZ b:=by simp [pZ]
theorem xy (b:List UInt8):pZ [b]=fsz b.length:=by simp [pZ]
theorem Wv {l:List (List UInt8)} {c:Nat} (h:∀ b ∈ l,b.length<=c) (hc:c < 4611686018427387904):pZ l<=l.length * (c + 11):=by
 induction l with
 | nil=>simp [pZ]
 | cons b l ih=>
  have h1:=ih (λx hx=>h x (by simp [hx]));have h2:=h b (by simp);have h3:=Je (n:=b.length) (by omega);have e:pZ (b :: l)=fsz b.length + pZ l:=by simp [pZ]
  rw [e,a27,a3D];omega
def yX (l:List (List UInt8)):Prop:=l.length<=2000/\∀ b ∈ l,b.length<=140737488351232
theorem yX.sum {l:List (List UInt8)} (h:yX l) (i:Nat):pZ (l.take i)<=281474976702486000:=by
 have h1:=Wv (l:=l.take i) (c:=140737488351232) (λb hb=>h.2 b (a4q hb)) (by omega);have hl:(l.take i).length<=2000:=by rw [a26];have:=h.1;omega
 generalize (l.take i).length=n at h1 hl;omega
theorem Pu {l:List (List UInt8)} (h:yX l):qp l=some (pZ l:Int):=by
 refine J3.1 ?_;have hl:=h.1;unfold qp rE;refine D8 l (λi (a:Int)=>(a,l,((l.length:Nat):Int),((i:Nat):Int))) (λi a=>a=(pZ (l.take i):Int)) (λi a hi ha=>?_) (λa ha=>?_) (b0:=0) rfl (by omega)
 ·subst ha;have hs:=h.sum i;have hbl:=h.2 (l.getD i []) (by rw [E0 hi];exact a29 hi);have hsz:=wD (n:=(l.getD i []).length) (by omega);have hf:=Je (n:=(l.getD i []).length) (by omega);have w:A9 ((pZ (l.take i):Int) + (fsz (l.getD i []).length:Int))=((pZ (l.take (i + 1)):Nat):Int):=by
   rw [C8 (by omega) (by omega),I2 hi,vD,xy,E0 hi];omega
  simp only [mz,A7,D4,A5,A4,B5,a2W,a2U,a2T,hsz,w,D2 (i:=i) (by omega)];exact⟨λ_=>⟨by omega,_,rfl,rfl⟩,λh=>by omega⟩
 ·subst ha;simp only [mz,A7,D4,A5,A4,B5,B8,a2W,a2U,a2T];exact⟨λh=>by omega,λ_=>by rw [a3i]⟩
theorem xz {l:List (List UInt8)} (h:yX l):S6 l=some (pZ l:Int):=by
 refine J3.1 ?_;have hl:=h.1;unfold S6 lN;refine D8 l (λi (a:Int)=>(a,l,((l.length:Nat):Int),((i:Nat):Int))) (λi a=>a=(pZ (l.take i):Int)) (λi a hi ha=>?_) (λa ha=>?_) (b0:=0) rfl (by omega)
 ·subst ha;have hs:=h.sum i;have hbl:=h.2 (l.getD i []) (by rw [E0 hi];exact a29 hi);have hsz:=iX (n:=(l.getD i []).length) (by omega);have hf:=Je (n:=(l.getD i []).length) (by omega);have w:A9 ((pZ (l.take i):Int) + (fsz (l.getD i []).length:Int))=((pZ (l.take (i + 1)):Nat):Int):=by
   rw [C8 (by omega) (by omega),I2 hi,vD,xy,E0 hi];omega
  simp only [eE,A7,D4,A5,A4,B5,a2W,a2U,a2T,hsz,w,D2 (i:=i) (by omega)];exact⟨λ_=>⟨by omega,_,rfl,rfl⟩,λh=>by omega⟩
 ·subst ha;simp only [eE,A7,D4,A5,A4,B5,B8,a2W,a2U,a2T];exact⟨λh=>by omega,λ_=>by rw [a3i]⟩
end Go.Proofs.YtjbgdpjgfjnkbaaGreatDoor.Am
