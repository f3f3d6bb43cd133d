/- Texts laid together: PRun, PChk, PSameL, PFold. No conditions. -/
import Derived.Test.YtjbgdpjgfjnkbaaGreatDoorQAW
namespace Go.Proofs.YtjbgdpjgfjnkbaaGreatDoor.Am
open Go
def lC (g:o8) (p:Int):List (List UInt8)->o8 × List D0
 | []=>(g,[])
 | r :: rs=>((lC (T7 g p r).1 p rs).1,(T7 g p r).2 :: (lC (T7 g p r).1 p rs).2)
theorem yT (g:o8) (p:Int) (r:List UInt8) (rs:List (List UInt8)):lC g p (r :: rs)=((lC (T7 g p r).1 p rs).1,(T7 g p r).2 :: (lC (T7 g p r).1 p rs).2):=rfl
theorem xw (p:Int):∀ (a:List (List UInt8)) (g:o8) (b:List (List UInt8)),lC g p (a ++ b)=((lC (lC g p a).1 p b).1,(lC g p a).2 ++ (lC (lC g p a).1 p b).2)
 | [],_,_=>rfl
 | r :: a,g,b=>by rw [a3x,yT,yT,xw p a];rfl
theorem mG (p:Int):∀ (l:List (List UInt8)) (g:o8),(lC g p l).2.length=l.length
 | [],_=>rfl
 | r :: l,g=>by rw [yT,a27,a27,mG p l]
theorem pV {g:o8} {p:Int} {l:List (List UInt8)} {i:Nat} (h:i < l.length):lC g p (l.take (i + 1))=((T7 (lC g p (l.take i)).1 p l[i]).1,(lC g p (l.take i)).2 ++ [(T7 (lC g p (l.take i)).1 p l[i]).2]):=by
 rw [I2 h,xw];rfl
theorem yU {g:o8} {p:Int} {l:List (List UInt8)} (i:Nat):(lC g p (l.take i)).2=(lC g p l).2.take i:=by
 rcases a3O i l.length with h | h
 ·have e:lC g p l=lC g p (l.take i ++ l.drop i):=by rw [a3q]
  have hl:(lC g p (l.take i)).2.length=i:=by rw [mG,a26];omega
  rw [e,xw];show _=((lC g p (l.take i)).2 ++ _).take i;rw [a4G (by omega)];exact(a3T (by omega)).symm
 ·rw [a3T h];exact(a3T (by rw [mG];exact h)).symm
theorem GN {g:o8} {p:Int} {l:List (List UInt8)} {i:Nat} (h:i < l.length):(lC g p l).2[i]'(by rw [mG];exact h)=(T7 (lC g p (l.take i)).1 p l[i]).2:=by
 have h1:=yU (g:=g) (p:=p) (l:=l) (i + 1);rw [pV h,yU] at h1;have hl:i < (lC g p l).2.length:=by rw [mG];exact h
 rw [I2 hl] at h1;have:=List.append_cancel_left h1;injection this with this _;exact this.symm
theorem Ji {p:Int}:∀ {l:List (List UInt8)} {g:o8},xu g->xu (lC g p l).1
 | [],_,h=>h
 | r :: l,_g,h=>Ji (l:=l) (Er (p:=p) (raw:=r) h).1
theorem zD {L:List TR}:∀ {l:List o6} {n:List UInt8},n ∈ I4 (L.foldl aS l)->n ∈ I4 l\/∃ x ∈ L,x.1=n:=by
 induction L with
 | nil=>intro l n h;exact .inl h
 | cons x L ih=>
  intro l n h;rcases ih h with h | ⟨y,hy,e⟩
  ·rcases(kP l x n).1 h with h | h
   ·exact .inr ⟨x,a3V ..,h.symm⟩
   ·exact .inl h
  ·exact .inr ⟨y,a3t _ hy,e⟩
theorem Pj {L:List TR}:∀ {l:List o6},uq l->uq (L.foldl aS l):=by
 induction L with
 | nil=>intro l h;exact h
 | cons x L ih=>intro l h;exact ih (Eo h)
theorem ZI {g:o8} {p:Int} {raw:List UInt8} (h:ID g):ID (T7 g p raw).1/\(T7 g p raw).1.1.length<=max g.1.length 256:=by
 rcases vZ g p raw with⟨e,_⟩ | ⟨hv,hd,hc,e,_⟩
 ·rw [e];exact⟨h,Nat.le_max_left ..⟩
 ·rw [e];obtain⟨k1,_,_,_,_,k6⟩:=Ul hc;have hts:=vv raw;refine⟨⟨V9 _,Pj (λa ha=>?_),λa ha=>?_,by omega⟩,by omega⟩
  ·rw [mD k1] at ha;rcases a3L ha with ha | rfl
   ·exact h.2.1 a ha
   ·exact V9 _
  ·rcases zD (n:=a.1) (a4v ha) with hm | ⟨x,hx,ex⟩
   ·rw [sH k1] at hm;obtain⟨b,hb,eb⟩:=List.mem_map.1 hm;rw [<-eb];exact h.2.2.1 b hb
   ·rw [<-ex];have:=(hts.2.2.2.2.2.2 x hx).1;omega
theorem Jj {p:Int}:∀ {l:List (List UInt8)} {g:o8},ID g->ID (lC g p l).1/\(lC g p l).1.1.length<=max g.1.length 256
 | [],_,h=>⟨h,Nat.le_max_left ..⟩
 | r :: l,g,h=>by
  obtain⟨h1,h2⟩:=ZI (p:=p) (raw:=r) h;obtain⟨h3,h4⟩:=Jj (p:=p) (l:=l) h1;exact⟨h3,by show(lC (T7 g p r).1 p l).1.1.length<=_;omega⟩
def ZJ (l:List D0):Nat:=l.findIdx λr=>decide (r.1 ≠ 0)
def PP (g:o8) (p:Int) (l:List (List UInt8)):o8 × Int × Int:=
 if ZJ (lC g p l).2 < l.length then(Kz,((ZJ (lC g p l).2:Nat):Int),((lC g p l).2.getD (ZJ (lC g p l).2) kx).1) else((lC g p l).1,0,0)
theorem Pm {g:o8} {p:Int} {l:List (List UInt8)} {i:Nat} (h:i < l.length) (hb:∀ r ∈ (lC g p (l.take i)).2,r.1=0) (hr:(T7 (lC g p (l.take i)).1 p l[i]).2.1 ≠ 0):PP g p l=(Kz,(i:Int),(T7 (lC g p (l.take i)).1 p l[i]).2.1):=by
 have hl:i < (lC g p l).2.length:=by rw [mG];exact h
 have hi:ZJ (lC g p l).2=i:=by
  refine DO hl (by rw [GN h];exact a2S hr) λj hj hlt=>?_;refine a2Y λk=>k (hb _ ?_);rw [yU,List.mem_take_iff_getElem];exact⟨j,by omega,rfl⟩
 unfold PP;rw [hi,a28 h,E0 hl,GN h]
theorem Pn {g:o8} {p:Int} {l:List (List UInt8)} (hb:∀ r ∈ (lC g p l).2,r.1=0):PP g p l=((lC g p l).1,0,0):=by
 have hi:ZJ (lC g p l).2=(lC g p l).2.length:=Gt λj hj=>a2Y λk=>k (hb _ (a29 hj));unfold PP;rw [a25 (by rw [hi,mG];omega)]
variable {md:Int}
theorem Po {l:List ED} (hl:l.length<=1000000):Ans (fk l):=by
 unfold fk kC;refine D8 l (λi (v:Int)=>(v,l,((l.length:Nat):Int),((i:Nat):Int))) (λ_ _=>True) (λi v hi _=>?_) (λv _=>?_) (b0:=0) trivial (by omega)
 ·unfold cr;dsimp only;rw [a2S (by omega:(i:Int) < ((l.length:Nat):Int)),E8,a2S (by omega:(0:Int)<=(i:Int)/\(i:Int) < ((l.length:Nat):Int)),C4,A4,B5,D2 (by omega)];exact⟨_,rfl,trivial⟩
 ·unfold cr;dsimp only;rw [a2Y (by omega),E3,A4,B8];trivial
theorem SO {v6:Nat} {v7:List ED} {v8 v9:Int} {b0:ED} {l0:List ED} (h:v6<=l0.length) (hl:l0.length<=1000000):Ok (L7 (v6:Int) v7 v8 v9 b0 l0) λr=>∃ l':List ED,r= .inl (v7,v8,A9 (v9 + 1),l')/\l'.length=l0.length + 1:=by
 unfold L7;simp only [a2V,a3f,a3a,a2T,a26,Nat.min_self];rw [a2S (by omega),C4,a2S (rY (by omega)),C4,a2S (rY (by omega)),C4,a2S (by omega),C4,a2S (rY (by omega)),C4];refine⟨_,rfl,_,rfl,?_⟩;simp only [a2V,a3f,a3a,a26];omega
theorem SP {v7:List ED} {v8 v9:Int} {b0:ED} {l0:List ED} (hl:l0.length<=1000000):Ok (fM 0 v7 v8 v9 b0 l0) λr=>∃ l':List ED,r= .inl (v7,v8,A9 (v9 + 1),l')/\l'.length=l0.length + 1:=by
 unfold fM;refine T2 (λn v=>∃ j:Nat,j + n=l0.length/\v=((j:Int),v7,v8,v9,b0,l0)) ?_ ⟨0,by omega,rfl⟩ (n:=l0.length) (by omega);rintro n v ⟨j,hj,rfl⟩;have fin:∀ {o:Option ((List ED × Int × Int × List ED) ⊕ List ED)},o=L7 (j:Int) v7 v8 v9 b0 l0->Ok (Option.map Sum.inr o) (Nxt (λr=>∃ l':List ED,r= .inl (v7,v8,A9 (v9 + 1),l')/\l'.length=l0.length + 1) λz=>∃ m,m < n/\∃ j:Nat,j + m=l0.length/\z=((j:Int),v7,v8,v9,b0,l0)):=λe=>by
  rw [e,C9];exact(SO (by omega) hl).mono λr hr=>hr
 have go:j < l0.length->Ok (some (Sum.inl (A9 ((j:Int) + 1),v7,v8,v9,b0,l0)):Option ((Int × List ED × Int × Int × ED × List ED) ⊕ ((List ED × Int × Int × List ED) ⊕ List ED))) (Nxt (λr=>∃ l':List ED,r= .inl (v7,v8,A9 (v9 + 1),l')/\l'.length=l0.length + 1) λz=>∃ m,m < n/\∃ j:Nat,j + m=l0.length/\z=((j:Int),v7,v8,v9,b0,l0)):=λh=>by
  rw [A4,B5,D2 (by omega)];exact⟨n - 1,by omega,j + 1,by omega,rfl⟩
 unfold gu;dsimp only;rw [A7];refine⟨λh=>?_,λh=>fin rfl⟩;have h:=a23 h;have hb:(0:Int)<=(j:Int)/\(j:Int) < ((l0.length:Nat):Int):=by omega
 have hb2:Int.toNat (j:Int) < l0.length:=by omega
 rw [a2S hb,C4,a2S hb2,C4,A7];refine⟨λ_=>go (by omega),λ_=>?_⟩;rw [C4,C4,A7];refine⟨λ_=>?_,λ_=>fin rfl⟩;rw [C4,C4,A7];exact⟨λ_=>go (by omega),λ_=>fin rfl⟩
theorem Pp {l:List ED} (hl:l.length<=1000000):Ok (fm l) λr=>r.length=l.length:=by
 unfold fm kD;refine D8 l (λi (v:List ED)=>(l,((l.length:Nat):Int),((i:Nat):Int),v)) (λi v=>v.length=i) (λi v hi hv=>?_) (λv hv=>?_) (b0:=[]) rfl (by omega)
 ·unfold ct;dsimp only;rw [a2S (by omega:(i:Int) < ((l.length:Nat):Int)),E8,a2S (by omega:(0:Int)<=(i:Int)/\(i:Int) < ((l.length:Nat):Int)),C4];refine(SP (by omega)).mono λr hr=>?_;obtain⟨l',rfl,h'⟩:=hr;rw [B5,D2 (by omega)];exact⟨l',rfl,by omega⟩
 ·unfold ct;dsimp only;rw [a2Y (by omega),E3,A4,B8];exact hv
theorem Jk (a b c:Int):Ans (cV a b c):=by
 unfold cV;simp only [Ans,A7,A4,a2W,a2U];exact⟨λ_=>trivial,λ_=>trivial⟩
theorem Pq {a b c d e:Int} {l0:List KD} {n:Nat} (h:l0.length<=n):Ok (bd a b c d e l0) λr=>r.1.length<=n:=by
 unfold bd;rw [A7];refine⟨λ_=>?_,λ_=>⟨_,rfl,by simp⟩⟩;refine H2 (Jk _ _ _) λr=>?_;rw [A7];exact⟨λ_=>⟨_,rfl,h⟩,λ_=>⟨_,rfl,by simp⟩⟩
theorem La {l:List ED} (hl:l.length<=1000000) (a b c d:Int):Ok (dW l a b c d) λr=>r.1.length<=l.length:=by
 unfold dW;refine H2 (Po hl) λr1=>?_;rw [A5];refine(Pp hl).mono λo ho=>?_;unfold jL;refine D8 o (λi (v:Int × Int × List KD)=>(a,max b 0,c,d,v.1,v.2.1,o,((o.length:Nat):Int),((i:Nat):Int),v.2.2)) (λi v=>v.2.2.length<=i) (λi v hi hv=>?_) (λv hv=>?_) (b0:=(A9 (((l.length:Nat):Int) + 1),r1,[])) (by simp) (by omega)
 ·have c3:∀ {b0:ED},Ok (V3 a (max b 0) c d v.1 v.2.1 o ((o.length:Nat):Int) (i:Int) b0 v.2.2) (Nxt (λr=>r.1.length<=l.length) λz=>∃ b':Int × Int × List KD,z=(a,max b 0,c,d,b'.1,b'.2.1,o,((o.length:Nat):Int),(((i + 1:Nat):Nat):Int),b'.2.2)/\b'.2.2.length<=i + 1):=fun {b0}=>by
   unfold V3;rw [A7];refine⟨λ_=>?_,λ_=>?_⟩
   ·rw [A4,B8];simp
   ·rw [a2S (tn (by omega)),C4,A4,B5,D2 (by omega)];exact⟨(_,_,_),rfl,by simp only [a2V,a3f];omega⟩
  unfold be;dsimp only;rw [a2S (by omega:(i:Int) < ((o.length:Nat):Int)),E8,a2S (by omega:(0:Int)<=(i:Int)/\(i:Int) < ((o.length:Nat):Int)),C4,A7];refine⟨λ_=>H2 (Jk _ _ _) λr=>?_,λ_=>c3⟩;rw [A7];refine⟨λ_=>?_,λ_=>c3⟩;rw [A4,B8];show v.2.2.length<=l.length;omega
 ·unfold be;dsimp only;rw [a2Y (by omega),E3,C9];exact(Pq (n:=l.length) (by omega)).mono λr hr=>hr
theorem Ev (s:StD) (g:Int):Ans (bM s g):=by
 unfold bM;simp only [Ans,A7,A4,a2W,a2U];exact⟨λ_=>trivial,λ_=>trivial⟩
theorem Ew {a:J8} (h:KY a) {raw:List UInt8} (hr:raw.length<=140737488351232):bK a raw=some (T7 a.2.1 a.2.2.2.2 raw).2:=by
 unfold bK;rw [wC h.2.1.b h.2.2.2.2 hr,a2X]
theorem Ex {a:J8} (h:KY a) {raw:List UInt8} (hr:raw.length<=140737488351232):Ok (V4 a raw) KY:=by
 rw [SG h hr];exact⟨_,rfl,h.1,Ji (l:=[raw]) h.2.1,h.2.2.1,h.2.2.2.1,h.2.2.2.2⟩
theorem Us {g:o8} {p:Int} {raw:List UInt8} (h:(T7 g p raw).2.1=0):(T7 g p raw).2.2.2.2.1=(gR raw).1.2.2.1:=by
 by_cases hv:Ch g=0
 ·by_cases hd:(gR raw).2=0
  ·rw [xr hv hd]
  ·rw [xq hv hd] at h;exact absurd h hd
 ·rw [xp hv] at h;cases h
theorem SQ {n:Nat} {s t:StD} {raw:List UInt8} {p:Int} {rp:E7} {k:KD} {r:D0} {l:List KD} (h:StV md n s) (hn:n<=1000) (hr:raw.length<=10000) (hk:k=Jf raw) (hne:∀ e ∈ s.2.2.2.2.2.1,e.1 ≠ k) (hg:r.2.2.2.1=(gR raw).1.2.2.1):Ok (cu raw p s t rp k r l) λx=>StV md (n + 1) x.1:=by
 have hl:=h.2.2.1.1;unfold cu;rw [A5];refine(Ex h.2.1 (by omega)).mono λa ha=>?_;rw [a2S ⟨by unfold LIM;omega,by unfold LEN;omega⟩,C4,AE,a2X];have fin:∀ q:List Int,q.length<=1->Ok (X0 (s.1,a,s.2.2) t rp k r k r.2.1 r.2.2.1 r.2.2.2.1 r.2.2.2.2 s.2.2.1 s.2.2.2.1 s.2.2.2.2.1 l raw q) λx=>StV md (n + 1) x.1:=λq hq=>by
  unfold X0;rw [decide_eq_true (rY (by dsimp only;omega)),C4,decide_eq_true (rY (by dsimp only;omega)),C4];refine⟨_,rfl,h.1,ha,⟨?_,λe he=>?_,?_⟩,h.2.2.2⟩
  ·rw [List.length_append,List.length_singleton];dsimp only;omega
  ·rcases List.mem_append.1 he with he | he
   ·exact(h.2.2.1.2.1 e he).mono (by omega)
   ·rw [List.mem_singleton.1 he];exact⟨hk,hr,hg,by dsimp only;omega⟩
  ·rw [a3g,a32];refine⟨h.2.2.1.2.2,by simp,λx hx y hy=>?_⟩;simp only [a3h,a3K,a3o] at hy;subst hy;obtain⟨e,he,rfl⟩:=List.mem_map.1 hx;exact hne e he
 rw [A7];exact⟨λ_=>fin [p] (by simp),λ_=>fin [] (by simp)⟩
theorem SR {n:Nat} {s t:StD} {raw:List UInt8} {p:Int} {rp:E7} {k:KD} {r:D0} {l:List KD} (h:StV md n s) (hn:n<=1000) (hr:raw.length<=10000) (hk:k=Jf raw) (hne:∀ e ∈ s.2.2.2.2.2.1,e.1 ≠ k) (hg:r.2.2.2.1=(gR raw).1.2.2.1) (hl:l.length<=1000000):Ok (fN raw p ((l.length:Nat):Int) 0 s t rp k r l) λx=>StV md (n + 1) x.1:=by
 unfold fN;refine D8 l (λi (v:StD)=>(raw,p,((l.length:Nat):Int),((i:Nat):Int),v,t,rp,k,r,l)) (λ_ v=>StV md n v/\∀ e ∈ v.2.2.2.2.2.1,e.1 ≠ k) (λi v hi hv=>?_) (λv hv=>?_) (b0:=s) ⟨h,hne⟩ (by omega)
 ·unfold cw;dsimp only;rw [a2S (by omega:(i:Int) < ((l.length:Nat):Int)),E8,a2S (by omega:(0:Int)<=(i:Int)/\(i:Int) < ((l.length:Nat):Int)),C4,a2T,a2S hi,C4,A5];refine(CA hv.1 hn _).mono λr1 h1=>?_;obtain⟨m,hm,e1⟩:=h1;rw [e1,A5];refine(Jh (hv.1.e (hv.1.2.2.1.sub hm)) _).mono λr2 h2=>?_;obtain⟨c,hc,rfl⟩:=h2;rw [A4,B5,D2 (by omega)];exact⟨_,rfl,(hv.1.e (hv.1.2.2.1.sub hm)).c hc,λe he=>hv.2 e (hm.subset he)⟩
 ·unfold cw;dsimp only;rw [a2Y (by omega),E3,C9];exact(SQ hv.1 hn hr hk hv.2 hg).mono λx hx=>hx
theorem Jl {n:Nat} {s t:StD} {raw:List UInt8} {p i:Int} {b:Bool} {rp:E7} {k:KD} (h:StV md n s) (hn:n<=1000) (hr:raw.length<=10000) (hk:k=Jf raw) (hi:i < ((s.2.2.2.2.2.1.length:Nat):Int)) (hb:b=false->∀ e ∈ s.2.2.2.2.2.1,e.1 ≠ k):Ok (X1 raw p i b s t rp k) λx=>StV md (n + 1) x.1:=by
 unfold X1;rw [A7];refine⟨λ_=>?_,λhb'=>?_⟩
 ·rw [A5];refine(Pi h k).mono λr4 h4=>?_;obtain⟨c,hc,rfl⟩:=h4;rw [A5];exact(ZH (h.c hc) hn hi).mono λr5 h5=>⟨_,rfl,h5⟩
 ·rw [A5];refine(Pi h k).mono λr6 h6=>?_;obtain⟨c,hc,rfl⟩:=h6;have h':=h.c hc;have hl:=h.2.2.1.1;have fg:∀ {x:E7},Ok ((L5 (GL s c) k).bind λr8=>some (r8,x)) λx=>StV md (n + 1) x.1:=fun {x}=>by
   rw [A5];refine(Cz h' k).mono λr8 h8=>?_;obtain⟨c2,hc2,rfl⟩:=h8;exact⟨_,rfl,(h'.c hc2).mono (by omega)⟩
  rw [Ew h'.2.1 (by omega),a2X,A7];refine⟨λ_=>fg,λh0=>?_⟩;have h0:(T7 (GL s c).2.1.2.1 (GL s c).2.1.2.2.2.2 raw).2.1=0:=by simpa using h0
  refine H2 (Ev _ _) λr9=>?_;rw [A7];refine⟨λ_=>fg,λ_=>?_⟩;rw [A5];refine(La (by show s.2.2.2.2.2.1.length<=1000000;omega) _ _ _ _).mono λr11 h11=>?_;have h11:r11.1.length<=s.2.2.2.2.2.1.length:=h11;rw [A7];refine⟨λ_=>?_,λ_=>SR h' hn hr hk (hb hb') (Us h0) (by omega)⟩;rw [A5];refine(Jh h' k).mono λr8 h8=>?_;obtain⟨c2,hc2,rfl⟩:=h8;exact⟨_,rfl,(h'.c hc2).mono (by omega)⟩
theorem Wq {n:Nat} {s:StD} {raw:List UInt8} (h:StV md n s) (hn:n<=1000) (hr:raw.length<=10000) (p:Int):Ok (K9 s raw p) λx=>StV md (n + 1) x.1:=by
 have hl:=h.2.2.1.1;have same:∀ {x:E7},Ok (some (s,x)) λx=>StV md (n + 1) x.1:=fun {x}=>⟨_,rfl,h.mono (by omega)⟩;unfold K9;rw [A7];refine⟨λ_=>same,λ_=>?_⟩;rw [iX (by omega),a2X,A7];refine⟨λ_=>same,λ_=>?_⟩;rw [Jg (by omega),a2X,RH (by omega),a2X];by_cases hs:∃ e ∈ s.2.2.2.2.2.1,e.1=Jf raw
 ·obtain⟨i,e1,_,hi,_⟩:=Gp hs;rw [e1,a2S (by omega),E8];exact Jl h hn hr rfl (by omega) (λe=>by cases e)
 ·have hne:∀ e ∈ s.2.2.2.2.2.1,e.1 ≠ Jf raw:=λe he hk=>hs ⟨e,he,hk⟩;rw [NZ hne,a2Y (by omega),E3];exact H2 (Ph (by have:=h.2.2.2;omega) _) λr=>Jl h hn hr rfl (by omega) (λ_=>hne)
end Go.Proofs.YtjbgdpjgfjnkbaaGreatDoor.Am
namespace Go.Proofs.YtjbgdpjgfjnkbaaGreatDoor.Am
open Go
theorem yV {l:List Int} (z:szU (.sl (.int .i64)) l):l.length<=140737488351232:=by
 have h:l.length * 8<=reachBytes:=z.1;have hr:reachBytes=140737488351232:=rfl;omega
def SS (l:List (List UInt8)):Prop:=l.length<=1000/\∀ r ∈ l,r.length<=140737488351232
theorem Pr {g:o8} (hl:g.1.length<=4398046511000):gU g=some g:=by
 unfold gU;rw [DP hl];rfl
theorem Ey {g:o8} {p:Int} {l:List (List UInt8)} (hg:ID g) (hp:okU p) (hr:SS l):ek g p l=some (lC g p l):=by
 obtain⟨hl,hr⟩:=hr;rw [<-J3];unfold ek lM;refine D8 l (λi (b:o8 × List D0)=>(p,l,((l.length:Nat):Int),((i:Nat):Int),b.1,([],(0:Int)),b.2)) (λi b=>b=lC g p (l.take i)) (λi b hi hv=>?_) (λb hv=>?_) (b0:=(g,[])) rfl (by omega)
 ·have hb:=(Jj (p:=p) (l:=l.take i) hg).1;have hn:=mG p (l.take i) g;rw [<-hv] at hb hn;rw [a26] at hn;unfold ei;dsimp only;rw [a2S (by omega:(i:Int) < ((l.length:Nat):Int)),E8,a2S (by omega:(0:Int)<=(i:Int)/\(i:Int) < ((l.length:Nat):Int)),C4,a2T,E0 hi,wC hb hp (hr _ (a29 hi)),a2X,a2S ⟨by unfold LIM;omega,by unfold LEN;omega⟩,C4,A4,B5,D2 (by omega)];exact⟨((T7 b.1 p l[i]).1,b.2 ++ [(T7 b.1 p l[i]).2]),rfl,by rw [pV hi,<-hv]⟩
 ·rw [a3i] at hv;unfold ei iT;dsimp only;rw [a2Y (by omega),E3,a3s,A4,B8,hv]
theorem GO {g:o8} {p:Int} {l:List (List UInt8)} (hg:ID g) (hp:okU p) (hr:SS l):nO g p l=some (PP g p l):=by
 obtain⟨hl,hr⟩:=hr;rw [<-J3];unfold nO;rw [Pr hg.2.2.2,a2X];unfold pB;refine D8 l (λi (b:o8)=>(p,l,((l.length:Nat):Int),((i:Nat):Int),b)) (λi b=>b=(lC g p (l.take i)).1/\∀ r ∈ (lC g p (l.take i)).2,r.1=0) (λi b hi hv=>?_) (λb hv=>?_) (b0:=g) ⟨rfl,λr h=>(by cases h)⟩ (by omega)
 ·obtain⟨hv,hz⟩:=hv;have hb:=(Jj (p:=p) (l:=l.take i) hg).1;rw [<-hv] at hb;unfold kg;dsimp only;rw [a2S (by omega:(i:Int) < ((l.length:Nat):Int)),E8,a2S (by omega:(0:Int)<=(i:Int)/\(i:Int) < ((l.length:Nat):Int)),C4,a2T,E0 hi,OS hb hp (hr _ (a29 hi)),a2X];by_cases h0:(T7 b p l[i]).2.1=0
  ·rw [a2S h0,a3m,E3,A4,B5,D2 (by omega)];refine⟨_,rfl,by rw [pV hi,<-hv],λr hr=>?_⟩;rw [pV hi] at hr;rcases List.mem_append.1 hr with hr | hr
   ·exact hz r hr
   ·rw [List.mem_singleton.1 hr,<-hv];exact h0
  ·rw [a2Y h0,a3r,E8,A4,B8];rw [hv] at h0 ⊢;exact(Pm hi hz h0).symm
 ·obtain⟨hv,hz⟩:=hv;rw [a3i] at hv hz;unfold kg nq;dsimp only;rw [a2Y (by omega),E3,a3s,A4,B8,Pn hz,hv]
theorem Lb {g:o8} {p:Int} {l:List (List UInt8)} (hg:ID g) (hp:okU p) (hr:SS l):eG g p l=some (PP g p l):=by
 obtain⟨hl,hr⟩:=hr;rw [<-J3];unfold eG jV;refine D8 l (λi (b:o8)=>(p,l,((l.length:Nat):Int),((i:Nat):Int),b,([],(0:Int)))) (λi b=>b=(lC g p (l.take i)).1/\∀ r ∈ (lC g p (l.take i)).2,r.1=0) (λi b hi hv=>?_) (λb hv=>?_) (b0:=g) ⟨rfl,λr h=>(by cases h)⟩ (by omega)
 ·obtain⟨hv,hz⟩:=hv;have hb:=(Jj (p:=p) (l:=l.take i) hg).1;rw [<-hv] at hb;unfold bu;dsimp only;rw [a2S (by omega:(i:Int) < ((l.length:Nat):Int)),E8,a2S (by omega:(0:Int)<=(i:Int)/\(i:Int) < ((l.length:Nat):Int)),C4,a2T,E0 hi,wC hb hp (hr _ (a29 hi)),a2X];by_cases h0:(T7 b p l[i]).2.1=0
  ·rw [a2S h0,a3m,E3,A4,B5,D2 (by omega)];refine⟨_,rfl,by rw [pV hi,<-hv],λr hr=>?_⟩;rw [pV hi] at hr;rcases List.mem_append.1 hr with hr | hr
   ·exact hz r hr
   ·rw [List.mem_singleton.1 hr,<-hv];exact h0
  ·rw [a2Y h0,a3r,E8,A4,B8];rw [hv] at h0 ⊢;exact(Pm hi hz h0).symm
 ·obtain⟨hv,hz⟩:=hv;rw [a3i] at hv hz;unfold bu fX;dsimp only;rw [a2Y (by omega),E3,a3s,A4,B8,Pn hz,hv]
theorem ST (g:o8) (p:Int) (raw:List UInt8):okU (T7 g p raw).2.2.2.2.1:=by
 show okU (rsF g p raw).2.2.2.1;unfold rsF;split
 ·exact oL
 ·split
  ·exact oL
  ·exact(vv raw).2.2.1
theorem Jn (p:Int):∀ (l:List (List UInt8)) (g:o8),∀ r ∈ (lC g p l).2,okU r.2.2.2.1
 | [],_,_,h=>by cases h
 | x :: l,g,r,h=>by
  rcases List.mem_cons.1 h with rfl | h
  ·exact ST g p x
  ·exact Jn p l _ r h
theorem SU {g:o8} {p:Int} {raw:List UInt8} (hg:ID g) (hp:okU p) (hr:raw.length<=140737488351232):gH g p raw=some (T7 g p raw).1:=by
 unfold gH;rw [wC hg hp hr,a2X]
theorem Ut {L:List Int} {k n:Int} {s:o7} {a:J8} (hs:jJ L k s) (hk:k < 100000000) (h0:0<=k) (ha:KY a) (hn:0<=n) (hn2:n<=6):Ok (ea s a n) λr=>jJ L (k + 400) r.1/\s.2 < r.1.2/\r.2.length<=6/\∀ b ∈ r.2,b.length<=4096:=by
 unfold ea;rw [C8 (by omega) (by omega),A5];refine(J5 hs (n:=n + 1) (by omega) (by omega) (by omega)).mono λr1 h1=>?_;obtain⟨a1,a2,a3,a4⟩:=h1;unfold lL;refine T2 (λn v=>∃ (u:o7) (g:o8) (l:List (List UInt8)) (i:Nat),v=((i:Int),u,a,g,l)/\n=i/\i + l.length<=6/\jJ L (k + 350 - 50 * i) u/\s.2 < u.2/\xu g/\∀ b ∈ l,b.length<=4096) ?_ (n:=r1.2.toNat) ⟨r1.1,a.1,[],r1.2.toNat,by rw [a38 a3],rfl,by simp only [a3l];omega,a1.le (by omega),by omega,ha.1,λb hb=>(by cases hb)⟩ (by omega);rintro m v ⟨u,g,l,i,rfl,rfl,hi,hu,hq,hg,hl⟩;unfold iS;dsimp only;rw [A7];refine⟨λh=>?_,λh=>?_⟩
 ·have h:=a23 h;have hw:A9 ((m:Int) - 1)=((m - 1:Nat):Int):=Gr (by omega) (by omega);have hc2:∀ {y:o7} {raw:List UInt8},jJ L (k + 350 - 50 * m + 45) y->s.2 < y.2->raw.length<=4096->Ok (aI (m:Int) raw y a g l) (Nxt (λr=>jJ L (k + 400) r.1/\s.2 < r.1.2/\r.2.length<=6/\∀ b ∈ r.2,b.length<=4096) λz=>∃ m',m' < m/\∃ (u:o7) (g:o8) (l:List (List UInt8)) (i:Nat),z=((i:Int),u,a,g,l)/\m'=i/\i + l.length<=6/\jJ L (k + 350 - 50 * i) u/\s.2 < u.2/\xu g/\∀ b ∈ l,b.length<=4096):=by
   intro y raw hy hy2 hraw;unfold aI;rw [a2S ⟨by unfold LIM;omega,by unfold LEN;omega⟩,C4,SU hg.b ha.2.2.2.2 (by omega),a2X,A4,B5,hw];refine⟨m - 1,by omega,y,_,_,m - 1,rfl,rfl,by rw [a2V,a3f];omega,hy.le (by omega),hy2,(Er hg).1,λb hb=>?_⟩;rcases List.mem_append.1 hb with hb | hb
   ·exact hl b hb
   ·rw [List.mem_singleton.1 hb];exact hraw
  rw [A5];refine(Ur hu (by omega) (by omega) hg.1).mono λr2 h2=>?_;obtain⟨b1,b2,b3⟩:=h2;rw [A7];refine⟨λhpos=>?_,λ_=>?_⟩
  ·have hpos:=a23 hpos;rw [A5];refine(J5 b1 (n:=9) (by omega) (by omega) (by omega)).mono λr5 h5=>?_;obtain⟨c1,c2,c3,c4⟩:=h5;unfold aJ;rw [A7];refine⟨λ_=>?_,λ_=>hc2 (c1.le (by omega)) (by omega) b3⟩;rw [A5];refine(J5 c1 (n:=((l.length:Nat):Int)) (by omega) (by omega) (by omega)).mono λr4 h4=>?_;obtain⟨d1,d2,d3,d4⟩:=h4;rw [a2S ⟨d3,d4⟩,C4,a2S (by omega),C4];have hlt:Int.toNat r4.2 < l.length:=by omega
   rw [E0 hlt];exact hc2 (d1.le (by omega)) (by omega) (hl _ (a29 hlt))
  ·unfold aJ;rw [E3];exact hc2 (b1.le (by omega)) (by omega) b3
 ·rw [A4,B8];exact⟨hu.le (by omega),hq,by dsimp only;omega,hl⟩
end Go.Proofs.YtjbgdpjgfjnkbaaGreatDoor.Am
