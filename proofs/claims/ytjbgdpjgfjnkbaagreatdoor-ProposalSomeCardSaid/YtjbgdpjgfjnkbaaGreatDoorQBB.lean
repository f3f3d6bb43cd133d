/- Texts laid together: PMkN, PPlN. No conditions. -/
import Derived.Test.YtjbgdpjgfjnkbaaGreatDoorQBA
import Derived.Test.YtjbgdpjgfjnkbaaGreatDoorFAllKmempoollaw26
namespace Go.Proofs.YtjbgdpjgfjnkbaaGreatDoor.Am
open Go
abbrev CG:=o7
theorem Te {L:List Int} {k:Int} {s:CG} (hs:jJ L k s) (hk:k < 1000000000):Ok (fu s) λr=>jJ L (k + 14) r.1/\CfV 1 r.2/\okU r.2.2.2.2.2.2.2.2.2.2.1:=by
 have c1:∀ {t:CG} {c0 c:D9},jJ L (k + 12) t->CfV 1 c->okU c.2.2.2.2.2.2.2.2.2.1->Ok (X3 t c0 c) λr=>jJ L (k + 14) r.1/\CfV 1 r.2/\okU r.2.2.2.2.2.2.2.2.2.2.1:=fun {t} {c0} {c} ht hc hp=>by
  unfold X3;rw [A5];refine(J5 ht (n:=6) (by omega) (by omega) (by omega)).mono λr11 h11=>?_;rw [A7];refine⟨λ_=>?_,λ_=>⟨_,rfl,h11.1.le (by omega),hc,hp⟩⟩;rw [A5];exact(J5 h11.1 (n:=40) (by omega) (by omega) (by omega)).mono λr12 h12=>⟨_,rfl,h12.1.le (by omega),hc,hp⟩
 unfold fu;rw [A5];refine(J5 hs (by omega) (by omega) (by omega)).mono λr1 h1=>?_;rw [A5];refine(J5 h1.1 (by omega) (by omega) (by omega)).mono λr2 h2=>?_;rw [A5];refine(J5 h2.1 (by omega) (by omega) (by omega)).mono λr3 h3=>?_;rw [A5];refine(J5 h3.1 (by omega) (by omega) (by omega)).mono λr4 h4=>?_;rw [A5];refine(J5 h4.1 (by omega) (by omega) (by omega)).mono λr5 h5=>?_;rw [A5];refine(J5 h5.1 (by omega) (by omega) (by omega)).mono λr6 h6=>?_;rw [A5];refine(J5 h6.1 (by omega) (by omega) (by omega)).mono λr7 h7=>?_;rw [A5];refine(J5 h7.1 (by omega) (by omega) (by omega)).mono λr8 h8=>?_;rw [A5];refine(J5 h8.1 (by omega) (by omega) (by omega)).mono λr9 h9=>?_;rw [A5];refine(J5 h9.1 (by omega) (by omega) (by omega)).mono λr10 h10=>?_;rw [A5];refine(J5 h10.1 (by omega) (by omega) (by omega)).mono λr13 h13=>?_;have w9:A9 (100 + r9.2)=100 + r9.2:=C8 (by omega) (by omega);rw [A7];refine⟨λ_=>?_,λ_=>c1 (h13.1.le (by omega)) ⟨rfl,?_,?_⟩ (V9 _)⟩
 ·rw [A5];refine(J5 h13.1 (by omega) (by omega) (by omega)).mono λr14 h14=>?_;have w14:A9 (200 + r14.2)=200 + r14.2:=C8 (by omega) (by omega);refine c1 (h14.1.le (by omega)) ⟨rfl,?_,?_⟩ (V9 _)
  ·dsimp only;rw [w9];omega
  ·dsimp only;rw [w14];omega
 ·dsimp only;rw [w9];omega
 ·dsimp only;omega
theorem Pz (c:D9):Ans (T8 c):=by
 obtain⟨K,hK,h12⟩:∃ K,km=some K/\K.length=12:=⟨_,rfl,rfl⟩;have hv:∀ i:Nat,i < 12->Ans (bF c (i:Int)):=λi hi=>by
  unfold bF ce;rw [a2S (by omega),C4,a2S (by rw [a2T];omega),C4,Ans,A7];exact⟨λ_=>⟨_,rfl,trivial⟩,λ_=>⟨_,rfl,trivial⟩⟩
 have hl:∀ i:Nat,i < 12->Ans (fa (i:Int)):=λi hi=>by
  unfold fa;rw [a2S (by omega),C4,a2S (by rw [a2T];omega),C4];exact⟨_,rfl,trivial⟩
 have hg:∀ i:Nat,i < 12->Ans (cg (i:Int)):=λi hi=>by
  unfold cg;rw [a2S (by omega),C4,a2S (by rw [a2T];omega),C4];exact⟨_,rfl,trivial⟩
 unfold T8;rw [hK,a2X];unfold dP;refine D8 K (λi (_:Unit)=>(((K.length:Nat):Int),((i:Nat):Int),c)) (λ_ _=>True) (λi _ hi _=>?_) (λ_ _=>?_) (b0:=()) trivial (by omega)
 ·have go:Ok (some (Sum.inl (((K.length:Nat):Int),A9 ((i:Int) + 1),c)):Option ((Int × Int × D9) ⊕ Int)) (Nxt (λ_=>True) λz=>∃ _:Unit,z=(((K.length:Nat):Int),(((i + 1:Nat):Nat):Int),c)/\True):=by
   rw [A4,B5,D2 (by omega)];exact⟨(),rfl,trivial⟩
  unfold P5;dsimp only;rw [a2S (by omega:(i:Int) < ((K.length:Nat):Int)),E8,A7];refine⟨λ_=>H2 (hv i (by omega)) λr2=>H2 (hl i (by omega)) λr3=>?_,λ_=>go⟩;rw [A7];refine⟨λ_=>by rw [A4,B8];trivial,λ_=>H2 (hv i (by omega)) λr4=>H2 (hg i (by omega)) λr5=>?_⟩;rw [A7];exact⟨λ_=>by rw [A4,B8];trivial,λ_=>go⟩
 ·unfold P5 Y2;dsimp only;rw [a2Y (by omega),E3,C9,A7];exact⟨λ_=>⟨_,rfl,trivial⟩,λ_=>⟨_,rfl,trivial⟩⟩
theorem Wy {c:D9} {l:List o6} (hc:CfV 1 c) (hp:okU c.2.2.2.2.2.2.2.2.2.1) (hl:KI l):Ok (bH c l) λr=>r.2=0->StV 1 0 r.1:=by
 unfold bH;refine H2 (Pz c) λr1=>?_;rw [A7];refine⟨λe=>⟨_,rfl,λh=>?_⟩,λ_=>?_⟩
 ·have h:r1=0:=h;rw [h] at e;cases e
 rw [A5];refine(Zx hl hp).mono λr2 h2=>?_;rw [A7];refine⟨λe=>⟨_,rfl,λh=>?_⟩,λ_=>⟨_,rfl,λ_=>⟨hc,h2,Ww _,a3B _⟩⟩⟩;have h:r2.2=0:=h;rw [h] at e;cases e
theorem a1p {c:D9} {l:List o6} (hc:CfV 1 c) (hp:okU c.2.2.2.2.2.2.2.2.2.1) (hl:KI l):Ok (iB c l) λr=>(r.2=0->kr 0 r.1)/\(r.2 ≠ 0->StV 0 0 r.1.1):=by
 unfold iB;rw [A5];refine(Wy hc hp hl).mono λr1 h1=>?_;rw [A7];refine⟨λe=>⟨_,rfl,λh=>?_,λ_=>⟨⟨rfl,(by dsimp only;omega),(by dsimp only;omega)⟩,⟨yQ,yQ,yQ,rfl,oL⟩,Ww _,Nat.zero_le _⟩⟩,λe=>?_⟩
 ·have h:r1.2=0:=h;rw [h] at e;cases e
 have h1:=h1 (by simpa using e);rw [A5];refine(GJ h1.2.1.1.1).mono λr2 _=>⟨_,rfl,λ_=>⟨h1,a3j _,⟨by simp,λk hk=>?_⟩,a2j _,a3B _⟩,λh=>absurd rfl h⟩;rw [a39 hk];simp
theorem PA {l:List (List UInt8)} (hl:l.length<=1000000):Ans (gI l):=by
 unfold gI lm;refine D8 l (λi (v:Int)=>(v,l,((l.length:Nat):Int),((i:Nat):Int))) (λ_ _=>True) (λi v hi _=>?_) (λv _=>?_) (b0:=0) trivial (by omega)
 ·unfold dy;dsimp only;rw [a2S (by omega:(i:Int) < ((l.length:Nat):Int)),E8,a2S (by omega:(0:Int)<=(i:Int)/\(i:Int) < ((l.length:Nat):Int)),C4,A4,B5,D2 (by omega)];exact⟨_,rfl,trivial⟩
 ·unfold dy;dsimp only;rw [a2Y (by omega),E3,A4,B8];trivial
theorem Lg {L:List Int} {k:Int} {s:CG} {x:pd} {c:D9} {l:List (List UInt8)} (hs:jJ L k s) (hk:k < 1000000000) (hl:za 10000 l) (h60:l.length<=60):Ok (L3 l s x c) λr=>jJ L (k + 3) r.1/\r.2.length<=1000000:=by
 have fin:∀ {q:CG} {hd:D5},jJ L (k + 3) q->Ok ((H1 (hd,l)).bind λr=>some (q,r)) λr=>jJ L (k + 3) r.1/\r.2.length<=1000000:=fun {q} {hd} hq=>by
  rw [A5];refine(CB (b:=(hd,l)) hl (by omega)).mono λr hr=>⟨_,rfl,hq,?_⟩;have h2:(l.length + 1) * (10000 + 3020)<=61 * 13020:=a42 (by omega) (by omega);dsimp only at hr ⊢;omega
 unfold L3;rw [A5];refine(J5 hs (by omega) (by omega) (by omega)).mono λr1 h1=>?_;rw [a2Y (by omega:¬ max c.2.2.2.2.2.2.2.2.2.2.2 1=0),a3r,C4,A5];refine(Uv hl (by omega)).mono ?_;rintro⟨hd,txs⟩ h2;have h2:txs=l:=h2;subst h2;rw [A5];refine(J5 h1.1 (by omega) (by omega) (by omega)).mono λr3 h3=>?_;rw [A7];refine⟨λ_=>?_,λ_=>?_⟩
 ·rw [A5];exact(J5 h3.1 (by omega) (by omega) (by omega)).mono λr4 h4=>fin (h4.1.le (by omega))
 rw [A7];refine⟨λ_=>?_,λ_=>?_⟩
 ·rw [A5];refine(J5 h3.1 (by omega) (by omega) (by omega)).mono λr6 h6=>?_;rw [a2S (by omega),C4,a2S (by omega),C4,C4,C4,a2S (fZ _),C4];exact fin (h6.1.le (by omega))
 rw [A7];refine⟨λ_=>?_,λ_=>?_⟩
 ·rw [a2S (fZ _),C4];exact fin (h3.1.le (by omega))
 rw [A7];refine⟨λ_=>?_,λ_=>?_⟩
 ·rw [a2S (fZ _),C4];exact fin (h3.1.le (by omega))
 rw [A7];refine⟨λ_=>?_,λ_=>?_⟩
 ·rw [a2S (fZ _),C4];exact fin (h3.1.le (by omega))
 rw [A7];refine⟨λ_=>?_,λ_=>?_⟩
 ·rw [A5];exact(J5 h3.1 (by omega) (by omega) (by omega)).mono λr4 h4=>fin (h4.1.le (by omega))
 rw [A7];refine⟨λ_=>?_,λ_=>fin (h3.1.le (by omega))⟩;rw [A5];exact(J5 h3.1 (by omega) (by omega) (by omega)).mono λr4 h4=>fin (h4.1.le (by omega))
theorem AK {L:List Int} {k:Int} {s:CG} {x:pd} {c:D9} {l:List (List UInt8)} (hs:jJ L k s) (hk:k < 100000000) (hl:za 10000 l) (h60:l.length<=60):Ok (eU l s x c) λr=>jJ L (k + 100) r.1/\r.2.length<=1000000:=by
 unfold eU;refine T2 (λn v=>∃ (l:List (List UInt8)) (s:CG),v=(l,s,x,c)/\l.length=n/\n<=60/\za 10000 l/\jJ L (k + (60 - (n:Int))) s) ?_ ⟨l,s,rfl,rfl,h60,hl,hs.le (by omega)⟩ (by omega);rintro n v ⟨l,s,rfl,hn,h60,hl,hs⟩;have c3:∀ {t:CG},jJ L (k + (60 - (n:Int)) + 1) t->Ok (Option.map Sum.inr (L3 l t x c):Option ((List (List UInt8) × CG × pd × D9) ⊕ (CG × List UInt8))) (Nxt (λr=>jJ L (k + 100) r.1/\r.2.length<=1000000) λz=>∃ m,m < n/\∃ (l:List (List UInt8)) (s:CG),z=(l,s,x,c)/\l.length=m/\m<=60/\za 10000 l/\jJ L (k + (60 - (m:Int))) s):=fun {t} ht=>by
  rw [C9];exact(Lg ht (by omega) hl (by omega)).mono λr hr=>⟨hr.1.le (by omega),hr.2⟩
 unfold fT;dsimp only;rw [A7];refine⟨λh0=>?_,λ_=>c3 (hs.le (by omega))⟩;have h0:=a23 h0;rw [A5];refine(J5 hs (by omega) (by omega) (by omega)).mono λr16 h16=>?_;rw [A7];refine⟨λ_=>H2 (PA (by omega)) λr17=>?_,λ_=>c3 h16.1⟩;rw [A7];refine⟨λ_=>?_,λ_=>c3 h16.1⟩;have w:A9 (((l.length:Nat):Int) - 1)=((n - 1:Nat):Int):=by rw [C8 (by omega) (by omega)];omega
 rw [w,a2S (by omega),C4,a2T,A4,B5];refine⟨n - 1,by omega,_,_,rfl,by rw [a26];omega,by omega,⟨by rw [a26];omega,λb hb=>hl.2 b (a4q hb)⟩,h16.1.le (by omega)⟩
theorem PB {L:List Int} {k:Int} {s:CG} {x:pd} {n:Nat} (hs:jJ L k s) (h0:0<=k) (hk:k < 10000000) (h:kr n x) (hn:n<=40):Ok (ee s x) λr=>jJ L (k + 600) r.1/\r.2.length<=1000000:=by
 have hE:=h.1.2.2.1;have hl:=hE.1;unfold ee jQ;generalize x.1.2.2.2.2.2.1=es at hE hl;refine D8 es (λi (v:CG × List (List UInt8))=>(es,((es.length:Nat):Int),((i:Nat):Int),v.1,x,x.1.1,v.2)) (λi v=>jJ L (k + (i:Int)) v.1/\v.2.length<=i/\∀ b ∈ v.2,b.length<=10000) (λi v hi hv=>?_) (λv hv=>?_) (b0:=(s,[])) ⟨hs.le (by omega),a3j _,λb hb=>by cases hb⟩ (by omega)
 ·have he:=(hE.2.1 _ (a29 hi)).2.1;unfold bk;dsimp only;rw [a2S (by omega:(i:Int) < ((es.length:Nat):Int)),E8,a2S (by omega:(0:Int)<=(i:Int)/\(i:Int) < ((es.length:Nat):Int)),C4,A5];refine(J5 hv.1 (by omega) (by omega) (by omega)).mono λr20 h20=>?_;rw [A7];refine⟨λ_=>?_,λ_=>?_⟩
  ·rw [a2S (yW (by omega)),C4,a2T,E0 hi,A4,B5,D2 (by omega)];refine⟨(r20.1,v.2 ++ [es[i].2.1]),rfl,h20.1.le (by omega),by dsimp only;rw [List.length_append,List.length_singleton];omega,λb hb=>?_⟩;rcases List.mem_append.1 hb with hb | hb
   ·exact hv.2.2 b hb
   ·rw [List.mem_singleton.1 hb];exact he
  ·rw [A4,B5,D2 (by omega)];exact⟨(r20.1,v.2),rfl,h20.1.le (by omega),by dsimp only;omega,hv.2.2⟩
 ·unfold bk;dsimp only;rw [a2Y (by omega),E3,C9];unfold fU bj;rw [A5];refine(J5 hv.1 (by omega) (by omega) (by omega)).mono λr18 h18=>?_;rw [A7];refine⟨λ_=>?_,λ_=>?_⟩
  ·rw [A5];refine(Ut h18.1 (by omega) (by omega) h.1.2.1 (by omega) (by omega)).mono λr19 h19=>?_;rw [a2S (yW (by omega)),C4];refine(AK (k:=k + 450) (h19.1.le (by omega)) (by omega) ⟨by rw [a2V];omega,λb hb=>?_⟩ (by rw [a2V];omega)).mono λr hr=>⟨hr.1.le (by omega),hr.2⟩;rcases List.mem_append.1 hb with hb | hb
   ·exact hv.2.2 b hb
   ·have:=h19.2.2.2 b hb;omega
  ·exact(AK (k:=k + 450) (h18.1.le (by omega)) (by omega) ⟨by omega,hv.2.2⟩ (by omega)).mono λr hr=>⟨hr.1.le (by omega),hr.2⟩
def OpQ (b:P4):Prop:=b.2.2.1<=9223372036854775807/\b.2.2.2.1<=9223372036854775807/\b.2.2.2.2.length<=10000
theorem OpQ.v {b:P4} (h:OpQ b):OpV b:=⟨h.1,h.2.1,λ_=>h.2.2,by have:=h.2.2;omega⟩
theorem ZP {L:List Int} {k:Int} {s:CG} {x:pd} {n:Nat} {b2 b3:P4} {v:Bool} (hs:jJ L k s) (hk:k < 100000000) (h:kr n x) (hn:n<=40) (hb:OpQ b3) (hv:v=true->0 < x.1.2.2.2.2.2.1.length):Ok (dg ((x.1.2.2.2.2.2.1.length:Nat):Int) v s x b2 b3) λr=>jJ L (k + 2) r.1/\OpV r.2:=by
 have hl:=h.1.2.2.1.1;unfold dg;rw [A7];refine⟨λhv'=>?_,λ_=>?_⟩
 ·have h0:=hv hv';rw [A5];refine(J5 hs (by omega) (by omega) (by omega)).mono λr3 h3=>?_;obtain⟨j,hj⟩:∃ j:Nat,r3.2=(j:Int):=⟨r3.2.toNat,by omega⟩;have hj2:j < x.1.2.2.2.2.2.1.length:=by omega
  have he:=(h.1.2.2.1.2.1 _ (a29 hj2)).2.1;rw [a2S (by omega),C4,A5];refine(J5 h3.1 (by omega) (by omega) (by omega)).mono λr4 h4=>⟨_,rfl,h4.1.le (by omega),?_⟩;refine OpQ.v ⟨hb.1,hb.2.1,?_⟩;show(List.getD x.1.2.2.2.2.2.1 (Int.toNat r3.2) C0).2.1.length<=10000;rw [hj,a2T,E0 hj2];exact he
 ·rw [A5];exact(J5 hs (by omega) (by omega) (by omega)).mono λr4 h4=>⟨_,rfl,h4.1.le (by omega),OpQ.v ⟨hb.1,hb.2.1,hb.2.2⟩⟩
theorem ZQ {L:List Int} {k:Int} {s:CG} {x:pd} {n:Nat} {b2 b3:P4} {v:Bool} {w:Int} (hs:jJ L k s) (h0:0<=k) (hk:k < 1000000) (h:kr n x) (hn:n<=40) (hb:OpQ b3) (hv:v=true->b3.1=6\/b3.1=7):Ok (dh w v s x b2 b3) λr=>jJ L (k + 600) r.1/\OpV r.2:=by
 unfold dh;rw [A7];refine⟨λhv'=>?_,λ_=>?_⟩
 ·have h67:=hv hv';rw [A5];refine(PB hs h0 (by omega) h hn).mono λr11 h11=>⟨_,rfl,h11.1,hb.1,hb.2.1,λhk=>?_,h11.2⟩;dsimp only at hk;omega
 ·rw [A7];refine⟨λ_=>?_,λ_=>⟨_,rfl,hs.le (by omega),hb.v⟩⟩;rw [A5];exact(J5 hs (by omega) (by omega) (by omega)).mono λr4 h4=>⟨_,rfl,h4.1.le (by omega),OpQ.v ⟨hb.1,hb.2.1,hb.2.2⟩⟩
theorem ZR {L:List Int} {k:Int} {s:CG} {x:pd} {n:Nat} {b2 b3:P4} {v:Bool} {w:Int} (hs:jJ L k s) (h0:0<=k) (hk:k < 1000000) (h:kr n x) (hn:n<=40) (hb:OpQ b3) (hw:w=b3.1):Ok (di w v s x b2 b3) λr=>jJ L (k + 900) r.1/\OpV r.2:=by
 unfold di;rw [A7];refine⟨λ_=>?_,λ_=>?_⟩
 ·rw [A5];refine(Ur hs (by omega) h0 h.1.2.1.2.1.1).mono λr2 h2=>?_;have hq:OpQ (b3.1,b3.2.1,b3.2.2.1,b3.2.2.2.1,r2.2):=⟨hb.1,hb.2.1,by have:=h2.2.2;dsimp only;omega⟩;rw [A7];refine⟨λhl=>?_,λ_=>?_⟩
  ·have hl:=a23 hl;rw [A5];refine(J5 h2.1 (by omega) (by omega) (by omega)).mono λr6 h6=>?_;exact(ZP (n:=n) h6.1 (by omega) h hn hq (λ_=>by omega)).mono λr hr=>⟨hr.1.le (by omega),hr.2⟩
  ·exact(ZP (n:=n) h2.1 (by omega) h hn hq (λe=>by cases e)).mono λr hr=>⟨hr.1.le (by omega),hr.2⟩
 rw [A7];refine⟨λ_=>?_,λ_=>?_⟩
 ·rw [A5];exact(J5 hs (by omega) (by omega) (by omega)).mono λr4 h4=>⟨_,rfl,h4.1.le (by omega),OpQ.v ⟨hb.1,hb.2.1,hb.2.2⟩⟩
 rw [A7];refine⟨λ_=>?_,λ_=>?_⟩
 ·rw [A5];refine(J5 hs (by omega) (by omega) (by omega)).mono λr8 h8=>?_;rw [A5];refine(J5 h8.1 (by omega) (by omega) (by omega)).mono λr9 h9=>?_;rw [A5];refine(J5 h9.1 (by omega) (by omega) (by omega)).mono λr10 h10=>?_;have w9:A9 (r9.2 - 1)=r9.2 - 1:=C8 (by omega) (by omega);rw [A7];refine⟨λ_=>⟨_,rfl,h10.1.le (by omega),OpQ.v ⟨?_,?_,hb.2.2⟩⟩,λ_=>⟨_,rfl,h10.1.le (by omega),OpQ.v ⟨?_,?_,hb.2.2⟩⟩⟩
  ·dsimp only;omega
  ·dsimp only;omega
  ·dsimp only;omega
  ·dsimp only;rw [w9];omega
 rw [A7];refine⟨λe=>?_,λ_=>?_⟩
 ·exact(ZQ (n:=n) hs h0 hk h hn hb (λe=> .inl (by have:=a23 e;omega))).mono λr hr=>⟨hr.1.le (by omega),hr.2⟩
 ·exact(ZQ (n:=n) hs h0 hk h hn hb (λe=> .inr (by have:=a23 e;omega))).mono λr hr=>⟨hr.1.le (by omega),hr.2⟩
theorem a2Q {L:List Int} {k:Int} {s:CG} {x:pd} {n:Nat} (hs:jJ L k s) (h0:0<=k) (hk:k < 900000) (h:kr n x) (hn:n<=40):Ok (ki s x) λr=>jJ L (k + 1000) r.1/\OpV r.2:=by
 unfold ki;rw [A5];refine(J5 hs (by omega) (by omega) (by omega)).mono λr1 h1=>?_;rw [a2S (by omega),C4,a2S (by omega),C4];generalize List.getD [1,1,1,2,2,3,4,4,5,5,6,7,8,9,9] (Int.toNat r1.2) (0:Int)=K;have hq:OpQ (K,(0:Int),(0:Int),(0:Int),[]):=⟨by dsimp only;omega,by dsimp only;omega,Nat.zero_le _⟩;rw [A7];exact⟨λ_=>(ZR (n:=n) h1.1 (by omega) (by omega) h hn hq rfl).mono λr hr=>⟨hr.1.le (by omega),hr.2⟩,λ_=>(ZR (n:=n) h1.1 (by omega) (by omega) h hn hq rfl).mono λr hr=>⟨hr.1.le (by omega),hr.2⟩⟩
theorem a1q {n:Nat} (h:n<=1000000):n * 56<=LIM/\n<=LEN:=by unfold LIM LEN;omega
theorem Tf {L:List Int} {k:Int} {s:CG} (hs:jJ L k s) (h0:0<=k) (hk:k < 1000):Ok (fC s 12) λr=>jJ L (k + 20000) r.1/\∃ md,StV md 12 r.2.1.1:=by
 unfold fC;rw [A5];refine(Te hs (by omega)).mono λr1 h1=>?_;rw [A5];refine(KX h1.1 (by omega) (by omega)).mono λr2 h2=>?_;rw [A5];refine(a1p h1.2.1 h1.2.2 h2.2.2).mono λr3 h3=>?_;rw [A7];refine⟨λe=>⟨_,rfl,h2.1.le (by omega),0,(h3.2 (by simpa using e)).mono (by omega)⟩,λe=>?_⟩;have hnode:=h3.1 (by simpa using e);rw [C8 (by omega) (by omega),A5];refine(J5 h2.1 (by omega) (by omega) (by omega)).mono λr4 h4=>?_;obtain⟨m,hm⟩:∃ m:Nat,r4.2=(m:Int):=⟨r4.2.toNat,by omega⟩;rw [hm];unfold kK;refine T2 (λj v=>∃ (s:CG) (x:pd) (ops:List P4),v=((j:Int),s,_,x,r2.2,ops)/\j<=12/\kr (12 - j) x/\jJ L (k + 1000 + (12 - (j:Int)) * 1000) s/\ops.length<=12 - j) ?_ ⟨r4.1,r3.1,[],rfl,by omega,hnode.mono (by omega),h4.1.le (by omega),a3B _⟩ (by omega);rintro j v ⟨s,x,ops,rfl,hj,hx,hs,hops⟩;unfold gO;dsimp only;rw [A7];refine⟨λhc=>?_,λ_=>?_⟩
 ·have hc:=a23 hc;rw [A5];refine(a2Q hs (by omega) (by omega) hx (by omega)).mono λr5 h5=>?_;rw [a2S (a1q (by omega)),C4,A5];refine(a2P hx (by omega) h5.2).mono λr6 h6=>?_;have w:A9 ((j:Int) - 1)=((j - 1:Nat):Int):=by rw [C8 (by omega) (by omega)];omega
  rw [w,A4,B5];exact⟨j - 1,by omega,r5.1,r6.1,_,rfl,by omega,h6.mono (by omega),h5.1.le (by omega),by rw [a2V,a3f];omega⟩
 ·rw [C9];exact⟨_,rfl,hs.le (by omega),1,hx.1.mono (by omega)⟩
theorem yZ (L:List Int):Ok (N4 L) λr=>(∃ md,StV md 12 r.1)/\(0<=r.2.1/\r.2.1 < 500)/\(-1<=r.2.2.1/\r.2.2.1 < 1800)/\jJ L 30000 r.2.2.2:=by
 unfold N4;rw [Wm,a2X,A5];refine(Tf (a1m L) (by omega) (by omega)).mono λr2 h2=>?_;rw [A5];refine(J5 h2.1 (by omega) (by omega) (by omega)).mono λr3 h3=>?_;rw [A5];refine(J5 h3.1 (by omega) (by omega) (by omega)).mono λr4 h4=>?_;have w:A9 (r4.2 - 1)=r4.2 - 1:=C8 (by omega) (by omega);rw [w];exact⟨_,rfl,h2.2,⟨h3.2.2.1,h3.2.2.2⟩,⟨by dsimp only;omega,by dsimp only;omega⟩,h4.1.le (by omega)⟩
theorem nu:Ok (F9.bind λr=>some r) (· =true):=⟨true,by rw [tt];rfl,rfl⟩
theorem sf {l:List Int} (hl:l.length<=140737488351232):Q0 [l]=some (decide (160 < ((l.length:Nat):Int))):=by
 refine J3.1 ?_;unfold Q0 kW;refine D8 [l] (λi (a:Int)=>(a,[l],(([l].length:Nat):Int),((i:Nat):Int))) (λi a=>a=(if i=0 then 0 else((l.length:Nat):Int))) (λi a hi ha=>?_) (λa ha=>?_) (b0:=0) rfl (by simp)
 ·have h0:i=0:=by simpa using hi
  subst h0;rw [a28 rfl] at ha;subst ha;unfold dn;dsimp only;rw [a2S (by simp),E8,a2S (by simp),C4,A4,B5,D2 (by omega)];refine⟨_,rfl,?_⟩;rw [a25 (by omega),a2T];show A9 (0 + ((l.length:Nat):Int))=_;rw [C8] <;> omega
 ·have ha:a=((l.length:Nat):Int):=ha;subst ha;unfold dn;dsimp only;rw [a2Y (by omega),E3,A4,B8]
end Go.Proofs.YtjbgdpjgfjnkbaaGreatDoor.Am
