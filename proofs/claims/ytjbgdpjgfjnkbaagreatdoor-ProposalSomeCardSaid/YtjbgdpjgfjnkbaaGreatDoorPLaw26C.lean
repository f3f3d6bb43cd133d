/- The statements about layer 26 hold of plain data: nothing is passed over. No conditions. -/
import Derived.Test.YtjbgdpjgfjnkbaaGreatDoorQBB
import Derived.Test.YtjbgdpjgfjnkbaaGreatDoorQBC
namespace Go.Proofs.YtjbgdpjgfjnkbaaGreatDoor.Am
open Go
variable {md:Int}
theorem Ll {l:List (List UInt8)}:Ok (O1 ((l.length:Nat):Int) l) (· =true):=by
 unfold O1;rw [a2S rfl,E8];exact nu
theorem Lm {n:Nat} {s:StD} (h:StV md n s) (hn:n<=500) {mb mg:Int} (m1:0<=mb) (m2:mb < 500) (m3: -1<=mg) (m4:mg < 1800):Ok (W4 mg 0 mb (D7 (max mg 0)) (jX s.2.2.2.2.2.1) (((jX s.2.2.2.2.2.1).length:Nat):Int) 0 s s.2.1.1 (eL s mb mg)) (· =true):=by
 have hl:∀ e ∈ jX s.2.2.2.2.2.1,GK n e:=λe he=>h.2.2.1.2.1 e (lA.1 he);have hlen:(jX s.2.2.2.2.2.1).length<=n:=by rw [rZ];exact h.2.2.1.1
 have hinit:=se h (mb:=mb) (mg:=mg) (by omega) (by omega) (by omega);have eB:eL s mb mg=(iY (decide (mg < 0)) s.2.1.2.2.2.2 (nh s mb mg) (jX s.2.2.2.2.2.1)).2.2.2:=by
  unfold eL;rw [a25 (by omega)]
 have hBl:=pX h (mb:=mb) (mg:=mg) (by omega) (by omega);rw [J4 (by omega) (by omega)];generalize jX s.2.2.2.2.2.1=l at hl hlen eB;unfold W4;refine D8 l (λi (v:BSt)=>(mg,((v.2.2.2.length:Nat):Int),v.1,v.2.1,l,((l.length:Nat):Int),((i:Nat):Int),s,v.2.2.1,eL s mb mg)) (λi v=>v=iY (decide (mg < 0)) s.2.1.2.2.2.2 (nh s mb mg) (l.take i)) (λi v hi hv=>?_) (λv hv=>?_) (b0:=nh s mb mg) rfl (by omega)
 ·have hb:=pW (free:=decide (mg < 0)) (p:=s.2.1.2.2.2.2) hinit hl i (by omega);have hpre:=PE (free:=decide (mg < 0)) (p:=s.2.1.2.2.2.2) (v:=nh s mb mg) (l:=l) (i + 1);rw [mq hi] at hpre;rw [<-hv] at hb hpre;rw [<-eB] at hpre;have he:=hl _ (a29 hi);have heg:=he.gas;have her:=he.2.1;obtain⟨b1,b2,b3,b4,b5⟩:=hb;unfold okU at b2 heg;have nxt:∀ {v':BSt},lD (decide (mg < 0)) s.2.1.2.2.2.2 v l[i]=v'->Ok (some (Sum.inl (mg,((v'.2.2.2.length:Nat):Int),v'.1,v'.2.1,l,((l.length:Nat):Int),A9 ((i:Int) + 1),s,v'.2.2.1,eL s mb mg)):Option ((Int × Int × Int × Int × List ED × Int × Int × StD × o8 × List (List UInt8)) ⊕ Bool)) (Nxt (· =true) λz=>∃ b':BSt,z=(mg,((b'.2.2.2.length:Nat):Int),b'.1,b'.2.1,l,((l.length:Nat):Int),(((i + 1:Nat):Nat):Int),s,b'.2.2.1,eL s mb mg)/\b'=iY (decide (mg < 0)) s.2.1.2.2.2.2 (nh s mb mg) (l.take (i + 1))):=fun {v'} e=>by
   rw [A4,B5,D2 (by omega)];exact⟨v',rfl,by rw [mq hi,<-hv,e]⟩
  have skip:nt (decide (mg < 0)) s.2.1.2.2.2.2 v l[i]=false->lD (decide (mg < 0)) s.2.1.2.2.2.2 v l[i]=v:=λe=>by unfold lD;rw [e];rfl
  have c3:∀ {y1 y2 y5:Int} {y3 y4 y6 y7:Bool},lF (decide (mg < 0)) v.1 v.2.1 l[i]=true->(T7 v.2.2.1 s.2.1.2.2.2.2 l[i].2.1).2.1=0->Ok (K3 mg ((v.2.2.2.length:Nat):Int) v.1 v.2.1 (fsz l[i].2.1.length:Int) l ((l.length:Nat):Int) (i:Int) y2 y3 y4 y6 y5 y7 s v.2.2.1 l[i] (T7 v.2.2.1 s.2.1.2.2.2.2 l[i].2.1).1 (T7 v.2.2.1 s.2.1.2.2.2.2 l[i].2.1).2 (eL s mb mg)) (Nxt (· =true) λz=>∃ b':BSt,z=(mg,((b'.2.2.2.length:Nat):Int),b'.1,b'.2.1,l,((l.length:Nat):Int),(((i + 1:Nat):Nat):Int),s,b'.2.2.1,eL s mb mg)/\b'=iY (decide (mg < 0)) s.2.1.2.2.2.2 (nh s mb mg) (l.take (i + 1))):=fun {y1} {y2} {y5} {y3} {y4} {y6} {y7} hf hz=>by
   have hf':=hf;unfold lF at hf';simp only [a24,a3Y,a2W] at hf';have ht:nt (decide (mg < 0)) s.2.1.2.2.2.2 v l[i]=true:=by
    unfold nt;rw [hf,a2S hz];rfl
   have ec:lD (decide (mg < 0)) s.2.1.2.2.2.2 v l[i]=qG (decide (mg < 0)) s.2.1.2.2.2.2 v l[i]:=by unfold lD;rw [a28 ht]
   rw [ec] at hpre;obtain⟨t,et⟩:=hpre;have et:(v.2.2.2 ++ [l[i].2.1]) ++ t=eL s mb mg:=et;have hlt:v.2.2.2.length < (eL s mb mg).length:=by rw [<-et];simp only [a2V,a3f];omega
   have hat:(eL s mb mg)[v.2.2.2.length]=l[i].2.1:=by
    simp only [<-et];rw [List.getElem_append_left (by simp),List.getElem_append_right (a3j _)];simp
   have wn:A9 (((v.2.2.2.length:Nat):Int) + 1)=(((v.2.2.2.length + 1:Nat):Nat):Int):=by rw [C8 (by omega) (by omega)];omega
   unfold K3;rw [a2Y (by omega),E3,a2S (by omega:(0:Int)<=((v.2.2.2.length:Nat):Int)/\((v.2.2.2.length:Nat):Int) < (((eL s mb mg).length:Nat):Int)),C4,a2T,a2S hlt,C4,E0 hlt,hat];unfold G6;rw [a2X,a2S rfl,a3m,E3,wn,C8 (by omega) (by omega),A7];refine⟨λhm=>?_,λhm=>?_⟩
   ·have hm:=a23 hm;rw [J4 (by omega) (by omega)];have en:qG (decide (mg < 0)) s.2.1.2.2.2.2 v l[i]=(v.1 - fsz l[i].2.1.length,v.2.1 - l[i].2.2.2.2.1,(T7 v.2.2.1 s.2.1.2.2.2.2 l[i].2.1).1,v.2.2.2 ++ [l[i].2.1]):=by
     unfold qG;rw [a2Y (by omega:¬ mg < 0)];rfl
    have:=nxt (ec.trans en);rw [a2V,a3f] at this;exact this
   ·have hm:=a3k hm;have en:qG (decide (mg < 0)) s.2.1.2.2.2.2 v l[i]=(v.1 - fsz l[i].2.1.length,v.2.1,(T7 v.2.2.1 s.2.1.2.2.2.2 l[i].2.1).1,v.2.2.2 ++ [l[i].2.1]):=by
     unfold qG;rw [a2S (by omega:mg < 0)];rfl
    have:=nxt (ec.trans en);rw [a2V,a3f] at this;exact this
  unfold O2;dsimp only;rw [a2S (by omega:(i:Int) < ((l.length:Nat):Int)),E8,a2S (by omega:(0:Int)<=(i:Int)/\(i:Int) < ((l.length:Nat):Int)),C4,a2T,E0 hi,iX (by omega),a2X,wC b3.b h.2.1.2.2.2.2 (by omega),a2X,A7];refine⟨λhs=>?_,λhs=>?_⟩
  ·have hs:=a23 hs;refine nxt (skip ?_);unfold nt lF;rw [a2Y (by omega)];rfl
  have hs:=a3k hs;have bad:lF (decide (mg < 0)) v.1 v.2.1 l[i]=true->(!decide ((T7 v.2.2.1 s.2.1.2.2.2.2 l[i].2.1).2.1=0))=true->nt (decide (mg < 0)) s.2.1.2.2.2.2 v l[i]=false:=λhf hc=>by
   unfold nt;rw [hf,a5e];simpa using hc
  rw [A7];refine⟨λhm=>?_,λhm=>?_⟩
  ·have hm:=a23 hm;rw [A7];refine⟨λhg=>?_,λhg=>?_⟩
   ·have hg:=a23 hg;refine nxt (skip ?_);unfold nt lF;rw [a2Y (by omega:¬ mg < 0),a2Y (by omega:¬ l[i].2.2.2.2.1<=v.2.1),a5g,Bool.and_false];rfl
   ·have hg:=a3k hg;have hf:lF (decide (mg < 0)) v.1 v.2.1 l[i]=true:=by
     unfold lF;rw [a2S (by omega),a2S (by omega:l[i].2.2.2.2.1<=v.2.1),Bool.or_true];rfl
    rw [A7];exact⟨λhc=>nxt (skip (bad hf hc)),λhc=>c3 (y1:=0) hf (by simpa using hc)⟩
  ·have hm:=a3k hm;have hf:lF (decide (mg < 0)) v.1 v.2.1 l[i]=true:=by
    unfold lF;rw [a2S (by omega),a2S (by omega:mg < 0),Bool.true_or];rfl
   rw [A7];exact⟨λhc=>nxt (skip (bad hf hc)),λhc=>c3 (y1:=0) hf (by simpa using hc)⟩
 ·unfold O2;dsimp only;rw [a2Y (by omega),E3,C9];rw [a3i] at hv;rw [eB,<-hv];exact Ll
theorem GZ (x0:List Int) (_:wfU (.sl (.int .i64)) x0) (z0:szU (.sl (.int .i64)) x0):S7 x0=some true:=by
 refine J3.1 ?_;unfold S7;rw [sf (yV z0),a2X,A7];refine⟨λ_=>nu,λ_=>?_⟩;rw [A5];refine(yZ x0).mono λr hr=>?_;obtain⟨s,mb,mg,q⟩:=r;obtain⟨⟨md,h⟩,h2,h3,h4⟩:=hr;dsimp only at h h2 h3 h4 ⊢;have hE:=h.2.2.1.1;rw [sJ h (by omega) (by omega) (by omega),a2X,wx (by omega),a2X];exact Lm h (by omega) h2.1 h2.2 h3.1 h3.2
def Ln (s:StD) (mb mg:Int) (e:ED):Bool:=nt (decide (mg < 0)) s.2.1.2.2.2.2 (nh s mb mg) e
theorem WA {n:Nat} {s:StD} (h:StV md n s) (hn:n<=500) {mb mg:Int} (m1:0<=mb) (m2:mb < 500) (m3: -1<=mg) (m4:mg < 1800) {v:Bool} (hv:v=s.2.2.2.2.2.1.any (Ln s mb mg)):Ok (S8 mb mg v s) (· =true):=by
 have e:decide (0 < (((eL s mb mg).length:Nat):Int))=v:=by
  rw [hv];unfold eL;rw [a25 (by omega)];cases ha:s.2.2.2.2.2.1.any (Ln s mb mg) with
  | true=>
   obtain⟨e,he,ht⟩:=List.any_eq_true.1 ha;have:=AN (free:=decide (mg < 0)) (p:=s.2.1.2.2.2.2) (l:=jX s.2.2.2.2.2.1) (v:=nh s mb mg) ⟨e,lA.2 he,ht⟩;rw [a2S (by omega)]
  | false=>
   rw [AM λe he=>a5b _ |>.mp (List.any_eq_false.1 ha e (lA.1 he))];rfl
 unfold S8;rw [sJ h hn (by omega) (by omega),a2X,e];have eb:Xw v v=true:=by cases v <;> rfl
 rw [eb,E8];exact nu
theorem WB {n:Nat} {s:StD} (h:StV md n s) (hn:n<=500) {mb mg:Int} (m1:0<=mb) (m2:mb < 500) (m3: -1<=mg) (m4:mg < 1800):Ok (am mb mg false s.2.2.2.2.2.1 ((s.2.2.2.2.2.1.length:Nat):Int) 0 s) (· =true):=by
 have hlen:=h.2.2.1.1;have hent:=h.2.2.1.2.1;have hend:= @WA md n s h hn mb mg m1 m2 m3 m4;obtain⟨l,el⟩:∃ l,l=s.2.2.2.2.2.1:=⟨_,rfl⟩;rw [<-el] at hlen hent hend ⊢;unfold am;refine D8 l (λi (v:Bool)=>(mb,mg,v,l,((l.length:Nat):Int),((i:Nat):Int),s)) (λi v=>v=(l.take i).any (Ln s mb mg)) (λi v hi hv=>?_) (λv hv=>?_) (b0:=false) (by simp) (by omega)
 ·have he:=hent _ (a29 hi);have heg:=he.gas;have her:=he.2.1;have nxt:∀ {b:Bool},b=(v || Ln s mb mg l[i])->Ok (some (Sum.inl (mb,mg,b,l,((l.length:Nat):Int),A9 ((i:Int) + 1),s)):Option ((Int × Int × Bool × List ED × Int × Int × StD) ⊕ Bool)) (Nxt (· =true) λz=>∃ b':Bool,z=(mb,mg,b',l,((l.length:Nat):Int),(((i + 1:Nat):Nat):Int),s)/\b'=(l.take (i + 1)).any (Ln s mb mg)):=fun {b} e=>by
   rw [A4,B5,D2 (by omega)];refine⟨b,rfl,?_⟩;rw [e,hv,I2 hi,List.any_append,List.any_cons,List.any_nil,a5g]
  unfold S9;dsimp only;rw [a2S (by omega:(i:Int) < ((l.length:Nat):Int)),E8,a2S (by omega:(0:Int)<=(i:Int)/\(i:Int) < ((l.length:Nat):Int)),C4,a2T,E0 hi,wC h.2.1.1.b h.2.1.2.2.2.2 (by omega),a2X,A7];refine⟨λhb=>nxt (by rw [hb];rfl),λhb=>?_⟩;rw [hb] at nxt;have ef:Ln s mb mg l[i]=(decide ((fsz l[i].2.1.length:Int)<=mb) && (decide (mg < 0) || decide (l[i].2.2.2.2.1<=max mg 0)) && decide ((T7 s.2.1.1 s.2.1.2.2.2.2 l[i].2.1).2.1=0)):=rfl;rw [A7];refine⟨λhc=>?_,λhc=>nxt (by rw [ef,hc];simp)⟩;rw [iX (by omega),a2X,A7];refine⟨λhz=>?_,λhz=>nxt (by rw [ef,hz];simp)⟩;rw [A7];refine⟨λhm=>nxt (by rw [ef,hc,hz,hm];rfl),λhm=>?_⟩;have hm':=a3k hm;rw [J4 (by omega) (by omega)];refine nxt ?_;rw [ef,hc,hz,hm,show max mg 0=mg by omega];simp
 ·unfold S9;dsimp only;rw [a2Y (by omega),E3,C9];rw [a3i] at hv;exact hend hv
theorem Ti (x0:List Int) (_:wfU (.sl (.int .i64)) x0) (z0:szU (.sl (.int .i64)) x0):X7 x0=some true:=by
 refine J3.1 ?_;unfold X7;rw [sf (yV z0),a2X,A7];refine⟨λ_=>nu,λ_=>?_⟩;rw [A5];refine(yZ x0).mono λr hr=>?_;obtain⟨s,mb,mg,q⟩:=r;obtain⟨⟨md,h⟩,h2,h3,h4⟩:=hr;dsimp only at h h2 h3 h4 ⊢;exact WB h (by omega) h2.1 h2.2 h3.1 h3.2
end Go.Proofs.YtjbgdpjgfjnkbaaGreatDoor.Am
