/- Texts laid together: PMemo2, PMakeD, PValid. No conditions. -/
import Derived.Test.YtjbgdpjgfjnkbaaGreatDoorQAN
import Derived.Test.YtjbgdpjgfjnkbaaGreatDoorQAJ
namespace Go.Proofs.YtjbgdpjgfjnkbaaGreatDoor.Am
open Go
theorem vu (s:List UInt8) (p:Nat):(UInt8.toNat (List.getD s p (0:UInt8)):Nat)=byt s p:=rfl
theorem sb {s:List UInt8} {p j:Nat} (hl:s.length<=1000000000000000) (hp:p < s.length) (hj:j<=3):J9 s (A9 (((p:Nat):Int) + ((j:Nat):Int)))=some (decide (fol (s.length - p) j (byt s (p + j)))):=by
 rw [<-J3];have hw:A9 (((p:Nat):Int) + ((j:Nat):Int))=((p + j:Nat):Int):=by rw [C8] <;> omega
 simp only [J9,hw,A7,D4,A4,a2W,a2U,a2T,vu];refine⟨λh=>⟨by omega,λh1=>⟨by omega,?_⟩,λh1=>?_⟩,λh=>?_⟩
 ·rw [decide_eq_decide];omega
 ·symm;rw [a2U];omega
 ·symm;rw [a2U];omega
theorem Zn {s:List UInt8} {p:Nat} (hl:s.length<=1000000000000000) (x:UInt8) (b:Bool) (hb:b=true->p + 1 < s.length) :
  I8 s ((p:Nat):Int) x b=some ((if b=true then(if(x.toNat=240/\byt s (p + 1) < 144)\/(x.toNat=244/\144<=byt s (p + 1)) then 0 else 4) else 0:Nat):Int):=by
 rw [<-J3];have hw:p + 1 < s.length->A9 (((p:Nat):Int) + 1)=((p + 1:Nat):Int):=λh=>by rw [C8] <;> omega
 cases b with
 | false=>simp only [I8,A7,D4,A4,a2W,a2U];exact⟨λh=>(by cases h),λ_=>rfl⟩
 | true=>
  have h1:=hb rfl;simp only [I8,hw h1,A7,D4,A4,a2W,a2U,a2T,vu]
  repeat' first | apply And.intro | intro _
  all_goals first | (exfalso;omega) | omega | (rw [a28 trivial,a28 (by omega)];rfl) | (rw [a28 trivial,a25 (by omega)];rfl) | (exfalso;rename_i h;cases h)
theorem Zo {s:List UInt8} {p:Nat} (hl:s.length<=1000000000000000) (hp:p < s.length) (x:UInt8) (b:Bool) (hb:b=true->p + 1 < s.length) :
  K8 s ((p:Nat):Int) x b=some ((if b=true then(if(x.toNat=224/\byt s (p + 1) < 160)\/(x.toNat=237/\160<=byt s (p + 1)) then 0 else 3) else
   if(240<=x.toNat/\x.toNat < 245)/\fol (s.length - p) 1 (byt s (p + 1))/\fol (s.length - p) 2 (byt s (p + 2))/\fol (s.length - p) 3 (byt s (p + 3)) then(if(x.toNat=240/\byt s (p + 1) < 144)\/(x.toNat=244/\144<=byt s (p + 1)) then 0 else 4) else 0:Nat):Int):=by
 rw [<-J3];have f1:=sb (j:=1) hl hp (by omega);have f2:=sb (j:=2) hl hp (by omega);have f3:=sb (j:=3) hl hp (by omega);rw [show((1:Nat):Int)=1 from rfl] at f1;rw [show((2:Nat):Int)=2 from rfl] at f2;rw [show((3:Nat):Int)=3 from rfl] at f3;cases b with
 | false=>
  have r0:=Zn (p:=p) hl x false (λh=>by cases h);simp only [K8,f1,f2,f3,r0,A7,D4,A5,A4,a2W,a2U,a4V,a3y];refine⟨λh=>(by cases h),λ_=>⟨λh1=>⟨λh2=>⟨λh3=>⟨λh4=>?_,λh4=>?_⟩,λh3=>?_⟩,λh2=>?_⟩,λh1=>?_⟩⟩
  ·rw [Zn hl x _ (λ_=>by omega),A4];simp only [a2W];congr 1;by_cases h5:fol (s.length - p) 3 (byt s (p + 3))
   ·have e:(240<=x.toNat/\x.toNat < 245)/\fol (s.length - p) 1 (byt s (p + 1))/\fol (s.length - p) 2 (byt s (p + 2))/\fol (s.length - p) 3 (byt s (p + 3)):=⟨by omega,h3,h4,h5⟩;rw [a28 h5,a28 e]
   ·have e:¬ ((240<=x.toNat/\x.toNat < 245)/\fol (s.length - p) 1 (byt s (p + 1))/\fol (s.length - p) 2 (byt s (p + 2))/\fol (s.length - p) 3 (byt s (p + 3))):=λh=>h5 h.2.2.2;rw [a25 h5,a25 e]
  ·rw [a25 (λh=>h4 h.2.2.1)]
  ·rw [a25 (λh=>h3 h.2.1)]
  ·rw [a25 (λh=>by omega)]
  ·rw [a25 (λh=>by omega)]
 | true=>
  have h1:=hb rfl;have hw:A9 (((p:Nat):Int) + 1)=((p + 1:Nat):Int):=by rw [C8] <;> omega
  simp only [K8,hw,A7,D4,A5,A4,a2W,a2U,a2T,vu];refine⟨λ_=>?_,λh=>by cases h⟩
  repeat' first | apply And.intro | intro _
  all_goals first | (exfalso;omega) | omega | (rw [a28 trivial,a28 (by omega)];rfl) | (rw [a28 trivial,a25 (by omega)];rfl) | (exfalso;rename_i h;cases h)
theorem VX {s:List UInt8} {p:Nat} (hl:s.length<=1000000000000000) (hp:p < s.length):gd s ((p:Nat):Int)=some ((pc s p:Nat):Int):=by
 rw [<-J3,vX];have f1:=sb (j:=1) hl hp (by omega);have f2:=sb (j:=2) hl hp (by omega);rw [show((1:Nat):Int)=1 from rfl] at f1;rw [show((2:Nat):Int)=2 from rfl] at f2;have hx:(List.getD s p (0:UInt8)).toNat=byt s p:=rfl;have c1:∀ b,(b=true->fol (s.length - p) 1 (byt s (p + 1))/\194<=byt s p/\byt s p < 224)->(b=false->¬ ((194<=byt s p/\byt s p < 224)/\fol (s.length - p) 1 (byt s (p + 1))))->128<=byt s p->
   Ok (N5 s ((p:Nat):Int) (List.getD s p 0) b) (· =((yN (s.length - p) (byt s p) (byt s (p + 1)) (byt s (p + 2)) (byt s (p + 3)):Nat):Int)):=by
  intro b hb1 hb2 h128;unfold yN;rw [a25 (by omega)];cases b with
  | true=>
   have:=hb1 rfl;simp only [N5,A7,A5,A4,a2W,a2U];exact⟨λ_=>by rw [a28 ⟨this.2,this.1⟩];rfl,λh=>(by cases h)⟩
  | false=>
   have:=hb2 rfl;rw [a25 this];have q0:=Zo hl hp (List.getD s p 0) false (λh=>by cases h);simp only [N5,f1,f2,q0,A7,A5,A4,a2W,a2U,hx,a4V,a3y];refine⟨λh=>(by cases h),λ_=>⟨λh1=>⟨λh2=>⟨λh3=>?_,λh3=>?_⟩,λh2=>?_⟩,λh1=>?_⟩⟩
   ·rw [Zo hl hp _ _ (λ_=>by omega),A4,hx];simp only [a2W];congr 1;by_cases h5:fol (s.length - p) 2 (byt s (p + 2))
    ·have e:(224<=byt s p/\byt s p < 240)/\fol (s.length - p) 1 (byt s (p + 1))/\fol (s.length - p) 2 (byt s (p + 2)):=⟨by omega,h3,h5⟩;rw [a28 h5,a28 e]
    ·have e:¬ ((224<=byt s p/\byt s p < 240)/\fol (s.length - p) 1 (byt s (p + 1))/\fol (s.length - p) 2 (byt s (p + 2))):=λh=>h5 h.2.2;rw [a25 h5,a25 e]
   ·have e:¬ ((224<=byt s p/\byt s p < 240)/\fol (s.length - p) 1 (byt s (p + 1))/\fol (s.length - p) 2 (byt s (p + 2))):=λh=>h3 h.2.1;rw [a25 e]
   ·have e:¬ ((224<=byt s p/\byt s p < 240)/\fol (s.length - p) 1 (byt s (p + 1))/\fol (s.length - p) 2 (byt s (p + 2))):=λh=>by omega
    rw [a25 e]
   ·have e:¬ ((224<=byt s p/\byt s p < 240)/\fol (s.length - p) 1 (byt s (p + 1))/\fol (s.length - p) 2 (byt s (p + 2))):=λh=>by omega
    rw [a25 e]
 simp only [gd,f1,A7,D4,A5,A4,a2W,a2U,a2T,hx];refine⟨by omega,λh1=>?_,λh1=>⟨λh2=>⟨λh3=>?_,λh3=>?_⟩,λh2=>?_⟩⟩
 ·unfold yN;rw [a28 (by omega)];rfl
 ·refine c1 _ (λh=>?_) (λh=>?_) (by omega)
  ·exact⟨a23 h,by omega,by omega⟩
  ·exact λh'=>a3k h h'.2
 ·exact c1 _ (λh=>by cases h) (λ_ h'=>by omega) (by omega)
 ·exact c1 _ (λh=>by cases h) (λ_ h'=>by omega) (by omega)
theorem IR (s:List UInt8) (p:Nat):(IQ s p).2 ≠ 0:=by
 unfold IQ Lib.decodeN
 repeat' split
 all_goals simp
theorem IS {s:List UInt8} {p:Nat} (h:p < s.length):p + pc s p<=s.length:=by
 rw [vX];unfold yN
 repeat' split
 all_goals omega
def uv (s:List UInt8):Nat->Nat->Nat->Bool
 | 0,_,_=>false
 | f + 1,p,k=>if p < s.length then(if pc s p=0 then false else uv s f (p + pc s p) (k + 1)) else decide (k<=64)
def tF (s:List UInt8):Bool:=uv s (s.length + 1) 0 0
theorem Ay {s:List UInt8} {f p k:Nat} (h:p < s.length) (hf:s.length < p + f):∃ f',f=f' + 1/\(pc s p=0->uv s f p k=false)/\(pc s p ≠ 0->uv s f p k=uv s f' (p + pc s p) (k + 1)/\s.length < p + pc s p + f'):=by
 cases f with
 | zero=>omega
 | succ f=>
  refine⟨f,rfl,λhw=>?_,λhw=>⟨?_,by omega⟩⟩
  ·simp [uv,h,hw]
  ·simp [uv,h,hw]
theorem VY (s:List UInt8) (k p:Int):oS s k [(s,p)] =
  sel (decide (Int.toNat p < List.length s)) (
   chk (decide (Int.toNat p < List.length s)) <|
   chk (decide (Int.toNat p < List.length s)) <|
   chk (decide ((0:Int)<=p/\p<=(((List.length s):Nat):Int)/\(((List.length s):Nat):Int)<=(((List.length s):Nat):Int))) <|
   (N7 (List.drop (Int.toNat p) (List.take (Int.toNat (((List.length s):Nat):Int)) s))).bind λr1=>
   sel (decide (MT s p=65533)) (
    sel (decide (r1.2=1)) (some (.inr false)) (some (.inl (s,A9 (k + 1),[(s,FI s p)])))) (
    some (.inl (s,A9 (k + 1),[(s,FI s p)])))) (
   some (.inr (decide (k<=64)))):=rfl
theorem VZ {s:List UInt8} (hl:s.length<=1000000000000000):ql s=some (tF s):=by
 rw [<-J3];unfold ql rC;refine eX (S:=List UInt8 × Int × List (List UInt8 × Int)) (inv:=λv=>∃ p k f:Nat,v=(s,((k:Nat):Int),[(s,((p:Nat):Int))])/\k<=p/\p<=s.length/\s.length < p + f/\uv s f p k=tF s) (m:=λv=>s.length + 4 - (List.headD v.2.2 ([],0)).2.toNat) ?_ ⟨0,0,s.length + 1,rfl,by omega,by omega,by omega,rfl⟩ (by simp;omega);rintro v ⟨p,k,f,rfl,hk,hp,hf,hr⟩;simp only [VY,A7,D4,A5,A4,B5,B8,a2W,a2U,a2T,a3i];refine⟨λh=>⟨h,h,by omega,?_⟩,λh=>?_⟩
 ·rw [N7,Co h,A4];have hrune:MT s ((p:Nat):Int)=(((IQ s p).1:Nat):Int):=by unfold MT;rw [a2T,uu]
  have hnext:FI s ((p:Nat):Int)=((p + (IQ s p).2:Nat):Int):=by
   unfold FI EL;rw [a2T,uu,a28 (show p < (⟨s.toArray⟩:ByteArray).size from h)]
  rw [hrune,hnext,D2 (i:=k) (by omega)];obtain⟨f',rfl,m1,m2⟩:=Ay (k:=k) h hf;have hw4:=Cp s p;have hwi:=IS h;have cont:pc s p ≠ 0->(∃ p_1 k_1 f_1:Nat,((s,((k + 1:Nat):Int),[(s,((p + (IQ s p).2:Nat):Int))]):List UInt8 × Int × List (List UInt8 × Int))=(s,((k_1:Nat):Int),[(s,((p_1:Nat):Int))])/\k_1<=p_1/\p_1<=s.length/\s.length < p_1 + f_1/\uv s f_1 p_1 k_1=tF s)/\
    s.length + 4 - (((p + (IQ s p).2:Nat):Int)).toNat < s.length + 4 - p:=by
   intro hw;have e:(IQ s p).2=pc s p:=by
    unfold pc at hw ⊢;split at hw
    ·exact absurd rfl hw
    ·rename_i hc;rw [a25 hc]
   obtain⟨a1,a2⟩:=m2 hw;rw [e];refine⟨⟨p + pc s p,k + 1,f',rfl,by omega,by omega,a2,a1.symm.trans hr⟩,?_⟩;rw [a2T];omega
  simp only;refine⟨λh1=>⟨λh2=>?_,λh2=>cont ?_⟩,λh1=>cont ?_⟩
  ·rw [<-hr,m1 (by unfold pc;rw [a28 ⟨by omega,by omega⟩])]
  ·unfold pc;rw [a25 (λhc=>h2 (by omega))];have:(IQ s p).2 ≠ 0:=IR s p;exact this
  ·unfold pc;rw [a25 (λhc=>h1 (by omega))];exact IR s p
 ·rw [<-hr];cases f with
  | zero=>omega
  | succ f=>unfold uv;rw [a25 h,decide_eq_decide];omega
theorem Sb {s:List UInt8} (hl:s.length<=1000000000000000):dR s=some (tF s):=by
 have key:Ok (fb s) λr=>(r.2 && decide (r.1<=64))=tF s:=by
  unfold fb kz;refine eX (S:=List UInt8 × Int × Int) (inv:=λv=>∃ p k f:Nat,v=(s,((k:Nat):Int),((p:Nat):Int))/\k<=p/\p<=s.length/\s.length < p + f/\uv s f p k=tF s) (m:=λv=>s.length + 4 - v.2.2.toNat) ?_ ⟨0,0,s.length + 1,rfl,by omega,by omega,by omega,rfl⟩ (by simp;omega);rintro v ⟨p,k,f,rfl,hk,hp,hf,hr⟩;simp only [ge,A7,A5,A4,B5,B8,a2W,a2U,a2T];refine⟨λh=>?_,λh=>?_⟩
  ·have h':p < s.length:=by omega
   obtain⟨f',rfl,m1,m2⟩:=Ay (k:=k) h' hf;have hw4:=Cp s p;have hwi:=IS h';rw [VX hl h',A4,D2 (i:=k) (by omega)];have e2:A9 (((p:Nat):Int) + ((pc s p:Nat):Int))=((p + pc s p:Nat):Int):=by rw [C8] <;> omega
   simp only [e2,a2T];refine⟨λh1=>?_,λh1=>?_⟩
   ·rw [<-hr,m1 (by omega)];rfl
   ·obtain⟨a1,a2⟩:=m2 (by omega);refine⟨⟨p + pc s p,k + 1,f',rfl,by omega,by omega,a2,a1.symm.trans hr⟩,by omega⟩
  ·rw [<-hr];cases f with
   | zero=>omega
   | succ f=>unfold uv;rw [a25 (by omega),a5e,decide_eq_decide];omega
 obtain⟨r,h1,h2⟩:=key;unfold dR;rw [h1,a2X,<-h2];cases r.2 <;> rfl
def ri (n:Int):Prop:=0<=n/\n < 18446744073709551616
def Ee (s:List UInt8):Prop:=ap s=true/\s.length<=20
def GA (a:o6):Prop:=Ee a.1/\ri a.2.1/\ri a.2.2
def KI (l:List o6):Prop:=l.length<=4/\∀ a ∈ l,GA a
def Sc (s:List UInt8):Prop:=tF s=true/\s.length<=60
def TrM (x:A0):Prop:=Ee x.1/\1<=x.2/\x.2 < 18446744073709551616
def TxM (t:C5):Prop:=Ee t.1/\ri t.2.1/\(150<=t.2.2.1/\t.2.2.1<=350)/\ri t.2.2.2.1/\Sc t.2.2.2.2.1/\(1<=t.2.2.2.2.2.length/\t.2.2.2.2.2.length<=3)/\∀ x ∈ t.2.2.2.2.2,TrM x
def oJ:List A0->Int
 | []=>0
 | x :: l=>if ap x.1=true then(if x.2=0 then 12 else oJ l) else 10
def kq (t:C5):Int:=
 if ap t.1=true then(if t.2.2.1=0 then 15 else if tF t.2.2.2.2.1=true then(if t.2.2.2.2.2.length=0 then 3 else if 16 < t.2.2.2.2.2.length then 3 else oJ t.2.2.2.2.2) else 11) else 10
def TxB (t:C5):Prop:=t.1.length<=200000000000000/\t.2.2.2.2.1.length<=200000000000000/\t.2.2.2.2.2.length<=200000000000000/\∀ x ∈ t.2.2.2.2.2,x.1.length<=200000000000000
theorem yO {α:Type} {G:(List A0 × Int × Int)->Option ((List A0 × Int × Int) ⊕ Int)} {l:List A0} (hl:l.length<=1000) (_:α)
  (step:∀ i (h:i < l.length),G (l,((l.length:Nat):Int),((i:Nat):Int))=some (if ap l[i].1=true then(if l[i].2=0 then .inr 12 else .inl (l,((l.length:Nat):Int),((i + 1:Nat):Int))) else .inr 10))
  (stop:G (l,((l.length:Nat):Int),((l.length:Nat):Int))=some (.inr 0)):F8 G (l,((l.length:Nat):Int),0)=some (oJ l):=by
 rw [<-J3];refine D8 l (λi (_:Unit)=>(l,((l.length:Nat):Int),((i:Nat):Int))) (λi _=>oJ (l.drop i)=oJ l) (λi _ hi hv=>?_) (λ_ hv=>?_) (b0:=()) rfl (by omega)
 ·rw [step i hi,A4];rw [a3M hi] at hv;by_cases h1:ap l[i].1=true
  ·by_cases h2:l[i].2=0
   ·rw [a28 h1,a28 h2,B8,<-hv];simp [oJ,h1,h2]
   ·rw [a28 h1,a25 h2,B5];refine⟨(),rfl,?_⟩;rw [<-hv];simp [oJ,h1,h2]
  ·rw [a25 h1,B8,<-hv];simp [oJ,h1]
 ·rw [stop,A4,B8,<-hv,a4g];rfl
theorem Sd {t:C5} (h:TxB t):nK t=some (kq t):=by
 obtain⟨h1,h2,h3,h4⟩:=h;have hT:t.2.2.2.2.2.length<=16->mj t.2.2.2.2.2 ((t.2.2.2.2.2.length:Nat):Int) 0=some (oJ t.2.2.2.2.2):=λh5=>by
  unfold mj;refine yO (by omega) () (λi hi=>?_) ?_
  ·rw [<-J3];have hn:=Gq (s:=(t.2.2.2.2.2[i]).1) (a3w (h4 _ (a29 hi)) (by omega));simp only [kc,A7,D4,A5,A4,a2W,a2U,a20,a2Z,a2T,E0 hi,hn,D2 (i:=i) (by omega)];refine⟨λ_=>⟨by omega,λe=>?_,λe=>⟨λe2=>?_,λe2=>?_⟩⟩,λh=>absurd h (by omega)⟩
   ·rw [a25 (by simp [e])]
   ·rw [a28 e,a28 e2]
   ·rw [a28 e,a25 e2]
  ·rw [<-J3];simp only [kc,A7,D4,A5,A4,a2W,a2U,a20,a2Z,a2T];exact⟨λh=>absurd h (by omega),λ_=>trivial⟩
 rw [<-J3];simp only [nK,Gq (a3w h1 (by omega:(200000000000000:Nat)<=1000000000000000)),VZ (a3w h2 (by omega:(200000000000000:Nat)<=1000000000000000)),A7,A5,A4,a2W,a2U,a20,a2Z];unfold kq;refine⟨λe=>by rw [a25 (by simp [e])],λe=>⟨λe1=>by rw [a28 e,a28 e1],λe1=>⟨λe2=>by rw [a28 e,a25 e1,a25 (by simp [e2])],λe2=>⟨λe3=>by rw [a28 e,a25 e1,a28 e2,a28 (by omega)],λe3=>⟨λe4=>by rw [a28 e,a25 e1,a28 e2,a25 (by omega),a28 (by omega)],λe4=>?_⟩⟩⟩⟩⟩;rw [hT (by omega),A4,a28 e,a25 e1,a28 e2,a25 (by omega),a25 (by omega)]
theorem Ef {t:C5} (h:TxB t):T5 t=some (kq t):=by
 obtain⟨h1,h2,h3,h4⟩:=h;have hT:t.2.2.2.2.2.length<=16->bz t.2.2.2.2.2 ((t.2.2.2.2.2.length:Nat):Int) 0=some (oJ t.2.2.2.2.2):=λh5=>by
  unfold bz;refine yO (by omega) () (λi hi=>?_) ?_
  ·rw [<-J3];have hn:=xi (s:=(t.2.2.2.2.2[i]).1) (a3w (h4 _ (a29 hi)) (by omega));simp only [W3,A7,D4,A5,A4,a2W,a2U,a20,a2Z,a2T,E0 hi,hn,D2 (i:=i) (by omega)];refine⟨λ_=>⟨by omega,λe=>?_,λe=>⟨λe2=>?_,λe2=>?_⟩⟩,λh=>absurd h (by omega)⟩
   ·rw [a25 (by simp [e])]
   ·rw [a28 e,a28 e2]
   ·rw [a28 e,a25 e2]
  ·rw [<-J3];simp only [W3,A7,D4,A5,A4,a2W,a2U,a20,a2Z,a2T];exact⟨λh=>absurd h (by omega),λ_=>trivial⟩
 rw [<-J3];simp only [T5,xi (a3w h1 (by omega:(200000000000000:Nat)<=1000000000000000)),Sb (a3w h2 (by omega:(200000000000000:Nat)<=1000000000000000)),A7,A5,A4,a2W,a2U,a20,a2Z];unfold kq;refine⟨λe=>by rw [a25 (by simp [e])],λe=>⟨λe1=>by rw [a28 e,a28 e1],λe1=>⟨λe2=>by rw [a28 e,a25 e1,a25 (by simp [e2])],λe2=>⟨λe3=>by rw [a28 e,a25 e1,a28 e2,a28 (by omega)],λe3=>⟨λe4=>by rw [a28 e,a25 e1,a28 e2,a25 (by omega),a28 (by omega)],λe4=>?_⟩⟩⟩⟩⟩;rw [hT (by omega),A4,a28 e,a25 e1,a28 e2,a25 (by omega),a25 (by omega)]
theorem TxM.b {t:C5} (h:TxM t):TxB t:=by
 obtain⟨h1,h2,h3,h4,h5,h6,h7⟩:=h;exact⟨by have:=h1.2;omega,by have:=h5.2;omega,by omega,λx hx=>by have:=(h7 x hx).1.2;omega⟩
end Go.Proofs.YtjbgdpjgfjnkbaaGreatDoor.Am
