/- Texts laid together: PMemo2, PMakeD, PValid. No conditions. -/
import Derived.Test.YtbipjlehhlkghaaDoorQAJ
import Derived.Test.YtbipjlehhlkghaaDoorQAG
import Derived.Test.YtbipjlehhlkghaaDoorQAB
namespace Go.Proofs.YtbipjlehhlkghaaDoor.Am
open Go
theorem a66 (s:List UInt8) (p:Nat):(UInt8.toNat (List.getD s p (0:UInt8)):Nat)=byt s p:=rfl
theorem a4U {s:List UInt8} {p j:Nat} (hl:s.length<=1000000000000000) (hp:p < s.length) (hj:j<=3):D1 s (B0 (((p:Nat):Int) + ((j:Nat):Int)))=some (decide (fol (s.length - p) j (byt s (p + j)))):=by
 rw [<-M9]
 have hw:B0 (((p:Nat):Int) + ((j:Nat):Int))=((p + j:Nat):Int):=by rw [D9] <;> omega
 simp only [D1,hw,B7,C6,A0,decide_eq_true_eq,decide_eq_false_iff_not,Int.toNat_natCast,a66]
 refine⟨fun h=>⟨by omega,fun h1=>⟨by omega,?_⟩,fun h1=>?_⟩,fun h=>?_⟩
 ·rw [decide_eq_decide];omega
 ·symm;rw [decide_eq_false_iff_not];omega
 ·symm;rw [decide_eq_false_iff_not];omega
theorem c5h {s:List UInt8} {p:Nat} (hl:s.length<=1000000000000000) (x:UInt8) (b:Bool) (hb:b=true->p + 1 < s.length) :
  C7 s ((p:Nat):Int) x b=some ((if b=true then(if(x.toNat=240/\byt s (p + 1) < 144)\/(x.toNat=244/\144<=byt s (p + 1)) then 0 else 4) else 0:Nat):Int):=by
 rw [<-M9]
 have hw:p + 1 < s.length->B0 (((p:Nat):Int) + 1)=((p + 1:Nat):Int):=fun h=>by rw [D9] <;> omega
 cases b with
 | false=>simp only [C7,B7,C6,A0,decide_eq_true_eq,decide_eq_false_iff_not];exact⟨fun h=>(by cases h),fun _=>rfl⟩
 | true=>
  have h1:=hb rfl
  simp only [C7,hw h1,B7,C6,A0,decide_eq_true_eq,decide_eq_false_iff_not,Int.toNat_natCast,a66]
  repeat' first | apply And.intro | intro _
  all_goals first | (exfalso;omega) | omega | (rw [if_pos trivial,if_pos (by omega)];rfl) | (rw [if_pos trivial,if_neg (by omega)];rfl) | (exfalso;rename_i h;cases h)
theorem c5i {s:List UInt8} {p:Nat} (hl:s.length<=1000000000000000) (hp:p < s.length) (x:UInt8) (b:Bool) (hb:b=true->p + 1 < s.length) :
  D5 s ((p:Nat):Int) x b=some ((if b=true then(if(x.toNat=224/\byt s (p + 1) < 160)\/(x.toNat=237/\160<=byt s (p + 1)) then 0 else 3) else
   if(240<=x.toNat/\x.toNat < 245)/\fol (s.length - p) 1 (byt s (p + 1))/\fol (s.length - p) 2 (byt s (p + 2))/\fol (s.length - p) 3 (byt s (p + 3)) then(if(x.toNat=240/\byt s (p + 1) < 144)\/(x.toNat=244/\144<=byt s (p + 1)) then 0 else 4) else 0:Nat):Int):=by
 rw [<-M9]
 have f1:=a4U (j:=1) hl hp (by omega)
 have f2:=a4U (j:=2) hl hp (by omega)
 have f3:=a4U (j:=3) hl hp (by omega)
 rw [show((1:Nat):Int)=1 from rfl] at f1
 rw [show((2:Nat):Int)=2 from rfl] at f2
 rw [show((3:Nat):Int)=3 from rfl] at f3
 cases b with
 | false=>
  have r0:=c5h (p:=p) hl x false (fun h=>by cases h)
  simp only [D5,f1,f2,f3,r0,B7,C6,B6,A0,decide_eq_true_eq,decide_eq_false_iff_not,Bool.false_eq_true,if_false]
  refine⟨fun h=>(by cases h),fun _=>⟨fun h1=>⟨fun h2=>⟨fun h3=>⟨fun h4=>?_,fun h4=>?_⟩,fun h3=>?_⟩,fun h2=>?_⟩,fun h1=>?_⟩⟩
  ·rw [c5h hl x _ (fun _=>by omega),A0]
   simp only [decide_eq_true_eq]
   congr 1
   by_cases h5:fol (s.length - p) 3 (byt s (p + 3))
   ·have e:(240<=x.toNat/\x.toNat < 245)/\fol (s.length - p) 1 (byt s (p + 1))/\fol (s.length - p) 2 (byt s (p + 2))/\fol (s.length - p) 3 (byt s (p + 3)):=⟨by omega,h3,h4,h5⟩
    rw [if_pos h5,if_pos e]
   ·have e:¬ ((240<=x.toNat/\x.toNat < 245)/\fol (s.length - p) 1 (byt s (p + 1))/\fol (s.length - p) 2 (byt s (p + 2))/\fol (s.length - p) 3 (byt s (p + 3))):=fun h=>h5 h.2.2.2
    rw [if_neg h5,if_neg e]
  ·rw [if_neg (fun h=>h4 h.2.2.1)]
  ·rw [if_neg (fun h=>h3 h.2.1)]
  ·rw [if_neg (fun h=>by omega)]
  ·rw [if_neg (fun h=>by omega)]
 | true=>
  have h1:=hb rfl
  have hw:B0 (((p:Nat):Int) + 1)=((p + 1:Nat):Int):=by rw [D9] <;> omega
  simp only [D5,hw,B7,C6,B6,A0,decide_eq_true_eq,decide_eq_false_iff_not,Int.toNat_natCast,a66]
  refine⟨fun _=>?_,fun h=>by cases h⟩
  repeat' first | apply And.intro | intro _
  all_goals first | (exfalso;omega) | omega | (rw [if_pos trivial,if_pos (by omega)];rfl) | (rw [if_pos trivial,if_neg (by omega)];rfl) | (exfalso;rename_i h;cases h)
theorem c3D {s:List UInt8} {p:Nat} (hl:s.length<=1000000000000000) (hp:p < s.length):U3 s ((p:Nat):Int)=some ((a3d s p:Nat):Int):=by
 rw [<-M9,a7v]
 have f1:=a4U (j:=1) hl hp (by omega)
 have f2:=a4U (j:=2) hl hp (by omega)
 rw [show((1:Nat):Int)=1 from rfl] at f1
 rw [show((2:Nat):Int)=2 from rfl] at f2
 have hx:(List.getD s p (0:UInt8)).toNat=byt s p:=rfl
 have c1:∀ b,(b=true->fol (s.length - p) 1 (byt s (p + 1))/\194<=byt s p/\byt s p < 224)->(b=false->¬ ((194<=byt s p/\byt s p < 224)/\fol (s.length - p) 1 (byt s (p + 1))))->128<=byt s p->
   Ok (E3 s ((p:Nat):Int) (List.getD s p 0) b) (· =((a9y (s.length - p) (byt s p) (byt s (p + 1)) (byt s (p + 2)) (byt s (p + 3)):Nat):Int)):=by
  intro b hb1 hb2 h128
  unfold a9y
  rw [if_neg (by omega)]
  cases b with
  | true=>
   have:=hb1 rfl
   simp only [E3,B7,B6,A0,decide_eq_true_eq,decide_eq_false_iff_not]
   exact⟨fun _=>by rw [if_pos ⟨this.2,this.1⟩];rfl,fun h=>(by cases h)⟩
  | false=>
   have:=hb2 rfl
   rw [if_neg this]
   have q0:=c5i hl hp (List.getD s p 0) false (fun h=>by cases h)
   simp only [E3,f1,f2,q0,B7,B6,A0,decide_eq_true_eq,decide_eq_false_iff_not,hx,Bool.false_eq_true,if_false]
   refine⟨fun h=>(by cases h),fun _=>⟨fun h1=>⟨fun h2=>⟨fun h3=>?_,fun h3=>?_⟩,fun h2=>?_⟩,fun h1=>?_⟩⟩
   ·rw [c5i hl hp _ _ (fun _=>by omega),A0,hx]
    simp only [decide_eq_true_eq]
    congr 1
    by_cases h5:fol (s.length - p) 2 (byt s (p + 2))
    ·have e:(224<=byt s p/\byt s p < 240)/\fol (s.length - p) 1 (byt s (p + 1))/\fol (s.length - p) 2 (byt s (p + 2)):=⟨by omega,h3,h5⟩
     rw [if_pos h5,if_pos e]
    ·have e:¬ ((224<=byt s p/\byt s p < 240)/\fol (s.length - p) 1 (byt s (p + 1))/\fol (s.length - p) 2 (byt s (p + 2))):=fun h=>h5 h.2.2
     rw [if_neg h5,if_neg e]
   ·have e:¬ ((224<=byt s p/\byt s p < 240)/\fol (s.length - p) 1 (byt s (p + 1))/\fol (s.length - p) 2 (byt s (p + 2))):=fun h=>h3 h.2.1
    rw [if_neg e]
   ·have e:¬ ((224<=byt s p/\byt s p < 240)/\fol (s.length - p) 1 (byt s (p + 1))/\fol (s.length - p) 2 (byt s (p + 2))):=fun h=>by omega
    rw [if_neg e]
   ·have e:¬ ((224<=byt s p/\byt s p < 240)/\fol (s.length - p) 1 (byt s (p + 1))/\fol (s.length - p) 2 (byt s (p + 2))):=fun h=>by omega
    rw [if_neg e]
 simp only [U3,f1,B7,C6,B6,A0,decide_eq_true_eq,decide_eq_false_iff_not,Int.toNat_natCast,hx]
 refine⟨by omega,fun h1=>?_,fun h1=>⟨fun h2=>⟨fun h3=>?_,fun h3=>?_⟩,fun h2=>?_⟩⟩
 ·unfold a9y;rw [if_pos (by omega)];rfl
 ·refine c1 _ (fun h=>?_) (fun h=>?_) (by omega)
  ·exact⟨of_decide_eq_true h,by omega,by omega⟩
  ·exact fun h'=>of_decide_eq_false h h'.2
 ·exact c1 _ (fun h=>by cases h) (fun _ h'=>by omega) (by omega)
 ·exact c1 _ (fun h=>by cases h) (fun _ h'=>by omega) (by omega)
theorem b58 (s:List UInt8) (p:Nat):(b57 s p).2 ≠ 0:=by
 unfold b57 Lib.decodeN
 repeat' split
 all_goals simp
theorem b59 {s:List UInt8} {p:Nat} (h:p < s.length):p + a3d s p<=s.length:=by
 rw [a7v]
 unfold a9y
 repeat' split
 all_goals omega
def a6h (s:List UInt8):Nat->Nat->Nat->Bool
 | 0,_,_=>false
 | f + 1,p,k=>if p < s.length then(if a3d s p=0 then false else a6h s f (p + a3d s p) (k + 1)) else decide (k<=64)
def a5O (s:List UInt8):Bool:=a6h s (s.length + 1) 0 0
theorem b0P {s:List UInt8} {f p k:Nat} (h:p < s.length) (hf:s.length < p + f):∃ f',f=f' + 1/\(a3d s p=0->a6h s f p k=false)/\(a3d s p ≠ 0->a6h s f p k=a6h s f' (p + a3d s p) (k + 1)/\s.length < p + a3d s p + f'):=by
 cases f with
 | zero=>omega
 | succ f=>
  refine⟨f,rfl,fun hw=>?_,fun hw=>⟨?_,by omega⟩⟩
  ·simp [a6h,h,hw]
  ·simp [a6h,h,hw]
theorem c3E (s:List UInt8) (k p:Int):a29 s k [(s,p)] =
  sel (decide (Int.toNat p < List.length s)) (
   chk (decide (Int.toNat p < List.length s)) <|
   chk (decide (Int.toNat p < List.length s)) <|
   chk (decide ((0:Int)<=p/\p<=(((List.length s):Nat):Int)/\(((List.length s):Nat):Int)<=(((List.length s):Nat):Int))) <|
   (D0 (List.drop (Int.toNat p) (List.take (Int.toNat (((List.length s):Nat):Int)) s))).bind fun r1=>
   sel (decide (b6Q s p=65533)) (
    sel (decide (r1.2=1)) (some (.inr false)) (some (.inl (s,B0 (k + 1),[(s,b1t s p)])))) (
    some (.inl (s,B0 (k + 1),[(s,b1t s p)])))) (
   some (.inr (decide (k<=64)))):=rfl
theorem c3F {s:List UInt8} (hl:s.length<=1000000000000000):a31 s=some (a5O s):=by
 rw [<-M9]
 unfold a31 a4G
 refine a6d (S:=List UInt8 × Int × List (List UInt8 × Int)) (inv:=fun v=>∃ p k f:Nat,v=(s,((k:Nat):Int),[(s,((p:Nat):Int))])/\k<=p/\p<=s.length/\s.length < p + f/\a6h s f p k=a5O s) (m:=fun v=>s.length + 4 - (List.headD v.2.2 ([],0)).2.toNat) ?_ ⟨0,0,s.length + 1,rfl,by omega,by omega,by omega,rfl⟩ (by simp;omega)
 rintro v ⟨p,k,f,rfl,hk,hp,hf,hr⟩
 simp only [c3E,B7,C6,B6,A0,A8,A6,decide_eq_true_eq,decide_eq_false_iff_not,Int.toNat_natCast,List.take_length]
 refine⟨fun h=>⟨h,h,by omega,?_⟩,fun h=>?_⟩
 ·rw [D0,b1T h,A0]
  have hrune:b6Q s ((p:Nat):Int)=(((b57 s p).1:Nat):Int):=by unfold b6Q;rw [Int.toNat_natCast,a6g]
  have hnext:b1t s ((p:Nat):Int)=((p + (b57 s p).2:Nat):Int):=by
   unfold b1t b3A
   rw [Int.toNat_natCast,a6g,if_pos (show p < (⟨s.toArray⟩:ByteArray).size from h)]
  rw [hrune,hnext,H0 (i:=k) (by omega)]
  obtain⟨f',rfl,m1,m2⟩:=b0P (k:=k) h hf
  have hw4:=b1U s p
  have hwi:=b59 h
  have cont:a3d s p ≠ 0->(∃ p_1 k_1 f_1:Nat,((s,((k + 1:Nat):Int),[(s,((p + (b57 s p).2:Nat):Int))]):List UInt8 × Int × List (List UInt8 × Int))=(s,((k_1:Nat):Int),[(s,((p_1:Nat):Int))])/\k_1<=p_1/\p_1<=s.length/\s.length < p_1 + f_1/\a6h s f_1 p_1 k_1=a5O s)/\
    s.length + 4 - (((p + (b57 s p).2:Nat):Int)).toNat < s.length + 4 - p:=by
   intro hw
   have e:(b57 s p).2=a3d s p:=by
    unfold a3d at hw ⊢
    split at hw
    ·exact absurd rfl hw
    ·rename_i hc;rw [if_neg hc]
   obtain⟨a1,a2⟩:=m2 hw
   rw [e]
   refine⟨⟨p + a3d s p,k + 1,f',rfl,by omega,by omega,a2,a1.symm.trans hr⟩,?_⟩
   rw [Int.toNat_natCast]
   omega
  simp only
  refine⟨fun h1=>⟨fun h2=>?_,fun h2=>cont ?_⟩,fun h1=>cont ?_⟩
  ·rw [<-hr,m1 (by unfold a3d;rw [if_pos ⟨by omega,by omega⟩])]
  ·unfold a3d;rw [if_neg (fun hc=>h2 (by omega))]
   have:(b57 s p).2 ≠ 0:=b58 s p
   exact this
  ·unfold a3d;rw [if_neg (fun hc=>h1 (by omega))]
   exact b58 s p
 ·rw [<-hr]
  cases f with
  | zero=>omega
  | succ f=>unfold a6h;rw [if_neg h,decide_eq_decide];omega
theorem c1z {s:List UInt8} (hl:s.length<=1000000000000000):Q5 s=some (a5O s):=by
 have key:Ok (S3 s) fun r=>(r.2 && decide (r.1<=64))=a5O s:=by
  unfold S3 a0E
  refine a6d (S:=List UInt8 × Int × Int) (inv:=fun v=>∃ p k f:Nat,v=(s,((k:Nat):Int),((p:Nat):Int))/\k<=p/\p<=s.length/\s.length < p + f/\a6h s f p k=a5O s) (m:=fun v=>s.length + 4 - v.2.2.toNat) ?_ ⟨0,0,s.length + 1,rfl,by omega,by omega,by omega,rfl⟩ (by simp;omega)
  rintro v ⟨p,k,f,rfl,hk,hp,hf,hr⟩
  simp only [U4,B7,B6,A0,A8,A6,decide_eq_true_eq,decide_eq_false_iff_not,Int.toNat_natCast]
  refine⟨fun h=>?_,fun h=>?_⟩
  ·have h':p < s.length:=by omega
   obtain⟨f',rfl,m1,m2⟩:=b0P (k:=k) h' hf
   have hw4:=b1U s p
   have hwi:=b59 h'
   rw [c3D hl h',A0,H0 (i:=k) (by omega)]
   have e2:B0 (((p:Nat):Int) + ((a3d s p:Nat):Int))=((p + a3d s p:Nat):Int):=by rw [D9] <;> omega
   simp only [e2,Int.toNat_natCast]
   refine⟨fun h1=>?_,fun h1=>?_⟩
   ·rw [<-hr,m1 (by omega)];rfl
   ·obtain⟨a1,a2⟩:=m2 (by omega)
    refine⟨⟨p + a3d s p,k + 1,f',rfl,by omega,by omega,a2,a1.symm.trans hr⟩,by omega⟩
  ·rw [<-hr]
   cases f with
   | zero=>omega
   | succ f=>unfold a6h;rw [if_neg (by omega),Bool.true_and,decide_eq_decide];omega
 obtain⟨r,h1,h2⟩:=key
 unfold Q5
 rw [h1,Option.bind_some,<-h2]
 cases r.2 <;> rfl
end Go.Proofs.YtbipjlehhlkghaaDoor.Am
namespace Go.Proofs.YtbipjlehhlkghaaDoor.Am
open Go
def a7g (n:Int):Prop:=0<=n/\n < 18446744073709551616
def c3G (s:List UInt8):Prop:=X2 s=true/\s.length<=20
def c6s (a:o3):Prop:=c3G a.1/\a7g a.2.1/\a7g a.2.2
def c6t (s:List UInt8):Prop:=a5O s=true/\s.length<=60
def TrM (x:o4):Prop:=c3G x.1/\1<=x.2/\x.2 < 18446744073709551616
def TxM (t:o8):Prop:=c3G t.1/\a7g t.2.1/\(150<=t.2.2.1/\t.2.2.1<=350)/\a7g t.2.2.2.1/\c6t t.2.2.2.2.1/\(1<=t.2.2.2.2.2.length/\t.2.2.2.2.2.length<=3)/\∀ x ∈ t.2.2.2.2.2,TrM x
end Go.Proofs.YtbipjlehhlkghaaDoor.Am
namespace Go.Proofs.YtbipjlehhlkghaaDoor.Am
open Go
def a25:List o4->Int
 | []=>0
 | x :: l=>if X2 x.1=true then(if x.2=0 then 12 else a25 l) else 10
def a1l (t:o8):Int:=
 if X2 t.1=true then(if t.2.2.1=0 then 15 else if a5O t.2.2.2.2.1=true then(if t.2.2.2.2.2.length=0 then 3 else if 16 < t.2.2.2.2.2.length then 3 else a25 t.2.2.2.2.2) else 11) else 10
def TxB (t:o8):Prop:=t.1.length<=200000000000000/\t.2.2.2.2.1.length<=200000000000000/\t.2.2.2.2.2.length<=200000000000000/\∀ x ∈ t.2.2.2.2.2,x.1.length<=200000000000000
theorem a9z {α:Type} {G:(List o4 × Int × Int)->Option ((List o4 × Int × Int) ⊕ Int)} {l:List o4} (hl:l.length<=1000) (_:α)
  (step:∀ i (h:i < l.length),G (l,((l.length:Nat):Int),((i:Nat):Int))=some (if X2 l[i].1=true then(if l[i].2=0 then .inr 12 else .inl (l,((l.length:Nat):Int),((i + 1:Nat):Int))) else .inr 10))
  (stop:G (l,((l.length:Nat):Int),((l.length:Nat):Int))=some (.inr 0)):N0 G (l,((l.length:Nat):Int),0)=some (a25 l):=by
 rw [<-M9]
 refine I8 l (fun i (_:Unit)=>(l,((l.length:Nat):Int),((i:Nat):Int))) (fun i _=>a25 (l.drop i)=a25 l) (fun i _ hi hv=>?_) (fun _ hv=>?_) (b0:=()) rfl (by omega)
 ·rw [step i hi,A0]
  rw [List.drop_eq_getElem_cons hi] at hv
  by_cases h1:X2 l[i].1=true
  ·by_cases h2:l[i].2=0
   ·rw [if_pos h1,if_pos h2,A6,<-hv]
    simp [a25,h1,h2]
   ·rw [if_pos h1,if_neg h2,A8]
    refine⟨(),rfl,?_⟩
    rw [<-hv]
    simp [a25,h1,h2]
  ·rw [if_neg h1,A6,<-hv]
   simp [a25,h1]
 ·rw [stop,A0,A6,<-hv,List.drop_length];rfl
theorem c1A {t:o8} (h:TxB t):a2g t=some (a1l t):=by
 obtain⟨h1,h2,h3,h4⟩:=h
 have hT:t.2.2.2.2.2.length<=16->a1i t.2.2.2.2.2 ((t.2.2.2.2.2.length:Nat):Int) 0=some (a25 t.2.2.2.2.2):=fun h5=>by
  unfold a1i
  refine a9z (by omega) () (fun i hi=>?_) ?_
  ·rw [<-M9]
   have hn:=b4A (s:=(t.2.2.2.2.2[i]).1) (Nat.le_trans (h4 _ (List.getElem_mem hi)) (by omega))
   simp only [a0r,B7,C6,B6,A0,decide_eq_true_eq,decide_eq_false_iff_not,Bool.not_eq_true',Bool.not_eq_false',Int.toNat_natCast,E6 hi,hn,H0 (i:=i) (by omega)]
   refine⟨fun _=>⟨by omega,fun e=>?_,fun e=>⟨fun e2=>?_,fun e2=>?_⟩⟩,fun h=>absurd h (by omega)⟩
   ·rw [if_neg (by simp [e])]
   ·rw [if_pos e,if_pos e2]
   ·rw [if_pos e,if_neg e2]
  ·rw [<-M9]
   simp only [a0r,B7,C6,B6,A0,decide_eq_true_eq,decide_eq_false_iff_not,Bool.not_eq_true',Bool.not_eq_false',Int.toNat_natCast]
   exact⟨fun h=>absurd h (by omega),fun _=>trivial⟩
 rw [<-M9]
 simp only [a2g,b4A (Nat.le_trans h1 (by omega:(200000000000000:Nat)<=1000000000000000)),c3F (Nat.le_trans h2 (by omega:(200000000000000:Nat)<=1000000000000000)),B7,B6,A0,decide_eq_true_eq,decide_eq_false_iff_not,Bool.not_eq_true',Bool.not_eq_false']
 unfold a1l
 refine⟨fun e=>by rw [if_neg (by simp [e])],fun e=>⟨fun e1=>by rw [if_pos e,if_pos e1],fun e1=>⟨fun e2=>by rw [if_pos e,if_neg e1,if_neg (by simp [e2])],fun e2=>⟨fun e3=>by rw [if_pos e,if_neg e1,if_pos e2,if_pos (by omega)],fun e3=>⟨fun e4=>by rw [if_pos e,if_neg e1,if_pos e2,if_neg (by omega),if_pos (by omega)],fun e4=>?_⟩⟩⟩⟩⟩
 rw [hT (by omega),A0,if_pos e,if_neg e1,if_pos e2,if_neg (by omega),if_neg (by omega)]
theorem b3i {t:o8} (h:TxB t):H4 t=some (a1l t):=by
 obtain⟨h1,h2,h3,h4⟩:=h
 have hT:t.2.2.2.2.2.length<=16->M5 t.2.2.2.2.2 ((t.2.2.2.2.2.length:Nat):Int) 0=some (a25 t.2.2.2.2.2):=fun h5=>by
  unfold M5
  refine a9z (by omega) () (fun i hi=>?_) ?_
  ·rw [<-M9]
   have hn:=b1N (s:=(t.2.2.2.2.2[i]).1) (Nat.le_trans (h4 _ (List.getElem_mem hi)) (by omega))
   simp only [I6,B7,C6,B6,A0,decide_eq_true_eq,decide_eq_false_iff_not,Bool.not_eq_true',Bool.not_eq_false',Int.toNat_natCast,E6 hi,hn,H0 (i:=i) (by omega)]
   refine⟨fun _=>⟨by omega,fun e=>?_,fun e=>⟨fun e2=>?_,fun e2=>?_⟩⟩,fun h=>absurd h (by omega)⟩
   ·rw [if_neg (by simp [e])]
   ·rw [if_pos e,if_pos e2]
   ·rw [if_pos e,if_neg e2]
  ·rw [<-M9]
   simp only [I6,B7,C6,B6,A0,decide_eq_true_eq,decide_eq_false_iff_not,Bool.not_eq_true',Bool.not_eq_false',Int.toNat_natCast]
   exact⟨fun h=>absurd h (by omega),fun _=>trivial⟩
 rw [<-M9]
 simp only [H4,b1N (Nat.le_trans h1 (by omega:(200000000000000:Nat)<=1000000000000000)),c1z (Nat.le_trans h2 (by omega:(200000000000000:Nat)<=1000000000000000)),B7,B6,A0,decide_eq_true_eq,decide_eq_false_iff_not,Bool.not_eq_true',Bool.not_eq_false']
 unfold a1l
 refine⟨fun e=>by rw [if_neg (by simp [e])],fun e=>⟨fun e1=>by rw [if_pos e,if_pos e1],fun e1=>⟨fun e2=>by rw [if_pos e,if_neg e1,if_neg (by simp [e2])],fun e2=>⟨fun e3=>by rw [if_pos e,if_neg e1,if_pos e2,if_pos (by omega)],fun e3=>⟨fun e4=>by rw [if_pos e,if_neg e1,if_pos e2,if_neg (by omega),if_pos (by omega)],fun e4=>?_⟩⟩⟩⟩⟩
 rw [hT (by omega),A0,if_pos e,if_neg e1,if_pos e2,if_neg (by omega),if_neg (by omega)]
theorem a9A:∀ {l:List o4},(∀ x ∈ l,TrM x)->a25 l=0
 | [],_=>rfl
 | x :: l,h=>by
  have hx:=h x (by simp)
  unfold a25
  rw [if_pos hx.1.1,if_neg (by have:=hx.2.1;omega)]
  exact a9A fun y hy=>h y (by simp [hy])
theorem TxM.b {t:o8} (h:TxM t):TxB t:=by
 obtain⟨h1,h2,h3,h4,h5,h6,h7⟩:=h
 exact⟨by have:=h1.2;omega,by have:=h5.2;omega,by omega,fun x hx=>by have:=(h7 x hx).1.2;omega⟩
end Go.Proofs.YtbipjlehhlkghaaDoor.Am
