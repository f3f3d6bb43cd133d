/- Texts laid together: PMemo2, PMakeD, PValid. No conditions. -/
import Derived.Test.YtbipjlehhlkghaaGreatDoorQAJ
import Derived.Test.YtbipjlehhlkghaaGreatDoorQAG
import Derived.Test.YtbipjlehhlkghaaGreatDoorQAB
namespace Go.Proofs.YtbipjlehhlkghaaGreatDoor.Am
open Go
theorem b4s (s:List UInt8) (p:Nat):(UInt8.toNat (List.getD s p (0:UInt8)):Nat)=byt s p:=rfl
theorem b1u {s:List UInt8} {p j:Nat} (hl:s.length<=1000000000000000) (hp:p < s.length) (hj:j<=3):I9 s (A5 (((p:Nat):Int) + ((j:Nat):Int)))=some (decide (fol (s.length - p) j (byt s (p + j)))):=by
 rw [<-L4]
 have hw:A5 (((p:Nat):Int) + ((j:Nat):Int))=((p + j:Nat):Int):=by rw [E0] <;> omega
 simp only [I9,hw,C0,E5,A3,decide_eq_true_eq,decide_eq_false_iff_not,Int.toNat_natCast,b4s]
 refine⟨fun h=>⟨by omega,fun h1=>⟨by omega,?_⟩,fun h1=>?_⟩,fun h=>?_⟩
 ·rw [decide_eq_decide];omega
 ·symm;rw [decide_eq_false_iff_not];omega
 ·symm;rw [decide_eq_false_iff_not];omega
theorem d5P {s:List UInt8} {p:Nat} (hl:s.length<=1000000000000000) (x:UInt8) (b:Bool) (hb:b=true->p + 1 < s.length) :
  H9 s ((p:Nat):Int) x b=some ((if b=true then(if(x.toNat=240/\byt s (p + 1) < 144)\/(x.toNat=244/\144<=byt s (p + 1)) then 0 else 4) else 0:Nat):Int):=by
 rw [<-L4]
 have hw:p + 1 < s.length->A5 (((p:Nat):Int) + 1)=((p + 1:Nat):Int):=fun h=>by rw [E0] <;> omega
 cases b with
 | false=>simp only [H9,C0,E5,A3,decide_eq_true_eq,decide_eq_false_iff_not];exact⟨fun h=>(by cases h),fun _=>rfl⟩
 | true=>
  have h1:=hb rfl
  simp only [H9,hw h1,C0,E5,A3,decide_eq_true_eq,decide_eq_false_iff_not,Int.toNat_natCast,b4s]
  repeat' first | apply And.intro | intro _
  all_goals first | (exfalso;omega) | omega | (rw [if_pos trivial,if_pos (by omega)];rfl) | (rw [if_pos trivial,if_neg (by omega)];rfl) | (exfalso;rename_i h;cases h)
theorem d5Q {s:List UInt8} {p:Nat} (hl:s.length<=1000000000000000) (hp:p < s.length) (x:UInt8) (b:Bool) (hb:b=true->p + 1 < s.length) :
  J7 s ((p:Nat):Int) x b=some ((if b=true then(if(x.toNat=224/\byt s (p + 1) < 160)\/(x.toNat=237/\160<=byt s (p + 1)) then 0 else 3) else
   if(240<=x.toNat/\x.toNat < 245)/\fol (s.length - p) 1 (byt s (p + 1))/\fol (s.length - p) 2 (byt s (p + 2))/\fol (s.length - p) 3 (byt s (p + 3)) then(if(x.toNat=240/\byt s (p + 1) < 144)\/(x.toNat=244/\144<=byt s (p + 1)) then 0 else 4) else 0:Nat):Int):=by
 rw [<-L4]
 have f1:=b1u (j:=1) hl hp (by omega)
 have f2:=b1u (j:=2) hl hp (by omega)
 have f3:=b1u (j:=3) hl hp (by omega)
 rw [show((1:Nat):Int)=1 from rfl] at f1
 rw [show((2:Nat):Int)=2 from rfl] at f2
 rw [show((3:Nat):Int)=3 from rfl] at f3
 cases b with
 | false=>
  have r0:=d5P (p:=p) hl x false (fun h=>by cases h)
  simp only [J7,f1,f2,f3,r0,C0,E5,B6,A3,decide_eq_true_eq,decide_eq_false_iff_not,Bool.false_eq_true,if_false]
  refine⟨fun h=>(by cases h),fun _=>⟨fun h1=>⟨fun h2=>⟨fun h3=>⟨fun h4=>?_,fun h4=>?_⟩,fun h3=>?_⟩,fun h2=>?_⟩,fun h1=>?_⟩⟩
  ·rw [d5P hl x _ (fun _=>by omega),A3]
   simp only [decide_eq_true_eq]
   congr 1
   by_cases h5:fol (s.length - p) 3 (byt s (p + 3))
   ·have e:(240<=x.toNat/\x.toNat < 245)/\fol (s.length - p) 1 (byt s (p + 1))/\fol (s.length - p) 2 (byt s (p + 2))/\fol (s.length - p) 3 (byt s (p + 3)):=⟨by omega,h3,h4,h5⟩
    rw [if_pos h5,if_pos e]
   ·have e:¬ ((240<=x.toNat/\x.toNat < 245)/\fol (s.length - p) 1 (byt s (p + 1))/\fol (s.length - p) 2 (byt s (p + 2))/\fol (s.length - p) 3 (byt s (p + 3))):=fun h=>h5 h.2.2.2
    rw [if_neg h5,if_neg e]
  ·rw [if_neg (fun h=>h4 h.2.2.1)]
  ·rw [if_neg (fun h=>h3 h.2.1)]
  ·rw [if_neg (fun h=>by omega)]
  ·rw [if_neg (fun h=>by omega)]
 | true=>
  have h1:=hb rfl
  have hw:A5 (((p:Nat):Int) + 1)=((p + 1:Nat):Int):=by rw [E0] <;> omega
  simp only [J7,hw,C0,E5,B6,A3,decide_eq_true_eq,decide_eq_false_iff_not,Int.toNat_natCast,b4s]
  refine⟨fun _=>?_,fun h=>by cases h⟩
  repeat' first | apply And.intro | intro _
  all_goals first | (exfalso;omega) | omega | (rw [if_pos trivial,if_pos (by omega)];rfl) | (rw [if_pos trivial,if_neg (by omega)];rfl) | (exfalso;rename_i h;cases h)
theorem d3u {s:List UInt8} {p:Nat} (hl:s.length<=1000000000000000) (hp:p < s.length):a2n s ((p:Nat):Int)=some ((a9a s p:Nat):Int):=by
 rw [<-L4,b4Z]
 have f1:=b1u (j:=1) hl hp (by omega)
 have f2:=b1u (j:=2) hl hp (by omega)
 rw [show((1:Nat):Int)=1 from rfl] at f1
 rw [show((2:Nat):Int)=2 from rfl] at f2
 have hx:(List.getD s p (0:UInt8)).toNat=byt s p:=rfl
 have c1:∀ b,(b=true->fol (s.length - p) 1 (byt s (p + 1))/\194<=byt s p/\byt s p < 224)->(b=false->¬ ((194<=byt s p/\byt s p < 224)/\fol (s.length - p) 1 (byt s (p + 1))))->128<=byt s p->
   Ok (K8 s ((p:Nat):Int) (List.getD s p 0) b) (· =((b7i (s.length - p) (byt s p) (byt s (p + 1)) (byt s (p + 2)) (byt s (p + 3)):Nat):Int)):=by
  intro b hb1 hb2 h128
  unfold b7i
  rw [if_neg (by omega)]
  cases b with
  | true=>
   have:=hb1 rfl
   simp only [K8,C0,B6,A3,decide_eq_true_eq,decide_eq_false_iff_not]
   exact⟨fun _=>by rw [if_pos ⟨this.2,this.1⟩];rfl,fun h=>(by cases h)⟩
  | false=>
   have:=hb2 rfl
   rw [if_neg this]
   have q0:=d5Q hl hp (List.getD s p 0) false (fun h=>by cases h)
   simp only [K8,f1,f2,q0,C0,B6,A3,decide_eq_true_eq,decide_eq_false_iff_not,hx,Bool.false_eq_true,if_false]
   refine⟨fun h=>(by cases h),fun _=>⟨fun h1=>⟨fun h2=>⟨fun h3=>?_,fun h3=>?_⟩,fun h2=>?_⟩,fun h1=>?_⟩⟩
   ·rw [d5Q hl hp _ _ (fun _=>by omega),A3,hx]
    simp only [decide_eq_true_eq]
    congr 1
    by_cases h5:fol (s.length - p) 2 (byt s (p + 2))
    ·have e:(224<=byt s p/\byt s p < 240)/\fol (s.length - p) 1 (byt s (p + 1))/\fol (s.length - p) 2 (byt s (p + 2)):=⟨by omega,h3,h5⟩
     rw [if_pos h5,if_pos e]
    ·have e:¬ ((224<=byt s p/\byt s p < 240)/\fol (s.length - p) 1 (byt s (p + 1))/\fol (s.length - p) 2 (byt s (p + 2))):=fun h=>h5 h.2.2
     rw [if_neg h5,if_neg e]
   ·have e:¬ ((224<=byt s p/\byt s p < 240)/\fol (s.length - p) 1 (byt s (p + 1))/\fol (s.length - p) 2 (byt s (p + 2))):=fun h=>h3 h.2.1
    rw [if_neg e]
   ·have e:¬ ((224<=byt s p/\byt s p < 240)/\fol (s.length - p) 1 (byt s (p + 1))/\fol (s.length - p) 2 (byt s (p + 2))):=fun h=>by omega
    rw [if_neg e]
   ·have e:¬ ((224<=byt s p/\byt s p < 240)/\fol (s.length - p) 1 (byt s (p + 1))/\fol (s.length - p) 2 (byt s (p + 2))):=fun h=>by omega
    rw [if_neg e]
 simp only [a2n,f1,C0,E5,B6,A3,decide_eq_true_eq,decide_eq_false_iff_not,Int.toNat_natCast,hx]
 refine⟨by omega,fun h1=>?_,fun h1=>⟨fun h2=>⟨fun h3=>?_,fun h3=>?_⟩,fun h2=>?_⟩⟩
 ·unfold b7i;rw [if_pos (by omega)];rfl
 ·refine c1 _ (fun h=>?_) (fun h=>?_) (by omega)
  ·exact⟨of_decide_eq_true h,by omega,by omega⟩
  ·exact fun h'=>of_decide_eq_false h h'.2
 ·exact c1 _ (fun h=>by cases h) (fun _ h'=>by omega) (by omega)
 ·exact c1 _ (fun h=>by cases h) (fun _ h'=>by omega) (by omega)
theorem c4v (s:List UInt8) (p:Nat):(c4u s p).2 ≠ 0:=by
 unfold c4u Lib.decodeN
 repeat' split
 all_goals simp
theorem c4w {s:List UInt8} {p:Nat} (h:p < s.length):p + a9a s p<=s.length:=by
 rw [b4Z]
 unfold b7i
 repeat' split
 all_goals omega
def b3t (s:List UInt8):Nat->Nat->Nat->Bool
 | 0,_,_=>false
 | f + 1,p,k=>if p < s.length then(if a9a s p=0 then false else b3t s f (p + a9a s p) (k + 1)) else decide (k<=64)
def b2T (s:List UInt8):Bool:=b3t s (s.length + 1) 0 0
theorem b8C {s:List UInt8} {f p k:Nat} (h:p < s.length) (hf:s.length < p + f):∃ f',f=f' + 1/\(a9a s p=0->b3t s f p k=false)/\(a9a s p ≠ 0->b3t s f p k=b3t s f' (p + a9a s p) (k + 1)/\s.length < p + a9a s p + f'):=by
 cases f with
 | zero=>omega
 | succ f=>
  refine⟨f,rfl,fun hw=>?_,fun hw=>⟨?_,by omega⟩⟩
  ·simp [b3t,h,hw]
  ·simp [b3t,h,hw]
theorem d3v (s:List UInt8) (k p:Int):a82 s k [(s,p)] =
  sel (decide (Int.toNat p < List.length s)) (
   chk (decide (Int.toNat p < List.length s)) <|
   chk (decide (Int.toNat p < List.length s)) <|
   chk (decide ((0:Int)<=p/\p<=(((List.length s):Nat):Int)/\(((List.length s):Nat):Int)<=(((List.length s):Nat):Int))) <|
   (H0 (List.drop (Int.toNat p) (List.take (Int.toNat (((List.length s):Nat):Int)) s))).bind fun r1=>
   sel (decide (c2u s p=65533)) (
    sel (decide (r1.2=1)) (some (.inr false)) (some (.inl (s,A5 (k + 1),[(s,b6N s p)])))) (
    some (.inl (s,A5 (k + 1),[(s,b6N s p)])))) (
   some (.inr (decide (k<=64)))):=rfl
theorem d3w {s:List UInt8} (hl:s.length<=1000000000000000):b0a s=some (b2T s):=by
 rw [<-L4]
 unfold b0a b1g
 refine b0m (S:=List UInt8 × Int × List (List UInt8 × Int)) (inv:=fun v=>∃ p k f:Nat,v=(s,((k:Nat):Int),[(s,((p:Nat):Int))])/\k<=p/\p<=s.length/\s.length < p + f/\b3t s f p k=b2T s) (m:=fun v=>s.length + 4 - (List.headD v.2.2 ([],0)).2.toNat) ?_ ⟨0,0,s.length + 1,rfl,by omega,by omega,by omega,rfl⟩ (by simp;omega)
 rintro v ⟨p,k,f,rfl,hk,hp,hf,hr⟩
 simp only [d3v,C0,E5,B6,A3,B4,B8,decide_eq_true_eq,decide_eq_false_iff_not,Int.toNat_natCast,List.take_length]
 refine⟨fun h=>⟨h,h,by omega,?_⟩,fun h=>?_⟩
 ·rw [H0,b9M h,A3]
  have hrune:c2u s ((p:Nat):Int)=(((c4u s p).1:Nat):Int):=by unfold c2u;rw [Int.toNat_natCast,b3s]
  have hnext:b6N s ((p:Nat):Int)=((p + (c4u s p).2:Nat):Int):=by
   unfold b6N c1N
   rw [Int.toNat_natCast,b3s,if_pos (show p < (⟨s.toArray⟩:ByteArray).size from h)]
  rw [hrune,hnext,E2 (i:=k) (by omega)]
  obtain⟨f',rfl,m1,m2⟩:=b8C (k:=k) h hf
  have hw4:=b9N s p
  have hwi:=c4w h
  have cont:a9a s p ≠ 0->(∃ p_1 k_1 f_1:Nat,((s,((k + 1:Nat):Int),[(s,((p + (c4u s p).2:Nat):Int))]):List UInt8 × Int × List (List UInt8 × Int))=(s,((k_1:Nat):Int),[(s,((p_1:Nat):Int))])/\k_1<=p_1/\p_1<=s.length/\s.length < p_1 + f_1/\b3t s f_1 p_1 k_1=b2T s)/\
    s.length + 4 - (((p + (c4u s p).2:Nat):Int)).toNat < s.length + 4 - p:=by
   intro hw
   have e:(c4u s p).2=a9a s p:=by
    unfold a9a at hw ⊢
    split at hw
    ·exact absurd rfl hw
    ·rename_i hc;rw [if_neg hc]
   obtain⟨a1,a2⟩:=m2 hw
   rw [e]
   refine⟨⟨p + a9a s p,k + 1,f',rfl,by omega,by omega,a2,a1.symm.trans hr⟩,?_⟩
   rw [Int.toNat_natCast]
   omega
  simp only
  refine⟨fun h1=>⟨fun h2=>?_,fun h2=>cont ?_⟩,fun h1=>cont ?_⟩
  ·rw [<-hr,m1 (by unfold a9a;rw [if_pos ⟨by omega,by omega⟩])]
  ·unfold a9a;rw [if_neg (fun hc=>h2 (by omega))]
   have:(c4u s p).2 ≠ 0:=c4v s p
   exact this
  ·unfold a9a;rw [if_neg (fun hc=>h1 (by omega))]
   exact c4v s p
 ·rw [<-hr]
  cases f with
  | zero=>omega
  | succ f=>unfold b3t;rw [if_neg h,decide_eq_decide];omega
theorem d0M {s:List UInt8} (hl:s.length<=1000000000000000):a1b s=some (b2T s):=by
 have key:Ok (a1G s) fun r=>(r.2 && decide (r.1<=64))=b2T s:=by
  unfold a1G a5a
  refine b0m (S:=List UInt8 × Int × Int) (inv:=fun v=>∃ p k f:Nat,v=(s,((k:Nat):Int),((p:Nat):Int))/\k<=p/\p<=s.length/\s.length < p + f/\b3t s f p k=b2T s) (m:=fun v=>s.length + 4 - v.2.2.toNat) ?_ ⟨0,0,s.length + 1,rfl,by omega,by omega,by omega,rfl⟩ (by simp;omega)
  rintro v ⟨p,k,f,rfl,hk,hp,hf,hr⟩
  simp only [a2o,C0,B6,A3,B4,B8,decide_eq_true_eq,decide_eq_false_iff_not,Int.toNat_natCast]
  refine⟨fun h=>?_,fun h=>?_⟩
  ·have h':p < s.length:=by omega
   obtain⟨f',rfl,m1,m2⟩:=b8C (k:=k) h' hf
   have hw4:=b9N s p
   have hwi:=c4w h'
   rw [d3u hl h',A3,E2 (i:=k) (by omega)]
   have e2:A5 (((p:Nat):Int) + ((a9a s p:Nat):Int))=((p + a9a s p:Nat):Int):=by rw [E0] <;> omega
   simp only [e2,Int.toNat_natCast]
   refine⟨fun h1=>?_,fun h1=>?_⟩
   ·rw [<-hr,m1 (by omega)];rfl
   ·obtain⟨a1,a2⟩:=m2 (by omega)
    refine⟨⟨p + a9a s p,k + 1,f',rfl,by omega,by omega,a2,a1.symm.trans hr⟩,by omega⟩
  ·rw [<-hr]
   cases f with
   | zero=>omega
   | succ f=>unfold b3t;rw [if_neg (by omega),Bool.true_and,decide_eq_decide];omega
 obtain⟨r,h1,h2⟩:=key
 unfold a1b
 rw [h1,Option.bind_some,<-h2]
 cases r.2 <;> rfl
end Go.Proofs.YtbipjlehhlkghaaGreatDoor.Am
namespace Go.Proofs.YtbipjlehhlkghaaGreatDoor.Am
open Go
def b13 (n:Int):Prop:=0<=n/\n < 18446744073709551616
def c1m (s:List UInt8):Prop:=T4 s=true/\s.length<=20
def c2Y (a:o7):Prop:=c1m a.1/\b13 a.2.1/\b13 a.2.2
def d0N (l:List o7):Prop:=l.length<=4/\∀ a ∈ l,c2Y a
def d0O (s:List UInt8):Prop:=b2T s=true/\s.length<=60
def TrM (x:o8):Prop:=c1m x.1/\1<=x.2/\x.2 < 18446744073709551616
def TxM (t:A7):Prop:=c1m t.1/\b13 t.2.1/\(150<=t.2.2.1/\t.2.2.1<=350)/\b13 t.2.2.2.1/\d0O t.2.2.2.2.1/\(1<=t.2.2.2.2.2.length/\t.2.2.2.2.2.length<=3)/\∀ x ∈ t.2.2.2.2.2,TrM x
end Go.Proofs.YtbipjlehhlkghaaGreatDoor.Am
namespace Go.Proofs.YtbipjlehhlkghaaGreatDoor.Am
open Go
def a8Y:List o8->Int
 | []=>0
 | x :: l=>if T4 x.1=true then(if x.2=0 then 12 else a8Y l) else 10
def a40 (t:A7):Int:=
 if T4 t.1=true then(if t.2.2.1=0 then 15 else if b2T t.2.2.2.2.1=true then(if t.2.2.2.2.2.length=0 then 3 else if 16 < t.2.2.2.2.2.length then 3 else a8Y t.2.2.2.2.2) else 11) else 10
def TxB (t:A7):Prop:=t.1.length<=200000000000000/\t.2.2.2.2.1.length<=200000000000000/\t.2.2.2.2.2.length<=200000000000000/\∀ x ∈ t.2.2.2.2.2,x.1.length<=200000000000000
theorem b7j {α:Type} {G:(List o8 × Int × Int)->Option ((List o8 × Int × Int) ⊕ Int)} {l:List o8} (hl:l.length<=1000) (_:α)
  (step:∀ i (h:i < l.length),G (l,((l.length:Nat):Int),((i:Nat):Int))=some (if T4 l[i].1=true then(if l[i].2=0 then .inr 12 else .inl (l,((l.length:Nat):Int),((i + 1:Nat):Int))) else .inr 10))
  (stop:G (l,((l.length:Nat):Int),((l.length:Nat):Int))=some (.inr 0)):I2 G (l,((l.length:Nat):Int),0)=some (a8Y l):=by
 rw [<-L4]
 refine E7 l (fun i (_:Unit)=>(l,((l.length:Nat):Int),((i:Nat):Int))) (fun i _=>a8Y (l.drop i)=a8Y l) (fun i _ hi hv=>?_) (fun _ hv=>?_) (b0:=()) rfl (by omega)
 ·rw [step i hi,A3]
  rw [List.drop_eq_getElem_cons hi] at hv
  by_cases h1:T4 l[i].1=true
  ·by_cases h2:l[i].2=0
   ·rw [if_pos h1,if_pos h2,B8,<-hv]
    simp [a8Y,h1,h2]
   ·rw [if_pos h1,if_neg h2,B4]
    refine⟨(),rfl,?_⟩
    rw [<-hv]
    simp [a8Y,h1,h2]
  ·rw [if_neg h1,B8,<-hv]
   simp [a8Y,h1]
 ·rw [stop,A3,B8,<-hv,List.drop_length];rfl
theorem d0P {t:A7} (h:TxB t):a7G t=some (a40 t):=by
 obtain⟨h1,h2,h3,h4⟩:=h
 have hT:t.2.2.2.2.2.length<=16->a6f t.2.2.2.2.2 ((t.2.2.2.2.2.length:Nat):Int) 0=some (a8Y t.2.2.2.2.2):=fun h5=>by
  unfold a6f
  refine b7j (by omega) () (fun i hi=>?_) ?_
  ·rw [<-L4]
   have hn:=c2O (s:=(t.2.2.2.2.2[i]).1) (Nat.le_trans (h4 _ (List.getElem_mem hi)) (by omega))
   simp only [a4D,C0,E5,B6,A3,decide_eq_true_eq,decide_eq_false_iff_not,Bool.not_eq_true',Bool.not_eq_false',Int.toNat_natCast,D8 hi,hn,E2 (i:=i) (by omega)]
   refine⟨fun _=>⟨by omega,fun e=>?_,fun e=>⟨fun e2=>?_,fun e2=>?_⟩⟩,fun h=>absurd h (by omega)⟩
   ·rw [if_neg (by simp [e])]
   ·rw [if_pos e,if_pos e2]
   ·rw [if_pos e,if_neg e2]
  ·rw [<-L4]
   simp only [a4D,C0,E5,B6,A3,decide_eq_true_eq,decide_eq_false_iff_not,Bool.not_eq_true',Bool.not_eq_false',Int.toNat_natCast]
   exact⟨fun h=>absurd h (by omega),fun _=>trivial⟩
 rw [<-L4]
 simp only [a7G,c2O (Nat.le_trans h1 (by omega:(200000000000000:Nat)<=1000000000000000)),d3w (Nat.le_trans h2 (by omega:(200000000000000:Nat)<=1000000000000000)),C0,B6,A3,decide_eq_true_eq,decide_eq_false_iff_not,Bool.not_eq_true',Bool.not_eq_false']
 unfold a40
 refine⟨fun e=>by rw [if_neg (by simp [e])],fun e=>⟨fun e1=>by rw [if_pos e,if_pos e1],fun e1=>⟨fun e2=>by rw [if_pos e,if_neg e1,if_neg (by simp [e2])],fun e2=>⟨fun e3=>by rw [if_pos e,if_neg e1,if_pos e2,if_pos (by omega)],fun e3=>⟨fun e4=>by rw [if_pos e,if_neg e1,if_pos e2,if_neg (by omega),if_pos (by omega)],fun e4=>?_⟩⟩⟩⟩⟩
 rw [hT (by omega),A3,if_pos e,if_neg e1,if_pos e2,if_neg (by omega),if_neg (by omega)]
theorem c1n {t:A7} (h:TxB t):N7 t=some (a40 t):=by
 obtain⟨h1,h2,h3,h4⟩:=h
 have hT:t.2.2.2.2.2.length<=16->X3 t.2.2.2.2.2 ((t.2.2.2.2.2.length:Nat):Int) 0=some (a8Y t.2.2.2.2.2):=fun h5=>by
  unfold X3
  refine b7j (by omega) () (fun i hi=>?_) ?_
  ·rw [<-L4]
   have hn:=b58 (s:=(t.2.2.2.2.2[i]).1) (Nat.le_trans (h4 _ (List.getElem_mem hi)) (by omega))
   simp only [P5,C0,E5,B6,A3,decide_eq_true_eq,decide_eq_false_iff_not,Bool.not_eq_true',Bool.not_eq_false',Int.toNat_natCast,D8 hi,hn,E2 (i:=i) (by omega)]
   refine⟨fun _=>⟨by omega,fun e=>?_,fun e=>⟨fun e2=>?_,fun e2=>?_⟩⟩,fun h=>absurd h (by omega)⟩
   ·rw [if_neg (by simp [e])]
   ·rw [if_pos e,if_pos e2]
   ·rw [if_pos e,if_neg e2]
  ·rw [<-L4]
   simp only [P5,C0,E5,B6,A3,decide_eq_true_eq,decide_eq_false_iff_not,Bool.not_eq_true',Bool.not_eq_false',Int.toNat_natCast]
   exact⟨fun h=>absurd h (by omega),fun _=>trivial⟩
 rw [<-L4]
 simp only [N7,b58 (Nat.le_trans h1 (by omega:(200000000000000:Nat)<=1000000000000000)),d0M (Nat.le_trans h2 (by omega:(200000000000000:Nat)<=1000000000000000)),C0,B6,A3,decide_eq_true_eq,decide_eq_false_iff_not,Bool.not_eq_true',Bool.not_eq_false']
 unfold a40
 refine⟨fun e=>by rw [if_neg (by simp [e])],fun e=>⟨fun e1=>by rw [if_pos e,if_pos e1],fun e1=>⟨fun e2=>by rw [if_pos e,if_neg e1,if_neg (by simp [e2])],fun e2=>⟨fun e3=>by rw [if_pos e,if_neg e1,if_pos e2,if_pos (by omega)],fun e3=>⟨fun e4=>by rw [if_pos e,if_neg e1,if_pos e2,if_neg (by omega),if_pos (by omega)],fun e4=>?_⟩⟩⟩⟩⟩
 rw [hT (by omega),A3,if_pos e,if_neg e1,if_pos e2,if_neg (by omega),if_neg (by omega)]
theorem TxM.b {t:A7} (h:TxM t):TxB t:=by
 obtain⟨h1,h2,h3,h4,h5,h6,h7⟩:=h
 exact⟨by have:=h1.2;omega,by have:=h5.2;omega,by omega,fun x hx=>by have:=(h7 x hx).1.2;omega⟩
end Go.Proofs.YtbipjlehhlkghaaGreatDoor.Am
