/- Texts laid together: PFieldsSame, PDec. No conditions. -/
import Derived.KernelRfl
import Derived.Test.YtjbgdpjgfjnkbaaGreatDoorQAP
namespace Go.Proofs.YtjbgdpjgfjnkbaaGreatDoor.Am.FSm
open Go
theorem KO {S R:Type} {G1 G2:S->Option (S ⊕ R)} (inv:S->Prop) (h:∀ x,inv x->G1 x=G2 x/\∀ y,G1 x=some (.inl y)->inv y):∀ {x:S},inv x->F8 G1 x=F8 G2 x:=by
 have key:∀ (n:Nat) (x:S),inv x->Kp n G1 x=Kp n G2 x:=by
  intro n
  induction n with
  | zero=>intro x _;rfl
  | succ n ih=>
   intro x hx;obtain⟨h1,h2⟩:=h x hx;unfold Kp;rw [<-h1];cases hg:G1 x with
   | none=>rfl
   | some y=>
    cases y with
    | inl z=>exact ih z (h2 z hg)
    | inr r=>rfl
 intro x hx;exact key _ x hx
theorem IN (op:BinOp) (a b:Int):0<=bits op .u64 a b/\bits op .u64 a b < 18446744073709551616:=by
 unfold bits;rw [IntKind.wrap_u64];omega
theorem ZS {n:Int} (h0:0<=n) (h1:n < 18446744073709551616):bits .and .u64 n 7=n % 8:=by
 obtain⟨m,rfl⟩:∃ m:Nat,n=m:=⟨n.toNat,by omega⟩;have hm:m < 2 ^ 64:=by omega
 unfold bits;rw [IntKind.wrap_u64];have e:(BitVec.ofInt IntKind.u64.bits (m:Int) &&& BitVec.ofInt IntKind.u64.bits 7).toNat=m % 8:=by
  have e1:(BitVec.ofInt IntKind.u64.bits (m:Int)).toNat=m:=by
   rw [a5s];show((m:Int) % ((2 ^ 64:Nat):Int)).toNat=m;omega
  have e2:(BitVec.ofInt IntKind.u64.bits 7).toNat=7:=by rfl
  rw [a5c,e1,e2];exact a4m m 3
 simp only [e];omega
theorem vr (b:List UInt8):jl b=N8 b:=by kernel_rfl
def Sg (b:List UInt8) (r:Int × Int × Int):Prop:=0<=r.1/\r.1 < 18446744073709551616/\0<=r.2.1/\r.2.1<=b.length/\(r.2.2=0->1<=r.2.1)
theorem Cs (b:List UInt8) (hb:b.length<=1000000000):Ok (N8 b) (Sg b):=by
 unfold N8 im;refine eX (S:=List UInt8 × Int × Int) (inv:=λv=>v.1=b/\0<=v.2.1/\v.2.1 < 18446744073709551616/\0<=v.2.2/\v.2.2<=b.length/\v.2.2<=9) (m:=λv=>(10 - v.2.2).toNat) ?_ ⟨rfl,by simp,by simp,by simp,by simp,by simp⟩ (by simp);rintro⟨v0,n,i⟩ ⟨rfl,h1,h2,h3,h4,h5⟩;simp only at h1 h2 h3 h4 h5;have hg:=Im (List.getD v0 (Int.toNat i) (0:UInt8));have hw:A9 (7 * i)=7 * i:=C8 (by omega) (by omega);have hw2:A9 (i + 1)=i + 1:=C8 (by omega) (by omega);have c2:i < v0.length->(i=9->(List.getD v0 (Int.toNat i) (0:UInt8)).toNat < 128)->Ok (Q5 v0 n i) (Nxt (Sg v0) λz=>(z.1=v0/\0<=z.2.1/\z.2.1 < 18446744073709551616/\0<=z.2.2/\z.2.2<=v0.length/\z.2.2<=9)/\(10 - z.2.2).toNat < (10 - i).toNat):=by
  intro hi h9;simp only [Q5,B5,B8,A7,D4,A4,a2W,a2U,a5z,hw,hw2,Sg];have hb2:=IN .or n (D7 (D7 (bits .and .u8 ((UInt8.toNat (List.getD v0 (Int.toNat i) (0:UInt8)):Nat):Int) 127) * 2 ^ (min (Int.toNat (7 * i)) 64)));refine⟨⟨h3,hi⟩,by omega,⟨h3,hi⟩,λh=>⟨hb2.1,hb2.2,by omega,by omega,λ_=>by omega⟩,λh=>⟨⟨trivial,hb2.1,hb2.2,by omega,by omega,?_⟩,by omega⟩⟩;have:i ≠ 9:=λe=>by have:=h9 e;omega
  omega
 have c3:∀ v14:Bool,i < v0.length->(v14=false->i=9->(List.getD v0 (Int.toNat i) (0:UInt8)).toNat < 128)->Ok (Q6 v0 n i v14) (Nxt (Sg v0) λz=>(z.1=v0/\0<=z.2.1/\z.2.1 < 18446744073709551616/\0<=z.2.2/\z.2.2<=v0.length/\z.2.2<=9)/\(10 - z.2.2).toNat < (10 - i).toNat):=by
  intro v14 hi h9;simp only [Q6,B8,A7,D4,A4,a2W,a2U,a5z];refine⟨λ_=>⟨by simp,by simp,by simp,by simp,by simp⟩,λhv=>⟨λ_=>⟨⟨h3,hi⟩,λ_=>⟨by simp,by simp,by simp,by simp,by simp⟩,λ_=>c2 hi (h9 hv)⟩,λ_=>c2 hi (h9 hv)⟩⟩
 simp only [aE,B8,A7,D4,A4,a2W,a2U,a5P];refine⟨λ_=>⟨by simp,by simp,by simp,by simp,by simp⟩,λhi=>⟨λe=>⟨⟨h3,by omega⟩,c3 _ (by omega) λhd _=>?_⟩,λe=>c3 false (by omega) λ_ e'=>absurd e' e⟩⟩;simp only [a2U] at hd;omega
theorem nR {α:Type} (l:List α) (k:Nat):List.drop k (List.take (Int.toNat ((List.length l:Nat):Int)) l)=List.drop k l:=by
 rw [a2T,a3i]
theorem a1i {n:Int} (h0:0<=n) (h1:n < 18446744073709551616):D7 (Int.tdiv n 8)=n / 8:=by
 rw [Int.tdiv_eq_ediv_of_nonneg h0];exact J4 (by omega) (by omega)
theorem a1j {n:Int} (h0:0<=n):Int.tmod n 8=n % 8:=a4N h0
theorem Ct (b:List UInt8) (hb:b.length<=1000000000):mh b=fK b/\Ok (fK b) λr=>0<=r.2.1/\r.2.1<=b.length/\(r.2.2=0->1<=r.2.1):=by
 obtain⟨r,hr,h1,h2,h3,h4,h5⟩:=Cs b hb;have e7:A9 (bits .and .u64 r.1 7)=r.1 % 8:=by rw [ZS h1 h2];exact C8 (by omega) (by omega)
 have e8:A9 (Int.tmod r.1 8)=r.1 % 8:=by rw [a1j h1];exact C8 (by omega) (by omega)
 have e9:r.1 / 2 ^ 3=r.1 / 8:=by rfl
 have ed:=a1i h1 h2;have hc:∀ k d,(r.2.2=0)->eQ b r.2.1 k (r.1 / 8) d=X9 b r.1 r.2.1 k d/\Ok (X9 b r.1 r.2.1 k d) λq=>0<=q.2.1/\q.2.1<=b.length/\(q.2.2=0->1<=q.2.1):=by
  intro k d he;have h5':=h5 he;obtain⟨q,hq,q1,q2,q3,q4,q5⟩:=Cs (List.drop (Int.toNat r.2.1) b) (by rw [a3a];omega);rw [a3a] at q4;have q4':q.2.1<=b.length - r.2.1:=by omega
  have ew:A9 (r.2.1 + q.2.1)=r.2.1 + q.2.1:=C8 (by omega) (by omega);have e1:chk (decide ((0:Int)<=r.2.1/\r.2.1<=((List.length b:Nat):Int)/\((List.length b:Nat):Int)<=((List.length b:Nat):Int)))=λ(x:Option (A6 × Int × Int))=>x:=by
   rw [a2S (by omega)];rfl
  have elen:(List.length (List.drop (Int.toNat (r.2.1 + q.2.1)) b):Int)=b.length - (r.2.1 + q.2.1):=by rw [a3a];omega
  have eu:D7 ((List.length (List.drop (Int.toNat (r.2.1 + q.2.1)) b):Nat):Int)=b.length - (r.2.1 + q.2.1):=by rw [elen];exact J4 (by omega) (by omega)
  have eu2:D7 (A9 (A9 (((List.length b:Nat):Int) - r.2.1) - q.2.1))=b.length - (r.2.1 + q.2.1):=by
   rw [C8 (n:=((List.length b:Nat):Int) - r.2.1) (by omega) (by omega),C8 (by omega) (by omega),J4 (by omega) (by omega)];omega
  unfold eQ X9;rw [e1];simp only [nR,vr,hq,a2X,ew,eu,eu2,ed];cases hz:decide (q.2.2=0) with
  | false=>exact⟨rfl,⟨_,rfl,by simp,by simp,λe=>by simp at hz;exact absurd e hz⟩⟩
  | true=>
   simp only [a3m];have hz':q.2.2=0:=a23 hz;have q5':=q5 hz';cases hk:decide (k=0) with
   | true=>exact⟨rfl,⟨_,rfl,by simp only;omega,by simp only;omega,λ_=>by simp only;omega⟩⟩
   | false=>
    simp only [sel];have c1:decide ((0:Int)<=r.2.1 + q.2.1/\r.2.1 + q.2.1<=((List.length b:Nat):Int)/\((List.length b:Nat):Int)<=((List.length b:Nat):Int))=true:=a2S (by omega);rw [c1];cases hv:decide (b.length - (r.2.1 + q.2.1) < q.1) with
    | true=>exact⟨rfl,⟨_,rfl,by simp,by simp,λe=>by simp at e⟩⟩
    | false=>
     simp only [a2U,a5z] at hv;have ev:A9 q.1=q.1:=C8 (by omega) (by omega);have ev2:A9 (r.2.1 + q.2.1 + q.1)=r.2.1 + q.2.1 + q.1:=C8 (by omega) (by omega);have et:List.drop (Int.toNat (r.2.1 + q.2.1)) (List.take (Int.toNat (r.2.1 + q.2.1 + q.1)) b)=List.take (Int.toNat q.1) (List.drop (Int.toNat (r.2.1 + q.2.1)) b):=by
      rw [List.drop_take];congr 1;omega
     have el:(List.take (Int.toNat q.1) (List.drop (Int.toNat (r.2.1 + q.2.1)) b)).length<=1000000000:=by
      rw [a26,a3a];omega
     simp only [ev,ev2,et];have d1:decide ((0:Int)<=0/\0<=q.1/\q.1<=((List.length (List.drop (Int.toNat (r.2.1 + q.2.1)) b):Nat):Int))=true:=a2S (by rw [elen];omega);have d2:decide ((List.length (List.take (Int.toNat q.1) (List.drop (Int.toNat (r.2.1 + q.2.1)) b))) * 1<=LIM/\(List.length (List.take (Int.toNat q.1) (List.drop (Int.toNat (r.2.1 + q.2.1)) b)))<=LEN)=true:=a2S (by unfold LIM LEN;omega);have d3:decide ((0:Int)<=r.2.1 + q.2.1/\r.2.1 + q.2.1<=r.2.1 + q.2.1 + q.1/\r.2.1 + q.2.1 + q.1<=((List.length b:Nat):Int))=true:=a2S (by omega);have d4:decide ((0 + (List.length (List.take (Int.toNat q.1) (List.drop (Int.toNat (r.2.1 + q.2.1)) b)))) * 1<=LIM/\0 + (List.length (List.take (Int.toNat q.1) (List.drop (Int.toNat (r.2.1 + q.2.1)) b)))<=LEN)=true:=a2S (by unfold LIM LEN;omega);rw [d1,d2,d3,d4];exact⟨rfl,⟨_,rfl,by simp only;omega,by simp only;omega,λ_=>by simp only;omega⟩⟩
 unfold mh fK;simp only [vr,hr,a2X,e7,e8,ed,e9];cases hz:decide (r.2.2=0) with
 | false=>exact⟨rfl,⟨_,rfl,by simp,by simp,λe=>by simp at hz;exact absurd e hz⟩⟩
 | true=>
  have hz':r.2.2=0:=a23 hz;simp only [a3m];cases h1:decide (r.1 / 8 < 1) with
  | true=>exact⟨rfl,⟨_,rfl,by simp,by simp,λe=>by simp at e⟩⟩
  | false=>
   cases h2:decide (536870911 < r.1 / 8) with
   | true=>exact⟨rfl,⟨_,rfl,by simp,by simp,λe=>by simp at e⟩⟩
   | false=>
    cases h3:decide (r.1 % 8=0) with
    | true=>exact hc _ ((0:Int),(0:Int),(0:Int),[]) hz'
    | false=>
     cases h4:decide (r.1 % 8=2) with
     | true=>exact hc _ ((0:Int),(0:Int),(0:Int),[]) hz'
     | false=>exact⟨rfl,⟨_,rfl,by simp,by simp,λe=>by simp at e⟩⟩
theorem fields_same (b:List UInt8) (hb:b.length<=1000000000):gw b=J2 b/\Ok (J2 b) λr=>r.1.length<=1024:=by
 have hd:∀ i:Int,(List.drop (Int.toNat i) b).length<=1000000000:=λi=>by rw [a3a];omega
 refine⟨?_,?_⟩
 ·unfold gw mi J2 fL;refine KO (S:=List UInt8 × Int × List A6) (inv:=λv=>v.1=b/\v.2.2.length<=1024) ?_ ⟨rfl,by simp⟩;rintro⟨v0,i,l⟩ ⟨h0,hl⟩;simp only at h0 hl;subst h0;obtain⟨r,hr,_⟩:=(Ct _ (hd i)).2;have e:=(Ct _ (hd i)).1;have e2:decide (((List.length l:Nat):Int)=1024)=decide (1024<=((List.length l:Nat):Int)):=by
   rw [decide_eq_decide];omega
  have e3:bC v0 i l=I5 v0 i l:=by
   simp only [bC,I5,nR,e,e2];rfl
  refine⟨e3,λy hy=>?_⟩;by_cases hi:0<=i
  ·have h:Ok (I5 v0 i l) (Nxt (λ_=>True) λz=>z.1=v0/\z.2.2.length<=1024):=by
    simp only [I5,nR,hr,a2X,cn,B5,B8,A7,D4,A4,C9,a2W,a2U,a20,a2Z,a5z,a5P];refine⟨λh=>⟨λ_=>trivial,λh4=>⟨⟨hi,by omega,by omega⟩,λ_=>trivial,λh5=>⟨⟨by unfold LIM;omega,by unfold LEN;omega⟩,?_⟩⟩⟩,λ_=>trivial⟩;simp only [a2V,a27,a3l];exact⟨trivial,by omega⟩
   obtain⟨y',e',h'⟩:=h;have hy':bC v0 i l=some (.inl y):=hy;rw [e3,e'] at hy';injection hy' with hy';subst hy';exact h'
  ·exfalso;have hy':bC v0 i l=some (.inl y):=hy;rw [e3] at hy';have:I5 v0 i l=some (.inl y)->0<=i:=by
    unfold I5;cases decide (i < ((List.length v0:Nat):Int)) with
    | false=>intro h;cases h
    | true=>
     cases decide (1024<=((List.length l:Nat):Int)) with
     | true=>intro h;cases h
     | false=>
      intro h;have:=(je h).1;have:=a23 this;exact this.1
   exact hi (this hy')
 ·unfold J2 fL;refine eX (S:=List UInt8 × Int × List A6) (inv:=λv=>v.1=b/\v.2.2.length<=1024/\0<=v.2.1/\v.2.1<=b.length) (m:=λv=>((b.length:Int) - v.2.1).toNat) ?_ ⟨rfl,by simp,by simp,by simp⟩ (by simp;omega);rintro⟨v0,i,l⟩ ⟨h0,hl,hi,hi2⟩;simp only at h0 hl hi hi2;subst h0;obtain⟨r,hr,h1,h2,h3⟩:=(Ct _ (hd i)).2;rw [a3a] at h2;simp only [I5,nR,hr,a2X,cn,B5,B8,A7,D4,A4,C9,a2W,a2U,a20,a2Z,a5z,a5P];refine⟨λh=>⟨λ_=>by simp,λh4=>⟨⟨hi,by omega,by omega⟩,λ_=>by simp,λh5=>⟨⟨by unfold LIM;omega,by unfold LEN;omega⟩,?_⟩⟩⟩,λ_=>hl⟩;have h6:=h3 h5;have ew:A9 (i + r.2.1)=i + r.2.1:=C8 (by omega) (by omega);simp only [ew,a2V,a27,a3l];exact⟨⟨trivial,by omega,by omega,by omega⟩,by omega⟩
end Go.Proofs.YtjbgdpjgfjnkbaaGreatDoor.Am.FSm
namespace Go.Proofs.YtjbgdpjgfjnkbaaGreatDoor.Am
open Go
theorem KP {f:Fld} (h:f.ok=true):f.byt.length<=f.enc.length:=by
 simp only [Fld.ok,a2W] at h;unfold Fld.enc;rw [a2V];split
 ·omega
 ·rw [a2V];omega
theorem wB:∀ {l:List Fld},(∀ f ∈ l,f.ok=true)->∀ f ∈ l,f.byt.length<=(iJ l).length
 | g :: l,h,f,hf=>by
  rw [ng,a2V];rcases List.mem_cons.1 hf with rfl | hf
  ·have:=KP (h f (by simp));omega
  ·have:=wB (λq hq=>h q (by simp [hq])) f hf;omega
theorem pU (b:List UInt8):∀ f ∈ (nr b).1,f.ok=true/\f.val < U64/\f.byt.length<=b.length:=by
 have h:=IL b;by_cases h0:(nr b).2.2=0
 ·obtain⟨_,h2,h3,_⟩:=h.1 h0;intro f hf;have:=wB (λq hq=>(h3 q hq).1) f hf;rw [h2] at this;exact⟨(h3 f hf).1,(h3 f hf).2,this⟩
 ·rw [(h.2 h0).1];intro f hf;cases hf
theorem Eh:∀ (l:List Fld) (x:A0),(∀ f ∈ l,f.val < U64/\f.byt.length<=10000)->TrS x->TrS (l.foldl EJ x)
 | [],_,_,h=>h
 | f :: l,x,hf,h=>by
  refine Eh l (EJ x f) (λg hg=>hf g (by simp [hg])) ?_;have h1:=hf f (by simp);unfold U64 at h1;unfold EJ;split
  ·exact⟨h1.2,h.2⟩
  split
  ·exact⟨h.1,by unfold ri;simp only;omega⟩
  ·exact h
theorem Ui {b:List UInt8} (hb:b.length<=10000):TrS (wN b):=by
 refine Eh _ _ (λf hf=>?_) ⟨by simp,by decide,by decide⟩;have:=pU b f hf;exact⟨this.2.1,by omega⟩
def TxK (k:Nat) (t:C5):Prop:=t.1.length<=10000/\ri t.2.1/\ri t.2.2.1/\ri t.2.2.2.1/\t.2.2.2.2.1.length<=10000/\t.2.2.2.2.2.length<=k/\∀ x ∈ t.2.2.2.2.2,TrS x
theorem Ei:∀ (l:List Fld) (t:C5) (k:Nat),(∀ f ∈ l,f.val < U64/\f.byt.length<=10000)->TxK k t->TxK (k + l.length) (l.foldl sd t)
 | [],_,_,_,h=>h
 | f :: l,t,k,hf,h=>by
  have h1:=hf f (by simp);unfold U64 at h1;have hv:ri ((f.val:Nat):Int):=by unfold ri;omega
  have ih:=Ei l (sd t f) (k + 1) (λg hg=>hf g (by simp [hg])) (by
   obtain⟨a1,a2,a3,a4,a5,a6,a7⟩:=h;unfold sd;split
   ·exact⟨h1.2,a2,a3,a4,a5,a3u a6,a7⟩
   split
   ·exact⟨a1,hv,a3,a4,a5,a3u a6,a7⟩
   split
   ·exact⟨a1,a2,hv,a4,a5,a3u a6,a7⟩
   split
   ·exact⟨a1,a2,a3,hv,a5,a3u a6,a7⟩
   split
   ·exact⟨a1,a2,a3,a4,h1.2,a3u a6,a7⟩
   split
   ·refine⟨a1,a2,a3,a4,a5,by simp only [a2V,a27,a3l];omega,λx hx=>?_⟩;rcases List.mem_append.1 hx with hx | hx
    ·exact a7 x hx
    ·simp only [a3o] at hx;subst hx;exact Ui h1.2
   ·exact⟨a1,a2,a3,a4,a5,a3u a6,a7⟩)
  rw [a4b,a27,show k + (l.length + 1)=k + 1 + l.length by omega];exact ih
theorem Zt {l:List Fld} (hl:l.length<=2000) (h:∀ f ∈ l,f.val < U64/\f.byt.length<=10000):TxS (Az l):=by
 have:=Ei l jZ 0 h ⟨by simp [jZ],⟨by decide,by decide⟩,⟨by decide,by decide⟩,⟨by decide,by decide⟩,by simp [jZ],by simp [jZ],by simp [jZ]⟩;obtain⟨a1,a2,a3,a4,a5,a6,a7⟩:=this;exact⟨a1,a2,a3,a4,a5,by unfold Az;omega,a7⟩
theorem TxS.b {t:C5} (h:TxS t):TxB t:=by
 obtain⟨a1,_,_,_,a5,a6,a7⟩:=h;exact⟨by omega,by omega,by omega,λx hx=>by have:=(a7 x hx).1;omega⟩
theorem Si {L:List Fld} {raw:List UInt8} (hL:∀ f ∈ L,f.ok=true/\f.val < U64/\f.byt.length < U64) (h:iJ L=raw) (h0:(nr raw).2.2=0):(nr raw).1=L:=by
 subst h;rcases a3O 1024 L.length with hl | hl
 ·have:=Ax L ((iJ L).length + 1) 0 [] (by omega) (by simp) (by simpa using hl) hL;rw [nr,this] at h0;cases h0
 ·rw [yM L hl hL]
def gR (raw:List UInt8):C5 × Int:=
 if 4096 < raw.length then(jZ,3) else if(nr raw).2.2 ≠ 0 then(jZ,4) else if iJ (txF (Az (nr raw).1))=raw then
  (if kq (Az (nr raw).1)=0 then(Az (nr raw).1,0) else(jZ,kq (Az (nr raw).1))) else(jZ,4)
theorem Wc {raw:List UInt8} (h:raw.length<=4096):TxS (Az (nr raw).1):=Zt (by have:=sE raw;omega) (λf hf=>by have:=pU raw f hf;exact⟨this.2.1,by omega⟩)
theorem Ej {raw:List UInt8} (hraw:raw.length<=140737488351232):ml raw=some (gR raw):=by
 rw [<-J3];unfold gR;have hz:(([],(0:Int),(0:Int),(0:Int),[],[]):C5)=jZ:=rfl;by_cases h:4096 < raw.length
 ·rw [a28 h];simp only [ml,A7,A5,A4,a2W,a2U,a20,a2Z,hz];exact⟨λ_=>trivial,λhc=>absurd hc (by omega)⟩
 ·rw [a25 h];have hs:=Wc (raw:=raw) (by omega);have hr:=Cs (nr raw).1 (by have:=sE raw;omega) (λf hf=>by have:=pU raw f hf;omega);simp only [ml,A7,A5,A4,a2W,a2U,a20,a2Z,hz,oi raw (by omega),hr,KM hs,qj,Sd hs.b];refine⟨λhc=>absurd hc (by omega),λ_=>⟨λh1=>?_,λh1=>⟨λh2=>?_,λh2=>⟨λh3=>?_,λh3=>?_⟩⟩⟩⟩
  ·rw [a28 (by omega)]
  ·rw [a25 (by omega),a25 h2]
  ·rw [a25 (by omega),a28 h2,a25 h3]
  ·rw [a25 (by omega),a28 h2,a28 h3]
def KQ (f:Fld):Prop:=(f.num=1/\f.kind=2)\/(f.num=2/\f.kind=0)
instance (f:Fld):Decidable (KQ f):=by unfold KQ;infer_instance
def zB (b:List UInt8):Bool:=(nr b).1.all (λf=>decide (KQ f)) && (decide ((nr b).2.2=0) && decide (iJ (trF (wN b))=b))
theorem Uj {l:List Fld} {p:Fld->Bool} {i:Nat} (h:i < l.length) (hn:p l[i]=false):l.all p=false:=by
 rw [List.all_eq_false];exact⟨l[i],a29 h,by simp [hn]⟩
theorem OJ {l:List Fld} {p:Fld->Bool} (h:∀ j (hj:j < l.length),p l[j]=true):l.all p=true:=by
 rw [a4f];intro x hx;obtain⟨j,hj,rfl⟩:=List.mem_iff_getElem.1 hx;exact h j hj
theorem Ek {b:List UInt8} (hb:b.length<=10000):Ok (co b) λr=>r.2=zB b/\(zB b=true->r.1=wN b):=by
 have hl:=sE b;have hs:=Ui hb;have hf:=oi b (by omega);rw [(FSm.fields_same b (by omega)).1] at hf;unfold co;rw [hf,a2X];have hT:wN b=(nr b).1.foldl EJ ([],0):=rfl;have hR:zB b=((nr b).1.all (λf=>decide (KQ f)) && (decide ((nr b).2.2=0) && decide (iJ (trF (wN b))=b))):=rfl;generalize hq:(nr b).1=l at *
 generalize (nr b).2.2=err at *
 have hm:(l.map toF).length=l.length:=a3d ..;unfold iM;refine D8 (l.map toF) (λi (x:A0)=>(b,((err:Nat):Int),(((l.map toF).length:Nat):Int),((i:Nat):Int),(([],(0:Int)):A0),x,l.map toF)) (λi x=>(∀ j (hj:j < l.length),j < i->KQ l[j])/\(l.drop i).foldl EJ x=wN b) (λi x hi hv=>?_) (λx hv=>?_) ⟨λj hj h=>by omega,by rw [hT];rfl⟩ (by omega)
 ·obtain⟨hv1,hv2⟩:=hv;have hi':i < l.length:=by omega
  have q3:List.getD (l.map toF) i E4=toF l[i]:=by rw [E0 hi,a4e]
  have qn:(toF l[i]).1=l[i].num:=rfl;have qk:(toF l[i]).2.1=l[i].kind:=rfl;rw [a3M hi',a4b] at hv2;have no:¬ KQ l[i]->∀ y:A0,(false=zB b/\(zB b=true->y=wN b)):=λhn y=>by
   have e:zB b=false:=by rw [hR,Uj hi' (by simpa using hn)];rfl
   rw [e];exact⟨rfl,λh=>by cases h⟩
  have yes:KQ l[i]->∀ y:A0,y=EJ x l[i]->∃ b':A0,((b,((err:Nat):Int),(((l.map toF).length:Nat):Int),((i + 1:Nat):Int),(([],(0:Int)):A0),y,l.map toF):List UInt8 × Int × Int × Int × A0 × A0 × List A6)=(b,((err:Nat):Int),(((l.map toF).length:Nat):Int),((i + 1:Nat):Int),(([],(0:Int)):A0),b',l.map toF)/\(∀ j (hj:j < l.length),j < i + 1->KQ l[j])/\(l.drop (i + 1)).foldl EJ b'=wN b:=λho y hy=>by
   refine⟨y,rfl,λj hj hlt=>?_,by rw [hy];exact hv2⟩;by_cases e:j=i
   ·subst e;exact ho
   ·exact hv1 j hj (by omega)
  simp only [Y7,Y6,Y5,A7,D4,A4,C9,B5,B8,a2W,a2U,a2T,q3,qn,qk,D2 (i:=i) (by omega)];refine⟨λ_=>⟨by omega,by omega,λh1=>⟨λh2=>?_,λh2=>⟨λh3=>?_,λh3=>⟨λh4=>?_,λh4=>?_⟩⟩⟩,λh1=>⟨λh2=>?_,λh2=>⟨λh3=>⟨λh4=>?_,λh4=>?_⟩,λh3=>⟨λh4=>?_,λh4=>?_⟩⟩⟩⟩,λhc=>absurd hc (by omega)⟩
  all_goals first
   | (exfalso;omega)
   | contradiction
   | exact no (by unfold KQ;omega) _
   | (refine yes (by unfold KQ;omega) _ ?_;unfold EJ;rw [a28 h1];rfl)
   | (refine yes (by unfold KQ;omega) _ ?_;unfold EJ;rw [a25 h1,a28 h3];rfl)
   | skip
 ·obtain⟨hv1,hv2⟩:=hv;rw [hm,a4g] at hv2;have hx:x=wN b:=hv2;subst hx;have hall:l.all (λf=>decide (KQ f))=true:=OJ λj hj=>by simpa using hv1 j hj (by omega)
  have q1:=Cr (l:=[]) (n:=1) (s:=(wN b).1) (by simp) (by have:=hs.1;omega);rw [a3E] at q1;have q2:=pS (l:=(rh 1 (wN b).1).map toF) (n:=2) (by rw [a3d];have:=nQ 1 (wN b).1;omega) hs.2;rw [<-a3g] at q2;have q4:=vY (l:=trF (wN b)) (by omega) (OE hs) (by unfold trF;rw [a2V];have:=nQ 1 (wN b).1;have:=oK 2 (wN b).2;omega);have q4':E5 (List.map toF (rh 1 (wN b).1 ++ ph 2 (wN b).2))=some (iJ (trF (wN b))):=q4;simp only [Y7,dL,A7,D4,A5,A4,C9,B8,a2W,a2U,a2T,q1,q2,q4',G6];refine⟨λhc=>absurd hc (by omega),λ_=>⟨λh1=>⟨?_,λ_=>trivial⟩,λh1=>⟨?_,λ_=>trivial⟩⟩⟩
  ·rw [hR,hall,a2S (show err=0 by omega)];rfl
  ·rw [hR,hall,a2Y (show ¬ err=0 by omega)];rfl
def GF (f:Fld):Prop:=(f.num=1/\f.kind=2)\/(f.num=2/\f.kind=0)\/(f.num=3/\f.kind=0)\/(f.num=4/\f.kind=0)\/(f.num=5/\f.kind=2)\/(f.num=6/\f.kind=2/\zB f.byt=true)
instance (f:Fld):Decidable (GF f):=by unfold GF;infer_instance
end Go.Proofs.YtjbgdpjgfjnkbaaGreatDoor.Am
