/- Texts laid together: PFld, PWt, RowG. No conditions. -/
import Derived.Test.YtjbgdpjgfjnkbaaGreatDoorQAH
import Derived.Test.YtjbgdpjgfjnkbaaGreatDoorCards
import Derived.Lib.LaidU8
import Derived.Lay
import Derived.SevenTiedAt
import Derived.KernelRfl
namespace Go.Proofs.YtjbgdpjgfjnkbaaGreatDoor.Am
open Go
structure Fld where
 num:Int
 kind:Int
 val:Nat
 byt:List UInt8
def Fld.zero:Fld:=⟨0,0,0,[]⟩
def Fld.ok (f:Fld):Bool:=decide (1<=f.num/\f.num<=536870911/\(f.kind=0/\f.byt.length=0\/f.kind=2/\f.val=0))
def Fld.tag (f:Fld):Nat:=(8 * f.num + f.kind).toNat
def Fld.enc (f:Fld):List UInt8:=Proofs.YtjbgdpjgfjnkbaaGreatDoor.Am.enc f.tag ++ if f.kind=0 then Proofs.YtjbgdpjgfjnkbaaGreatDoor.Am.enc f.val else Proofs.YtjbgdpjgfjnkbaaGreatDoor.Am.enc f.byt.length ++ f.byt
theorem Fld.tag_lt (f:Fld) (h:f.ok=true):f.tag < U64/\(f.tag:Int)=8 * f.num + f.kind/\f.tag < 4294967296:=by
 simp only [Fld.ok,a2W] at h;unfold Fld.tag U64;omega
def jY (b:List UInt8):Fld × Nat × Nat:=
 if(rd b).2.2 ≠ 0 then(Fld.zero,0,(rd b).2.2)
 else if(rd b).1 / 8 < 1\/536870911 < (rd b).1 / 8\/((rd b).1 % 8 ≠ 0/\(rd b).1 % 8 ≠ 2) then(Fld.zero,0,4)
 else if(rd (b.drop (rd b).2.1)).2.2 ≠ 0 then(Fld.zero,0,(rd (b.drop (rd b).2.1)).2.2)
 else if(rd b).1 % 8=0 then(⟨((rd b).1 / 8:Nat),0,(rd (b.drop (rd b).2.1)).1,[]⟩,(rd b).2.1 + (rd (b.drop (rd b).2.1)).2.1,0)
 else if b.length - (rd b).2.1 - (rd (b.drop (rd b).2.1)).2.1 < (rd (b.drop (rd b).2.1)).1 then(Fld.zero,0,5)
 else(⟨((rd b).1 / 8:Nat),2,0,(b.drop ((rd b).2.1 + (rd (b.drop (rd b).2.1)).2.1)).take (rd (b.drop (rd b).2.1)).1⟩,(rd b).2.1 + (rd (b.drop (rd b).2.1)).2.1 + (rd (b.drop (rd b).2.1)).1,0)
theorem wz (b:List UInt8):(jY b).2.1<=b.length/\((jY b).2.2=0->1<=(jY b).2.1)/\(jY b).2.2 < 7/\(jY b).1.byt.length<=b.length:=by
 have h1:=KH b;have h2:=KH (b.drop (rd b).2.1);have h3:=(Ea b).2;rw [a3a] at h2;unfold jY;split
 ·simp [Fld.zero];omega
 split
 ·simp [Fld.zero]
 split
 ·simp [Fld.zero];omega
 rename_i e1 _ e2;have e1':(rd b).2.2=0:=by omega
 have:=h3 e1';split
 ·simp;omega
 split
 ·simp [Fld.zero]
 ·simp;omega
def tj:Nat->List UInt8->Nat->List Fld->List Fld × Nat × Nat
 | 0,_,_,acc=>(acc,0,0)
 | k + 1,b,at_,acc=>if b.length=0 then(acc,0,0) else if acc.length=1024 then([],at_,3) else if(jY b).2.2 ≠ 0 then([],at_,(jY b).2.2)
  else tj k (b.drop (jY b).2.1) (at_ + (jY b).2.1) (acc ++ [(jY b).1])
def nr (b:List UInt8):List Fld × Nat × Nat:=tj (b.length + 1) b 0 []
def iJ (l:List Fld):List UInt8:=(l.map Fld.enc).flatten
theorem ng (l:List Fld) (f:Fld):iJ (f :: l)=f.enc ++ iJ l:=by unfold iJ;simp
theorem Oz (b:List UInt8) (h:(jY b).2.2=0):(jY b).1.ok=true/\(jY b).1.enc=b.take (jY b).2.1/\(jY b).1.val < U64:=by
 have i1:=Ea b;have i2:=Ea (b.drop (rd b).2.1);have l1:=KH b;have l2:=KH (b.drop (rd b).2.1);unfold jY at h ⊢;generalize hr:rd b=r at *
 obtain⟨t,z,e⟩:=r;generalize hr2:rd (b.drop z)=r2 at *
 obtain⟨t2,z2,e2⟩:=r2;simp only at i1 i2 l1 l2 h ⊢;by_cases h0:e=0
 ·subst h0;rw [a25 (by simp)] at h ⊢;obtain⟨a1,a2,a3,a4⟩:=i1.2 rfl;by_cases h1:t / 8 < 1\/536870911 < t / 8\/(t % 8 ≠ 0/\t % 8 ≠ 2)
  ·rw [a28 h1] at h;simp at h
  rw [a25 h1] at h ⊢;by_cases h2:e2=0
  ·subst h2;rw [a25 (by simp)] at h ⊢;obtain⟨c1,c2,c3,c4⟩:=i2.2 rfl;by_cases h3:t % 8=0
   ·rw [a28 h3];refine⟨?_,?_,by simpa using c4⟩
    ·simp [Fld.ok];omega
    ·have ht:(Fld.tag ⟨((t / 8:Nat):Int),0,t2,[]⟩)=t:=by unfold Fld.tag;simp only;omega
     simp only [Fld.enc];rw [ht,a3];simp only [a3H];rw [c3,a5f]
   ·rw [a25 h3] at h ⊢;by_cases h4:b.length - z - z2 < t2
    ·rw [a28 h4] at h;simp at h
    ·rw [a25 h4];refine⟨?_,?_,by unfold U64;simp⟩
     ·simp [Fld.ok];omega
     ·have ht:(Fld.tag ⟨((t / 8:Nat):Int),2,0,(b.drop (z + z2)).take t2⟩)=t:=by unfold Fld.tag;simp only;omega
      have hlen:((b.drop (z + z2)).take t2).length=t2:=by simp;omega
      simp only [Fld.enc];rw [ht,a3,a25 (by decide),hlen,c3,<-a3c,<-a5f,<-a5f]
  ·rw [a28 h2] at h;simp at h;omega
 ·rw [a28 h0] at h;simp at h;omega
theorem Eb:∀ (k:Nat) (b:List UInt8) (a:Nat) (acc:List Fld),b.length < k->
  ((tj k b a acc).2.2=0->(tj k b a acc).2.1=0/\∃ m,(tj k b a acc).1=acc ++ m/\iJ m=b/\(∀ f ∈ m,f.ok=true/\f.val < U64)/\(acc.length<=1024->acc.length + m.length<=1024))/\
  ((tj k b a acc).2.2 ≠ 0->(tj k b a acc).1=[]/\(tj k b a acc).2.1 < a + b.length)
 | 0,_,_,_,h=>by omega
 | k + 1,b,a,acc,h=>by
  rw [tj];by_cases h1:b.length=0
  ·rw [a28 h1];exact⟨λ_=>⟨rfl,[],by simp,by rw [a3e h1];rfl,by simp,by simp⟩,λh=>absurd rfl h⟩
  rw [a25 h1];by_cases h2:acc.length=1024
  ·rw [a28 h2];simp;omega
  rw [a25 h2];by_cases h3:(jY b).2.2=0
  ·rw [a25 (by simpa using h3)];have hb:=wz b;have hs:=hb.2.1 h3;obtain⟨i1,i2,i3⟩:=Oz b h3;have ih:=Eb k (b.drop (jY b).2.1) (a + (jY b).2.1) (acc ++ [(jY b).1]) (by rw [a3a];omega);refine⟨λh0=>?_,λh0=>?_⟩
   ·obtain⟨j1,m,j2,j3,j4,j5⟩:=ih.1 h0;clear ih;refine⟨j1,(jY b).1 :: m,by rw [j2];simp,by rw [ng,j3,i2,a3q],?_,λhl=>?_⟩
    ·intro f hf;rcases List.mem_cons.1 hf with rfl | hf
     ·exact⟨i1,i3⟩
     ·exact j4 f hf
    ·have:=j5 (by rw [a2V,a3f];omega);rw [a2V,a3f] at this;rw [a27];omega
   ·obtain⟨j1,j2⟩:=ih.2 h0;rw [a3a] at j2;clear ih;have hb1:=hb.1;exact⟨j1,by omega⟩
  ·rw [a28 (by simpa using h3)];refine⟨λh0=>absurd h0 h3,λ_=>⟨rfl,by simp;omega⟩⟩
theorem IL (b:List UInt8):((nr b).2.2=0->(nr b).2.1=0/\iJ (nr b).1=b/\(∀ f ∈ (nr b).1,f.ok=true/\f.val < U64)/\(nr b).1.length<=1024)/\
  ((nr b).2.2 ≠ 0->(nr b).1=[]/\(nr b).2.1 < b.length):=by
 have h:=Eb (b.length + 1) b 0 [] (by omega);refine⟨λh0=>?_,λh0=>?_⟩
 ·obtain⟨h1,m,h2,h3,h4,h5⟩:=h.1 h0;rw [nr,h2] at *
  exact⟨h1,by simpa using h3,by simpa using h4,by simpa using h5⟩
 ·obtain⟨h1,h2⟩:=h.2 h0;exact⟨h1,by rw [nr];omega⟩
theorem Ec (f:Fld) (t:List UInt8) (hok:f.ok=true) (hv:f.val < U64) (hb:f.byt.length < U64):jY (f.enc ++ t)=(f,f.enc.length,0):=by
 have htag:=Fld.tag_lt f hok;simp only [Fld.ok,a2W] at hok;obtain⟨num,kind,val,byt⟩:=f;simp only at hok hv hb htag;have e8:(8 * num + kind).toNat / 8=num.toNat:=by omega
 simp only [Fld.enc,Fld.tag] at htag ⊢;rcases hok.2.2 with⟨hk,hl⟩ | ⟨hk,hl⟩
 ·subst hk;have hby:byt=[]:=a3e hl;subst hby
  rw [a28 rfl,a3c];have r1:=IK (8 * num + 0).toNat (enc val ++ t) htag.1;have r2:=IK val t hv;unfold jY;rw [r1];simp only [ne_eq,not_true_eq_false,a3y,a3F,r2];rw [a25 (by omega),a28 (by omega)];simp only [a2V];congr 2;omega
 ·subst hk;subst hl;rw [a25 (by omega),a3c,a3c];have r1:=IK (8 * num + 2).toNat (enc byt.length ++ (byt ++ t)) htag.1;have r2:=IK byt.length (byt ++ t) hb;unfold jY;rw [r1];simp only [ne_eq,not_true_eq_false,a3y,a3F,r2];rw [a25 (by omega),a25 (by omega),a25 (by simp only [a2V];omega)];have d1:(enc (8 * num + 2).toNat ++ (enc byt.length ++ (byt ++ t))).drop ((enc (8 * num + 2).toNat).length + (enc byt.length).length)=byt ++ t:=by
   rw [<-a3c,<-a2V,a3F]
  rw [d1,a3Q];simp only [a2V];have e9:(((8 * num + 2).toNat / 8:Nat):Int)=num:=by omega
  rw [e9];congr 2;omega
theorem enc_pos (n:Nat):1<=(enc n).length:=by
 by_cases h:n < 128
 ·rw [DY n h];simp
 ·rw [DX n (by omega)];simp
theorem Fld.enc_pos (f:Fld):1<=f.enc.length:=by
 have:=Proofs.YtjbgdpjgfjnkbaaGreatDoor.Am.enc_pos f.tag;unfold Fld.enc;rw [a2V];omega
theorem Aw:∀ (l:List Fld) (k a:Nat) (acc:List Fld),(iJ l).length < k->acc.length + l.length<=1024->(∀ f ∈ l,f.ok=true/\f.val < U64/\f.byt.length < U64)->tj k (iJ l) a acc=(acc ++ l,0,0)
 | [],0,_,_,h,_,_=>by omega
 | [],k + 1,a,acc,_,_,_=>by rw [tj];simp [iJ]
 | f :: l,0,_,_,h,_,_=>by omega
 | f :: l,k + 1,a,acc,h,hl,hf=>by
  have hp:=Fld.enc_pos f;rw [ng,a2V] at h;rw [a27] at hl;have h1:=hf f (by simp);have hr:=Ec f (iJ l) h1.1 h1.2.1 h1.2.2;rw [ng,tj,a25 (by rw [a2V];omega),a25 (by omega),hr];simp only [ne_eq,not_true_eq_false,a3y,a3F];rw [Aw l k _ _ (by omega) (by rw [a2V,a3f];omega) (λg hg=>hf g (by simp [hg]))];simp
theorem yM (l:List Fld) (hl:l.length<=1024) (hf:∀ f ∈ l,f.ok=true/\f.val < U64/\f.byt.length < U64):nr (iJ l)=(l,0,0):=by
 rw [nr,Aw l _ 0 [] (by omega) (by simpa using hl) hf];rfl
theorem Ax:∀ (l:List Fld) (k a:Nat) (acc:List Fld),(iJ l).length < k->acc.length<=1024->1024 < acc.length + l.length->(∀ f ∈ l,f.ok=true/\f.val < U64/\f.byt.length < U64)->
  tj k (iJ l) a acc=([],a + (iJ (l.take (1024 - acc.length))).length,3)
 | [],_,_,_,_,h,h',_=>by simp at h';omega
 | f :: l,0,_,_,h,_,_,_=>by omega
 | f :: l,k + 1,a,acc,h,ha,hl,hf=>by
  have hp:=Fld.enc_pos f;rw [ng,a2V] at h;rw [a27] at hl;have h1:=hf f (by simp);have hr:=Ec f (iJ l) h1.1 h1.2.1 h1.2.2;rw [ng,tj,a25 (by rw [a2V];omega)];by_cases h2:acc.length=1024
  ·rw [a28 h2,h2];simp [iJ]
  ·rw [a25 h2,hr];simp only [ne_eq,not_true_eq_false,a3y,a3F];rw [Ax l k _ _ (by omega) (by rw [a2V,a3f];omega) (by rw [a2V,a3f];omega) (λg hg=>hf g (by simp [hg]))];rw [a2V,a3f];obtain⟨q,hq⟩:∃ q,1024 - acc.length=q + 1:=⟨1024 - acc.length - 1,by omega⟩;rw [hq,a3X,ng,a2V,show 1024 - (acc.length + 1)=q from by omega];congr 2;omega
theorem Jm {n:Int} (h:wfU (.int .i64) n): -9223372036854775808<=n/\n<=9223372036854775807:=by
 have h':IntKind.i64.min<=n/\n<=IntKind.i64.max:=h;simpa [IntKind.min,IntKind.max,IntKind.signed,IntKind.bits] using h'
end Go.Proofs.YtjbgdpjgfjnkbaaGreatDoor.Am
namespace Go.Proofs.YtjbgdpjgfjnkbaaGreatDoor.Am
open Go Go.Proofs Go.Lib
noncomputable def ot:List (String × DataW Unit):=[("unicode/utf8.acceptRanges",Rows.laid_unicode_utf8_acceptRanges),("unicode/utf8.first",Rows.laid_unicode_utf8_first)]
theorem Tg:(Rows.laid_unicode_utf8_first:DataW Unit)=Lib.firstData:=by kernel_rfl
theorem PI:(Rows.laid_unicode_utf8_acceptRanges:DataW Unit)=Lib.acceptData:=by kernel_rfl
theorem a1r:U8Extra Tryz.prog Tryz.decode_ren:=⟨by kernel_rfl,by kernel_rfl,by kernel_rfl,by kernel_rfl,by kernel_rfl,by kernel_rfl,by kernel_rfl⟩
theorem EF {W:World} (h:laidMetH Tryz.prog ot W):Lib.Utf8Tabs 2 3 W:=by
 rw [MakeChecks.laidMetH_plain _ _ _ (by kernel_rfl)] at h;have h4:=Lib.laidMet.reads h (.head _);have h3:=Lib.laidMet.reads h (.tail _ (.head _));rw [Tg] at h3;rw [PI] at h4;exact utf8Tabs_of_reads (ρ:=Tryz.decode_ren) {Tryz.decode with} a1r h3 h4
theorem GU {w:World} {b o:Nat} {v:Value} (h:w.cell? ⟨b,o,none⟩=some v):b < w.heap.size:=by
 rcases a3O b w.heap.size with h1 | h1
 ·exact h1
 ·have:w.heap[b]?=none:=Array.getElem?_eq_none h1;simp [World.cell?,this] at h
theorem ni {W:World} (h:laidMetH Tryz.prog ot W):Tj (Old W) W:=by
 obtain⟨h1,h2⟩:=EF h;have key:∀ g j v,GT g j=some v->W.cell? ⟨g,j,none⟩=some v:=by
  intro g j v e;by_cases h0:g=2
  ·subst h0;by_cases hj:j < 256
   ·simp [GT,hj] at e;rw [h1 j hj,<-e]
   ·simp [GT,hj] at e
  ·by_cases h3:g=3
   ·subst h3;by_cases hj:j < 32
    ·simp [GT,hj] at e;by_cases hm:j % 2=0
     ·have:=(h2 (j / 2) (by omega)).1;rw [show 2 * (j / 2)=j by omega] at this;rw [a28 hm] at e;rw [this,<-e]
     ·have:=(h2 (j / 2) (by omega)).2;rw [show 2 * (j / 2) + 1=j by omega] at this;rw [a25 hm] at e;rw [this,<-e]
    ·simp [GT,hj] at e
   ·exfalso;unfold GT at e;split at e
    ·exact h0 rfl
    ·exact h3 rfl
    ·cases e
 exact λg j v e=>⟨key g j v e,GU (key g j v e)⟩
end Go.Proofs.YtjbgdpjgfjnkbaaGreatDoor.Am
