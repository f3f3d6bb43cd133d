/- Texts laid together: PFld, PWt, RowG. No conditions. -/
import Derived.Test.YtbipjlehhlkghaaGreatDoorQAE
import Derived.Test.YtbipjlehhlkghaaGreatDoorQAB
import Derived.Test.YtbipjlehhlkghaaGreatDoorQAC
import Derived.Test.YtbipjlehhlkghaaGreatDoorCards
import Derived.Lib.LaidU8
import Derived.Lay
import Derived.SevenTiedAt
import Derived.KernelRfl
namespace Go.Proofs.YtbipjlehhlkghaaGreatDoor.Am
open Go
structure Fld where
 num:Int
 kind:Int
 val:Nat
 byt:List UInt8
def Fld.zero:Fld:=⟨0,0,0,[]⟩
def Fld.ok (f:Fld):Bool:=decide (1<=f.num/\f.num<=536870911/\(f.kind=0/\f.byt.length=0\/f.kind=2/\f.val=0))
def Fld.tag (f:Fld):Nat:=(8 * f.num + f.kind).toNat
def Fld.enc (f:Fld):List UInt8:=Proofs.YtbipjlehhlkghaaGreatDoor.Am.enc f.tag ++ if f.kind=0 then Proofs.YtbipjlehhlkghaaGreatDoor.Am.enc f.val else Proofs.YtbipjlehhlkghaaGreatDoor.Am.enc f.byt.length ++ f.byt
theorem Fld.tag_lt (f:Fld) (h:f.ok=true):f.tag < U64/\(f.tag:Int)=8 * f.num + f.kind/\f.tag < 4294967296:=by
 simp only [Fld.ok,decide_eq_true_eq] at h
 unfold Fld.tag U64
 omega
def a4z (b:List UInt8):Fld × Nat × Nat:=
 if(rd b).2.2 ≠ 0 then(Fld.zero,0,(rd b).2.2)
 else if(rd b).1 / 8 < 1\/536870911 < (rd b).1 / 8\/((rd b).1 % 8 ≠ 0/\(rd b).1 % 8 ≠ 2) then(Fld.zero,0,4)
 else if(rd (b.drop (rd b).2.1)).2.2 ≠ 0 then(Fld.zero,0,(rd (b.drop (rd b).2.1)).2.2)
 else if(rd b).1 % 8=0 then(⟨((rd b).1 / 8:Nat),0,(rd (b.drop (rd b).2.1)).1,[]⟩,(rd b).2.1 + (rd (b.drop (rd b).2.1)).2.1,0)
 else if b.length - (rd b).2.1 - (rd (b.drop (rd b).2.1)).2.1 < (rd (b.drop (rd b).2.1)).1 then(Fld.zero,0,5)
 else(⟨((rd b).1 / 8:Nat),2,0,(b.drop ((rd b).2.1 + (rd (b.drop (rd b).2.1)).2.1)).take (rd (b.drop (rd b).2.1)).1⟩,(rd b).2.1 + (rd (b.drop (rd b).2.1)).2.1 + (rd (b.drop (rd b).2.1)).1,0)
theorem b5C (b:List UInt8):(a4z b).2.1<=b.length/\((a4z b).2.2=0->1<=(a4z b).2.1)/\(a4z b).2.2 < 7/\(a4z b).1.byt.length<=b.length:=by
 have h1:=c5L b
 have h2:=c5L (b.drop (rd b).2.1)
 have h3:=(c1i b).2
 rw [List.length_drop] at h2
 unfold a4z
 split
 ·simp [Fld.zero];omega
 split
 ·simp [Fld.zero]
 split
 ·simp [Fld.zero];omega
 rename_i e1 _ e2
 have e1':(rd b).2.2=0:=by omega
 have:=h3 e1'
 split
 ·simp;omega
 split
 ·simp [Fld.zero]
 ·simp;omega
def b2l:Nat->List UInt8->Nat->List Fld->List Fld × Nat × Nat
 | 0,_,_,acc=>(acc,0,0)
 | k + 1,b,at_,acc=>if b.length=0 then(acc,0,0) else if acc.length=1024 then([],at_,3) else if(a4z b).2.2 ≠ 0 then([],at_,(a4z b).2.2)
  else b2l k (b.drop (a4z b).2.1) (at_ + (a4z b).2.1) (acc ++ [(a4z b).1])
def a8X (b:List UInt8):List Fld × Nat × Nat:=b2l (b.length + 1) b 0 []
def a3l (l:List Fld):List UInt8:=(l.map Fld.enc).flatten
theorem a6V (l:List Fld) (f:Fld):a3l (f :: l)=f.enc ++ a3l l:=by unfold a3l;simp
theorem c8s (b:List UInt8) (h:(a4z b).2.2=0):(a4z b).1.ok=true/\(a4z b).1.enc=b.take (a4z b).2.1/\(a4z b).1.val < U64:=by
 have i1:=c1i b
 have i2:=c1i (b.drop (rd b).2.1)
 have l1:=c5L b
 have l2:=c5L (b.drop (rd b).2.1)
 unfold a4z at h ⊢
 generalize hr:rd b=r at *
 obtain⟨t,z,e⟩:=r
 generalize hr2:rd (b.drop z)=r2 at *
 obtain⟨t2,z2,e2⟩:=r2
 simp only at i1 i2 l1 l2 h ⊢
 by_cases h0:e=0
 ·subst h0
  rw [if_neg (by simp)] at h ⊢
  obtain⟨a1,a2,a3,a4⟩:=i1.2 rfl
  by_cases h1:t / 8 < 1\/536870911 < t / 8\/(t % 8 ≠ 0/\t % 8 ≠ 2)
  ·rw [if_pos h1] at h;simp at h
  rw [if_neg h1] at h ⊢
  by_cases h2:e2=0
  ·subst h2
   rw [if_neg (by simp)] at h ⊢
   obtain⟨c1,c2,c3,c4⟩:=i2.2 rfl
   by_cases h3:t % 8=0
   ·rw [if_pos h3]
    refine⟨?_,?_,by simpa using c4⟩
    ·simp [Fld.ok];omega
    ·have ht:(Fld.tag ⟨((t / 8:Nat):Int),0,t2,[]⟩)=t:=by unfold Fld.tag;simp only;omega
     simp only [Fld.enc]
     rw [ht,a3]
     simp only [if_true]
     rw [c3,List.take_add]
   ·rw [if_neg h3] at h ⊢
    by_cases h4:b.length - z - z2 < t2
    ·rw [if_pos h4] at h;simp at h
    ·rw [if_neg h4]
     refine⟨?_,?_,by unfold U64;simp⟩
     ·simp [Fld.ok];omega
     ·have ht:(Fld.tag ⟨((t / 8:Nat):Int),2,0,(b.drop (z + z2)).take t2⟩)=t:=by unfold Fld.tag;simp only;omega
      have hlen:((b.drop (z + z2)).take t2).length=t2:=by simp;omega
      simp only [Fld.enc]
      rw [ht,a3,if_neg (by decide),hlen,c3,<-List.append_assoc,<-List.take_add,<-List.take_add]
  ·rw [if_pos h2] at h;simp at h;omega
 ·rw [if_pos h0] at h;simp at h;omega
theorem c1j:∀ (k:Nat) (b:List UInt8) (a:Nat) (acc:List Fld),b.length < k->
  ((b2l k b a acc).2.2=0->(b2l k b a acc).2.1=0/\∃ m,(b2l k b a acc).1=acc ++ m/\a3l m=b/\(∀ f ∈ m,f.ok=true/\f.val < U64)/\(acc.length<=1024->acc.length + m.length<=1024))/\
  ((b2l k b a acc).2.2 ≠ 0->(b2l k b a acc).1=[]/\(b2l k b a acc).2.1 < a + b.length)
 | 0,_,_,_,h=>by omega
 | k + 1,b,a,acc,h=>by
  rw [b2l]
  by_cases h1:b.length=0
  ·rw [if_pos h1]
   exact⟨fun _=>⟨rfl,[],by simp,by rw [List.eq_nil_of_length_eq_zero h1];rfl,by simp,by simp⟩,fun h=>absurd rfl h⟩
  rw [if_neg h1]
  by_cases h2:acc.length=1024
  ·rw [if_pos h2];simp;omega
  rw [if_neg h2]
  by_cases h3:(a4z b).2.2=0
  ·rw [if_neg (by simpa using h3)]
   have hb:=b5C b
   have hs:=hb.2.1 h3
   obtain⟨i1,i2,i3⟩:=c8s b h3
   have ih:=c1j k (b.drop (a4z b).2.1) (a + (a4z b).2.1) (acc ++ [(a4z b).1]) (by rw [List.length_drop];omega)
   refine⟨fun h0=>?_,fun h0=>?_⟩
   ·obtain⟨j1,m,j2,j3,j4,j5⟩:=ih.1 h0
    clear ih
    refine⟨j1,(a4z b).1 :: m,by rw [j2];simp,by rw [a6V,j3,i2,List.take_append_drop],?_,fun hl=>?_⟩
    ·intro f hf
     rcases List.mem_cons.1 hf with rfl | hf
     ·exact⟨i1,i3⟩
     ·exact j4 f hf
    ·have:=j5 (by rw [List.length_append,List.length_singleton];omega)
     rw [List.length_append,List.length_singleton] at this
     rw [List.length_cons];omega
   ·obtain⟨j1,j2⟩:=ih.2 h0
    rw [List.length_drop] at j2
    clear ih
    have hb1:=hb.1
    exact⟨j1,by omega⟩
  ·rw [if_pos (by simpa using h3)]
   refine⟨fun h0=>absurd h0 h3,fun _=>⟨rfl,by simp;omega⟩⟩
theorem c4q (b:List UInt8):((a8X b).2.2=0->(a8X b).2.1=0/\a3l (a8X b).1=b/\(∀ f ∈ (a8X b).1,f.ok=true/\f.val < U64)/\(a8X b).1.length<=1024)/\
  ((a8X b).2.2 ≠ 0->(a8X b).1=[]/\(a8X b).2.1 < b.length):=by
 have h:=c1j (b.length + 1) b 0 [] (by omega)
 refine⟨fun h0=>?_,fun h0=>?_⟩
 ·obtain⟨h1,m,h2,h3,h4,h5⟩:=h.1 h0
  rw [a8X,h2] at *
  exact⟨h1,by simpa using h3,by simpa using h4,by simpa using h5⟩
 ·obtain⟨h1,h2⟩:=h.2 h0
  exact⟨h1,by rw [a8X];omega⟩
theorem c1k (f:Fld) (t:List UInt8) (hok:f.ok=true) (hv:f.val < U64) (hb:f.byt.length < U64):a4z (f.enc ++ t)=(f,f.enc.length,0):=by
 have htag:=Fld.tag_lt f hok
 simp only [Fld.ok,decide_eq_true_eq] at hok
 obtain⟨num,kind,val,byt⟩:=f
 simp only at hok hv hb htag
 have e8:(8 * num + kind).toNat / 8=num.toNat:=by omega
 simp only [Fld.enc,Fld.tag] at htag ⊢
 rcases hok.2.2 with⟨hk,hl⟩ | ⟨hk,hl⟩
 ·subst hk
  have hby:byt=[]:=List.eq_nil_of_length_eq_zero hl
  subst hby
  rw [if_pos rfl,List.append_assoc]
  have r1:=c4p (8 * num + 0).toNat (enc val ++ t) htag.1
  have r2:=c4p val t hv
  unfold a4z
  rw [r1]
  simp only [ne_eq,not_true_eq_false,if_false,List.drop_left,r2]
  rw [if_neg (by omega),if_pos (by omega)]
  simp only [List.length_append]
  congr 2
  omega
 ·subst hk;subst hl
  rw [if_neg (by omega),List.append_assoc,List.append_assoc]
  have r1:=c4p (8 * num + 2).toNat (enc byt.length ++ (byt ++ t)) htag.1
  have r2:=c4p byt.length (byt ++ t) hb
  unfold a4z
  rw [r1]
  simp only [ne_eq,not_true_eq_false,if_false,List.drop_left,r2]
  rw [if_neg (by omega),if_neg (by omega),if_neg (by simp only [List.length_append];omega)]
  have d1:(enc (8 * num + 2).toNat ++ (enc byt.length ++ (byt ++ t))).drop ((enc (8 * num + 2).toNat).length + (enc byt.length).length)=byt ++ t:=by
   rw [<-List.append_assoc,<-List.length_append,List.drop_left]
  rw [d1,List.take_left]
  simp only [List.length_append]
  have e9:(((8 * num + 2).toNat / 8:Nat):Int)=num:=by omega
  rw [e9]
  congr 2
  omega
theorem enc_pos (n:Nat):1<=(enc n).length:=by
 by_cases h:n < 128
 ·rw [c1g n h];simp
 ·rw [c1f n (by omega)];simp
theorem Fld.enc_pos (f:Fld):1<=f.enc.length:=by
 have:=Proofs.YtbipjlehhlkghaaGreatDoor.Am.enc_pos f.tag
 unfold Fld.enc
 rw [List.length_append];omega
theorem b8A:∀ (l:List Fld) (k a:Nat) (acc:List Fld),(a3l l).length < k->acc.length + l.length<=1024->(∀ f ∈ l,f.ok=true/\f.val < U64/\f.byt.length < U64)->b2l k (a3l l) a acc=(acc ++ l,0,0)
 | [],0,_,_,h,_,_=>by omega
 | [],k + 1,a,acc,_,_,_=>by rw [b2l];simp [a3l]
 | f :: l,0,_,_,h,_,_=>by omega
 | f :: l,k + 1,a,acc,h,hl,hf=>by
  have hp:=Fld.enc_pos f
  rw [a6V,List.length_append] at h
  rw [List.length_cons] at hl
  have h1:=hf f (by simp)
  have hr:=c1k f (a3l l) h1.1 h1.2.1 h1.2.2
  rw [a6V,b2l,if_neg (by rw [List.length_append];omega),if_neg (by omega),hr]
  simp only [ne_eq,not_true_eq_false,if_false,List.drop_left]
  rw [b8A l k _ _ (by omega) (by rw [List.length_append,List.length_singleton];omega) (fun g hg=>hf g (by simp [hg]))]
  simp
theorem b7h (l:List Fld) (hl:l.length<=1024) (hf:∀ f ∈ l,f.ok=true/\f.val < U64/\f.byt.length < U64):a8X (a3l l)=(l,0,0):=by
 rw [a8X,b8A l _ 0 [] (by omega) (by simpa using hl) hf];rfl
theorem b8B:∀ (l:List Fld) (k a:Nat) (acc:List Fld),(a3l l).length < k->acc.length<=1024->1024 < acc.length + l.length->(∀ f ∈ l,f.ok=true/\f.val < U64/\f.byt.length < U64)->
  b2l k (a3l l) a acc=([],a + (a3l (l.take (1024 - acc.length))).length,3)
 | [],_,_,_,_,h,h',_=>by simp at h';omega
 | f :: l,0,_,_,h,_,_,_=>by omega
 | f :: l,k + 1,a,acc,h,ha,hl,hf=>by
  have hp:=Fld.enc_pos f
  rw [a6V,List.length_append] at h
  rw [List.length_cons] at hl
  have h1:=hf f (by simp)
  have hr:=c1k f (a3l l) h1.1 h1.2.1 h1.2.2
  rw [a6V,b2l,if_neg (by rw [List.length_append];omega)]
  by_cases h2:acc.length=1024
  ·rw [if_pos h2,h2];simp [a3l]
  ·rw [if_neg h2,hr]
   simp only [ne_eq,not_true_eq_false,if_false,List.drop_left]
   rw [b8B l k _ _ (by omega) (by rw [List.length_append,List.length_singleton];omega) (by rw [List.length_append,List.length_singleton];omega) (fun g hg=>hf g (by simp [hg]))]
   rw [List.length_append,List.length_singleton]
   obtain⟨q,hq⟩:∃ q,1024 - acc.length=q + 1:=⟨1024 - acc.length - 1,by omega⟩
   rw [hq,List.take_succ_cons,a6V,List.length_append,show 1024 - (acc.length + 1)=q from by omega]
   congr 2
   omega
end Go.Proofs.YtbipjlehhlkghaaGreatDoor.Am
namespace Go.Proofs.YtbipjlehhlkghaaGreatDoor.Am
open Go
theorem c1v {n:Int} (h:wfU (.int .u64) n):0<=n/\n < 18446744073709551616:=by
 have h':IntKind.u64.min<=n/\n<=IntKind.u64.max:=h
 simp [IntKind.min,IntKind.max,IntKind.signed,IntKind.bits] at h'
 omega
end Go.Proofs.YtbipjlehhlkghaaGreatDoor.Am
namespace Go.Proofs.YtbipjlehhlkghaaGreatDoor.Am
open Go Go.Proofs Go.Lib
noncomputable def a31:List (String × DataW Unit):=[("unicode/utf8.acceptRanges",Rows.laid_unicode_utf8_acceptRanges),("unicode/utf8.first",Rows.laid_unicode_utf8_first)]
theorem d1c:(Rows.laid_unicode_utf8_first:DataW Unit)=Lib.firstData:=by kernel_rfl
theorem c8O:(Rows.laid_unicode_utf8_acceptRanges:DataW Unit)=Lib.acceptData:=by kernel_rfl
theorem d7k:U8Extra Tryz.prog Tryz.decode_ren:=⟨by kernel_rfl,by kernel_rfl,by kernel_rfl,by kernel_rfl,by kernel_rfl,by kernel_rfl,by kernel_rfl⟩
theorem c1z {W:World} (h:laidMetH Tryz.prog a31 W):Lib.Utf8Tabs 2 3 W:=by
 rw [MakeChecks.laidMetH_plain _ _ _ (by kernel_rfl)] at h
 have h4:=Lib.laidMet.reads h (.head _)
 have h3:=Lib.laidMet.reads h (.tail _ (.head _))
 rw [d1c] at h3
 rw [c8O] at h4
 exact utf8Tabs_of_reads (ρ:=Tryz.decode_ren) {Tryz.decode with} d7k h3 h4
theorem c3a {w:World} {b o:Nat} {v:Value} (h:w.cell? ⟨b,o,none⟩=some v):b < w.heap.size:=by
 rcases Nat.lt_or_ge b w.heap.size with h1 | h1
 ·exact h1
 ·have:w.heap[b]?=none:=Array.getElem?_eq_none h1
  simp [World.cell?,this] at h
theorem a2m {W:World} (h:laidMetH Tryz.prog a31 W):d1x (Old W) W:=by
 obtain⟨h1,h2⟩:=c1z h
 have key:∀ g j v,GT g j=some v->W.cell? ⟨g,j,none⟩=some v:=by
  intro g j v e
  by_cases h0:g=2
  ·subst h0
   by_cases hj:j < 256
   ·simp [GT,hj] at e
    rw [h1 j hj,<-e]
   ·simp [GT,hj] at e
  ·by_cases h3:g=3
   ·subst h3
    by_cases hj:j < 32
    ·simp [GT,hj] at e
     by_cases hm:j % 2=0
     ·have:=(h2 (j / 2) (by omega)).1
      rw [show 2 * (j / 2)=j by omega] at this
      rw [if_pos hm] at e
      rw [this,<-e]
     ·have:=(h2 (j / 2) (by omega)).2
      rw [show 2 * (j / 2) + 1=j by omega] at this
      rw [if_neg hm] at e
      rw [this,<-e]
    ·simp [GT,hj] at e
   ·exfalso
    unfold GT at e
    split at e
    ·exact h0 rfl
    ·exact h3 rfl
    ·cases e
 exact fun g j v e=>⟨key g j v e,c3a (key g j v e)⟩
end Go.Proofs.YtbipjlehhlkghaaGreatDoor.Am
