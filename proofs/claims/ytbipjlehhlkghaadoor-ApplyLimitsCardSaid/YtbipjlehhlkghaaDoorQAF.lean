/- Texts laid together: PFld, PWt, RowG. No conditions. -/
import Derived.Test.YtbipjlehhlkghaaDoorQAE
import Derived.Test.YtbipjlehhlkghaaDoorQAB
import Derived.Test.YtbipjlehhlkghaaDoorQAC
import Derived.Test.YtbipjlehhlkghaaDoorCards
import Derived.Lib.LaidU8
import Derived.Lay
import Derived.SevenTiedAt
import Derived.KernelRfl
namespace Go.Proofs.YtbipjlehhlkghaaDoor.Am
open Go
structure Fld where
 num:Int
 kind:Int
 val:Nat
 byt:List UInt8
def Fld.zero:Fld:=⟨0,0,0,[]⟩
def Fld.ok (f:Fld):Bool:=decide (1<=f.num/\f.num<=536870911/\(f.kind=0/\f.byt.length=0\/f.kind=2/\f.val=0))
def Fld.tag (f:Fld):Nat:=(8 * f.num + f.kind).toNat
def Fld.enc (f:Fld):List UInt8:=Proofs.YtbipjlehhlkghaaDoor.Am.enc f.tag ++ if f.kind=0 then Proofs.YtbipjlehhlkghaaDoor.Am.enc f.val else Proofs.YtbipjlehhlkghaaDoor.Am.enc f.byt.length ++ f.byt
theorem Fld.tag_lt (f:Fld) (h:f.ok=true):f.tag < U64/\(f.tag:Int)=8 * f.num + f.kind/\f.tag < 4294967296:=by
 simp only [Fld.ok,decide_eq_true_eq] at h
 unfold Fld.tag U64
 omega
def a0o (b:List UInt8):Fld × Nat × Nat:=
 if(rd b).2.2 ≠ 0 then(Fld.zero,0,(rd b).2.2)
 else if(rd b).1 / 8 < 1\/536870911 < (rd b).1 / 8\/((rd b).1 % 8 ≠ 0/\(rd b).1 % 8 ≠ 2) then(Fld.zero,0,4)
 else if(rd (b.drop (rd b).2.1)).2.2 ≠ 0 then(Fld.zero,0,(rd (b.drop (rd b).2.1)).2.2)
 else if(rd b).1 % 8=0 then(⟨((rd b).1 / 8:Nat),0,(rd (b.drop (rd b).2.1)).1,[]⟩,(rd b).2.1 + (rd (b.drop (rd b).2.1)).2.1,0)
 else if b.length - (rd b).2.1 - (rd (b.drop (rd b).2.1)).2.1 < (rd (b.drop (rd b).2.1)).1 then(Fld.zero,0,5)
 else(⟨((rd b).1 / 8:Nat),2,0,(b.drop ((rd b).2.1 + (rd (b.drop (rd b).2.1)).2.1)).take (rd (b.drop (rd b).2.1)).1⟩,(rd b).2.1 + (rd (b.drop (rd b).2.1)).2.1 + (rd (b.drop (rd b).2.1)).1,0)
theorem a74 (b:List UInt8):(a0o b).2.1<=b.length/\((a0o b).2.2=0->1<=(a0o b).2.1)/\(a0o b).2.2 < 7/\(a0o b).1.byt.length<=b.length:=by
 have h1:=b7a b
 have h2:=b7a (b.drop (rd b).2.1)
 have h3:=(b3e b).2
 rw [List.length_drop] at h2
 unfold a0o
 split
 ·simp [Fld.zero];omega
 split
 ·simp [Fld.zero]
 split
 ·simp [Fld.zero];omega
 rename_i e1 _ e2
 have e1':(rd b).2.2=0:=by omega
 have:=h3 e1'
 split
 ·simp;omega
 split
 ·simp [Fld.zero]
 ·simp;omega
def a5s:Nat->List UInt8->Nat->List Fld->List Fld × Nat × Nat
 | 0,_,_,acc=>(acc,0,0)
 | k + 1,b,at_,acc=>if b.length=0 then(acc,0,0) else if acc.length=1024 then([],at_,3) else if(a0o b).2.2 ≠ 0 then([],at_,(a0o b).2.2)
  else a5s k (b.drop (a0o b).2.1) (at_ + (a0o b).2.1) (acc ++ [(a0o b).1])
def a3I (b:List UInt8):List Fld × Nat × Nat:=a5s (b.length + 1) b 0 []
def Y5 (l:List Fld):List UInt8:=(l.map Fld.enc).flatten
theorem a1F (l:List Fld) (f:Fld):Y5 (f :: l)=f.enc ++ Y5 l:=by unfold Y5;simp
theorem b9I (b:List UInt8) (h:(a0o b).2.2=0):(a0o b).1.ok=true/\(a0o b).1.enc=b.take (a0o b).2.1/\(a0o b).1.val < U64:=by
 have i1:=b3e b
 have i2:=b3e (b.drop (rd b).2.1)
 have l1:=b7a b
 have l2:=b7a (b.drop (rd b).2.1)
 unfold a0o at h ⊢
 generalize hr:rd b=r at *
 obtain⟨t,z,e⟩:=r
 generalize hr2:rd (b.drop z)=r2 at *
 obtain⟨t2,z2,e2⟩:=r2
 simp only at i1 i2 l1 l2 h ⊢
 by_cases h0:e=0
 ·subst h0
  rw [if_neg (by simp)] at h ⊢
  obtain⟨a1,a2,a3,a4⟩:=i1.2 rfl
  by_cases h1:t / 8 < 1\/536870911 < t / 8\/(t % 8 ≠ 0/\t % 8 ≠ 2)
  ·rw [if_pos h1] at h;simp at h
  rw [if_neg h1] at h ⊢
  by_cases h2:e2=0
  ·subst h2
   rw [if_neg (by simp)] at h ⊢
   obtain⟨c1,c2,c3,c4⟩:=i2.2 rfl
   by_cases h3:t % 8=0
   ·rw [if_pos h3]
    refine⟨?_,?_,by simpa using c4⟩
    ·simp [Fld.ok];omega
    ·have ht:(Fld.tag ⟨((t / 8:Nat):Int),0,t2,[]⟩)=t:=by unfold Fld.tag;simp only;omega
     simp only [Fld.enc]
     rw [ht,a3]
     simp only [if_true]
     rw [c3,List.take_add]
   ·rw [if_neg h3] at h ⊢
    by_cases h4:b.length - z - z2 < t2
    ·rw [if_pos h4] at h;simp at h
    ·rw [if_neg h4]
     refine⟨?_,?_,by unfold U64;simp⟩
     ·simp [Fld.ok];omega
     ·have ht:(Fld.tag ⟨((t / 8:Nat):Int),2,0,(b.drop (z + z2)).take t2⟩)=t:=by unfold Fld.tag;simp only;omega
      have hlen:((b.drop (z + z2)).take t2).length=t2:=by simp;omega
      simp only [Fld.enc]
      rw [ht,a3,if_neg (by decide),hlen,c3,<-List.append_assoc,<-List.take_add,<-List.take_add]
  ·rw [if_pos h2] at h;simp at h;omega
 ·rw [if_pos h0] at h;simp at h;omega
theorem b3f:∀ (k:Nat) (b:List UInt8) (a:Nat) (acc:List Fld),b.length < k->
  ((a5s k b a acc).2.2=0->(a5s k b a acc).2.1=0/\∃ m,(a5s k b a acc).1=acc ++ m/\Y5 m=b/\(∀ f ∈ m,f.ok=true/\f.val < U64)/\(acc.length<=1024->acc.length + m.length<=1024))/\
  ((a5s k b a acc).2.2 ≠ 0->(a5s k b a acc).1=[]/\(a5s k b a acc).2.1 < a + b.length)
 | 0,_,_,_,h=>by omega
 | k + 1,b,a,acc,h=>by
  rw [a5s]
  by_cases h1:b.length=0
  ·rw [if_pos h1]
   exact⟨fun _=>⟨rfl,[],by simp,by rw [List.eq_nil_of_length_eq_zero h1];rfl,by simp,by simp⟩,fun h=>absurd rfl h⟩
  rw [if_neg h1]
  by_cases h2:acc.length=1024
  ·rw [if_pos h2];simp;omega
  rw [if_neg h2]
  by_cases h3:(a0o b).2.2=0
  ·rw [if_neg (by simpa using h3)]
   have hb:=a74 b
   have hs:=hb.2.1 h3
   obtain⟨i1,i2,i3⟩:=b9I b h3
   have ih:=b3f k (b.drop (a0o b).2.1) (a + (a0o b).2.1) (acc ++ [(a0o b).1]) (by rw [List.length_drop];omega)
   refine⟨fun h0=>?_,fun h0=>?_⟩
   ·obtain⟨j1,m,j2,j3,j4,j5⟩:=ih.1 h0
    clear ih
    refine⟨j1,(a0o b).1 :: m,by rw [j2];simp,by rw [a1F,j3,i2,List.take_append_drop],?_,fun hl=>?_⟩
    ·intro f hf
     rcases List.mem_cons.1 hf with rfl | hf
     ·exact⟨i1,i3⟩
     ·exact j4 f hf
    ·have:=j5 (by rw [List.length_append,List.length_singleton];omega)
     rw [List.length_append,List.length_singleton] at this
     rw [List.length_cons];omega
   ·obtain⟨j1,j2⟩:=ih.2 h0
    rw [List.length_drop] at j2
    clear ih
    have hb1:=hb.1
    exact⟨j1,by omega⟩
  ·rw [if_pos (by simpa using h3)]
   refine⟨fun h0=>absurd h0 h3,fun _=>⟨rfl,by simp;omega⟩⟩
theorem b53 (b:List UInt8):((a3I b).2.2=0->(a3I b).2.1=0/\Y5 (a3I b).1=b/\(∀ f ∈ (a3I b).1,f.ok=true/\f.val < U64)/\(a3I b).1.length<=1024)/\
  ((a3I b).2.2 ≠ 0->(a3I b).1=[]/\(a3I b).2.1 < b.length):=by
 have h:=b3f (b.length + 1) b 0 [] (by omega)
 refine⟨fun h0=>?_,fun h0=>?_⟩
 ·obtain⟨h1,m,h2,h3,h4,h5⟩:=h.1 h0
  rw [a3I,h2] at *
  exact⟨h1,by simpa using h3,by simpa using h4,by simpa using h5⟩
 ·obtain⟨h1,h2⟩:=h.2 h0
  exact⟨h1,by rw [a3I];omega⟩
theorem b3g (f:Fld) (t:List UInt8) (hok:f.ok=true) (hv:f.val < U64) (hb:f.byt.length < U64):a0o (f.enc ++ t)=(f,f.enc.length,0):=by
 have htag:=Fld.tag_lt f hok
 simp only [Fld.ok,decide_eq_true_eq] at hok
 obtain⟨num,kind,val,byt⟩:=f
 simp only at hok hv hb htag
 have e8:(8 * num + kind).toNat / 8=num.toNat:=by omega
 simp only [Fld.enc,Fld.tag] at htag ⊢
 rcases hok.2.2 with⟨hk,hl⟩ | ⟨hk,hl⟩
 ·subst hk
  have hby:byt=[]:=List.eq_nil_of_length_eq_zero hl
  subst hby
  rw [if_pos rfl,List.append_assoc]
  have r1:=b52 (8 * num + 0).toNat (enc val ++ t) htag.1
  have r2:=b52 val t hv
  unfold a0o
  rw [r1]
  simp only [ne_eq,not_true_eq_false,if_false,List.drop_left,r2]
  rw [if_neg (by omega),if_pos (by omega)]
  simp only [List.length_append]
  congr 2
  omega
 ·subst hk;subst hl
  rw [if_neg (by omega),List.append_assoc,List.append_assoc]
  have r1:=b52 (8 * num + 2).toNat (enc byt.length ++ (byt ++ t)) htag.1
  have r2:=b52 byt.length (byt ++ t) hb
  unfold a0o
  rw [r1]
  simp only [ne_eq,not_true_eq_false,if_false,List.drop_left,r2]
  rw [if_neg (by omega),if_neg (by omega),if_neg (by simp only [List.length_append];omega)]
  have d1:(enc (8 * num + 2).toNat ++ (enc byt.length ++ (byt ++ t))).drop ((enc (8 * num + 2).toNat).length + (enc byt.length).length)=byt ++ t:=by
   rw [<-List.append_assoc,<-List.length_append,List.drop_left]
  rw [d1,List.take_left]
  simp only [List.length_append]
  have e9:(((8 * num + 2).toNat / 8:Nat):Int)=num:=by omega
  rw [e9]
  congr 2
  omega
theorem enc_pos (n:Nat):1<=(enc n).length:=by
 by_cases h:n < 128
 ·rw [b3c n h];simp
 ·rw [b3b n (by omega)];simp
theorem Fld.enc_pos (f:Fld):1<=f.enc.length:=by
 have:=Proofs.YtbipjlehhlkghaaDoor.Am.enc_pos f.tag
 unfold Fld.enc
 rw [List.length_append];omega
theorem b0N:∀ (l:List Fld) (k a:Nat) (acc:List Fld),(Y5 l).length < k->acc.length + l.length<=1024->(∀ f ∈ l,f.ok=true/\f.val < U64/\f.byt.length < U64)->a5s k (Y5 l) a acc=(acc ++ l,0,0)
 | [],0,_,_,h,_,_=>by omega
 | [],k + 1,a,acc,_,_,_=>by rw [a5s];simp [Y5]
 | f :: l,0,_,_,h,_,_=>by omega
 | f :: l,k + 1,a,acc,h,hl,hf=>by
  have hp:=Fld.enc_pos f
  rw [a1F,List.length_append] at h
  rw [List.length_cons] at hl
  have h1:=hf f (by simp)
  have hr:=b3g f (Y5 l) h1.1 h1.2.1 h1.2.2
  rw [a1F,a5s,if_neg (by rw [List.length_append];omega),if_neg (by omega),hr]
  simp only [ne_eq,not_true_eq_false,if_false,List.drop_left]
  rw [b0N l k _ _ (by omega) (by rw [List.length_append,List.length_singleton];omega) (fun g hg=>hf g (by simp [hg]))]
  simp
theorem a9x (l:List Fld) (hl:l.length<=1024) (hf:∀ f ∈ l,f.ok=true/\f.val < U64/\f.byt.length < U64):a3I (Y5 l)=(l,0,0):=by
 rw [a3I,b0N l _ 0 [] (by omega) (by simpa using hl) hf];rfl
theorem b0O:∀ (l:List Fld) (k a:Nat) (acc:List Fld),(Y5 l).length < k->acc.length<=1024->1024 < acc.length + l.length->(∀ f ∈ l,f.ok=true/\f.val < U64/\f.byt.length < U64)->
  a5s k (Y5 l) a acc=([],a + (Y5 (l.take (1024 - acc.length))).length,3)
 | [],_,_,_,_,h,h',_=>by simp at h';omega
 | f :: l,0,_,_,h,_,_,_=>by omega
 | f :: l,k + 1,a,acc,h,ha,hl,hf=>by
  have hp:=Fld.enc_pos f
  rw [a1F,List.length_append] at h
  rw [List.length_cons] at hl
  have h1:=hf f (by simp)
  have hr:=b3g f (Y5 l) h1.1 h1.2.1 h1.2.2
  rw [a1F,a5s,if_neg (by rw [List.length_append];omega)]
  by_cases h2:acc.length=1024
  ·rw [if_pos h2,h2];simp [Y5]
  ·rw [if_neg h2,hr]
   simp only [ne_eq,not_true_eq_false,if_false,List.drop_left]
   rw [b0O l k _ _ (by omega) (by rw [List.length_append,List.length_singleton];omega) (by rw [List.length_append,List.length_singleton];omega) (fun g hg=>hf g (by simp [hg]))]
   rw [List.length_append,List.length_singleton]
   obtain⟨q,hq⟩:∃ q,1024 - acc.length=q + 1:=⟨1024 - acc.length - 1,by omega⟩
   rw [hq,List.take_succ_cons,a1F,List.length_append,show 1024 - (acc.length + 1)=q from by omega]
   congr 2
   omega
end Go.Proofs.YtbipjlehhlkghaaDoor.Am
namespace Go.Proofs.YtbipjlehhlkghaaDoor.Am
open Go
end Go.Proofs.YtbipjlehhlkghaaDoor.Am
namespace Go.Proofs.YtbipjlehhlkghaaDoor.Am
open Go Go.Proofs Go.Lib
noncomputable def b7r:List (String × DataW Unit):=[("unicode/utf8.acceptRanges",Rows.laid_unicode_utf8_acceptRanges),("unicode/utf8.first",Rows.laid_unicode_utf8_first)]
theorem c1R:(Rows.laid_unicode_utf8_first:DataW Unit)=Lib.firstData:=by kernel_rfl
theorem b91:(Rows.laid_unicode_utf8_acceptRanges:DataW Unit)=Lib.acceptData:=by kernel_rfl
theorem c6w:U8Extra Tryd.prog Tryd.decode_ren:=⟨by kernel_rfl,by kernel_rfl,by kernel_rfl,by kernel_rfl,by kernel_rfl,by kernel_rfl,by kernel_rfl⟩
theorem b3u {W:World} (h:laidMetH Tryd.prog b7r W):Lib.Utf8Tabs 2 3 W:=by
 rw [MakeChecks.laidMetH_plain _ _ _ (by kernel_rfl)] at h
 have h4:=Lib.laidMet.reads h (.head _)
 have h3:=Lib.laidMet.reads h (.tail _ (.head _))
 rw [c1R] at h3
 rw [b91] at h4
 exact utf8Tabs_of_reads (ρ:=Tryd.decode_ren) {Tryd.decode with} c6w h3 h4
theorem b4R {w:World} {b o:Nat} {v:Value} (h:w.cell? ⟨b,o,none⟩=some v):b < w.heap.size:=by
 rcases Nat.lt_or_ge b w.heap.size with h1 | h1
 ·exact h1
 ·have:w.heap[b]?=none:=Array.getElem?_eq_none h1
  simp [World.cell?,this] at h
theorem b3v {W:World} (h:laidMetH Tryd.prog b7r W):c1T (Old W) W:=by
 obtain⟨h1,h2⟩:=b3u h
 have key:∀ g j v,GT g j=some v->W.cell? ⟨g,j,none⟩=some v:=by
  intro g j v e
  by_cases h0:g=2
  ·subst h0
   by_cases hj:j < 256
   ·simp [GT,hj] at e
    rw [h1 j hj,<-e]
   ·simp [GT,hj] at e
  ·by_cases h3:g=3
   ·subst h3
    by_cases hj:j < 32
    ·simp [GT,hj] at e
     by_cases hm:j % 2=0
     ·have:=(h2 (j / 2) (by omega)).1
      rw [show 2 * (j / 2)=j by omega] at this
      rw [if_pos hm] at e
      rw [this,<-e]
     ·have:=(h2 (j / 2) (by omega)).2
      rw [show 2 * (j / 2) + 1=j by omega] at this
      rw [if_neg hm] at e
      rw [this,<-e]
    ·simp [GT,hj] at e
   ·exfalso
    unfold GT at e
    split at e
    ·exact h0 rfl
    ·exact h3 rfl
    ·cases e
 exact fun g j v e=>⟨key g j v e,b4R (key g j v e)⟩
end Go.Proofs.YtbipjlehhlkghaaDoor.Am
