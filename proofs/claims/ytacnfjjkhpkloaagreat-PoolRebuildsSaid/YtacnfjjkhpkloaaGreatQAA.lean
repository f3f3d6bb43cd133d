/- Words for memory that all walks of this seat share: how cells read as plain data. No conditions. -/
import Derived.WalkKit
import Derived.WalkSpells
import Derived.WalkLawsBesides
import Derived.Lib.Hide
import Derived.BigQuiet
import Derived.Deep.QuietTactic
import Derived.Deep.AppendLies
import Derived.Deep.Draws
import Derived.Maps.AppendAt
import Derived.Deep.DeepFit
import Derived.Deep.RegionHeld3
import Derived.Lib.SlBytesConst
import Derived.Laws.BytesArg
import Derived.Laws.BitsAllLaws
namespace Go.Proofs.YtacnfjjkhpkloaaGreat
open Go.RowKit
theorem a1k (a:Addr) (n:Nat):(a.add n).block=a.block:=by unfold Addr.add;split <;> rfl
theorem add_add (a:Addr) (i j:Nat):(a.add i).add j=a.add (i + j):=by
 unfold Addr.add
 by_cases hi:i=0 <;> by_cases hj:j=0 <;> simp [hi,hj,Nat.add_assoc]
theorem add_zero (a:Addr):a.add 0=a:=by simp [Addr.add]
def a7r (S:Nat->Prop) (w w':World):Prop:=∀ b,S b->b < w.heap.size->w'.heap[b]?=w.heap[b]?
theorem a7r.refl (S:Nat->Prop) (w:World):a7r S w w:=fun _ _ _=>rfl
theorem a7r.below {S:Nat->Prop} {w w':World} (hb:Below w.heap.size w w'):a7r S w w':=fun b _ hl=>hb.block b hl
theorem a7r.grown {S:Nat->Prop} {w w':World} {row:Option Nat} (hg:w.grownBy w' row) (h:∀ b,S b->some b ≠ row):a7r S w w':=fun b hs hl=>hg.block b hl (h b hs)
theorem a7r.alloc (S:Nat->Prop) (w:World) (o:Obj):a7r S w (w.alloc o):=fun b _ hl=>Below.heap_alloc w o b hl
theorem a7r.drew (S:Nat->Prop) (w:World):a7r S w w.drew:=fun _ _ _=>rfl
theorem a7r.drewN (S:Nat->Prop) (w:World) (n:Nat):a7r S w (w.drewN n):=fun _ _ _=>rfl
theorem a7r.setCell {S:Nat->Prop} {w:World} {p:Addr} (h:¬ S p.block) (u:Value):a7r S w (w.setCell p u):=fun b hs _=>Below.heap_setCell w p u b (fun e=>h (e ▸ hs))
theorem a7r.trans {S:Nat->Prop} {a b c:World} (h:a7r S a b) (k:a7r S b c) (hz:a.heap.size<=b.heap.size):a7r S a c:=fun x hs hl=>(k x hs (by omega)).trans (h x hs hl)
structure Rep (α:Type) where
 sz:Nat
 At:World->(Nat->Prop)->List Value->α->Prop
 len:∀ {w S cs a},At w S cs a->cs.length=sz
 keep:∀ {w w' S cs a},At w S cs a->a7r S w w'->At w' S cs a
 mono:∀ {w S S' cs a},At w S cs a->(∀ b,S b->b < w.heap.size->S' b)->At w S' cs a
def a3h (w:World) (S:Nat->Prop) (A:Option Addr) (xs:List Value):Prop:=
 0 < xs.length->∃ ad,A=some ad/\S ad.block/\∀ j u,xs[j]?=some u->w.cell? (ad.add j)=some u
theorem a3h.lt {w:World} {S:Nat->Prop} {ad:Addr} {xs:List Value} (h:a3h w S (some ad) xs) (hl:0 < xs.length):S ad.block/\ad.block < w.heap.size:=by
 obtain⟨ad',e,hs,hc⟩:=h hl
 injection e with e;subst e
 have:=hc 0 xs[0] (List.getElem?_eq_getElem hl)
 rw [add_zero] at this
 exact⟨hs,block_lt_of_cell this⟩
theorem a3h.keep {w w':World} {S:Nat->Prop} {A:Option Addr} {xs:List Value} (h:a3h w S A xs) (hs:a7r S w w'):a3h w' S A xs:=by
 intro hl
 obtain⟨ad,rfl,hb,hc⟩:=h hl
 refine⟨ad,rfl,hb,fun j u hu=>?_⟩
 have h1:=hc j u hu
 have h2:=block_lt_of_cell h1
 rw [World.cell?_of_block (hs _ (by rw [a1k];exact hb) h2)]
 exact h1
theorem a3h.mono {w:World} {S S':Nat->Prop} {A:Option Addr} {xs:List Value} (h:a3h w S A xs) (hs:∀ b,S b->b < w.heap.size->S' b):a3h w S' A xs:=by
 intro hl
 obtain⟨ad,rfl,hb,hc⟩:=h hl
 exact⟨ad,rfl,hs _ hb (a3h.lt h hl).2,hc⟩
def Rep.all {α:Type} (R:Rep α) (w:World) (S:Nat->Prop):List Value->List α->Prop
 | xs,[]=>xs=[]
 | xs,a :: l=>∃ c r,xs=c ++ r/\R.At w S c a/\R.all w S r l
section
variable {α:Type} {R:Rep α} {w w':World} {S S':Nat->Prop}
theorem Rep.all_len:∀ {l:List α} {xs:List Value},R.all w S xs l->xs.length=l.length * R.sz
 | [],xs,h=>by simp only [Rep.all] at h;subst h;simp
 | a :: l,xs,h=>by
  obtain⟨c,r,rfl,hc,hr⟩:=h
  rw [List.length_append,R.len hc,Rep.all_len hr,List.length_cons,Nat.succ_mul,Nat.add_comm]
theorem Rep.all_keep (hs:a7r S w w'):∀ {l:List α} {xs:List Value},R.all w S xs l->R.all w' S xs l
 | [],_,h=>h
 | _ :: _,_,h=>by
  obtain⟨c,r,rfl,hc,hr⟩:=h
  exact⟨c,r,rfl,R.keep hc hs,Rep.all_keep hs hr⟩
theorem Rep.all_mono (hs:∀ b,S b->b < w.heap.size->S' b):∀ {l:List α} {xs:List Value},R.all w S xs l->R.all w S' xs l
 | [],_,h=>h
 | _ :: _,_,h=>by
  obtain⟨c,r,rfl,hc,hr⟩:=h
  exact⟨c,r,rfl,R.mono hc hs,Rep.all_mono hs hr⟩
theorem Rep.all_sub (hs:∀ {cs a},R.At w S cs a->R.At w' S' cs a):∀ {l:List α} {xs:List Value},R.all w S xs l->R.all w' S' xs l
 | [],_,h=>h
 | _ :: _,_,h=>by
  obtain⟨c,r,rfl,hc,hr⟩:=h
  exact⟨c,r,rfl,hs hc,Rep.all_sub hs hr⟩
theorem Rep.all_append:∀ {l m:List α} {xs ys:List Value},R.all w S xs l->R.all w S ys m->R.all w S (xs ++ ys) (l ++ m)
 | [],m,xs,ys,h,k=>by simp only [Rep.all] at h;subst h;simpa using k
 | a :: l,m,xs,ys,h,k=>by
  obtain⟨c,r,rfl,hc,hr⟩:=h
  exact⟨c,r ++ ys,by simp,hc,Rep.all_append hr k⟩
theorem Rep.all_one {c:List Value} {a:α} (h:R.At w S c a):R.all w S c [a]:=⟨c,[],by simp,h,rfl⟩
theorem Rep.all_at:∀ {l:List α} {xs:List Value},R.all w S xs l->∀ {i:Nat} (hi:i < l.length),R.At w S ((xs.drop (i * R.sz)).take R.sz) l[i]
 | a :: l,xs,h,0,_=>by
  obtain⟨c,r,rfl,hc,hr⟩:=h
  have hl:=R.len hc
  simpa [<-hl] using hc
 | a :: l,xs,h,i + 1,hi=>by
  obtain⟨c,r,rfl,hc,hr⟩:=h
  have hl:=R.len hc
  have:=Rep.all_at hr (i:=i) (by simpa using hi)
  rw [Nat.succ_mul,Nat.add_comm,<-hl,<-List.drop_drop,List.drop_left]
  rw [<-hl] at this
  exact this
theorem Rep.all_drop:∀ {l:List α} {xs:List Value},R.all w S xs l->∀ (i:Nat),R.all w S (xs.drop (i * R.sz)) (l.drop i)
 | l,xs,h,0=>by simpa using h
 | [],xs,h,i + 1=>by simp only [Rep.all] at h;subst h;simp [Rep.all]
 | a :: l,xs,h,i + 1=>by
  obtain⟨c,r,rfl,hc,hr⟩:=h
  have hl:=R.len hc
  have:=Rep.all_drop hr i
  rw [Nat.succ_mul,Nat.add_comm,<-hl,<-List.drop_drop,List.drop_left]
  rw [<-hl] at this
  exact this
theorem Rep.all_take:∀ {l:List α} {xs:List Value},R.all w S xs l->∀ (i:Nat),R.all w S (xs.take (i * R.sz)) (l.take i)
 | l,xs,h,0=>by simp [Rep.all]
 | [],xs,h,i + 1=>by simp only [Rep.all] at h;subst h;simp [Rep.all]
 | a :: l,xs,h,i + 1=>by
  obtain⟨c,r,rfl,hc,hr⟩:=h
  have hl:=R.len hc
  have:=Rep.all_take hr i
  refine⟨c,r.take (i * R.sz),?_,hc,this⟩
  rw [Nat.succ_mul,List.take_append,List.take_of_length_le (by omega)]
  congr 2
  omega
end
def b7W {α:Type} (R:Rep α) (w:World) (S:Nat->Prop) (v:Value) (l:List α):Prop:=
 ∃ A c xs,v= .slice A l.length c/\l.length<=c/\c<=maxLen/\a3h w S A xs/\R.all w S xs l
def Rep.slice {α:Type} (R:Rep α):Rep (List α) where
 sz:=1
 At w S cs l:=∃ v,cs=[v]/\b7W R w S v l
 len:=by rintro w S cs a ⟨v,rfl,_⟩;rfl
 keep:=by
  rintro w w' S cs a ⟨v,rfl,A,c,xs,rfl,hc,hm,hx,hr⟩ hs
  exact⟨_,rfl,A,c,xs,rfl,hc,hm,hx.keep hs,R.all_keep hs hr⟩
 mono:=by
  rintro w S S' cs a ⟨v,rfl,A,c,xs,rfl,hc,hm,hx,hr⟩ hs
  exact⟨_,rfl,A,c,xs,rfl,hc,hm,hx.mono hs,R.all_mono hs hr⟩
structure Sl {α:Type} (R:Rep α) (w:World) (S:Nat->Prop) (A:Option Addr) (n c:Nat) (l:List α):Prop where
 len:n=l.length
 le:n<=c
 cap:c<=maxLen
 ex:∃ xs,a3h w S A xs/\R.all w S xs l
section
variable {α:Type} {R:Rep α} {w w':World} {S S':Nat->Prop} {A:Option Addr} {n c:Nat} {l:List α}
theorem Sl.shut (h:Sl R w S A n c l):b7W R w S (.slice A n c) l:=by
 obtain⟨rfl,hc,hm,xs,hx,hr⟩:=h
 exact⟨A,c,xs,rfl,hc,hm,hx,hr⟩
theorem Sl.keep (h:Sl R w S A n c l) (hs:a7r S w w'):Sl R w' S A n c l:=by
 obtain⟨hn,hc,hm,xs,hx,hr⟩:=h
 exact⟨hn,hc,hm,xs,hx.keep hs,R.all_keep hs hr⟩
theorem Sl.mono (h:Sl R w S A n c l) (hs:∀ b,S b->b < w.heap.size->S' b):Sl R w S' A n c l:=by
 obtain⟨hn,hc,hm,xs,hx,hr⟩:=h
 exact⟨hn,hc,hm,xs,hx.mono hs,R.all_mono hs hr⟩
theorem Sl.nil_ (R:Rep α) (w:World) (S:Nat->Prop):Sl R w S none 0 0 []:=⟨rfl,Nat.le_refl _,by simp [maxLen],[],fun h=>by simp at h,rfl⟩
theorem Sl.drop (h:Sl R w S A n c l) {k:Nat} (hk:k<=n):Sl R w S (if c=k then A else A.map (·.add (k * R.sz))) (n - k) (c - k) (l.drop k):=by
 obtain⟨rfl,hc,hm,xs,hx,hr⟩:=h
 refine⟨by simp,by omega,by omega,xs.drop (k * R.sz),?_,R.all_drop hr k⟩
 have hl:=R.all_len hr
 intro h0
 rw [List.length_drop,hl] at h0
 have hkl:k * R.sz < l.length * R.sz:=by omega
 have hkn:k < l.length:=Nat.lt_of_mul_lt_mul_right hkl
 obtain⟨ad,rfl,hb,hcell⟩:=hx (by omega)
 rw [if_neg (by omega)]
 refine⟨ad.add (k * R.sz),rfl,by rw [a1k];exact hb,fun j u hu=>?_⟩
 rw [add_add]
 exact hcell _ u (by rw [<-hu,List.getElem?_drop])
theorem Sl.take (h:Sl R w S A n c l) {k:Nat} (hk:k<=n):Sl R w S A k c (l.take k):=by
 obtain⟨rfl,hc,hm,xs,hx,hr⟩:=h
 refine⟨by simp;omega,by omega,hm,xs.take (k * R.sz),?_,R.all_take hr k⟩
 intro h0
 rw [List.length_take] at h0
 obtain⟨ad,rfl,hb,hcell⟩:=hx (by omega)
 exact⟨ad,rfl,hb,fun j u hu=>hcell j u (by rw [List.getElem?_take] at hu;split at hu <;> simp_all)⟩
theorem Sl.at_ (h:Sl R w S A n c l) (hz:0 < R.sz) {i:Nat} (hi:i < l.length):∃ ad cs,A=some ad/\S ad.block/\ad.block < w.heap.size/\R.At w S cs l[i]/\∀ j u,cs[j]?=some u->w.cell? (ad.add (i * R.sz + j))=some u:=by
 obtain⟨rfl,hc,hm,xs,hx,hr⟩:=h
 have hl:=R.all_len hr
 have h1:(i + 1) * R.sz<=l.length * R.sz:=Nat.mul_le_mul_right _ hi
 rw [Nat.succ_mul] at h1
 have h0:0 < xs.length:=by omega
 obtain⟨ad,rfl,hb,hcell⟩:=hx h0
 refine⟨ad,_,rfl,hb,(a3h.lt (fun _=>⟨ad,rfl,hb,hcell⟩) h0).2,R.all_at hr hi,fun j u hu=>hcell _ u ?_⟩
 rw [List.getElem?_take] at hu
 split at hu
 ·rw [List.getElem?_drop] at hu;exact hu
 ·cases hu
end
def No:Nat->Prop:=fun _=>False
theorem a7r.no (w w':World):a7r No w w':=fun _ h=>h.elim
structure Own {α:Type} (R:Rep α) (e:TypeId) (w:World) (base:Nat) (S:Nat->Prop) (v:Value) (n:Nat) (l:List α):Prop where
 len:n=l.length
 apart:∀ k,v.ownBlock=some k->¬ S k
 ex:∃ xs:List Value,w.ownsRow base e R.sz v n xs/\R.all w S xs l
section
variable {α:Type} {R:Rep α} {e:TypeId} {w w':World} {base:Nat} {S S':Nat->Prop} {v:Value} {n:Nat} {l:List α}
theorem Own.nil_ (R:Rep α) (e:TypeId) (w:World) (base:Nat) (S:Nat->Prop):Own R e w base S (.slice none 0 0) 0 []:=
 ⟨rfl,fun _ h=>by simp [Value.ownBlock] at h,[],World.ownsRow_nil w base e R.sz,rfl⟩
theorem Own.lt (h:Own R e w base S v n l):∀ k,v.ownBlock=some k->base<=k/\k < w.heap.size:=by
 obtain⟨_,_,xs,ho,_⟩:=h
 exact ho.lt
theorem Own.form (h:Own R e w base S v n l):∃ A c,v= .slice A n c/\n<=c/\c<=maxLen:=by
 obtain⟨_,_,xs,ho,_⟩:=h
 rcases ho.2 with⟨rfl,rfl⟩ | ⟨g,cap,cur,rfl,_,_,h1,h2,_⟩
 ·exact⟨none,0,rfl,Nat.le_refl _,by simp [maxLen]⟩
 ·exact⟨_,cap,rfl,h1,h2⟩
theorem Own.sl {A:Option Addr} {c:Nat} (h:Own R e w base S (.slice A n c) n l) (hS:∀ b,S b->S' b) (hB:∀ b,base<=b->b < w.heap.size->S' b):Sl R w S' A n c l:=by
 obtain⟨A',c',hv,h1,h2⟩:=h.form
 have hlt:=h.lt
 obtain⟨hn,_,xs,ho,hr⟩:=h
 injection hv with hA _ hcc
 subst hA;subst hcc
 refine⟨hn,h1,h2,xs,fun h0=>?_,R.all_mono (fun b hb _=>hS b hb) hr⟩
 rcases ho.2 with⟨hv,rfl⟩ | ⟨g,cap,cur,hv,_,hg,_⟩
 ·have:=R.all_len hr
  rw [<-hn] at this
  omega
 ·injection hv with hA _ hcc
  subst hA
  have:=hlt g rfl
  exact⟨_,rfl,hB g this.1 this.2,ho.cells (g:=g) rfl⟩
theorem Own.keep {row:Option Nat} (h:Own R e w base S v n l) (hg:w.grownBy w' row) (hne:v.ownBlock=none\/v.ownBlock ≠ row) (hS:a7r S w w'):Own R e w' base S v n l:=by
 obtain⟨hn,ha,xs,ho,hr⟩:=h
 exact⟨hn,ha,xs,ho.kept hg hne,R.all_keep hS hr⟩
theorem b0q (h:Below w.heap.size w w'):w.grownBy w' none:=⟨h.os,h.tape,h.output,h.size,fun i hi _=>h.block i hi⟩
theorem Own.below (h:Own R e w base S v n l) (hb:Below w.heap.size w w'):Own R e w' base S v n l:=by
 refine h.keep (b0q hb) ?_ (a7r.below hb)
 rcases h:v.ownBlock with _ | k <;> simp
theorem Own.mono (h:Own R e w base S v n l) {base':Nat} (hb:base'<=base) (hs:∀ b,S b->b < w.heap.size->S' b) (ha:∀ k,v.ownBlock=some k->S' k->S k):Own R e w base' S' v n l:=by
 obtain⟨hn,hap,xs,ho,hr⟩:=h
 refine⟨hn,fun k hk hk'=>hap k hk (ha k hk hk'),xs,⟨ho.1,?_⟩,R.all_mono hs hr⟩
 rcases ho.2 with h2 | ⟨g,cap,cur,h1,h2,h3⟩
 ·exact .inl h2
 ·exact .inr ⟨g,cap,cur,h1,Nat.le_trans hb h2,h3⟩
end
structure Elt (P:Program) {α:Type} (R:Rep α) (t e:TypeId) (bytes:Nat):Prop where
 und:P.underlying t=some (.slice e)
 info:∃ i z,P.info? e=some i/\i.zero=some z/\i.size=R.sz/\i.bytes=bytes/\z.cells.size=R.sz
 pos:0 < R.sz
 one:∀ {w S cs a},R.At w S cs a->∀ u ∈ cs,u.oneCell'=true
theorem Rep.all_mem {α:Type} {R:Rep α} {w:World} {S:Nat->Prop} (h1:∀ {w S cs a},R.At w S cs a->∀ u ∈ cs,u.oneCell'=true):∀ {l:List α} {xs:List Value},R.all w S xs l->∀ u ∈ xs,u.oneCell'=true
 | [],xs,h=>by simp only [Rep.all] at h;subst h;simp
 | a :: l,xs,h=>by
  obtain⟨c,r,rfl,hc,hr⟩:=h
  intro u hu
  rcases List.mem_append.1 hu with h | h
  ·exact h1 hc u h
  ·exact Rep.all_mem h1 hr u h
section
variable {P:Program} {α:Type} {R:Rep α} {t e:TypeId} {by_:Nat}
theorem b3S {w:World} (T:Elt P R t e by_) {ty:TypeId} {base:Nat} {S:Nat->Prop} {v:Value} {n:Nat} {l:List α} (hown:Own R e w base S v n l) (c:Nat) :
  (Builtin.append_ #[t,t] ty #[v,.slice none 0 c]).run P w= .ok v w:=by
 obtain⟨ht,⟨i,z,hi,hz,h1,h2,h3⟩,hp,_⟩:=T
 obtain⟨_,_,xs,ho,_⟩:=hown
 rcases ho.2 with⟨rfl,rfl⟩ | ⟨g,cap,cur,rfl,_,_,hnc,_⟩
 ·simp [Builtin.append_,run_underlying ht,sizeOf,typeInfo,hi,Builtin.lenOf,Builtin.firstCells]
 ·simp [Builtin.append_,run_underlying ht,sizeOf,typeInfo,hi,Builtin.lenOf,Builtin.firstCells,hnc,storeCells]
theorem c3p {w:World} (T:Elt P R t e by_) (ty:TypeId) {base:Nat} {S:Nat->Prop} {v:Value} {n:Nat} {l:List α} (hown:Own R e w base S v n l)
  {A:Option Addr} {m c:Nat} {k:List α} {Sx:Nat->Prop} (hr:Sl R w Sx A m c k) (hsub:∀ {cs a},R.At w Sx cs a->R.At w S cs a) (h63:(n + m) * by_<=140737488355328) (h64:n + m<=maxLen) (hbase:base<=w.heap.size) (hS:¬ S w.heap.size) :
  ∃ v' w',(Builtin.append_ #[t,t] ty #[v,.slice A m c]).run P w= .ok v' w'/\Own R e w' base S v' (n + m) (l ++ k)/\w.grownBy w' v.ownBlock/\
   (v'.ownBlock=v.ownBlock\/v'.ownBlock=some w.heap.size):=by
 obtain⟨hm,hmc,hcm,ys,hys,hry⟩:=hr
 rcases A with _ | ad
 ·have hm0:m=0:=by
   rcases Nat.eq_zero_or_pos ys.length with h0 | h0
   ·have:=R.all_len hry
    rw [h0] at this
    rcases Nat.mul_eq_zero.1 this.symm with h1 | h1
    ·omega
    ·have:=T.pos;omega
   ·obtain⟨_,h,_⟩:=hys h0
    cases h
  subst hm0
  have hk:k=[]:=List.eq_nil_of_length_eq_zero hm.symm
  subst hk
  exact⟨v,w,b3S T hown c,by simpa using hown,World.grownBy.refl w _,.inl rfl⟩
 ·obtain⟨hn,hap,xs,ho,hrx⟩:=hown
  obtain⟨ht,⟨i,z,hi,hz,h1,h2,h3⟩,hp,hone⟩:=T
  have hl:=R.all_len hry
  have hry':R.all w S ys k:=Rep.all_sub hsub hry
  have hcells:∀ j u,ys[j]?=some u->w.cell? (ad.add j)=some u:=by
   intro j u hu
   have h0:0 < ys.length:=by
    rcases Nat.eq_zero_or_pos ys.length with h0 | h0
    ·have:=List.eq_nil_of_length_eq_zero h0;subst this;simp at hu
    ·exact h0
   obtain⟨ad',h,_,hc⟩:=hys h0
   injection h with h
   subst h
   exact hc j u hu
  obtain⟨v',w',hrun,h2,h3,_,h5⟩:=run_append_own_at (P:=P) w base t ty e i z R.sz by_ ht hi hz h1 h2 h3 hp v n xs ho ad m c ys (by rw [hl,hm]) hcells (Rep.all_mem hone hry) h64 h63 hbase
  have hsame:a7r S w w':=a7r.grown h3 (fun b hb hbv=>hap b hbv.symm hb)
  refine⟨v',w',hrun,⟨by simp [hn,hm],fun q hq hSq=>?_,xs ++ ys,h2,Rep.all_append (R.all_keep hsame hrx) (R.all_keep hsame hry')⟩,h3,h5⟩
  rcases h5 with h5 | h5
  ·exact hap q (h5 ▸ hq) hSq
  ·rw [h5] at hq;injection hq with hq;subst hq;exact hS hSq
theorem c5e {o:Oper} {a:Act} {w:World} {K:Act->World->Prop} {Q:Exit->Act->World->Prop} (T:Elt P R t e by_) {s x:Operand}
  (ho:o.op= .call {callee:= .builtin .append,args:= #[s,x],argTypes:= #[t,t]})
  {base:Nat} {S:Nat->Prop} {v:Value} {n:Nat} {l:List α} (hown:Own R e w base S v n l) (hs:a.eval s=v)
  {A:Option Addr} {m c:Nat} {k:List α} {Sx:Nat->Prop} (hr:Sl R w Sx A m c k) (hx:a.eval x= .slice A m c) (hsub:∀ {cs a},R.At w Sx cs a->R.At w S cs a) (h63:(n + m) * by_<=140737488355328) (h64:n + m<=maxLen) (hbase:base<=w.heap.size) (hS:¬ S w.heap.size)
  (h:∀ A' c' w',Own R e w' base S (.slice A' (n + m) c') (n + m) (l ++ k)->w.grownBy w' v.ownBlock->((Value.slice A' (n + m) c').ownBlock=v.ownBlock\/(Value.slice A' (n + m) c').ownBlock=some w.heap.size)->K (a.put o.dst (.slice A' (n + m) c')) w'):o.wp P a w K Q:=by
 obtain⟨v',w',hrun,h2,h3,h4⟩:=c3p T o.type hown hr hsub h63 h64 hbase hS
 obtain⟨A',c',rfl,_⟩:=h2.form
 unfold Oper.wp execOp
 simp only [ho,resolve,invoke,builtin,Sem.run_bind,Sem.run_pure,Result.andThen_ok,List.map_toArray,List.map_cons,List.map_nil,hs,hx,hrun]
 exact h A' c' w' h2 h3 h4
theorem b6J {ops:Array Oper} {rest:List Oper} {o:Oper} {a:Act} {w:World} {Q:Exit->Act->World->Prop} (T:Elt P R t e by_) (hgd:o.guard=none) {s x:Operand}
  (ho:o.op= .call {callee:= .builtin .append,args:= #[s,x],argTypes:= #[t,t]})
  {base:Nat} {S:Nat->Prop} {v:Value} {n:Nat} {l:List α} (hown:Own R e w base S v n l) (hs:a.eval s=v)
  {A:Option Addr} {m c:Nat} {k:List α} {Sx:Nat->Prop} (hr:Sl R w Sx A m c k) (hx:a.eval x= .slice A m c) (hsub:∀ {cs a},R.At w Sx cs a->R.At w S cs a) (h63:(n + m) * by_<=140737488355328) (h64:n + m<=maxLen) (hbase:base<=w.heap.size) (hS:¬ S w.heap.size)
  (h:∀ A' n' c' w',Hid (n'=n + m)->Own R e w' base S (.slice A' n' c') n' (l ++ k)->Below base w w'->w.grownBy w' v.ownBlock->((Value.slice A' n' c').ownBlock=v.ownBlock\/(Value.slice A' n' c').ownBlock=some w.heap.size)->wpList P ops Q rest (a.put o.dst (.slice A' n' c')) w'):wpList P ops Q (o :: rest) a w:=
 wpList_plain hgd fun _ hK=>c5e T ho hown hs hr hx hsub h63 h64 hbase hS fun A' c' w' h2 h3 h4=>hK _ _ (h A' _ c' w' rfl h2 ((Below.refl base w).grown h3 hbase fun k hk=>(hown.lt k hk).1) h3 h4)
end
theorem Own.base {α:Type} {R:Rep α} {e:TypeId} {w:World} {b b0:Nat} {S:Nat->Prop} {v:Value} {n:Nat} {l:List α} (h:Own R e w b S v n l) (hb:b0<=b):Own R e w b0 S v n l:=
 h.mono hb (fun _ h _=>h) (fun _ _ h=>h)
theorem Own.alloc {α:Type} {R:Rep α} {e:TypeId} {w:World} {base:Nat} {S:Nat->Prop} {v:Value} {n:Nat} {l:List α} (h:Own R e w base S v n l) (o:Obj):Own R e (w.alloc o) base S v n l:=
 h.below ((Below.refl _ _).alloc (Nat.le_refl _) _)
theorem Own.drew {α:Type} {R:Rep α} {e:TypeId} {w:World} {base:Nat} {S:Nat->Prop} {v:Value} {n:Nat} {l:List α} (h:Own R e w base S v n l):Own R e w.drew base S v n l:=
 h.below (Below.refl _ _).drew
theorem Own.drewN {α:Type} {R:Rep α} {e:TypeId} {w:World} {base:Nat} {S:Nat->Prop} {v:Value} {n:Nat} {l:List α} (h:Own R e w base S v n l) (q:Nat):Own R e (w.drewN q) base S v n l:=
 h.below ⟨rfl,rfl,rfl,Nat.le_refl _,fun _ _=>rfl⟩
theorem Own.lit {α:Type} {R:Rep α} {e:TypeId} (w:World) (cs:List Value) {S:Nat->Prop} (hS:¬ S w.heap.size) {l:List α} (h:R.all (w.alloc (.cells cs.toArray e)) S cs l) {n:Nat} (hn:n=l.length) (hm:n<=maxLen) :
  Own R e (w.alloc (.cells cs.toArray e)) w.heap.size S (.slice (some ⟨w.heap.size,0,none⟩) n n) n l:=by
 have hl:=R.all_len h
 refine⟨hn,fun k hk=>by simp [Value.ownBlock] at hk;subst hk;exact hS,cs,⟨by rw [hl,hn],.inr ⟨w.heap.size,n,cs.toArray,rfl,Nat.le_refl _,heap_alloc_new w _,Nat.le_refl _,hm,by simp [hl,hn],?_⟩⟩,h⟩
 rw [hn,<-hl];simp
theorem Sl.lit {α:Type} {R:Rep α} (w:World) (cs:List Value) (t:TypeId) {S:Nat->Prop} {l:List α} (h:R.all (w.alloc (.cells cs.toArray t)) S cs l) {n:Nat} (hn:n=l.length) (hm:n<=maxLen) :
  Sl R (w.alloc (.cells cs.toArray t)) (fun b=>S b\/b=w.heap.size) (some ⟨w.heap.size,0,none⟩) n n l:=by
 refine⟨hn,Nat.le_refl _,hm,cs,fun _=>⟨_,rfl,.inr rfl,fun j u hu=>?_⟩,Rep.all_mono (fun b hb _=> .inl hb) h⟩
 have hadd:(⟨w.heap.size,0,none⟩:Addr).add j=⟨w.heap.size,j,none⟩:=by unfold Addr.add;split <;> simp_all
 rw [hadd,cell_of_row _ _ _ _ _ _ (heap_alloc_new w _)]
 simpa using hu
def Rep.u8:Rep UInt8 where
 sz:=1
 At _ _ cs a:=cs=[.int .u8 a.toNat]
 len:=by rintro w S cs a rfl;rfl
 keep h _:=h
 mono h _:=h
theorem Rep.u8_all {w:World} {S:Nat->Prop}:∀ {l:List UInt8} {xs:List Value},Rep.u8.all w S xs l->xs=l.map fun a=> .int .u8 (a.toNat:Int)
 | [],_,h=>h
 | _ :: _,_,h=>by
  obtain⟨c,r,rfl,hc,hr⟩:=h
  rw [Rep.u8_all hr,show c=[_] from hc];rfl
theorem Sl.str {P:Program} {w:World} {S:Nat->Prop} {A:Option Addr} {n c:Nat} {l:List UInt8} (h:Sl Rep.u8 w S A n c l) {src e dst:TypeId} (hs:P.underlying src=some (.slice e)) (he:P.underlying e=some (.int .u8)) (hd:P.underlying dst=some .string) :
  (convert src dst (.slice A n c)).run P w= .ok (.string ⟨l.toArray⟩) w:=by
 obtain⟨rfl,_,_,xs,hx,hr⟩:=h
 have hxs:=Rep.u8_all hr
 rcases A with _ | ad
 ·have h0:l=[]:=by
   rcases Nat.eq_zero_or_pos l.length with h0 | h0
   ·exact List.eq_nil_of_length_eq_zero h0
   ·obtain⟨_,h,_⟩:=hx (by rw [hxs];simpa using h0)
    cases h
  subst h0
  exact run_convert_bytes_nil w src e hs he _ _ dst hd
 ·have hl:(loadCells ad l.length).run P w= .ok ((l.map fun a=>(a.toNat:Int)).map (Value.int .u8)).toArray w:=by
   have:=run_loadCells_list (P:=P) w ad xs (fun j v hj=>by
    have h0:0 < xs.length:=by
     rcases Nat.eq_zero_or_pos xs.length with h0 | h0
     ·have:=List.eq_nil_of_length_eq_zero h0;subst this;simp at hj
     ·exact h0
    obtain⟨ad',h,_,hc⟩:=hx h0
    injection h with h
    subst h
    exact hc j v hj)
   rw [hxs] at this
   rw [List.map_map]
   simpa [Function.comp_def] using this
  rw [run_convert_bytes_string w src dst e _ _ c hs he hd,run_bytesToString w ad _ c _ hl,foldl_push_bytes]
  have e1:(l.map fun a=>(a.toNat:Int)).map (fun n=>UInt8.ofNat n.toNat)=l:=by
   rw [List.map_map]
   conv=>rhs;rw [<-List.map_id l]
   apply List.map_congr_left
   intro a _
   simp
  rw [e1]
  simp [ByteArray.empty,ByteArray.emptyWithCapacity]
  rfl
theorem Sl.byte {w:World} {S:Nat->Prop} {A:Option Addr} {n c:Nat} {l:List UInt8} (h:Sl Rep.u8 w S A n c l) {k:Nat} (hk:k < l.length):∃ ad,A=some ad/\w.cell? (ad.add k)=some (.int .u8 (l[k].toNat:Int)):=by
 obtain⟨ad,cs,hA,_,_,hcs,hcell⟩:=h.at_ (by decide) hk
 refine⟨ad,hA,?_⟩
 have:=hcell 0 (.int .u8 (l[k].toNat:Int)) (by rw [show cs=[_] from hcs];rfl)
 simpa [Rep.u8] using this
theorem Grw.step {a b c:World} (h:Below a.heap.size a b) (k:Below b.heap.size b c):Below a.heap.size a c:=h.trans (k.mono h.size)
theorem Grw.alloc {a w:World} (h:Below a.heap.size a w) (o:Obj):Below a.heap.size a (w.alloc o):=h.alloc h.size o
theorem Grw.drew {a w:World} (h:Below a.heap.size a w):Below a.heap.size a w.drew:=h.drew
theorem Grw.drewN {a w:World} (h:Below a.heap.size a w) (n:Nat):Below a.heap.size a (w.drewN n):=⟨h.os,h.tape,h.output,h.size,h.block⟩
theorem Grw.setCell {a w:World} (h:Below a.heap.size a w) {p:Addr} (hp:a.heap.size<=p.block) (u:Value):Below a.heap.size a (w.setCell p u):=h.setCell hp u
def U64:Nat:=18446744073709551616
def Rep.u64:Rep Nat where
 sz:=1
 At _ _ cs a:=cs=[.int .u64 a]/\a < U64
 len:=by rintro w S cs a ⟨rfl,_⟩;rfl
 keep h _:=h
 mono h _:=h
def Rep.int:Rep Int where
 sz:=1
 At _ _ cs a:=cs=[.int .i64 a]/\ -9223372036854775808<=a/\a<=9223372036854775807
 len:=by rintro w S cs a ⟨rfl,_⟩;rfl
 keep h _:=h
 mono h _:=h
theorem Sl.cell {α:Type} {R:Rep α} {w:World} {S:Nat->Prop} {A:Option Addr} {n c:Nat} {l:List α} (h:Sl R w S A n c l) (hz:R.sz=1) {k:Nat} (hk:k < l.length):∃ ad u,A=some ad/\S ad.block/\ad.block < w.heap.size/\R.At w S [u] l[k]/\w.cell? (ad.add k)=some u:=by
 obtain⟨ad,cs,hA,h1,h2,hcs,hcell⟩:=h.at_ (by omega) hk
 have hl:=R.len hcs
 rw [hz] at hl hcell
 match cs,hl with
 | [u],_=>
  have:=hcell 0 u rfl
  exact⟨ad,u,hA,h1,h2,hcs,by simpa using this⟩
theorem Sl.litOf {α:Type} {R:Rep α} {w:World} {t:TypeId} {S:Nat->Prop} {cs:Array Value} (l:List α) (h:R.all (w.alloc (.cells cs t)) S cs.toList l) {n:Nat} (hn:n=l.length) (hm:n<=maxLen) {b:Nat} (hb:b=w.heap.size) :
  Sl R (w.alloc (.cells cs t)) (fun b=>S b\/b=w.heap.size) (some ⟨b,0,none⟩) n n l:=by
 subst hb
 have h2:cs=cs.toList.toArray:=by simp
 rw [h2] at h ⊢
 exact Sl.lit w _ t (by simpa using h) hn hm
def All:Nat->Prop:=fun _=>True
theorem Sl.all {α:Type} {R:Rep α} {w:World} {S:Nat->Prop} {n:Nat} {l:List α} {A:Option Addr} {c:Nat} (h:Sl R w S A n c l):Sl R w All A n c l:=h.mono fun _ _ _=>trivial
def c9c (p:Prop):Prop:=p
theorem c9c.mk {p:Prop} (h:c9c p):p:=h
theorem Rep.all_cons {α:Type} {R:Rep α} {w:World} {S:Nat->Prop} {u:Value} {a:α} {xs:List Value} {l:List α} (h:R.At w S [u] a) (hr:R.all w S xs l):R.all w S (u :: xs) (a :: l):=⟨[u],xs,rfl,h,hr⟩
theorem Rep.all_nil {α:Type} (R:Rep α) (w:World) (S:Nat->Prop):R.all w S [] []:=rfl
section
variable {P:Program} {α:Type} {R:Rep α} {t e:TypeId} {by_:Nat}
end
def Box (w:World) (g:Nat) (t:TypeId) (cs:List Value):Prop:=w.heap[g]?=some (.cells cs.toArray t (0,0))
section
variable {w w':World} {g:Nat} {t:TypeId} {cs:List Value}
theorem Box.lt (h:Box w g t cs):g < w.heap.size:=(Array.getElem?_eq_some_iff.1 h).1
theorem Box.cell (h:Box w g t cs) (i:Nat) {v:Value} (hv:cs[i]?=some v):w.cell? ⟨g,i,none⟩=some v:=by
 rw [cell_of_row w g i _ t (0,0) h];simpa using hv
theorem Box.new (w:World) (t:TypeId) (cs:List Value) {b:Nat} (hb:b=w.heap.size):Box (w.alloc (.cells cs.toArray t)) b t cs:=by subst hb;exact heap_alloc_new w _
theorem Box.keep {S:Nat->Prop} (h:Box w g t cs) (hs:a7r S w w') (hg:S g):Box w' g t cs:=(hs g hg h.lt).trans h
theorem Box.below (h:Box w g t cs) (hb:Below w.heap.size w w'):Box w' g t cs:=(hb.block g h.lt).trans h
theorem Box.alloc (h:Box w g t cs) (o:Obj):Box (w.alloc o) g t cs:=(Below.heap_alloc w o g h.lt).trans h
theorem Box.drew (h:Box w g t cs):Box w.drew g t cs:=h
theorem Box.grown {row:Option Nat} (h:Box w g t cs) (hg:w.grownBy w' row) (hne:some g ≠ row):Box w' g t cs:=(hg.block g h.lt hne).trans h
end
def a9o {α:Type} (R:Rep α) (e:TypeId) (w:World) (base:Nat) (v:Value) (n:Nat) (l:List α):Prop:=
 ∃ S:Nat->Prop,(∀ b,S b->base<=b/\b < w.heap.size)/\Own R e w base S v n l
def Ge (B:Nat):Nat->Prop:=fun b=>B<=b
section
variable {α:Type} {R:Rep α} {e:TypeId} {w w':World} {base:Nat} {v:Value} {n:Nat} {l:List α}
theorem a9o.nil_ (R:Rep α) (e:TypeId) (w:World) (base:Nat):a9o R e w base (.slice none 0 0) 0 []:=⟨No,fun _ h=>h.elim,Own.nil_ R e w base No⟩
theorem a9o.len (h:a9o R e w base v n l):n=l.length:=by obtain⟨S,_,h⟩:=h;exact h.len
theorem a9o.lt (h:a9o R e w base v n l):∀ k,v.ownBlock=some k->base<=k/\k < w.heap.size:=by obtain⟨S,_,h⟩:=h;exact h.lt
theorem a9o.below (h:a9o R e w base v n l) (hb:Below w.heap.size w w'):a9o R e w' base v n l:=by
 obtain⟨S,hs,h⟩:=h
 exact⟨S,fun b hb'=>⟨(hs b hb').1,by have:=(hs b hb').2;have:=hb.size;omega⟩,h.below hb⟩
theorem a9o.form (h:a9o R e w base v n l):∃ A c,v= .slice A n c/\n<=c/\c<=maxLen:=by obtain⟨S,_,h⟩:=h;exact h.form
theorem a9o.sl {A:Option Addr} {c:Nat} (h:a9o R e w base (.slice A n c) n l):Sl R w (Ge base) A n c l:=by
 obtain⟨S,hs,h⟩:=h
 exact h.sl (fun b hb=>(hs b hb).1) (fun b hb _=>hb)
theorem a9o.alloc (h:a9o R e w base v n l) (o:Obj):a9o R e (w.alloc o) base v n l:=h.below ((Below.refl _ _).alloc (Nat.le_refl _) _)
theorem a9o.drew (h:a9o R e w base v n l):a9o R e w.drew base v n l:=h.below (Below.refl _ _).drew
theorem a9o.not (h:a9o R e w base v n l) {b:Nat} (hb:w.heap.size<=b):v.ownBlock ≠ some b:=fun e=>by have:=(h.lt b e).2;omega
end
section
variable {P:Program} {α:Type} {R:Rep α} {t e:TypeId} {by_:Nat}
theorem a9o.grow {w:World} {base:Nat} {v:Value} {n:Nat} {l:List α} (hown:a9o R e w base v n l) :
  ∃ S:Nat->Prop,(∀ b,S b->base<=b/\b < w.heap.size)/\Own R e w base S v n l/\¬ S w.heap.size/\∀ b,base<=b->b < w.heap.size->v.ownBlock ≠ some b->S b:=by
 obtain⟨S,hs,h⟩:=hown
 refine⟨fun b=>S b\/(base<=b/\b < w.heap.size/\v.ownBlock ≠ some b),?_,?_,?_,?_⟩
 ·rintro b (hb | ⟨h1,h2,_⟩)
  ·exact hs b hb
  ·exact⟨h1,h2⟩
 ·refine h.mono (Nat.le_refl _) (fun b hb _=> .inl hb) ?_
  rintro k hk (hb | ⟨_,_,h3⟩)
  ·exact hb
  ·exact absurd hk h3
 ·rintro(hb | ⟨_,h2,_⟩)
  ·have:=(hs _ hb).2;omega
  ·omega
 ·exact fun b h1 h2 h3=> .inr ⟨h1,h2,h3⟩
end
section
variable {P:Program} {α:Type} {R:Rep α} {t e:TypeId} {by_:Nat} {w:World} {S:Nat->Prop} {A:Option Addr} {n c:Nat} {l:List α}
end
theorem Sl.setCell {α:Type} {R:Rep α} {w:World} {S:Nat->Prop} {A:Option Addr} {n c:Nat} {l:List α} (h:Sl R w S A n c l) {p:Addr} (hp:¬ S p.block) (u:Value):Sl R (w.setCell p u) S A n c l:=h.keep (a7r.setCell hp u)
end Go.Proofs.YtacnfjjkhpkloaaGreat
