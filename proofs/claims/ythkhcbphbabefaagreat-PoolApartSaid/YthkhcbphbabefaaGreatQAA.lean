/- Texts laid together: Base, Row, TmRow, Lent, LentO, LentF, LentC, LentE, Seg, TSeg, LentG. No conditions. -/
import Derived.WalkKit
import Derived.WalkSpells
import Derived.WalkLawsBesides
import Derived.Lib.Hide
import Derived.BigQuiet
import Derived.Deep.QuietTactic
import Derived.Deep.AppendLies
import Derived.Deep.Draws
import Derived.Maps.AppendAt
import Derived.Deep.DeepFit
import Derived.Deep.RegionHeld3
import Derived.Lib.SlBytesConst
import Derived.Laws.BytesArg
import Derived.Laws.BitsAllLaws
import Derived.ProofKit
import Derived.JoinedCond
import Derived.Deep.Slices
import Derived.Deep.Fields
import Derived.Lib.SmallJoins
import Derived.Test.YthkhcbphbabefaaGreatRows
import Derived.Test.YthkhcbphbabefaaGreatKD
import Derived.SizedLaws
import Derived.KernelRfl
namespace Go.Proofs.YthkhcbphbabefaaGreat
open Go.RowKit
theorem S3(a:Addr) (n:Nat):(a.add n).block=a.block:=by unfold Addr.add;split <;> rfl
theorem add_add(a:Addr) (i j:Nat):(a.add i).add j=a.add (i+j):=by
 unfold Addr.add;by_cases hi:i=0 <;> by_cases hj:j=0 <;> simp[hi,hj,Nat.add_assoc]
theorem add_zero(a:Addr):a.add 0=a:=by simp[Addr.add]
def BU(S:Nat->Prop) (w w':World):Prop:=∀b,S b->b<w.heap.size->w'.heap[b]?=w.heap[b]?
theorem BU.below{S:Nat->Prop}{w w':World}(hb:Below w.heap.size w w'):BU S w w':=λb _ hl=>hb.block b hl
theorem BU.grown{S:Nat->Prop}{w w':World}{row:Option Nat}(hg:w.grownBy w' row) (h:∀b,S b->some b≠row):BU S w w':=λb hs hl=>hg.block b hl (h b hs)
structure Rep (α:Type) where
 sz:Nat
 At:World->(Nat->Prop)->List Value->α->Prop
 len:∀{w S cs a},At w S cs a->cs.length=sz
 keep:∀{w w' S cs a},At w S cs a->BU S w w'->At w' S cs a
 mono:∀{w S S' cs a},At w S cs a->(∀b,S b->b<w.heap.size->S' b)->At w S' cs a
def FH(w:World) (S:Nat->Prop) (A:Option Addr) (xs:List Value):Prop:=
 0<xs.length->∃ad,A=some ad/\S ad.block/\∀j u,xs[j]?=some u->w.cell? (ad.add j)=some u
def Rep.all{α:Type}(R:Rep α) (w:World) (S:Nat->Prop):List Value->List α->Prop
 |xs,[]=>xs=[]
 |xs,a::l=>∃c r,xs=c++r/\R.At w S c a/\R.all w S r l
section
variable {α:Type}{R:Rep α}{w w':World}{S S':Nat->Prop}
theorem Rep.all_len:∀{l:List α}{xs:List Value},R.all w S xs l->xs.length=l.length*R.sz
 |[],xs,h=>by simp only[Rep.all]at h;subst h;simp
 |a::l,xs,h=>by
  obtain⟨c,r,rfl,hc,hr⟩:=h;rw[List.length_append,R.len hc,Rep.all_len hr,List.length_cons,Nat.succ_mul,Nat.add_comm]
theorem Rep.all_keep(hs:BU S w w'):∀{l:List α}{xs:List Value},R.all w S xs l->R.all w' S xs l
 |[],_,h=>h
 |_::_,_,h=>by
  obtain⟨c,r,rfl,hc,hr⟩:=h;exact⟨c,r,rfl,R.keep hc hs,Rep.all_keep hs hr⟩
theorem Rep.all_mono(hs:∀b,S b->b<w.heap.size->S' b):∀{l:List α}{xs:List Value},R.all w S xs l->R.all w S' xs l
 |[],_,h=>h
 |_::_,_,h=>by
  obtain⟨c,r,rfl,hc,hr⟩:=h;exact⟨c,r,rfl,R.mono hc hs,Rep.all_mono hs hr⟩
theorem Rep.all_sub(hs:∀{cs a},R.At w S cs a->R.At w' S' cs a):∀{l:List α}{xs:List Value},R.all w S xs l->R.all w' S' xs l
 |[],_,h=>h
 |_::_,_,h=>by
  obtain⟨c,r,rfl,hc,hr⟩:=h;exact⟨c,r,rfl,hs hc,Rep.all_sub hs hr⟩
theorem Rep.all_append:∀{l m:List α}{xs ys:List Value},R.all w S xs l->R.all w S ys m->R.all w S (xs++ys) (l++m)
 |[],m,xs,ys,h,k=>by simp only[Rep.all]at h;subst h;simpa using k
 |a::l,m,xs,ys,h,k=>by
  obtain⟨c,r,rfl,hc,hr⟩:=h;exact⟨c,r++ys,by simp,hc,Rep.all_append hr k⟩
theorem Rep.all_one{c:List Value}{a:α}(h:R.At w S c a):R.all w S c [a]:=⟨c,[],by simp,h,rfl⟩
end
structure Sl {α:Type}(R:Rep α) (w:World) (S:Nat->Prop) (A:Option Addr) (n c:Nat) (l:List α):Prop where
 len:n=l.length
 le:n<=c
 cap:c<=maxLen
 ex:∃xs,FH w S A xs/\R.all w S xs l
section
variable {α:Type}{R:Rep α}{w w':World}{S S':Nat->Prop}{A:Option Addr}{n c:Nat}{l:List α}
end
def No:Nat->Prop:=λ_=>False
structure Own {α:Type}(R:Rep α) (e:TypeId) (w:World) (base:Nat) (S:Nat->Prop) (v:Value) (n:Nat) (l:List α):Prop where
 len:n=l.length
 apart:∀k,v.ownBlock=some k->¬S k
 ex:∃xs:List Value,w.ownsRow base e R.sz v n xs/\R.all w S xs l
section
variable {α:Type}{R:Rep α}{e:TypeId}{w w':World}{base:Nat}{S S':Nat->Prop}{v:Value}{n:Nat}{l:List α}
theorem Own.nil_(R:Rep α) (e:TypeId) (w:World) (base:Nat) (S:Nat->Prop):Own R e w base S (.slice none 0 0) 0 []:=
 ⟨rfl,λ_ h=>by simp[Value.ownBlock]at h,[],World.ownsRow_nil w base e R.sz,rfl⟩
theorem Own.lt(h:Own R e w base S v n l):∀k,v.ownBlock=some k->base<=k/\k<w.heap.size:=by
 obtain⟨_,_,xs,ho,_⟩:=h;exact ho.lt
theorem Own.form(h:Own R e w base S v n l):∃A c,v= .slice A n c/\n<=c/\c<=maxLen:=by
 obtain⟨_,_,xs,ho,_⟩:=h;rcases ho.2 with⟨rfl,rfl⟩|⟨g,cap,cur,rfl,_,_,h1,h2,_⟩
 ·exact⟨none,0,rfl,Nat.le_refl _,by simp[maxLen]⟩
 ·exact⟨_,cap,rfl,h1,h2⟩
theorem Own.keep{row:Option Nat}(h:Own R e w base S v n l) (hg:w.grownBy w' row) (hne:v.ownBlock=none\/v.ownBlock≠row) (hS:BU S w w'):Own R e w' base S v n l:=by
 obtain⟨hn,ha,xs,ho,hr⟩:=h;exact⟨hn,ha,xs,ho.kept hg hne,R.all_keep hS hr⟩
theorem mG(h:Below w.heap.size w w'):w.grownBy w' none:=⟨h.os,h.tape,h.output,h.size,λi hi _=>h.block i hi⟩
theorem Own.below(h:Own R e w base S v n l) (hb:Below w.heap.size w w'):Own R e w' base S v n l:=by
 refine h.keep (mG hb) ?_ (BU.below hb);rcases h:v.ownBlock with _|k <;> simp
end
structure Elt (P:Program){α:Type}(R:Rep α) (t e:TypeId) (bytes:Nat):Prop where
 und:P.underlying t=some (.slice e)
 info:∃i z,P.info? e=some i/\i.zero=some z/\i.size=R.sz/\i.bytes=bytes/\z.cells.size=R.sz
 pos:0<R.sz
 one:∀{w S cs a},R.At w S cs a->∀u∈cs,u.oneCell'=true
theorem Rep.all_mem{α:Type}{R:Rep α}{w:World}{S:Nat->Prop}(h1:∀{w S cs a},R.At w S cs a->∀u∈cs,u.oneCell'=true):∀{l:List α}{xs:List Value},R.all w S xs l->∀u∈xs,u.oneCell'=true
 |[],xs,h=>by simp only[Rep.all]at h;subst h;simp
 |a::l,xs,h=>by
  obtain⟨c,r,rfl,hc,hr⟩:=h;intro u hu;rcases List.mem_append.1 hu with h|h
  ·exact h1 hc u h
  ·exact Rep.all_mem h1 hr u h
section
variable {P:Program}{α:Type}{R:Rep α}{t e:TypeId}{by_:Nat}
theorem rQ{w:World}(T:Elt P R t e by_){ty:TypeId}{base:Nat}{S:Nat->Prop}{v:Value}{n:Nat}{l:List α}(hown:Own R e w base S v n l) (c:Nat) :
  (Builtin.append_ #[t,t] ty #[v,.slice none 0 c]).run P w= .ok v w:=by
 obtain⟨ht,⟨i,z,hi,hz,h1,h2,h3⟩,hp,_⟩:=T;obtain⟨_,_,xs,ho,_⟩:=hown;rcases ho.2 with⟨rfl,rfl⟩|⟨g,cap,cur,rfl,_,_,hnc,_⟩
 ·simp[Builtin.append_,run_underlying ht,sizeOf,typeInfo,hi,Builtin.lenOf,Builtin.firstCells]
 ·simp[Builtin.append_,run_underlying ht,sizeOf,typeInfo,hi,Builtin.lenOf,Builtin.firstCells,hnc,storeCells]
theorem FI{w:World}(T:Elt P R t e by_) (ty:TypeId){base:Nat}{S:Nat->Prop}{v:Value}{n:Nat}{l:List α}(hown:Own R e w base S v n l)
  {A:Option Addr} {m c:Nat} {k:List α} {Sx:Nat->Prop} (hr:Sl R w Sx A m c k) (hsub:∀{cs a},R.At w Sx cs a->R.At w S cs a) (h63:(n+m)*by_<=140737488355328) (h64:n+m<=maxLen) (hbase:base<=w.heap.size) (hS:¬S w.heap.size) :
  ∃v' w',(Builtin.append_ #[t,t] ty #[v,.slice A m c]).run P w= .ok v' w'/\Own R e w' base S v' (n+m) (l++k)/\w.grownBy w' v.ownBlock/\
   (v'.ownBlock=v.ownBlock\/v'.ownBlock=some w.heap.size):=by
 obtain⟨hm,hmc,hcm,ys,hys,hry⟩:=hr;rcases A with _|ad
 ·have hm0:m=0:=by
   rcases Nat.eq_zero_or_pos ys.length with h0|h0
   ·have:=R.all_len hry;rw[h0]at this;rcases Nat.mul_eq_zero.1 this.symm with h1|h1
    ·omega
    ·have:=T.pos;omega
   ·obtain⟨_,h,_⟩:=hys h0;cases h
  subst hm0;have hk:k=[]:=List.eq_nil_of_length_eq_zero hm.symm;subst hk;exact⟨v,w,rQ T hown c,by simpa using hown,World.grownBy.refl w _,.inl rfl⟩
 ·obtain⟨hn,hap,xs,ho,hrx⟩:=hown;obtain⟨ht,⟨i,z,hi,hz,h1,h2,h3⟩,hp,hone⟩:=T;have hl:=R.all_len hry;have hry':R.all w S ys k:=Rep.all_sub hsub hry;have hcells:∀j u,ys[j]?=some u->w.cell? (ad.add j)=some u:=by
   intro j u hu;have h0:0<ys.length:=by
    rcases Nat.eq_zero_or_pos ys.length with h0|h0
    ·have:=List.eq_nil_of_length_eq_zero h0;subst this;simp at hu
    ·exact h0
   obtain⟨ad',h,_,hc⟩:=hys h0;injection h with h;subst h;exact hc j u hu
  obtain⟨v',w',hrun,h2,h3,_,h5⟩:=run_append_own_at (P:=P) w base t ty e i z R.sz by_ ht hi hz h1 h2 h3 hp v n xs ho ad m c ys (by rw[hl,hm]) hcells (Rep.all_mem hone hry) h64 h63 hbase;have hsame:BU S w w':=BU.grown h3 (λb hb hbv=>hap b hbv.symm hb);refine⟨v',w',hrun,⟨by simp[hn,hm],λq hq hSq=>?_,xs++ys,h2,Rep.all_append (R.all_keep hsame hrx) (R.all_keep hsame hry')⟩,h3,h5⟩;rcases h5 with h5|h5
  ·exact hap q (h5▸hq) hSq
  ·rw[h5]at hq;injection hq with hq;subst hq;exact hS hSq
theorem Iq{o:Oper}{a:Act}{w:World}{K:Act->World->Prop}{Q:Exit->Act->World->Prop}(T:Elt P R t e by_){s x:Operand}
  (ho:o.op= .call {callee:=.builtin .append,args:= #[s,x],argTypes:= #[t,t]})
  {base:Nat} {S:Nat->Prop} {v:Value} {n:Nat} {l:List α} (hown:Own R e w base S v n l) (hs:a.eval s=v)
  {A:Option Addr} {m c:Nat} {k:List α} {Sx:Nat->Prop} (hr:Sl R w Sx A m c k) (hx:a.eval x= .slice A m c) (hsub:∀{cs a},R.At w Sx cs a->R.At w S cs a) (h63:(n+m)*by_<=140737488355328) (h64:n+m<=maxLen) (hbase:base<=w.heap.size) (hS:¬S w.heap.size)
  (h:∀A' c' w',Own R e w' base S (.slice A' (n+m) c') (n+m) (l++k)->w.grownBy w' v.ownBlock->((Value.slice A' (n+m) c').ownBlock=v.ownBlock\/(Value.slice A' (n+m) c').ownBlock=some w.heap.size)->K (a.put o.dst (.slice A' (n+m) c')) w'):o.wp P a w K Q:=by
 obtain⟨v',w',hrun,h2,h3,h4⟩:=FI T o.type hown hr hsub h63 h64 hbase hS;obtain⟨A',c',rfl,_⟩:=h2.form;unfold Oper.wp execOp;simp only[ho,resolve,invoke,builtin,Sem.run_bind,Sem.run_pure,Result.andThen_ok,List.map_toArray,List.map_cons,List.map_nil,hs,hx,hrun];exact h A' c' w' h2 h3 h4
theorem wl{ops:Array Oper}{rest:List Oper}{o:Oper}{a:Act}{w:World}{Q:Exit->Act->World->Prop}(T:Elt P R t e by_) (hgd:o.guard=none){s x:Operand}
  (ho:o.op= .call {callee:=.builtin .append,args:= #[s,x],argTypes:= #[t,t]})
  {base:Nat} {S:Nat->Prop} {v:Value} {n:Nat} {l:List α} (hown:Own R e w base S v n l) (hs:a.eval s=v)
  {A:Option Addr} {m c:Nat} {k:List α} {Sx:Nat->Prop} (hr:Sl R w Sx A m c k) (hx:a.eval x= .slice A m c) (hsub:∀{cs a},R.At w Sx cs a->R.At w S cs a) (h63:(n+m)*by_<=140737488355328) (h64:n+m<=maxLen) (hbase:base<=w.heap.size) (hS:¬S w.heap.size)
  (h:∀A' n' c' w',Hid (n'=n+m)->Own R e w' base S (.slice A' n' c') n' (l++k)->Below base w w'->w.grownBy w' v.ownBlock->((Value.slice A' n' c').ownBlock=v.ownBlock\/(Value.slice A' n' c').ownBlock=some w.heap.size)->wpList P ops Q rest (a.put o.dst (.slice A' n' c')) w'):wpList P ops Q (o::rest) a w:=
 wpList_plain hgd λ_ hK=>Iq T ho hown hs hr hx hsub h63 h64 hbase hS λA' c' w' h2 h3 h4=>hK _ _ (h A' _ c' w' rfl h2 ((Below.refl base w).grown h3 hbase λk hk=>(hown.lt k hk).1) h3 h4)
end
theorem Own.alloc{α:Type}{R:Rep α}{e:TypeId}{w:World}{base:Nat}{S:Nat->Prop}{v:Value}{n:Nat}{l:List α}(h:Own R e w base S v n l) (o:Obj):Own R e (w.alloc o) base S v n l:=
 h.below ((Below.refl _ _).alloc (Nat.le_refl _) _)
theorem Sl.lit{α:Type}{R:Rep α}(w:World) (cs:List Value) (t:TypeId){S:Nat->Prop}{l:List α}(h:R.all (w.alloc (.cells cs.toArray t)) S cs l){n:Nat}(hn:n=l.length) (hm:n<=maxLen) :
  Sl R (w.alloc (.cells cs.toArray t)) (λb=>S b\/b=w.heap.size) (some ⟨w.heap.size,0,none⟩) n n l:=by
 refine⟨hn,Nat.le_refl _,hm,cs,λ_=>⟨_,rfl,.inr rfl,λj u hu=>?_⟩,Rep.all_mono (λb hb _=>.inl hb) h⟩;have hadd:(⟨w.heap.size,0,none⟩:Addr).add j=⟨w.heap.size,j,none⟩:=by unfold Addr.add;split <;> simp_all
 rw[hadd,cell_of_row _ _ _ _ _ _ (heap_alloc_new w _)];simpa using hu
theorem Sl.litOf{α:Type}{R:Rep α}{w:World}{t:TypeId}{S:Nat->Prop}{cs:Array Value}(l:List α) (h:R.all (w.alloc (.cells cs t)) S cs.toList l){n:Nat}(hn:n=l.length) (hm:n<=maxLen){b:Nat}(hb:b=w.heap.size) :
  Sl R (w.alloc (.cells cs t)) (λb=>S b\/b=w.heap.size) (some ⟨b,0,none⟩) n n l:=by
 subst hb;have h2:cs=cs.toList.toArray:=by simp
 rw[h2]at h⊢;exact Sl.lit w _ t (by simpa using h) hn hm
section
variable {P:Program}{α:Type}{R:Rep α}{t e:TypeId}{by_:Nat}
end
def Box(w:World) (g:Nat) (t:TypeId) (cs:List Value):Prop:=w.heap[g]?=some (.cells cs.toArray t (0,0))
section
variable {w w':World}{g:Nat}{t:TypeId}{cs:List Value}
theorem Box.lt(h:Box w g t cs):g<w.heap.size:=(Array.getElem?_eq_some_iff.1 h).1
theorem Box.cell(h:Box w g t cs) (i:Nat){v:Value}(hv:cs[i]?=some v):w.cell? ⟨g,i,none⟩=some v:=by
 rw[cell_of_row w g i _ t (0,0) h];simpa using hv
theorem Box.new(w:World) (t:TypeId) (cs:List Value){b:Nat}(hb:b=w.heap.size):Box (w.alloc (.cells cs.toArray t)) b t cs:=by subst hb;exact heap_alloc_new w _
theorem Box.alloc(h:Box w g t cs) (o:Obj):Box (w.alloc o) g t cs:=(Below.heap_alloc w o g h.lt).trans h
theorem Box.drew(h:Box w g t cs):Box w.drew g t cs:=h
end
section
variable {α:Type}{R:Rep α}{e:TypeId}{w w':World}{base:Nat}{v:Value}{n:Nat}{l:List α}
end
section
variable {P:Program}{α:Type}{R:Rep α}{t e:TypeId}{by_:Nat}
end
section
variable {P:Program}{α:Type}{R:Rep α}{t e:TypeId}{by_:Nat}{w:World}{S:Nat->Prop}{A:Option Addr}{n c:Nat}{l:List α}
end
end Go.Proofs.YthkhcbphbabefaaGreat
namespace Go.Proofs.YthkhcbphbabefaaGreat
open Go.ChangeShapes Go.WideShapes Go.ChangeAt Go.RowKit Go.ChangeMaps
section
variable {H:Type}{enc:TypeId×Value->H}{P:Program}
theorem Below.trodAll(hl:laidOutB P=true){W W':World}(hb:Below W.heap.size W W'):∀{ts:List TypeId}{vs:List Value}{ds:List (DataW H)}{ps:List MemPlace},
  (ts.all λt=>P.readableRec t&&decide (t<P.types.size))=true->DataW.TrodAll enc P W 0 (λ_=>true) true ts vs ds ps->(∀x∈ps,x.block<W.heap.size)->
  DataW.TrodAll enc P W' 0 (λb=>decide (b<W.heap.size)) true ts vs ds ps
 |[],[],[],_,_,h,_=>h
 |t::ts,v::vs,d::ds,ps,hr,h,hlt=>by
  obtain⟨p,q,h1,h2,rfl⟩:=h;simp only[List.all_cons,Bool.and_eq_true,decide_eq_true_eq]at hr;exact⟨p,q,Below.trod hl hr.1.1 hr.1.2 h1 hb (λx hx=>hlt x (by simp[hx])),Below.trodAll hl hb (by simpa using hr.2) h2 (λx hx=>hlt x (by simp[hx])),rfl⟩
theorem Cb(hl:laidOutB P=true){f:Func}(hrd:(f.params.toList.all λt=>P.readableRec t&&decide (t<P.types.size))=true){tb:TypeId}(hres:f.resultTypes= #[tb]) (hub:P.underlying tb=some .bool)
  {s:ChangeSpec} {W W':World} {args:Array Value} {ds gs:List (DataW H)} {before:List MemPlace} (hv:s.vars=[]) (hW:DataW.Whole enc P f.params.toList s.vars false W args.toList ds gs before)
  (hfn:s.fn H ds={results:=[.lit (.bool true)],args:=ds}) (hb:Below W.heap.size W W') :
  s.post enc P f false true false false W args (.bool true) W':=by
 have hW':=hW;obtain⟨p,q,hA,hV,rfl,hfz,hnd⟩:=hW;rw[hv]at hV;obtain⟨rfl,rfl⟩:=trodVars_none hV;have hlt:∀x∈p++[],x.block<W.heap.size:=λx hx=>hW'.lt x hx;refine⟨ds,[],p++[],[],p,[],hW',?_,?_,?_,World.keptBut_mono (λx hx=>⟨hx,?_⟩) (hb.frame (· ∈ p++[])),λh=>by cases h⟩
 ·rw[List.append_nil,hfn,hres];exact trodAll_mk1 (shut_bool hub true)
 ·rw[List.append_nil,hfn];exact Below.trodAll hl hb hrd hA (λx hx=>hlt x (by simpa using hx))
 ·rw[hv,List.append_nil,hfn];rfl
 ·right;simpa using hx
theorem Cc(l r:List (DataW H)):Rows.uptoBulkAll (l++r)=Rows.uptoBulkAll l+Rows.uptoBulkAll r:=by
 induction l with
 |nil=>simp[Rows.uptoBulkAll]
 |cons x l ih=>simp only[List.cons_append,Rows.uptoBulkAll,ih];omega
end
end Go.Proofs.YthkhcbphbabefaaGreat
namespace Go.Proofs.YthkhcbphbabefaaGreat.Am
open Go Go.ChangeShapes Go.WideShapes Go.ChangeAt Go.RowKit Go.ChangeMaps
def inK(k:IntKind) (n:Int):Prop:=k.min<=n/\n<=k.max
def Ij{α:Type}(p:α->Prop) (l:List α):Prop:=∀x∈l,p x
def wfU:(u:U)->u.den->Prop
 |.int k,n=>inK k n
 |.byte,_=>True
 |.bool,_=>True
 |.op,_=>True
 |.kv _,_=>True
 |.str,l=>List.length l<=maxLen
 |.sl u,l=>List.length l<=maxLen/\Ij (wfU u) l
 |.ln u,l=>List.length l<=maxLen/\Ij (wfU u) l
 |.pr a b,x=>wfU a x.1/\wfU b x.2
 |.arr _ u,v=>Ij (wfU u) (Vector.toList v)
def wtU:(u:U)->u.den->Nat
 |.int _,_=>1
 |.byte,_=>1
 |.bool,_=>1
 |.op,_=>1
 |.kv _,_=>1
 |.str,l=>List.length l+1
 |.sl u,l=>(List.map (wtU u) l).sum+1
 |.ln u,l=>(List.map (wtU u) l).sum+1
 |.pr a b,x=>wtU a x.1+wtU b x.2
 |.arr _ u,v=>(List.map (wtU u) (Vector.toList v)).sum
def GP:U->Nat
 |.int k=>k.bits / 8
 |.byte=>1
 |.bool=>1
 |.op=>1
 |.kv _=>24
 |.str=>16
 |.sl _=>24
 |.ln _=>24
 |.pr a b=>GP a+GP b
 |.arr n u=>n*GP u
def szU:(u:U)->u.den->Prop
 |.int _,_=>True
 |.byte,_=>True
 |.bool,_=>True
 |.op,_=>True
 |.kv _,_=>True
 |.str,l=>List.length l<=reachBytes
 |.sl u,l=>List.length l*GP u<=reachBytes/\Ij (szU u) l
 |.ln u,l=>List.length l*GP u<=reachBytes/\Ij (szU u) l
 |.pr a b,x=>szU a x.1/\szU b x.2
 |.arr _ u,v=>Ij (szU u) (Vector.toList v)
def InR(ns:List Nat):Prop:=ns.all (· <=reachBytes)=true
theorem InR.app{a b:List Nat}(h:InR (a++b)):InR a/\InR b:=by
 unfold InR at *
 rw[Tr,PM]at h;exact h
section
variable {H:Type}(enc:TypeId×Value->H) (P:Program) (W:World)
def Old(b _o:Nat):Prop:=b<W.heap.size
def Rd'(t:TypeId) (u:U):Prop:=∀(fuel:Nat) (cs:List Value) (y:DataW H×List MemPlace),DataW.trod enc P W 0 (λ_=>true) true fuel t cs=some y->∃x:u.den,E4 (Old W) W (u.enc x) cs/\wfU u x/\wtU u x<=Rows.uptoBulk y.1/\(InR (y.1.weights P t)->szU u x)
end
section
variable {H:Type}{enc:TypeId×Value->H}{P:Program}{W:World}
theorem dv1{I:Nat->Nat->Prop}{v:Value}(h:v.oneCell'=true):E4 I W [.v v] [v]:=by
 simp only[E4];exact⟨v,[],rfl,⟨rfl,h⟩,rfl⟩
theorem Rd'.int{t:TypeId}{k:IntKind}(ht:P.underlying t=some (.int k)):Rd' enc P W t (.int k):=by
 intro fuel cs y h;obtain⟨n,rfl,rfl,hw⟩:=DataW.trod_int ht h;refine⟨n,dv1 rfl,?_,?_⟩
 ·show inK k n;simpa [inK,Lit.wf]using hw
 ·exact⟨by simp[Rows.uptoBulk,wtU],λ_=>trivial⟩
theorem Rd'.byte{t:TypeId}(ht:P.underlying t=some (.int .u8)):Rd' enc P W t .byte:=by
 intro fuel cs y h;obtain⟨n,rfl,rfl,hw⟩:=DataW.trod_int ht h;simp[Lit.wf,IntKind.min,IntKind.max,IntKind.signed,IntKind.bits]at hw;refine⟨UInt8.ofNat n.toNat,?_,trivial,?_⟩
 ·have e:((UInt8.toNat (UInt8.ofNat n.toNat):Nat):Int)=n:=ofNat_toNat hw.1 (by omega);have:U.byte.enc (UInt8.ofNat n.toNat)=[DV.v (.int .u8 n)]:=congrArg (λm:Int=>[DV.v (.int .u8 m)]) e;rw[this];exact dv1 rfl
 ·exact⟨by simp[Rows.uptoBulk,wtU],λ_=>trivial⟩
theorem Ad(l r:List (DataW H)):Rows.uptoBulkAll (l++r)=Rows.uptoBulkAll l+Rows.uptoBulkAll r:=Cc l r
theorem Ae{e:TypeId}:∀{l:List (DataW H)},InR (DataW.weightsAll P e l)->∀d∈l,InR (d.weights P e)
 |d::l,h,x,hx=>by
  simp only[DataW.weightsAll]at h;rcases List.mem_cons.1 hx with rfl|hx
  ·exact h.app.1
  ·exact Ae h.app.2 x hx
theorem Fg{u:U}{e:TypeId}(a:Addr) (D:Nat->DataW H):∀len:Nat,
  (∀i,i<len->∃cs,cs.length=u.size/\(∀j,j<u.size->W.cell? ((a.add (i*u.size)).add j)=cs[j]?)/\∃x:u.den,E4 (Old W) W (u.enc x) cs/\wfU u x/\wtU u x<=Rows.uptoBulk (D i)/\(InR ((D i).weights P e)->szU u x))->
  ∃(xs:List Value) (l:List u.den),l.length=len/\xs.length=len*u.size/\(∀j v,xs[j]?=some v->W.cell? (a.add j)=some v)/\D2 (Old W) W (l.map u.enc) xs/\(∀x∈l,wfU u x)/\(l.map (wtU u)).sum<=Rows.uptoBulkAll ((List.range len).map D)/\((∀i,i<len->InR ((D i).weights P e))->∀x∈l,szU u x)
 |0,_=>⟨[],[],rfl,by simp,by simp,rfl,by simp,by simp,by simp⟩
 |len+1,h=>by
  obtain⟨xs,l,h1,h2,h3,h4,h6,h5,h7⟩:=Fg a D len (λi hi=>h i (by omega));obtain⟨cs,hc,hj,x,hx,hf,hw,hz⟩:=h len (by omega);refine⟨xs++cs,l++[x],by simp[h1],by rw[PU,h2,hc,QD],?_,?_,?_,?_,?_⟩
  ·intro j v hv;rcases Rv j xs.length with hl|hl
   ·rw[List.getElem?_append_left hl]at hv;exact h3 j v hv
   ·rw[List.getElem?_append_right hl]at hv;have hlt:j-xs.length<cs.length:=by
     rcases Rv (j-xs.length) cs.length with h|h
     ·exact h
     ·rw[List.getElem?_eq_none h]at hv;cases hv
    have:=hj (j-xs.length) (by omega);rw[Am.add_add,<-h2,show xs.length+(j-xs.length)=j from by omega]at this;rw[this];exact hv
  ·rw[PV];exact h4.app ⟨cs,[],by simp,hx,rfl⟩
  ·intro y hy;rcases List.mem_append.1 hy with hy|hy
   ·exact h6 y hy
   ·simp only[Qp]at hy;subst hy;exact hf
  ·rw[List.range_succ,PV,PV,Ad,So];simp[Rows.uptoBulkAll];omega
  ·intro hi y hy;rcases List.mem_append.1 hy with hy|hy
   ·exact h7 (λi hlt=>hi i (by omega)) y hy
   ·simp only[Qp]at hy;subst hy;exact hz (hi len (by omega))
theorem Rd'.sl{u:U}{t e:TypeId}(ht:P.underlying t=some (.slice e)) (hc:P.cellsOf e=u.size) (hz:0<u.size) (hby:GP u<=P.bytesOf e) (h:Rd' enc P W e u):Rd' enc P W t (.sl u):=by
 intro fuel cs y hy;rcases Go.Deep.open_slice ht hy with⟨rfl,rfl⟩|⟨a,len,cap,m,n,D,Pl,rfl,_,hl,hm,hmm,rfl,hx⟩
 ·refine⟨([]:List u.den),?_,?_,?_⟩
  ·show E4 (Old W) W [.sl []] [.slice none 0 0];refine⟨_,[],rfl,⟨none,0,1,[],rfl,PW _,by simp[maxLen],by omega,by simp,λh0=>?_,rfl⟩,rfl⟩;simp at h0
  ·exact⟨by show(0:Nat)<=maxLen;exact QE _,λx hx=>by cases hx⟩
  ·refine⟨?_,λ_=>⟨by show 0*GP u<=reachBytes;omega,λx hx=>by cases hx⟩⟩;show(List.map (wtU u) ([]:List u.den)).sum+1<=_;simp[Rows.uptoBulk]
 ·simp only[Qy]at hmm;subst hmm;obtain⟨xs,l,h1,h2,h3,h4,h6,h5,h7⟩:=Fg (P:=P) (e:=e) (u:=u) a D len (λi hi=>by
   obtain⟨cs,hcs,hyi⟩:=hx i (by omega);obtain⟨_,hcl,hat⟩:=World.cells?_some hcs;rw[hc]at hcl hat
   obtain⟨x,hx1,hx2,hx3,hx4⟩:=h _ _ _ hyi;exact⟨cs,hcl,λj hj=>hat j hj,x,hx1,hx2,hx3,hx4⟩)
  refine⟨l,?_,⟨by rw[h1];exact Qt hl hm,h6⟩,?_⟩
  ·show E4 (Old W) W [.sl (l.map u.enc)] [.slice (some a) len m];have hlen:(l.map u.enc).length=len:=by rw[PR,h1]
   refine⟨_,[],rfl,⟨some a,m,u.size,xs,by rw[hlen],by rw[hlen];exact hl,hm,hz,λe he=>?_,λh0=>⟨a,rfl,λj v hv=>⟨h3 j v hv,?_⟩⟩,h4⟩,rfl⟩
   ·obtain⟨x,_,rfl⟩:=List.mem_map.1 he;exact u.enc_len x
   ·have:=block_lt_of_cell (h3 j v hv);rw[S3]at this;exact this
  ·refine⟨?_,λhr=>?_⟩
   ·show(List.map (wtU u) l).sum+1<=_;simp only[Rows.uptoBulk];omega
   ·simp only[DataW.weights,ht]at hr;have hr':=InR.app (a:=[_]) hr;have hr2:=hr'.2.app;refine⟨?_,h7 λi hi=>Ae hr2.1 _ (List.mem_map.2 ⟨i,List.mem_range.2 hi,rfl⟩)⟩;have h0:=hr'.1;simp only[InR,Rc,List.all_nil,Rg,PX,PR,List.length_range]at h0;rw[h1];refine Qt (Nat.mul_le_mul (SE len _) hby) h0
theorem Af{u:U}{t:TypeId}{v:Value}{d:DataW H}{p:List MemPlace}(hs:u.size=1) (h:Rd' enc P W t u) (hv:v.cells.toList=[v]) (ht:DataW.Trod enc P W 0 (λ_=>true) true t v d p) :
  ∃x:u.den,OAr (Old W) W (AT.oa (.c (.d u)) x) v []/\wfU u x/\wtU u x<=Rows.uptoBulk d/\(InR (d.weights P t)->szU u x):=by
 obtain⟨fuel,hf⟩:=ht;obtain⟨x,h1,h2,h3,h4⟩:=h _ _ _ hf;refine⟨x,?_,h2,h3,h4⟩;rw[hv]at h1;have hl:=u.enc_len x;rw[hs]at hl
 match he:u.enc x,hl with
 |[c],_=>
  rw[he]at h1;simp only[E4]at h1;obtain⟨y,r,e,h6,h5⟩:=h1;injection e with e1 e2;subst e1;show OAr (Old W) W (.c (xe ((u.enc x).map .d))) v [];rw[he];exact⟨rfl,by assumption⟩
theorem Fh{b0:Nat}{t:TypeId}{v:Value}(ht:(∃k,P.underlying t=some (.int k))\/P.underlying t=some .bool\/P.underlying t=some .string\/∃e,P.underlying t=some (.slice e)) (hv:Value.okWide P W .any b0 t v):v.cells.toList=[v]:=by
 rcases ht with⟨k,ht⟩|ht|ht|⟨e,ht⟩ <;> (simp only[Value.okWide,ht,Cell.okWide]at hv;cases v <;> simp_all [Cell.ok,Value.cells])
theorem Fi{ts:List TypeId}{ds:List (DataW H)}(h:(DataW.weightsEach P ts ds).all (· <=reachBytes)=true){j:Nat}{t:TypeId}{d:DataW H}(ht:ts[j]?=some t) (hd:ds[j]?=some d):InR (d.weights P t):=by
 unfold InR;rw[Sg];exact λn hn=>List.all_eq_true.1 h n (DataW.weights_mem_each ht hd n hn)
theorem GQ:OAs (Old W) W [] [] []:=⟨rfl,rfl⟩
theorem vM{x:OA}{v:Value}{xs:List OA}{vs:List Value}(h:OAr (Old W) W x v []) (k:OAs (Old W) W xs vs []):OAs (Old W) W (x::xs) (v::vs) []:=⟨v,vs,[],[],rfl,h,k,rfl⟩
theorem DB{f:FuncId}{S:TFn}(hS:FnT P f S) (_hres:S.res= .cons (.c (.d .bool)) .nil) (args:Array Value) (a:S.args.den) (hgl:nX (Old W) W) (hargs:OAs (Old W) W (S.args.oas a) args.toList []){r:S.R}(hr:S.G a=some r) (ht:S.res.oas (S.out r).2=[.c (.d (.v (.bool true)))]) :
  Calls P f args W λe W'=>e= .returned (.bool true)/\Below W.heap.size W W':=by
 refine(hS.ok.calls W (Old W) [] args (S.args.oas a) (λb o h=>h) hgl hargs QM ⟨a,r,rfl,hr⟩).mono λe W' h=>?_;cases e with
 |returned v=>
  obtain⟨I',vs,Fp,Fr',rfl,R⟩:=h;have h1:=R.res;rw[TFn.res_of hS.args hr,ht]at h1;simp only[OAs]at h1;obtain⟨x,rs,F1,F2,rfl,h2,⟨rfl,_⟩,_⟩:=h1;obtain⟨_,h3,_⟩:=h2;subst h3;exact⟨rfl,⟨R.fr.os,R.fr.tape,R.fr.output,R.fr.size,λk hk=>R.fr.block k hk (by simp)⟩⟩
 |panicked c=>exact h.elim
 |_=>exact h.elim
end
end Go.Proofs.YthkhcbphbabefaaGreat.Am
namespace Go.Proofs.YthkhcbphbabefaaGreat.Am
open Go
def mQ(I:Nat->Nat->Prop) (b k:Nat):Prop:=∃o,k=2*o+1/\I b (2*o)
def qV(I:Nat->Nat->Prop) (b k:Nat):Prop:=I b k\/∃o,k=2*o/\I b (2*o+1)
theorem Fj{I:Nat->Nat->Prop}{w:World}:∀{es:List (List DV)}{v:Value},DVr I w (lnD es) v->(∀{J:Nat->Nat->Prop}{xs:List Value},D2 I w es xs->D2 J w es xs)->∀{J:Nat->Nat->Prop},(∀b k,qV I b k->J b k)->DVr J w (.sl es) v
 |[],v,h,_,J,hJ=>by
  simp only[lnD,DVr]at h⊢;obtain⟨A,c,z,xs,h1,h2,h3,h4,h5,h6,h7⟩:=h;exact⟨A,c,z,xs,h1,h2,h3,h4,h5,λh0=>by simp at h0,h7⟩
 |e::es,v,h,hf,J,hJ=>by
  simp only[lnD,DVr]at h⊢;obtain⟨A,c,z,xs,h1,h2,h3,h4,h5,h6,h7⟩:=h;refine⟨A,c,z,xs,h1,h2,h3,h4,h5,λh0=>?_,hf h7⟩;obtain⟨ad,h8,h9⟩:=h6 h0;exact⟨ad,h8,λj u hj=>⟨(h9 j u hj).1,hJ _ _ (.inr ⟨_,rfl,(h9 j u hj).2⟩)⟩⟩
def et(by_:Nat) (u:U) (e:TypeId):TFn:=⟨.cons (.c (.d (.ln u))) .nil,.nil,.cons (.c (.row u e)) .nil,List u.den,λa=>bP by_ a.1,λr=>((),(r,())),.none⟩
theorem nO{P:Program}{f:FuncId}{by_:Nat}{u:U}{e:TypeId}(hu:u.flat=true) (he:e<Q7) (h:FnT P f (H3 by_ u e)):FnT P f (et by_ u e):=
 ⟨rfl,rfl,⟨trivial,h.ok.isf,λw I F args xs hIn hgl hargs hF hp=>by
  obtain⟨⟨l,u1⟩,r,rfl,hc⟩:=hp;change List u.den at l
  replace hc:bP by_ l=some r:=hc
  replace hargs:OAs I w [.c (.d (lnD (l.map u.enc)))] args.toList F:=hargs
  simp only[OAs,OAr,OCr]at hargs;obtain⟨v,r1,F1,F2,e1,⟨rfl,hv⟩,⟨rfl,rfl⟩,rfl⟩:=hargs;have ha:args= #[v]:=by cases args;simp only at e1;subst e1;rfl
  subst ha;have eres:((et by_ u e).spec.res ((et by_ u e).args.oas (l,u1)))=[.c (.row u.size e (r.map u.enc))]:=by
   rw[TFn.res_of (S:=et by_ u e) (a:=(l,u1)) (r:=r) rfl hc];rfl
  have epost:((et by_ u e).spec.post ((et by_ u e).args.oas (l,u1)))=[]:=by
   rw[TFn.post_of (S:=et by_ u e) (a:=(l,u1)) (r:=r) rfl hc];rfl
  have eres1:((H3 by_ u e).spec.res ((H3 by_ u e).args.oas (l,u1)))=[.c (.row u.size e (r.map u.enc))]:=by
   rw[TFn.res_of (S:=H3 by_ u e) (a:=(l,u1)) (r:=r) rfl hc];rfl
  have epost1:((H3 by_ u e).spec.post ((H3 by_ u e).args.oas (l,u1)))=[]:=by
   rw[TFn.post_of (S:=H3 by_ u e) (a:=(l,u1)) (r:=r) rfl hc];rfl
  have hdv:DVr (qV I) w (.sl (l.map u.enc)) v:=Fj hv (λhx=>D2.flat hu l hx) (λ_ _ h=>h);have hcall:=h.ok.calls w (qV I) [] #[v] ((H3 by_ u e).args.oas (l,u1)) (λb k hb=>by
   rcases hb with hb|⟨o,rfl,hb⟩
   ·exact hIn b k hb
   ·exact hIn b _ hb) (hgl.mono (λ_ _ h=>.inl h) (U9.refl _ _)) (by
   show OAs _ w [.c (.d (.sl (l.map u.enc)))] [v] [];simp only[OAs,OAr,OCr];exact⟨v,[],[],[],rfl,⟨rfl,hdv⟩,⟨rfl,rfl⟩,rfl⟩) QM ⟨(l,u1),r,rfl,hc⟩
  refine Calls.mono hcall λo w' h1=>?_;cases o <;> try exact h1.elim
  case returned v'=>
   obtain⟨I',vs,Fp,Fr',hv',H⟩:=h1;have hF0:Fp=[]:=by
    have:=H.post;rw[epost1]at this;exact this.2
   subst hF0;refine⟨I,vs,[],Fr',hv',⟨H.fr,λ_ _ h=>h,λb o hi=>H.keep b o (.inl hi),λb o hi=>.inl hi,λb o hi=>H.lt b o (H.sub b o (.inl hi)),?_,?_,H.nodup,H.own,λb o hi _=>hi,λb o hi _ hn=>absurd hi hn⟩⟩
   ·rw[epost];simp only[OAs];exact⟨rfl,trivial⟩
   ·rw[eres];have hres:=H.res;rw[eres1]at hres;simp only[OAs,OAr,OCr]at hres⊢;obtain⟨x,r',G1,G2,rfl,⟨ex',q1,q2,q3,_⟩,⟨rfl,rfl⟩,q5⟩:=hres;exact⟨x,[],G1,[],rfl,⟨[],q1.flat hu he,by rw[q2,Ql (D3 he),Ql (D3 he)],λg o hg hi=>q3 g o hg (H.sub g o (.inl hi)),λh=>absurd h (D3 he)⟩,⟨rfl,rfl⟩,q5⟩⟩⟩
def qW(J:Nat->Nat->Prop) (b k:Nat):Prop:=∃o,k=2*o/\J b (2*o+1)
inductive LD:DV->DV->Prop
 |v (x:Value):LD (.v x) (.v x)
 |sl (es:List (List DV)) (h:∀e∈es,∀d∈e,∃x,d= .v x):LD (.sl es) (lnD es)
inductive LDs:List DV->List DV->Prop
 |nil:LDs [] []
 |cons {d d':DV} {ds ds':List DV} (h:LD d d') (k:LDs ds ds'):LDs (d::ds) (d'::ds')
inductive LDe:List (List DV)->List (List DV)->Prop
 |nil:LDe [] []
 |cons {d d':List DV} {ds ds':List (List DV)} (h:LDs d d') (k:LDe ds ds'):LDe (d::ds) (d'::ds')
theorem LDs.app{a b c d:List DV}(h:LDs a b) (k:LDs c d):LDs (a++c) (b++d):=by
 induction h with
 |nil=>exact k
 |cons h _ ih=>exact .cons h ih
theorem LDs.len{a b:List DV}(h:LDs a b):a.length=b.length:=by
 induction h with
 |nil=>rfl
 |cons _ _ ih=>simp[ih]
theorem LDe.len{a b:List (List DV)}(h:LDe a b):a.length=b.length:=by
 induction h with
 |nil=>rfl
 |cons _ _ ih=>simp[ih]
theorem LDe.all{z:Nat}{a b:List (List DV)}(h:LDe a b):(∀e∈a,e.length=z)↔∀e∈b,e.length=z:=by
 induction h with
 |nil=>exact⟨λh=>by simp,λh=>by simp⟩
 |cons h _ ih=>rw[List.forall_mem_cons,List.forall_mem_cons,ih,h.len]
section
variable {I J:Nat->Nat->Prop}{w:World}
theorem px:∀{ds:List DV}{xs:List Value},(∀d∈ds,∃x,d= .v x)->E4 I w ds xs->E4 J w ds xs
 |[],_,_,h=>h
 |d::ds,xs,hv,h=>by
  simp only[E4]at h⊢;obtain⟨x,r,rfl,h2,h3⟩:=h;obtain⟨y,rfl⟩:=hv _ (Qn ..);exact⟨x,r,rfl,h2,px (λd hd=>hv d (Qc _ hd)) h3⟩
theorem bY:∀{es:List (List DV)}{xs:List Value},(∀e∈es,∀d∈e,∃x,d= .v x)->D2 I w es xs->D2 J w es xs
 |[],_,_,h=>h
 |e::es,xs,hv,h=>by
  simp only[D2]at h⊢;obtain⟨c,r,rfl,h2,h3⟩:=h;exact⟨c,r,rfl,px (hv _ (Qn ..)) h2,bY (λd hd=>hv d (Qc _ hd)) h3⟩
theorem LD.to{d d':DV}(h:LD d d'){x:Value}(hx:DVr I w d x):DVr (mQ I) w d' x:=by
 cases h with
 |v y=>exact hx
 |sl es hv=>
  cases es with
  |nil=>
   simp only[lnD,DVr]at hx⊢;obtain⟨A,c,z,xs,h1,h2,h3,h4,h5,_,h7⟩:=hx;exact⟨A,c,z,xs,h1,h2,h3,h4,h5,λh0=>by simp at h0,h7⟩
  |cons e es=>
   simp only[lnD,DVr]at hx⊢;obtain⟨A,c,z,xs,h1,h2,h3,h4,h5,h6,h7⟩:=hx;refine⟨A,c,z,xs,h1,h2,h3,h4,h5,λh0=>?_,bY hv h7⟩;obtain⟨ad,h8,h9⟩:=h6 h0;exact⟨ad,h8,λj u hj=>⟨(h9 j u hj).1,_,rfl,(h9 j u hj).2⟩⟩
theorem LD.back{d d':DV}(h:LD d d'){x:Value}(hx:DVr I w d' x):DVr (qW I) w d x:=by
 cases h with
 |v y=>exact hx
 |sl es hv=>
  cases es with
  |nil=>
   simp only[lnD,DVr]at hx⊢;obtain⟨A,c,z,xs,h1,h2,h3,h4,h5,_,h7⟩:=hx;exact⟨A,c,z,xs,h1,h2,h3,h4,h5,λh0=>by simp at h0,h7⟩
  |cons e es=>
   simp only[lnD,DVr]at hx⊢;obtain⟨A,c,z,xs,h1,h2,h3,h4,h5,h6,h7⟩:=hx;refine⟨A,c,z,xs,h1,h2,h3,h4,h5,λh0=>?_,bY hv h7⟩;obtain⟨ad,h8,h9⟩:=h6 h0;exact⟨ad,h8,λj u hj=>⟨(h9 j u hj).1,_,rfl,(h9 j u hj).2⟩⟩
theorem LDs.to{ds ds':List DV}(h:LDs ds ds'):∀{xs:List Value},E4 I w ds xs->E4 (mQ I) w ds' xs:=by
 induction h with
 |nil=>exact λh=>h
 |cons h _ ih=>
  intro xs hx;simp only[E4]at hx⊢;obtain⟨x,r,rfl,h2,h3⟩:=hx;exact⟨x,r,rfl,h.to h2,ih h3⟩
theorem LDs.back{ds ds':List DV}(h:LDs ds ds'):∀{xs:List Value},E4 I w ds' xs->E4 (qW I) w ds xs:=by
 induction h with
 |nil=>exact λh=>h
 |cons h _ ih=>
  intro xs hx;simp only[E4]at hx⊢;obtain⟨x,r,rfl,h2,h3⟩:=hx;exact⟨x,r,rfl,h.back h2,ih h3⟩
theorem LDe.to{es es':List (List DV)}(h:LDe es es'):∀{xs:List Value},D2 I w es xs->D2 (mQ I) w es' xs:=by
 induction h with
 |nil=>exact λh=>h
 |cons h _ ih=>
  intro xs hx;simp only[D2]at hx⊢;obtain⟨x,r,rfl,h2,h3⟩:=hx;exact⟨x,r,rfl,h.to h2,ih h3⟩
theorem LDe.back{es es':List (List DV)}(h:LDe es es'):∀{xs:List Value},D2 I w es' xs->D2 (qW I) w es xs:=by
 induction h with
 |nil=>exact λh=>h
 |cons h _ ih=>
  intro xs hx;simp only[D2]at hx⊢;obtain⟨x,r,rfl,h2,h3⟩:=hx;exact⟨x,r,rfl,h.back h2,ih h3⟩
theorem iR{e:Nat}:∀{cs:List (List DV)}{ms:List MapEntry},(∀c∈cs,∀d∈c,∃x,d= .v x)->MEs I w e cs ms->MEs J w e cs ms
 |[],_,_,h=>h
 |c::cs,ms,hv,h=>by
  simp only[MEs]at h⊢;obtain⟨m,r,h1,h2,h3⟩:=h;have hc:=hv _ (Qn ..);refine⟨m,r,h1,?_,iR (λd hd=>hv d (Qc _ hd)) h3⟩;unfold ME at h2⊢;refine⟨?_,?_⟩
  ·obtain⟨h4,_⟩:=h2;unfold KV at h4⊢;split at h4
   ·exact h4
   ·obtain⟨d,h5,h6⟩:=h4;obtain⟨y,rfl⟩:=hc d (RP (by rw[h5];exact Qn ..));exact⟨_,h5,h6⟩
  ·obtain⟨_,h4⟩:=h2;unfold CV at h4⊢;split at h4
   ·obtain⟨vs,h5,h6⟩:=h4;exact⟨vs,h5,px (λd hd=>hc d (SK hd)) h6⟩
   ·obtain⟨d,h5,h6⟩:=h4;obtain⟨y,rfl⟩:=hc d (SK (by rw[h5];exact Qn ..));exact⟨_,h5,h6⟩
inductive LR (e:Nat):List (List DV)->List (List DV)->Prop
 |sl {es es':List (List DV)} (he:e<Q7) (h:LDe es es'):LR e es es'
 |map {es:List (List DV)} (h:∀c∈es,∀d∈c,∃x,d= .v x):LR e es es
 |send {es:List (List DV)} (h:Q4 e):LR e es es
theorem LR.same{e:Nat}{es es':List (List DV)}(h:LR e es es') (hs:Q4 e):es=es':=by
 cases h with
 |sl he _=>exact absurd hs (D3 he)
 |map _=>rfl
 |send _=>rfl
theorem LR.to{e sz:Nat}{es es':List (List DV)}{v:Value}(h:LR e es es') (hr:M4 I w v ⟨es,sz,e,false⟩):M4 (mQ I) w v ⟨es',sz,e,false⟩:=by
 cases h with
 |sl he h=>
  obtain⟨h1,h2,xs,h3,h4⟩:=hr.sl he;exact⟨h1,h.all.1 h2,.inl ⟨he,xs,by rw[<-h.len];exact h3,h.to h4⟩⟩
 |map h=>
  obtain⟨h1,h2,⟨h3,xs,h4,h5⟩|⟨h3,g,en,cl,h4,h5,h6,h7⟩|h3⟩:=hr
  ·exact⟨h1,h2,.inl ⟨h3,xs,h4,bY h h5⟩⟩
  ·exact⟨h1,h2,.inr (.inl ⟨h3,g,en,cl,h4,h5,iR h h6,h7⟩)⟩
  ·exact⟨h1,h2,.inr (.inr h3)⟩
 |send he=>
  obtain⟨h1,h2,⟨h3,_⟩|⟨h3,_⟩|h3⟩:=hr
  ·exact absurd he (D3 h3)
  ·exact absurd he h3.2.2
  ·exact⟨h1,h2,.inr (.inr h3)⟩
theorem LR.back{e sz:Nat}{es es':List (List DV)}{v:Value}(h:LR e es es') (hr:M4 I w v ⟨es',sz,e,false⟩):M4 (qW I) w v ⟨es,sz,e,false⟩:=by
 cases h with
 |sl he h=>
  obtain⟨h1,h2,xs,h3,h4⟩:=hr.sl he;exact⟨h1,h.all.2 h2,.inl ⟨he,xs,by rw[h.len];exact h3,h.back h4⟩⟩
 |map h=>
  obtain⟨h1,h2,⟨h3,xs,h4,h5⟩|⟨h3,g,en,cl,h4,h5,h6,h7⟩|h3⟩:=hr
  ·exact⟨h1,h2,.inl ⟨h3,xs,h4,bY h h5⟩⟩
  ·exact⟨h1,h2,.inr (.inl ⟨h3,g,en,cl,h4,h5,iR h h6,h7⟩)⟩
  ·exact⟨h1,h2,.inr (.inr h3)⟩
 |send he=>
  obtain⟨h1,h2,⟨h3,_⟩|⟨h3,_⟩|h3⟩:=hr
  ·exact absurd he (D3 h3)
  ·exact absurd he h3.2.2
  ·exact⟨h1,h2,.inr (.inr h3)⟩
mutual
def LO:OC->OC->Prop
 |.d x,.d y=>LD x y
 |.row sz e es,.row sz' e' es'=>sz=sz'/\e=e'/\LR e es es'
 |.box cs,.box cs'=>LOs cs cs'
 |_,_=>False
def LOs:List OC->List OC->Prop
 |[],[]=>True
 |c::cs,d::ds=>LO c d/\LOs cs ds
 |_,_=>False
end
mutual
theorem LO.to:∀(c:OC){d:OC}{v:Value}{F:List Nat},LO c d->OCr I w c v F->OCr (mQ I) w d v F
 |.d x,d,v,F,h,hc=>by
  cases d <;> simp only[LO]at h;simp only[OCr]at hc⊢;exact⟨hc.1,h.to hc.2⟩
 |.row sz e es,d,v,F,h,hc=>by
  cases d <;> simp only[LO]at h;obtain⟨rfl,rfl,h⟩:=h;simp only[OCr]at hc⊢;obtain⟨ex,h1,h2,h3,h4⟩:=hc;refine⟨ex,h.to h1,h2,λg k hg hi=>?_,λhs=>?_⟩
  ·obtain⟨o,_,hi⟩:=hi;exact h3 g _ hg hi
  ·obtain⟨h5,h6⟩:=h4 hs;have e1:=h.same hs;subst e1;exact⟨h5,λb hb k hi=>by obtain⟨o,_,hi⟩:=hi;exact h6 b hb _ hi⟩
 |.box cs,d,v,F,h,hc=>by
  cases d <;> simp only[LO]at h;simp only[OCr]at hc⊢;obtain⟨g,cur,ty,Fs,h1,h2,h3,h4,h5⟩:=hc;exact⟨g,cur,ty,Fs,h1,h2,LOs.to cs h h3,h4,λk hi=>by obtain⟨o,_,hi⟩:=hi;exact h5 _ hi⟩
 |.e cs,d,v,F,h,hc=>by cases d <;> simp only[LO]at h
theorem LOs.to:∀(cs:List OC){ds:List OC}{vs:List Value}{F:List Nat},LOs cs ds->OCs I w cs vs F->OCs (mQ I) w ds vs F
 |[],ds,vs,F,h,hc=>by
  cases ds <;> simp only[LOs]at h;simp only[OCs]at hc⊢;exact hc
 |c::cs,ds,vs,F,h,hc=>by
  cases ds <;> simp only[LOs]at h;simp only[OCs]at hc⊢;obtain⟨x,r,F1,F2,h1,h2,h3,h4⟩:=hc;exact⟨x,r,F1,F2,h1,LO.to c h.1 h2,LOs.to cs h.2 h3,h4⟩
end
mutual
theorem LO.back:∀(c:OC){d:OC}{v:Value}{F:List Nat},LO c d->OCr I w d v F->OCr (qW I) w c v F
 |.d x,d,v,F,h,hc=>by
  cases d <;> simp only[LO]at h;simp only[OCr]at hc⊢;exact⟨hc.1,h.back hc.2⟩
 |.row sz e es,d,v,F,h,hc=>by
  cases d <;> simp only[LO]at h;obtain⟨rfl,rfl,h⟩:=h;simp only[OCr]at hc⊢;obtain⟨ex,h1,h2,h3,h4⟩:=hc;refine⟨ex,h.back h1,h2,λg k hg hi=>?_,λhs=>?_⟩
  ·obtain⟨o,_,hi⟩:=hi;exact h3 g _ hg hi
  ·obtain⟨h5,h6⟩:=h4 hs;have e1:=h.same hs;subst e1;exact⟨h5,λb hb k hi=>by obtain⟨o,_,hi⟩:=hi;exact h6 b hb _ hi⟩
 |.box cs,d,v,F,h,hc=>by
  cases d <;> simp only[LO]at h;simp only[OCr]at hc⊢;obtain⟨g,cur,ty,Fs,h1,h2,h3,h4,h5⟩:=hc;exact⟨g,cur,ty,Fs,h1,h2,LOs.back cs h h3,h4,λk hi=>by obtain⟨o,_,hi⟩:=hi;exact h5 _ hi⟩
 |.e cs,d,v,F,h,hc=>by cases d <;> simp only[LO]at h
theorem LOs.back:∀(cs:List OC){ds:List OC}{vs:List Value}{F:List Nat},LOs cs ds->OCs I w ds vs F->OCs (qW I) w cs vs F
 |[],ds,vs,F,h,hc=>by
  cases ds <;> simp only[LOs]at h;simp only[OCs]at hc⊢;exact hc
 |c::cs,ds,vs,F,h,hc=>by
  cases ds <;> simp only[LOs]at h;simp only[OCs]at hc⊢;obtain⟨x,r,F1,F2,h1,h2,h3,h4⟩:=hc;exact⟨x,r,F1,F2,h1,LO.back c h.1 h2,LOs.back cs h.2 h3,h4⟩
end
end
section
variable {I I':Nat->Nat->Prop}{w w':World}
theorem kb{tp sz:Nat}{v:Value}{n:Nat}{xs:List Value}(h:w.ownsRow 0 tp sz v n xs) (hk:∀b,obk v=some b->w'.heap[b]?=w.heap[b]?):w'.ownsRow 0 tp sz v n xs:=by
 refine⟨h.1,?_⟩;rcases h.2 with h2|⟨g,cap,cur,rfl,h2,h3,h4⟩
 ·exact .inl h2
 ·exact .inr ⟨g,cap,cur,rfl,h2,(hk g rfl).trans h3,h4⟩
theorem vN{tp:TypeId}:∀{cs:List (List DV)}{ms:List MapEntry}{xs:List Nat},SEs w tp cs ms xs->(∀b∈xs,w'.heap[b]?=w.heap[b]?)->SEs w' tp cs ms xs
 |[],_,_,h,_=>h
 |c::cs,ms,xs,h,hk=>by
  simp only[SEs]at h⊢;obtain⟨m,r,x,y,k,ps,vs,rfl,rfl,h1,h2,h3,h4,h5,h6,h7⟩:=h;exact⟨m,r,x,y,k,ps,vs,rfl,rfl,h1,h2,h3,kb h4 (λb hb=>hk b (by rw[h3]at hb;injection hb with hb;simp[hb])),h5,D2.mono (λ_ _ h=>h) (λ_ _ h=>h.elim) _ h6,vN h7 λb hb=>hk b (by simp[hb])⟩
theorem tI{v:Value}{R:Row}(h:M4 I w v R) (hi:∀b o,I b o->I' b o) (hk:U9 I w w') (hs:w.heap.size<=w'.heap.size) (hb:∀b,obk v=some b->w'.heap[b]?=w.heap[b]?):M4 I' w' v R:=by
 obtain⟨h1,h2,⟨h3,xs,ho,hd⟩|⟨h3,g,es,c,rfl,k2,k3,k4⟩|⟨h3,g,s,p,rfl,k2,k3⟩|⟨h3,g,rfl,k2⟩⟩:=h
 ·exact⟨h1,h2,.inl ⟨h3,xs,kb ho hb,D2.mono hi hk _ hd⟩⟩
 ·exact⟨h1,h2,.inr (.inl ⟨h3,g,es,c,rfl,(hb g rfl).trans k2,k3.mono hi hk,k4⟩)⟩
 ·exact⟨h1,h2,.inr (.inr (.inl ⟨h3,g,s,p,rfl,(hb g rfl).trans k2,k3⟩))⟩
 ·exact⟨h1,h2,.inr (.inr (.inr ⟨h3,g,rfl,Qi k2 hs⟩))⟩
theorem qX{v:Value}{ex:List Nat}{R:Row}(h:cO w v ex R) (hb:∀b,obk v=some b\/b∈ex->w'.heap[b]?=w.heap[b]?):cO w' v ex R:=by
 obtain⟨g,es,c,rfl,h1,h2,h3,h4⟩:=h;exact⟨g,es,c,rfl,(hb g (.inl rfl)).trans h1,h2,h3,vN h4 λb k=>hb b (.inr k)⟩
mutual
theorem OCr.frame(hi:∀b o,I b o->I' b o) (hk:U9 I w w') (hs:w.heap.size<=w'.heap.size):∀(c:OC){v:Value}{F:List Nat},OCr I w c v F->(∀b∈F,w'.heap[b]?=w.heap[b]?)->(∀b∈F,∀o,¬I' b o)->OCr I' w' c v F
 |.d x,v,F,h,_,_=>by
  simp only[OCr]at h⊢;exact⟨h.1,DVr.mono hi hk _ h.2⟩
 |.e cs,v,F,h,_,_=>by
  simp only[OCr]at h⊢;obtain⟨h1,ad,xs,h2,h3,h4⟩:=h;refine⟨h1,ad,xs,h2,E4.mono hi hk _ h3,λj u hu=>?_⟩;obtain⟨k1,k2⟩:=h4 j u hu;exact⟨hk.at_ k1 (by rw[S3,da];exact k2),hi _ _ k2⟩
 |.row sz e es,v,F,h,hb,hn=>by
  simp only[OCr]at h⊢;obtain⟨ex,h1,rfl,h3,h4⟩:=h;refine⟨ex,tI h1 hi hk hs λb hv=>hb b (by simp[hv]),rfl,λg o hv=>hn g (by simp[hv]) o,λhe=>?_⟩;obtain⟨h5,h6⟩:=h4 he;exact⟨qX h5 λb hv=>hb b (by rcases hv with hv|hv <;> simp[hv,he]),λb hv=>hn b (by simp[hv,he])⟩
 |.box cs,v,F,h,hb,hn=>by
  simp only[OCr]at h⊢;obtain⟨g,cur,ty,Fs,h1,h2,h3,rfl,h5⟩:=h;exact⟨g,cur,ty,Fs,h1,(hb g (Qn ..)).trans h2,OCs.frame hi hk hs cs h3 (λb h=>hb b (Qc _ h)) (λb h=>hn b (Qc _ h)),rfl,hn g (Qn ..)⟩
theorem OCs.frame(hi:∀b o,I b o->I' b o) (hk:U9 I w w') (hs:w.heap.size<=w'.heap.size):∀(cs:List OC){vs:List Value}{F:List Nat},OCs I w cs vs F->(∀b∈F,w'.heap[b]?=w.heap[b]?)->(∀b∈F,∀o,¬I' b o)->OCs I' w' cs vs F
 |[],vs,F,h,_,_=>h
 |c::cs,vs,F,h,hb,hn=>by
  simp only[OCs]at h⊢;obtain⟨x,r,F1,F2,rfl,h2,h3,rfl⟩:=h;exact⟨x,r,F1,F2,rfl,OCr.frame hi hk hs c h2 (λb h=>hb b (QH _ h)) (λb h=>hn b (QH _ h)),OCs.frame hi hk hs cs h3 (λb h=>hb b (Rj _ h)) (λb h=>hn b (Rj _ h)),rfl⟩
end
mutual
theorem OCr.ltF:∀(c:OC){v:Value}{F:List Nat},OCr I w c v F->∀b∈F,b<w.heap.size
 |.d x,v,F,h,b,hb=>by simp only[OCr]at h;rw[h.1]at hb;cases hb
 |.e x,v,F,h,b,hb=>by simp only[OCr]at h;rw[h.1]at hb;cases hb
 |.row sz e es,v,F,h,b,hb=>by
  simp only[OCr]at h;obtain⟨ex,h1,rfl,h3,h4⟩:=h;rcases List.mem_append.1 hb with hb|hb
  ·exact h1.lt (by simpa using hb)
  ·by_cases he:Q4 e
   ·rw[Qx he]at hb;exact(h4 he).1.lt hb
   ·rw[Ql he]at hb;cases hb
 |.box cs,v,F,h,b,hb=>by
  simp only[OCr]at h;obtain⟨g,cur,ty,Fs,h1,h2,h3,rfl,h5⟩:=h;rcases List.mem_cons.1 hb with rfl|hb
  ·exact(Array.getElem?_eq_some_iff.1 h2).1
  ·exact OCs.ltF cs h3 b hb
theorem OCs.ltF:∀(cs:List OC){vs:List Value}{F:List Nat},OCs I w cs vs F->∀b∈F,b<w.heap.size
 |[],vs,F,h,b,hb=>by simp only[OCs]at h;rw[h.2]at hb;cases hb
 |c::cs,vs,F,h,b,hb=>by
  simp only[OCs]at h;obtain⟨x,r,F1,F2,rfl,h2,h3,rfl⟩:=h;rcases List.mem_append.1 hb with hb|hb
  ·exact OCr.ltF c h2 b hb
  ·exact OCs.ltF cs h3 b hb
end
end
structure GS (S:TFn) (r:S.R) (I:Nat->Nat->Prop) (w:World) (F:List Nat) (tops:List Value) (v:Value) (w':World) (I':Nat->Nat->Prop) (vs:List Value) (Fp Fr':List Nat):Prop where
 val:v=uM vs
 fr:Fr w (· ∈ F) w'
 sub:∀b o,I b o->I' b o
 keep:U9 I w w'
 new:∀b o,I' b o->I b o\/b∈F\/w.heap.size<=b
 lt:∀b o,I' b o->b<w'.heap.size
 post:OAs I' w' (S.posts.ocs (S.out r).1) tops Fp
 res:OAs I' w' (S.res.oas (S.out r).2) vs Fr'
 nodup:(Fp++Fr').Nodup
 own:∀b∈Fp++Fr',b∈F\/w.heap.size<=b
 odd:∀b o,I' b o->o%2=1->I b o
 soft:∀b o,I' b o->o%2=0->¬I b o->w'.frozen? ⟨b,o / 2,none⟩=false
theorem FnT.call{P:Program}{f:FuncId}{S:TFn}(h:FnT P f S){w:World}{I:Nat->Nat->Prop}{F:List Nat}{args:Array Value}(a:S.args.den){r:S.R}(hG:S.G a=some r) (hIn:∀b o,I b o->b<w.heap.size) (hgl:nX I w) (hargs:OAs I w (S.args.oas a) args.toList F) (hF:F.Nodup) :
  Calls P f args w λe w'=>∃v I' vs Fp Fr',e= .returned v/\GS S r I w F (D4 (S.args.oas a) args.toList) v w' I' vs Fp Fr':=by
 refine Calls.mono (h.ok.calls w I F args (S.args.oas a) hIn hgl hargs hF ⟨a,r,rfl,hG⟩) λe w' h1=>?_;cases e <;> try exact h1.elim
 case returned v=>
  obtain⟨I',vs,Fp,Fr',hv,H⟩:=h1;refine⟨v,I',vs,Fp,Fr',rfl,hv,H.fr,H.sub,H.keep,H.new,H.lt,?_,?_,H.nodup,H.own,H.odd,H.soft⟩
  ·have:=H.post;rw[TFn.post_of h.args hG]at this;exact this
  ·have:=H.res;rw[TFn.res_of h.args hG]at this;exact this
def evI(I:Nat->Nat->Prop) (b k:Nat):Prop:=I b k/\∃o,k=2*o
section
variable {I:Nat->Nat->Prop}{w:World}
theorem LD.ev{d d':DV}(h:LD d d'){x:Value}(hx:DVr I w d x):DVr (evI I) w d x:=by
 cases h with
 |v y=>exact hx
 |sl es hv=>
  simp only[DVr]at hx⊢;obtain⟨A,c,z,xs,h1,h2,h3,h4,h5,h6,h7⟩:=hx;refine⟨A,c,z,xs,h1,h2,h3,h4,h5,λh0=>?_,bY hv h7⟩;obtain⟨ad,h8,h9⟩:=h6 h0;exact⟨ad,h8,λj u hj=>⟨(h9 j u hj).1,(h9 j u hj).2,_,rfl⟩⟩
theorem LDs.ev{ds ds':List DV}(h:LDs ds ds'):∀{xs:List Value},E4 I w ds xs->E4 (evI I) w ds xs:=by
 induction h with
 |nil=>exact λh=>h
 |cons h _ ih=>
  intro xs hx;simp only[E4]at hx⊢;obtain⟨x,r,rfl,h2,h3⟩:=hx;exact⟨x,r,rfl,h.ev h2,ih h3⟩
theorem LDe.ev{es es':List (List DV)}(h:LDe es es'):∀{xs:List Value},D2 I w es xs->D2 (evI I) w es xs:=by
 induction h with
 |nil=>exact λh=>h
 |cons h _ ih=>
  intro xs hx;simp only[D2]at hx⊢;obtain⟨x,r,rfl,h2,h3⟩:=hx;exact⟨x,r,rfl,h.ev h2,ih h3⟩
theorem LR.ev{e sz:Nat}{es es':List (List DV)}{v:Value}(h:LR e es es') (hr:M4 I w v ⟨es,sz,e,false⟩):M4 (evI I) w v ⟨es,sz,e,false⟩:=by
 cases h with
 |sl he h=>
  obtain⟨h1,h2,xs,h3,h4⟩:=hr.sl he;exact⟨h1,h2,.inl ⟨he,xs,h3,h.ev h4⟩⟩
 |map h=>
  obtain⟨h1,h2,⟨h3,xs,h4,h5⟩|⟨h3,g,en,cl,h4,h5,h6,h7⟩|h3⟩:=hr
  ·exact⟨h1,h2,.inl ⟨h3,xs,h4,bY h h5⟩⟩
  ·exact⟨h1,h2,.inr (.inl ⟨h3,g,en,cl,h4,h5,iR h h6,h7⟩)⟩
  ·exact⟨h1,h2,.inr (.inr h3)⟩
 |send he=>
  obtain⟨h1,h2,⟨h3,_⟩|⟨h3,_⟩|h3⟩:=hr
  ·exact absurd he (D3 h3)
  ·exact absurd he h3.2.2
  ·exact⟨h1,h2,.inr (.inr h3)⟩
mutual
theorem LO.ev:∀(c:OC){d:OC}{v:Value}{F:List Nat},LO c d->OCr I w c v F->OCr (evI I) w c v F
 |.d x,d,v,F,h,hc=>by
  cases d <;> simp only[LO]at h;simp only[OCr]at hc⊢;exact⟨hc.1,h.ev hc.2⟩
 |.row sz e es,d,v,F,h,hc=>by
  cases d <;> simp only[LO]at h;obtain⟨rfl,rfl,h⟩:=h;simp only[OCr]at hc⊢;obtain⟨ex,h1,h2,h3,h4⟩:=hc;exact⟨ex,h.ev h1,h2,λg k hg hi=>h3 g _ hg hi.1,λhs=>⟨(h4 hs).1,λb hb k hi=>(h4 hs).2 b hb _ hi.1⟩⟩
 |.box cs,d,v,F,h,hc=>by
  cases d <;> simp only[LO]at h;simp only[OCr]at hc⊢;obtain⟨g,cur,ty,Fs,h1,h2,h3,h4,h5⟩:=hc;exact⟨g,cur,ty,Fs,h1,h2,LOs.ev cs h h3,h4,λk hi=>h5 _ hi.1⟩
 |.e cs,d,v,F,h,hc=>by cases d <;> simp only[LO]at h
theorem LOs.ev:∀(cs:List OC){ds:List OC}{vs:List Value}{F:List Nat},LOs cs ds->OCs I w cs vs F->OCs (evI I) w cs vs F
 |[],ds,vs,F,h,hc=>by
  cases ds <;> simp only[LOs]at h;simp only[OCs]at hc⊢;exact hc
 |c::cs,ds,vs,F,h,hc=>by
  cases ds <;> simp only[LOs]at h;simp only[OCs]at hc⊢;obtain⟨x,r,F1,F2,h1,h2,h3,h4⟩:=hc;exact⟨x,r,F1,F2,h1,LO.ev c h.1 h2,LOs.ev cs h.2 h3,h4⟩
end
def LE(u u':U) (f:u.den->u'.den):Prop:=∀x,LDs (u.enc x) (u'.enc (f x))
theorem Y6:∀(u:U),u.noSl=true->(∀(x:u.den),∀d∈u.enc x,∃y,d= .v y)
 |.int _,_,_,d,h=>by simp only[U.enc,Qp]at h;exact⟨_,h⟩
 |.byte,_,_,d,h=>by simp only[U.enc,Qp]at h;exact⟨_,h⟩
 |.bool,_,_,d,h=>by simp only[U.enc,Qp]at h;exact⟨_,h⟩
 |.str,_,_,d,h=>by simp only[U.enc,Qp]at h;exact⟨_,h⟩
 |.op,_,_,d,h=>by simp only[U.enc,Qp]at h;exact⟨_,h⟩
 |.sl _,h,_,_,_=>by cases h
 |.ln _,h,_,_,_=>by cases h
 |.kv _,h,_,_,_=>by cases h
 |.pr a b,h,x,d,hd=>by
  have h':(a.noSl&&b.noSl)=true:=h;rw[PM]at h';rcases List.mem_append.1 hd with hd|hd
  ·exact Y6 a h'.1 x.1 d hd
  ·exact Y6 b h'.2 x.2 d hd
 |.arr n u,h,v,d,hd=>by
  have h':u.noSl=true:=h;obtain⟨x,_,hd⟩:=List.mem_flatMap.1 hd;exact Y6 u h' x d hd
theorem iS:∀(ds:List DV),(∀d∈ds,∃y,d= .v y)->LDs ds ds
 |[],_=>.nil
 |d::ds,h=>by
  obtain⟨y,rfl⟩:=h _ (Qn ..);exact .cons (.v y) (iS ds λd hd=>h d (Qc _ hd))
theorem LE.refl{u:U}(h:u.noSl=true):LE u u (λx=>x):=λx=>iS _ (Y6 u h x)
theorem LE.sl{u:U}(h:u.noSl=true):LE (.sl u) (.ln u) (λx=>x):=λl=>by
 show LDs [.sl (List.map u.enc l)] [lnD (List.map u.enc l)];refine .cons (.sl _ λe he d hd=>?_) .nil;obtain⟨x,_,rfl⟩:=List.mem_map.1 he;exact Y6 u h x d hd
theorem LE.pr{a a' b b':U}{f:a.den->a'.den}{g:b.den->b'.den}(h:LE a a' f) (k:LE b b' g):LE (.pr a b) (.pr a' b') (λx=>(f x.1,g x.2)):=λx=>(h x.1).app (k x.2)
end
def tUs(g:Bool):List Nat->List AV->List Upd
 |p::ps,v::vs=>.t p ⟨g,v⟩::tUs g ps vs
 |_,_=>[]
theorem vO(g:Bool):∀(ps:List Nat) (vs:List AV) (s:St),(s.app (tUs g ps vs)).n=s.n/\(s.app (tUs g ps vs)).b=s.b/\(s.app (tUs g ps vs)).r=s.r
 |[],_,_=>⟨rfl,rfl,rfl⟩
 |_::_,[],_=>⟨rfl,rfl,rfl⟩
 |p::ps,v::vs,s=>vO g ps vs (s.setT p ⟨g,v⟩)
theorem Ai(g:Bool):∀(ps:List Nat) (vs:List AV) (s:St) (j:Nat),j∉ps->(s.app (tUs g ps vs)).t j=s.t j
 |[],_,_,_,_=>rfl
 |_::_,[],_,_,_=>rfl
 |p::ps,v::vs,s,j,h=>by
  rw[QY,not_or]at h;refine(Ai g ps vs (s.setT p ⟨g,v⟩) j h.2).trans ?_;simp[St.setT,upd,h.1]
theorem Fk(g:Bool):∀(ps:List Nat) (vs:List AV) (s:St) (j:Nat) (p:Nat) (v:AV),ps.Nodup->ps[j]?=some p->vs[j]?=some v->(s.app (tUs g ps vs)).t p=⟨g,v⟩
 |[],_,_,_,_,_,_,h,_=>by simp at h
 |_::_,[],_,_,_,_,_,_,h=>by simp at h
 |q::ps,u::vs,s,j,p,v,hn,h,k=>by
  rw[Qz]at hn;cases j with
  |zero=>
   simp only[List.getElem?_cons_zero,Option.some.injEq]at h k;subst h;subst k;refine(Ai g ps vs (s.setT q ⟨g,u⟩) q hn.1).trans ?_;simp[St.setT,upd]
  |succ j=>exact Fk g ps vs (s.setT q ⟨g,u⟩) j p v hn.2 (by simpa using h) (by simpa using k)
def nP(n:Nat):List (Nat×Nat)->Q Unit
 |[]=>.ret ()
 |p::ps=>.rdT p.1 λx=>.rdT (n+p.2) λy=>match x.x,y.x with
  |.c (.ptr id ver off),.c (.ptr id' ver' off')=>.rdB id λb=>.req (x.g=true/\id=id'/\ver=b.ver/\ver'=b.ver/\off=0/\off'=0/\b.c.isSome=true) (nP n ps)
  |.c (.row id ver),.c (.row id' ver')=>.rdR id λb=>.req (x.g=true/\id=id'/\ver=b.ver/\ver'=b.ver/\b.c.isSome=true) (nP n ps)
  |_,_=>.fail
section
variable {P:Program}{T:TypeId->Option TI}{W0:World}{M:Own}{G:Gh}{s:St}{a:Act}{w:World}
theorem mb(h:Rel W0 M G s a w):∀{ps:List (Nat×Nat)}{K:Unit->Prop},(nP s.n ps).wp s K->K ()/\∀p∈ps,a.tmps.getD p.1 undef=M.pin p.2
 |[],K,hq=>⟨hq,by simp⟩
 |p::ps,K,hq=>by
  simp only[nP,Q.wp]at hq;split at hq
  ·rename_i id ver off id' ver' off' hx hy;simp only[Q.wp]at hq;obtain⟨⟨h1,h2,h3,h4,h5,h6,h7⟩,hq⟩:=hq;obtain⟨h8,h9⟩:=mb h hq;refine⟨h8,λq hqm=>?_⟩;rcases List.mem_cons.1 hqm with e|hqm
   ·subst e;subst h2;subst h5;subst h6;have k1:=(h.tm q.1).1 h1;rw[hx]at k1;have k2:=h.pin q.2;rw[hy]at k2;simp only[AVr,ACr]at k1 k2;rw[k1.2.2 h3 h7,k2.2.2 h4 h7]
   ·exact h9 q hqm
  ·rename_i id ver id' ver' hx hy;simp only[Q.wp]at hq;obtain⟨⟨h1,h2,h3,h4,h7⟩,hq⟩:=hq;obtain⟨h8,h9⟩:=mb h hq;refine⟨h8,λq hqm=>?_⟩;rcases List.mem_cons.1 hqm with e|hqm
   ·subst e;subst h2;have k1:=(h.tm q.1).1 h1;rw[hx]at k1;have k2:=h.pin q.2;rw[hy]at k2;simp only[AVr,ACr]at k1 k2;rw[k1.2.2 h3 h7,k2.2.2 h4 h7]
   ·exact h9 q hqm
  ·exact hq.elim
def OY(T:TypeId->Option TI) (n m:Nat) (sm:List (Nat×Nat)) (rs:List Nat) (sh:List ASh) (post:List OA) (res:List OA):AX->St->Prop
 |.normal,s=>s.n=n/\post.length=m/\((nP n sm).wp s λ_=>True)/\(CJ T n m (rs.map .tmp) sh post res).wp s λ_=>True
 |_,_=>False
def M0:Nat->Code->Code
 |0,c=>c
 |k+1,.seq _ y=>M0 k y
 |_+1,_=>.skip
def xr:Nat->Code->Code
 |0,_=>.skip
 |k+1,.seq x y=>.seq x (xr k y)
 |_+1,c=>c
def cIn:Code->Code
 |.block _ c=>c
 |.loop c=>c
 |c=>c
def kV:Code->Code
 |.seq x _=>x
 |c=>c
def Ly:Code->Code
 |.cond _ x _=>x
 |c=>c
def L5(f:Func):Code:=match f.body with
 |some c=>c
 |none=>.skip
def DC:Nat->Code->Bool
 |0,_=>true
 |k+1,.seq _ y=>DC k y
 |k+1,_=>Nat.beq k 0
def DD(P:Program) (Q:Exit->Act->World->Prop):Nat->Code->Act->World->Prop
 |0,c=>c.wp P Q
 |k+1,.seq _ y=>DD P Q k y
 |_+1,_=>Q .normal
def Fl(P:Program) (j:Nat) (c:Code) (K:AX->St->Prop) (s:St):Prop:=∀(W0:World) (M:Own) (a:Act) (w:World) (Q:Exit->Act->World->Prop),fA W0 M s a w->(∀s' a' w',fA W0 M s' a' w'->K .normal s'->DD P Q j c a' w')->(∀e a' w',e ≠ .normal->QK W0 M K e a' w'->Q e a' w')->c.wp P Q a w
structure Jx (P:Program) (c:Code) (j:Nat) (n:Nat) (ps:List Nat) (sm:List (Nat×Nat)) (rs:List Nat) (S:fg):Prop where
 runs:∀(w:World) (I:Nat->Nat->Prop) (F:List Nat) (vals:List Value) (xs:List OA) (a:Act) (Q:Exit->Act->World->Prop),(∀b o,I b o->b<w.heap.size)->nX I w->OAs I w xs vals F->F.Nodup->S.pre xs->
  a.tmps.size=n->a.defers=[]->(∀(j p:Nat) (v:Value),ps[j]?=some p->vals[j]?=some v->a.tmps.getD p undef=v)->
  (∀a' w' I' vs Fp Fr',a'.tmps.size=n->a'.defers=[]->(∀p∈sm,a'.tmps.getD p.1 undef=(D4 xs vals).getD p.2 undef)->vs=rs.map (λk=>a'.tmps.getD k undef)->Ret S I w xs vals F w' I' vs Fp Fr'->DD P Q j c a' w')->c.wp P Q a w
theorem DE{tmps:Array Value}(rs:List Nat){w:World}:∀{vs:List Value},((rs.map ResultVar.tmp).mapM (BV tmps)).run P w= .ok vs w->vs=rs.map λk=>tmps.getD k undef:=by
 have key:((rs.map ResultVar.tmp).mapM (BV tmps)).run P w= .ok (rs.map λk=>tmps.getD k undef) w:=by
  induction rs with
  |nil=>rfl
  |cons k rs ih=>
   rw[PQ,Sf];simp only[BV,Sem.run_bind,Sem.run_pure,Result.andThen_ok];rw[ih];rfl
 intro vs h;rw[key]at h;injection h with h1 _;exact h1.symm
theorem Mn{c:Code}{j n:Nat}{ps:List Nat}{sm:List (Nat×Nat)}{rs:List Nat}{S:fg}(hT:∀t i,T t=some i->TOk P t i) (hps:ps.Nodup) (hpn:∀p∈ps,p<n) (B:Nat)
  (h:∀xs,S.pre xs->xs.length=ps.length/\∃sh,(EI B xs).wp (Z9 n [] [] []) λk=>Fl P j c (OY T n (E9 xs k.avs).length sm rs sh (S.post xs) (S.res xs)) ((((Z9 n [] [] []).app k.us).app (tUs true ps k.avs)).app (tU false n (E9 xs k.avs)))):Jx P c j n ps sm rs S:=by
 refine⟨λw I F vals xs a Y hIn hgl hargs hF hpre han had hav0 hfin=>?_⟩;obtain⟨hlen,sh,hq⟩:=h xs hpre;have hal:vals.length=ps.length:=by rw[<-hargs.len];exact hlen
 let M:Own:=⟨(· ∈ F),I,λk=>(D4 xs vals).getD k undef⟩;let G0:Gh:=⟨I,λ_=>0,λ_=>.slice none 0 0,λ_=>(undef,0),λ_=>[]⟩;have hown0:∀x,own G0 (Z9 n [] [] []) x=[]:=λx=>by cases x <;> rfl
 have m0:Mem w M G0 (Z9 n [] [] []) w:=⟨λid cs hc=>(by cases hc),λid R hc=>(by cases hc),λx y b hx=>(by rw[hown0]at hx;cases hx),λid hc=>(by cases hc),λid R g hc=>(by cases hc),λx b hx=>(by rw[hown0]at hx;cases hx),hIn,⟨rfl,rfl,rfl,PW _,λ_ _ _=>rfl⟩,⟨λ_ _ h=>h,λ_ _ h=>⟨.inl h,λ_=>h⟩⟩,⟨hgl,λb o hi _ hn=>absurd hi hn⟩,λid R hc=>(by cases hc),λid R hc=>(by cases hc)⟩;obtain⟨k,G',hK,made,hav⟩:=ly xs hq m0 hargs hF (λb hb=>⟨λx hx=>(by rw[hown0]at hx;cases hx),.inr hb⟩) (λ_ _=>⟨rfl,rfl⟩);have htops:=dF (xs:=xs) hav;have havl:=hav.len;generalize hs1:(((Z9 n [] [] []).app k.us).app (tUs true ps k.avs)).app (tU false n (E9 xs k.avs))=s1 at *
 obtain⟨a1,a2,a3⟩:=vO true ps k.avs ((Z9 n [] [] []).app k.us);obtain⟨b1,b2,b3⟩:=oI false (E9 xs k.avs) n (((Z9 n [] [] []).app k.us).app (tUs true ps k.avs));rw[hs1]at b1 b2 b3;have hs1n:s1.n=n:=b1.trans (a1.trans made.n_);have hE:Ext G' ((Z9 n [] [] []).app k.us) w G' s1 w:=by
  have:=Ext.slots G' ((Z9 n [] [] []).app k.us) w s1.n s1.t;have e:(⟨s1.n,s1.t,((Z9 n [] [] []).app k.us).b,((Z9 n [] [] []).app k.us).r⟩:St)=s1:=by rw[<-a2,<-a3,<-b2,<-b3]
  rw[e]at this;exact this
 have hM1:Mem w M G' s1 w:=by
  have:=made.mem.slots s1.n s1.t;have e:(⟨s1.n,s1.t,((Z9 n [] [] []).app k.us).b,((Z9 n [] [] []).app k.us).r⟩:St)=s1:=by rw[<-a2,<-a3,<-b2,<-b3]
  rw[e]at this;exact this
 have ht_lo:∀j,j<n->s1.t j=(((Z9 n [] [] []).app k.us).app (tUs true ps k.avs)).t j:=λj hj=>by rw[<-hs1];exact oJ false _ _ _ _ (.inl hj)
 have ht_base:∀j,j∉ps->(((Z9 n [] [] []).app k.us).app (tUs true ps k.avs)).t j=⟨decide (j<n),.any⟩:=λj hj=>by
  rw[Ai true _ _ _ _ hj,made.t];rfl
 have hR:Rel w M G' s1 a w:=by
  refine⟨by rw[hs1n,han],had,λj=>?_,hM1,λj=>?_⟩
  ·by_cases hj:j<n
   ·rw[ht_lo j hj];by_cases hja:j∈ps
    ·obtain⟨i,hi⟩:=List.getElem?_of_mem hja;have hil:=(List.getElem?_eq_some_iff.1 hi).1;have hget:k.avs[i]?=some (k.avs[i]'(by omega)):=List.getElem?_eq_getElem (by omega);rw[Fk true ps k.avs _ i j _ hps hi hget];obtain⟨v,hv,hr⟩:=hav.get hget;refine⟨λ_=>?_,λe=>by cases e⟩;simp only[hav0 i j v hi hv];exact hE.av _ hr
    ·rw[ht_base j hja];exact⟨λ_=>by simp only[AVr],λe=>by simp[hj]at e⟩
   ·have hu:a.tmps.getD j undef=undef:=by
     rw[Array.getD_eq_getD_getElem?,Array.getElem?_eq_none (by omega)];rfl
    have hjp:j∉ps:=λhm=>hj (hpn j hm);have hg:(s1.t j).g=false:=by
     by_cases hp:j<n+(E9 xs k.avs).length
     ·have hget:(E9 xs k.avs)[j-n]?=some (E9 xs k.avs)[j-n]:=List.getElem?_eq_getElem (by omega);have e:=wL false (E9 xs k.avs) n (((Z9 n [] [] []).app k.us).app (tUs true ps k.avs)) (j-n) _ hget;rw[show n+(j-n)=j from by omega,hs1]at e;rw[e]
     ·rw[<-hs1,oJ false _ _ _ _ (.inr (by omega)),ht_base j hjp];simp[hj]
    exact⟨λe=>(by rw[hg]at e;cases e),λ_=>hu⟩
  ·rw[hs1n];by_cases hp:j<(E9 xs k.avs).length
   ·have hget:(E9 xs k.avs)[j]?=some (E9 xs k.avs)[j]:=List.getElem?_eq_getElem hp;have e:=wL false (E9 xs k.avs) n (((Z9 n [] [] []).app k.us).app (tUs true ps k.avs)) j _ hget;rw[hs1]at e;rw[e];obtain⟨v,hv,hr⟩:=htops.get hget;have:M.pin j=v:=by
     show(D4 xs vals).getD j undef=v;rw[List.getD_eq_getElem?_getD,hv];rfl
    rw[this];exact hE.av _ hr
   ·rw[<-hs1,oJ false _ _ _ _ (.inr (by omega)),ht_base _ (λhm=>by have:=hpn _ hm;omega)];simp only[AVr]
 refine hK w M _ w Y ⟨G',hR⟩ (λs' a' w' hqr hqk=>?_) λe a' w' hne hqk=>?_
 ·obtain⟨G2,h2⟩:=hqr;obtain⟨hn2,hpl,hs,ho⟩:=hqk;rw[<-hn2]at hs;obtain⟨_,hsm⟩:=mb h2 hs;unfold CJ at ho;rw[Q.wp_bind]at ho;have hm:(E9 xs k.avs).length=(D4 xs vals).length:=htops.len;rw[hm,<-hn2]at ho;obtain⟨ps',ho1,hps'⟩:=sq h2 (i:=0) (vs:=D4 xs vals) (λk x hk=>by
   show(D4 xs vals).getD (0+k) undef=x;rw[Qo,List.getD_eq_getElem?_getD,hk];rfl) ho
  clear ho;rw[Q.wp_bind]at ho1;obtain⟨avs,vs,ho2,hvs,hrun⟩:=oH h2 hT ho1;clear ho1;rw[Q.wp_bind]at ho2;obtain⟨kk,foot,ho3,Tk⟩:=iC h2.mem _ (hps'.app hvs) ho2;clear ho2;obtain⟨⟨hxs,hnd,hfz⟩,ho4⟩:=ho3;rw[Q.wp_bind]at ho4;obtain⟨us1,G1,_,m1,e1,hfd,hfrz,hbx,hrw,hfr,hexq⟩:=bq s' ho4 h2.mem (Frz.refl s');have hoas:=Tk.oas G1.I (uN h2.mem Tk hfz m1 e1 hfd hfrz hbx hrw hexq hfr);rw[hxs]at hoas;obtain⟨Fp,Fr',p1,p2,p3⟩:=OAs.split hoas (by rw[hpl,hm]);refine hfin a' w' G1.I vs Fp Fr' (by rw[h2.sz,hn2]) h2.df hsm (DE rs hrun) ⟨h2.mem.fr,m1.ii.1,λb o hi=>?_,λb o hi=>(m1.ii.2 b o hi).1,m1.In,p1,p2,?_,λb hb=>?_,λb o hi ho=>(m1.ii.2 b o hi).2 ho,m1.gl.2⟩
  ·refine dY (h2.mem.fr.block b (hIn b o hi) (λhm=>?_));exact OAs.notI xs hargs b hm o hi
  ·rw[<-p3];exact js (Tk.nodup hnd) h2.mem
  ·rw[<-p3]at hb;obtain⟨x,_,hx⟩:=List.mem_flatMap.1 hb;exact(h2.mem.oM x b hx).symm
 ·cases e with
  |normal=>exact absurd rfl hne
  |ret=>obtain⟨s',h1,h2⟩:=hqk;exact h2.elim
  |exit i=>obtain⟨s',h1,h2⟩:=hqk;exact h2.elim
  |goto l=>exact hqk.elim
  |panic c=>exact hqk.elim
  |outgrown=>exact hqk.elim
end
def Mp(g:Bool):List Nat->List T1->List P3
 |p::ps,v::vs=>.t p ⟨g,.o v⟩::Mp g ps vs
 |_,_=>[]
theorem Aj(g:Bool):∀(ps:List Nat) (vs:List T1),(Mp g ps vs).map P3.upd=tUs g ps (vs.map T1.av)
 |[],_=>rfl
 |_::_,[]=>rfl
 |p::ps,v::vs=>congrArg (Upd.t p ⟨g,v.av⟩ :: ·) (Aj g ps vs)
def Ak(n:Nat) (ps:List Nat) (args:ATs) (k:Do):TSt:=(((lZ n).app k.us).app (Mp true ps k.vs)).app (tUT false n (qT args k.vs))
def DF(n:Nat):List (Nat×Nat)->TQ Unit
 |[]=>.ret ()
 |p::ps=>.rdT p.1 λx=>.rdT (n+p.2) λy=>match x.x,y.x with
  |.o (.c (.ptr id ver off)),.o (.c (.ptr id' ver' off'))=>.rdB id λb=>.req (x.g&&(Nat.beq id id'&&(Nat.beq ver b.ver&&(Nat.beq ver' b.ver&&(Nat.beq off 0&&(Nat.beq off' 0&&b.c.isSome)))))) (DF n ps)
  |.o (.c (.row id ver)),.o (.c (.row id' ver'))=>.rdR id λb=>.req (x.g&&(Nat.beq id id'&&(Nat.beq ver b.ver&&(Nat.beq ver' b.ver&&b.c.isSome)))) (DF n ps)
  |_,_=>.fail
theorem mc(n:Nat):∀(ps:List (Nat×Nat)),Sim id (DF n ps) (nP n ps)
 |[]=>Sim.ret rfl
 |p::ps=>by
  refine Sim.rdT λx=>Sim.rdT λy=>?_;split
  ·rename_i id ver off id' ver' off' hx hy;have ex:x.gv.x= .c (.ptr id ver off):=congrArg TV.av hx;have ey:y.gv.x= .c (.ptr id' ver' off'):=congrArg TV.av hy;rw[ex,ey];refine Sim.rdB λb=>Sim.req (λh=>?_) λ_=>mc n ps;simp only[PM]at h;obtain⟨h1,h2,h3,h4,h5,h6,h7⟩:=h;refine⟨h1,PL h2,PL h3,PL h4,PL h5,PL h6,?_⟩;obtain⟨bv,c⟩:=b;cases c with
   |none=>cases h7
   |some c=>rfl
  ·rename_i id ver id' ver' hx hy;have ex:x.gv.x= .c (.row id ver):=congrArg TV.av hx;have ey:y.gv.x= .c (.row id' ver'):=congrArg TV.av hy;rw[ex,ey];refine Sim.rdR λb=>Sim.req (λh=>?_) λ_=>mc n ps;simp only[PM]at h;obtain⟨h1,h2,h3,h4,h7⟩:=h;refine⟨h1,PL h2,PL h3,PL h4,?_⟩;obtain⟨bv,c⟩:=b;cases c with
   |none=>cases h7
   |some c=>rfl
  ·exact Sim.fail
def Mq(T:TypeId->Option TI) (n:Nat) (sm:List (Nat×Nat)) (rs:List Nat) (S:TFn) (fin:S.posts.den×S.res.den->S.R) (ax:AX) (s:TSt):Option S.R:=match ax with
 |.normal=>chk (Nat.beq s.n n) ((DF n sm).run s [] λ_ _=>(GO T n (rs.map .tmp) S).run s [] λx _=>some (fin x))
 |_=>none
def Al(T:TypeId->Option TI) (TU:TypeId->Option U) (Γ:List (Nat×TFn)) (n:Nat) (ps:List Nat) (sm:List (Nat×Nat)) (rs:List Nat) (S:TFn) (fin:S.posts.den×S.res.den->S.R) (c:Code) (a:S.args.den):Option S.R:=
 (xg 1000 S.args a).run (lZ n) [] λk _=>chk (Nat.beq (qT S.args k.vs).length S.posts.len&&Nat.beq S.args.len ps.length) (mP T TU (dI T TU Γ) .leaf c (Ak n ps S.args k) (Mq T n sm rs S fin))
structure kq (P:Program) (c:Code) (j:Nat) (n:Nat) (ps:List Nat) (sm:List (Nat×Nat)) (rs:List Nat) (S:TFn):Prop where
 args:S.args.ok=true
 res:S.res.ok=true
 ok:Jx P c j n ps sm rs S.spec
theorem vR{P:Program}{T:TypeId->Option TI}{TU:TypeId->Option U}{cq:Oper->Call->Q (List Upd)}{tcq:Oper->Call->TQ (List P3)}(hT:∀t i,T t=some i->TOk P t i) (hcq:∀o c,o.op= .call c->xO P o (cq o c)) (hc:∀o c,o.op= .call c->Sim US (tcq o c) (cq o c)) (hm:P.follows .mixedOrders=true){R:Type}{κ:AX->TSt->Option R}{K:AX->St->Prop}{r:R}(hk:∀ax s',κ ax s'=some r->K ax s'.st) :
  ∀(j:Nat) (c:Code) {s:TSt},DC j c=true->mP T TU tcq .leaf (xr j c) s κ=some r->Fl P j c K s.st
 |0,c,s,_,h=>λW0 M a w Q hR hn _=>hn s.st a w hR (hk _ _ h)
 |j+1,c,s,hl,h=>λW0 M a w Q hR hn hx=>by
  cases c with
  |seq x y=>
   have h1:=lX hT hcq hc hm x (a:=.leaf) (s:=s) (κ:=Ab (λs'=>mP T TU tcq .leaf (xr j y) s' κ) κ) (K:=λax st=>match ax with | .normal=>∃ts:TSt,ts.st=st/\mP T TU tcq .leaf (xr j y) ts κ=some r | ax=>K ax st) (r:=r) trivial h (λax s' h'=>by
    cases ax with
    |normal=>exact⟨s',rfl,h'⟩
    |exit i=>exact hk _ _ h'
    |ret=>exact hk _ _ h')
   refine wp_seq (wp_mono (h1 W0 M a w hR) λe a' w' hq=>?_);cases e with
   |normal=>
    obtain⟨s',hR',ts,rfl,h2⟩:=hq;exact vR hT hcq hc hm hk j y hl h2 W0 M a' w' Q hR' hn hx
   |exit i=>exact hx _ _ _ (λe=>by cases e) hq
   |ret=>exact hx _ _ _ (λe=>by cases e) hq
   |goto l=>exact hq.elim
   |panic c=>exact hq.elim
   |outgrown=>exact hq.elim
  |_=>
   cases j with
   |succ j=>cases hl
   |zero=>
    refine wp_mono (lX hT hcq hc hm _ (a:=.leaf) (s:=s) (κ:=κ) (K:=K) (r:=r) trivial h hk W0 M a w hR) λe a' w' hq=>?_;cases e with
    |normal=>obtain⟨s',hR',h2⟩:=hq;exact hn s' a' w' hR' h2
    |exit i=>exact hx _ _ _ (λe=>by cases e) hq
    |ret=>exact hx _ _ _ (λe=>by cases e) hq
    |goto l=>exact hq.elim
    |panic c=>exact hq.elim
    |outgrown=>exact hq.elim
theorem OZ{P:Program}{T:TypeId->Option TI}{TU:TypeId->Option U}{Γ:List (Nat×TFn)}{c:Code}{j n:Nat}{ps:List Nat}{sm:List (Nat×Nat)}{rs:List Nat}{S:TFn}(hT:∀t i,T t=some i->TOk P t i) (hm:P.follows .mixedOrders=true) (hΓ:∀p∈Γ,FnT P (p.1%1000000) p.2)
  (hps:ps.Nodup) (hpn:∀p∈ps,p<n) (ha:S.args.ok=true) (hr:S.res.ok=true) (fin:S.posts.den×S.res.den->S.R) (hfin:∀x,S.out (fin x)=x) (hl:DC j c=true)
  (hF:∀a,S.G a=Al T TU Γ n ps sm rs S fin (xr j c) a):kq P c j n ps sm rs S:=by
 refine⟨ha,hr,Mn hT hps hpn 1000 (λxs hx=>?_)⟩;obtain⟨a,r,rfl,hFa⟩:=hx;have h1:=hF a;rw[hFa]at h1;have h1:=h1.symm;unfold Al at h1;have h2:=TQ.run_wpt h1;have h3:=fh S.args ha 1000 a _ _ _ h2;rw[qU]at h3;have hlen:S.args.len=ps.length:=by
  obtain⟨_,_,k,_,hk⟩:=Q.wpt_ex h3;have:=(L9 hk).1;rw[PM]at this;exact PL this.2
 refine⟨by rw[tF];exact hlen,(qd S.posts S.res).sh,Q.wp_of_wpt (Q.wpt_mono h3 ?_)⟩;rintro k rs' ⟨tk,rfl,hk⟩;obtain⟨hc,hk⟩:=L9 hk;rw[PM]at hc;have hst:(Ak n ps S.args tk).st=(((Z9 n [] [] []).app (gb tk).us).app (tUs true ps (gb tk).avs)).app (tU false n (E9 (S.args.oas a) (gb tk).avs)):=by
  unfold Ak;rw[TSt.st_app,TSt.st_app,TSt.st_app,Aj,vJ];simp only[gb];rw[cU];rfl
 rw[<-hst];have hmm:(E9 (S.args.oas a) (gb tk).avs).length=S.posts.len:=by
  simp only[gb];rw[cU,PR];exact PL hc.1
 rw[hmm];have hcq:=lB (P:=P) (T:=T) hT (Γ:=xl Γ) (λp hp=>by
  obtain⟨q,hq,rfl⟩:=List.mem_map.1 hp;exact(hΓ q hq).ok)
 refine vR hT hcq (λo c _=>fP T TU Γ o c) hm (λax s' h'=>?_) j c hl hk;cases ax with
 |normal=>
  obtain⟨h5,h6⟩:=L9 h';have h7:=mc n sm s' [] _ (TQ.run_wpt h6);obtain⟨_,_,u,_,h8⟩:=Q.wpt_ex h7;refine⟨PL h5,?_,Q.wp_of_wpt (Q.wpt_mono h7 λ_ _ _=>trivial),?_⟩
  ·rw[TFn.post_of ha hFa];exact lY _ _
  ·rw[TFn.post_of ha hFa,TFn.res_of ha hFa];exact tG hr hfin h8
 |exit i=>cases h'
 |ret=>cases h'
theorem GW{P:Program}{T:TypeId->Option TI}(TU:TypeId->Option U) (hT:∀t i,T t=some i->TOk P t i) (l:List (Pf P)){c:Code}{j n:Nat}{ps:List Nat}{sm:List (Nat×Nat)}{rl:List Nat}{zs rs:List AT}{posts:PTs}{F:Cur (asT (ATs.of zs)) (Option (Z1 (pT posts (asT (ATs.of rs)))))}
  (hm:P.follows .mixedOrders=true:=by rfl) (hps:ps.Nodup:=by decide) (hpn:∀p∈ps,p<n:=by decide) (ha:(ATs.of zs).ok=true:=by rfl) (hr:(ATs.of rs).ok=true:=by rfl) (hl:DC j c=true:=by rfl)
  (hF:∀a,uc (asT (ATs.of zs)) F (qe (ATs.of zs) a)=Al T TU (l.map λx=>(x.n,x.t)) n ps sm rl (mkF zs posts rs F) (λx=>pTo posts (asT (ATs.of rs)) x.1 (qe (ATs.of rs) x.2)) (xr j c) a:=by intro a;kernel_rfl):kq P c j n ps sm rl (mkF zs posts rs F):=
 OZ hT hm (Ft l) hps hpn ha hr (λx=>pTo posts (asT (ATs.of rs)) x.1 (qe (ATs.of rs) x.2)) (λx=>Fq posts (ATs.of rs) x) hl hF
section
variable {I:Nat->Nat->Prop}{w:World}
theorem LD.data{d d':DV}(h:LD d d'){x:Value}(hx:DVr I w d' x):DVr (qV I) w d x:=by
 cases h with
 |v y=>exact hx
 |sl es hv=>exact Fj hx (λh=>bY hv h) λ_ _ h=>h
theorem LDs.data{ds ds':List DV}(h:LDs ds ds'):∀{xs:List Value},E4 I w ds' xs->E4 (qV I) w ds xs:=by
 induction h with
 |nil=>exact λh=>h
 |cons h _ ih=>
  intro xs hx;simp only[E4]at hx⊢;obtain⟨x,r,rfl,h2,h3⟩:=hx;exact⟨x,r,rfl,h.data h2,ih h3⟩
theorem BY:∀{ds:List DV}{vs:List Value}{F:List Nat},OCs I w (ds.map .d) vs F↔(E4 I w ds vs/\F=[])
 |[],vs,F=>by simp[OCs,E4]
 |d::ds,vs,F=>by
  simp only[PQ,OCs,OCr,E4];constructor
  ·rintro⟨x,r,F1,F2,rfl,⟨rfl,h1⟩,h2,rfl⟩;obtain⟨h3,rfl⟩:=BY.1 h2;exact⟨⟨x,r,rfl,h1,h3⟩,rfl⟩
  ·rintro⟨⟨x,r,rfl,h1,h3⟩,rfl⟩;exact⟨x,r,[],[],rfl,⟨rfl,h1⟩,BY.2 ⟨h3,rfl⟩,rfl⟩
end
theorem DG{P:Program}{f:FuncId}{S S':TFn}(ha:S'.args.ok=true) (hr:S'.res.ok=true) (h:FnT P f S) (hsp:S'.sp= .none) (g:S'.args.den->S.args.den)
  (hA:∀(I:Nat->Nat->Prop) (w:World) (x:S'.args.den) (vs:List Value) (F:List Nat),OAs I w (S'.args.oas x) vs F->OAs (qV I) w (S.args.oas (g x)) vs F/\D4 (S'.args.oas x) vs=[])
  (hG:∀x r',S'.G x=some r'->∃r,S.G (g x)=some r/\S'.posts.ocs (S'.out r').1=[]/\S.posts.ocs (S.out r).1=[]/\S'.res.oas (S'.out r').2=S.res.oas (S.out r).2/\(S.res.oas (S.out r).2).all nw=true):FnT P f S':=
 ⟨ha,hr,⟨by show Gd P f S'.sp;rw[hsp];trivial,h.ok.isf,λw I F args xs hIn hgl hargs hF hp=>by
  obtain⟨x,r',rfl,hc⟩:=hp;obtain⟨r,hr0,e1,e2,e3,e4⟩:=hG x r' hc;obtain⟨hargs',htop⟩:=hA I w x _ F hargs;have hcall:=h.ok.calls w (qV I) F args (S.args.oas (g x)) (λb k hb=>by
   rcases hb with hb|⟨o,rfl,hb⟩
   ·exact hIn b k hb
   ·exact hIn b _ hb) (hgl.mono (λ_ _ h=>.inl h) (U9.refl _ _)) hargs' hF ⟨g x,r,rfl,hr0⟩
  refine Calls.mono hcall λo w' h1=>?_;cases o <;> try exact h1.elim
  case returned v'=>
   obtain⟨I',vs,Fp,Fr',hv',H⟩:=h1;have hpost:=H.post;rw[TFn.post_of h.args hr0,e2]at hpost;have hres:=H.res;rw[TFn.res_of h.args hr0]at hres;refine⟨I,vs,[],[],hv',⟨H.fr,λ_ _ h=>h,λb o hi=>H.keep b o (.inl hi),λb o hi=>.inl hi,λb o hi=>H.lt b o (H.sub b o (.inl hi)),?_,?_,QM,λb hb=>by simp at hb,λb o hi _=>hi,λb o hi _ hn=>absurd hi hn⟩⟩
   ·rw[TFn.post_of ha hc,e1,htop];exact⟨rfl,rfl⟩
   ·rw[TFn.res_of ha hc,e3];exact si e4 hres⟩⟩
theorem Ao{P:Program}{f:FuncId}{u1 u2 u3:U}{F:u1.den->u2.den->Option Bool}{F':u1.den->u3.den->Option Bool}(h:FnT P f (mkF [ag u1,ag u2] .nil [ad .bool] F)) (g:u3.den->u2.den) (hL:∀x:u3.den,LDs (u2.enc (g x)) (u3.enc x)) (hF:∀a b,F' a b=F a (g b)) (ha:(ATs.of [ag u1,ag u3]).ok=true):FnT P f (mkF [ag u1,ag u3] .nil [ad .bool] F'):=by
 refine DG (S':=mkF [ag u1,ag u3] .nil [ad .bool] F') ha rfl h rfl (λx=>(x.1,((g x.2.1.1,()),()))) (λI w x vs Fp hx=>?_) (λx r' hx=>?_)
 ·obtain⟨⟨a,ua⟩,⟨b,ub⟩,u⟩:=x
  replace hx:OAs I w [.agg ((u1.enc a).map .d++[]),.agg ((u3.enc b).map .d++[])] vs Fp:=hx
  show OAs (qV I) w [.agg ((u1.enc a).map .d++[]),.agg ((u2.enc (g b)).map .d++[])] vs Fp/\D4 [.agg ((u1.enc a).map .d++[]),.agg ((u3.enc b).map .d++[])] vs=[];rw[PO,PO]at *
  simp only[OAs,OAr]at hx⊢;obtain⟨v,r,F1,F2,rfl,⟨v1,rfl,h1⟩,⟨v2,r2,F3,F4,rfl,⟨v3,rfl,h2⟩,⟨rfl,rfl⟩,rfl⟩,rfl⟩:=hx;obtain⟨h3,rfl⟩:=BY.1 h1;obtain⟨h4,rfl⟩:=BY.1 h2;refine⟨⟨_,_,[],[],rfl,⟨v1,rfl,BY.2 ⟨E4.mono (λ_ _ h=>.inl h) (U9.refl _ _) _ h3,rfl⟩⟩,⟨_,_,[],[],rfl,⟨v3,rfl,BY.2 ⟨(hL b).data h4,rfl⟩⟩,⟨rfl,rfl⟩,rfl⟩,rfl⟩,rfl⟩
 ·obtain⟨⟨a,ua⟩,⟨b,ub⟩,u⟩:=x
  replace hx:F' a b=some r':=hx
  exact⟨r',(hF a b).symm.trans hx,rfl,rfl,rfl,rfl⟩
end Go.Proofs.YthkhcbphbabefaaGreat.Am
