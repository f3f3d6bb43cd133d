/- Texts laid together: Base, Row, TmRow, DeLay, Decode, AmTab, InsAcc, MoneyAdd, PLoop, GList, GSortDef, GSort, GSym, GStable, Bl, PMap, SortF. No conditions. -/
import Derived.WalkKit
import Derived.WalkSpells
import Derived.WalkLawsBesides
import Derived.Lib.Hide
import Derived.BigQuiet
import Derived.Deep.QuietTactic
import Derived.Deep.AppendLies
import Derived.Deep.Draws
import Derived.Maps.AppendAt
import Derived.Deep.DeepFit
import Derived.Deep.RegionHeld3
import Derived.Lib.SlBytesConst
import Derived.Laws.BytesArg
import Derived.Laws.BitsAllLaws
import Derived.ProofKit
import Derived.JoinedCond
import Derived.Deep.Slices
import Derived.Deep.Fields
import Derived.Lib.SmallJoins
import Derived.Test.YtjbgdpjgfjnkbaaGreatDoorRows
import Derived.Test.YtjbgdpjgfjnkbaaGreatDoorKD
import Derived.SizedLaws
import Derived.Shelf.Unicode.DecodeAny
import Derived.Ground.NamesProg
import Derived.Test.YtjbgdpjgfjnkbaaGreatDoorProg
import Derived.KernelRfl
import Derived.Shelf.Spec.SlicesInsertGrow
import Derived.Laws.IdiomCopy
import Derived.Laws.CopyRow
import Derived.Maps.RangeWalk
import Derived.Shelf.Spec.BitsCarry
import Derived.Sort.AssemblyPlain
namespace Go.Proofs.YtjbgdpjgfjnkbaaGreatDoor
open Go.RowKit
theorem nz(a:Addr) (n:Nat):(a.add n).block=a.block:=by unfold Addr.add;split <;> rfl
theorem add_add(a:Addr) (i j:Nat):(a.add i).add j=a.add (i+j):=by
 unfold Addr.add;by_cases hi:i=0 <;> by_cases hj:j=0 <;> simp[hi,hj,Nat.add_assoc]
theorem add_zero(a:Addr):a.add 0=a:=by simp[Addr.add]
def a5a(S:Nat->Prop) (w w':World):Prop:=∀b,S b->b<w.heap.size->w'.heap[b]?=w.heap[b]?
structure Rep (α:Type) where
 sz:Nat
 At:World->(Nat->Prop)->List Value->α->Prop
 len:∀{w S cs a},At w S cs a->cs.length=sz
 keep:∀{w w' S cs a},At w S cs a->a5a S w w'->At w' S cs a
 mono:∀{w S S' cs a},At w S cs a->(∀b,S b->b<w.heap.size->S' b)->At w S' cs a
def Rep.all{α:Type}(R:Rep α) (w:World) (S:Nat->Prop):List Value->List α->Prop
 |xs,[]=>xs=[]
 |xs,a::l=>∃c r,xs=c++r/\R.At w S c a/\R.all w S r l
section
variable {α:Type}{R:Rep α}{w w':World}{S S':Nat->Prop}
end
section
variable {α:Type}{R:Rep α}{w w':World}{S S':Nat->Prop}{A:Option Addr}{n c:Nat}{l:List α}
end
structure Own {α:Type}(R:Rep α) (e:TypeId) (w:World) (base:Nat) (S:Nat->Prop) (v:Value) (n:Nat) (l:List α):Prop where
 len:n=l.length
 apart:∀k,v.ownBlock=some k->¬S k
 ex:∃xs:List Value,w.ownsRow base e R.sz v n xs/\R.all w S xs l
section
variable {α:Type}{R:Rep α}{e:TypeId}{w w':World}{base:Nat}{S S':Nat->Prop}{v:Value}{n:Nat}{l:List α}
end
section
variable {P:Program}{α:Type}{R:Rep α}{t e:TypeId}{by_:Nat}
end
def U64:Nat:=18446744073709551616
section
variable {P:Program}{α:Type}{R:Rep α}{t e:TypeId}{by_:Nat}
end
section
variable {w w':World}{g:Nat}{t:TypeId}{cs:List Value}
end
section
variable {α:Type}{R:Rep α}{e:TypeId}{w w':World}{base:Nat}{v:Value}{n:Nat}{l:List α}
end
section
variable {P:Program}{α:Type}{R:Rep α}{t e:TypeId}{by_:Nat}
end
theorem a2P(t:Nat) (h:t<U64):bits .and .u64 (t:Int) 7=(t:Int)%8:=by
 have:=u64_and_nat t 7 (by unfold U64 at h;exact h) (by omega);rw[nat_mask3]at this;rw[show((7:Int)=((7:Nat):Int))from rfl,this];omega
section
variable {P:Program}{α:Type}{R:Rep α}{t e:TypeId}{by_:Nat}{w:World}{S:Nat->Prop}{A:Option Addr}{n c:Nat}{l:List α}
end
end Go.Proofs.YtjbgdpjgfjnkbaaGreatDoor
namespace Go.Proofs.YtjbgdpjgfjnkbaaGreatDoor
open Go.ChangeShapes Go.WideShapes Go.ChangeAt Go.RowKit Go.ChangeMaps
section
variable {H:Type}{enc:TypeId×Value->H}{P:Program}
theorem Below.trodAll(hl:laidOutB P=true){W W':World}(hb:Below W.heap.size W W'):∀{ts:List TypeId}{vs:List Value}{ds:List (DataW H)}{ps:List MemPlace},
  (ts.all λt=>P.readableRec t&&decide (t<P.types.size))=true->DataW.TrodAll enc P W 0 (λ_=>true) true ts vs ds ps->(∀x∈ps,x.block<W.heap.size)->
  DataW.TrodAll enc P W' 0 (λb=>decide (b<W.heap.size)) true ts vs ds ps
 |[],[],[],_,_,h,_=>h
 |t::ts,v::vs,d::ds,ps,hr,h,hlt=>by
  obtain⟨p,q,h1,h2,rfl⟩:=h;simp only[List.all_cons,Bool.and_eq_true,decide_eq_true_eq]at hr;exact⟨p,q,Below.trod hl hr.1.1 hr.1.2 h1 hb (λx hx=>hlt x (by simp[hx])),Below.trodAll hl hb (by simpa using hr.2) h2 (λx hx=>hlt x (by simp[hx])),rfl⟩
theorem tN(hl:laidOutB P=true){f:Func}(hrd:(f.params.toList.all λt=>P.readableRec t&&decide (t<P.types.size))=true){tb:TypeId}(hres:f.resultTypes= #[tb]) (hub:P.underlying tb=some .bool)
  {s:ChangeSpec} {W W':World} {args:Array Value} {ds gs:List (DataW H)} {before:List MemPlace} (hv:s.vars=[]) (hW:DataW.Whole enc P f.params.toList s.vars false W args.toList ds gs before)
  (hfn:s.fn H ds={results:=[.lit (.bool true)],args:=ds}) (hb:Below W.heap.size W W') :
  s.post enc P f false true false false W args (.bool true) W':=by
 have hW':=hW;obtain⟨p,q,hA,hV,rfl,hfz,hnd⟩:=hW;rw[hv]at hV;obtain⟨rfl,rfl⟩:=trodVars_none hV;have hlt:∀x∈p++[],x.block<W.heap.size:=λx hx=>hW'.lt x hx;refine⟨ds,[],p++[],[],p,[],hW',?_,?_,?_,World.keptBut_mono (λx hx=>⟨hx,?_⟩) (hb.frame (· ∈ p++[])),λh=>by cases h⟩
 ·rw[List.append_nil,hfn,hres];exact trodAll_mk1 (shut_bool hub true)
 ·rw[List.append_nil,hfn];exact Below.trodAll hl hb hrd hA (λx hx=>hlt x (by simpa using hx))
 ·rw[hv,List.append_nil,hfn];rfl
 ·right;simpa using hx
theorem SH(l r:List (DataW H)):Rows.uptoBulkAll (l++r)=Rows.uptoBulkAll l+Rows.uptoBulkAll r:=by
 induction l with
 |nil=>simp[Rows.uptoBulkAll]
 |cons x l ih=>simp only[List.cons_append,Rows.uptoBulkAll,ih];omega
end
end Go.Proofs.YtjbgdpjgfjnkbaaGreatDoor
namespace Go.Proofs.YtjbgdpjgfjnkbaaGreatDoor.Am
open Go Go.ChangeShapes Go.WideShapes Go.ChangeAt Go.RowKit Go.ChangeMaps
def inK(k:IntKind) (n:Int):Prop:=k.min<=n/\n<=k.max
def a23{α:Type}(p:α->Prop) (l:List α):Prop:=∀x∈l,p x
def wfU:(u:U)->u.den->Prop
 |.int k,n=>inK k n
 |.byte,_=>True
 |.bool,_=>True
 |.str,l=>List.length l<=maxLen
 |.sl u,l=>List.length l<=maxLen/\a23 (wfU u) l
 |.pr a b,x=>wfU a x.1/\wfU b x.2
 |.arr _ u,v=>a23 (wfU u) (Vector.toList v)
def wtU:(u:U)->u.den->Nat
 |.int _,_=>1
 |.byte,_=>1
 |.bool,_=>1
 |.str,l=>List.length l+1
 |.sl u,l=>(List.map (wtU u) l).sum+1
 |.pr a b,x=>wtU a x.1+wtU b x.2
 |.arr _ u,v=>(List.map (wtU u) (Vector.toList v)).sum
def ZL:U->Nat
 |.int k=>k.bits / 8
 |.byte=>1
 |.bool=>1
 |.str=>16
 |.sl _=>24
 |.pr a b=>ZL a+ZL b
 |.arr n u=>n*ZL u
def szU:(u:U)->u.den->Prop
 |.int _,_=>True
 |.byte,_=>True
 |.bool,_=>True
 |.str,l=>List.length l<=reachBytes
 |.sl u,l=>List.length l*ZL u<=reachBytes/\a23 (szU u) l
 |.pr a b,x=>szU a x.1/\szU b x.2
 |.arr _ u,v=>a23 (szU u) (Vector.toList v)
def InR(ns:List Nat):Prop:=ns.all (· <=reachBytes)=true
theorem InR.app{a b:List Nat}(h:InR (a++b)):InR a/\InR b:=by
 unfold InR at *
 rw[List.all_append,a5S]at h;exact h
section
variable {H:Type}(enc:TypeId×Value->H) (P:Program) (W:World)
def Old(b _o:Nat):Prop:=b<W.heap.size
def Rd'(t:TypeId) (u:U):Prop:=∀(fuel:Nat) (cs:List Value) (y:DataW H×List MemPlace),DataW.trod enc P W 0 (λ_=>true) true fuel t cs=some y->∃x:u.den,bo (Old W) W (u.enc x) cs/\wfU u x/\wtU u x<=Rows.uptoBulk y.1/\(InR (y.1.weights P t)->szU u x)
end
section
variable {H:Type}{enc:TypeId×Value->H}{P:Program}{W:World}
theorem dv1{I:Nat->Nat->Prop}{v:Value}(h:v.oneCell'=true):bo I W [.v v] [v]:=by
 simp only[bo];exact⟨v,[],rfl,⟨rfl,h⟩,rfl⟩
theorem Rd'.int{t:TypeId}{k:IntKind}(ht:P.underlying t=some (.int k)):Rd' enc P W t (.int k):=by
 intro fuel cs y h;obtain⟨n,rfl,rfl,hw⟩:=DataW.trod_int ht h;refine⟨n,dv1 rfl,?_,?_⟩
 ·show inK k n;simpa [inK,Lit.wf]using hw
 ·exact⟨by simp[Rows.uptoBulk,wtU],λ_=>trivial⟩
theorem Qe(l r:List (DataW H)):Rows.uptoBulkAll (l++r)=Rows.uptoBulkAll l+Rows.uptoBulkAll r:=SH l r
theorem Qf{e:TypeId}:∀{l:List (DataW H)},InR (DataW.weightsAll P e l)->∀d∈l,InR (d.weights P e)
 |d::l,h,x,hx=>by
  simp only[DataW.weightsAll]at h;rcases List.mem_cons.1 hx with rfl|hx
  ·exact h.app.1
  ·exact Qf h.app.2 x hx
theorem WP{u:U}{e:TypeId}(a:Addr) (D:Nat->DataW H):∀len:Nat,
  (∀i,i<len->∃cs,cs.length=u.size/\(∀j,j<u.size->W.cell? ((a.add (i*u.size)).add j)=cs[j]?)/\∃x:u.den,bo (Old W) W (u.enc x) cs/\wfU u x/\wtU u x<=Rows.uptoBulk (D i)/\(InR ((D i).weights P e)->szU u x))->
  ∃(xs:List Value) (l:List u.den),l.length=len/\xs.length=len*u.size/\(∀j v,xs[j]?=some v->W.cell? (a.add j)=some v)/\V2 (Old W) W (l.map u.enc) xs/\(∀x∈l,wfU u x)/\(l.map (wtU u)).sum<=Rows.uptoBulkAll ((List.range len).map D)/\((∀i,i<len->InR ((D i).weights P e))->∀x∈l,szU u x)
 |0,_=>⟨[],[],rfl,by simp,by simp,rfl,by simp,by simp,by simp⟩
 |len+1,h=>by
  obtain⟨xs,l,h1,h2,h3,h4,h6,h5,h7⟩:=WP a D len (λi hi=>h i (by omega));obtain⟨cs,hc,hj,x,hx,hf,hw,hz⟩:=h len (by omega);refine⟨xs++cs,l++[x],by simp[h1],by rw[a5K,h2,hc,a6r],?_,?_,?_,?_,?_⟩
  ·intro j v hv;rcases a6y j xs.length with hl|hl
   ·rw[List.getElem?_append_left hl]at hv;exact h3 j v hv
   ·rw[List.getElem?_append_right hl]at hv;have hlt:j-xs.length<cs.length:=by
     rcases a6y (j-xs.length) cs.length with h|h
     ·exact h
     ·rw[List.getElem?_eq_none h]at hv;cases hv
    have:=hj (j-xs.length) (by omega);rw[Am.add_add,<-h2,show xs.length+(j-xs.length)=j from by omega]at this;rw[this];exact hv
  ·rw[a53];exact h4.app ⟨cs,[],by simp,hx,rfl⟩
  ·intro y hy;rcases List.mem_append.1 hy with hy|hy
   ·exact h6 y hy
   ·simp only[a6b]at hy;subst hy;exact hf
  ·rw[List.range_succ,a53,a53,Qe,a7n];simp[Rows.uptoBulkAll];omega
  ·intro hi y hy;rcases List.mem_append.1 hy with hy|hy
   ·exact h7 (λi hlt=>hi i (by omega)) y hy
   ·simp only[a6b]at hy;subst hy;exact hz (hi len (by omega))
theorem Rd'.sl{u:U}{t e:TypeId}(ht:P.underlying t=some (.slice e)) (hc:P.cellsOf e=u.size) (hz:0<u.size) (hby:ZL u<=P.bytesOf e) (h:Rd' enc P W e u):Rd' enc P W t (.sl u):=by
 intro fuel cs y hy;rcases Go.Deep.open_slice ht hy with⟨rfl,rfl⟩|⟨a,len,cap,m,n,D,Pl,rfl,_,hl,hm,hmm,rfl,hx⟩
 ·refine⟨([]:List u.den),?_,?_,?_⟩
  ·show bo (Old W) W [.sl []] [.slice none 0 0];refine⟨_,[],rfl,⟨none,0,1,[],rfl,a56 _,by simp[maxLen],by omega,by simp,λh0=>?_,rfl⟩,rfl⟩;simp at h0
  ·exact⟨by show(0:Nat)<=maxLen;exact a6p _,λx hx=>by cases hx⟩
  ·refine⟨?_,λ_=>⟨by show 0*ZL u<=reachBytes;omega,λx hx=>by cases hx⟩⟩;show(List.map (wtU u) ([]:List u.den)).sum+1<=_;simp[Rows.uptoBulk]
 ·simp only[a6x]at hmm;subst hmm;obtain⟨xs,l,h1,h2,h3,h4,h6,h5,h7⟩:=WP (P:=P) (e:=e) (u:=u) a D len (λi hi=>by
   obtain⟨cs,hcs,hyi⟩:=hx i (by omega);obtain⟨_,hcl,hat⟩:=World.cells?_some hcs;rw[hc]at hcl hat
   obtain⟨x,hx1,hx2,hx3,hx4⟩:=h _ _ _ hyi;exact⟨cs,hcl,λj hj=>hat j hj,x,hx1,hx2,hx3,hx4⟩)
  refine⟨l,?_,⟨by rw[h1];exact a6c hl hm,h6⟩,?_⟩
  ·show bo (Old W) W [.sl (l.map u.enc)] [.slice (some a) len m];have hlen:(l.map u.enc).length=len:=by rw[a5X,h1]
   refine⟨_,[],rfl,⟨some a,m,u.size,xs,by rw[hlen],by rw[hlen];exact hl,hm,hz,λe he=>?_,λh0=>⟨a,rfl,λj v hv=>⟨h3 j v hv,?_⟩⟩,h4⟩,rfl⟩
   ·obtain⟨x,_,rfl⟩:=List.mem_map.1 he;exact u.enc_len x
   ·have:=block_lt_of_cell (h3 j v hv);rw[nz]at this;exact this
  ·refine⟨?_,λhr=>?_⟩
   ·show(List.map (wtU u) l).sum+1<=_;simp only[Rows.uptoBulk];omega
   ·simp only[DataW.weights,ht]at hr;have hr':=InR.app (a:=[_]) hr;have hr2:=hr'.2.app;refine⟨?_,h7 λi hi=>Qf hr2.1 _ (List.mem_map.2 ⟨i,List.mem_range.2 hi,rfl⟩)⟩;have h0:=hr'.1;simp only[InR,a61,List.all_nil,a7e,a5M,a5X,List.length_range]at h0;rw[h1];refine a6c (a7V (Nat.le_add_right len _) hby) h0
theorem lW{u:U}{t:TypeId}{v:Value}{d:DataW H}{p:List MemPlace}(hs:u.size=1) (h:Rd' enc P W t u) (hv:v.cells.toList=[v]) (ht:DataW.Trod enc P W 0 (λ_=>true) true t v d p) :
  ∃x:u.den,OAr (Old W) W (AT.oa (.c (.d u)) x) v []/\wfU u x/\wtU u x<=Rows.uptoBulk d/\(InR (d.weights P t)->szU u x):=by
 obtain⟨fuel,hf⟩:=ht;obtain⟨x,h1,h2,h3,h4⟩:=h _ _ _ hf;refine⟨x,?_,h2,h3,h4⟩;rw[hv]at h1;have hl:=u.enc_len x;rw[hs]at hl
 match he:u.enc x,hl with
 |[c],_=>
  rw[he]at h1;simp only[bo]at h1;obtain⟨y,r,e,h6,h5⟩:=h1;injection e with e1 e2;subst e1;show OAr (Old W) W (.c (MF ((u.enc x).map .d))) v [];rw[he];exact⟨rfl,by assumption⟩
theorem pL{b0:Nat}{t:TypeId}{v:Value}(ht:(∃k,P.underlying t=some (.int k))\/P.underlying t=some .bool\/P.underlying t=some .string\/∃e,P.underlying t=some (.slice e)) (hv:Value.okWide P W .any b0 t v):v.cells.toList=[v]:=by
 rcases ht with⟨k,ht⟩|ht|ht|⟨e,ht⟩ <;> (simp only[Value.okWide,ht,Cell.okWide]at hv;cases v <;> simp_all [Cell.ok,Value.cells])
theorem pM{ts:List TypeId}{ds:List (DataW H)}(h:(DataW.weightsEach P ts ds).all (· <=reachBytes)=true){j:Nat}{t:TypeId}{d:DataW H}(ht:ts[j]?=some t) (hd:ds[j]?=some d):InR (d.weights P t):=by
 unfold InR;rw[a7a];exact λn hn=>List.all_eq_true.1 h n (DataW.weights_mem_each ht hd n hn)
theorem xA:OAs (Old W) W [] [] []:=⟨rfl,rfl⟩
theorem jc{x:OA}{v:Value}{xs:List OA}{vs:List Value}(h:OAr (Old W) W x v []) (k:OAs (Old W) W xs vs []):OAs (Old W) W (x::xs) (v::vs) []:=⟨v,vs,[],[],rfl,h,k,rfl⟩
theorem ue{f:FuncId}{S:TFn}(hS:FnT P f S) (_hres:S.res= .cons (.c (.d .bool)) .nil) (args:Array Value) (a:S.args.den) (hgl:Wi (Old W) W) (hargs:OAs (Old W) W (S.args.oas a) args.toList []){r:S.R}(hr:S.G a=some r) (ht:S.res.oas (S.out r).2=[.c (.d (.v (.bool true)))]) :
  Calls P f args W λe W'=>e= .returned (.bool true)/\Below W.heap.size W W':=by
 refine(hS.ok.calls W (Old W) [] args (S.args.oas a) (λb o h=>h) hgl hargs a6T ⟨a,r,rfl,hr⟩).mono λe W' h=>?_;cases e with
 |returned v=>
  obtain⟨I',vs,Fp,Fr',rfl,R⟩:=h;have h1:=R.res;rw[TFn.res_of hS.args hr,ht]at h1;simp only[OAs]at h1;obtain⟨x,rs,F1,F2,rfl,h2,⟨rfl,_⟩,_⟩:=h1;obtain⟨_,h3,_⟩:=h2;subst h3;exact⟨rfl,⟨R.fr.os,R.fr.tape,R.fr.output,R.fr.size,λk hk=>R.fr.block k hk (by simp)⟩⟩
 |panicked c=>exact h.elim
 |_=>exact h.elim
end
end Go.Proofs.YtjbgdpjgfjnkbaaGreatDoor.Am
namespace Go.Proofs
open Go.Shelf
def Tryz.decode_ren:Go.Shelf.Ren:=⟨fun | 197=>257 | 260=>273 | n=>n,fun | 9=>9 | 21=>21 | 3=>3 | 4=>4 | 5=>5 | 105=>305 | 119=>319 | 0=>0 | 46=>195 | 139=>322 | 138=>321 | n=>n,fun | 3=>2 | 4=>3 | n=>n⟩
theorem Tryz.decode:Go.Proofs.Lays.n197 Tryz.prog Tryz.decode_ren:={
 mixed:=by kernel_rfl
 f197:=Tryz.func257.trans (congrArg some (by kernel_rfl))
 f260:=Tryz.func273.trans (congrArg some (by kernel_rfl))
 t0:=Tryz.underlying0
 a0:=Tryz.isAgg0
 z0:=Tryz.sizeOf0
 v0:=Tryz.zeroValue0
 t3:=Tryz.underlying3
 a3:=Tryz.isAgg3
 z3:=Tryz.sizeOf3
 v3:=Tryz.zeroValue3
 t4:=Tryz.underlying4
 a4:=Tryz.isAgg4
 z4:=Tryz.sizeOf4
 v4:=Tryz.zeroValue4
 t5:=Tryz.underlying5
 a5:=Tryz.isAgg5
 z5:=Tryz.sizeOf5
 v5:=Tryz.zeroValue5
 t9:=Tryz.underlying9
 a9:=Tryz.isAgg9
 z9:=Tryz.sizeOf9
 v9:=Tryz.zeroValue9
 t21:=Tryz.underlying21
 a21:=Tryz.isAgg21
 z21:=Tryz.sizeOf21
 v21:=Tryz.zeroValue21
 t46:=Tryz.underlying195
 a46:=Tryz.isAgg195
 z46:=Tryz.sizeOf195
 v46:=Tryz.zeroValue195
 t105:=Tryz.underlying305
 a105:=Tryz.isAgg305
 z105:=Tryz.sizeOf305
 v105:=Tryz.zeroValue305
 t119:=Tryz.underlying319
 a119:=Tryz.isAgg319
 z119:=Tryz.sizeOf319
 t138:=Tryz.underlying321
 a138:=Tryz.isAgg321
 z138:=Tryz.sizeOf321
 v138:=Tryz.zeroValue321
 t139:=Tryz.underlying322
 a139:=Tryz.isAgg322
 z139:=Tryz.sizeOf322
 v139:=Tryz.zeroValue322
 g3:=by kernel_rfl
 g4:=by kernel_rfl}
end Go.Proofs
namespace Go.Proofs.YtjbgdpjgfjnkbaaGreatDoor.Am
open Go Go.Proofs Go.RowKit
def P5(a0:List UInt8):Option (Int×Int):=some (((Lib.decodeGo ⟨a0.toArray⟩).1:Nat),((Lib.decodeGo ⟨a0.toArray⟩).2:Nat))
def K5:TFn:=⟨.cons (.c (.d .str)) .nil,.nil,.cons (.c (.d (.int .i32))) (.cons (.c (.d (.int .i64))) .nil),Int×Int,λa=>P5 a.1,λr=>((),(r.1,(r.2,()))),.none⟩
theorem FN{I:Nat->Nat->Prop}{w:World}(h:Wi I w):Lib.Utf8Tabs 2 3 w:=by
 refine⟨λc hc=>(h 2 c _ (by simp[GT,hc])).1,λi hi=>⟨?_,?_⟩⟩
 ·have:=(h 3 (2*i) (.int .u8 (Lib.accLo i)) (by
   have h1:2*i<32:=by omega
   have h2:2*i%2=0:=by omega
   have h3:2*i / 2=i:=by omega
   simp[GT,h1])).1
  exact this
 ·have:=(h 3 (2*i+1) (.int .u8 (Lib.accHi i)) (by
   have h1:2*i+1<32:=by omega
   have h2:¬(2*i+1)%2=0:=by omega
   have h3:(2*i+1) / 2=i:=by omega
   simp[GT,h1,h3])).1
  exact this
theorem lT:FnT Tryz.prog 257 K5:=
 ⟨rfl,rfl,⟨trivial,⟨_,Tryz.func257,rfl,rfl⟩,λw I F args xs hIn hgl hargs hF hp=>by
  obtain⟨a,r,rfl,hr⟩:=hp
  replace hargs:OAs I w [.c (.d (.v (.string ⟨a.1.toArray⟩)))] args.toList F:=hargs
  simp only[OAs,OAr,OCr,DVr]at hargs;obtain⟨x,r1,F1,F2,e1,⟨rfl,rfl,_⟩,⟨rfl,rfl⟩,rfl⟩:=hargs;have ha:args= #[.string ⟨a.1.toArray⟩]:=by
   cases args;simp only at e1;subst e1;rfl
  subst ha;have hc:=Any.utf8_DecodeRuneInString Tryz.decode ⟨a.1.toArray⟩ w (FN hgl);refine Calls.mono (show Calls Tryz.prog 257 _ _ _ from hc) λe w' h=>?_;obtain⟨rfl,hb⟩:=h;refine⟨I,[.int .i32 (Lib.decodeGo ⟨a.1.toArray⟩).1,.int .i64 (Lib.decodeGo ⟨a.1.toArray⟩).2],[],[],rfl,?_⟩;refine⟨⟨hb.os,hb.tape,hb.output,hb.size,λk hk _=>hb.block k hk⟩,λ_ _ h=>h,λb o hi=>World.cell?_of_block (a:=⟨b,o,none⟩) (hb.block b (hIn b o hi)),λ_ _ h=>.inl h,λb o hi=>a6L (hIn b o hi) hb.size,?_,?_,by simp,by simp⟩
  ·have e1:(K5.spec.post (K5.args.oas a))=[]:=by
    rw[TFn.post_of rfl hr];rfl
   rw[e1];exact⟨rfl,rfl⟩
  ·have e1:(K5.spec.res (K5.args.oas a))=[.c (.d (.v (.int .i32 r.1))),.c (.d (.v (.int .i64 r.2)))]:=by
    rw[TFn.res_of rfl hr];rfl
   rw[e1];injection hr with hr;rw[<-hr];simp only[OAs,OAr,OCr,DVr];exact⟨_,_,[],[],rfl,⟨rfl,rfl,rfl⟩,⟨_,_,[],[],rfl,⟨rfl,rfl,rfl⟩,⟨rfl,rfl⟩,rfl⟩,rfl⟩⟩⟩
end Go.Proofs.YtjbgdpjgfjnkbaaGreatDoor.Am
namespace Go.Proofs.YtjbgdpjgfjnkbaaGreatDoor.Am
open Go
set_option maxRecDepth 100000
def zs{α:Type}(n:Nat) (x:α) (l:List α):List α:=List.replicate n x++l
def ti3:TI:=⟨.int .i64,1,8,[.int .i64 0],[],false,[]⟩
def ti4:TI:=⟨.bool,1,1,[.bool false],[],false,[]⟩
def ti5:TI:=⟨.int .u8,1,1,[.int .u8 0],[],false,[]⟩
def ti9:TI:=⟨.str,1,16,[.string ⟨#[]⟩],[],false,[]⟩
def a4w:TI:=⟨.other,1,16,[.nilIface],[],false,[]⟩
def a4x:TI:=⟨.int .i32,1,4,[.int .i32 0],[],false,[]⟩
def a4y:TI:=⟨.slice 3,1,24,[.slice none 0 0],[],false,[]⟩
def a4z:TI:=⟨.int .u64,1,8,[.int .u64 0],[],false,[]⟩
def a4A:TI:=⟨.struct [(0,1),(1,1),(2,1),(3,1),(4,1),(5,1),(6,1),(7,1),(8,1),(9,1),(10,1),(11,1)],12,96,zs 6 (.int .i64 0) (.bool false :: .int .i64 0 :: .int .i64 0 :: .int .u64 0 :: .int .i64 0 :: .int .i64 0::[]),zs 6 (.i .i64) (.b :: .i .i64 :: .i .i64 :: .i .u64 :: .i .i64 :: .i .i64::[]),false,[]⟩
def a4B:TI:=⟨.slice 96,1,24,[.slice none 0 0],[],false,[]⟩
def a4C:TI:=⟨.struct [(0,1),(1,1)],2,32,[.slice none 0 0,.int .u64 0],[],false,[28,25]⟩
def a4D:TI:=⟨.struct [(0,2),(2,2),(4,2),(6,1),(7,1)],8,112,[.slice none 0 0,.int .u64 0,.slice none 0 0,.int .u64 0,.slice none 0 0,.int .u64 0,.bool false,.int .u64 0],[],false,[]⟩
def a4E:TI:=⟨.slice 67,1,24,[.slice none 0 0],[],false,[]⟩
def a4F:TI:=⟨.slice 60,1,24,[.slice none 0 0],[],false,[]⟩
def a4G:TI:=⟨.struct [(0,12),(12,8),(20,1),(21,1),(22,1),(23,1),(24,1)],25,280,zs 6 (.int .i64 0) (.bool false :: .int .i64 0 :: .int .i64 0 :: .int .u64 0 :: .int .i64 0 :: .int .i64 0 :: .slice none 0 0 :: .int .u64 0 :: .slice none 0 0 :: .int .u64 0 :: .slice none 0 0 :: .int .u64 0 :: .bool false :: .int .u64 0 :: .int .i64 0 :: .int .i64 0 :: .int .i64 0 :: .slice none 0 0 :: .slice none 0 0::[]),[],false,[]⟩
def a4H:TI:=⟨.ptr 168,1,8,[.pointer none],[],false,[]⟩
def a4I:TI:=⟨.arr 2 3,2,16,[.int .i64 0,.int .i64 0],[.i .i64,.i .i64],false,[]⟩
def a4J:TI:=⟨.slice 40,1,24,[.slice none 0 0],[],false,[]⟩
def a4K:TI:=⟨.slice 57,1,24,[.slice none 0 0],[],false,[]⟩
def a4L:TI:=⟨.slice 43,1,24,[.slice none 0 0],[],false,[]⟩
def a4M:TI:=⟨.int .i64,1,8,[.int .i64 0],[],false,[]⟩
def a4N:TI:=⟨.slice 63,1,24,[.slice none 0 0],[],false,[]⟩
def a4O:TI:=⟨.slice 5,1,24,[.slice none 0 0],[],false,[]⟩
def a4P:TI:=⟨.arr 32 5,32,32,zs 32 (.int .u8 0) [],zs 32 (.i .u8) [],false,[]⟩
def a4Q:TI:=⟨.struct [(0,1),(1,1),(2,1),(3,1),(4,1)],5,48,[.int .i64 0,.string ⟨#[]⟩,.int .u64 0,.int .u64 0,.int .u64 0],[.i .i64,.s,.i .u64,.i .u64,.i .u64],false,[]⟩
def a4R:TI:=⟨.struct [(0,32),(32,1),(33,1),(34,1),(35,1),(36,1),(37,1),(38,1),(39,1),(40,1)],41,144,zs 32 (.int .u8 0) (.slice none 0 0 :: .string ⟨#[]⟩ :: .int .u64 0 :: .int .u64 0 :: .int .u64 0 :: .int .i64 0 :: .int .i64 0 :: .int .i64 0 :: .slice none 0 0::[]),[],false,[]⟩
def a4S:TI:=⟨.struct [(0,1),(1,32),(33,1),(34,1),(35,1),(36,1),(37,1),(38,1),(39,1),(40,1),(41,32)],73,232,.int .i64 0::zs 32 (.int .u8 0) (.int .u64 0::zs 6 (.slice none 0 0) (.int .i64 0::zs 32 (.int .u8 0) [])),[],false,[]⟩
def a4T:TI:=⟨.slice 22,1,24,[.slice none 0 0],[],false,[]⟩
def a4U:TI:=⟨.struct [(0,1),(1,1),(2,1)],3,32,[.string ⟨#[]⟩,.int .u64 0,.int .u64 0],[.s,.i .u64,.i .u64],false,[]⟩
def a0M:TI:=⟨.struct [(0,1),(1,1),(2,32),(34,32),(66,32)],98,112,.int .i64 0 :: .int .i64 0::zs 96 (.int .u8 0) [],.i .i64 :: .i .i64::zs 96 (.i .u8) [],false,[]⟩
def a0N:TI:=⟨.slice 107,1,24,[.slice none 0 0],[],false,[]⟩
def a0O:TI:=⟨.slice 34,1,24,[.slice none 0 0],[],false,[]⟩
def a0P:TI:=⟨.struct [(0,1),(1,1),(2,1),(3,32),(35,32),(67,32),(99,32)],131,152,.int .i64 0 :: .int .i64 0 :: .int .i64 0::zs 128 (.int .u8 0) [],.i .i64 :: .i .i64 :: .i .i64::zs 128 (.i .u8) [],false,[]⟩
def a0Q:TI:=⟨.struct [(0,131),(131,1)],132,176,.int .i64 0 :: .int .i64 0 :: .int .i64 0::zs 128 (.int .u8 0) (.slice none 0 0::[]),[],false,[]⟩
def a0R:TI:=⟨.struct [(0,25),(25,98),(123,1),(124,1),(125,1),(126,132),(258,1)],259,648,zs 6 (.int .i64 0) (.bool false :: .int .i64 0 :: .int .i64 0 :: .int .u64 0 :: .int .i64 0 :: .int .i64 0 :: .slice none 0 0 :: .int .u64 0 :: .slice none 0 0 :: .int .u64 0 :: .slice none 0 0 :: .int .u64 0 :: .bool false :: .int .u64 0 :: .int .i64 0 :: .int .i64 0 :: .int .i64 0 :: .slice none 0 0 :: .slice none 0 0 :: .int .i64 0 :: .int .i64 0::zs 96 (.int .u8 0) (.slice none 0 0 :: .slice none 0 0 :: .bool false :: .int .i64 0 :: .int .i64 0 :: .int .i64 0::zs 128 (.int .u8 0) (.slice none 0 0 :: .slice none 0 0::[]))),[],false,[]⟩
def a0S:TI:=⟨.slice 174,1,24,[.slice none 0 0],[],false,[]⟩
def a0T:TI:=⟨.struct [(0,1),(1,1),(2,1)],3,24,[.int .i64 0,.int .u64 0,.bool false],[.i .i64,.i .u64,.b],false,[]⟩
def a0U:TI:=⟨.slice 166,1,24,[.slice none 0 0],[],false,[]⟩
def a0V:TI:=⟨.struct [(0,1),(1,1),(2,1),(3,1),(4,1),(5,1)],6,80,[.string ⟨#[]⟩,.int .u64 0,.int .u64 0,.int .u64 0,.string ⟨#[]⟩,.slice none 0 0],[],false,[]⟩
def a0W:TI:=⟨.int .u32,1,4,[.int .u32 0],[],false,[]⟩
def a0X:TI:=⟨.arr 8 128,8,32,zs 8 (.int .u32 0) [],zs 8 (.i .u32) [],false,[]⟩
def a0Y:TI:=⟨.struct [(0,1),(1,1)],2,24,[.string ⟨#[]⟩,.int .u64 0],[.s,.i .u64],false,[]⟩
def a0Z:TI:=⟨.struct [(0,1),(1,1)],2,32,[.slice none 0 0,.int .i64 0],[],false,[]⟩
def a00:TI:=⟨.struct [(0,1),(1,1),(2,1),(3,1),(4,1)],5,56,[.int .i64 0,.int .i64 0,.int .i64 0,.int .i64 0,.slice none 0 0],[],false,[]⟩
def a01:TI:=⟨.other,1,8,[.nilFunc],[],false,[]⟩
def a02:TI:=⟨.slice 25,1,24,[.slice none 0 0],[],false,[]⟩
def a03:TI:=⟨.slice 240,1,24,[.slice none 0 0],[],false,[]⟩
def a04:TI:=⟨.arr 64 128,64,256,zs 64 (.int .u32 0) [],zs 64 (.i .u32) [],false,[]⟩
def a05:TI:=⟨.int .u64,1,8,[.int .u64 0],[],false,[]⟩
def a06:TI:=⟨.other,1,8,[.nilFunc],[],false,[]⟩
def a07:TI:=⟨.slice 9,1,24,[.slice none 0 0],[],false,[]⟩
def a08:TI:=⟨.struct [(0,1),(1,1),(2,1),(3,1)],4,48,[.int .i64 0,.int .i64 0,.int .u64 0,.slice none 0 0],[],false,[]⟩
def a09:TI:=⟨.ptr 297,1,8,[.pointer none],[],false,[]⟩
def a1a:TI:=⟨.other,1,8,[.nilFunc],[],false,[]⟩
def a1b:TI:=⟨.struct [(0,1)],1,24,[.slice none 0 0],[],false,[]⟩
def a1c:TI:=⟨.other,1,8,[.nilFunc],[],false,[]⟩
def a1d:TI:=⟨.map 9 285,1,8,[.map none],[],false,[]⟩
def a1e:TI:=⟨.struct [],0,0,[],[],false,[]⟩
def a1f:TI:=⟨.arr 8 128,8,32,zs 8 (.int .u32 0) [],zs 8 (.i .u32) [],false,[]⟩
def a1g:TI:=⟨.struct [(0,8),(8,1),(9,1)],10,64,zs 8 (.int .u32 0) (.slice none 0 0 :: .int .i64 0::[]),[],false,[]⟩
def a1h:TI:=⟨.ptr 279,1,8,[.pointer none],[],false,[]⟩
def a1i:TI:=⟨.other,1,16,[.nilIface],[],false,[]⟩
def a1j:TI:=⟨.ptr 194,1,8,[.pointer none],[],false,[]⟩
def a1k:TI:=⟨.arr 4 60,128,128,zs 128 (.int .u8 0) [],zs 128 (.i .u8) [],false,[]⟩
def u3:U:=.int .i64
def u4:U:=.bool
def u5:U:=.byte
def u9:U:=.str
def u21:U:=.int .i32
def u22:U:=.sl u3
def u25:U:=.int .u64
def u27:U:=.pr u3 (.pr u3 (.pr u3 (.pr u3 (.pr u3 (.pr u3 (.pr u4 (.pr u3 (.pr u3 (.pr u25 (.pr u3 (u3)))))))))))
def u96:U:=.pr u9 (.pr u25 (u25))
def u28:U:=.sl u96
def u30:U:=.pr u28 (u25)
def u32:U:=.pr u30 (.pr u30 (.pr u30 (.pr u4 (u25))))
def u60:U:=.arr 32 u5
def u57:U:=.sl u5
def u67:U:=.pr u60 (.pr u57 (.pr u9 (.pr u25 (.pr u25 (.pr u25 (.pr u3 (.pr u3 (.pr u3 (u22)))))))))
def u33:U:=.sl u67
def u34:U:=.sl u60
def u36:U:=.pr u27 (.pr u32 (.pr u3 (.pr u3 (.pr u3 (.pr u33 (u34))))))
def u40:U:=.arr 2 u3
def u41:U:=.sl u40
def u43:U:=.sl u57
def u47:U:=.sl u43
def u49:U:=.int .i64
def u63:U:=.pr u49 (.pr u9 (.pr u25 (.pr u25 (u25))))
def u54:U:=.sl u63
def u81:U:=.pr u49 (.pr u60 (.pr u25 (.pr u34 (.pr u34 (.pr u34 (.pr u34 (.pr u34 (.pr u43 (.pr u3 (u60))))))))))
def u92:U:=.sl u22
def a4V:U:=.pr u3 (.pr u3 (.pr u60 (.pr u60 (u60))))
def a4W:U:=.pr u3 (.pr u3 (.pr u3 (.pr u60 (.pr u60 (.pr u60 (u60))))))
def a3A:U:=.pr a4W (u43)
def a4X:U:=.sl a3A
def a4Y:U:=.sl u34
def a5j:U:=.pr u36 (.pr a4V (.pr a4X (.pr a4Y (.pr u4 (.pr a3A (u57))))))
def a4Z:U:=.pr u3 (.pr u3 (.pr u3 (.pr u3 (u57))))
def a5k:U:=.sl a4Z
def a5l:U:=.pr u3 (.pr u25 (u4))
def a40:U:=.pr u9 (u25)
def a41:U:=.sl a40
def a5m:U:=.pr u9 (.pr u25 (.pr u25 (.pr u25 (.pr u9 (a41)))))
def a24:U:=.int .u32
def a5n:U:=.arr 8 a24
def a5o:U:=.pr u22 (u3)
def a5p:U:=.sl u25
def a42:U:=.pr u3 (.pr u3 (.pr u25 (u57)))
def a5q:U:=.sl a42
def a5r:U:=.arr 64 a24
def a5s:U:=.int .u64
def a5t:U:=.sl u9
def a5u:U:=u57
def a5v:U:=.arr 0 .byte
def a43:U:=.arr 8 a24
def a5w:U:=.pr a43 (.pr u57 (u3))
def a5x:U:=.arr 4 u60
def TU:TypeId->Option U
 |3=>some u3
 |4=>some u4
 |5=>some u5
 |9=>some u9
 |21=>some u21
 |22=>some u22
 |25=>some u25
 |27=>some u27
 |28=>some u28
 |30=>some u30
 |32=>some u32
 |33=>some u33
 |34=>some u34
 |36=>some u36
 |40=>some u40
 |41=>some u41
 |43=>some u43
 |47=>some u47
 |49=>some u49
 |54=>some u54
 |57=>some u57
 |60=>some u60
 |63=>some u63
 |67=>some u67
 |81=>some u81
 |92=>some u92
 |96=>some u96
 |101=>some a4V
 |102=>some a4X
 |103=>some a4Y
 |105=>some a4W
 |107=>some a3A
 |109=>some a5j
 |110=>some a5k
 |115=>some a5l
 |123=>some a41
 |125=>some a5m
 |128=>some a24
 |129=>some a5n
 |166=>some a40
 |168=>some a5o
 |174=>some a4Z
 |185=>some a5p
 |187=>some a5q
 |194=>some a5r
 |195=>some a5s
 |215=>some a5t
 |240=>some a42
 |279=>some a5u
 |285=>some a5v
 |294=>some a43
 |297=>some a5w
 |315=>some a5x
 |_=>none
def T:TypeId->Option TI
 |3=>some ti3
 |4=>some ti4
 |5=>some ti5
 |9=>some ti9
 |20=>some a4w
 |21=>some a4x
 |22=>some a4y
 |25=>some a4z
 |27=>some a4A
 |28=>some a4B
 |30=>some a4C
 |32=>some a4D
 |33=>some a4E
 |34=>some a4F
 |36=>some a4G
 |37=>some a4H
 |40=>some a4I
 |41=>some a4J
 |43=>some a4K
 |47=>some a4L
 |49=>some a4M
 |54=>some a4N
 |57=>some a4O
 |60=>some a4P
 |63=>some a4Q
 |67=>some a4R
 |81=>some a4S
 |92=>some a4T
 |96=>some a4U
 |101=>some a0M
 |102=>some a0N
 |103=>some a0O
 |105=>some a0P
 |107=>some a0Q
 |109=>some a0R
 |110=>some a0S
 |115=>some a0T
 |123=>some a0U
 |125=>some a0V
 |128=>some a0W
 |129=>some a0X
 |166=>some a0Y
 |168=>some a0Z
 |174=>some a00
 |182=>some a01
 |185=>some a02
 |187=>some a03
 |194=>some a04
 |195=>some a05
 |210=>some a06
 |215=>some a07
 |240=>some a08
 |251=>some a09
 |257=>some a1a
 |279=>some a1b
 |283=>some a1c
 |284=>some a1d
 |285=>some a1e
 |294=>some a1f
 |297=>some a1g
 |303=>some a1h
 |308=>some a1i
 |312=>some a1j
 |315=>some a1k
 |_=>none
theorem a5y:TOk Tryz.prog 3 ti3:=TOk.mk' (by kernel_rfl) rfl rfl ⟨_,Tryz.underlying3,rfl⟩
theorem a5z:TOk Tryz.prog 4 ti4:=TOk.mk' (by kernel_rfl) rfl rfl ⟨_,Tryz.underlying4,rfl⟩
theorem a5A:TOk Tryz.prog 5 ti5:=TOk.mk' (by kernel_rfl) rfl rfl ⟨_,Tryz.underlying5,rfl⟩
theorem a5B:TOk Tryz.prog 9 ti9:=TOk.mk' (by kernel_rfl) rfl rfl ⟨_,Tryz.underlying9,rfl⟩
theorem a3B:TOk Tryz.prog 20 a4w:=TOk.mk' (by kernel_rfl) rfl rfl ⟨_,Tryz.underlying20,rfl⟩
theorem a3C:TOk Tryz.prog 21 a4x:=TOk.mk' (by kernel_rfl) rfl rfl ⟨_,Tryz.underlying21,rfl⟩
theorem a3D:TOk Tryz.prog 22 a4y:=TOk.mk' (by kernel_rfl) rfl rfl ⟨_,Tryz.underlying22,rfl⟩
theorem a3E:TOk Tryz.prog 25 a4z:=TOk.mk' (by kernel_rfl) rfl rfl ⟨_,Tryz.underlying25,rfl⟩
theorem a3F:TOk Tryz.prog 27 a4A:=TOk.mk' (by kernel_rfl) rfl rfl ⟨_,Tryz.underlying27,_,rfl,by kernel_rfl,by kernel_rfl⟩ (λ_=>⟨⟨20,by decide,by kernel_rfl⟩,by kernel_rfl⟩)
theorem a3G:TOk Tryz.prog 28 a4B:=TOk.mk' (by kernel_rfl) rfl rfl ⟨_,Tryz.underlying28,rfl⟩
theorem a3H:TOk Tryz.prog 30 a4C:=TOk.mk' (by kernel_rfl) rfl rfl ⟨_,Tryz.underlying30,_,rfl,by kernel_rfl,by kernel_rfl⟩ (fts:=λ_=>⟨_,Tryz.underlying30,by kernel_rfl⟩)
theorem a3I:TOk Tryz.prog 32 a4D:=TOk.mk' (by kernel_rfl) rfl rfl ⟨_,Tryz.underlying32,_,rfl,by kernel_rfl,by kernel_rfl⟩
theorem a3J:TOk Tryz.prog 33 a4E:=TOk.mk' (by kernel_rfl) rfl rfl ⟨_,Tryz.underlying33,rfl⟩
theorem a3K:TOk Tryz.prog 34 a4F:=TOk.mk' (by kernel_rfl) rfl rfl ⟨_,Tryz.underlying34,rfl⟩
theorem a3L:TOk Tryz.prog 36 a4G:=TOk.mk' (by kernel_rfl) rfl rfl ⟨_,Tryz.underlying36,_,rfl,by kernel_rfl,by kernel_rfl⟩
theorem a3M:TOk Tryz.prog 37 a4H:=TOk.mk' (by kernel_rfl) rfl rfl ⟨_,Tryz.underlying37,rfl⟩
theorem a3N:TOk Tryz.prog 40 a4I:=TOk.mk' (by kernel_rfl) rfl rfl ⟨_,Tryz.underlying40,rfl⟩ (λ_=>⟨⟨20,by decide,by kernel_rfl⟩,by kernel_rfl⟩)
theorem a3O:TOk Tryz.prog 41 a4J:=TOk.mk' (by kernel_rfl) rfl rfl ⟨_,Tryz.underlying41,rfl⟩
theorem a3P:TOk Tryz.prog 43 a4K:=TOk.mk' (by kernel_rfl) rfl rfl ⟨_,Tryz.underlying43,rfl⟩
theorem a3Q:TOk Tryz.prog 47 a4L:=TOk.mk' (by kernel_rfl) rfl rfl ⟨_,Tryz.underlying47,rfl⟩
theorem a3R:TOk Tryz.prog 49 a4M:=TOk.mk' (by kernel_rfl) rfl rfl ⟨_,Tryz.underlying49,rfl⟩
theorem a3S:TOk Tryz.prog 54 a4N:=TOk.mk' (by kernel_rfl) rfl rfl ⟨_,Tryz.underlying54,rfl⟩
theorem a3T:TOk Tryz.prog 57 a4O:=TOk.mk' (by kernel_rfl) rfl rfl ⟨_,Tryz.underlying57,rfl⟩
theorem a3U:TOk Tryz.prog 60 a4P:=TOk.mk' (by kernel_rfl) rfl rfl ⟨_,Tryz.underlying60,rfl⟩ (λ_=>⟨⟨20,by decide,by kernel_rfl⟩,by kernel_rfl⟩)
theorem a3V:TOk Tryz.prog 63 a4Q:=TOk.mk' (by kernel_rfl) rfl rfl ⟨_,Tryz.underlying63,_,rfl,by kernel_rfl,by kernel_rfl⟩ (λ_=>⟨⟨20,by decide,by kernel_rfl⟩,by kernel_rfl⟩)
theorem a3W:TOk Tryz.prog 67 a4R:=TOk.mk' (by kernel_rfl) rfl rfl ⟨_,Tryz.underlying67,_,rfl,by kernel_rfl,by kernel_rfl⟩
theorem a3X:TOk Tryz.prog 81 a4S:=TOk.mk' (by kernel_rfl) rfl rfl ⟨_,Tryz.underlying81,_,rfl,by kernel_rfl,by kernel_rfl⟩
theorem a3Y:TOk Tryz.prog 92 a4T:=TOk.mk' (by kernel_rfl) rfl rfl ⟨_,Tryz.underlying92,rfl⟩
theorem MO:TOk Tryz.prog 96 a4U:=TOk.mk' (by kernel_rfl) rfl rfl ⟨_,Tryz.underlying96,_,rfl,by kernel_rfl,by kernel_rfl⟩ (λ_=>⟨⟨20,by decide,by kernel_rfl⟩,by kernel_rfl⟩)
theorem a1l:TOk Tryz.prog 101 a0M:=TOk.mk' (by kernel_rfl) rfl rfl ⟨_,Tryz.underlying101,_,rfl,by kernel_rfl,by kernel_rfl⟩ (λ_=>⟨⟨20,by decide,by kernel_rfl⟩,by kernel_rfl⟩)
theorem a1m:TOk Tryz.prog 102 a0N:=TOk.mk' (by kernel_rfl) rfl rfl ⟨_,Tryz.underlying102,rfl⟩
theorem a1n:TOk Tryz.prog 103 a0O:=TOk.mk' (by kernel_rfl) rfl rfl ⟨_,Tryz.underlying103,rfl⟩
theorem a1o:TOk Tryz.prog 105 a0P:=TOk.mk' (by kernel_rfl) rfl rfl ⟨_,Tryz.underlying105,_,rfl,by kernel_rfl,by kernel_rfl⟩ (λ_=>⟨⟨20,by decide,by kernel_rfl⟩,by kernel_rfl⟩)
theorem a1p:TOk Tryz.prog 107 a0Q:=TOk.mk' (by kernel_rfl) rfl rfl ⟨_,Tryz.underlying107,_,rfl,by kernel_rfl,by kernel_rfl⟩
theorem a1q:TOk Tryz.prog 109 a0R:=TOk.mk' (by kernel_rfl) rfl rfl ⟨_,Tryz.underlying109,_,rfl,by kernel_rfl,by kernel_rfl⟩
theorem a1r:TOk Tryz.prog 110 a0S:=TOk.mk' (by kernel_rfl) rfl rfl ⟨_,Tryz.underlying110,rfl⟩
theorem a1s:TOk Tryz.prog 115 a0T:=TOk.mk' (by kernel_rfl) rfl rfl ⟨_,Tryz.underlying115,_,rfl,by kernel_rfl,by kernel_rfl⟩ (λ_=>⟨⟨20,by decide,by kernel_rfl⟩,by kernel_rfl⟩)
theorem a1t:TOk Tryz.prog 123 a0U:=TOk.mk' (by kernel_rfl) rfl rfl ⟨_,Tryz.underlying123,rfl⟩
theorem a1u:TOk Tryz.prog 125 a0V:=TOk.mk' (by kernel_rfl) rfl rfl ⟨_,Tryz.underlying125,_,rfl,by kernel_rfl,by kernel_rfl⟩
theorem a1v:TOk Tryz.prog 128 a0W:=TOk.mk' (by kernel_rfl) rfl rfl ⟨_,Tryz.underlying128,rfl⟩
theorem a1w:TOk Tryz.prog 129 a0X:=TOk.mk' (by kernel_rfl) rfl rfl ⟨_,Tryz.underlying129,rfl⟩ (λ_=>⟨⟨20,by decide,by kernel_rfl⟩,by kernel_rfl⟩)
theorem a1x:TOk Tryz.prog 166 a0Y:=TOk.mk' (by kernel_rfl) rfl rfl ⟨_,Tryz.underlying166,_,rfl,by kernel_rfl,by kernel_rfl⟩ (λ_=>⟨⟨20,by decide,by kernel_rfl⟩,by kernel_rfl⟩)
theorem a1y:TOk Tryz.prog 168 a0Z:=TOk.mk' (by kernel_rfl) rfl rfl ⟨_,Tryz.underlying168,_,rfl,by kernel_rfl,by kernel_rfl⟩
theorem a1z:TOk Tryz.prog 174 a00:=TOk.mk' (by kernel_rfl) rfl rfl ⟨_,Tryz.underlying174,_,rfl,by kernel_rfl,by kernel_rfl⟩
theorem a1A:TOk Tryz.prog 182 a01:=TOk.mk' (by kernel_rfl) rfl rfl ⟨_,Tryz.underlying182,rfl⟩
theorem a1B:TOk Tryz.prog 185 a02:=TOk.mk' (by kernel_rfl) rfl rfl ⟨_,Tryz.underlying185,rfl⟩
theorem a1C:TOk Tryz.prog 187 a03:=TOk.mk' (by kernel_rfl) rfl rfl ⟨_,Tryz.underlying187,rfl⟩
theorem a1D:TOk Tryz.prog 194 a04:=TOk.mk' (by kernel_rfl) rfl rfl ⟨_,Tryz.underlying194,rfl⟩ (λ_=>⟨⟨20,by decide,by kernel_rfl⟩,by kernel_rfl⟩)
theorem a1E:TOk Tryz.prog 195 a05:=TOk.mk' (by kernel_rfl) rfl rfl ⟨_,Tryz.underlying195,rfl⟩
theorem a1F:TOk Tryz.prog 210 a06:=TOk.mk' (by kernel_rfl) rfl rfl ⟨_,Tryz.underlying210,rfl⟩
theorem a1G:TOk Tryz.prog 215 a07:=TOk.mk' (by kernel_rfl) rfl rfl ⟨_,Tryz.underlying215,rfl⟩
theorem a1H:TOk Tryz.prog 240 a08:=TOk.mk' (by kernel_rfl) rfl rfl ⟨_,Tryz.underlying240,_,rfl,by kernel_rfl,by kernel_rfl⟩
theorem a1I:TOk Tryz.prog 251 a09:=TOk.mk' (by kernel_rfl) rfl rfl ⟨_,Tryz.underlying251,rfl⟩
theorem a1J:TOk Tryz.prog 257 a1a:=TOk.mk' (by kernel_rfl) rfl rfl ⟨_,Tryz.underlying257,rfl⟩
theorem a1K:TOk Tryz.prog 279 a1b:=TOk.mk' (by kernel_rfl) rfl rfl ⟨_,Tryz.underlying279,_,rfl,by kernel_rfl,by kernel_rfl⟩
theorem a1L:TOk Tryz.prog 283 a1c:=TOk.mk' (by kernel_rfl) rfl rfl ⟨_,Tryz.underlying283,rfl⟩
theorem a1M:TOk Tryz.prog 284 a1d:=TOk.mk' (by kernel_rfl) rfl rfl ⟨_,Tryz.underlying284,rfl⟩
theorem a1N:TOk Tryz.prog 285 a1e:=TOk.mk' (by kernel_rfl) rfl rfl ⟨_,Tryz.underlying285,_,rfl,by kernel_rfl,by kernel_rfl⟩
theorem a1O:TOk Tryz.prog 294 a1f:=TOk.mk' (by kernel_rfl) rfl rfl ⟨_,Tryz.underlying294,rfl⟩ (λ_=>⟨⟨20,by decide,by kernel_rfl⟩,by kernel_rfl⟩)
theorem a1P:TOk Tryz.prog 297 a1g:=TOk.mk' (by kernel_rfl) rfl rfl ⟨_,Tryz.underlying297,_,rfl,by kernel_rfl,by kernel_rfl⟩
theorem a1Q:TOk Tryz.prog 303 a1h:=TOk.mk' (by kernel_rfl) rfl rfl ⟨_,Tryz.underlying303,rfl⟩
theorem a1R:TOk Tryz.prog 308 a1i:=TOk.mk' (by kernel_rfl) rfl rfl ⟨_,Tryz.underlying308,rfl⟩
theorem a1S:TOk Tryz.prog 312 a1j:=TOk.mk' (by kernel_rfl) rfl rfl ⟨_,Tryz.underlying312,rfl⟩
theorem a1T:TOk Tryz.prog 315 a1k:=TOk.mk' (by kernel_rfl) rfl rfl ⟨_,Tryz.underlying315,rfl⟩ (λ_=>⟨⟨20,by decide,by kernel_rfl⟩,by kernel_rfl⟩)
theorem H3:∀t i,T t=some i->TOk Tryz.prog t i:=by
 intro t i h;unfold T at h;split at h
 ·injection h with h;subst h;exact a5y
 ·injection h with h;subst h;exact a5z
 ·injection h with h;subst h;exact a5A
 ·injection h with h;subst h;exact a5B
 ·injection h with h;subst h;exact a3B
 ·injection h with h;subst h;exact a3C
 ·injection h with h;subst h;exact a3D
 ·injection h with h;subst h;exact a3E
 ·injection h with h;subst h;exact a3F
 ·injection h with h;subst h;exact a3G
 ·injection h with h;subst h;exact a3H
 ·injection h with h;subst h;exact a3I
 ·injection h with h;subst h;exact a3J
 ·injection h with h;subst h;exact a3K
 ·injection h with h;subst h;exact a3L
 ·injection h with h;subst h;exact a3M
 ·injection h with h;subst h;exact a3N
 ·injection h with h;subst h;exact a3O
 ·injection h with h;subst h;exact a3P
 ·injection h with h;subst h;exact a3Q
 ·injection h with h;subst h;exact a3R
 ·injection h with h;subst h;exact a3S
 ·injection h with h;subst h;exact a3T
 ·injection h with h;subst h;exact a3U
 ·injection h with h;subst h;exact a3V
 ·injection h with h;subst h;exact a3W
 ·injection h with h;subst h;exact a3X
 ·injection h with h;subst h;exact a3Y
 ·injection h with h;subst h;exact MO
 ·injection h with h;subst h;exact a1l
 ·injection h with h;subst h;exact a1m
 ·injection h with h;subst h;exact a1n
 ·injection h with h;subst h;exact a1o
 ·injection h with h;subst h;exact a1p
 ·injection h with h;subst h;exact a1q
 ·injection h with h;subst h;exact a1r
 ·injection h with h;subst h;exact a1s
 ·injection h with h;subst h;exact a1t
 ·injection h with h;subst h;exact a1u
 ·injection h with h;subst h;exact a1v
 ·injection h with h;subst h;exact a1w
 ·injection h with h;subst h;exact a1x
 ·injection h with h;subst h;exact a1y
 ·injection h with h;subst h;exact a1z
 ·injection h with h;subst h;exact a1A
 ·injection h with h;subst h;exact a1B
 ·injection h with h;subst h;exact a1C
 ·injection h with h;subst h;exact a1D
 ·injection h with h;subst h;exact a1E
 ·injection h with h;subst h;exact a1F
 ·injection h with h;subst h;exact a1G
 ·injection h with h;subst h;exact a1H
 ·injection h with h;subst h;exact a1I
 ·injection h with h;subst h;exact a1J
 ·injection h with h;subst h;exact a1K
 ·injection h with h;subst h;exact a1L
 ·injection h with h;subst h;exact a1M
 ·injection h with h;subst h;exact a1N
 ·injection h with h;subst h;exact a1O
 ·injection h with h;subst h;exact a1P
 ·injection h with h;subst h;exact a1Q
 ·injection h with h;subst h;exact a1R
 ·injection h with h;subst h;exact a1S
 ·injection h with h;subst h;exact a1T
 ·cases h
def Tc:TypeId->Option TI:=λt=>(T t).map λi=>{i with cut:=true}
theorem a1U:∀t i,Tc t=some i->TOk Tryz.prog t i:=by
 intro t i h;unfold Tc at h;cases e:T t with
 |none=>rw[e]at h;cases h
 |some j=>
  rw[e]at h;injection h with h;subst h;have k:=H3 t j e;exact⟨k.info,k.und,k.agg,k.cmp,k.fts⟩
end Go.Proofs.YtjbgdpjgfjnkbaaGreatDoor.Am
namespace Go.Proofs.YtjbgdpjgfjnkbaaGreatDoor.Am
open Go Go.Proofs Go.RowKit
theorem oN{P:Program}(w:World) (dT sT ty elem:TypeId) (g o dLen dCap:Nat) (a:Addr) (sLen sCap:Nat) (cur:Array Value) (t:TypeId) (cs:List Value) (z:Nat)
  (hu:P.underlying dT=some (.slice elem)) (hs:(P.info? elem).map (·.size)=some z)
  (hg:w.heap[g]?=some (.cells cur t (0,0))) (hn:cs.length=Nat.min sLen dLen*z)
  (hsrc:∀j v,cs[j]?=some v->w.cell? (a.add j)=some v) (hfit:o+cs.length<=cur.size) (h1:∀v∈cs,v.oneCell'=true) :
  (Builtin.copy_ #[dT,sT] ty #[.slice (some ⟨g,o,none⟩) dLen dCap,.slice (some a) sLen sCap]).run P w =
   .ok (goInt (Nat.min sLen dLen)) (w.setRow g (cur.toList.take o++cs++cur.toList.drop (o+cs.length)).toArray):=by
 have hl:=run_loadCells_list (P:=P) w a cs hsrc;have hst:=run_storeCells_at P g o t cs 0 cur w hg (by simpa using hfit) h1;cases hq:P.info? elem with
 |none=>simp[hq]at hs
 |some i=>
  have hi:i.size=z:=by simpa [hq]using hs
  simp[Builtin.copy_,run_underlying hu,Builtin.lenOf,Builtin.firstCells,sizeOf,typeInfo,hq,hi,<-hn,hl,hst]
def XA{u:U}(l:List u.den):List Value:=l.flatMap u.encV
section
variable {u:U}
theorem mH(hz:u.size=3) (l:List u.den):(XA l).length=l.length*3:=vf _ 3 l λa _=>(u.encV_len a).trans hz
theorem Aw(l m:List u.den):XA (l++m)=XA l++XA m:=a7y
theorem Qg(hz:u.size=3) (l:List u.den) (i:Nat) (h:i<=l.length):(XA l).take (i*3)=XA (l.take i):=by
 have e:XA l=XA (l.take i)++XA (l.drop i):=by rw[<-Aw,a6d]
 have hl:(XA (l.take i)).length=i*3:=by rw[mH hz,a5T];omega
 rw[e,<-hl,a6H]
theorem Qh(hz:u.size=3) (l:List u.den) (i:Nat) (h:i<=l.length):(XA l).drop (i*3)=XA (l.drop i):=by
 have e:XA l=XA (l.take i)++XA (l.drop i):=by rw[<-Aw,a6d]
 have hl:(XA (l.take i)).length=i*3:=by rw[mH hz,a5T];omega
 rw[e,<-hl,a6s]
theorem KN(l:List u.den):∀v∈XA l,v.oneCell'=true:=λv hv=>by
 obtain⟨a,_,h⟩:=List.mem_flatMap.1 hv;exact u.encV_one a v h
theorem Uv{I:Nat->Nat->Prop}{w:World}(hu:u.flat=true):∀{l:List u.den}{xs:List Value},V2 I w (l.map u.enc) xs->xs=XA l
 |[],xs,h=>h
 |a::l,xs,h=>by
  simp only[a55,V2]at h;obtain⟨c,r,rfl,h1,h2⟩:=h;rw[u.encV_of hu a h1,Uv hu h2];rfl
theorem Yv{I:Nat->Nat->Prop}{w:World}(hu:u.flat=true):∀(l:List u.den),V2 I w (l.map u.enc) (XA l)
 |[]=>rfl
 |a::l=>by
  simp only[a55,V2];exact⟨u.encV a,XA l,rfl,u.encV_to hu a,Yv hu l⟩
def vp(w:World) (v:Value) (l:List u.den) (e:Ending) (w':World):Prop:=∃v',e= .returned v'/\w'.ownsRow 0 96 3 v' l.length (XA l)/\((v'.ownBlock=v.ownBlock/\w.grownBy w' v.ownBlock)\/(w.grownBy w' none/\v'.ownBlock=some w.heap.size))
set_option maxHeartbeats 4000000 in
set_option maxRecDepth 100000 in
theorem Qi(hu:u.flat=true) (hz:u.size=3){w:World}{l:List u.den}{a:u.den}{A:Option Addr}{n c vb vc:Nat}(hn:l.length=n) (how:w.ownsRow 0 96 3 (.slice A n c) n (XA l)) (hv:w.ownsRow 0 96 3 (.slice (some ⟨vb,0,none⟩) 1 vc) 1 (XA [a])) (hb:(n+1)*32<=140737488355328) :
  Calls Tryz.prog 191 #[.slice A n c,.int .i64 n,.slice (some ⟨vb,0,none⟩) 1 vc] w (vp w (.slice A n c) (l++[a])):=by
 obtain⟨v',w',yc,hrun,ho,hd,halt⟩:∃v' w' yc,(∀ty,(Builtin.append_ #[28,28] ty #[.slice A n c,.slice (some ⟨vb,0,none⟩) 1 vc]).run Tryz.prog w= .ok v' w')/\w'.ownsRow 0 96 3 v' (n+1) (XA l++yc)/\V2 (λ_ _=>True) w ([a].map u.enc) yc/\
   ((v'.ownBlock=(Value.slice A n c).ownBlock/\w.grownBy w' (Value.slice A n c).ownBlock)\/(w.grownBy w' none/\v'.ownBlock=some w.heap.size)):=by
  have hd:DVr (λ_ _=>True) w (.sl ([a].map u.enc)) (.slice (some ⟨vb,0,none⟩) 1 vc):=row_dv (I:=λ_ _=>True) (R:=⟨[a].map u.enc,3,96,false⟩) ⟨(by decide:0<3),λe he=>by obtain⟨x,_,rfl⟩:=List.mem_map.1 he;exact(u.enc_len x).trans hz,.inl ⟨(by decide:96<jn),XA [a],hv,Yv hu _⟩⟩ (by decide:96<jn);obtain⟨v',w',yc,h1,h2,h3,h4⟩:=HA (P:=Tryz.prog) MO (by decide) Tryz.underlying28 0 how hd (λe he=>by obtain⟨x,_,rfl⟩:=List.mem_map.1 he;exact(u.enc_len x).trans hz) (by exact hb) (by simp only[a5X,a54,a6v];omega);exact⟨v',w',yc,λty=>h1,h2,h3,h4⟩
 have hyc:=Uv hu hd;subst hyc;rw[<-Aw]at ho;have hpost:vp w (.slice A n c) (l++[a]) (.returned v') w':=⟨v',rfl,by rw[a5K,hn];exact ho,halt⟩;clear halt hd how hv;have Hp:=Lib.hid hpost;clear hpost ho
 go_enter Tryz.func191,Tryz.ntmps191
 go_wp2_with (at_builtin;refine Lib.wpList_append_run _ rfl _ _ _ _ rfl _ _ rfl rfl _ _ (hrun _) ?_)
 all_goals go_ret
 all_goals first | exact Hp.out | (cases A <;> exact Hp.out)
set_option maxHeartbeats 4000000 in
set_option maxRecDepth 100000 in
theorem Uw(_hu:u.flat=true) (hz:u.size=3){w:World}{l:List u.den}{a:u.den}{n c b vb vc i:Nat}{cur vcur:Array Value}(hn:l.length=n) (hi:i<n) (hroom:n+1<=c) (hc:c<=maxLen) (hvb:vb≠b)
  (hg:w.heap[b]?=some (.cells cur 96 (0,0))) (hcs:cur.size=c*3) (htk:cur.toList.take (n*3)=XA l)
  (hvg:w.heap[vb]?=some (.cells vcur 96 (0,0))) (_hvs:3<=vcur.size) (hvt:vcur.toList.take 3=XA [a]) :
  Calls Tryz.prog 191 #[.slice (some ⟨b,0,none⟩) n c,.int .i64 i,.slice (some ⟨vb,0,none⟩) 1 vc] w (vp w (.slice (some ⟨b,0,none⟩) n c) (l.take i++a::l.drop i)):=by
 have hov:∀A lb cb,(callFunc 241 #[.slice (some ⟨vb,0,none⟩) 1 vc,.slice (some ⟨b,A,none⟩) lb cb]).run Tryz.prog w= .ok (.value (.bool false)) w:=λA lb cb=>by
  rw[run_callFunc_extern Tryz.func241 (by kernel_rfl) (by kernel_rfl) (by kernel_rfl) (e:=Extern.SlicesOverlaps.overlaps #[28,28] #[4]) (by kernel_rfl),
   Lib.run_overlaps_apart w 28 4 96 Tryz.underlying28 3 (MO.sizeOf) ⟨vb,0,none⟩ ⟨b,A,none⟩ 1 vc lb cb hvb 96 96 vcur.size cur.size (by simp[World.shape?,hvg]) (by simp[World.shape?,hg]) (by omega) (by simp[World.frozen?,hvg]) (by simp[World.frozen?,hvg])]
  rfl
 have hw1:IntKind.i64.wrap ((n:Int)+1)=(n:Int)+1:=by unfold maxLen at hc;rw[IntKind.wrap_i64];omega
 have hw2:IntKind.i64.wrap ((i:Int)+1)=(i:Int)+1:=by unfold maxLen at hc;rw[IntKind.wrap_i64];omega
 have hne:¬(i:Int)=(n:Int):=by omega
 have hle:¬(c:Int)<(n:Int)+1:=by omega
 have ht1:((n:Int)+1).toNat=n+1:=by omega
 have ht2:((i:Int)+1).toNat=i+1:=by omega
 have hsz:(Tryz.prog.info? 96).map (·.size)=some 3:=by obtain⟨inf,zv,hinf,hh⟩:=MO.info;rw[hinf];exact congrArg some hh.1
 have hL:(XA l).length=n*3:=by rw[mH hz,hn]
 have hcell:∀(W:World),W.heap[b]?=some (.cells cur 96 (0,0))->∀j v,(XA l)[j]?=some v->W.cell? ⟨b,j,none⟩=some v:=λW hW j v hj=>by
  rw[<-htk,List.getElem?_take]at hj;split at hj
  ·simpa [World.cell?,hW]using hj
  ·cases hj
 have hcp1:∀(W:World),W.heap[b]?=some (.cells cur 96 (0,0))->∀ty dc sc,(Builtin.copy_ #[28,28] ty #[.slice (some ⟨b,(i+1)*3,none⟩) (n-i) dc,.slice (some ⟨b,i*3,none⟩) (n+1-i) sc]).run Tryz.prog W= .ok (goInt ((n-i:Nat):Int)) (W.setRow b (cur.toList.take ((i+1)*3)++XA (l.drop i)++cur.toList.drop ((i+1)*3+(XA (l.drop i)).length)).toArray):=λW hW ty dc sc=>by
  have hmin:Nat.min (n+1-i) (n-i)=n-i:=by simp only[a8v];split <;> omega
  have:=oN (P:=Tryz.prog) W 28 28 ty 96 b ((i+1)*3) (n-i) dc ⟨b,i*3,none⟩ (n+1-i) sc cur 96 (XA (l.drop i)) 3 Tryz.underlying28 hsz hW
   (by rw[mH hz,a5Y,hmin,hn]) (λj v hj=>by
    rw[Addr.add_lit];apply hcell W hW;rw[<-Qh hz l i (by omega),List.getElem?_drop]at hj;exact hj) (by rw[mH hz,a5Y,hcs,hn];omega) (KN _)
  rw[hmin]at this;exact this
 obtain⟨cur2,hcur2⟩:∃cur2,cur2=(cur.toList.take ((i+1)*3)++XA (l.drop i)++cur.toList.drop ((i+1)*3+(XA (l.drop i)).length)).toArray:=⟨_,rfl⟩;rw[<-hcur2]at hcp1;have hL2:(XA (l.drop i)).length=(n-i)*3:=by rw[mH hz,a5Y,hn]
 have hs2:cur2.size=c*3:=by
  rw[hcur2];simp only[a6U,a5K,a5T,a5Y,hL2,a59,hcs];omega
 have hcp2:∀(W:World),W.heap[b]?=some (.cells cur2 96 (0,0))->W.heap[vb]?=some (.cells vcur 96 (0,0))->∀ty dc,(Builtin.copy_ #[28,28] ty #[.slice (some ⟨b,i*3,none⟩) (n+1-i) dc,.slice (some ⟨vb,0,none⟩) 1 vc]).run Tryz.prog W= .ok (goInt 1) (W.setRow b (cur2.toList.take (i*3)++XA [a]++cur2.toList.drop (i*3+(XA [a]).length)).toArray):=λW hW hV ty dc=>by
  have hmin:Nat.min 1 (n+1-i)=1:=by simp only[a8v];split <;> omega
  have:=oN (P:=Tryz.prog) W 28 28 ty 96 b (i*3) (n+1-i) dc ⟨vb,0,none⟩ 1 vc cur2 96 (XA [a]) 3 Tryz.underlying28 hsz hW
   (by rw[mH hz,hmin];rfl) (λj v hj=>by
    rw[Addr.add_lit,a6j];rw[<-hvt,List.getElem?_take]at hj;split at hj
    ·simpa [World.cell?,hV]using hj
    ·cases hj) (by rw[mH hz,hs2];simp only[a51];omega) (KN _)
  rw[hmin]at this;exact this
 have hfin:(cur2.toList.take (i*3)++XA [a]++cur2.toList.drop (i*3+(XA [a]).length)).take ((n+1)*3)=XA (l.take i++a::l.drop i):=by
  have hA:(XA [a]).length=3:=by rw[mH hz];rfl
  have h1:cur2.toList.take (i*3)=XA (l.take i):=by
   rw[hcur2];simp only[a50];rw[a62 (by simp only[a5T,a59,hcs];omega),a7U,<-Qg hz l i (by omega),<-htk,a7U];congr 1;simp only[a8v];split <;> split <;> omega
  have h2:cur2.toList.drop (i*3+(XA [a]).length)=XA (l.drop i)++cur.toList.drop ((i+1)*3+(XA (l.drop i)).length):=by
   rw[hcur2];simp only[a50];have:i*3+(XA [a]).length=(cur.toList.take ((i+1)*3)).length:=by simp only[a5T,a59,hcs,hA];omega
   rw[this,a6s]
  rw[h1,h2,<-a50,<-Aw,<-Aw,a50,a7C];have:(n+1)*3=(XA (l.take i++a::l.drop i)).length:=by rw[mH hz];simp only[a5K,a5T,a54,a5Y];omega
  rw[this,a6H]
 obtain⟨cur3,hcur3⟩:∃cur3,cur3=(cur2.toList.take (i*3)++XA [a]++cur2.toList.drop (i*3+(XA [a]).length)).toArray:=⟨_,rfl⟩;rw[<-hcur3]at hcp2;have hs3:cur3.size=c*3:=by
  have hA:(XA [a]).length=3:=by rw[mH hz];rfl
  rw[hcur3];simp only[a6U,a5K,a5T,a5Y,hA,a59,hs2];omega
 have hfin3:cur3.toList.take ((n+1)*3)=XA (l.take i++a::l.drop i):=by rw[hcur3];exact hfin
 have hpost:∀W':World,W'.heap[b]?=some (.cells cur3 96 (0,0))->w.grownBy W' (some b)->vp w (.slice (some ⟨b,0,none⟩) n c) (l.take i++a::l.drop i) (.returned (.slice (some ⟨b,0,none⟩) (n+1) c)) W':=λW' h1 h2=>by
  have hll:(l.take i++a::l.drop i).length=n+1:=by simp only[a5K,a5T,a54,a5Y];omega
  refine⟨_,rfl,?_,.inl ⟨rfl,h2⟩⟩;rw[hll];exact⟨by rw[mH hz,hll],.inr ⟨b,c,cur3,rfl,a6p _,h1,hroom,hc,hs3,hfin3⟩⟩
 clear hfin hfin3 hs3 hcur3 hs2 hL2 hcur2 hcell hL;have hbl:b<w.heap.size:=(Array.getElem?_eq_some_iff.1 hg).1;have mixed:Tryz.prog.follows Departure.mixedOrders=true:=by kernel_rfl
 have hb1:(0:Int)<=(i:Int)+1:=by omega
 have hin:i<=n:=by omega
 have hin2:i<=n+1:=by omega
 have hin3:(i:Int)<=(n:Int)+1:=by omega
 have hin4:(i:Int)<=(n:Int):=by omega
 have hb2:¬c=i+1:=by omega
 have hb4:¬c=i:=by omega
 go_enter Tryz.func191,Tryz.ntmps191
 go_wp2_with (simp only[hov])
 go_region_law_o (refine step_copy_runI rfl _ _ 28 28 rfl (.slice (some ⟨b,(i+1)*3,none⟩) (n-i) (c-(i+1))) (.slice (some ⟨b,i*3,none⟩) (n+1-i) (c-i)) (by simp[Act.eval,Act.put]) (by simp[Act.eval,Act.put]) (hcp1 w.drew hg _ _ _) ?_)
 have hb2':(w.drew.setRow b cur2).heap[b]?=some (.cells cur2 96 (0,0)):=setRow_heap _ _ _ _ _ _ hg;have hv2':(w.drew.setRow b cur2).heap[vb]?=some (.cells vcur 96 (0,0)):=(setRow_other _ _ _ _ hvb).trans hvg;have hrun2:=hcp2 _ hb2' hv2'
 go_wp2_with (at_builtin;refine wpList_copy_runI _ rfl _ _ 28 28 rfl _ _ rfl rfl (hrun2 _ _) ?_)
 go_ret
 exact hpost _ (setRow_heap _ _ _ _ _ _ hb2') ⟨rfl,rfl,rfl,by simp,λk hk hne=>by
  have hkb:k≠b:=λe=>hne (by rw[e]);rw[setRow_other _ _ _ _ hkb,setRow_other _ _ _ _ hkb];rfl⟩
set_option maxHeartbeats 4000000 in
set_option maxRecDepth 100000 in
theorem Ux(_hu:u.flat=true) (hz:u.size=3){w:World}{l:List u.den}{a:u.den}{n c b vb vc i:Nat}{cur vcur:Array Value}(hn:l.length=n) (hi:i<n) (hnc:n<=c) (hroom:c<n+1) (hbig:(n+1)*32<=140737488355328)
  (hg:w.heap[b]?=some (.cells cur 96 (0,0))) (hcs:cur.size=c*3) (htk:cur.toList.take (n*3)=XA l)
  (hvg:w.heap[vb]?=some (.cells vcur 96 (0,0))) (_hvs:3<=vcur.size) (hvt:vcur.toList.take 3=XA [a]) :
  Calls Tryz.prog 191 #[.slice (some ⟨b,0,none⟩) n c,.int .i64 i,.slice (some ⟨vb,0,none⟩) 1 vc] w (vp w (.slice (some ⟨b,0,none⟩) n c) (l.take i++a::l.drop i)):=by
 have hsz:(Tryz.prog.info? 96).map (·.size)=some 3:=by obtain⟨inf,zv,hinf,hh⟩:=MO.info;rw[hinf];exact congrArg some hh.1
 have hbl:b<w.heap.size:=(Array.getElem?_eq_some_iff.1 hg).1;have hvbl:vb<w.heap.size:=(Array.getElem?_eq_some_iff.1 hvg).1;have hcell:∀(W:World),W.heap[b]?=some (.cells cur 96 (0,0))->∀j v,(XA l)[j]?=some v->W.cell? ⟨b,j,none⟩=some v:=λW hW j v hj=>by
  rw[<-htk,List.getElem?_take]at hj;split at hj
  ·simpa [World.cell?,hW]using hj
  ·cases hj
 have hkk:(n:Int)+1-(i:Int)=((n+1-i:Nat):Int):=by omega
 have hik:i+(n+1-i)=n+1:=by omega
 obtain⟨ROW,hrz,hRs,hRt⟩:∃ROW:Array Value,(∀ty,(Builtin.append_ #[28,3] ty #[.slice (some ⟨b,0,none⟩) i c,.int .i64 ((n:Int)+1-(i:Int))]).run Tryz.prog w =
   .ok (.slice (some ⟨w.heap.size,0,none⟩) (n+1) (grownCap w (n+1) c 96)) (w.drew.alloc (.cells ROW 96)))/\ROW.size=grownCap w (n+1) c 96*3/\ROW.toList.take (i*3)=XA (l.take i):=by
  obtain⟨inf,zv,hinf,hs,hby,hzv,hzc,hzl,_⟩:=MO.info;have hs':inf.size=3:=hs;have hby':inf.bytes=32:=hby
  have hzs:zv.cells.size=3:=by have:=hzc▸hzl;exact this
  have hGn:n+1<=grownCap w (n+1) c 96:=grownCap_ge w _ _ _;have hLt:(XA (l.take i)).length=i*3:=by rw[mH hz,a5T];omega
  have hold:(Builtin.firstCells inf.size i (.slice (some ⟨b,0,none⟩) i c)).run Tryz.prog w.drew= .ok (XA (l.take i)).toArray w.drew:=by
   rw[hs'];exact run_firstCells_some w.drew 3 i ⟨b,0,none⟩ i c (XA (l.take i)) hLt (λj v hj=>by
    rw[Addr.add_lit,a6j];rw[<-Qg hz l i (by omega),List.getElem?_take]at hj;split at hj
    ·exact hcell w.drew hg j v hj
    ·cases hj)
  refine⟨(XA (l.take i)).toArray++Builtin.zeroCells zv.cells (n+1-i)++Builtin.zeroCells zv.cells (grownCap w (n+1) c 96-(n+1)),λty=>?_,?_,?_⟩
  ·have h:=Lib.run_append_grow_zeros w 28 3 ty 96 inf _ .i64 .i64 Tryz.underlying28 Tryz.underlying3 hinf hzv (some ⟨b,0,none⟩) i c (XA (l.take i)) hold (n+1-i) (by omega) (by omega) (by omega) (by omega) (by rw[hby'];omega) (by rw[hby',hik];exact growslice_fits hroom hbig);rw[hik]at h;rw[hkk];exact h
  ·simp only[Array.size_append,size_zeroCells,hzs,a6U,hLt];omega
  ·simp only[Array.toList_append,a50];rw[<-hLt,a6H]
 obtain⟨G,hG⟩:∃G,G=grownCap w (n+1) c 96:=⟨_,rfl⟩;have hGn:n+1<=G:=by rw[hG];exact grownCap_ge w _ _ _
 have hG63:G<=maxLen:=by rw[hG];exact grownCap_le_maxLen w (n+1) c 96 (by unfold maxLen;omega)
 rw[<-hG]at hrz hRs;obtain⟨g,hgs⟩:∃g,g=w.heap.size:=⟨_,rfl⟩;rw[<-hgs]at hrz;have hA:(XA [a]).length=3:=by rw[mH hz];rfl
 have hL2:(XA (l.drop i)).length=(n-i)*3:=by rw[mH hz,a5Y,hn]
 obtain⟨cur2,hcur2⟩:∃cur2,cur2=(ROW.toList.take (i*3)++XA [a]++ROW.toList.drop (i*3+(XA [a]).length)).toArray:=⟨_,rfl⟩;obtain⟨cur3,hcur3⟩:∃cur3,cur3=(cur2.toList.take ((i+1)*3)++XA (l.drop i)++cur2.toList.drop ((i+1)*3+(XA (l.drop i)).length)).toArray:=⟨_,rfl⟩;have hs2:cur2.size=G*3:=by
  rw[hcur2];simp only[a6U,a5K,a5T,a5Y,hA,a59,hRs];omega
 have hs3:cur3.size=G*3:=by
  rw[hcur3];simp only[a6U,a5K,a5T,a5Y,hL2,a59,hs2];omega
 have hcpA:∀(W:World),W.heap[g]?=some (.cells ROW 96 (0,0))->W.heap[vb]?=some (.cells vcur 96 (0,0))->∀ty dc,(Builtin.copy_ #[28,28] ty #[.slice (some ⟨g,i*3,none⟩) (n+1-i) dc,.slice (some ⟨vb,0,none⟩) 1 vc]).run Tryz.prog W= .ok (goInt 1) (W.setRow g cur2):=λW hW hV ty dc=>by
  have hmin:Nat.min 1 (n+1-i)=1:=by simp only[a8v];split <;> omega
  have:=oN (P:=Tryz.prog) W 28 28 ty 96 g (i*3) (n+1-i) dc ⟨vb,0,none⟩ 1 vc ROW 96 (XA [a]) 3 Tryz.underlying28 hsz hW
   (by rw[hA,hmin]) (λj v hj=>by
    rw[Addr.add_lit,a6j];rw[<-hvt,List.getElem?_take]at hj;split at hj
    ·simpa [World.cell?,hV]using hj
    ·cases hj) (by rw[hA,hRs];omega) (KN _)
  rw[hmin,<-hcur2]at this;exact this
 have hcpB:∀(W:World),W.heap[g]?=some (.cells cur2 96 (0,0))->W.heap[b]?=some (.cells cur 96 (0,0))->∀ty dc sc,(Builtin.copy_ #[28,28] ty #[.slice (some ⟨g,(i+1)*3,none⟩) (n-i) dc,.slice (some ⟨b,i*3,none⟩) (n-i) sc]).run Tryz.prog W= .ok (goInt ((n-i:Nat):Int)) (W.setRow g cur3):=λW hW hV ty dc sc=>by
  have hmin:Nat.min (n-i) (n-i)=n-i:=by simp only[a8v];split <;> omega
  have:=oN (P:=Tryz.prog) W 28 28 ty 96 g ((i+1)*3) (n-i) dc ⟨b,i*3,none⟩ (n-i) sc cur2 96 (XA (l.drop i)) 3 Tryz.underlying28 hsz hW
   (by rw[hL2,hmin]) (λj v hj=>by
    rw[Addr.add_lit];apply hcell W hV;rw[<-Qh hz l i (by omega),List.getElem?_drop]at hj;exact hj) (by rw[hL2,hs2];omega) (KN _)
  rw[hmin,<-hcur3]at this;exact this
 have hfin3:cur3.toList.take ((n+1)*3)=XA (l.take i++a::l.drop i):=by
  have h1:cur2.toList.take ((i+1)*3)=XA (l.take i)++XA [a]:=by
   rw[hcur2,hRt];have:(i+1)*3=(XA (l.take i)++XA [a]).length:=by rw[a5K,hA,mH hz,a5T];omega
   rw[this];exact a6H
  rw[hcur3,h1,<-Aw,<-Aw,a50,a7C];have:(n+1)*3=(XA (l.take i++a::l.drop i)).length:=by rw[mH hz];simp only[a5K,a5T,a54,a5Y];omega
  rw[this];exact a6H
 have hpost:∀W':World,W'.heap[g]?=some (.cells cur3 96 (0,0))->w.grownBy W' none->vp w (.slice (some ⟨b,0,none⟩) n c) (l.take i++a::l.drop i) (.returned (.slice (some ⟨g,0,none⟩) (n+1) G)) W':=λW' h1 h2=>by
  have hll:(l.take i++a::l.drop i).length=n+1:=by simp only[a5K,a5T,a54,a5Y];omega
  refine⟨_,rfl,?_,.inr ⟨h2,by rw[hgs];rfl⟩⟩;rw[hll];exact⟨by rw[mH hz,hll],.inr ⟨g,G,cur3,rfl,a6p _,h1,hGn,hG63,hs3,hfin3⟩⟩
 clear hfin3 hs3 hcur3 hs2 hL2 hcur2 hcell hRs hRt hG htk hvt;have hvg':vb≠g:=by omega
 have hbg':b≠g:=by omega
 obtain⟨W1,hW1⟩:∃W1,W1=w.drew.alloc (.cells ROW 96):=⟨_,rfl⟩;rw[<-hW1]at hrz;have w1g:W1.heap[g]?=some (.cells ROW 96 (0,0)):=by rw[hW1,hgs];exact Array.getElem?_push_size
 have w1o:∀k,k<w.heap.size->W1.heap[k]?=w.heap[k]?:=λk hk=>by rw[hW1];exact heap_alloc_old w.drew _ hk
 have w1s:w.heap.size<=W1.heap.size:=by rw[hW1];simp
 have w1g1:W1.os=w.os/\W1.tape=w.tape/\W1.output=w.output:=by rw[hW1];exact⟨rfl,rfl,rfl⟩
 have hgle:w.heap.size<=g:=by omega
 clear hW1 hgs;have mixed:Tryz.prog.follows Departure.mixedOrders=true:=by kernel_rfl
 have hw1:IntKind.i64.wrap ((n:Int)+1)=(n:Int)+1:=by rw[IntKind.wrap_i64];omega
 have hw2:IntKind.i64.wrap ((i:Int)+1)=(i:Int)+1:=by rw[IntKind.wrap_i64];omega
 have hw3:IntKind.i64.wrap ((n:Int)+1-(i:Int))=(n:Int)+1-(i:Int):=by rw[IntKind.wrap_i64];omega
 have hne:¬(i:Int)=(n:Int):=by omega
 have hle:(c:Int)<(n:Int)+1:=by omega
 have ht1:((n:Int)+1).toNat=n+1:=by omega
 have ht2:((i:Int)+1).toNat=i+1:=by omega
 have hb1:(0:Int)<=(i:Int)+1:=by omega
 have hin:i<=n:=by omega
 have hin2:i<=n+1:=by omega
 have hin3:(i:Int)<=(n:Int)+1:=by omega
 have hin4:(i:Int)<=(n:Int):=by omega
 have hb4:¬c=i:=by omega
 have hb5:¬G=i:=by omega
 have hb6:¬G=i+1:=by omega
 have hic:i<=c:=by omega
 clear hkk hik;have hrunA:=hcpA _ w1g ((w1o _ hvbl).trans hvg);have hp2:(W1.setRow g cur2).heap[g]?=some (.cells cur2 96 (0,0)):=setRow_heap _ _ _ _ _ _ w1g;have hrunB:=hcpB (W1.setRow g cur2).drew hp2 ((setRow_other _ _ _ _ hbg').trans ((w1o _ hbl).trans hg))
 go_enter Tryz.func191,Tryz.ntmps191
 go_wp2_with (first
  |(at_builtin;refine Lib.wpList_append_run _ rfl _ _ _ _ rfl _ _ rfl rfl _ _ (hrz _) ?_)
  |(at_builtin;refine wpList_copy_runI _ rfl _ _ 28 28 rfl _ _ rfl rfl (hrunA _ _) ?_))
 go_region_law_o (refine step_copy_runI rfl _ _ 28 28 rfl (.slice (some ⟨g,(i+1)*3,none⟩) (n-i) (G-(i+1))) (.slice (some ⟨b,i*3,none⟩) (n-i) (c-i)) (by simp[Act.eval,Act.put]) (by simp[Act.eval,Act.put]) (hrunB _ _ _) ?_)
 go_wp2
 go_ret
 exact hpost _ (setRow_heap _ _ _ _ _ _ hp2) ⟨w1g1.1,w1g1.2.1,w1g1.2.2,by simpa using w1s,λk hk hne=>by
  have hkb:k≠g:=by omega
  rw[setRow_other _ _ _ _ hkb];exact(setRow_other _ _ _ _ hkb).trans (w1o k hk)⟩
end
def a1V{α:Type}(l:List α) (i:Int) (vs:List α):Option (List α):=match vs with
 |[x]=>chk (decide (0<=i/\i<=(l.length:Int)/\(l.length+1)*32<=140737488355328)) (some (l.take i.toNat++x::l.drop i.toNat))
 |_=>none
def sU(u:U) (e:TypeId):TFn:=⟨.cons (.c (.row u e)) (.cons (.c (.d (.int .i64))) (.cons (.c (.row u e)) .nil)),.nil,.cons (.c (.row u e)) .nil,List u.den,λa=>a1V a.1 a.2.1 a.2.2.1,λr=>((),(r,())),.none⟩
theorem MP{u:U}(hu:u.flat=true) (hz:u.size=3):FnT Tryz.prog 191 (sU u 96):=
 ⟨rfl,rfl,⟨trivial,⟨_,Tryz.func191,rfl,rfl⟩,λw I F args xs hIn hgl hargs hF hp=>by
  obtain⟨⟨l,i,vs,u1⟩,r,rfl,hr⟩:=hp;change List u.den at l;change Int at i;change List u.den at vs;change List u.den at r;have hr':a1V l i vs=some r:=hr;unfold a1V at hr';split at hr'
  case h_2=>cases hr'
  rename_i a;obtain⟨hc,hr2⟩:=jL hr';obtain⟨hc1,hc2,hc3⟩:=a5P hc;injection hr2 with hr3;clear hr' hc
  replace hargs:OAs I w [.c (.row u.size 96 (l.map u.enc)),.c (.d (.v (.int .i64 i))),.c (.row u.size 96 ([a].map u.enc))] args.toList F:=hargs
  simp only[OAs,OAr,OCr,DVr]at hargs;obtain⟨v,r1,F1,F2,e1,⟨ex,hrow,hF1,hI,_⟩,⟨x2,r2,F3,F4,rfl,⟨rfl,rfl,_⟩,⟨v3,r3,F5,F6,rfl,⟨ex3,hrow3,hF5,hI3,_⟩,⟨rfl,rfl⟩,rfl⟩,rfl⟩,rfl⟩:=hargs;have hacc:96<jn:=by decide
  rw[a5U (eU hacc),a5Z]at hF1 hF5;subst hF1;subst hF5;have ha:args= #[v,.int .i64 i,v3]:=by cases args;simp only at e1;subst e1;rfl
  subst ha;have epost:((sU u 96).spec.post ((sU u 96).args.oas (l,i,[a],u1)))=[]:=by
   rw[TFn.post_of (S:=sU u 96) (a:=(l,i,[a],u1)) (r:=r) rfl hr];rfl
  have eres:((sU u 96).spec.res ((sU u 96).args.oas (l,i,[a],u1)))=[.c (.row u.size 96 (r.map u.enc))]:=by
   rw[TFn.res_of (S:=sU u 96) (a:=(l,i,[a],u1)) (r:=r) rfl hr];rfl
  obtain⟨hz0,hes,xs,how,hd⟩:=hrow.sl (by show 96<jn;decide);obtain⟨_,_,xs3,how3,hd3⟩:=hrow3.sl (by show 96<jn;decide);have hxs:=Uv hu hd;subst hxs;have hxs3:=Uv hu hd3;subst hxs3;simp only[a5X]at how
  replace how:w.ownsRow 0 96 u.size v l.length (XA l):=how
  replace how3:w.ownsRow 0 96 u.size v3 1 (XA [a]):=how3
  rw[hz]at how how3;rcases how3.2 with⟨_,h0⟩|⟨vb,vc,vcur,hv3,_,hvg,hvc,hvm,hvs,hvt⟩
  ·cases h0
  subst hv3;have hvblk:vb<w.heap.size:=(Array.getElem?_eq_some_iff.1 hvg).1;have hcalls:Calls Tryz.prog 191 #[v,.int .i64 i,.slice (some ⟨vb,0,none⟩) 1 vc] w (vp w v r):=by
   by_cases hil:i=(l.length:Int)
   ·have e2:r=l++[a]:=by rw[<-hr3,hil,a5J,a52,a7b]
    rw[e2,hil];rcases how.2 with⟨hv,h0⟩|⟨b,cap,cur,hv,_⟩
    ·subst hv;have hl:l=[]:=a6f h0;subst hl;exact Qi (n:=0) hu hz rfl how how3 hc3
    ·subst hv;exact Qi hu hz rfl how how3 hc3
   ·have hin:i.toNat<l.length:=by omega
    have hii:i=((i.toNat:Nat):Int):=by omega
    generalize i.toNat=k at hin hii hr3;subst hii;rw[<-hr3];rcases how.2 with⟨_,h0⟩|⟨b,cap,cur,hv,_,hg,hcap,hmax,hcs,htk⟩
    ·omega
    ·subst hv;have hvb:vb≠b:=λe=>by
      subst e;simp[obk]at hF
     by_cases hroom:l.length+1<=cap
     ·exact Uw hu hz rfl hin hroom hmax hvb hg hcs htk hvg (by omega) hvt
     ·exact Ux hu hz rfl hin hcap (by omega) hc3 hg hcs htk hvg (by omega) hvt
  refine Calls.mono hcalls λo w' h=>?_;obtain⟨v',rfl,ho,halt⟩:=h;have hobv:obk v=v.ownBlock:=jJ how;have hobv':obk v'=v'.ownBlock:=jJ ho;have hfr:w.grownBy w' v.ownBlock:=by
   rcases halt with h|h
   ·exact h.2
   ·exact h.1.but _
  have hkeep:pF I w w':=λb o hi=>World.cell?_of_block (a:=⟨b,o,none⟩) (hfr.block b (hIn b o hi) (λh=>hI b o (by rw[hobv];exact h.symm) hi));have hown':∀b,obk v'=some b->obk v=some b\/w.heap.size<=b:=λb hb=>by
   rw[hobv']at hb;rcases halt with h|h
   ·left;rw[hobv,<-h.1,hb]
   ·right;rw[h.2]at hb;injection hb with hb;omega
  refine⟨I,[v'],[],(obk v').toList,rfl,⟨⟨hfr.os,hfr.tape,hfr.output,hfr.size,λk hk hne=>hfr.block k hk λh=>hne (by simp[hobv,<-h])⟩,λ_ _ h=>h,hkeep,λ_ _ h=>.inl h,λb o hi=>a6L (hIn b o hi) hfr.size,?_,?_,by cases obk v' <;> simp,λb hb=>?_⟩⟩
  ·rw[epost];exact⟨rfl,rfl⟩
  ·rw[eres];simp only[OAs,OAr,OCr];refine⟨v',[],(obk v').toList,[],rfl,⟨[],⟨hz0,λe he=>by obtain⟨x,_,rfl⟩:=List.mem_map.1 he;exact u.enc_len x,.inl ⟨(by show 96<jn;decide),XA r,by simp only[a5X];rw[hz];exact ho,Yv hu _⟩⟩,by rw[a5U (eU hacc),a5Z],λg o hg hi=>?_,λh=>absurd h (eU hacc)⟩,⟨rfl,rfl⟩,by simp⟩;rcases hown' g hg with h|h
   ·exact hI g o h hi
   ·have:=hIn g o hi;omega
  ·have hb':obk v'=some b:=by simpa using hb
   rcases hown' b hb' with h|h
   ·left;simp[h]
   ·exact .inr h⟩⟩
theorem Qj(x y:Int) (hx:0<=x) (hy:0<=y) (w:World):(callFunc 243 #[.int .u64 x,.int .u64 y,.int .u64 0]).run Tryz.prog w =
  .ok (.value (.tuple #[.int .u64 ((x+y+0)%18446744073709551616),.int .u64 ((x+y+0) / 18446744073709551616)])) w:=by
 rw[run_callFunc_extern Tryz.func243 (by kernel_rfl) (by kernel_rfl) (by kernel_rfl) (e:=add64Entry) (by kernel_rfl),run_add64 x y 0 hx hy (by omega) (by omega)];rfl
theorem Ct(n:Int) (b:Bool) (w:World):Calls Tryz.prog 244 #[.int .u64 n,.bool b] w λe w'=>e= .returned (.tuple #[.int .u64 (if b then n else 0),.bool b])/\w'=w:=by
 cases b
 ·go_enter Tryz.func244,Tryz.ntmps244
  go_wp2
  go_ret2
  exact⟨rfl,rfl⟩
 ·go_enter Tryz.func244,Tryz.ntmps244
  go_wp2
  go_ret2
  exact⟨rfl,rfl⟩
def na(a0 a1:Int):Option (Int×Bool):=chk (decide (0<=a0/\0<=a1)) (some (if decide (a0+a1<18446744073709551616)then a0+a1 else 0,decide (a0+a1<18446744073709551616)))
def vq:TFn:=⟨.cons (.c (.d (.int .u64))) (.cons (.c (.d (.int .u64))) .nil),.nil,.cons (.c (.d (.int .u64))) (.cons (.c (.d .bool)) .nil),Int×Bool,λa=>na a.1 a.2.1,λr=>((),(r.1,(r.2,()))),.none⟩
theorem Qk{x y:Int}(hx:0<=x) (hy:0<=y) (w:World):Calls Tryz.prog 194 #[.int .u64 x,.int .u64 y] w λe w'=>e= .returned (.tuple #[.int .u64 (if decide (x+y<18446744073709551616)then x+y else 0),.bool (decide (x+y<18446744073709551616))])/\w'=w:=by
 have h:=Qj x y hx hy;by_cases hs:x+y<18446744073709551616
 ·have e1:(x+y+0)%18446744073709551616=x+y:=by omega
  have e2:(x+y+0) / 18446744073709551616=0:=by omega
  rw[e1,e2]at h;rw[a5H hs]
  go_enter Tryz.func194,Tryz.ntmps194
  go_wp2_with (first|(simp only)|(go_at_call 244;refine(Ct _ _ _).mono ?_;rintro e w' ⟨rfl,hw⟩;rw[hw]))
  go_ret2
  exact⟨rfl,rfl⟩
 ·have e2:((x+y) / 18446744073709551616==0)=false:=by simp;omega
  rw[a5N hs]
  go_enter Tryz.func194,Tryz.ntmps194
  go_wp2_with (first|(simp only)|(go_at_call 244;refine(Ct _ _ _).mono ?_;rintro e w' ⟨rfl,hw⟩;rw[hw]))
  go_ret2
  exact⟨rfl,rfl⟩
theorem FO:FnT Tryz.prog 194 vq:=
 ⟨rfl,rfl,⟨trivial,⟨_,Tryz.func194,rfl,rfl⟩,λw I F args xs hIn hgl hargs hF hp=>by
  obtain⟨a,r,rfl,hr⟩:=hp;obtain⟨a0,a1,u⟩:=a;change Int at a0;change Int at a1;obtain⟨r0,r1⟩:=r;change Int at r0;change Bool at r1;have hr':na a0 a1=some (r0,r1):=hr;unfold na at hr';obtain⟨hc,hr'⟩:=jL hr';have hc:=a5P hc;injection hr' with hr'
  replace hargs:OAs I w [.c (.d (.v (.int .u64 a0))),.c (.d (.v (.int .u64 a1)))] args.toList F:=hargs
  simp only[OAs,OAr,OCr,DVr]at hargs;obtain⟨x,q1,F1,F2,e1,⟨rfl,rfl,_⟩,⟨y,q2,F3,F4,rfl,⟨rfl,rfl,_⟩,⟨rfl,rfl⟩,rfl⟩,rfl⟩:=hargs;have ha:args= #[.int .u64 a0,.int .u64 a1]:=by
   cases args;simp only at e1;subst e1;rfl
  subst ha;refine Calls.mono (Qk hc.1 hc.2 w) λe w' h=>?_;obtain⟨rfl,rfl⟩:=h;refine⟨I,[.int .u64 r0,.bool r1],[],[],by injection hr' with h1 h2;subst h1;subst h2;rfl,?_⟩;refine⟨⟨rfl,rfl,rfl,a56 _,λ_ _ _=>rfl⟩,λ_ _ h=>h,pF.refl _ _,λ_ _ h=>.inl h,hIn,?_,?_,by simp,by simp⟩
  ·rw[TFn.post_of rfl hr];exact⟨rfl,rfl⟩
  ·have e1:(vq.spec.res (vq.args.oas (a0,a1,u)))=[.c (.d (.v (.int .u64 r0))),.c (.d (.v (.bool r1)))]:=by
    rw[TFn.res_of rfl hr];rfl
   rw[e1];simp only[OAs,OAr,OCr,DVr];exact⟨_,_,[],[],rfl,⟨rfl,rfl,rfl⟩,⟨_,_,[],[],rfl,⟨rfl,rfl,rfl⟩,⟨rfl,rfl⟩,rfl⟩,rfl⟩⟩⟩
end Go.Proofs.YtjbgdpjgfjnkbaaGreatDoor.Am
namespace Go.Proofs.YtjbgdpjgfjnkbaaGreatDoor.Am
open Go
theorem L5{S R:Type}{G:S->Option (S⊕R)}{p:R->Prop}(inv:Nat->S->Prop) (step:∀n x,inv n x->Ok (G x) (Nxt p λz=>∃m,m<n/\inv m z)) :
  ∀{n:Nat} {x:S},inv n x->n<1180591620717411303424->Ok (F8 G x) p:=by
 have key:∀(f n:Nat) (x:S),inv n x->n<f->Ok (Hn f G x) p:=by
  intro f
  induction f with
  |zero=>intro n x _ h;omega
  |succ f ih=>
   intro n x hi hm;obtain⟨y,hy,h⟩:=step n x hi;unfold Hn;rw[hy];cases y with
   |inl z=>
    obtain⟨m,h1,h2⟩:=h;exact ih m z h2 (by omega)
   |inr r=>exact⟨r,rfl,h⟩
 intro n x hi hm;show Ok (Hn PW G x) p;rw[DQ];exact key _ n x hi hm
theorem C8{α β S R:Type}{G:S->Option (S⊕R)}{p:R->Prop}(l:List α) (st:Nat->β->S) (inv:Nat->β->Prop)
  (step:∀i b,(h:i<l.length)->inv i b->Ok (G (st i b)) (Nxt p λz=>∃b',z=st (i+1) b'/\inv (i+1) b'))
  (stop:∀b,inv l.length b->Ok (G (st l.length b)) (Nxt p λ_=>False)) {b0:β} (h0:inv 0 b0) (hl:l.length<1180591620717411303424):Ok (F8 G (st 0 b0)) p:=by
 refine L5 (λn x=>∃i b,i+n=l.length/\x=st i b/\inv i b) ?_ ⟨0,b0,by omega,rfl,h0⟩ hl;rintro n x ⟨i,b,hn,rfl,hi⟩;by_cases h:i<l.length
 ·refine(step i b h hi).mono λr hr=>?_;cases r with
  |inl z=>
   obtain⟨b',h1,h2⟩:=hr;exact⟨n-1,by omega,i+1,b',by omega,h1,h2⟩
  |inr r=>exact hr
 ·have e:i=l.length:=by omega
  subst e;refine(stop b hi).mono λr hr=>?_;cases r with
  |inl z=>exact hr.elim
  |inr r=>exact hr
theorem D1{α:Type}(x y:Option α):sel true x y=x:=rfl
theorem D3{α:Type}(x y:Option α):sel false x y=y:=rfl
theorem B7{α:Type}(x:Option α):chk true x=x:=rfl
theorem C9{α:Type}{l:List α}{i:Nat}(h:i<l.length) (d:α):l.getD i d=l[i]:=by
 rw[List.getD_eq_getElem?_getD,List.getElem?_eq_getElem h];rfl
theorem E4{α:Type}{l:List α}{i:Nat}(h:i<l.length):l.take (i+1)=l.take i++[l[i]]:=a7t h
theorem C1{i:Nat}(h:i<9223372036854775807):B3 ((i:Int)+1)=((i+1:Nat):Int):=by
 rw[D9] <;> omega
section
variable {α:Type}
theorem Yy{A B:List α}{x d:α}{i:Nat}(h:i=A.length):(A++x::B).getD i d=x:=by
 subst h;simp
theorem Uy{l:List α}(h:0<l.length):∃A x,l=A++[x]:=by
 have hne:l≠[]:=by intro e;rw[e]at h;simp at h
 exact⟨l.dropLast,l.getLast hne,(List.dropLast_concat_getLast hne).symm⟩
theorem Ec{p:List α->Prop}(h0:p []) (h1:∀l x,p l->p (l++[x])) (l:List α):p l:=by
 have:∀m:List α,p m.reverse:=by
  intro m
  induction m with
  |nil=>exact h0
  |cons x m ih=>rw[List.reverse_cons];exact h1 _ _ ih
 have h:=this l.reverse
 rwa [List.reverse_reverse]at h
end
section
variable {α:Type}(lt:α->α->Bool)
def WS(x:α):List α->List α
 |[]=>[x]
 |y::ys=>if lt x y then y::WS x ys else x::y::ys
def BD(x:α) (s:List α):List α:=(WS lt x s.reverse).reverse
def AG(l:List α):List α:=l.foldl (λs x=>BD lt x s) []
theorem KR(x:α):BD lt x []=[x]:=rfl
theorem AH(x y:α) (s:List α):BD lt x (s++[y])=if lt x y then BD lt x s++[y]else s++[y,x]:=by
 unfold BD;rw[List.reverse_append];simp only[List.reverse_cons,List.reverse_nil,a6w,a6l,WS];split <;> simp
theorem xJ(l:List α) (x:α):AG lt (l++[x])=BD lt x (AG lt l):=by
 unfold AG;rw[a7Q];rfl
theorem Uz(x:α) (s:List α):(BD lt x s).length=s.length+1:=by
 have:∀t:List α,(WS lt x t).length=t.length+1:=by
  intro t
  induction t with
  |nil=>rfl
  |cons y t ih=>unfold WS;split <;> simp[ih]
 simp[BD,this]
theorem Qn:∀(l:List α),(AG lt l).length=l.length:=by
 intro l
 induction l using Ec with
 |h0=>rfl
 |h1 l x ih=>rw[xJ,Uz,ih];simp
theorem UA(x z:α) (s:List α):z∈BD lt x s↔z=x\/z∈s:=by
 have:∀t:List α,z∈WS lt x t↔z=x\/z∈t:=by
  intro t
  induction t with
  |nil=>simp[WS]
  |cons y t ih=>
   unfold WS;split
   ·simp only[a7l,ih];constructor
    ·rintro(h|h|h)
     ·exact .inr (.inl h)
     ·exact .inl h
     ·exact .inr (.inr h)
    ·rintro(h|h|h)
     ·exact .inr (.inl h)
     ·exact .inl h
     ·exact .inr (.inr h)
   ·simp only[a7l]
 simp[BD,this]
structure Swo:Prop where
 irr:∀a,lt a a=false
 asy:∀a b,lt a b=true->lt b a=false
 tr:∀a b c,lt a b=false->lt b c=false->lt a c=false
def WT(l:List α):Prop:=l.Pairwise λa b=>lt b a=false
def eqv(x y:α):Bool:= !lt x y && !lt y x
variable {lt}
theorem qx{x y:α}:eqv lt x y=true↔lt x y=false/\lt y x=false:=by simp[eqv]
theorem Swo.eqv_refl(h:Swo lt) (x:α):eqv lt x x=true:=qx.2 ⟨h.irr x,h.irr x⟩
theorem Swo.eqv_symm{x y:α}(e:eqv lt x y=true):eqv lt y x=true:=qx.2 ⟨(qx.1 e).2,(qx.1 e).1⟩
theorem Swo.eqv_trans(h:Swo lt){x y z:α}(e:eqv lt x y=true) (k:eqv lt y z=true):eqv lt x z=true:=
 qx.2 ⟨h.tr _ _ _ (qx.1 e).1 (qx.1 k).1,h.tr _ _ _ (qx.1 k).2 (qx.1 e).2⟩
def nV(l m:List α):Prop:=∀x,l.filter (eqv lt x)=m.filter (eqv lt x)
theorem nV.mem(h:Swo lt){l m:List α}(e:nV (lt:=lt) l m) {x:α} (hx:x∈l):x∈m:=by
 have h1:x∈l.filter (eqv lt x):=List.mem_filter.2 ⟨hx,h.eqv_refl x⟩;rw[e x]at h1;exact(List.mem_filter.1 h1).1
theorem nV.refl(l:List α):nV (lt:=lt) l l:=λ_=>rfl
theorem nV.symm{l m:List α}(e:nV (lt:=lt) l m):nV (lt:=lt) m l:=λx=>(e x).symm
theorem nV.trans{l m n:List α}(e:nV (lt:=lt) l m) (k:nV (lt:=lt) m n):nV (lt:=lt) l n:=λx=>(e x).trans (k x)
theorem nV.app{l m l' m':List α}(e:nV (lt:=lt) l m) (k:nV (lt:=lt) l' m'):nV (lt:=lt) (l++l') (m++m'):=λx=>by
 rw[a6W,a6W,e x,k x]
theorem nV.comm(h:Swo lt){A B:List α}(hlt:∀a∈A,∀b∈B,lt b a=true):nV (lt:=lt) (A++B) (B++A):=λx=>by
 rw[a6W,a6W];cases hA:A.filter (eqv lt x) with
 |nil=>simp
 |cons a tl=>
  cases hB:B.filter (eqv lt x) with
  |nil=>simp
  |cons b bs=>
   have ha:a∈A.filter (eqv lt x):=by rw[hA];simp
   have hb:b∈B.filter (eqv lt x):=by rw[hB];simp
   obtain⟨ha1,ha2⟩:=List.mem_filter.1 ha;obtain⟨hb1,hb2⟩:=List.mem_filter.1 hb;have:=h.eqv_trans (Swo.eqv_symm hb2) ha2;have h1:=hlt a ha1 b hb1;rw[(qx.1 this).1]at h1;cases h1
theorem UB(h:Swo lt) (x:α):∀{s:List α},WT lt s->WT lt (BD lt x s)/\nV (lt:=lt) (BD lt x s) (s++[x]):=by
 intro s
 induction s using Ec with
 |h0=>intro _;exact⟨by simp[KR,WT],nV.refl _⟩
 |h1 s y ih=>
  intro hs;unfold WT at hs;rw[a7F]at hs;obtain⟨h1,_,h3⟩:=hs;obtain⟨i1,i2⟩:=ih h1;rw[AH];split
  ·rename_i hxy;refine⟨?_,?_⟩
   ·unfold WT;rw[a7F];refine⟨i1,by simp,λa ha b hb=>?_⟩;simp only[a6b]at hb;subst hb;rcases(UA lt x a s).1 ha with rfl|ha
    ·exact h.asy _ _ hxy
    ·exact h3 a ha b (by simp)
   ·refine(i2.app (nV.refl [y])).trans ?_;rw[a50,a50];refine(nV.refl s).app ?_;have:=nV.comm h (A:=[y]) (B:=[x]) (by simpa using hxy);exact this.symm
  ·rename_i hxy;have hxy':lt x y=false:=by simpa using hxy
   refine⟨?_,by simpa using nV.refl _⟩;unfold WT;rw[a7F];refine⟨h1,by simpa using hxy',λa ha b hb=>?_⟩;simp only[a7l,a73,or_false]at hb;have hay:=h3 a ha y (by simp);rcases hb with rfl|rfl
   ·exact hay
   ·exact h.tr _ _ _ hxy' hay
theorem Ga(h:Swo lt):∀(l:List α),WT lt (AG lt l)/\nV (lt:=lt) (AG lt l) l:=by
 intro l
 induction l using Ec with
 |h0=>exact⟨by simp[AG,WT],nV.refl _⟩
 |h1 l x ih=>
  rw[xJ];obtain⟨h1,h2⟩:=UB h x ih.1;exact⟨h1,h2.trans (ih.2.app (nV.refl [x]))⟩
theorem Qo(h:Swo lt){l:List α}{x:α}:x∈AG lt l↔x∈l:=⟨λhx=>(Ga h l).2.mem h hx,λhx=>(Ga h l).2.symm.mem h hx⟩
end
section
variable {α:Type}{d:α}{cmp:α->α->Option Int}{c:α->α->Int}
def ltc(c:α->α->Int) (a b:α):Bool:=decide (c a b<0)
end
section
variable {α:Type}{lt:α->α->Bool}
end
section
variable {α:Type}{d:α}{cmp:α->α->Option Int}{c:α->α->Int}{rec:List α->Int->Int->Int->Option (List α)}
end
section
variable {α:Type}{d:α}{cmp:α->α->Option Int}{c:α->α->Int}
end
theorem iL:∀(x:List UInt8),Op.bytesLess x x=false
 |[]=>rfl
 |a::x=>by rw[Op.bytesLess,iL x];simp
theorem IS(a b:UInt8) (x y:List UInt8):Op.bytesLess (a::x) (b::y)=true↔a.toNat<b.toNat\/(a.toNat=b.toNat/\Op.bytesLess x y=true):=by
 rw[Op.bytesLess];simp only[a60,a5S,a5M,beq_iff_eq];rw[UInt8.lt_iff_toNat_lt,<-UInt8.toNat_inj]
theorem sd:∀{x y z:List UInt8},Op.bytesLess x y=true->Op.bytesLess y z=true->Op.bytesLess x z=true
 |x,[],z,h,_=>by cases x <;> cases h
 |x,_::_,[],_,h=>by cases h
 |[],_::_,_::_,_,_=>rfl
 |a::x,b::y,c::z,h,k=>by
  rw[IS]at h k⊢;rcases h with h|⟨h1,h2⟩ <;> rcases k with k|⟨k1,k2⟩
  ·left;omega
  ·left;omega
  ·left;omega
  ·right;exact⟨by omega,sd h2 k2⟩
theorem yx:∀(x y:List UInt8),Op.bytesLess x y=true\/x=y\/Op.bytesLess y x=true
 |[],[]=>.inr (.inl rfl)
 |[],_::_=>.inl rfl
 |_::_,[]=>.inr (.inr rfl)
 |a::x,b::y=>by
  rw[IS,IS];rcases a7P a.toNat b.toNat with h|h|h
  ·exact .inl (.inl h)
  ·rcases yx x y with k|k|k
   ·exact .inl (.inr ⟨h,k⟩)
   ·exact .inr (.inl (by rw[UInt8.toNat_inj.1 h,k]))
   ·exact .inr (.inr (.inr ⟨h.symm,k⟩))
  ·exact .inr (.inr (.inl h))
theorem zm{x y:List UInt8}(h:Op.bytesLess x y=true):Op.bytesLess y x=false:=by
 cases k:Op.bytesLess y x with
 |false=>rfl
 |true=>rw[sd h k |>.symm,iL]
def UF(x y:List UInt8):Int:=if Op.bytesLess x y=true then -1 else if Op.bytesLess y x=true then 1 else 0
theorem zn(x y:List UInt8):UF x y<0↔Op.bytesLess x y=true:=by unfold UF;split <;> (try split) <;> simp_all
theorem Qs(x y:List UInt8):UF x y=0↔x=y:=by
 unfold UF;split
 ·rename_i h;constructor
  ·intro e;cases e
  ·intro e;subst e;rw[iL]at h;cases h
 ·split
  ·rename_i h;constructor
   ·intro e;cases e
   ·intro e;subst e;rw[iL]at h;cases h
  ·rename_i h k;refine⟨λ_=>?_,λ_=>rfl⟩;rcases yx x y with e|e|e
   ·exact absurd e h
   ·exact e
   ·exact absurd e k
def Qv{α:Type}(eq:α->α->Bool):Prop:=∀a b,eq a b=true↔a=b
theorem Eh:Qv Bo:=λa b=>by simp[Bo]
section
variable {α β:Type}{eq:α->α->Bool}
theorem IU(p:α×β) (l:List (α×β)):sS (p::l)=p.1::sS l:=rfl
theorem vP(he:Qv eq) (k:α):∀l:List (α×β),(FD eq k l).isSome=true↔k∈sS l
 |[]=>by simp[FD,sS]
 |p::l=>by
  rw[IU,a7l,<-vP he k l,<-he];show(if eq k p.1=true then some 0 else(FD eq k l).map (· + 1)).isSome=true↔_
  by_cases h:eq k p.1=true <;> simp[h]
theorem Qw(he:Qv eq){k:α}{l:List (α×β)}(h:k∉sS l):FD eq k l=none:=by
 cases hm:FD eq k l with
 |none=>rfl
 |some i=>exact(h ((vP he k l).1 (by rw[hm];rfl))).elim
theorem UH(he:Qv eq){k:α}{v:β}{l:List (α×β)}(h:k∉sS l):WF eq k v l=l++[(k,v)]:=by
 unfold WF;rw[Qw he h]
end
end Go.Proofs.YtjbgdpjgfjnkbaaGreatDoor.Am
namespace Go.Proofs.YtjbgdpjgfjnkbaaGreatDoor.Am
open Go Go.Proofs
def UJ{α:Type}(cf:α->α->Int) (x y:α):Bool:=decide (cf x y<0)
def a25{α:Type}(d0:α) (cf:α->α->Int) (l:List α):List α:=
 haveI:Inhabited α:=⟨d0⟩
 (Sort.pdq (UJ cf) l.toArray 0 l.length (64) true true).toList
theorem Gj{α:Type}(d0:α) (cf:α->α->Int) (hO:haveI:Inhabited α:=⟨d0⟩;Sort.SWO (UJ cf)) (l:List α):(a25 d0 cf l).Perm l/\(a25 d0 cf l).Pairwise λx y=>UJ cf y x=false:=by
 letI:Inhabited α:=⟨d0⟩
 have h:=Sort.pdq_sorts (UJ cf) hO l.toArray 0 l.toArray.size (64) true true (a6p _) (a56 _) (Or.inl rfl);obtain⟨⟨h1,h2,h3⟩,h4⟩:=h;have e1:l.toArray.size=l.length:=a6U;have hs:a25 d0 cf l=(Sort.pdq (UJ cf) l.toArray 0 l.toArray.size (64) true true).toList:=by rw[e1];rfl
 rw[hs];generalize Sort.pdq (UJ cf) l.toArray 0 l.toArray.size (64) true true=d at h1 h2 h3 h4;constructor
 ·have e2:d.extract 0 l.toArray.size=d:=by rw[<-h1,Array.extract_size]
  rw[e2,Array.extract_size]at h3;exact h3
 ·rw[List.pairwise_iff_getElem];intro i j hi hj hij;have hj':j<d.size:=by simpa using hj
  have hi':i<d.size:=by simpa using hi
  have:=h4 i j (a6p _) hij (by rw[<-h1];exact hj')
  rwa [getElem!_pos d j hj',getElem!_pos d i hi']at this
end Go.Proofs.YtjbgdpjgfjnkbaaGreatDoor.Am
