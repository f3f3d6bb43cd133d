/- Texts laid together: Base, Row, TmRow, DeLay, Decode. No conditions. -/
import Derived.WalkKit
import Derived.WalkSpells
import Derived.WalkLawsBesides
import Derived.Lib.Hide
import Derived.BigQuiet
import Derived.Deep.QuietTactic
import Derived.Deep.AppendLies
import Derived.Deep.Draws
import Derived.Maps.AppendAt
import Derived.Deep.DeepFit
import Derived.Deep.RegionHeld3
import Derived.Lib.SlBytesConst
import Derived.Laws.BytesArg
import Derived.Laws.BitsAllLaws
import Derived.ProofKit
import Derived.JoinedCond
import Derived.Deep.Slices
import Derived.Deep.Fields
import Derived.Lib.SmallJoins
import Derived.Test.YtjbgdpjgfjnkbaaGreatDoorRows
import Derived.Test.YtjbgdpjgfjnkbaaGreatDoorKD
import Derived.SizedLaws
import Derived.Shelf.Unicode.DecodeAny
import Derived.Ground.NamesProg
import Derived.Test.YtjbgdpjgfjnkbaaGreatDoorProg
namespace Go.Proofs.YtjbgdpjgfjnkbaaGreatDoor
open Go.RowKit
theorem mH (a:Addr) (n:Nat):(a.add n).block=a.block:=by unfold Addr.add;split <;> rfl
theorem add_add (a:Addr) (i j:Nat):(a.add i).add j=a.add (i + j):=by
 unfold Addr.add;by_cases hi:i=0 <;> by_cases hj:j=0 <;> simp [hi,hj,Nat.add_assoc]
theorem add_zero (a:Addr):a.add 0=a:=by simp [Addr.add]
def a2k (S:Nat->Prop) (w w':World):Prop:=∀ b,S b->b < w.heap.size->w'.heap[b]?=w.heap[b]?
structure Rep (α:Type) where
 sz:Nat
 At:World->(Nat->Prop)->List Value->α->Prop
 len:∀ {w S cs a},At w S cs a->cs.length=sz
 keep:∀ {w w' S cs a},At w S cs a->a2k S w w'->At w' S cs a
 mono:∀ {w S S' cs a},At w S cs a->(∀ b,S b->b < w.heap.size->S' b)->At w S' cs a
def Rep.all {α:Type} (R:Rep α) (w:World) (S:Nat->Prop):List Value->List α->Prop
 | xs,[]=>xs=[]
 | xs,a :: l=>∃ c r,xs=c ++ r/\R.At w S c a/\R.all w S r l
section
variable {α:Type} {R:Rep α} {w w':World} {S S':Nat->Prop}
end
section
variable {α:Type} {R:Rep α} {w w':World} {S S':Nat->Prop} {A:Option Addr} {n c:Nat} {l:List α}
end
structure Own {α:Type} (R:Rep α) (e:TypeId) (w:World) (base:Nat) (S:Nat->Prop) (v:Value) (n:Nat) (l:List α):Prop where
 len:n=l.length
 apart:∀ k,v.ownBlock=some k->¬ S k
 ex:∃ xs:List Value,w.ownsRow base e R.sz v n xs/\R.all w S xs l
section
variable {α:Type} {R:Rep α} {e:TypeId} {w w':World} {base:Nat} {S S':Nat->Prop} {v:Value} {n:Nat} {l:List α}
end
section
variable {P:Program} {α:Type} {R:Rep α} {t e:TypeId} {by_:Nat}
end
def U64:Nat:=18446744073709551616
section
variable {P:Program} {α:Type} {R:Rep α} {t e:TypeId} {by_:Nat}
end
section
variable {w w':World} {g:Nat} {t:TypeId} {cs:List Value}
end
section
variable {α:Type} {R:Rep α} {e:TypeId} {w w':World} {base:Nat} {v:Value} {n:Nat} {l:List α}
end
section
variable {P:Program} {α:Type} {R:Rep α} {t e:TypeId} {by_:Nat}
end
theorem ZS (t:Nat) (h:t < U64):bits .and .u64 (t:Int) 7=(t:Int) % 8:=by
 have:=u64_and_nat t 7 (by unfold U64 at h;exact h) (by omega);rw [nat_mask3] at this;rw [show((7:Int)=((7:Nat):Int)) from rfl,this];omega
section
variable {P:Program} {α:Type} {R:Rep α} {t e:TypeId} {by_:Nat} {w:World} {S:Nat->Prop} {A:Option Addr} {n c:Nat} {l:List α}
end
end Go.Proofs.YtjbgdpjgfjnkbaaGreatDoor
namespace Go.Proofs.YtjbgdpjgfjnkbaaGreatDoor
open Go.ChangeShapes Go.WideShapes Go.ChangeAt Go.RowKit Go.ChangeMaps
section
variable {H:Type} {enc:TypeId × Value->H} {P:Program}
theorem Below.trodAll (hl:laidOutB P=true) {W W':World} (hb:Below W.heap.size W W'):∀ {ts:List TypeId} {vs:List Value} {ds:List (DataW H)} {ps:List MemPlace},
  (ts.all λt=>P.readableRec t && decide (t < P.types.size))=true->DataW.TrodAll enc P W 0 (λ_=>true) true ts vs ds ps->(∀ x ∈ ps,x.block < W.heap.size)->
  DataW.TrodAll enc P W' 0 (λb=>decide (b < W.heap.size)) true ts vs ds ps
 | [],[],[],_,_,h,_=>h
 | t :: ts,v :: vs,d :: ds,ps,hr,h,hlt=>by
  obtain⟨p,q,h1,h2,rfl⟩:=h;simp only [List.all_cons,Bool.and_eq_true,decide_eq_true_eq] at hr;exact⟨p,q,Below.trod hl hr.1.1 hr.1.2 h1 hb (λx hx=>hlt x (by simp [hx])),Below.trodAll hl hb (by simpa using hr.2) h2 (λx hx=>hlt x (by simp [hx])),rfl⟩
theorem uz (hl:laidOutB P=true) {f:Func} (hrd:(f.params.toList.all λt=>P.readableRec t && decide (t < P.types.size))=true) {tb:TypeId} (hres:f.resultTypes= #[tb]) (hub:P.underlying tb=some .bool)
  {s:ChangeSpec} {W W':World} {args:Array Value} {ds gs:List (DataW H)} {before:List MemPlace} (hv:s.vars=[]) (hW:DataW.Whole enc P f.params.toList s.vars false W args.toList ds gs before)
  (hfn:s.fn H ds={results:=[.lit (.bool true)],args:=ds}) (hb:Below W.heap.size W W') :
  s.post enc P f false true false false W args (.bool true) W':=by
 have hW':=hW;obtain⟨p,q,hA,hV,rfl,hfz,hnd⟩:=hW;rw [hv] at hV;obtain⟨rfl,rfl⟩:=trodVars_none hV;have hlt:∀ x ∈ p ++ [],x.block < W.heap.size:=λx hx=>hW'.lt x hx;refine⟨ds,[],p ++ [],[],p,[],hW',?_,?_,?_,World.keptBut_mono (λx hx=>⟨hx,?_⟩) (hb.frame (· ∈ p ++ [])),λh=>by cases h⟩
 ·rw [List.append_nil,hfn,hres];exact trodAll_mk1 (shut_bool hub true)
 ·rw [List.append_nil,hfn];exact Below.trodAll hl hb hrd hA (λx hx=>hlt x (by simpa using hx))
 ·rw [hv,List.append_nil,hfn];rfl
 ·right;simpa using hx
theorem PQ (l r:List (DataW H)):Rows.uptoBulkAll (l ++ r)=Rows.uptoBulkAll l + Rows.uptoBulkAll r:=by
 induction l with
 | nil=>simp [Rows.uptoBulkAll]
 | cons x l ih=>simp only [List.cons_append,Rows.uptoBulkAll,ih];omega
end
end Go.Proofs.YtjbgdpjgfjnkbaaGreatDoor
namespace Go.Proofs.YtjbgdpjgfjnkbaaGreatDoor.Am
open Go Go.ChangeShapes Go.WideShapes Go.ChangeAt Go.RowKit Go.ChangeMaps
def inK (k:IntKind) (n:Int):Prop:=k.min<=n/\n<=k.max
def a0c {α:Type} (p:α->Prop) (l:List α):Prop:=∀ x ∈ l,p x
def wfU:(u:U)->u.den->Prop
 | .int k,n=>inK k n
 | .byte,_=>True
 | .bool,_=>True
 | .str,l=>List.length l<=maxLen
 | .sl u,l=>List.length l<=maxLen/\a0c (wfU u) l
 | .pr a b,x=>wfU a x.1/\wfU b x.2
 | .arr _ u,v=>a0c (wfU u) (Vector.toList v)
def wtU:(u:U)->u.den->Nat
 | .int _,_=>1
 | .byte,_=>1
 | .bool,_=>1
 | .str,l=>List.length l + 1
 | .sl u,l=>(List.map (wtU u) l).sum + 1
 | .pr a b,x=>wtU a x.1 + wtU b x.2
 | .arr _ u,v=>(List.map (wtU u) (Vector.toList v)).sum
def WM:U->Nat
 | .int k=>k.bits / 8
 | .byte=>1
 | .bool=>1
 | .str=>16
 | .sl _=>24
 | .pr a b=>WM a + WM b
 | .arr n u=>n * WM u
def szU:(u:U)->u.den->Prop
 | .int _,_=>True
 | .byte,_=>True
 | .bool,_=>True
 | .str,l=>List.length l<=reachBytes
 | .sl u,l=>List.length l * WM u<=reachBytes/\a0c (szU u) l
 | .pr a b,x=>szU a x.1/\szU b x.2
 | .arr _ u,v=>a0c (szU u) (Vector.toList v)
def InR (ns:List Nat):Prop:=ns.all (· <=reachBytes)=true
theorem InR.app {a b:List Nat} (h:InR (a ++ b)):InR a/\InR b:=by
 unfold InR at *
 rw [List.all_append,a24] at h;exact h
section
variable {H:Type} (enc:TypeId × Value->H) (P:Program) (W:World)
def Old (b _o:Nat):Prop:=b < W.heap.size
def Rd' (t:TypeId) (u:U):Prop:=∀ (fuel:Nat) (cs:List Value) (y:DataW H × List MemPlace),DataW.trod enc P W 0 (λ_=>true) true fuel t cs=some y->∃ x:u.den,aU (Old W) W (u.enc x) cs/\wfU u x/\wtU u x<=Rows.uptoBulk y.1/\(InR (y.1.weights P t)->szU u x)
end
section
variable {H:Type} {enc:TypeId × Value->H} {P:Program} {W:World}
theorem dv1 {I:Nat->Nat->Prop} {v:Value} (h:v.oneCell'=true):aU I W [.v v] [v]:=by
 simp only [aU];exact⟨v,[],rfl,⟨rfl,h⟩,rfl⟩
theorem Rd'.int {t:TypeId} {k:IntKind} (ht:P.underlying t=some (.int k)):Rd' enc P W t (.int k):=by
 intro fuel cs y h;obtain⟨n,rfl,rfl,hw⟩:=DataW.trod_int ht h;refine⟨n,dv1 rfl,?_,?_⟩
 ·show inK k n;simpa [inK,Lit.wf] using hw
 ·exact⟨by simp [Rows.uptoBulk,wtU],λ_=>trivial⟩
theorem Rd'.byte {t:TypeId} (ht:P.underlying t=some (.int .u8)):Rd' enc P W t .byte:=by
 intro fuel cs y h;obtain⟨n,rfl,rfl,hw⟩:=DataW.trod_int ht h;simp [Lit.wf,IntKind.min,IntKind.max,IntKind.signed,IntKind.bits] at hw;refine⟨UInt8.ofNat n.toNat,?_,trivial,?_⟩
 ·have e:((UInt8.toNat (UInt8.ofNat n.toNat):Nat):Int)=n:=ofNat_toNat hw.1 (by omega);have:U.byte.enc (UInt8.ofNat n.toNat)=[DV.v (.int .u8 n)]:=congrArg (λm:Int=>[DV.v (.int .u8 m)]) e;rw [this];exact dv1 rfl
 ·exact⟨by simp [Rows.uptoBulk,wtU],λ_=>trivial⟩
theorem Nx (l r:List (DataW H)):Rows.uptoBulkAll (l ++ r)=Rows.uptoBulkAll l + Rows.uptoBulkAll r:=PQ l r
theorem Ny {e:TypeId}:∀ {l:List (DataW H)},InR (DataW.weightsAll P e l)->∀ d ∈ l,InR (d.weights P e)
 | d :: l,h,x,hx=>by
  simp only [DataW.weightsAll] at h;rcases List.mem_cons.1 hx with rfl | hx
  ·exact h.app.1
  ·exact Ny h.app.2 x hx
theorem TY {u:U} {e:TypeId} (a:Addr) (D:Nat->DataW H):∀ len:Nat,
  (∀ i,i < len->∃ cs,cs.length=u.size/\(∀ j,j < u.size->W.cell? ((a.add (i * u.size)).add j)=cs[j]?)/\∃ x:u.den,aU (Old W) W (u.enc x) cs/\wfU u x/\wtU u x<=Rows.uptoBulk (D i)/\(InR ((D i).weights P e)->szU u x))->
  ∃ (xs:List Value) (l:List u.den),l.length=len/\xs.length=len * u.size/\(∀ j v,xs[j]?=some v->W.cell? (a.add j)=some v)/\U3 (Old W) W (l.map u.enc) xs/\(∀ x ∈ l,wfU u x)/\(l.map (wtU u)).sum<=Rows.uptoBulkAll ((List.range len).map D)/\((∀ i,i < len->InR ((D i).weights P e))->∀ x ∈ l,szU u x)
 | 0,_=>⟨[],[],rfl,by simp,by simp,rfl,by simp,by simp,by simp⟩
 | len + 1,h=>by
  obtain⟨xs,l,h1,h2,h3,h4,h6,h5,h7⟩:=TY a D len (λi hi=>h i (by omega));obtain⟨cs,hc,hj,x,hx,hf,hw,hz⟩:=h len (by omega);refine⟨xs ++ cs,l ++ [x],by simp [h1],by rw [a2V,h2,hc,a3D],?_,?_,?_,?_,?_⟩
  ·intro j v hv;rcases a3O j xs.length with hl | hl
   ·rw [List.getElem?_append_left hl] at hv;exact h3 j v hv
   ·rw [List.getElem?_append_right hl] at hv;have hlt:j - xs.length < cs.length:=by
     rcases a3O (j - xs.length) cs.length with h | h
     ·exact h
     ·rw [List.getElem?_eq_none h] at hv;cases hv
    have:=hj (j - xs.length) (by omega);rw [Am.add_add,<-h2,show xs.length + (j - xs.length)=j from by omega] at this;rw [this];exact hv
  ·rw [a3g];exact h4.app ⟨cs,[],by simp,hx,rfl⟩
  ·intro y hy;rcases List.mem_append.1 hy with hy | hy
   ·exact h6 y hy
   ·simp only [a3o] at hy;subst hy;exact hf
  ·rw [List.range_succ,a3g,a3g,Nx,a4k];simp [Rows.uptoBulkAll];omega
  ·intro hi y hy;rcases List.mem_append.1 hy with hy | hy
   ·exact h7 (λi hlt=>hi i (by omega)) y hy
   ·simp only [a3o] at hy;subst hy;exact hz (hi len (by omega))
theorem Rd'.sl {u:U} {t e:TypeId} (ht:P.underlying t=some (.slice e)) (hc:P.cellsOf e=u.size) (hz:0 < u.size) (hby:WM u<=P.bytesOf e) (h:Rd' enc P W e u):Rd' enc P W t (.sl u):=by
 intro fuel cs y hy;rcases Go.Deep.open_slice ht hy with⟨rfl,rfl⟩ | ⟨a,len,cap,m,n,D,Pl,rfl,_,hl,hm,hmm,rfl,hx⟩
 ·refine⟨([]:List u.den),?_,?_,?_⟩
  ·show aU (Old W) W [.sl []] [.slice none 0 0];refine⟨_,[],rfl,⟨none,0,1,[],rfl,a3j _,by simp [maxLen],by omega,by simp,λh0=>?_,rfl⟩,rfl⟩;simp at h0
  ·exact⟨by show(0:Nat)<=maxLen;exact a3B _,λx hx=>by cases hx⟩
  ·refine⟨?_,λ_=>⟨by show 0 * WM u<=reachBytes;omega,λx hx=>by cases hx⟩⟩;show(List.map (wtU u) ([]:List u.den)).sum + 1<=_;simp [Rows.uptoBulk]
 ·simp only [a3H] at hmm;subst hmm;obtain⟨xs,l,h1,h2,h3,h4,h6,h5,h7⟩:=TY (P:=P) (e:=e) (u:=u) a D len (λi hi=>by
   obtain⟨cs,hcs,hyi⟩:=hx i (by omega);obtain⟨_,hcl,hat⟩:=World.cells?_some hcs;rw [hc] at hcl hat
   obtain⟨x,hx1,hx2,hx3,hx4⟩:=h _ _ _ hyi;exact⟨cs,hcl,λj hj=>hat j hj,x,hx1,hx2,hx3,hx4⟩)
  refine⟨l,?_,⟨by rw [h1];exact a3w hl hm,h6⟩,?_⟩
  ·show aU (Old W) W [.sl (l.map u.enc)] [.slice (some a) len m];have hlen:(l.map u.enc).length=len:=by rw [a3d,h1]
   refine⟨_,[],rfl,⟨some a,m,u.size,xs,by rw [hlen],by rw [hlen];exact hl,hm,hz,λe he=>?_,λh0=>⟨a,rfl,λj v hv=>⟨h3 j v hv,?_⟩⟩,h4⟩,rfl⟩
   ·obtain⟨x,_,rfl⟩:=List.mem_map.1 he;exact u.enc_len x
   ·have:=block_lt_of_cell (h3 j v hv);rw [mH] at this;exact this
  ·refine⟨?_,λhr=>?_⟩
   ·show(List.map (wtU u) l).sum + 1<=_;simp only [Rows.uptoBulk];omega
   ·simp only [DataW.weights,ht] at hr;have hr':=InR.app (a:=[_]) hr;have hr2:=hr'.2.app;refine⟨?_,h7 λi hi=>Ny hr2.1 _ (List.mem_map.2 ⟨i,List.mem_range.2 hi,rfl⟩)⟩;have h0:=hr'.1;simp only [InR,a34,List.all_nil,a4i,a2W,a3d,List.length_range] at h0;rw [h1];refine a3w (a42 (Nat.le_add_right len _) hby) h0
theorem oQ {u:U} {t:TypeId} {v:Value} {d:DataW H} {p:List MemPlace} (hs:u.size=1) (h:Rd' enc P W t u) (hv:v.cells.toList=[v]) (ht:DataW.Trod enc P W 0 (λ_=>true) true t v d p) :
  ∃ x:u.den,OAr (Old W) W (AT.oa (.c (.d u)) x) v []/\wfU u x/\wtU u x<=Rows.uptoBulk d/\(InR (d.weights P t)->szU u x):=by
 obtain⟨fuel,hf⟩:=ht;obtain⟨x,h1,h2,h3,h4⟩:=h _ _ _ hf;refine⟨x,?_,h2,h3,h4⟩;rw [hv] at h1;have hl:=u.enc_len x;rw [hs] at hl
 match he:u.enc x,hl with
 | [c],_=>
  rw [he] at h1;simp only [aU] at h1;obtain⟨y,r,e,h6,h5⟩:=h1;injection e with e1 e2;subst e1;show OAr (Old W) W (.c (Kh ((u.enc x).map .d))) v [];rw [he];exact⟨rfl,by assumption⟩
theorem tC {b0:Nat} {t:TypeId} {v:Value} (ht:(∃ k,P.underlying t=some (.int k))\/P.underlying t=some .bool\/P.underlying t=some .string\/∃ e,P.underlying t=some (.slice e)) (hv:Value.okWide P W .any b0 t v):v.cells.toList=[v]:=by
 rcases ht with⟨k,ht⟩ | ht | ht | ⟨e,ht⟩ <;> (simp only [Value.okWide,ht,Cell.okWide] at hv;cases v <;> simp_all [Cell.ok,Value.cells])
theorem tD {ts:List TypeId} {ds:List (DataW H)} (h:(DataW.weightsEach P ts ds).all (· <=reachBytes)=true) {j:Nat} {t:TypeId} {d:DataW H} (ht:ts[j]?=some t) (hd:ds[j]?=some d):InR (d.weights P t):=by
 unfold InR;rw [a4f];exact λn hn=>List.all_eq_true.1 h n (DataW.weights_mem_each ht hd n hn)
theorem yu:OAs (Old W) W [] [] []:=⟨rfl,rfl⟩
theorem mt {x:OA} {v:Value} {xs:List OA} {vs:List Value} (h:OAr (Old W) W x v []) (k:OAs (Old W) W xs vs []):OAs (Old W) W (x :: xs) (v :: vs) []:=⟨v,vs,[],[],rfl,h,k,rfl⟩
theorem va {f:FuncId} {S:TFn} (hS:FnT P f S) (_hres:S.res= .cons (.c (.d .bool)) .nil) (args:Array Value) (a:S.args.den) (hgl:Tj (Old W) W) (hargs:OAs (Old W) W (S.args.oas a) args.toList []) {r:S.R} (hr:S.G a=some r) (ht:S.res.oas (S.out r).2=[.c (.d (.v (.bool true)))]) :
  Calls P f args W λe W'=>e= .returned (.bool true)/\Below W.heap.size W W':=by
 refine(hS.ok.calls W (Old W) [] args (S.args.oas a) (λb o h=>h) hgl hargs a4j ⟨a,r,rfl,hr⟩).mono λe W' h=>?_;cases e with
 | returned v=>
  obtain⟨I',vs,Fp,Fr',rfl,R⟩:=h;have h1:=R.res;rw [TFn.res_of hS.args hr,ht] at h1;simp only [OAs] at h1;obtain⟨x,rs,F1,F2,rfl,h2,⟨rfl,_⟩,_⟩:=h1;obtain⟨_,h3,_⟩:=h2;subst h3;exact⟨rfl,⟨R.fr.os,R.fr.tape,R.fr.output,R.fr.size,λk hk=>R.fr.block k hk (by simp)⟩⟩
 | panicked c=>exact h.elim
 | _=>exact h.elim
end
end Go.Proofs.YtjbgdpjgfjnkbaaGreatDoor.Am
namespace Go.Proofs
open Go.Shelf
def Tryz.decode_ren:Go.Shelf.Ren:=⟨fun | 197=>257 | 260=>273 | n=>n,fun | 9=>9 | 21=>21 | 3=>3 | 4=>4 | 5=>5 | 105=>305 | 119=>319 | 0=>0 | 46=>195 | 139=>322 | 138=>321 | n=>n,fun | 3=>2 | 4=>3 | n=>n⟩
theorem Tryz.decode:Go.Proofs.Lays.n197 Tryz.prog Tryz.decode_ren:={
 mixed:=by kernel_rfl
 f197:=Tryz.func257.trans (congrArg some (by kernel_rfl))
 f260:=Tryz.func273.trans (congrArg some (by kernel_rfl))
 t0:=Tryz.underlying0
 a0:=Tryz.isAgg0
 z0:=Tryz.sizeOf0
 v0:=Tryz.zeroValue0
 t3:=Tryz.underlying3
 a3:=Tryz.isAgg3
 z3:=Tryz.sizeOf3
 v3:=Tryz.zeroValue3
 t4:=Tryz.underlying4
 a4:=Tryz.isAgg4
 z4:=Tryz.sizeOf4
 v4:=Tryz.zeroValue4
 t5:=Tryz.underlying5
 a5:=Tryz.isAgg5
 z5:=Tryz.sizeOf5
 v5:=Tryz.zeroValue5
 t9:=Tryz.underlying9
 a9:=Tryz.isAgg9
 z9:=Tryz.sizeOf9
 v9:=Tryz.zeroValue9
 t21:=Tryz.underlying21
 a21:=Tryz.isAgg21
 z21:=Tryz.sizeOf21
 v21:=Tryz.zeroValue21
 t46:=Tryz.underlying195
 a46:=Tryz.isAgg195
 z46:=Tryz.sizeOf195
 v46:=Tryz.zeroValue195
 t105:=Tryz.underlying305
 a105:=Tryz.isAgg305
 z105:=Tryz.sizeOf305
 v105:=Tryz.zeroValue305
 t119:=Tryz.underlying319
 a119:=Tryz.isAgg319
 z119:=Tryz.sizeOf319
 t138:=Tryz.underlying321
 a138:=Tryz.isAgg321
 z138:=Tryz.sizeOf321
 v138:=Tryz.zeroValue321
 t139:=Tryz.underlying322
 a139:=Tryz.isAgg322
 z139:=Tryz.sizeOf322
 v139:=Tryz.zeroValue322
 g3:=by kernel_rfl
 g4:=by kernel_rfl}
end Go.Proofs
namespace Go.Proofs.YtjbgdpjgfjnkbaaGreatDoor.Am
open Go Go.Proofs Go.RowKit
def N7 (a0:List UInt8):Option (Int × Int):=some (((Lib.decodeGo ⟨a0.toArray⟩).1:Nat),((Lib.decodeGo ⟨a0.toArray⟩).2:Nat))
def J6:TFn:=⟨.cons (.c (.d .str)) .nil,.nil,.cons (.c (.d (.int .i32))) (.cons (.c (.d (.int .i64))) .nil),Int × Int,λa=>N7 a.1,λr=>((),(r.1,(r.2,()))),.none⟩
theorem DA {I:Nat->Nat->Prop} {w:World} (h:Tj I w):Lib.Utf8Tabs 2 3 w:=by
 refine⟨λc hc=>(h 2 c _ (by simp [GT,hc])).1,λi hi=>⟨?_,?_⟩⟩
 ·have:=(h 3 (2 * i) (.int .u8 (Lib.accLo i)) (by
   have h1:2 * i < 32:=by omega
   have h2:2 * i % 2=0:=by omega
   have h3:2 * i / 2=i:=by omega
   simp [GT,h1])).1
  exact this
 ·have:=(h 3 (2 * i + 1) (.int .u8 (Lib.accHi i)) (by
   have h1:2 * i + 1 < 32:=by omega
   have h2:¬ (2 * i + 1) % 2=0:=by omega
   have h3:(2 * i + 1) / 2=i:=by omega
   simp [GT,h1,h3])).1
  exact this
theorem kS:FnT Tryz.prog 257 J6:=
 ⟨rfl,rfl,⟨trivial,⟨_,Tryz.func257,rfl,rfl⟩,λw I F args xs hIn hgl hargs hF hp=>by
  obtain⟨a,r,rfl,hr⟩:=hp
  replace hargs:OAs I w [.c (.d (.v (.string ⟨a.1.toArray⟩)))] args.toList F:=hargs
  simp only [OAs,OAr,OCr,DVr] at hargs;obtain⟨x,r1,F1,F2,e1,⟨rfl,rfl,_⟩,⟨rfl,rfl⟩,rfl⟩:=hargs;have ha:args= #[.string ⟨a.1.toArray⟩]:=by
   cases args;simp only at e1;subst e1;rfl
  subst ha;have hc:=Any.utf8_DecodeRuneInString Tryz.decode ⟨a.1.toArray⟩ w (DA hgl);refine Calls.mono (show Calls Tryz.prog 257 _ _ _ from hc) λe w' h=>?_;obtain⟨rfl,hb⟩:=h;refine⟨I,[.int .i32 (Lib.decodeGo ⟨a.1.toArray⟩).1,.int .i64 (Lib.decodeGo ⟨a.1.toArray⟩).2],[],[],rfl,?_⟩;refine⟨⟨hb.os,hb.tape,hb.output,hb.size,λk hk _=>hb.block k hk⟩,λ_ _ h=>h,λb o hi=>World.cell?_of_block (a:=⟨b,o,none⟩) (hb.block b (hIn b o hi)),λ_ _ h=> .inl h,λb o hi=>a3U (hIn b o hi) hb.size,?_,?_,by simp,by simp⟩
  ·have e1:(J6.spec.post (J6.args.oas a))=[]:=by
    rw [TFn.post_of rfl hr];rfl
   rw [e1];exact⟨rfl,rfl⟩
  ·have e1:(J6.spec.res (J6.args.oas a))=[.c (.d (.v (.int .i32 r.1))),.c (.d (.v (.int .i64 r.2)))]:=by
    rw [TFn.res_of rfl hr];rfl
   rw [e1];injection hr with hr;rw [<-hr];simp only [OAs,OAr,OCr,DVr];exact⟨_,_,[],[],rfl,⟨rfl,rfl,rfl⟩,⟨_,_,[],[],rfl,⟨rfl,rfl,rfl⟩,⟨rfl,rfl⟩,rfl⟩,rfl⟩⟩⟩
end Go.Proofs.YtjbgdpjgfjnkbaaGreatDoor.Am
