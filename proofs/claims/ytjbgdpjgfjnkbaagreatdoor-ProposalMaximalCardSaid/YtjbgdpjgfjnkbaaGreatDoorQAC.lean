/- slices.Insert of one account into a slice of the call's own. No conditions. -/
import Derived.Test.YtjbgdpjgfjnkbaaGreatDoorQAB
import Derived.Test.YtjbgdpjgfjnkbaaGreatDoorQAA
import Derived.Shelf.Spec.SlicesInsertGrow
import Derived.Laws.IdiomCopy
import Derived.Laws.CopyRow
import Derived.Maps.RangeWalk
namespace Go.Proofs.YtjbgdpjgfjnkbaaGreatDoor.Am
open Go Go.Proofs Go.RowKit
theorem nG {P:Program} (w:World) (dT sT ty elem:TypeId) (g o dLen dCap:Nat) (a:Addr) (sLen sCap:Nat) (cur:Array Value) (t:TypeId) (cs:List Value) (z:Nat)
  (hu:P.underlying dT=some (.slice elem)) (hs:(P.info? elem).map (·.size)=some z)
  (hg:w.heap[g]?=some (.cells cur t (0,0))) (hn:cs.length=Nat.min sLen dLen * z)
  (hsrc:∀ j v,cs[j]?=some v->w.cell? (a.add j)=some v) (hfit:o + cs.length<=cur.size) (h1:∀ v ∈ cs,v.oneCell'=true) :
  (Builtin.copy_ #[dT,sT] ty #[.slice (some ⟨g,o,none⟩) dLen dCap,.slice (some a) sLen sCap]).run P w =
   .ok (goInt (Nat.min sLen dLen)) (w.setRow g (cur.toList.take o ++ cs ++ cur.toList.drop (o + cs.length)).toArray):=by
 have hl:=run_loadCells_list (P:=P) w a cs hsrc;have hst:=run_storeCells_at P g o t cs 0 cur w hg (by simpa using hfit) h1;cases hq:P.info? elem with
 | none=>simp [hq] at hs
 | some i=>
  have hi:i.size=z:=by simpa [hq] using hs
  simp [Builtin.copy_,run_underlying hu,Builtin.lenOf,Builtin.firstCells,sizeOf,typeInfo,hq,hi,<-hn,hl,hst]
def XA {u:U} (l:List u.den):List Value:=l.flatMap u.encV
section
variable {u:U}
theorem lG (hz:u.size=3) (l:List u.den):(XA l).length=l.length * 3:=tN _ 3 l λa _=>(u.encV_len a).trans hz
theorem yw (l m:List u.den):XA (l ++ m)=XA l ++ XA m:=a4F
theorem Nz (hz:u.size=3) (l:List u.den) (i:Nat) (h:i<=l.length):(XA l).take (i * 3)=XA (l.take i):=by
 have e:XA l=XA (l.take i) ++ XA (l.drop i):=by rw [<-yw,a3q]
 have hl:(XA (l.take i)).length=i * 3:=by rw [lG hz,a26];omega
 rw [e,<-hl,a3Q]
theorem NA (hz:u.size=3) (l:List u.den) (i:Nat) (h:i<=l.length):(XA l).drop (i * 3)=XA (l.drop i):=by
 have e:XA l=XA (l.take i) ++ XA (l.drop i):=by rw [<-yw,a3q]
 have hl:(XA (l.take i)).length=i * 3:=by rw [lG hz,a26];omega
 rw [e,<-hl,a3F]
theorem Ij (l:List u.den):∀ v ∈ XA l,v.oneCell'=true:=λv hv=>by
 obtain⟨a,_,h⟩:=List.mem_flatMap.1 hv;exact u.encV_one a v h
theorem Rx {I:Nat->Nat->Prop} {w:World} (hu:u.flat=true):∀ {l:List u.den} {xs:List Value},U3 I w (l.map u.enc) xs->xs=XA l
 | [],xs,h=>h
 | a :: l,xs,h=>by
  simp only [a3h,U3] at h;obtain⟨c,r,rfl,h1,h2⟩:=h;rw [u.encV_of hu a h1,Rx hu h2];rfl
theorem Vx {I:Nat->Nat->Prop} {w:World} (hu:u.flat=true):∀ (l:List u.den),U3 I w (l.map u.enc) (XA l)
 | []=>rfl
 | a :: l=>by
  simp only [a3h,U3];exact⟨u.encV a,XA l,rfl,u.encV_to hu a,Vx hu l⟩
def tX (w:World) (v:Value) (l:List u.den) (e:Ending) (w':World):Prop:=∃ v',e= .returned v'/\w'.ownsRow 0 96 3 v' l.length (XA l)/\((v'.ownBlock=v.ownBlock/\w.grownBy w' v.ownBlock)\/(w.grownBy w' none/\v'.ownBlock=some w.heap.size))
set_option maxHeartbeats 4000000 in
set_option maxRecDepth 100000 in
theorem NB (hu:u.flat=true) (hz:u.size=3) {w:World} {l:List u.den} {a:u.den} {A:Option Addr} {n c vb vc:Nat} (hn:l.length=n) (how:w.ownsRow 0 96 3 (.slice A n c) n (XA l)) (hv:w.ownsRow 0 96 3 (.slice (some ⟨vb,0,none⟩) 1 vc) 1 (XA [a])) (hb:(n + 1) * 32<=140737488355328) :
  Calls Tryz.prog 191 #[.slice A n c,.int .i64 n,.slice (some ⟨vb,0,none⟩) 1 vc] w (tX w (.slice A n c) (l ++ [a])):=by
 obtain⟨v',w',yc,hrun,ho,hd,halt⟩:∃ v' w' yc,(∀ ty,(Builtin.append_ #[28,28] ty #[.slice A n c,.slice (some ⟨vb,0,none⟩) 1 vc]).run Tryz.prog w= .ok v' w')/\w'.ownsRow 0 96 3 v' (n + 1) (XA l ++ yc)/\U3 (λ_ _=>True) w ([a].map u.enc) yc/\
   ((v'.ownBlock=(Value.slice A n c).ownBlock/\w.grownBy w' (Value.slice A n c).ownBlock)\/(w.grownBy w' none/\v'.ownBlock=some w.heap.size)):=by
  have hd:DVr (λ_ _=>True) w (.sl ([a].map u.enc)) (.slice (some ⟨vb,0,none⟩) 1 vc):=row_dv (I:=λ_ _=>True) (R:=⟨[a].map u.enc,3,96,false⟩) ⟨(by decide:0 < 3),λe he=>by obtain⟨x,_,rfl⟩:=List.mem_map.1 he;exact(u.enc_len x).trans hz,.inl ⟨(by decide:96 < ja),XA [a],hv,Vx hu _⟩⟩ (by decide:96 < ja);obtain⟨v',w',yc,h1,h2,h3,h4⟩:=ER (P:=Tryz.prog) Kr (by decide) Tryz.underlying28 0 how hd (λe he=>by obtain⟨x,_,rfl⟩:=List.mem_map.1 he;exact(u.enc_len x).trans hz) (by exact hb) (by simp only [a3d,a27,a3l];omega);exact⟨v',w',yc,λty=>h1,h2,h3,h4⟩
 have hyc:=Rx hu hd;subst hyc;rw [<-yw] at ho;have hpost:tX w (.slice A n c) (l ++ [a]) (.returned v') w':=⟨v',rfl,by rw [a2V,hn];exact ho,halt⟩;clear halt hd how hv;have Hp:=Lib.hid hpost;clear hpost ho
 go_enter Tryz.func191,Tryz.ntmps191
 go_wp2_with (at_builtin;refine Lib.wpList_append_run _ rfl _ _ _ _ rfl _ _ rfl rfl _ _ (hrun _) ?_)
 all_goals go_ret
 all_goals first | exact Hp.out | (cases A <;> exact Hp.out)
set_option maxHeartbeats 4000000 in
set_option maxRecDepth 100000 in
theorem Ry (_hu:u.flat=true) (hz:u.size=3) {w:World} {l:List u.den} {a:u.den} {n c b vb vc i:Nat} {cur vcur:Array Value} (hn:l.length=n) (hi:i < n) (hroom:n + 1<=c) (hc:c<=maxLen) (hvb:vb ≠ b)
  (hg:w.heap[b]?=some (.cells cur 96 (0,0))) (hcs:cur.size=c * 3) (htk:cur.toList.take (n * 3)=XA l)
  (hvg:w.heap[vb]?=some (.cells vcur 96 (0,0))) (_hvs:3<=vcur.size) (hvt:vcur.toList.take 3=XA [a]) :
  Calls Tryz.prog 191 #[.slice (some ⟨b,0,none⟩) n c,.int .i64 i,.slice (some ⟨vb,0,none⟩) 1 vc] w (tX w (.slice (some ⟨b,0,none⟩) n c) (l.take i ++ a :: l.drop i)):=by
 have hov:∀ A lb cb,(callFunc 241 #[.slice (some ⟨vb,0,none⟩) 1 vc,.slice (some ⟨b,A,none⟩) lb cb]).run Tryz.prog w= .ok (.value (.bool false)) w:=λA lb cb=>by
  rw [run_callFunc_extern Tryz.func241 (by kernel_rfl) (by kernel_rfl) (by kernel_rfl) (e:=Extern.SlicesOverlaps.overlaps #[28,28] #[4]) (by kernel_rfl),
   Lib.run_overlaps_apart w 28 4 96 Tryz.underlying28 3 (Kr.sizeOf) ⟨vb,0,none⟩ ⟨b,A,none⟩ 1 vc lb cb hvb 96 96 vcur.size cur.size (by simp [World.shape?,hvg]) (by simp [World.shape?,hg]) (by omega) (by simp [World.frozen?,hvg]) (by simp [World.frozen?,hvg])]
  rfl
 have hw1:IntKind.i64.wrap ((n:Int) + 1)=(n:Int) + 1:=by unfold maxLen at hc;rw [IntKind.wrap_i64];omega
 have hw2:IntKind.i64.wrap ((i:Int) + 1)=(i:Int) + 1:=by unfold maxLen at hc;rw [IntKind.wrap_i64];omega
 have hne:¬ (i:Int)=(n:Int):=by omega
 have hle:¬ (c:Int) < (n:Int) + 1:=by omega
 have ht1:((n:Int) + 1).toNat=n + 1:=by omega
 have ht2:((i:Int) + 1).toNat=i + 1:=by omega
 have hsz:(Tryz.prog.info? 96).map (·.size)=some 3:=by obtain⟨inf,zv,hinf,hh⟩:=Kr.info;rw [hinf];exact congrArg some hh.1
 have hL:(XA l).length=n * 3:=by rw [lG hz,hn]
 have hcell:∀ (W:World),W.heap[b]?=some (.cells cur 96 (0,0))->∀ j v,(XA l)[j]?=some v->W.cell? ⟨b,j,none⟩=some v:=λW hW j v hj=>by
  rw [<-htk,List.getElem?_take] at hj;split at hj
  ·simpa [World.cell?,hW] using hj
  ·cases hj
 have hcp1:∀ (W:World),W.heap[b]?=some (.cells cur 96 (0,0))->∀ ty dc sc,(Builtin.copy_ #[28,28] ty #[.slice (some ⟨b,(i + 1) * 3,none⟩) (n - i) dc,.slice (some ⟨b,i * 3,none⟩) (n + 1 - i) sc]).run Tryz.prog W= .ok (goInt ((n - i:Nat):Int)) (W.setRow b (cur.toList.take ((i + 1) * 3) ++ XA (l.drop i) ++ cur.toList.drop ((i + 1) * 3 + (XA (l.drop i)).length)).toArray):=λW hW ty dc sc=>by
  have hmin:Nat.min (n + 1 - i) (n - i)=n - i:=by simp only [a5C];split <;> omega
  have:=nG (P:=Tryz.prog) W 28 28 ty 96 b ((i + 1) * 3) (n - i) dc ⟨b,i * 3,none⟩ (n + 1 - i) sc cur 96 (XA (l.drop i)) 3 Tryz.underlying28 hsz hW
   (by rw [lG hz,a3a,hmin,hn]) (λj v hj=>by
    rw [Addr.add_lit];apply hcell W hW;rw [<-NA hz l i (by omega),List.getElem?_drop] at hj;exact hj) (by rw [lG hz,a3a,hcs,hn];omega) (Ij _)
  rw [hmin] at this;exact this
 obtain⟨cur2,hcur2⟩:∃ cur2,cur2=(cur.toList.take ((i + 1) * 3) ++ XA (l.drop i) ++ cur.toList.drop ((i + 1) * 3 + (XA (l.drop i)).length)).toArray:=⟨_,rfl⟩;rw [<-hcur2] at hcp1;have hL2:(XA (l.drop i)).length=(n - i) * 3:=by rw [lG hz,a3a,hn]
 have hs2:cur2.size=c * 3:=by
  rw [hcur2];simp only [a4a,a2V,a26,a3a,hL2,a3p,hcs];omega
 have hcp2:∀ (W:World),W.heap[b]?=some (.cells cur2 96 (0,0))->W.heap[vb]?=some (.cells vcur 96 (0,0))->∀ ty dc,(Builtin.copy_ #[28,28] ty #[.slice (some ⟨b,i * 3,none⟩) (n + 1 - i) dc,.slice (some ⟨vb,0,none⟩) 1 vc]).run Tryz.prog W= .ok (goInt 1) (W.setRow b (cur2.toList.take (i * 3) ++ XA [a] ++ cur2.toList.drop (i * 3 + (XA [a]).length)).toArray):=λW hW hV ty dc=>by
  have hmin:Nat.min 1 (n + 1 - i)=1:=by simp only [a5C];split <;> omega
  have:=nG (P:=Tryz.prog) W 28 28 ty 96 b (i * 3) (n + 1 - i) dc ⟨vb,0,none⟩ 1 vc cur2 96 (XA [a]) 3 Tryz.underlying28 hsz hW
   (by rw [lG hz,hmin];rfl) (λj v hj=>by
    rw [Addr.add_lit,a3z];rw [<-hvt,List.getElem?_take] at hj;split at hj
    ·simpa [World.cell?,hV] using hj
    ·cases hj) (by rw [lG hz,hs2];simp only [a3f];omega) (Ij _)
  rw [hmin] at this;exact this
 have hfin:(cur2.toList.take (i * 3) ++ XA [a] ++ cur2.toList.drop (i * 3 + (XA [a]).length)).take ((n + 1) * 3)=XA (l.take i ++ a :: l.drop i):=by
  have hA:(XA [a]).length=3:=by rw [lG hz];rfl
  have h1:cur2.toList.take (i * 3)=XA (l.take i):=by
   rw [hcur2];simp only [a3c];rw [a4G (by simp only [a26,a3p,hcs];omega),a5u,<-Nz hz l i (by omega),<-htk,a5u];congr 1;simp only [a5C];split <;> split <;> omega
  have h2:cur2.toList.drop (i * 3 + (XA [a]).length)=XA (l.drop i) ++ cur.toList.drop ((i + 1) * 3 + (XA (l.drop i)).length):=by
   rw [hcur2];simp only [a3c];have:i * 3 + (XA [a]).length=(cur.toList.take ((i + 1) * 3)).length:=by simp only [a26,a3p,hcs,hA];omega
   rw [this,a3F]
  rw [h1,h2,<-a3c,<-yw,<-yw,a3c,a4L];have:(n + 1) * 3=(XA (l.take i ++ a :: l.drop i)).length:=by rw [lG hz];simp only [a2V,a26,a27,a3a];omega
  rw [this,a3Q]
 obtain⟨cur3,hcur3⟩:∃ cur3,cur3=(cur2.toList.take (i * 3) ++ XA [a] ++ cur2.toList.drop (i * 3 + (XA [a]).length)).toArray:=⟨_,rfl⟩;rw [<-hcur3] at hcp2;have hs3:cur3.size=c * 3:=by
  have hA:(XA [a]).length=3:=by rw [lG hz];rfl
  rw [hcur3];simp only [a4a,a2V,a26,a3a,hA,a3p,hs2];omega
 have hfin3:cur3.toList.take ((n + 1) * 3)=XA (l.take i ++ a :: l.drop i):=by rw [hcur3];exact hfin
 have hpost:∀ W':World,W'.heap[b]?=some (.cells cur3 96 (0,0))->w.grownBy W' (some b)->tX w (.slice (some ⟨b,0,none⟩) n c) (l.take i ++ a :: l.drop i) (.returned (.slice (some ⟨b,0,none⟩) (n + 1) c)) W':=λW' h1 h2=>by
  have hll:(l.take i ++ a :: l.drop i).length=n + 1:=by simp only [a2V,a26,a27,a3a];omega
  refine⟨_,rfl,?_,.inl ⟨rfl,h2⟩⟩;rw [hll];exact⟨by rw [lG hz,hll],.inr ⟨b,c,cur3,rfl,a3B _,h1,hroom,hc,hs3,hfin3⟩⟩
 clear hfin hfin3 hs3 hcur3 hs2 hL2 hcur2 hcell hL;have hbl:b < w.heap.size:=(Array.getElem?_eq_some_iff.1 hg).1;have mixed:Tryz.prog.follows Departure.mixedOrders=true:=by kernel_rfl
 have hb1:(0:Int)<=(i:Int) + 1:=by omega
 have hin:i<=n:=by omega
 have hin2:i<=n + 1:=by omega
 have hin3:(i:Int)<=(n:Int) + 1:=by omega
 have hin4:(i:Int)<=(n:Int):=by omega
 have hb2:¬ c=i + 1:=by omega
 have hb4:¬ c=i:=by omega
 go_enter Tryz.func191,Tryz.ntmps191
 go_wp2_with (simp only [hov])
 go_region_law_o (refine step_copy_runI rfl _ _ 28 28 rfl (.slice (some ⟨b,(i + 1) * 3,none⟩) (n - i) (c - (i + 1))) (.slice (some ⟨b,i * 3,none⟩) (n + 1 - i) (c - i)) (by simp [Act.eval,Act.put]) (by simp [Act.eval,Act.put]) (hcp1 w.drew hg _ _ _) ?_)
 have hb2':(w.drew.setRow b cur2).heap[b]?=some (.cells cur2 96 (0,0)):=setRow_heap _ _ _ _ _ _ hg;have hv2':(w.drew.setRow b cur2).heap[vb]?=some (.cells vcur 96 (0,0)):=(setRow_other _ _ _ _ hvb).trans hvg;have hrun2:=hcp2 _ hb2' hv2'
 go_wp2_with (at_builtin;refine wpList_copy_runI _ rfl _ _ 28 28 rfl _ _ rfl rfl (hrun2 _ _) ?_)
 go_ret
 exact hpost _ (setRow_heap _ _ _ _ _ _ hb2') ⟨rfl,rfl,rfl,by simp,λk hk hne=>by
  have hkb:k ≠ b:=λe=>hne (by rw [e]);rw [setRow_other _ _ _ _ hkb,setRow_other _ _ _ _ hkb];rfl⟩
set_option maxHeartbeats 4000000 in
set_option maxRecDepth 100000 in
theorem RA (_hu:u.flat=true) (hz:u.size=3) {w:World} {l:List u.den} {a:u.den} {n c b vb vc i:Nat} {cur vcur:Array Value} (hn:l.length=n) (hi:i < n) (hnc:n<=c) (hroom:c < n + 1) (hbig:(n + 1) * 32<=140737488355328)
  (hg:w.heap[b]?=some (.cells cur 96 (0,0))) (hcs:cur.size=c * 3) (htk:cur.toList.take (n * 3)=XA l)
  (hvg:w.heap[vb]?=some (.cells vcur 96 (0,0))) (_hvs:3<=vcur.size) (hvt:vcur.toList.take 3=XA [a]) :
  Calls Tryz.prog 191 #[.slice (some ⟨b,0,none⟩) n c,.int .i64 i,.slice (some ⟨vb,0,none⟩) 1 vc] w (tX w (.slice (some ⟨b,0,none⟩) n c) (l.take i ++ a :: l.drop i)):=by
 have hsz:(Tryz.prog.info? 96).map (·.size)=some 3:=by obtain⟨inf,zv,hinf,hh⟩:=Kr.info;rw [hinf];exact congrArg some hh.1
 have hbl:b < w.heap.size:=(Array.getElem?_eq_some_iff.1 hg).1;have hvbl:vb < w.heap.size:=(Array.getElem?_eq_some_iff.1 hvg).1;have hcell:∀ (W:World),W.heap[b]?=some (.cells cur 96 (0,0))->∀ j v,(XA l)[j]?=some v->W.cell? ⟨b,j,none⟩=some v:=λW hW j v hj=>by
  rw [<-htk,List.getElem?_take] at hj;split at hj
  ·simpa [World.cell?,hW] using hj
  ·cases hj
 have hkk:(n:Int) + 1 - (i:Int)=((n + 1 - i:Nat):Int):=by omega
 have hik:i + (n + 1 - i)=n + 1:=by omega
 obtain⟨ROW,hrz,hRs,hRt⟩:∃ ROW:Array Value,(∀ ty,(Builtin.append_ #[28,3] ty #[.slice (some ⟨b,0,none⟩) i c,.int .i64 ((n:Int) + 1 - (i:Int))]).run Tryz.prog w =
   .ok (.slice (some ⟨w.heap.size,0,none⟩) (n + 1) (grownCap w (n + 1) c 96)) (w.drew.alloc (.cells ROW 96)))/\ROW.size=grownCap w (n + 1) c 96 * 3/\ROW.toList.take (i * 3)=XA (l.take i):=by
  obtain⟨inf,zv,hinf,hs,hby,hzv,hzc,hzl,_⟩:=Kr.info;have hs':inf.size=3:=hs;have hby':inf.bytes=32:=hby
  have hzs:zv.cells.size=3:=by have:=hzc ▸ hzl;exact this
  have hGn:n + 1<=grownCap w (n + 1) c 96:=grownCap_ge w _ _ _;have hLt:(XA (l.take i)).length=i * 3:=by rw [lG hz,a26];omega
  have hold:(Builtin.firstCells inf.size i (.slice (some ⟨b,0,none⟩) i c)).run Tryz.prog w.drew= .ok (XA (l.take i)).toArray w.drew:=by
   rw [hs'];exact run_firstCells_some w.drew 3 i ⟨b,0,none⟩ i c (XA (l.take i)) hLt (λj v hj=>by
    rw [Addr.add_lit,a3z];rw [<-Nz hz l i (by omega),List.getElem?_take] at hj;split at hj
    ·exact hcell w.drew hg j v hj
    ·cases hj)
  refine⟨(XA (l.take i)).toArray ++ Builtin.zeroCells zv.cells (n + 1 - i) ++ Builtin.zeroCells zv.cells (grownCap w (n + 1) c 96 - (n + 1)),λty=>?_,?_,?_⟩
  ·have h:=Lib.run_append_grow_zeros w 28 3 ty 96 inf _ .i64 .i64 Tryz.underlying28 Tryz.underlying3 hinf hzv (some ⟨b,0,none⟩) i c (XA (l.take i)) hold (n + 1 - i) (by omega) (by omega) (by omega) (by omega) (by rw [hby'];omega) (by rw [hby',hik];exact growslice_fits hroom hbig);rw [hik] at h;rw [hkk];exact h
  ·simp only [Array.size_append,size_zeroCells,hzs,a4a,hLt];omega
  ·simp only [Array.toList_append,a3c];rw [<-hLt,a3Q]
 obtain⟨G,hG⟩:∃ G,G=grownCap w (n + 1) c 96:=⟨_,rfl⟩;have hGn:n + 1<=G:=by rw [hG];exact grownCap_ge w _ _ _
 have hG63:G<=maxLen:=by rw [hG];exact grownCap_le_maxLen w (n + 1) c 96 (by unfold maxLen;omega)
 rw [<-hG] at hrz hRs;obtain⟨g,hgs⟩:∃ g,g=w.heap.size:=⟨_,rfl⟩;rw [<-hgs] at hrz;have hA:(XA [a]).length=3:=by rw [lG hz];rfl
 have hL2:(XA (l.drop i)).length=(n - i) * 3:=by rw [lG hz,a3a,hn]
 obtain⟨cur2,hcur2⟩:∃ cur2,cur2=(ROW.toList.take (i * 3) ++ XA [a] ++ ROW.toList.drop (i * 3 + (XA [a]).length)).toArray:=⟨_,rfl⟩;obtain⟨cur3,hcur3⟩:∃ cur3,cur3=(cur2.toList.take ((i + 1) * 3) ++ XA (l.drop i) ++ cur2.toList.drop ((i + 1) * 3 + (XA (l.drop i)).length)).toArray:=⟨_,rfl⟩;have hs2:cur2.size=G * 3:=by
  rw [hcur2];simp only [a4a,a2V,a26,a3a,hA,a3p,hRs];omega
 have hs3:cur3.size=G * 3:=by
  rw [hcur3];simp only [a4a,a2V,a26,a3a,hL2,a3p,hs2];omega
 have hcpA:∀ (W:World),W.heap[g]?=some (.cells ROW 96 (0,0))->W.heap[vb]?=some (.cells vcur 96 (0,0))->∀ ty dc,(Builtin.copy_ #[28,28] ty #[.slice (some ⟨g,i * 3,none⟩) (n + 1 - i) dc,.slice (some ⟨vb,0,none⟩) 1 vc]).run Tryz.prog W= .ok (goInt 1) (W.setRow g cur2):=λW hW hV ty dc=>by
  have hmin:Nat.min 1 (n + 1 - i)=1:=by simp only [a5C];split <;> omega
  have:=nG (P:=Tryz.prog) W 28 28 ty 96 g (i * 3) (n + 1 - i) dc ⟨vb,0,none⟩ 1 vc ROW 96 (XA [a]) 3 Tryz.underlying28 hsz hW
   (by rw [hA,hmin]) (λj v hj=>by
    rw [Addr.add_lit,a3z];rw [<-hvt,List.getElem?_take] at hj;split at hj
    ·simpa [World.cell?,hV] using hj
    ·cases hj) (by rw [hA,hRs];omega) (Ij _)
  rw [hmin,<-hcur2] at this;exact this
 have hcpB:∀ (W:World),W.heap[g]?=some (.cells cur2 96 (0,0))->W.heap[b]?=some (.cells cur 96 (0,0))->∀ ty dc sc,(Builtin.copy_ #[28,28] ty #[.slice (some ⟨g,(i + 1) * 3,none⟩) (n - i) dc,.slice (some ⟨b,i * 3,none⟩) (n - i) sc]).run Tryz.prog W= .ok (goInt ((n - i:Nat):Int)) (W.setRow g cur3):=λW hW hV ty dc sc=>by
  have hmin:Nat.min (n - i) (n - i)=n - i:=by simp only [a5C];split <;> omega
  have:=nG (P:=Tryz.prog) W 28 28 ty 96 g ((i + 1) * 3) (n - i) dc ⟨b,i * 3,none⟩ (n - i) sc cur2 96 (XA (l.drop i)) 3 Tryz.underlying28 hsz hW
   (by rw [hL2,hmin]) (λj v hj=>by
    rw [Addr.add_lit];apply hcell W hV;rw [<-NA hz l i (by omega),List.getElem?_drop] at hj;exact hj) (by rw [hL2,hs2];omega) (Ij _)
  rw [hmin,<-hcur3] at this;exact this
 have hfin3:cur3.toList.take ((n + 1) * 3)=XA (l.take i ++ a :: l.drop i):=by
  have h1:cur2.toList.take ((i + 1) * 3)=XA (l.take i) ++ XA [a]:=by
   rw [hcur2,hRt];have:(i + 1) * 3=(XA (l.take i) ++ XA [a]).length:=by rw [a2V,hA,lG hz,a26];omega
   rw [this];exact a3Q
  rw [hcur3,h1,<-yw,<-yw,a3c,a4L];have:(n + 1) * 3=(XA (l.take i ++ a :: l.drop i)).length:=by rw [lG hz];simp only [a2V,a26,a27,a3a];omega
  rw [this];exact a3Q
 have hpost:∀ W':World,W'.heap[g]?=some (.cells cur3 96 (0,0))->w.grownBy W' none->tX w (.slice (some ⟨b,0,none⟩) n c) (l.take i ++ a :: l.drop i) (.returned (.slice (some ⟨g,0,none⟩) (n + 1) G)) W':=λW' h1 h2=>by
  have hll:(l.take i ++ a :: l.drop i).length=n + 1:=by simp only [a2V,a26,a27,a3a];omega
  refine⟨_,rfl,?_,.inr ⟨h2,by rw [hgs];rfl⟩⟩;rw [hll];exact⟨by rw [lG hz,hll],.inr ⟨g,G,cur3,rfl,a3B _,h1,hGn,hG63,hs3,hfin3⟩⟩
 clear hfin3 hs3 hcur3 hs2 hL2 hcur2 hcell hRs hRt hG htk hvt;have hvg':vb ≠ g:=by omega
 have hbg':b ≠ g:=by omega
 obtain⟨W1,hW1⟩:∃ W1,W1=w.drew.alloc (.cells ROW 96):=⟨_,rfl⟩;rw [<-hW1] at hrz;have w1g:W1.heap[g]?=some (.cells ROW 96 (0,0)):=by rw [hW1,hgs];exact Array.getElem?_push_size
 have w1o:∀ k,k < w.heap.size->W1.heap[k]?=w.heap[k]?:=λk hk=>by rw [hW1];exact heap_alloc_old w.drew _ hk
 have w1s:w.heap.size<=W1.heap.size:=by rw [hW1];simp
 have w1g1:W1.os=w.os/\W1.tape=w.tape/\W1.output=w.output:=by rw [hW1];exact⟨rfl,rfl,rfl⟩
 have hgle:w.heap.size<=g:=by omega
 clear hW1 hgs;have mixed:Tryz.prog.follows Departure.mixedOrders=true:=by kernel_rfl
 have hw1:IntKind.i64.wrap ((n:Int) + 1)=(n:Int) + 1:=by rw [IntKind.wrap_i64];omega
 have hw2:IntKind.i64.wrap ((i:Int) + 1)=(i:Int) + 1:=by rw [IntKind.wrap_i64];omega
 have hw3:IntKind.i64.wrap ((n:Int) + 1 - (i:Int))=(n:Int) + 1 - (i:Int):=by rw [IntKind.wrap_i64];omega
 have hne:¬ (i:Int)=(n:Int):=by omega
 have hle:(c:Int) < (n:Int) + 1:=by omega
 have ht1:((n:Int) + 1).toNat=n + 1:=by omega
 have ht2:((i:Int) + 1).toNat=i + 1:=by omega
 have hb1:(0:Int)<=(i:Int) + 1:=by omega
 have hin:i<=n:=by omega
 have hin2:i<=n + 1:=by omega
 have hin3:(i:Int)<=(n:Int) + 1:=by omega
 have hin4:(i:Int)<=(n:Int):=by omega
 have hb4:¬ c=i:=by omega
 have hb5:¬ G=i:=by omega
 have hb6:¬ G=i + 1:=by omega
 have hic:i<=c:=by omega
 clear hkk hik;have hrunA:=hcpA _ w1g ((w1o _ hvbl).trans hvg);have hp2:(W1.setRow g cur2).heap[g]?=some (.cells cur2 96 (0,0)):=setRow_heap _ _ _ _ _ _ w1g;have hrunB:=hcpB (W1.setRow g cur2).drew hp2 ((setRow_other _ _ _ _ hbg').trans ((w1o _ hbl).trans hg))
 go_enter Tryz.func191,Tryz.ntmps191
 go_wp2_with (first
  | (at_builtin;refine Lib.wpList_append_run _ rfl _ _ _ _ rfl _ _ rfl rfl _ _ (hrz _) ?_)
  | (at_builtin;refine wpList_copy_runI _ rfl _ _ 28 28 rfl _ _ rfl rfl (hrunA _ _) ?_))
 go_region_law_o (refine step_copy_runI rfl _ _ 28 28 rfl (.slice (some ⟨g,(i + 1) * 3,none⟩) (n - i) (G - (i + 1))) (.slice (some ⟨b,i * 3,none⟩) (n - i) (c - i)) (by simp [Act.eval,Act.put]) (by simp [Act.eval,Act.put]) (hrunB _ _ _) ?_)
 go_wp2
 go_ret
 exact hpost _ (setRow_heap _ _ _ _ _ _ hp2) ⟨w1g1.1,w1g1.2.1,w1g1.2.2,by simpa using w1s,λk hk hne=>by
  have hkb:k ≠ g:=by omega
  rw [setRow_other _ _ _ _ hkb];exact(setRow_other _ _ _ _ hkb).trans (w1o k hk)⟩
end
def YS {α:Type} (l:List α) (i:Int) (vs:List α):Option (List α):=match vs with
 | [x]=>chk (decide (0<=i/\i<=(l.length:Int)/\(l.length + 1) * 32<=140737488355328)) (some (l.take i.toNat ++ x :: l.drop i.toNat))
 | _=>none
def rz (u:U) (e:TypeId):TFn:=⟨.cons (.c (.row u e)) (.cons (.c (.d (.int .i64))) (.cons (.c (.row u e)) .nil)),.nil,.cons (.c (.row u e)) .nil,List u.den,λa=>YS a.1 a.2.1 a.2.2.1,λr=>((),(r,())),.none⟩
theorem Ks {u:U} (hu:u.flat=true) (hz:u.size=3):FnT Tryz.prog 191 (rz u 96):=
 ⟨rfl,rfl,⟨trivial,⟨_,Tryz.func191,rfl,rfl⟩,λw I F args xs hIn hgl hargs hF hp=>by
  obtain⟨⟨l,i,vs,u1⟩,r,rfl,hr⟩:=hp;change List u.den at l;change Int at i;change List u.den at vs;change List u.den at r;have hr':YS l i vs=some r:=hr;unfold YS at hr';split at hr'
  case h_2=>cases hr'
  rename_i a;obtain⟨hc,hr2⟩:=je hr';obtain⟨hc1,hc2,hc3⟩:=a23 hc;injection hr2 with hr3;clear hr' hc
  replace hargs:OAs I w [.c (.row u.size 96 (l.map u.enc)),.c (.d (.v (.int .i64 i))),.c (.row u.size 96 ([a].map u.enc))] args.toList F:=hargs
  simp only [OAs,OAr,OCr,DVr] at hargs;obtain⟨v,r1,F1,F2,e1,⟨ex,hrow,hF1,hI,_⟩,⟨x2,r2,F3,F4,rfl,⟨rfl,rfl,_⟩,⟨v3,r3,F5,F6,rfl,⟨ex3,hrow3,hF5,hI3,_⟩,⟨rfl,rfl⟩,rfl⟩,rfl⟩,rfl⟩:=hargs;have hacc:96 < ja:=by decide
  rw [a25 (eZ hacc),a3b] at hF1 hF5;subst hF1;subst hF5;have ha:args= #[v,.int .i64 i,v3]:=by cases args;simp only at e1;subst e1;rfl
  subst ha;have epost:((rz u 96).spec.post ((rz u 96).args.oas (l,i,[a],u1)))=[]:=by
   rw [TFn.post_of (S:=rz u 96) (a:=(l,i,[a],u1)) (r:=r) rfl hr];rfl
  have eres:((rz u 96).spec.res ((rz u 96).args.oas (l,i,[a],u1)))=[.c (.row u.size 96 (r.map u.enc))]:=by
   rw [TFn.res_of (S:=rz u 96) (a:=(l,i,[a],u1)) (r:=r) rfl hr];rfl
  obtain⟨hz0,hes,xs,how,hd⟩:=hrow.sl (by show 96 < ja;decide);obtain⟨_,_,xs3,how3,hd3⟩:=hrow3.sl (by show 96 < ja;decide);have hxs:=Rx hu hd;subst hxs;have hxs3:=Rx hu hd3;subst hxs3;simp only [a3d] at how
  replace how:w.ownsRow 0 96 u.size v l.length (XA l):=how
  replace how3:w.ownsRow 0 96 u.size v3 1 (XA [a]):=how3
  rw [hz] at how how3;rcases how3.2 with⟨_,h0⟩ | ⟨vb,vc,vcur,hv3,_,hvg,hvc,hvm,hvs,hvt⟩
  ·cases h0
  subst hv3;have hvblk:vb < w.heap.size:=(Array.getElem?_eq_some_iff.1 hvg).1;have hcalls:Calls Tryz.prog 191 #[v,.int .i64 i,.slice (some ⟨vb,0,none⟩) 1 vc] w (tX w v r):=by
   by_cases hil:i=(l.length:Int)
   ·have e2:r=l ++ [a]:=by rw [<-hr3,hil,a2T,a3i,a4g]
    rw [e2,hil];rcases how.2 with⟨hv,h0⟩ | ⟨b,cap,cur,hv,_⟩
    ·subst hv;have hl:l=[]:=a3e h0;subst hl;exact NB (n:=0) hu hz rfl how how3 hc3
    ·subst hv;exact NB hu hz rfl how how3 hc3
   ·have hin:i.toNat < l.length:=by omega
    have hii:i=((i.toNat:Nat):Int):=by omega
    generalize i.toNat=k at hin hii hr3;subst hii;rw [<-hr3];rcases how.2 with⟨_,h0⟩ | ⟨b,cap,cur,hv,_,hg,hcap,hmax,hcs,htk⟩
    ·omega
    ·subst hv;have hvb:vb ≠ b:=λe=>by
      subst e;simp [obk] at hF
     by_cases hroom:l.length + 1<=cap
     ·exact Ry hu hz rfl hin hroom hmax hvb hg hcs htk hvg (by omega) hvt
     ·exact RA hu hz rfl hin hcap (by omega) hc3 hg hcs htk hvg (by omega) hvt
  refine Calls.mono hcalls λo w' h=>?_;obtain⟨v',rfl,ho,halt⟩:=h;have hobv:obk v=v.ownBlock:=iZ how;have hobv':obk v'=v'.ownBlock:=iZ ho;have hfr:w.grownBy w' v.ownBlock:=by
   rcases halt with h | h
   ·exact h.2
   ·exact h.1.but _
  have hkeep:ol I w w':=λb o hi=>World.cell?_of_block (a:=⟨b,o,none⟩) (hfr.block b (hIn b o hi) (λh=>hI b o (by rw [hobv];exact h.symm) hi));have hown':∀ b,obk v'=some b->obk v=some b\/w.heap.size<=b:=λb hb=>by
   rw [hobv'] at hb;rcases halt with h | h
   ·left;rw [hobv,<-h.1,hb]
   ·right;rw [h.2] at hb;injection hb with hb;omega
  refine⟨I,[v'],[],(obk v').toList,rfl,⟨⟨hfr.os,hfr.tape,hfr.output,hfr.size,λk hk hne=>hfr.block k hk λh=>hne (by simp [hobv,<-h])⟩,λ_ _ h=>h,hkeep,λ_ _ h=> .inl h,λb o hi=>a3U (hIn b o hi) hfr.size,?_,?_,by cases obk v' <;> simp,λb hb=>?_⟩⟩
  ·rw [epost];exact⟨rfl,rfl⟩
  ·rw [eres];simp only [OAs,OAr,OCr];refine⟨v',[],(obk v').toList,[],rfl,⟨[],⟨hz0,λe he=>by obtain⟨x,_,rfl⟩:=List.mem_map.1 he;exact u.enc_len x,.inl ⟨(by show 96 < ja;decide),XA r,by simp only [a3d];rw [hz];exact ho,Vx hu _⟩⟩,by rw [a25 (eZ hacc),a3b],λg o hg hi=>?_,λh=>absurd h (eZ hacc)⟩,⟨rfl,rfl⟩,by simp⟩;rcases hown' g hg with h | h
   ·exact hI g o h hi
   ·have:=hIn g o hi;omega
  ·have hb':obk v'=some b:=by simpa using hb
   rcases hown' b hb' with h | h
   ·left;simp [h]
   ·exact .inr h⟩⟩
end Go.Proofs.YtjbgdpjgfjnkbaaGreatDoor.Am
