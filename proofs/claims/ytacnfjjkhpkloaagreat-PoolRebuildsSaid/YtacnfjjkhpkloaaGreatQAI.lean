/- slices.Insert of one place into a slice of the call's own. No conditions. -/
import Derived.Test.YtacnfjjkhpkloaaGreatKD
import Derived.Test.YtacnfjjkhpkloaaGreatQAG
import Derived.Test.YtacnfjjkhpkloaaGreatQAA
import Derived.Test.YtacnfjjkhpkloaaGreatKB
import Derived.Shelf.Spec.SlicesInsertGrow
import Derived.Laws.IdiomCopy
import Derived.Laws.CopyRow
import Derived.Maps.RangeWalk
namespace Go.Proofs.YtacnfjjkhpkloaaGreat.Am
open Go Go.Proofs Go.RowKit
theorem a3F {P:Program} (w:World) (dT sT ty elem:TypeId) (g o dLen dCap:Nat) (a:Addr) (sLen sCap:Nat) (cur:Array Value) (t:TypeId) (cs:List Value) (z:Nat)
  (hu:P.underlying dT=some (.slice elem)) (hs:(P.info? elem).map (·.size)=some z)
  (hg:w.heap[g]?=some (.cells cur t (0,0))) (hn:cs.length=Nat.min sLen dLen * z)
  (hsrc:∀ j v,cs[j]?=some v->w.cell? (a.add j)=some v) (hfit:o + cs.length<=cur.size) (h1:∀ v ∈ cs,v.oneCell'=true) :
  (Builtin.copy_ #[dT,sT] ty #[.slice (some ⟨g,o,none⟩) dLen dCap,.slice (some a) sLen sCap]).run P w =
   .ok (goInt (Nat.min sLen dLen)) (w.setRow g (cur.toList.take o ++ cs ++ cur.toList.drop (o + cs.length)).toArray):=by
 have hl:=run_loadCells_list (P:=P) w a cs hsrc
 have hst:=run_storeCells_at P g o t cs 0 cur w hg (by simpa using hfit) h1
 cases hq:P.info? elem with
 | none=>simp [hq] at hs
 | some i=>
  have hi:i.size=z:=by simpa [hq] using hs
  simp [Builtin.copy_,run_underlying hu,Builtin.lenOf,Builtin.firstCells,sizeOf,typeInfo,hq,hi,<-hn,hl,hst]
def XA {u:U} (l:List u.den):List Value:=l.flatMap u.encV
section
variable {u:U}
theorem a05 (hz:u.size=2) (l:List u.den):(XA l).length=l.length * 2:=a61 _ 2 l fun a _=>(u.encV_len a).trans hz
theorem a7T (l m:List u.den):XA (l ++ m)=XA l ++ XA m:=List.flatMap_append
theorem b4U (hz:u.size=2) (l:List u.den) (i:Nat) (h:i<=l.length):(XA l).take (i * 2)=XA (l.take i):=by
 have e:XA l=XA (l.take i) ++ XA (l.drop i):=by rw [<-a7T,List.take_append_drop]
 have hl:(XA (l.take i)).length=i * 2:=by rw [a05 hz,List.length_take];omega
 rw [e,<-hl,List.take_left]
theorem b4V (hz:u.size=2) (l:List u.den) (i:Nat) (h:i<=l.length):(XA l).drop (i * 2)=XA (l.drop i):=by
 have e:XA l=XA (l.take i) ++ XA (l.drop i):=by rw [<-a7T,List.take_append_drop]
 have hl:(XA (l.take i)).length=i * 2:=by rw [a05 hz,List.length_take];omega
 rw [e,<-hl,List.drop_left]
theorem b3r (l:List u.den):∀ v ∈ XA l,v.oneCell'=true:=fun v hv=>by
 obtain⟨a,_,h⟩:=List.mem_flatMap.1 hv
 exact u.encV_one a v h
theorem c4r {I:Nat->Nat->Prop} {w:World} (hu:u.flat=true):∀ {l:List u.den} {xs:List Value},H6 I w (l.map u.enc) xs->xs=XA l
 | [],xs,h=>h
 | a :: l,xs,h=>by
  simp only [List.map_cons,H6] at h
  obtain⟨c,r,rfl,h1,h2⟩:=h
  rw [u.encV_of hu a h1,c4r hu h2];rfl
theorem c2g {I:Nat->Nat->Prop} {w:World} (hu:u.flat=true):∀ (l:List u.den),H6 I w (l.map u.enc) (XA l)
 | []=>rfl
 | a :: l=>by
  simp only [List.map_cons,H6]
  exact⟨u.encV a,XA l,rfl,u.encV_to hu a,c2g hu l⟩
def a5S (w:World) (v:Value) (l:List u.den) (e:Ending) (w':World):Prop:=∃ v',e= .returned v'/\w'.ownsRow 0 134 2 v' l.length (XA l)/\((v'.ownBlock=v.ownBlock/\w.grownBy w' v.ownBlock)\/(w.grownBy w' none/\v'.ownBlock=some w.heap.size))
set_option maxHeartbeats 4000000 in
set_option maxRecDepth 100000 in
theorem b9Y (hu:u.flat=true) (hz:u.size=2) {w:World} {l:List u.den} {a:u.den} {A:Option Addr} {n c vb vc:Nat} (hn:l.length=n) (how:w.ownsRow 0 134 2 (.slice A n c) n (XA l)) (hv:w.ownsRow 0 134 2 (.slice (some ⟨vb,0,none⟩) 1 vc) 1 (XA [a])) (hb:(n + 1) * 16<=140737488355328) :
  Calls Tryz.prog 89 #[.slice A n c,.int .i64 n,.slice (some ⟨vb,0,none⟩) 1 vc] w (a5S w (.slice A n c) (l ++ [a])):=by
 obtain⟨v',w',yc,hrun,ho,hd,halt⟩:∃ v' w' yc,(∀ ty,(Builtin.append_ #[131,131] ty #[.slice A n c,.slice (some ⟨vb,0,none⟩) 1 vc]).run Tryz.prog w= .ok v' w')/\w'.ownsRow 0 134 2 v' (n + 1) (XA l ++ yc)/\H6 (fun _ _=>True) w ([a].map u.enc) yc/\
   ((v'.ownBlock=(Value.slice A n c).ownBlock/\w.grownBy w' (Value.slice A n c).ownBlock)\/(w.grownBy w' none/\v'.ownBlock=some w.heap.size)):=by
  have hd:DVr (fun _ _=>True) w (.sl ([a].map u.enc)) (.slice (some ⟨vb,0,none⟩) 1 vc):=row_dv (I:=fun _ _=>True) (R:=⟨[a].map u.enc,2,134,false⟩) ⟨(by decide:0 < 2),fun e he=>by obtain⟨x,_,rfl⟩:=List.mem_map.1 he;exact(u.enc_len x).trans hz,.inl ⟨(by decide:134 < a0S),XA [a],hv,c2g hu _⟩⟩ (by decide:134 < a0S)
  obtain⟨v',w',yc,h1,h2,h3,h4⟩:=b32 (P:=Tryz.prog) a99 (by decide) Tryz.underlying131 0 how hd (fun e he=>by obtain⟨x,_,rfl⟩:=List.mem_map.1 he;exact(u.enc_len x).trans hz) (by exact hb) (by simp only [List.length_map,List.length_cons,List.length_nil];omega)
  exact⟨v',w',yc,fun ty=>h1,h2,h3,h4⟩
 have hyc:=c4r hu hd
 subst hyc
 rw [<-a7T] at ho
 have hpost:a5S w (.slice A n c) (l ++ [a]) (.returned v') w':=⟨v',rfl,by rw [List.length_append,hn];exact ho,halt⟩
 clear halt hd how hv
 have Hp:=Lib.hid hpost;clear hpost ho
 go_enter Tryz.func89,Tryz.ntmps89
 go_wp2_with (at_builtin;refine Lib.wpList_append_run _ rfl _ _ _ _ rfl _ _ rfl rfl _ _ (hrun _) ?_)
 all_goals go_ret
 all_goals first | exact Hp.out | (cases A <;> exact Hp.out)
set_option maxHeartbeats 4000000 in
set_option maxRecDepth 100000 in
theorem c2h (_hu:u.flat=true) (hz:u.size=2) {w:World} {l:List u.den} {a:u.den} {n c b vb vc i:Nat} {cur vcur:Array Value} (hn:l.length=n) (hi:i < n) (hroom:n + 1<=c) (hc:c<=maxLen) (hvb:vb ≠ b)
  (hg:w.heap[b]?=some (.cells cur 134 (0,0))) (hcs:cur.size=c * 2) (htk:cur.toList.take (n * 2)=XA l)
  (hvg:w.heap[vb]?=some (.cells vcur 134 (0,0))) (_hvs:2<=vcur.size) (hvt:vcur.toList.take 2=XA [a]) :
  Calls Tryz.prog 89 #[.slice (some ⟨b,0,none⟩) n c,.int .i64 i,.slice (some ⟨vb,0,none⟩) 1 vc] w (a5S w (.slice (some ⟨b,0,none⟩) n c) (l.take i ++ a :: l.drop i)):=by
 have hov:∀ A lb cb,(callFunc 112 #[.slice (some ⟨vb,0,none⟩) 1 vc,.slice (some ⟨b,A,none⟩) lb cb]).run Tryz.prog w= .ok (.value (.bool false)) w:=fun A lb cb=>by
  rw [run_callFunc_extern Tryz.func112 (by kernel_rfl) (by kernel_rfl) (by kernel_rfl) (e:=Extern.SlicesOverlaps.overlaps #[131,131] #[4]) (by kernel_rfl),
   Lib.run_overlaps_apart w 131 4 134 Tryz.underlying131 2 (a99.sizeOf) ⟨vb,0,none⟩ ⟨b,A,none⟩ 1 vc lb cb hvb 134 134 vcur.size cur.size (by simp [World.shape?,hvg]) (by simp [World.shape?,hg]) (by omega) (by simp [World.frozen?,hvg]) (by simp [World.frozen?,hvg])]
  rfl
 have hw1:IntKind.i64.wrap ((n:Int) + 1)=(n:Int) + 1:=by unfold maxLen at hc;rw [IntKind.wrap_i64];omega
 have hw2:IntKind.i64.wrap ((i:Int) + 1)=(i:Int) + 1:=by unfold maxLen at hc;rw [IntKind.wrap_i64];omega
 have hne:¬ (i:Int)=(n:Int):=by omega
 have hle:¬ (c:Int) < (n:Int) + 1:=by omega
 have ht1:((n:Int) + 1).toNat=n + 1:=by omega
 have ht2:((i:Int) + 1).toNat=i + 1:=by omega
 have hsz:(Tryz.prog.info? 134).map (·.size)=some 2:=by obtain⟨inf,zv,hinf,hh⟩:=a99.info;rw [hinf];exact congrArg some hh.1
 have hL:(XA l).length=n * 2:=by rw [a05 hz,hn]
 have hcell:∀ (W:World),W.heap[b]?=some (.cells cur 134 (0,0))->∀ j v,(XA l)[j]?=some v->W.cell? ⟨b,j,none⟩=some v:=fun W hW j v hj=>by
  rw [<-htk,List.getElem?_take] at hj
  split at hj
  ·simpa [World.cell?,hW] using hj
  ·cases hj
 have hcp1:∀ (W:World),W.heap[b]?=some (.cells cur 134 (0,0))->∀ ty dc sc,(Builtin.copy_ #[131,131] ty #[.slice (some ⟨b,(i + 1) * 2,none⟩) (n - i) dc,.slice (some ⟨b,i * 2,none⟩) (n + 1 - i) sc]).run Tryz.prog W= .ok (goInt ((n - i:Nat):Int)) (W.setRow b (cur.toList.take ((i + 1) * 2) ++ XA (l.drop i) ++ cur.toList.drop ((i + 1) * 2 + (XA (l.drop i)).length)).toArray):=fun W hW ty dc sc=>by
  have hmin:Nat.min (n + 1 - i) (n - i)=n - i:=by simp only [Nat.min_def];split <;> omega
  have:=a3F (P:=Tryz.prog) W 131 131 ty 134 b ((i + 1) * 2) (n - i) dc ⟨b,i * 2,none⟩ (n + 1 - i) sc cur 134 (XA (l.drop i)) 2 Tryz.underlying131 hsz hW
   (by rw [a05 hz,List.length_drop,hmin,hn]) (fun j v hj=>by
    rw [Addr.add_lit]
    apply hcell W hW
    rw [<-b4V hz l i (by omega),List.getElem?_drop] at hj
    exact hj) (by rw [a05 hz,List.length_drop,hcs,hn];omega) (b3r _)
  rw [hmin] at this
  exact this
 obtain⟨cur2,hcur2⟩:∃ cur2,cur2=(cur.toList.take ((i + 1) * 2) ++ XA (l.drop i) ++ cur.toList.drop ((i + 1) * 2 + (XA (l.drop i)).length)).toArray:=⟨_,rfl⟩
 rw [<-hcur2] at hcp1
 have hL2:(XA (l.drop i)).length=(n - i) * 2:=by rw [a05 hz,List.length_drop,hn]
 have hs2:cur2.size=c * 2:=by
  rw [hcur2]
  simp only [List.size_toArray,List.length_append,List.length_take,List.length_drop,hL2,Array.length_toList,hcs]
  omega
 have hcp2:∀ (W:World),W.heap[b]?=some (.cells cur2 134 (0,0))->W.heap[vb]?=some (.cells vcur 134 (0,0))->∀ ty dc,(Builtin.copy_ #[131,131] ty #[.slice (some ⟨b,i * 2,none⟩) (n + 1 - i) dc,.slice (some ⟨vb,0,none⟩) 1 vc]).run Tryz.prog W= .ok (goInt 1) (W.setRow b (cur2.toList.take (i * 2) ++ XA [a] ++ cur2.toList.drop (i * 2 + (XA [a]).length)).toArray):=fun W hW hV ty dc=>by
  have hmin:Nat.min 1 (n + 1 - i)=1:=by simp only [Nat.min_def];split <;> omega
  have:=a3F (P:=Tryz.prog) W 131 131 ty 134 b (i * 2) (n + 1 - i) dc ⟨vb,0,none⟩ 1 vc cur2 134 (XA [a]) 2 Tryz.underlying131 hsz hW
   (by rw [a05 hz,hmin];rfl) (fun j v hj=>by
    rw [Addr.add_lit,Nat.zero_add]
    rw [<-hvt,List.getElem?_take] at hj
    split at hj
    ·simpa [World.cell?,hV] using hj
    ·cases hj) (by rw [a05 hz,hs2];simp only [List.length_singleton];omega) (b3r _)
  rw [hmin] at this
  exact this
 have hfin:(cur2.toList.take (i * 2) ++ XA [a] ++ cur2.toList.drop (i * 2 + (XA [a]).length)).take ((n + 1) * 2)=XA (l.take i ++ a :: l.drop i):=by
  have hA:(XA [a]).length=2:=by rw [a05 hz];rfl
  have h1:cur2.toList.take (i * 2)=XA (l.take i):=by
   rw [hcur2]
   simp only [List.append_assoc]
   rw [List.take_append_of_le_length (by simp only [List.length_take,Array.length_toList,hcs];omega),List.take_take,<-b4U hz l i (by omega),<-htk,List.take_take]
   congr 1
   simp only [Nat.min_def];split <;> split <;> omega
  have h2:cur2.toList.drop (i * 2 + (XA [a]).length)=XA (l.drop i) ++ cur.toList.drop ((i + 1) * 2 + (XA (l.drop i)).length):=by
   rw [hcur2]
   simp only [List.append_assoc]
   have:i * 2 + (XA [a]).length=(cur.toList.take ((i + 1) * 2)).length:=by simp only [List.length_take,Array.length_toList,hcs,hA];omega
   rw [this,List.drop_left]
  rw [h1,h2,<-List.append_assoc,<-a7T,<-a7T,List.append_assoc,List.singleton_append]
  have:(n + 1) * 2=(XA (l.take i ++ a :: l.drop i)).length:=by rw [a05 hz];simp only [List.length_append,List.length_take,List.length_cons,List.length_drop];omega
  rw [this,List.take_left]
 obtain⟨cur3,hcur3⟩:∃ cur3,cur3=(cur2.toList.take (i * 2) ++ XA [a] ++ cur2.toList.drop (i * 2 + (XA [a]).length)).toArray:=⟨_,rfl⟩
 rw [<-hcur3] at hcp2
 have hs3:cur3.size=c * 2:=by
  have hA:(XA [a]).length=2:=by rw [a05 hz];rfl
  rw [hcur3]
  simp only [List.size_toArray,List.length_append,List.length_take,List.length_drop,hA,Array.length_toList,hs2]
  omega
 have hfin3:cur3.toList.take ((n + 1) * 2)=XA (l.take i ++ a :: l.drop i):=by rw [hcur3];exact hfin
 have hpost:∀ W':World,W'.heap[b]?=some (.cells cur3 134 (0,0))->w.grownBy W' (some b)->a5S w (.slice (some ⟨b,0,none⟩) n c) (l.take i ++ a :: l.drop i) (.returned (.slice (some ⟨b,0,none⟩) (n + 1) c)) W':=fun W' h1 h2=>by
  have hll:(l.take i ++ a :: l.drop i).length=n + 1:=by simp only [List.length_append,List.length_take,List.length_cons,List.length_drop];omega
  refine⟨_,rfl,?_,.inl ⟨rfl,h2⟩⟩
  rw [hll]
  exact⟨by rw [a05 hz,hll],.inr ⟨b,c,cur3,rfl,Nat.zero_le _,h1,hroom,hc,hs3,hfin3⟩⟩
 clear hfin hfin3 hs3 hcur3 hs2 hL2 hcur2 hcell hL
 have hbl:b < w.heap.size:=(Array.getElem?_eq_some_iff.1 hg).1
 have mixed:Tryz.prog.follows Departure.mixedOrders=true:=by kernel_rfl
 have hb1:(0:Int)<=(i:Int) + 1:=by omega
 have hin:i<=n:=by omega
 have hin2:i<=n + 1:=by omega
 have hin3:(i:Int)<=(n:Int) + 1:=by omega
 have hin4:(i:Int)<=(n:Int):=by omega
 have hb2:¬ c=i + 1:=by omega
 have hb4:¬ c=i:=by omega
 go_enter Tryz.func89,Tryz.ntmps89
 go_wp2_with (simp only [hov])
 go_region_law_o (refine step_copy_runI rfl _ _ 131 131 rfl (.slice (some ⟨b,(i + 1) * 2,none⟩) (n - i) (c - (i + 1))) (.slice (some ⟨b,i * 2,none⟩) (n + 1 - i) (c - i)) (by simp [Act.eval,Act.put]) (by simp [Act.eval,Act.put]) (hcp1 w.drew hg _ _ _) ?_)
 have hb2':(w.drew.setRow b cur2).heap[b]?=some (.cells cur2 134 (0,0)):=setRow_heap _ _ _ _ _ _ hg
 have hv2':(w.drew.setRow b cur2).heap[vb]?=some (.cells vcur 134 (0,0)):=(setRow_other _ _ _ _ hvb).trans hvg
 have hrun2:=hcp2 _ hb2' hv2'
 go_wp2_with (at_builtin;refine wpList_copy_runI _ rfl _ _ 131 131 rfl _ _ rfl rfl (hrun2 _ _) ?_)
 go_ret
 exact hpost _ (setRow_heap _ _ _ _ _ _ hb2') ⟨rfl,rfl,rfl,by simp,fun k hk hne=>by
  have hkb:k ≠ b:=fun e=>hne (by rw [e])
  rw [setRow_other _ _ _ _ hkb,setRow_other _ _ _ _ hkb];rfl⟩
set_option maxHeartbeats 4000000 in
set_option maxRecDepth 100000 in
theorem c2i (_hu:u.flat=true) (hz:u.size=2) {w:World} {l:List u.den} {a:u.den} {n c b vb vc i:Nat} {cur vcur:Array Value} (hn:l.length=n) (hi:i < n) (hnc:n<=c) (hroom:c < n + 1) (hbig:(n + 1) * 16<=140737488355328)
  (hg:w.heap[b]?=some (.cells cur 134 (0,0))) (hcs:cur.size=c * 2) (htk:cur.toList.take (n * 2)=XA l)
  (hvg:w.heap[vb]?=some (.cells vcur 134 (0,0))) (_hvs:2<=vcur.size) (hvt:vcur.toList.take 2=XA [a]) :
  Calls Tryz.prog 89 #[.slice (some ⟨b,0,none⟩) n c,.int .i64 i,.slice (some ⟨vb,0,none⟩) 1 vc] w (a5S w (.slice (some ⟨b,0,none⟩) n c) (l.take i ++ a :: l.drop i)):=by
 have hsz:(Tryz.prog.info? 134).map (·.size)=some 2:=by obtain⟨inf,zv,hinf,hh⟩:=a99.info;rw [hinf];exact congrArg some hh.1
 have hbl:b < w.heap.size:=(Array.getElem?_eq_some_iff.1 hg).1
 have hvbl:vb < w.heap.size:=(Array.getElem?_eq_some_iff.1 hvg).1
 have hcell:∀ (W:World),W.heap[b]?=some (.cells cur 134 (0,0))->∀ j v,(XA l)[j]?=some v->W.cell? ⟨b,j,none⟩=some v:=fun W hW j v hj=>by
  rw [<-htk,List.getElem?_take] at hj
  split at hj
  ·simpa [World.cell?,hW] using hj
  ·cases hj
 have hkk:(n:Int) + 1 - (i:Int)=((n + 1 - i:Nat):Int):=by omega
 have hik:i + (n + 1 - i)=n + 1:=by omega
 obtain⟨ROW,hrz,hRs,hRt⟩:∃ ROW:Array Value,(∀ ty,(Builtin.append_ #[131,3] ty #[.slice (some ⟨b,0,none⟩) i c,.int .i64 ((n:Int) + 1 - (i:Int))]).run Tryz.prog w =
   .ok (.slice (some ⟨w.heap.size,0,none⟩) (n + 1) (grownCap w (n + 1) c 134)) (w.drew.alloc (.cells ROW 134)))/\ROW.size=grownCap w (n + 1) c 134 * 2/\ROW.toList.take (i * 2)=XA (l.take i):=by
  obtain⟨inf,zv,hinf,hs,hby,hzv,hzc,hzl,_⟩:=a99.info
  have hs':inf.size=2:=hs
  have hby':inf.bytes=16:=hby
  have hzs:zv.cells.size=2:=by have:=hzc ▸ hzl;exact this
  have hGn:n + 1<=grownCap w (n + 1) c 134:=grownCap_ge w _ _ _
  have hLt:(XA (l.take i)).length=i * 2:=by rw [a05 hz,List.length_take];omega
  have hold:(Builtin.firstCells inf.size i (.slice (some ⟨b,0,none⟩) i c)).run Tryz.prog w.drew= .ok (XA (l.take i)).toArray w.drew:=by
   rw [hs']
   exact run_firstCells_some w.drew 2 i ⟨b,0,none⟩ i c (XA (l.take i)) hLt (fun j v hj=>by
    rw [Addr.add_lit,Nat.zero_add]
    rw [<-b4U hz l i (by omega),List.getElem?_take] at hj
    split at hj
    ·exact hcell w.drew hg j v hj
    ·cases hj)
  refine⟨(XA (l.take i)).toArray ++ Builtin.zeroCells zv.cells (n + 1 - i) ++ Builtin.zeroCells zv.cells (grownCap w (n + 1) c 134 - (n + 1)),fun ty=>?_,?_,?_⟩
  ·have h:=Lib.run_append_grow_zeros w 131 3 ty 134 inf _ .i64 .i64 Tryz.underlying131 Tryz.underlying3 hinf hzv (some ⟨b,0,none⟩) i c (XA (l.take i)) hold (n + 1 - i) (by omega) (by omega) (by omega) (by omega) (by rw [hby'];omega) (by rw [hby',hik];exact growslice_fits hroom hbig)
   rw [hik] at h
   rw [hkk]
   exact h
  ·simp only [Array.size_append,size_zeroCells,hzs,List.size_toArray,hLt]
   omega
  ·simp only [Array.toList_append,List.append_assoc]
   rw [<-hLt,List.take_left]
 obtain⟨G,hG⟩:∃ G,G=grownCap w (n + 1) c 134:=⟨_,rfl⟩
 have hGn:n + 1<=G:=by rw [hG];exact grownCap_ge w _ _ _
 have hG63:G<=maxLen:=by rw [hG];exact grownCap_le_maxLen w (n + 1) c 134 (by unfold maxLen;omega)
 rw [<-hG] at hrz hRs
 obtain⟨g,hgs⟩:∃ g,g=w.heap.size:=⟨_,rfl⟩
 rw [<-hgs] at hrz
 have hA:(XA [a]).length=2:=by rw [a05 hz];rfl
 have hL2:(XA (l.drop i)).length=(n - i) * 2:=by rw [a05 hz,List.length_drop,hn]
 obtain⟨cur2,hcur2⟩:∃ cur2,cur2=(ROW.toList.take (i * 2) ++ XA [a] ++ ROW.toList.drop (i * 2 + (XA [a]).length)).toArray:=⟨_,rfl⟩
 obtain⟨cur3,hcur3⟩:∃ cur3,cur3=(cur2.toList.take ((i + 1) * 2) ++ XA (l.drop i) ++ cur2.toList.drop ((i + 1) * 2 + (XA (l.drop i)).length)).toArray:=⟨_,rfl⟩
 have hs2:cur2.size=G * 2:=by
  rw [hcur2]
  simp only [List.size_toArray,List.length_append,List.length_take,List.length_drop,hA,Array.length_toList,hRs]
  omega
 have hs3:cur3.size=G * 2:=by
  rw [hcur3]
  simp only [List.size_toArray,List.length_append,List.length_take,List.length_drop,hL2,Array.length_toList,hs2]
  omega
 have hcpA:∀ (W:World),W.heap[g]?=some (.cells ROW 134 (0,0))->W.heap[vb]?=some (.cells vcur 134 (0,0))->∀ ty dc,(Builtin.copy_ #[131,131] ty #[.slice (some ⟨g,i * 2,none⟩) (n + 1 - i) dc,.slice (some ⟨vb,0,none⟩) 1 vc]).run Tryz.prog W= .ok (goInt 1) (W.setRow g cur2):=fun W hW hV ty dc=>by
  have hmin:Nat.min 1 (n + 1 - i)=1:=by simp only [Nat.min_def];split <;> omega
  have:=a3F (P:=Tryz.prog) W 131 131 ty 134 g (i * 2) (n + 1 - i) dc ⟨vb,0,none⟩ 1 vc ROW 134 (XA [a]) 2 Tryz.underlying131 hsz hW
   (by rw [hA,hmin]) (fun j v hj=>by
    rw [Addr.add_lit,Nat.zero_add]
    rw [<-hvt,List.getElem?_take] at hj
    split at hj
    ·simpa [World.cell?,hV] using hj
    ·cases hj) (by rw [hA,hRs];omega) (b3r _)
  rw [hmin,<-hcur2] at this
  exact this
 have hcpB:∀ (W:World),W.heap[g]?=some (.cells cur2 134 (0,0))->W.heap[b]?=some (.cells cur 134 (0,0))->∀ ty dc sc,(Builtin.copy_ #[131,131] ty #[.slice (some ⟨g,(i + 1) * 2,none⟩) (n - i) dc,.slice (some ⟨b,i * 2,none⟩) (n - i) sc]).run Tryz.prog W= .ok (goInt ((n - i:Nat):Int)) (W.setRow g cur3):=fun W hW hV ty dc sc=>by
  have hmin:Nat.min (n - i) (n - i)=n - i:=by simp only [Nat.min_def];split <;> omega
  have:=a3F (P:=Tryz.prog) W 131 131 ty 134 g ((i + 1) * 2) (n - i) dc ⟨b,i * 2,none⟩ (n - i) sc cur2 134 (XA (l.drop i)) 2 Tryz.underlying131 hsz hW
   (by rw [hL2,hmin]) (fun j v hj=>by
    rw [Addr.add_lit]
    apply hcell W hV
    rw [<-b4V hz l i (by omega),List.getElem?_drop] at hj
    exact hj) (by rw [hL2,hs2];omega) (b3r _)
  rw [hmin,<-hcur3] at this
  exact this
 have hfin3:cur3.toList.take ((n + 1) * 2)=XA (l.take i ++ a :: l.drop i):=by
  have h1:cur2.toList.take ((i + 1) * 2)=XA (l.take i) ++ XA [a]:=by
   rw [hcur2,hRt]
   have:(i + 1) * 2=(XA (l.take i) ++ XA [a]).length:=by rw [List.length_append,hA,a05 hz,List.length_take];omega
   rw [this]
   exact List.take_left
  rw [hcur3,h1,<-a7T,<-a7T,List.append_assoc,List.singleton_append]
  have:(n + 1) * 2=(XA (l.take i ++ a :: l.drop i)).length:=by rw [a05 hz];simp only [List.length_append,List.length_take,List.length_cons,List.length_drop];omega
  rw [this]
  exact List.take_left
 have hpost:∀ W':World,W'.heap[g]?=some (.cells cur3 134 (0,0))->w.grownBy W' none->a5S w (.slice (some ⟨b,0,none⟩) n c) (l.take i ++ a :: l.drop i) (.returned (.slice (some ⟨g,0,none⟩) (n + 1) G)) W':=fun W' h1 h2=>by
  have hll:(l.take i ++ a :: l.drop i).length=n + 1:=by simp only [List.length_append,List.length_take,List.length_cons,List.length_drop];omega
  refine⟨_,rfl,?_,.inr ⟨h2,by rw [hgs];rfl⟩⟩
  rw [hll]
  exact⟨by rw [a05 hz,hll],.inr ⟨g,G,cur3,rfl,Nat.zero_le _,h1,hGn,hG63,hs3,hfin3⟩⟩
 clear hfin3 hs3 hcur3 hs2 hL2 hcur2 hcell hRs hRt hG htk hvt
 have hvg':vb ≠ g:=by omega
 have hbg':b ≠ g:=by omega
 obtain⟨W1,hW1⟩:∃ W1,W1=w.drew.alloc (.cells ROW 134):=⟨_,rfl⟩
 rw [<-hW1] at hrz
 have w1g:W1.heap[g]?=some (.cells ROW 134 (0,0)):=by rw [hW1,hgs];exact Array.getElem?_push_size
 have w1o:∀ k,k < w.heap.size->W1.heap[k]?=w.heap[k]?:=fun k hk=>by rw [hW1];exact heap_alloc_old w.drew _ hk
 have w1s:w.heap.size<=W1.heap.size:=by rw [hW1];simp
 have w1g1:W1.os=w.os/\W1.tape=w.tape/\W1.output=w.output:=by rw [hW1];exact⟨rfl,rfl,rfl⟩
 have hgle:w.heap.size<=g:=by omega
 clear hW1 hgs
 have mixed:Tryz.prog.follows Departure.mixedOrders=true:=by kernel_rfl
 have hw1:IntKind.i64.wrap ((n:Int) + 1)=(n:Int) + 1:=by rw [IntKind.wrap_i64];omega
 have hw2:IntKind.i64.wrap ((i:Int) + 1)=(i:Int) + 1:=by rw [IntKind.wrap_i64];omega
 have hw3:IntKind.i64.wrap ((n:Int) + 1 - (i:Int))=(n:Int) + 1 - (i:Int):=by rw [IntKind.wrap_i64];omega
 have hne:¬ (i:Int)=(n:Int):=by omega
 have hle:(c:Int) < (n:Int) + 1:=by omega
 have ht1:((n:Int) + 1).toNat=n + 1:=by omega
 have ht2:((i:Int) + 1).toNat=i + 1:=by omega
 have hb1:(0:Int)<=(i:Int) + 1:=by omega
 have hin:i<=n:=by omega
 have hin2:i<=n + 1:=by omega
 have hin3:(i:Int)<=(n:Int) + 1:=by omega
 have hin4:(i:Int)<=(n:Int):=by omega
 have hb4:¬ c=i:=by omega
 have hb5:¬ G=i:=by omega
 have hb6:¬ G=i + 1:=by omega
 have hic:i<=c:=by omega
 clear hkk hik
 have hrunA:=hcpA _ w1g ((w1o _ hvbl).trans hvg)
 have hp2:(W1.setRow g cur2).heap[g]?=some (.cells cur2 134 (0,0)):=setRow_heap _ _ _ _ _ _ w1g
 have hrunB:=hcpB (W1.setRow g cur2).drew hp2 ((setRow_other _ _ _ _ hbg').trans ((w1o _ hbl).trans hg))
 go_enter Tryz.func89,Tryz.ntmps89
 go_wp2_with (first
  | (at_builtin;refine Lib.wpList_append_run _ rfl _ _ _ _ rfl _ _ rfl rfl _ _ (hrz _) ?_)
  | (at_builtin;refine wpList_copy_runI _ rfl _ _ 131 131 rfl _ _ rfl rfl (hrunA _ _) ?_))
 go_region_law_o (refine step_copy_runI rfl _ _ 131 131 rfl (.slice (some ⟨g,(i + 1) * 2,none⟩) (n - i) (G - (i + 1))) (.slice (some ⟨b,i * 2,none⟩) (n - i) (c - i)) (by simp [Act.eval,Act.put]) (by simp [Act.eval,Act.put]) (hrunB _ _ _) ?_)
 go_wp2
 go_ret
 exact hpost _ (setRow_heap _ _ _ _ _ _ hp2) ⟨w1g1.1,w1g1.2.1,w1g1.2.2,by simpa using w1s,fun k hk hne=>by
  have hkb:k ≠ g:=by omega
  rw [setRow_other _ _ _ _ hkb]
  exact(setRow_other _ _ _ _ hkb).trans (w1o k hk)⟩
end
section
variable {u:U}
set_option maxHeartbeats 4000000 in
theorem b9Z (hu:u.flat=true) (hz:u.size=2) {w:World} {l:List u.den} {a:u.den} {v:Value} {vb vc:Nat} {vcur:Array Value} {k:Nat} (hk:k<=l.length) (hb:(l.length + 1) * 16<=140737488355328) (how:w.ownsRow 0 134 2 v l.length (XA l)) (hvb:obk v ≠ some vb)
  (_hvg:w.heap[vb]?=some (.cells vcur 134 (0,0))) (how3:w.ownsRow 0 134 2 (.slice (some ⟨vb,0,none⟩) 1 vc) 1 (XA [a])) :
  Calls Tryz.prog 89 #[v,.int .i64 (k:Int),.slice (some ⟨vb,0,none⟩) 1 vc] w (a5S w v (l.take k ++ a :: l.drop k)):=by
 rcases how3.2 with⟨h0,_⟩ | ⟨vb',vc',vcur',hv3,_,hvg',hvc,hvm,hvs,hvt⟩
 ·cases h0
 injection hv3 with e1 _ e2
 injection e1 with e1
 injection e1 with e1 _ _
 subst e1;subst e2
 by_cases hil:k=l.length
 ·subst hil
  rw [List.take_length,List.drop_length]
  rcases how.2 with⟨hv,h0⟩ | ⟨b,cap,cur,hv,_⟩
  ·subst hv
   have hl:l=[]:=List.eq_nil_of_length_eq_zero h0
   subst hl
   exact b9Y (n:=0) hu hz rfl how how3 hb
  ·subst hv;exact b9Y hu hz rfl how how3 hb
 ·have hin:k < l.length:=by omega
  rcases how.2 with⟨_,h0⟩ | ⟨b,cap,cur,hv,_,hg,hcap,hmax,hcs,htk⟩
  ·omega
  ·subst hv
   have hvb':vb ≠ b:=fun e=>hvb (by rw [e];rfl)
   by_cases hroom:l.length + 1<=cap
   ·exact c2h hu hz rfl hin hroom hmax hvb' hg hcs htk hvg' (by omega) hvt
   ·exact c2i hu hz rfl hin hcap (by omega) hb hg hcs htk hvg' (by omega) hvt
end
end Go.Proofs.YtacnfjjkhpkloaaGreat.Am
