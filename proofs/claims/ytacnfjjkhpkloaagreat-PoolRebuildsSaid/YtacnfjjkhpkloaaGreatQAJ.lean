/- Texts laid together: DelPl, SendL, FFind, FFindOk. No conditions. -/
import Derived.Test.YtacnfjjkhpkloaaGreatQAI
import Derived.Deep.RegionLaw
import Derived.KernelRfl
import Derived.Test.YtacnfjjkhpkloaaGreatKC
import Derived.Test.YtacnfjjkhpkloaaGreatQAG
import Derived.Test.YtacnfjjkhpkloaaGreatKD
namespace Go.Proofs.YtacnfjjkhpkloaaGreat.Am
open Go Go.Proofs Go.RowKit
theorem b7u {α:Type} {l x:List α} {o:Nat} (h:o + x.length<=l.length) (n:Nat) (hn:o + x.length<=n):(setAt l o x).take n=l.take o ++ x ++ (l.drop (o + x.length)).take (n - (o + x.length)):=by
 unfold setAt
 have h1:(l.take o ++ x).length=o + x.length:=by simp;omega
 rw [List.take_append,h1,List.take_of_length_le (by omega)]
theorem b4W {α:Type} {l x:List α} {o:Nat} (h:o + x.length<=l.length) (n:Nat) (hn:n<=o):(setAt l o x).take n=l.take n:=by
 unfold setAt
 rw [List.append_assoc,List.take_append_of_le_length (by simp;omega),List.take_take]
 congr 1;omega
def b4X {u:U} (w:World) (v:Value) (l:List u.den) (e:Ending) (w':World):Prop:=∃ v',e= .returned v'/\w'.ownsRow 0 134 2 v' l.length (XA l)/\v'.ownBlock=v.ownBlock/\obk v'=obk v/\w.grownBy w' v.ownBlock
set_option maxHeartbeats 4000000 in
set_option maxRecDepth 100000 in
theorem b90 {u:U} (hz:u.size=2) {w:World} {l:List u.den} {b c k:Nat} {cur:Array Value} (hk:k < l.length) (hcl:l.length<=c) (hcm:c<=maxLen)
  (hg:w.heap[b]?=some (.cells cur 134 (0,0))) (hcs:cur.size=c * 2) (htk:cur.toList.take (l.length * 2)=XA l) :
  Calls Tryz.prog 90 #[.slice (some ⟨b,0,none⟩) l.length c,.int .i64 (k:Int),.int .i64 ((k:Int) + 1)] w (b4X w (.slice (some ⟨b,0,none⟩) l.length c) (l.eraseIdx k)):=by
 have hn:∃ n,n=l.length:=⟨_,rfl⟩
 obtain⟨n,hn⟩:=hn
 rw [<-hn] at hk hcl htk ⊢
 have hL:(XA l).length=n * 2:=by rw [a05 hz,hn]
 obtain⟨inf,zv,hinf,hs,hby,hzv,hzc,hzl,_⟩:=a99.info
 have hs':inf.size=2:=hs
 obtain⟨news,hnews⟩:∃ news,news=XA (l.drop (k + 1)):=⟨_,rfl⟩
 have hnl:news.length=(n - (k + 1)) * 2:=by rw [hnews,a05 hz,List.length_drop,hn]
 have hcell:∀ (W:World),W.heap[b]?=some (.cells cur 134 (0,0))->∀ j,j < cur.size->W.cell? ⟨b,j,none⟩=cur[j]?:=fun W hW j hj=>by simp [World.cell?,hW]
 obtain⟨A,hA,hsrc⟩:∃ A:Addr,(if c=k + 1 then some (⟨b,0,none⟩:Addr) else some ⟨b,(k + 1) * 2,none⟩)=some A/\(∀ t v,news[t]?=some v->w.drew.cell? (A.add t)=some v):=by
  by_cases h:c=k + 1
  ·refine⟨⟨b,0,none⟩,by simp [h],fun t v hv=>?_⟩
   have h0:news.length=0:=by rw [hnl];omega
   rw [List.length_eq_zero_iff.1 h0] at hv
   simp at hv
  ·refine⟨⟨b,(k + 1) * 2,none⟩,by simp [h],fun t v hv=>?_⟩
   have ht:t < news.length:=(List.getElem?_eq_some_iff.1 hv).1
   rw [Addr.add_lit,hcell w.drew hg _ (by rw [hcs];omega)]
   rw [hnews,<-b4V hz l (k + 1) (by omega),List.getElem?_drop,<-htk,List.getElem?_take] at hv
   split at hv
   ·simpa using hv
   ·cases hv
 have s2:∀ v ∈ news,v.oneCell'=true:=by rw [hnews];exact b3r _
 have s3:∀ t,t < news.length->(w.drew.cell? ⟨b,0 + k * 2 + t,none⟩).isSome=true/\w.drew.frozen? ⟨b,0 + k * 2 + t,none⟩=false:=fun t ht=>by
  rw [hnl] at ht
  have hlt:k * 2 + t < cur.size:=by rw [hcs];omega
  have hg':w.drew.heap[b]?=some (.cells cur 134 (0,0)):=hg
  refine⟨by rw [Nat.zero_add,hcell w.drew hg _ hlt,Array.getElem?_eq_getElem hlt];rfl,by simp [World.frozen?,hg']⟩
 have hct:cur.toList.length=c * 2:=by rw [Array.length_toList,hcs]
 obtain⟨cur1,hh1,hl1⟩:=a2T b 134 news (0 + k * 2) w.drew cur hg (by rw [hcs,hnl];omega)
 obtain⟨W1,hW1⟩:∃ W1,W1=w.drew.setCells b (0 + k * 2) news:=⟨_,rfl⟩
 rw [<-hW1] at hh1
 have hc1:cur1.size=c * 2:=by
  have:=congrArg List.length hl1
  rw [a5M (by rw [hct,hnl];omega),Array.length_toList,hct] at this
  exact this
 have hze:zv.cells= #[.int .u64 0,.int .i64 0]:=Array.toList_inj.1 hzc
 obtain⟨zs,hzs⟩:∃ zs:List Value,zs=[.int .u64 0,.int .i64 0]:=⟨_,rfl⟩
 have hzz:(Builtin.zeroCells zv.cells 1).toList=zs:=by rw [hze,hzs];kernel_rfl
 have hzs2:zs.length=2:=by rw [hzs];rfl
 have hzo:∀ v ∈ zs,v.oneCell'=true:=fun v hv=>by
  rw [hzs] at hv
  rcases List.mem_cons.1 hv with rfl | hv
  ·rfl
  ·rw [List.mem_singleton.1 hv];rfl
 have hclr:∀ ty cc,(Builtin.clear_ #[131] ty #[.slice (some ⟨b,(n - 1) * 2,none⟩) 1 cc]).run Tryz.prog W1= .ok (.tuple #[]) (W1.setCells b ((n - 1) * 2) zs):=fun ty cc=>by
  have hzrun:(zeroValue 134).run Tryz.prog W1= .ok zv W1:=by simp [zeroValue,typeInfo,hinf,hzv]
  have hst:=run_storeCells_cells (P:=Tryz.prog) b ((n - 1) * 2) zs 0 W1 (fun j hj=>by
   rw [hzs2] at hj
   have hlt:(n - 1) * 2 + 0 + j < cur1.size:=by rw [hc1];omega
   simp only [World.cell?,hh1]
   rw [Array.getElem?_eq_getElem hlt];rfl) (fun j hj=>by simp [World.frozen?,hh1]) hzo
  simp only [Nat.add_zero] at hst
  have hst':(storeCells ⟨b,(n - 1) * 2,none⟩ zs).run Tryz.prog W1= .ok () (W1.setCells b ((n - 1) * 2) zs):=hst
  simp [Builtin.clear_,run_underlying Tryz.underlying131,hzrun,hzz,hst']
 have hct1:cur1.toList.length=c * 2:=by rw [Array.length_toList,hc1]
 obtain⟨cur2,hh2,hl2⟩:=a2T b 134 zs ((n - 1) * 2) W1 cur1 hh1 (by rw [hc1,hzs2];omega)
 have hc2:cur2.size=c * 2:=by
  have:=congrArg List.length hl2
  rw [a5M (by rw [hct1,hzs2];omega),Array.length_toList,hct1] at this
  exact this
 have hfin:cur2.toList.take ((n - 1) * 2)=XA (l.eraseIdx k):=by
  rw [hl2,b4W (by rw [hct1,hzs2];omega) _ (Nat.le_refl _),hl1,Nat.zero_add,b7u (by rw [hct,hnl];omega) _ (by rw [hnl];omega)]
  have h0:(n - 1) * 2 - (k * 2 + news.length)=0:=by rw [hnl];omega
  rw [h0,List.take_zero,List.append_nil,hnews,List.eraseIdx_eq_take_drop_succ,a7T,<-b4U hz l k (by omega),<-htk,List.take_take]
  congr 2
  omega
 have hpost:b4X w (.slice (some ⟨b,0,none⟩) n c) (l.eraseIdx k) (.returned (.slice (some ⟨b,0,none⟩) (n - 1) c)) (W1.setCells b ((n - 1) * 2) zs):=by
  have hel:(l.eraseIdx k).length=n - 1:=by rw [List.length_eraseIdx];simp [hn ▸ hk,hn]
  refine⟨_,rfl,?_,rfl,rfl,?_⟩
  ·rw [hel]
   exact⟨by rw [a05 hz,hel],.inr ⟨b,c,cur2,rfl,Nat.zero_le _,hh2,by omega,hcm,hc2,hfin⟩⟩
  ·have g1:w.drew.grownBy W1 (some b):=by rw [hW1];exact a2J b _ news w.drew
   have g2:=a2J b ((n - 1) * 2) zs W1
   exact⟨g2.os.trans g1.os,g2.tape.trans g1.tape,g2.output.trans g1.output,Nat.le_trans g1.size g2.size,fun j hj hne=>(g2.block j (Nat.lt_of_lt_of_le hj g1.size) hne).trans (g1.block j hj hne)⟩
 have Hp:=Lib.hid hpost
 have Hc:=Lib.hid hclr
 have hsrc':=Lib.hid hsrc
 have s2':=Lib.hid s2
 have s3':=Lib.hid s3
 have hW:=Lib.hid hW1
 have hnl':=Lib.hid hnl
 clear hpost hfin hc2 hl2 hh2 hzo hzs2 hzs hzz hze hc1 hct hct1 hl1 hh1 hW1 s2 s3 hsrc hcell hnl hnews hL htk hcs hg hclr hn
 have mixed:Tryz.prog.follows Departure.mixedOrders=true:=by kernel_rfl
 have e1:¬ ((k:Int)=(k:Int) + 1):=by omega
 have e2:((k:Int) + 1).toNat=k + 1:=by omega
 have e3:(k:Int)<=(k:Int) + 1:=by omega
 have e4:(k:Int) + 1<=(n:Int):=by omega
 have e5:(n:Int)<=(c:Int):=by omega
 have e6:(0:Int)<=(k:Int) + 1:=by omega
 have e7:k + (n - (k + 1))=n - 1:=by omega
 have e8:k<=c:=by omega
 have e9:k + 1<=c:=by omega
 have e10:((n:Nat):Int).toNat=n:=by omega
 have e11:k + 1<=n:=by omega
 have e12:n - (n - 1)=1:=by omega
 go_enter Tryz.func90,Tryz.ntmps90
 go_wp2_with fail
 go_region_law_o (refine step_append_room rfl (.tmp 22) (.tmp 25) 131 rfl 134 inf 2 Tryz.underlying131 hinf hs' b 0 k c (by simp [Act.eval,Act.put]) A (n - (k + 1)) (c - (k + 1)) news (by simp [Act.eval,Act.put]) hnl'.out hsrc'.out s2'.out (by omega) s3'.out ?_;rw [<-hW.out])
 go_wp2_with (simp only [Hc.out,Result.andThen_ok])
 go_ret
 exact Hp.out
end Go.Proofs.YtacnfjjkhpkloaaGreat.Am
namespace Go.Proofs.YtacnfjjkhpkloaaGreat.Am
open Go Go.Proofs Go.RowKit
def uP:U:= .pr (.int .u64) (.int .i64)
def uX:U:= .pr .str (.sl uP)
abbrev PlD:Type:=Int × Int
abbrev IxD:Type:=List (List UInt8 × List PlD)
def a4K (k:List UInt8):Value:= .string ⟨k.toArray⟩
def c8T (c:List UInt8 × List PlD):List DV:=uX.enc c
def c5b (c:PlD):List DV:=uP.enc c
def XP (l:List PlD):List Value:=XA (u:=uP) l
def IxL (w:World):IxD->List MapEntry->List Nat->Prop
 | [],ms,xs=>ms=[]/\xs=[]
 | c :: cs,ms,xs=>∃ m r x y,ms=m :: r/\xs=x :: y/\m.key=a4K c.1/\obk m.val=some x/\w.ownsRow 0 134 2 m.val c.2.length (XP c.2)/\IxL w cs r y
theorem IxL.of {w:World}:∀ {l:IxD} {ms:List MapEntry} {xs:List Nat},SEs w 134 (l.map c8T) ms xs->IxL w l ms xs
 | [],_,_,h=>h
 | c :: l,ms,xs,h=>by
  simp only [List.map_cons,SEs] at h
  obtain⟨m,r,x,y,k,ps,vs,rfl,rfl,e,h1,h2,h3,h4,h5,h6⟩:=h
  have e':[DV.v (.string ⟨c.1.toArray⟩),DV.sl (c.2.map c5b)]=[DV.v (.string k),DV.sl ps]:=e
  injection e' with e1 e2
  injection e1 with e1
  injection e2 with e2 _
  injection e2 with e2
  subst e2
  have hx:=c4r (u:=uP) rfl h5
  subst hx
  refine⟨m,r,x,y,rfl,rfl,h1.trans e1.symm,h2,?_,IxL.of h6⟩
  rw [List.length_map] at h3
  exact h3
theorem IxL.to {w:World}:∀ {l:IxD} {ms:List MapEntry} {xs:List Nat},IxL w l ms xs->SEs w 134 (l.map c8T) ms xs
 | [],_,_,h=>h
 | c :: l,ms,xs,h=>by
  simp only [IxL] at h
  obtain⟨m,r,x,y,rfl,rfl,h1,h2,h3,h4⟩:=h
  simp only [List.map_cons,SEs]
  refine⟨m,r,x,y,⟨c.1.toArray⟩,c.2.map c5b,XP c.2,rfl,rfl,rfl,h1,h2,?_,fun p hp=>?_,c2g (u:=uP) rfl _,h4.to⟩
  ·rw [List.length_map];exact h3
  ·obtain⟨a,_,rfl⟩:=List.mem_map.1 hp
   rfl
theorem a4L {w w':World} {tp sz:Nat} {v:Value} {n:Nat} {xs:List Value} (h:w.ownsRow 0 tp sz v n xs) (hb:∀ b,obk v=some b->w'.heap[b]?=w.heap[b]?):w'.ownsRow 0 tp sz v n xs:=by
 refine⟨h.1,?_⟩
 rcases h.2 with h1 | ⟨g,cap,cur,hv,h2,hg,h3⟩
 ·exact .inl h1
 ·exact .inr ⟨g,cap,cur,hv,h2,(hb g (by rw [hv];rfl)).trans hg,h3⟩
theorem IxL.get {w:World}:∀ {l:IxD} {ms:List MapEntry} {xs:List Nat},IxL w l ms xs->∀ {i:Nat} (h:i < l.length),∃ m x,ms[i]?=some m/\xs[i]?=some x/\m.key=a4K l[i].1/\obk m.val=some x/\w.ownsRow 0 134 2 m.val l[i].2.length (XP l[i].2)
 | [],_,_,_,i,h=>by simp at h
 | c :: l,ms,xs,h,i,hi=>by
  simp only [IxL] at h
  obtain⟨m,r,x,y,rfl,rfl,h1,h2,h3,h4⟩:=h
  cases i with
  | zero=>exact⟨m,x,rfl,rfl,h1,h2,h3⟩
  | succ i=>exact h4.get (by simpa using hi)
theorem IxL.len {w:World}:∀ {l:IxD} {ms:List MapEntry} {xs:List Nat},IxL w l ms xs->ms.length=l.length/\xs.length=l.length
 | [],_,_,h=>by simp only [IxL] at h;simp [h.1,h.2]
 | c :: l,ms,xs,h=>by
  simp only [IxL] at h
  obtain⟨m,r,x,y,rfl,rfl,h1,h2,h3,h4⟩:=h
  simp [h4.len.1,h4.len.2]
theorem IxL.set {w w':World} {c:List UInt8 × List PlD} {m:MapEntry} {x:Nat} (k1:m.key=a4K c.1) (k2:obk m.val=some x) (k3:w'.ownsRow 0 134 2 m.val c.2.length (XP c.2)) :
  ∀ {l:IxD} {ms:List MapEntry} {xs:List Nat} (i:Nat),IxL w l ms xs->(∀ j b,j ≠ i->xs[j]?=some b->w'.heap[b]?=w.heap[b]?)->IxL w' (l.set i c) (ms.set i m) (xs.set i x)
 | [],ms,xs,i,h,_=>by simp only [IxL] at h;rw [h.1,h.2];simp [IxL]
 | d :: l,ms,xs,i,h,hk=>by
  simp only [IxL] at h
  obtain⟨m0,r,x0,y,rfl,rfl,h1,h2,h3,h4⟩:=h
  cases i with
  | zero=>
   simp only [List.set_cons_zero,IxL]
   refine⟨m,r,x,y,rfl,rfl,k1,k2,k3,?_⟩
   have:=IxL.set (w':=w') k1 k2 k3 l.length h4 (fun j b hj hb=>hk (j + 1) b (by simp) (by simpa using hb))
   rw [List.set_eq_of_length_le (Nat.le_refl _),List.set_eq_of_length_le (by rw [h4.len.1];exact Nat.le_refl _),List.set_eq_of_length_le (by rw [h4.len.2];exact Nat.le_refl _)] at this
   exact this
  | succ i=>
   simp only [List.set_cons_succ,IxL]
   exact⟨m0,r.set i m,x0,y.set i x,rfl,rfl,h1,h2,a4L h3 (fun b hb=>hk 0 b (by simp) (by rw [h2] at hb;injection hb with hb;subst hb;rfl)),IxL.set k1 k2 k3 i h4 (fun j b hj hb=>hk (j + 1) b (by omega) (by simpa using hb))⟩
theorem IxL.same {w w':World} {l:IxD} {ms:List MapEntry} {xs:List Nat} (h:IxL w l ms xs) (hk:∀ b ∈ xs,w'.heap[b]?=w.heap[b]?):IxL w' l ms xs:=by
 induction l generalizing ms xs with
 | nil=>exact h
 | cons c l ih=>
  simp only [IxL] at h ⊢
  obtain⟨m,r,x,y,rfl,rfl,h1,h2,h3,h4⟩:=h
  exact⟨m,r,x,y,rfl,rfl,h1,h2,a4L h3 (fun b hb=>hk b (by rw [h2] at hb;injection hb with hb;subst hb;simp)),ih h4 (fun b hb=>hk b (by simp [hb]))⟩
theorem IxL.app {w:World} {c:List UInt8 × List PlD} {m:MapEntry} {x:Nat} (k1:m.key=a4K c.1) (k2:obk m.val=some x) (k3:w.ownsRow 0 134 2 m.val c.2.length (XP c.2)):∀ {l:IxD} {ms:List MapEntry} {xs:List Nat},IxL w l ms xs->IxL w (l ++ [c]) (ms ++ [m]) (xs ++ [x])
 | [],ms,xs,h=>by simp only [IxL] at h;rw [h.1,h.2];exact⟨m,[],x,[],rfl,rfl,k1,k2,k3,rfl,rfl⟩
 | d :: l,ms,xs,h=>by
  simp only [IxL] at h
  obtain⟨m0,r,x0,y,rfl,rfl,h1,h2,h3,h4⟩:=h
  simp only [List.cons_append,IxL]
  exact⟨m0,r ++ [m],x0,y ++ [x],rfl,rfl,h1,h2,h3,h4.app k1 k2 k3⟩
theorem IxL.erase {w:World}:∀ {l:IxD} {ms:List MapEntry} {xs:List Nat} (i:Nat),IxL w l ms xs->IxL w (l.eraseIdx i) (ms.eraseIdx i) (xs.eraseIdx i)
 | [],ms,xs,i,h=>by simp only [IxL] at h;rw [h.1,h.2];simp [IxL]
 | d :: l,ms,xs,i,h=>by
  simp only [IxL] at h
  obtain⟨m0,r,x0,y,rfl,rfl,h1,h2,h3,h4⟩:=h
  cases i with
  | zero=>simpa using h4
  | succ i=>
   simp only [List.eraseIdx_cons_succ,IxL]
   exact⟨m0,r.eraseIdx i,x0,y.eraseIdx i,rfl,rfl,h1,h2,h3,h4.erase i⟩
def ixE (ms:List MapEntry):List (List DV):=ms.map fun m=>[.v m.key,.v m.val]
theorem b6r {I:Nat->Nat->Prop} {w:World}:∀ {ms:List MapEntry},(∀ m ∈ ms,m.key.oneCell'=true/\m.val.oneCell'=true)->MEs I w (mE false) (ixE ms) ms
 | [],_=>rfl
 | m :: ms,h=>by
  obtain⟨h1,h2⟩:=h m (by simp)
  simp only [ixE,List.map_cons,MEs]
  exact⟨m,ms,rfl,⟨⟨.v m.key,rfl,by simp only [DVr];exact⟨trivial,h1⟩⟩,⟨.v m.val,rfl,by simp only [DVr];exact⟨trivial,h2⟩⟩⟩,b6r fun x hx=>h x (by simp [hx])⟩
theorem MEs.eqE {I:Nat->Nat->Prop} {w:World}:∀ {es:List (List DV)} {ms:List MapEntry},(∀ e ∈ es,∃ a b,e=[.v a,.v b])->MEs I w (mE false) es ms->es=ixE ms
 | [],ms,_,h=>by simp only [MEs] at h;rw [h];rfl
 | e :: es,ms,ha,h=>by
  simp only [MEs] at h
  obtain⟨m,r,rfl,⟨⟨d,h1,h2⟩,⟨d',h3,h4⟩⟩,h5⟩:=h
  obtain⟨a,b,rfl⟩:=ha e (by simp)
  have e1:[DV.v a]=[d]:=h1
  have e2:[DV.v b]=[d']:=h3
  injection e1 with e1 _
  injection e2 with e2 _
  subst e1;subst e2
  simp only [DVr] at h2 h4
  rw [MEs.eqE (fun x hx=>ha x (by simp [hx])) h5,<-h2.1,<-h4.1]
  rfl
theorem IxL.ones {w:World}:∀ {l:IxD} {ms:List MapEntry} {xs:List Nat},IxL w l ms xs->∀ m ∈ ms,m.key.oneCell'=true/\m.val.oneCell'=true
 | [],_,_,h,m,hm=>by simp only [IxL] at h;rw [h.1] at hm;cases hm
 | c :: l,ms,xs,h,m,hm=>by
  simp only [IxL] at h
  obtain⟨m0,r,x,y,rfl,rfl,h1,h2,h3,h4⟩:=h
  rcases List.mem_cons.1 hm with rfl | hm
  ·refine⟨by rw [h1];rfl,?_⟩
   rcases h3.2 with⟨hv,_⟩ | ⟨g,cap,cur,hv,_⟩ <;> rw [hv] <;> rfl
  ·exact h4.ones m hm
theorem IxL.idx {w:World} (k:List UInt8):∀ {l:IxD} {ms:List MapEntry} {xs:List Nat},IxL w l ms xs->a4z (a4K k) (ixE ms)=a1r D3 k l
 | [],_,_,h=>by simp only [IxL] at h;rw [h.1];rfl
 | c :: l,ms,xs,h=>by
  simp only [IxL] at h
  obtain⟨m0,r,x,y,rfl,rfl,h1,h2,h3,h4⟩:=h
  show(if a0M (a4K k) m0.key then some 0 else(a4z (a4K k) (ixE r)).map (· + 1))=if D3 k c.1 then some 0 else(a1r D3 k l).map (· + 1)
  have e:a0M (a4K k) m0.key=D3 k c.1:=by rw [h1];exact a9Q (K:= .str) (a:=k) (b:=c.1) rfl rfl
  rw [e,h4.idx k]
theorem IxL.keys {w:World}:∀ {l:IxD} {ms:List MapEntry} {xs:List Nat},IxL w l ms xs->a5s .str (ixE ms)
 | [],_,_,h=>by simp only [IxL] at h;rw [h.1];intro c hc;cases hc
 | c :: l,ms,xs,h=>by
  simp only [IxL] at h
  obtain⟨m0,r,x,y,rfl,rfl,h1,h2,h3,h4⟩:=h
  intro e he
  rcases List.mem_cons.1 he with rfl | he
  ·exact⟨m0.key,[.v m0.val],rfl,by rw [h1];trivial⟩
  ·exact h4.keys e he
end Go.Proofs.YtacnfjjkhpkloaaGreat.Am
namespace Go.Proofs.YtacnfjjkhpkloaaGreat.Am.Ff
open Go
def Z0:U:=(.pr (.int .u64) .bool)
abbrev E7:Type:=Int × Bool
def a1W:E7:=((0:Int),false)
def o6:U:=(.pr (.int .i64) (.int .i64))
abbrev o5:Type:=Int × Int
def U8:o5:=((0:Int),(0:Int))
def B0:U:=(.pr (.int .u64) (.int .i64))
abbrev A1:Type:=Int × Int
def d_sender_place:A1:=((0:Int),(0:Int))
def C0:U:=(.pr (.sl (.int .i64)) (.int .i64))
abbrev A4:Type:=List Int × Int
def B1:U:=(.pr (.int .i64) (.pr (.int .u64) (.int .i64)))
abbrev o9:Type:=Int × A1
def C3:o9:=((0:Int),(0:Int),(0:Int))
def a2W:U:=(.pr .str (.pr (.pr (.int .u64) .bool) (.pr (.pr (.int .u64) .bool) (.pr (.int .u64) .bool))))
abbrev I9:Type:=List UInt8 × E7 × E7 × E7
def Y8:I9:=([],a1W,a1W,(0:Int),false)
def B2:U:=(.pr (.arr 32 .byte) (.pr (.sl .byte) (.pr .str (.pr (.int .u64) (.pr (.int .u64) (.pr (.int .u64) (.pr (.int .i64) (.pr (.int .i64) (.pr (.int .i64) (.sl (.int .i64)))))))))))
abbrev o7:Type:=Vector UInt8 32 × List UInt8 × List UInt8 × Int × Int × Int × Int × Int × Int × List Int
def B7:o7:=((Vector.replicate 32 (0:UInt8)),[],[],(0:Int),(0:Int),(0:Int),(0:Int),(0:Int),(0:Int),[])
def A8:U:=(.pr (.int .i64) (.pr (.int .i64) (.pr (.int .i64) (.pr (.int .i64) (.pr (.int .i64) (.pr (.int .i64) (.pr .bool (.pr (.int .i64) (.pr (.int .i64) (.pr (.int .u64) (.pr (.int .i64) (.int .i64))))))))))))
abbrev A0:Type:=Int × Int × Int × Int × Int × Int × Bool × Int × Int × Int × o5
def B3:U:=(.pr (.pr (.arr 32 .byte) (.pr (.sl .byte) (.pr .str (.pr (.int .u64) (.pr (.int .u64) (.pr (.int .u64) (.pr (.int .i64) (.pr (.int .i64) (.pr (.int .i64) (.sl (.int .i64))))))))))) (.pr (.int .i64) (.pr .bool (.int .i64))))
abbrev A6:Type:=o7 × Int × Bool × Int
def C4:A6:=(B7,(0:Int),false,(0:Int))
def B4:U:=(.pr (.pr (.int .i64) (.pr (.int .i64) (.pr (.int .i64) (.pr (.int .i64) (.pr (.int .i64) (.pr (.int .i64) (.pr .bool (.pr (.int .i64) (.pr (.int .i64) (.pr (.int .u64) (.pr (.int .i64) (.int .i64)))))))))))) (.sl (.pr (.arr 32 .byte) (.pr (.sl .byte) (.pr .str (.pr (.int .u64) (.pr (.int .u64) (.pr (.int .u64) (.pr (.int .i64) (.pr (.int .i64) (.pr (.int .i64) (.sl (.int .i64)))))))))))))
abbrev A5:Type:=A0 × List o7
def F_cmp_isNaN_uint64 (a0:Int):Option (Bool):=
 some (!decide (a0=a0))
def F_cmp_Compare_uint64 (a0:Int) (a1:Int):Option (Int):=
 (F_cmp_isNaN_uint64 a0).bind fun r1=>
 (F_cmp_isNaN_uint64 a1).bind fun r2=>
 sel r1 (
  sel r2 (
   some 0) (
   some (-1))) (
  sel r2 (
   some 1) (
   sel (decide (a0 < a1)) (
    some (-1)) (
    sel (decide (a1 < a0)) (
     some 1) (
     some 0))))
def F_sender_find_1 (a0:A1) (a1:Int):Option (Int):=
 (F_cmp_Compare_uint64 a0.1 a1).bind fun r1=>
 some r1
def F_slices_BinarySearchFunc_sender_place_sender_place_uint64_of_sender_find_1_c1 (v0:List A1) (v1:Int) (v8:Int) (v9:Int):Option (Int × Bool):=
 sel (decide (v9 < v8)) (
  chk (decide ((0:Int)<=v9/\v9 < (((List.length v0):Nat):Int))) <|
  (F_sender_find_1 (List.getD v0 (Int.toNat v9) d_sender_place) v1).bind fun r1=>
  some (v9,(decide (r1=0)))) (
  some (v9,false))
def F_slices_BinarySearchFunc_sender_place_sender_place_uint64_of_sender_find_1_l2 (v0:List A1) (v1:Int) (v8:Int) (v9:Int) (v10:Int):Option ((List A1 × Int × Int × Int × Int) ⊕ (Int × Bool)):=
 sel (decide (v9 < v10)) (
  chk (decide ((0:Int)<=(C6 ((a3P (C6 (v9 + v10))) / 2 ^ 1))/\(C6 ((a3P (C6 (v9 + v10))) / 2 ^ 1)) < (((List.length v0):Nat):Int))) <|
  (F_sender_find_1 (List.getD v0 (Int.toNat (C6 ((a3P (C6 (v9 + v10))) / 2 ^ 1))) d_sender_place) v1).bind fun r2=>
  sel (decide (r2 < 0)) (
   some (.inl (v0,v1,v8,(C6 ((C6 ((a3P (C6 (v9 + v10))) / 2 ^ 1)) + 1)),v10))) (
   some (.inl (v0,v1,v8,v9,(C6 ((a3P (C6 (v9 + v10))) / 2 ^ 1)))))) (
  Option.map .inr (
   F_slices_BinarySearchFunc_sender_place_sender_place_uint64_of_sender_find_1_c1 v0 v1 v8 v9))
def F_slices_BinarySearchFunc_sender_place_sender_place_uint64_of_sender_find_1_l2s (v0:List A1) (v1:Int) (v8:Int) (v9:Int) (v10:Int):Option (Int × Bool):=
 Q9 (fun v=>F_slices_BinarySearchFunc_sender_place_sender_place_uint64_of_sender_find_1_l2 v.1 v.2.1 v.2.2.1 v.2.2.2.1 v.2.2.2.2) (v0,v1,v8,v9,v10)
def F_slices_BinarySearchFunc_sender_place_sender_place_uint64_of_sender_find_1 (a0:List A1) (a1:Int):Option (Int × Bool):=
 F_slices_BinarySearchFunc_sender_place_sender_place_uint64_of_sender_find_1_l2s a0 a1 (((List.length a0):Nat):Int) 0 (((List.length a0):Nat):Int)
def F_sender_find (a0:List A1) (a1:Int):Option (Int × Bool):=
 (F_slices_BinarySearchFunc_sender_place_sender_place_uint64_of_sender_find_1 a0 a1).bind fun r1=>
 some (r1.1,r1.2)
end Go.Proofs.YtacnfjjkhpkloaaGreat.Am.Ff
namespace Go.Proofs.YtacnfjjkhpkloaaGreat.Am.Ff
open Go
set_option maxRecDepth 100000
noncomputable def a4d:TFn:=mkT (.cons (.c (.d (.int .u64))) .nil) .nil (.cons (.c (.d .bool)) .nil) fun a=>F_cmp_isNaN_uint64 a.1
theorem a7f:FnT Tryz.prog 100 a4d:=fnV TU [] W5 (C5) Tryz.func100 (.leaf)
noncomputable def a3r:TFn:=mkT (.cons (.c (.d (.int .u64))) (.cons (.c (.d (.int .u64))) .nil)) .nil (.cons (.c (.d (.int .i64))) .nil) fun a=>F_cmp_Compare_uint64 a.1 a.2.1
theorem a5T:FnT Tryz.prog 74 a3r:=fnV TU [(100,a4d)] W5 (A9 a7f C5) Tryz.func74 (.leaf)
noncomputable def a5U:TFn:=mkT (.cons (.agg (.cons (.d B0) .nil)) (.cons (.c (.d (.int .u64))) .nil)) .nil (.cons (.c (.d (.int .i64))) .nil) fun a=>F_sender_find_1 a.1.1 a.2.1
theorem a8W:FnT Tryz.prog 111 a5U:=fnV TU [(74,a3r)] W5 (A9 a5T C5) Tryz.func111 (.leaf)
noncomputable def E0:TFn:=mkT (.cons (.c (.d (.sl B0))) (.cons (.c (.d (.int .u64))) (.cons (.c (.fn 111)) .nil))) .nil (.cons (.c (.d (.int .i64))) (.cons (.c (.d .bool)) .nil)) fun a=>F_slices_BinarySearchFunc_sender_place_sender_place_uint64_of_sender_find_1 a.1 a.2.1
theorem H8:FnT Tryz.prog 110 E0:=fnV TU [(111,a5U)] W5 (A9 a8W C5) Tryz.func110 (.two .leaf (.two .leaf (.two .leaf (.ct ⟨49,[zd 0 (.sl B0),zd 1 (.int .u64),(2,.one (.fn 111)),zi 8,zi 9],[],[]⟩ (fun v=>F_slices_BinarySearchFunc_sender_place_sender_place_uint64_of_sender_find_1_c1 v.1 v.2.1 v.2.2.1 v.2.2.2) (.one (.lp ⟨49,[zd 0 (.sl B0),zd 1 (.int .u64),(2,.one (.fn 111)),zi 8,zi 9,zi 10],[],[]⟩ (fun v=>F_slices_BinarySearchFunc_sender_place_sender_place_uint64_of_sender_find_1_l2 v.1 v.2.1 v.2.2.1 v.2.2.2.1 v.2.2.2.2) .leaf)) .leaf))))
noncomputable def g_sender_find:TFn:=mkT (.cons (.c (.d (.sl B0))) (.cons (.c (.d (.int .u64))) .nil)) .nil (.cons (.c (.d (.int .i64))) (.cons (.c (.d .bool)) .nil)) fun a=>F_sender_find a.1 a.2.1
theorem ok_sender_find:FnT Tryz.prog 88 g_sender_find:=fnV TU [(110,E0)] W5 (A9 H8 C5) Tryz.func88 (.leaf)
end Go.Proofs.YtacnfjjkhpkloaaGreat.Am.Ff
