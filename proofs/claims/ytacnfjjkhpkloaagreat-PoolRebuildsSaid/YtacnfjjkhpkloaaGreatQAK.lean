/- Texts laid together: SendA, SendB. No conditions. -/
import Derived.Test.YtacnfjjkhpkloaaGreatQAJ
import Derived.Test.YtacnfjjkhpkloaaGreatKA
import Derived.Deep.RegionHeld3
namespace Go.Proofs.YtacnfjjkhpkloaaGreat.Am
open Go Go.Proofs Go.RowKit Go.MapKept
theorem IxL.congr {w:World}:∀ {l:IxD} {ms ms':List MapEntry} {xs:List Nat},ixE ms=ixE ms'->IxL w l ms xs->IxL w l ms' xs
 | [],ms,ms',xs,e,h=>by
  simp only [IxL] at h ⊢
  rw [h.1] at e
  exact⟨List.map_eq_nil_iff.1 e.symm,h.2⟩
 | c :: l,ms,ms',xs,e,h=>by
  simp only [IxL] at h ⊢
  obtain⟨m,r,x,y,rfl,rfl,h1,h2,h3,h4⟩:=h
  cases ms' with
  | nil=>cases e
  | cons m' r'=>
   simp only [ixE,List.map_cons] at e
   injection e with e1 e2
   injection e1 with e3 e4
   injection e3 with e3
   injection e4 with e4 _
   injection e4 with e4
   exact⟨m',r',x,y,rfl,rfl,e3 ▸ h1,e4 ▸ h2,e4 ▸ h3,IxL.congr e2 h4⟩
theorem b93 (k:List UInt8):KK ti9.k (a4K k):=trivial
def ixX (k:List UInt8) (x:Nat) (l:IxD) (xs:List Nat):List Nat:=match a1r D3 k l with
 | some i=>xs.set i x
 | none=>xs ++ [x]
def ixY (k:List UInt8) (l:IxD) (xs:List Nat):List Nat:=match a1r D3 k l with
 | some i=>xs.eraseIdx i
 | none=>xs
set_option maxRecDepth 100000
section
variable {w:World} {g cl:Nat} {en:Array MapEntry} {l:IxD} {xs:List Nat} (k:List UInt8)
theorem a8m (_hh:w.heap[g]?=some (.map en cl)) (hl:IxL w l en.toList xs) :
  ∃ v,(∀ W:World,W.heap[g]?=some (.map en cl)->(Instr.lookup 159 (.map (some g)) (a4K k) false).run Tryz.prog W= .ok v W)/\w.ownsRow 0 134 2 v (W4 D3 k [] l).length (XP (W4 D3 k [] l))/\∀ b,obk v=some b->∃ i,a1r D3 k l=some i/\xs[i]?=some b:=by
 obtain⟨f1,f2,f3,f4,f5⟩:=a7x false
 obtain⟨d,hd,hkd,hdd,hKd⟩:=(b93 k).isKey c7H
 have hf:=fun W:World=>a5a f1 f2 hdd hkd hKd 0 (b6r (I:=fun _ _=>False) (w:=W) hl.ones) hl.keys
 replace hf:=hf w
 rw [hl.idx k] at hf
 cases hi:a1r D3 k l with
 | none=>
  rw [hi] at hf
  obtain⟨inf,z,q1,_,_,q4,q5,_,q7⟩:=b9W.info
  have hz:∀ W:World,(zeroValue 131).run Tryz.prog W= .ok z W:=fun W=>by simp [zeroValue,typeInfo,q1,q4]
  have hz0:z= .slice none 0 0:=by
   have ha:=b9W.agg inf z q1 q4
   have hc:z.cells.toList=[z]:=by cases z <;> first | rfl | (simp [b0J] at ha;exact absurd ha (by decide))
   rw [hc] at q5
   have q5:[z]=[Value.slice none 0 0]:=q5
   injection q5
  subst hz0
  refine⟨.slice none 0 0,fun W hW=>by simp [Instr.lookup,run_underlying Tryz.underlying159,MapKept.run_getObj_map hW,run_checkKey hd hkd,run_findKey hd hf],?_,?_⟩
  ·have:W4 D3 k [] l=[]:=by unfold W4;rw [hi];rfl
   rw [this]
   exact World.ownsRow_nil w 0 _ _
  ·intro b hb;cases hb
 | some i=>
  rw [hi] at hf
  have hil:=a9R hi
  obtain⟨m,x,h1,h2,h3,h4,h5⟩:=hl.get hil
  have hmd':en.toList.getD i default=m:=by rw [List.getD_eq_getElem?_getD,h1];rfl
  simp only [Option.map_some,hmd'] at hf
  have hget:W4 D3 k [] l=l[i].2:=by unfold W4;rw [hi];simp [List.getElem?_eq_getElem hil]
  refine⟨m.val,fun W hW=>by simp [Instr.lookup,run_underlying Tryz.underlying159,MapKept.run_getObj_map hW,run_checkKey hd hkd,run_findKey hd hf],by rw [hget];exact h5,fun b hb=>⟨i,rfl,?_⟩⟩
  rw [h4] at hb;injection hb with hb;rw [h2,hb]
theorem c67 {W:World} (hh:W.heap[g]?=some (.map en cl)) (hb:a8c en.toList cl) (hl:IxL w l en.toList xs) (hold:∀ j b,a1r D3 k l ≠ some j->xs[j]?=some b->W.heap[b]?=w.heap[b]?) {v:Value} {p:List PlD} {x:Nat} (hx:obk v=some x)
  (ho:W.ownsRow 0 134 2 v p.length (XP p)) (hxg:x ≠ g) (hxs:∀ b ∈ xs,b ≠ g) :
  ∃ en' cl',(Instr.mapUpdate 159 (.map (some g)) (a4K k) v).run Tryz.prog W= .ok () {W with heap:=W.heap.setIfInBounds g (.map en' cl')}/\a8c en'.toList cl'/\IxL {W with heap:=W.heap.setIfInBounds g (.map en' cl')} (a1V D3 k p l) en'.toList (ixX k x l xs):=by
 obtain⟨f1,f2,f3,f4,f5⟩:=a7x false
 have hme:=b6r (I:=fun _ _=>False) (w:=W) hl.ones
 have hone:v.oneCell'=true:=by rcases ho.2 with⟨hv,_⟩ | ⟨g,cap,cur,hv,_⟩ <;> rw [hv] <;> rfl
 obtain⟨en',cl',h1,h2,h3⟩:=b8t (k:=TK.str) (kv:=a4K k) (x:=[.v v]) Tryz.underlying159 (show b0r Tryz.prog 9 TK.str from a8D c7H rfl) hh f1 f2 f3 hme hb (show KL TK.str (a4K k) from trivial) hl.keys ⟨.v v,rfl,by simp only [DVr];exact⟨rfl,hone⟩⟩
 have hrk:X1 TK.str (a4K k)=a4K k:=rfl
 rw [hrk] at h1
 refine⟨en',cl',h1,h3,?_⟩
 have hW:∀ b,b ≠ g->({W with heap:=W.heap.setIfInBounds g (.map en' cl')}:World).heap[b]?=W.heap[b]?:=fun b hb=>by
  simp only [Array.getElem?_setIfInBounds]
  rw [if_neg (Ne.symm hb)]
 have ho':=a4L (w':={W with heap:=W.heap.setIfInBounds g (.map en' cl')}) ho (fun b hb=>by rw [hx] at hb;injection hb with hb;subst hb;exact hW _ hxg)
 unfold a8e at h2
 rw [hl.idx k] at h2
 have hform:∀ e ∈ ixE en.toList,∃ a b,e=[DV.v a,DV.v b]:=fun e he=>by obtain⟨m,_,rfl⟩:=List.mem_map.1 he;exact⟨_,_,rfl⟩
 cases hi:a1r D3 k l with
 | none=>
  rw [hi] at h2
  have e:=MEs.eqE (fun e he=>by
   rcases List.mem_append.1 he with he | he
   ·exact hform e he
   ·rw [List.mem_singleton.1 he];exact⟨_,_,rfl⟩) h2
  have e':ixE (en.toList ++ [⟨a4K k,v,0⟩])=ixE en'.toList:=by rw [<-e];unfold ixE;rw [List.map_append];rfl
  unfold a1V ixX
  simp only [hi]
  refine IxL.congr e' (IxL.app (c:=(k,p)) rfl hx ho' (hl.same fun b hb=>?_))
  obtain⟨j,hj,rfl⟩:=List.getElem_of_mem hb
  exact(hW _ (hxs _ hb)).trans (hold j _ (by rw [hi];intro h;cases h) (List.getElem?_eq_getElem hj))
 | some i=>
  rw [hi] at h2
  have e:=MEs.eqE (fun e he=>by
   rcases List.mem_or_eq_of_mem_set he with he | rfl
   ·exact hform e he
   ·exact⟨_,_,rfl⟩) h2
  have e':ixE (en.toList.set i ⟨a4K k,v,0⟩)=ixE en'.toList:=by rw [<-e];unfold ixE;rw [List.map_set]
  unfold a1V ixX
  simp only [hi]
  exact IxL.congr e' (IxL.set (c:=(k,p)) rfl hx ho' i hl fun j b hj hb=>(hW b (hxs b (List.mem_of_getElem? hb))).trans (hold j b (by rw [hi];intro h;injection h with h;exact hj h.symm) hb))
theorem c68 {W:World} (hh:W.heap[g]?=some (.map en cl)) (hb:a8c en.toList cl) (hl:IxL W l en.toList xs) (hxs:∀ b ∈ xs,b ≠ g) :
  ∃ en',(∀ ty,(Builtin.delete_ #[159,9] ty #[.map (some g),a4K k]).run Tryz.prog W= .ok (.tuple #[]) {W with heap:=W.heap.setIfInBounds g (.map en' cl)})/\a8c en'.toList cl/\IxL {W with heap:=W.heap.setIfInBounds g (.map en' cl)} (a5u D3 k l) en'.toList (ixY k l xs):=by
 obtain⟨f1,f2,f3,f4,f5⟩:=a7x false
 have hme:=b6r (I:=fun _ _=>False) (w:=W) hl.ones
 obtain⟨d,hd,hkd,hdd,hKd⟩:=(b93 k).isKey c7H
 have hf:=a5a f1 f2 hdd hkd hKd 0 hme hl.keys
 rw [hl.idx k] at hf
 have hW:∀ en':Array MapEntry,∀ b,b ≠ g->({W with heap:=W.heap.setIfInBounds g (.map en' cl)}:World).heap[b]?=W.heap[b]?:=fun en' b hb=>by
  simp only [Array.getElem?_setIfInBounds]
  rw [if_neg (Ne.symm hb)]
 have hs:=fun en':Array MapEntry=>hl.same (w':={W with heap:=W.heap.setIfInBounds g (.map en' cl)}) (fun b hb=>hW en' b (hxs b hb))
 cases hi:a1r D3 k l with
 | none=>
  rw [hi] at hf
  refine⟨en,fun ty=>?_,hb,by unfold a5u ixY;simp only [hi];exact hs en⟩
  simp [Builtin.delete_,run_underlying Tryz.underlying159,MapKept.run_getObj_map hh,run_checkKey hd hkd,run_findKey hd hf,MapKept.run_setObj_map _ hh]
 | some i=>
  rw [hi] at hf
  have hj2:i < en.size:=by rw [<-Array.length_toList,hl.len.1];exact a9R hi
  have hle:(en.eraseIdxIfInBounds (0 + i)).toList=en.toList.eraseIdx i:=by simp [Array.eraseIdxIfInBounds,hj2]
  refine⟨en.eraseIdxIfInBounds (0 + i),fun ty=>?_,by rw [hle];exact b0T hb,by unfold a5u ixY;simp only [hi];rw [hle];exact(hs _).erase i⟩
  simp [Builtin.delete_,run_underlying Tryz.underlying159,MapKept.run_getObj_map hh,run_checkKey hd hkd,run_findKey hd hf,MapKept.run_setObj_map _ hh]
end
end Go.Proofs.YtacnfjjkhpkloaaGreat.Am
namespace Go.Proofs.YtacnfjjkhpkloaaGreat.Am
open Go Go.Proofs Go.RowKit Go.MapKept
theorem a6r {w:World} {I:Nat->Nat->Prop} (hIn:∀ b o,I b o->b < w.heap.size) (hgl:b7X I w) {v:Value} {ps:List PlD} {q:Int} {r:Int × Bool} (how:w.ownsRow 0 134 2 v ps.length (XP ps)) (hr:Ff.F_sender_find ps q=some r) :
  Calls Tryz.prog 88 #[v,.int .u64 q] w fun e w'=>e= .returned (.tuple #[.int .i64 r.1,.bool r.2])/\w.grownBy w' none:=by
 have hdv:DVr (fun b o=>I b o\/(obk v=some b/\o < ps.length * 2)) w (.sl (ps.map c5b)) v:=by
  have hd:H6 (fun b o=>I b o\/(obk v=some b/\o < ps.length * 2)) w (ps.map c5b) (XP ps):=c2g (u:=uP) rfl ps
  have hes:∀ e ∈ ps.map c5b,e.length=2:=fun e he=>by obtain⟨a,_,rfl⟩:=List.mem_map.1 he;rfl
  simp only [DVr]
  rcases how.2 with⟨hv,h0⟩ | ⟨g,cap,cur,hv,_,hg,h1,h2,_⟩
  ·exact⟨none,0,2,XP ps,by rw [hv,List.length_map,h0],by rw [List.length_map,h0];exact Nat.le_refl _,by simp [maxLen],by decide,hes,fun h=>by rw [List.length_map] at h;omega,hd⟩
  ·refine⟨some ⟨g,0,none⟩,cap,2,XP ps,by rw [List.length_map];exact hv,by rw [List.length_map];exact h1,h2,by decide,hes,fun _=>⟨_,rfl,fun j x hj=>⟨how.cells (g:=g) (by rw [hv];rfl) j x hj,.inr ⟨by rw [hv];rfl,?_⟩⟩⟩,hd⟩
   have:=(List.getElem?_eq_some_iff.1 hj).1
   rw [how.1] at this
   simpa using this
 have hlt:∀ b,obk v=some b->b < w.heap.size:=fun b hb=>(how.lt b (by rw [<-a0j how];exact hb)).2
 have hcall:=Ff.ok_sender_find.ok.calls w (fun b o=>I b o\/(obk v=some b/\o < ps.length * 2)) [] #[v,.int .u64 q] (Ff.g_sender_find.args.oas (ps,q,())) (fun b o hb=>by
  rcases hb with hb | ⟨hb,_⟩
  ·exact hIn b o hb
  ·exact hlt b hb) (hgl.mono (fun _ _ h=> .inl h) (a2R.refl _ _)) (by
  show OAs _ w [.c (.d (.sl (ps.map c5b))),.c (.d (.v (.int .u64 q)))] [v,.int .u64 q] []
  simp only [OAs,OAr,OCr,DVr]
  exact⟨v,[.int .u64 q],[],[],rfl,⟨rfl,by simpa only [DVr] using hdv⟩,⟨.int .u64 q,[],[],[],rfl,⟨rfl,rfl,rfl⟩,⟨rfl,rfl⟩,rfl⟩,rfl⟩) List.nodup_nil ⟨(ps,q,()),r,rfl,hr⟩
 refine Calls.mono hcall fun o w' h1=>?_
 cases o <;> try exact h1.elim
 case returned v'=>
  obtain⟨I',vs,Fp,Fr',hv',H⟩:=h1
  have eres:(Ff.g_sender_find.spec.res (Ff.g_sender_find.args.oas (ps,q,())))=[.c (.d (.v (.int .i64 r.1))),.c (.d (.v (.bool r.2)))]:=by
   rw [TFn.res_of (S:=Ff.g_sender_find) (a:=(ps,q,())) (r:=r) rfl hr];rfl
  have hres:=H.res
  rw [eres] at hres
  simp only [OAs,OAr,OCr,DVr] at hres
  obtain⟨x,q1,F1,F2,rfl,⟨rfl,rfl,_⟩,⟨y,q2,F3,F4,rfl,⟨rfl,rfl,_⟩,⟨rfl,rfl⟩,rfl⟩,rfl⟩:=hres
  exact⟨by rw [hv'];rfl,⟨H.fr.os,H.fr.tape,H.fr.output,H.fr.size,fun k hk _=>H.fr.block k hk (by simp)⟩⟩
end Go.Proofs.YtacnfjjkhpkloaaGreat.Am
