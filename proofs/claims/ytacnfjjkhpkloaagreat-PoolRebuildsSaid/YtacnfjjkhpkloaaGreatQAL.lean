/- sender.Index.Add: what it does to the memory. No conditions. -/
import Derived.Test.YtacnfjjkhpkloaaGreatQAK
namespace Go.Proofs.YtacnfjjkhpkloaaGreat.Am
open Go Go.Proofs Go.RowKit Go.MapKept
def IxW (w:World) (bx:Nat) (l:IxD) (n:Int) (g:Nat) (xs:List Nat):Prop:=∃ en cl ty,w.heap[bx]?=some (.cells #[.map (some g),.int .i64 n] ty (0,0))/\w.heap[g]?=some (.map en cl)/\a8c en.toList cl/\(g :: xs).Nodup/\bx ∉ g :: xs/\IxL w l en.toList xs
structure IxF (w w':World) (bx g:Nat) (xs xs':List Nat):Prop where
 os:w'.os=w.os
 tape:w'.tape=w.tape
 output:w'.output=w.output
 size:w.heap.size<=w'.heap.size
 block:∀ k,k < w.heap.size->k ≠ bx->k ≠ g->k ∉ xs->w'.heap[k]?=w.heap[k]?
 new:∀ x ∈ xs',x ∈ xs\/w.heap.size<=x
def c7I (l:IxD) (n:Int) (k:List UInt8) (q id:Int):Option (IxD × Int × Bool):=
 (Ff.F_sender_find (W4 D3 k [] l) q).bind fun r=>
 sel r.2 (some (l,n,false)) (chk (decide ((0:Int)<=r.1/\r.1<=(((W4 D3 k [] l).length:Nat):Int)/\((W4 D3 k [] l).length + 1) * 16<=140737488355328)) (some (a1V D3 k ((W4 D3 k [] l).take r.1.toNat ++ (q,id) :: (W4 D3 k [] l).drop r.1.toNat) l,C6 (n + 1),true)))
theorem b7w {W:World} {b:Nat} {x y:Value} {ty:TypeId} (h:W.heap[b]?=some (.cells #[x,y] ty (0,0))):W.cell? ⟨b,0,none⟩=some x:=by simp [World.cell?,h]
theorem c4u {W:World} {b:Nat} {x y:Value} {ty:TypeId} (h:W.heap[b]?=some (.cells #[x,y] ty (0,0))):W.cell? ⟨b,1,none⟩=some y:=by simp [World.cell?,h]
theorem c4v {W:World} {b:Nat} {cs:Array Value} {ty:TypeId} {o:Nat} (h:W.heap[b]?=some (.cells cs ty (0,0))):W.frozen? ⟨b,o,none⟩=false:=by simp [World.frozen?,h]
set_option maxHeartbeats 4000000 in
set_option maxRecDepth 100000 in
theorem b94 {w:World} {I:Nat->Nat->Prop} (hIn:∀ b o,I b o->b < w.heap.size) (hgl:b7X I w) {bx g:Nat} {l:IxD} {n:Int} {xs:List Nat} {k:List UInt8} {q id:Int} {r:Int × Bool} (hw:IxW w bx l n g xs) (hr:Ff.F_sender_find (W4 D3 k [] l) q=some r) (hr2:r.2=true) :
  Calls Tryz.prog 58 #[.pointer (some ⟨bx,0,none⟩),a4K k,.int .u64 q,.int .i64 id] w fun e w'=>e= .returned (.bool false)/\w.grownBy w' none:=by
 obtain⟨en,cl,ty,hbx,hg,hb,hnd,hnb,hl⟩:=hw
 obtain⟨v,hlook,how,hob⟩:=a8m k hg hl
 have hfind:=a6r hIn hgl how hr
 have hc0:w.cell? ⟨bx,0,none⟩=some (.map (some g)):=by simp [World.cell?,hbx]
 have hR:=Lib.hid hr2
 have hv1:v.oneCell'=true:=by rcases how.2 with⟨hv,_⟩ | ⟨_,_,_,hv,_⟩ <;> rw [hv] <;> rfl
 have hlook:=hlook w hg
 generalize hkk:a4K k=kv at hlook ⊢
 clear hr hr2 hob how hl hb hnd hnb hbx hg hkk hIn hgl
 go_enter Tryz.func58,Tryz.ntmps58
 go_wp2_with (first | (simp only [hlook]) | (go_at_call 88;refine hfind.mono ?_;rintro e w1 ⟨rfl,hg1⟩;rw [hR.out]))
 go_ret
 exact⟨rfl,hg1⟩
theorem b95 (n:Int):wrap64 n=C6 n:=by unfold wrap64 C6;rw [IntKind.wrap_i64]
theorem b2g {W:World} {b:Nat} {x y:Value} {ty:TypeId} (h:W.heap[b]?=some (.cells #[x,y] ty (0,0))) (z:Value):(W.setCell ⟨b,1,none⟩ z).heap[b]?=some (.cells #[x,z] ty (0,0))/\(∀ k,k ≠ b->(W.setCell ⟨b,1,none⟩ z).heap[k]?=W.heap[k]?)/\W.heap.size<=(W.setCell ⟨b,1,none⟩ z).heap.size:=by
 refine⟨?_,fun k hk=>?_,?_⟩
 ·simp [World.setCell,Array.getElem?_modify,h]
 ·simp only [World.setCell,Array.getElem?_modify]
  rw [if_neg (Ne.symm hk)]
 ·simp [World.setCell]
theorem b96 {k:List UInt8} {x y:Nat} {l:IxD} {xs:List Nat} (h:y ∈ ixX k x l xs):y ∈ xs\/y=x:=by
 unfold ixX at h
 split at h
 ·exact List.mem_or_eq_of_mem_set h
 ·rcases List.mem_append.1 h with h | h
  ·exact .inl h
  ·exact .inr (List.mem_singleton.1 h)
theorem b3t {α:Type} {a:α}:∀ {l:List α} {i:Nat},l.Nodup->a ∉ l->(l.set i a).Nodup
 | [],_,_,_=>by simp
 | b :: l,0,h,ha=>by
  rw [List.set_cons_zero,List.nodup_cons]
  exact⟨fun k=>ha (List.mem_cons_of_mem _ k),(List.nodup_cons.1 h).2⟩
 | b :: l,i + 1,h,ha=>by
  rw [List.set_cons_succ,List.nodup_cons]
  rw [List.nodup_cons] at h
  refine⟨fun k=>?_,b3t h.2 fun k=>ha (List.mem_cons_of_mem _ k)⟩
  rcases List.mem_or_eq_of_mem_set k with k | k
  ·exact h.1 k
  ·exact ha (by rw [<-k];exact List.mem_cons_self ..)
theorem b97 {k:List UInt8} {x:Nat} {l:IxD} {xs:List Nat} (hn:xs.Nodup) (hx:x ∉ xs\/∃ j,a1r D3 k l=some j/\xs[j]?=some x):(ixX k x l xs).Nodup:=by
 unfold ixX
 rcases hx with hx | ⟨j,h1,h2⟩
 ·split
  ·exact b3t hn hx
  ·rw [List.nodup_append]
   exact⟨hn,by simp,fun a ha b hb e=>hx (by rw [<-List.mem_singleton.1 hb,<-e];exact ha)⟩
 ·rw [h1]
  obtain⟨hj,rfl⟩:=List.getElem?_eq_some_iff.1 h2
  simp only [List.set_getElem_self]
  exact hn
theorem b3u {w W W2:World} {bx g:Nat} {l:IxD} {n n':Int} {xs:List Nat} {k:List UInt8} {en:Array MapEntry} {cl:Nat} {ty:TypeId} {v v':Value} {p:List PlD} (hbx:w.heap[bx]?=some (.cells #[.map (some g),.int .i64 n] ty (0,0))) (hg:w.heap[g]?=some (.map en cl)) (hb:a8c en.toList cl) (hnd:(g :: xs).Nodup) (hnb:bx ∉ g :: xs) (hl:IxL w l en.toList xs)
  (hob:∀ b,obk v=some b->∃ i,a1r D3 k l=some i/\xs[i]?=some b) (hW:∀ b,b < w.heap.size->W.heap[b]?=w.heap[b]?) (hlt:w.heap.size<=W.heap.size) (hos:W.os=w.os/\W.tape=w.tape/\W.output=w.output) {x:Nat} (hx:obk v'=some x) (ho:W2.ownsRow 0 134 2 v' p.length (XP p))
  (halt:(obk v'=obk v/\W.grownBy W2 (obk v))\/(W.grownBy W2 none/\obk v'=some W.heap.size)) :
  W2.cell? ⟨bx,0,none⟩=some (.map (some g))/\∃ (WA:World) (xs':List Nat),(Instr.mapUpdate 159 (.map (some g)) (a4K k) v').run Tryz.prog W2= .ok () WA/\WA.heap[bx]?=some (.cells #[.map (some g),.int .i64 n] ty (0,0))/\IxW WA bx (a1V D3 k p l) n g xs'/\IxF w WA bx g xs xs'/\
    ∀ W3:World,W3.heap[bx]?=some (.cells #[.map (some g),.int .i64 n'] ty (0,0))->(∀ b,b ≠ bx->W3.heap[b]?=WA.heap[b]?)->W3.os=WA.os->W3.tape=WA.tape->W3.output=WA.output->WA.heap.size<=W3.heap.size->
     IxW W3 bx (a1V D3 k p l) n' g xs'/\IxF w W3 bx g xs xs':=by
 have hbxl:bx < w.heap.size:=(Array.getElem?_eq_some_iff.1 hbx).1
 have hgl:g < w.heap.size:=(Array.getElem?_eq_some_iff.1 hg).1
 have hxl:∀ b ∈ xs,b < w.heap.size:=fun b hb=>SEs.lt hl.to b hb
 have hvx:∀ b,obk v=some b->b ∈ xs:=fun b hb=>by obtain⟨j,_,h⟩:=hob b hb;exact List.mem_of_getElem? h
 have hgx:g ∉ xs:=(List.nodup_cons.1 hnd).1
 have hnx:xs.Nodup:=(List.nodup_cons.1 hnd).2
 have hbg:bx ≠ g:=fun e=>hnb (by simp [e])
 have hbxs:bx ∉ xs:=fun e=>hnb (by simp [e])
 have hW2:∀ b,b < w.heap.size->obk v ≠ some b->W2.heap[b]?=w.heap[b]?:=fun b hbl hne=>by
  rcases halt with⟨_,h⟩ | ⟨h,_⟩
  ·exact(h.block b (by omega) (fun e=>hne e.symm)).trans (hW b hbl)
  ·exact(h.block b (by omega) (by simp)).trans (hW b hbl)
 have hr:W2.os=w.os/\W2.tape=w.tape/\W2.output=w.output/\w.heap.size<=W2.heap.size:=by
  rcases halt with⟨_,h⟩ | ⟨h,_⟩
  ·exact⟨h.os.trans hos.1,h.tape.trans hos.2.1,h.output.trans hos.2.2,Nat.le_trans hlt h.size⟩
  ·exact⟨h.os.trans hos.1,h.tape.trans hos.2.1,h.output.trans hos.2.2,Nat.le_trans hlt h.size⟩
 have hxc:(∃ j,a1r D3 k l=some j/\xs[j]?=some x)\/w.heap.size<=x:=by
  rcases halt with⟨h,_⟩ | ⟨_,h⟩
  ·exact .inl (hob x (by rw [<-h];exact hx))
  ·rw [hx] at h;injection h with h;right;omega
 have hxm:x ∈ xs\/w.heap.size<=x:=hxc.imp (fun⟨j,_,h⟩=>List.mem_of_getElem? h) id
 have hxg:x ≠ g:=fun e=>by rcases hxm with h | h;exact hgx (e ▸ h);omega
 have hxb:x ≠ bx:=fun e=>by rcases hxm with h | h;exact hbxs (e ▸ h);omega
 have hxn:x ∉ xs\/∃ j,a1r D3 k l=some j/\xs[j]?=some x:=by
  rcases hxc with h | h
  ·exact .inr h
  ·exact .inl fun k=>by have:=hxl x k;omega
 have hbx2:W2.heap[bx]?=some (.cells #[.map (some g),.int .i64 n] ty (0,0)):=(hW2 bx hbxl fun e=>hbxs (hvx _ e)).trans hbx
 obtain⟨en',cl',h1,h2,h3⟩:=c67 k (w:=w) (W:=W2) (v:=v') (p:=p) (x:=x) ((hW2 g hgl fun e=>hgx (hvx _ e)).trans hg) hb hl (fun j b hj hjb=>hW2 b (hxl b (List.mem_of_getElem? hjb)) fun e=>by
  obtain⟨i,i1,i2⟩:=hob b e
  have hij:i=j:=(List.getElem?_inj (List.getElem?_eq_some_iff.1 i2).1 hnx).1 (i2.trans hjb.symm)
  exact hj (hij ▸ i1)) hx ho hxg (fun b hb e=>hgx (e ▸ hb))
 generalize hWA:({W2 with heap:=W2.heap.setIfInBounds g (.map en' cl')}:World)=WA at h1 h3
 have hA:∀ b,b ≠ g->WA.heap[b]?=W2.heap[b]?:=fun b hb=>by
  rw [<-hWA]
  simp only [Array.getElem?_setIfInBounds]
  rw [if_neg (Ne.symm hb)]
 have hAg:WA.heap[g]?=some (.map en' cl'):=by
  rw [<-hWA]
  have:g < W2.heap.size:=by omega
  simp [this]
 have hAr:WA.os=W2.os/\WA.tape=W2.tape/\WA.output=W2.output/\W2.heap.size<=WA.heap.size:=by
  rw [<-hWA]
  exact⟨rfl,rfl,rfl,by simp⟩
 have hnew:∀ y ∈ ixX k x l xs,y ∈ xs\/w.heap.size<=y:=fun y hy=>by
  rcases b96 hy with h | h
  ·exact .inl h
  ·rw [h];exact hxm
 have hmain:∀ (W3:World) (m:Int),W3.heap[bx]?=some (.cells #[.map (some g),.int .i64 m] ty (0,0))->(∀ b,b ≠ bx->W3.heap[b]?=WA.heap[b]?)->W3.os=WA.os->W3.tape=WA.tape->W3.output=WA.output->WA.heap.size<=W3.heap.size->IxW W3 bx (a1V D3 k p l) m g (ixX k x l xs)/\IxF w W3 bx g xs (ixX k x l xs):=fun W3 m q1 q2 q3 q4 q5 q6=>by
  have hXb:∀ y ∈ ixX k x l xs,y ≠ bx/\y ≠ g:=fun y hy=>by
   rcases b96 hy with h | h
   ·exact⟨fun e=>hbxs (e ▸ h),fun e=>hgx (e ▸ h)⟩
   ·rw [h];exact⟨hxb,hxg⟩
  refine⟨⟨en',cl',ty,q1,(q2 g (Ne.symm hbg)).trans hAg,h2,List.nodup_cons.2 ⟨fun h=>(hXb g h).2 rfl,b97 hnx hxn⟩,fun h=>?_,h3.same fun b hb=>q2 b (hXb b hb).1⟩,⟨q3.trans (hAr.1.trans hr.1),q4.trans (hAr.2.1.trans hr.2.1),q5.trans (hAr.2.2.1.trans hr.2.2.1),by omega,fun j hj j1 j2 j3=>?_,hnew⟩⟩
  ·rcases List.mem_cons.1 h with h | h
   ·exact hbg h
   ·exact(hXb bx h).1 rfl
  ·exact(q2 j j1).trans ((hA j j2).trans (hW2 j hj fun e=>j3 (hvx j e)))
 have hbA:WA.heap[bx]?=some (.cells #[.map (some g),.int .i64 n] ty (0,0)):=(hA bx hbg).trans hbx2
 obtain⟨m1,m2⟩:=hmain WA n hbA (fun _ _=>rfl) rfl rfl rfl (Nat.le_refl _)
 exact⟨b7w hbx2,WA,ixX k x l xs,h1,hbA,m1,m2,fun W3 q1 q2 q3 q4 q5 q6=>hmain W3 n' q1 q2 q3 q4 q5 q6⟩
set_option maxHeartbeats 4000000 in
set_option maxRecDepth 100000 in
theorem c4w {w:World} {I:Nat->Nat->Prop} (hIn:∀ b o,I b o->b < w.heap.size) (hgl:b7X I w) {bx g:Nat} {l:IxD} {n:Int} {xs:List Nat} {k:List UInt8} {q id:Int} {r:Int × Bool} (hw:IxW w bx l n g xs) (hr:Ff.F_sender_find (W4 D3 k [] l) q=some r) (hr2:r.2=false)
  {i:Nat} (hi:r.1=(i:Int)) (hil:i<=(W4 D3 k [] l).length) (hbig:((W4 D3 k [] l).length + 1) * 16<=140737488355328) :
  Calls Tryz.prog 58 #[.pointer (some ⟨bx,0,none⟩),a4K k,.int .u64 q,.int .i64 id] w fun e w'=>∃ xs',e= .returned (.bool true)/\IxW w' bx (a1V D3 k ((W4 D3 k [] l).take i ++ (q,id) :: (W4 D3 k [] l).drop i) l) (C6 (n + 1)) g xs'/\IxF w w' bx g xs xs':=by
 obtain⟨en,cl,ty,hbx,hg,hb,hnd,hnb,hl⟩:=hw
 obtain⟨v,hlook,how,hob⟩:=a8m k hg hl
 have hfind:=a6r hIn hgl how hr
 have hR:=Lib.hid hr2
 have hI:=Lib.hid hi
 have hv1:v.oneCell'=true:=by rcases how.2 with⟨hv,_⟩ | ⟨_,_,_,hv,_⟩ <;> rw [hv] <;> rfl
 have hc0:w.cell? ⟨bx,0,none⟩=some (.map (some g)):=by simp [World.cell?,hbx]
 have hlook0:=hlook w hg
 generalize hkk:a4K k=kv at hlook hlook0 ⊢
 clear hr hr2 hi hIn hgl
 go_enter Tryz.func58,Tryz.ntmps58
 go_wp2_with (first | (simp only [hlook0]) | (go_at_call 88;refine hfind.mono ?_;rintro e w1 ⟨rfl,hg1⟩;rw [hR.out,hI.out]))
 have hbxl:bx < w.heap.size:=(Array.getElem?_eq_some_iff.1 hbx).1
 have hgl:g < w.heap.size:=(Array.getElem?_eq_some_iff.1 hg).1
 have hxl:∀ b ∈ xs,b < w.heap.size:=fun b hb=>SEs.lt hl.to b hb
 have b1:∀ b,b < w.heap.size->w1.heap[b]?=w.heap[b]?:=fun b hb=>hg1.block b hb (by simp)
 have hvx:∀ b,obk v=some b->b ∈ xs:=fun b hb=>by obtain⟨j,_,h⟩:=hob b hb;exact List.mem_of_getElem? h
 have hnm:w1.heap.size=w1.heap.size:=rfl
 have hsz1:=hg1.size
 have hgx:g ∉ xs:=by have:=List.nodup_cons.1 hnd;exact this.1
 have hbg:bx ≠ g:=fun e=>hnb (by simp [e])
 have hbxs:bx ∉ xs:=fun e=>hnb (by simp [e])
 have hpre:∀ W:World,(∀ b,b < w1.heap.size->W.heap[b]?=w1.heap[b]?)->W.cell? ⟨bx,0,none⟩=some (.map (some g))/\W.heap[g]?=some (.map en cl)/\W.ownsRow 0 134 2 v (W4 D3 k [] l).length (XP (W4 D3 k [] l)):=fun W hW=>by
  refine⟨?_,?_,?_⟩
  ·simp [World.cell?,(hW bx (by omega)).trans ((b1 bx hbxl).trans hbx)]
  ·exact(hW g (by omega)).trans ((b1 g hgl).trans hg)
  ·exact a4L how fun b hb=>(hW b (by have:=hxl b (hvx b hb);omega)).trans (b1 b (hxl b (hvx b hb)))
 have hins:∀ W:World,(∀ b,b < w1.heap.size->W.heap[b]?=w1.heap[b]?)->W.heap[w1.heap.size]?=some (.cells #[.int .u64 q,.int .i64 id] 134 (0,0))->Calls Tryz.prog 89 #[v,.int .i64 (i:Int),.slice (some ⟨w1.heap.size,0,none⟩) 1 1] W (a5S (u:=uP) W v ((W4 D3 k [] l).take i ++ (q,id) :: (W4 D3 k [] l).drop i)):=fun W hW hvb=>by
  refine b9Z (u:=uP) (a:=(q,id)) rfl rfl hil hbig (hpre W hW).2.2 (fun e=>?_) hvb ⟨rfl,.inr ⟨w1.heap.size,1,_,rfl,Nat.zero_le _,hvb,Nat.le_refl _,by simp [maxLen],rfl,rfl⟩⟩
  have:=hxl _ (hvx _ e)
  omega
 have hupd:∀ W W2:World,(∀ b,b < w1.heap.size->W.heap[b]?=w1.heap[b]?)->w1.heap.size < W.heap.size->W.os=w1.os/\W.tape=w1.tape/\W.output=w1.output->∀ v',obk v'=v'.ownBlock->W2.ownsRow 0 134 2 v' ((W4 D3 k [] l).take i ++ (q,id) :: (W4 D3 k [] l).drop i).length (XP ((W4 D3 k [] l).take i ++ (q,id) :: (W4 D3 k [] l).drop i))->
   ((v'.ownBlock=v.ownBlock/\W.grownBy W2 v.ownBlock)\/(W.grownBy W2 none/\v'.ownBlock=some W.heap.size))->W2.cell? ⟨bx,0,none⟩=some (.map (some g))/\∃ (WA:World) (xs':List Nat),(Instr.mapUpdate 159 (.map (some g)) kv v').run Tryz.prog W2= .ok () WA/\WA.heap[bx]?=some (.cells #[.map (some g),.int .i64 n] ty (0,0))/\IxW WA bx (a1V D3 k ((W4 D3 k [] l).take i ++ (q,id) :: (W4 D3 k [] l).drop i) l) n g xs'/\IxF w WA bx g xs xs'/\
    ∀ W3:World,W3.heap[bx]?=some (.cells #[.map (some g),.int .i64 (C6 (n + 1))] ty (0,0))->(∀ b,b ≠ bx->W3.heap[b]?=WA.heap[b]?)->W3.os=WA.os->W3.tape=WA.tape->W3.output=WA.output->WA.heap.size<=W3.heap.size->
     IxW W3 bx (a1V D3 k ((W4 D3 k [] l).take i ++ (q,id) :: (W4 D3 k [] l).drop i) l) (C6 (n + 1)) g xs'/\IxF w W3 bx g xs xs':=fun W W2 h1 h2 h3 v' h4 h5 h6=>by
  obtain⟨x,hx⟩:∃ x,obk v'=some x:=by
   rcases h5.2 with⟨_,h0⟩ | ⟨g',cap,cur,hv,_⟩
   ·simp at h0
   ·exact⟨g',by rw [hv];rfl⟩
  rw [<-hkk]
  refine b3u (v:=v) hbx hg hb hnd hnb hl hob (fun b hb=>(h1 b (by omega)).trans (b1 b hb)) (by omega) ⟨h3.1.trans hg1.os,h3.2.1.trans hg1.tape,h3.2.2.trans hg1.output⟩ hx h5 ?_
  rw [h4,a0j how]
  exact h6
 have hl1:=Lib.hid (hlook w1.drew (hpre w1.drew fun _ _=>rfl).2.1)
 have hl2:=Lib.hid (hlook (w1.alloc (.cells #[.int .u64 q,.int .i64 id] 134)).drew (hpre _ fun b hb=>heap_alloc_old w1 _ hb).2.1)
 have hl3:=Lib.hid (hlook (w1.drew.alloc (.cells #[.int .u64 q,.int .i64 id] 134)) (hpre _ fun b hb=>heap_alloc_old w1 _ hb).2.1)
 have hHins:=Lib.hid hins
 have hHupd:=Lib.hid hupd
 have hHlook:=Lib.hid hlook
 have hHpre:=Lib.hid hpre
 have hS0:w1.cell? ⟨bx,0,none⟩=some (.map (some g)):=(hpre w1 fun _ _=>rfl).1
 clear hins hupd hlook hpre b1 hvx hxl hob how hbx hg hl hnd hnb hb hlook0 hfind hc0 hg1 hkk
 go_region_held3 (fun w'=>w'.cell? ⟨bx,0,none⟩=some (.map (some g)))
  (first | exact hS0 | assumption | exact b7w hbx' | exact(hHpre.out (w1.alloc (.cells #[.int .u64 q,.int .i64 id] 134)).drew (fun b hb=>heap_alloc_old w1 _ hb)).1)
  (first
   | (rw [hl1.out];simp only [Result.andThen_ok])
   | (rw [hl2.out];simp only [Result.andThen_ok])
   | (rw [hl3.out];simp only [Result.andThen_ok])
   | (go_at_call 89;refine(hHins.out (w1.alloc (.cells #[.int .u64 q,.int .i64 id] 134)).drew (fun b hb=>heap_alloc_old w1 _ hb) (heap_alloc_new w1 _)).mono ?_;rintro e w2 ⟨v',rfl,ho',halt⟩;obtain⟨hS2,WA,xs',hu,hbx',_,_,hfin⟩:=hHupd.out (w1.alloc (.cells #[.int .u64 q,.int .i64 id] 134)).drew w2 (fun b hb=>heap_alloc_old w1 _ hb) (by simp) ⟨rfl,rfl,rfl⟩ v' (a0j ho') ho' halt))
 all_goals
  have hk1:=c4u hbx'
  have hk2:WA.frozen? ⟨bx,1,none⟩=false:=c4v hbx'
  go_wp2
  go_ret
  obtain⟨s1,s2,s3⟩:=b2g hbx' (.int .i64 (C6 (n + 1)))
  obtain⟨f1,f2⟩:=hfin _ s1 s2 rfl rfl rfl s3
  rw [b95]
  exact⟨xs',rfl,f1,f2⟩
end Go.Proofs.YtacnfjjkhpkloaaGreat.Am
