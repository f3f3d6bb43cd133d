/- Texts laid together: SendRem, SendList. No conditions. -/
import Derived.Test.YtacnfjjkhpkloaaGreatQAL
namespace Go.Proofs.YtacnfjjkhpkloaaGreat.Am
open Go Go.Proofs Go.RowKit Go.MapKept
theorem IxF.trans {w w1 w2:World} {bx g:Nat} {xs xs1 xs2:List Nat} (h:IxF w w1 bx g xs xs1) (k:IxF w1 w2 bx g xs1 xs2):IxF w w2 bx g xs xs2:=
 ⟨k.os.trans h.os,k.tape.trans h.tape,k.output.trans h.output,Nat.le_trans h.size k.size,fun j h0 h1 h2 h3=>(k.block j (Nat.lt_of_lt_of_le h0 h.size) h1 h2 fun hm=>by
  rcases h.new j hm with h4 | h4
  ·exact h3 h4
  ·omega).trans (h.block j h0 h1 h2 h3),fun x hx=>by
  rcases k.new x hx with h1 | h1
  ·exact h.new x h1
  ·exact .inr (Nat.le_trans h.size h1)⟩
theorem b3v (k:List UInt8):D3 k k=true:=by
 have e:=a9Q (K:= .str) (a:=k) (b:=k) rfl rfl
 have:a0M (a4K k) (a4K k)=true:=by simp [a0M,a4K]
 exact e.symm.trans this
theorem b98 {k:List UInt8} {p:List PlD}:∀ {l:IxD},∃ i,a1r D3 k (a1V D3 k p l)=some i/\(a1V D3 k p l)[i]?=some (k,p):=by
 have app:∀ l:IxD,a1r D3 k l=none->a1r D3 k (l ++ [(k,p)])=some l.length:=by
  intro l
  induction l with
  | nil=>intro _;simp [a1r,b3v]
  | cons c l ih=>
   intro h
   unfold a1r at h
   split at h
   ·cases h
   ·rename_i hs
    have h:=Option.map_eq_none_iff.1 h
    rw [List.cons_append]
    unfold a1r
    rw [if_neg hs,ih h];rfl
 have set:∀ (l:IxD) (i:Nat),a1r D3 k l=some i->a1r D3 k (l.set i (k,p))=some i:=by
  intro l
  induction l with
  | nil=>intro i h;cases h
  | cons c l ih=>
   intro i h
   unfold a1r at h
   split at h
   ·injection h with h
    subst h
    rw [List.set_cons_zero]
    unfold a1r
    rw [if_pos (b3v k)]
   ·rename_i hs
    obtain⟨j,h1,rfl⟩:=Option.map_eq_some_iff.1 h
    rw [List.set_cons_succ]
    unfold a1r
    rw [if_neg hs,ih j h1];rfl
 intro l
 unfold a1V
 cases h:a1r D3 k l with
 | none=>exact⟨l.length,app l h,by simp⟩
 | some i=>exact⟨i,set l i h,by simp [a9R h]⟩
theorem b99 {k:List UInt8} {p:List PlD} {l:IxD}:W4 D3 k [] (a1V D3 k p l)=p:=by
 obtain⟨i,h1,h2⟩:=b98 (k:=k) (p:=p) (l:=l)
 unfold W4
 rw [h1]
 simp [h2]
theorem c0a {W:World} {bx g:Nat} {l:IxD} {n:Int} {xs:List Nat} {k:List UInt8} (hw:IxW W bx l n g xs):∃ (WB:World) (xs':List Nat),(∀ ty,(Builtin.delete_ #[159,9] ty #[.map (some g),a4K k]).run Tryz.prog W= .ok (.tuple #[]) WB)/\WB.heap[bx]?=W.heap[bx]?/\
  ∀ (W3:World) (m:Int) (ty:TypeId),W3.heap[bx]?=some (.cells #[.map (some g),.int .i64 m] ty (0,0))->(∀ b,b ≠ bx->W3.heap[b]?=WB.heap[b]?)->W3.os=WB.os->W3.tape=WB.tape->W3.output=WB.output->WB.heap.size<=W3.heap.size->IxW W3 bx (a5u D3 k l) m g xs'/\IxF W W3 bx g xs xs':=by
 obtain⟨en,cl,ty,hbx,hg,hb,hnd,hnb,hl⟩:=hw
 have hgx:g ∉ xs:=(List.nodup_cons.1 hnd).1
 have hbg:bx ≠ g:=fun e=>hnb (by simp [e])
 obtain⟨en',h1,h2,h3⟩:=c68 k hg hb hl (fun b hb e=>hgx (e ▸ hb))
 have hgl:g < W.heap.size:=(Array.getElem?_eq_some_iff.1 hg).1
 generalize hWB:({W with heap:=W.heap.setIfInBounds g (.map en' cl)}:World)=WB at h1 h3
 have hA:∀ b,b ≠ g->WB.heap[b]?=W.heap[b]?:=fun b hb=>by
  rw [<-hWB]
  simp only [Array.getElem?_setIfInBounds]
  rw [if_neg (Ne.symm hb)]
 have hAg:WB.heap[g]?=some (.map en' cl):=by
  rw [<-hWB]
  simp [hgl]
 have hAr:WB.os=W.os/\WB.tape=W.tape/\WB.output=W.output/\W.heap.size<=WB.heap.size:=by
  rw [<-hWB]
  exact⟨rfl,rfl,rfl,by simp⟩
 have hsub:∀ y ∈ ixY k l xs,y ∈ xs:=fun y hy=>by
  unfold ixY at hy
  split at hy
  ·exact(List.eraseIdx_sublist ..).mem hy
  ·exact hy
 have hnY:(ixY k l xs).Nodup:=by
  unfold ixY
  split
  ·exact(List.nodup_cons.1 hnd).2.sublist (List.eraseIdx_sublist ..)
  ·exact(List.nodup_cons.1 hnd).2
 refine⟨WB,ixY k l xs,h1,hA bx hbg,fun W3 m ty' q1 q2 q3 q4 q5 q6=>⟨⟨en',cl,ty',q1,(q2 g (Ne.symm hbg)).trans hAg,h2,List.nodup_cons.2 ⟨fun h=>hgx (hsub g h),hnY⟩,fun h=>?_,h3.same fun b hb=>q2 b fun e=>hnb (List.mem_cons_of_mem _ (hsub _ (e ▸ hb)))⟩,⟨q3.trans hAr.1,q4.trans hAr.2.1,q5.trans hAr.2.2.1,by omega,fun j hj j1 j2 j3=>(q2 j j1).trans (hA j j2),fun x hx=> .inl (hsub x hx)⟩⟩⟩
 rcases List.mem_cons.1 h with h | h
 ·exact hbg h
 ·exact hnb (List.mem_cons_of_mem _ (hsub _ h))
theorem c4x {W W3:World} {bx g:Nat} {l:IxD} {n m:Int} {xs:List Nat} {ty:TypeId} (hw:IxW W bx l n g xs) (q1:W3.heap[bx]?=some (.cells #[.map (some g),.int .i64 m] ty (0,0))) (q2:∀ b,b ≠ bx->W3.heap[b]?=W.heap[b]?) (q3:W3.os=W.os) (q4:W3.tape=W.tape) (q5:W3.output=W.output) (q6:W.heap.size<=W3.heap.size) :
  IxW W3 bx l m g xs/\IxF W W3 bx g xs xs:=by
 obtain⟨en,cl,ty0,hbx,hg,hb,hnd,hnb,hl⟩:=hw
 have hbg:bx ≠ g:=fun e=>hnb (by simp [e])
 exact⟨⟨en,cl,ty,q1,(q2 g (Ne.symm hbg)).trans hg,hb,hnd,hnb,hl.same fun b hb=>q2 b fun e=>hnb (by rw [<-e];exact List.mem_cons_of_mem _ hb)⟩,⟨q3,q4,q5,q6,fun k hk k1 k2 k3=>q2 k k1,fun x hx=> .inl hx⟩⟩
set_option maxHeartbeats 4000000 in
set_option maxRecDepth 100000 in
theorem c4y {w:World} {I:Nat->Nat->Prop} (hIn:∀ b o,I b o->b < w.heap.size) (hgl:b7X I w) {bx g:Nat} {l:IxD} {n:Int} {xs:List Nat} {k:List UInt8} {q:Int} {r:Int × Bool} (hw:IxW w bx l n g xs) (hr:Ff.F_sender_find (W4 D3 k [] l) q=some r) (hr2:r.2=false) :
  Calls Tryz.prog 60 #[.pointer (some ⟨bx,0,none⟩),a4K k,.int .u64 q] w fun e w'=>e= .returned (.bool false)/\w.grownBy w' none:=by
 obtain⟨en,cl,ty,hbx,hg,hb,hnd,hnb,hl⟩:=hw
 obtain⟨v,hlook,how,hob⟩:=a8m k hg hl
 have hfind:=a6r hIn hgl how hr
 have hc0:w.cell? ⟨bx,0,none⟩=some (.map (some g)):=by simp [World.cell?,hbx]
 have hR:=Lib.hid hr2
 have hv1:v.oneCell'=true:=by rcases how.2 with⟨hv,_⟩ | ⟨_,_,_,hv,_⟩ <;> rw [hv] <;> rfl
 have hlook:=hlook w hg
 generalize hkk:a4K k=kv at hlook ⊢
 clear hr hr2 hob how hl hb hnd hnb hbx hg hkk hIn hgl
 go_enter Tryz.func60,Tryz.ntmps60
 go_wp2_with (first | (simp only [hlook]) | (go_at_call 88;refine hfind.mono ?_;rintro e w1 ⟨rfl,hg1⟩;rw [hR.out]))
 go_ret
 exact⟨rfl,hg1⟩
set_option maxHeartbeats 8000000 in
set_option maxRecDepth 100000 in
theorem c0b {w:World} {I:Nat->Nat->Prop} (hIn:∀ b o,I b o->b < w.heap.size) (hgl:b7X I w) {bx g:Nat} {l:IxD} {n:Int} {xs:List Nat} {k:List UInt8} {q:Int} {r:Int × Bool} (hw:IxW w bx l n g xs) (hr:Ff.F_sender_find (W4 D3 k [] l) q=some r) (hr2:r.2=true)
  {i:Nat} (hi:r.1=(i:Int)) (hil:i < (W4 D3 k [] l).length) :
  Calls Tryz.prog 60 #[.pointer (some ⟨bx,0,none⟩),a4K k,.int .u64 q] w fun e w'=>∃ xs',e= .returned (.bool true)/\IxW w' bx (if((W4 D3 k [] l).eraseIdx i).length=0 then a5u D3 k (a1V D3 k ((W4 D3 k [] l).eraseIdx i) l) else a1V D3 k ((W4 D3 k [] l).eraseIdx i) l) (C6 (n - 1)) g xs'/\IxF w w' bx g xs xs':=by
 obtain⟨en,cl,ty,hbx,hg,hb,hnd,hnb,hl⟩:=hw
 obtain⟨v,hlook,how,hob⟩:=a8m k hg hl
 have hfind:=a6r hIn hgl how hr
 have hR:=Lib.hid hr2
 have hI:=Lib.hid hi
 have hv1:v.oneCell'=true:=by rcases how.2 with⟨hv,_⟩ | ⟨_,_,_,hv,_⟩ <;> rw [hv] <;> rfl
 have hc0:w.cell? ⟨bx,0,none⟩=some (.map (some g)):=by simp [World.cell?,hbx]
 have hlook0:=hlook w hg
 obtain⟨pl,hpl⟩:∃ pl,pl=W4 D3 k [] l:=⟨_,rfl⟩
 rw [<-hpl] at hil how ⊢
 have hcap:pl.length<=maxLen:=by
  rcases how.2 with⟨_,h0⟩ | ⟨_,cap,_,_,_,_,h1,h2,_⟩
  ·omega
  ·exact Nat.le_trans h1 h2
 generalize hkk:a4K k=kv at hlook hlook0 ⊢
 clear hr hr2 hi hIn hgl
 go_enter Tryz.func60,Tryz.ntmps60
 go_wp2_with (first | (simp only [hlook0]) | (go_at_call 88;refine hfind.mono ?_;rintro e w1 ⟨rfl,hg1⟩;rw [hR.out,hI.out]))
 have hbxl:bx < w.heap.size:=(Array.getElem?_eq_some_iff.1 hbx).1
 have hgl:g < w.heap.size:=(Array.getElem?_eq_some_iff.1 hg).1
 have hxl:∀ b ∈ xs,b < w.heap.size:=fun b hb=>SEs.lt hl.to b hb
 have b1:∀ b,b < w.heap.size->w1.heap[b]?=w.heap[b]?:=fun b hb=>hg1.block b hb (by simp)
 have hvx:∀ b,obk v=some b->b ∈ xs:=fun b hb=>by obtain⟨j,_,h⟩:=hob b hb;exact List.mem_of_getElem? h
 have hsz1:=hg1.size
 have how1:w1.ownsRow 0 134 2 v pl.length (XP pl):=a4L how fun b hb=>b1 b (hxl b (hvx b hb))
 have hS0:w1.cell? ⟨bx,0,none⟩=some (.map (some g)):=b7w ((b1 bx hbxl).trans hbx)
 have hgg1:w1.heap[g]?=some (.map en cl):=(b1 g hgl).trans hg
 obtain⟨vb,vc,hvs,hdel⟩:∃ vb vc,v= .slice (some ⟨vb,0,none⟩) pl.length vc/\Calls Tryz.prog 90 #[v,.int .i64 (i:Int),.int .i64 ((i:Int) + 1)] w1.drew (b4X (u:=uP) w1.drew v (pl.eraseIdx i)):=by
  rcases how1.2 with⟨_,h0⟩ | ⟨vb,vc,cur,hv,_,h2,h3,h4,h5,h6⟩
  ·omega
  ·refine⟨vb,vc,hv,?_⟩
   rw [hv]
   exact b90 (u:=uP) rfl hil h3 h4 (show w1.drew.heap[vb]?=_ from h2) h5 h6
 have hupd:∀ (W2:World) (v':Value),W2.ownsRow 0 134 2 v' (pl.eraseIdx i).length (XP (pl.eraseIdx i))->obk v'=obk v->w1.drew.grownBy W2 v.ownBlock->W2.cell? ⟨bx,0,none⟩=some (.map (some g))/\∃ (WA:World) (xs':List Nat),(Instr.mapUpdate 159 (.map (some g)) kv v').run Tryz.prog W2= .ok () WA/\WA.heap[bx]?=some (.cells #[.map (some g),.int .i64 n] ty (0,0))/\IxW WA bx (a1V D3 k (pl.eraseIdx i) l) n g xs'/\IxF w WA bx g xs xs':=fun W2 v' h1 h2 h3=>by
  rw [<-hkk]
  obtain⟨q0,WA,xs',q1,q2,q3,q4,_⟩:=b3u (w:=w) (W:=w1.drew) (W2:=W2) (n':=0) (k:=k) (v:=v) (v':=v') (p:=pl.eraseIdx i) hbx hg hb hnd hnb hl hob (fun b hb=>b1 b hb) hsz1 ⟨hg1.os,hg1.tape,hg1.output⟩ (x:=vb) (by rw [h2,hvs];rfl) h1 (.inl ⟨h2,by rw [hvs] at h3 ⊢;exact h3⟩)
  exact⟨q0,WA,xs',q1,q2,q3,q4⟩
 have hrest:∀ (WA:World) (xs':List Nat),IxW WA bx (a1V D3 k (pl.eraseIdx i) l) n g xs'->∃ A c,(Instr.lookup 159 (.map (some g)) kv false).run Tryz.prog WA= .ok (.slice A (pl.eraseIdx i).length c) WA:=fun WA xs' h=>by
  obtain⟨en2,cl2,ty2,_,hg2,_,_,_,hl2⟩:=h
  obtain⟨v2,hlook2,how2,_⟩:=a8m k hg2 hl2
  rw [b99] at how2
  rw [<-hkk]
  rcases how2.2 with⟨hv,h0⟩ | ⟨g2,cap,_,hv,_⟩
  ·exact⟨none,0,by rw [h0,<-hv];exact hlook2 WA hg2⟩
  ·exact⟨some ⟨g2,0,none⟩,cap,by rw [<-hv];exact hlook2 WA hg2⟩
 have hdw:∀ (WA:World) (xs':List Nat),IxW WA bx (a1V D3 k (pl.eraseIdx i) l) n g xs'->∃ (WB:World) (xs2:List Nat),(∀ ty,(Builtin.delete_ #[159,9] ty #[.map (some g),kv]).run Tryz.prog WA= .ok (.tuple #[]) WB)/\WB.heap[bx]?=WA.heap[bx]?/\
   ∀ (W3:World) (m:Int) (ty:TypeId),W3.heap[bx]?=some (.cells #[.map (some g),.int .i64 m] ty (0,0))->(∀ b,b ≠ bx->W3.heap[b]?=WB.heap[b]?)->W3.os=WB.os->W3.tape=WB.tape->W3.output=WB.output->WB.heap.size<=W3.heap.size->IxW W3 bx (a5u D3 k (a1V D3 k (pl.eraseIdx i) l)) m g xs2/\IxF WA W3 bx g xs' xs2:=fun WA xs' h=>by
  rw [<-hkk];exact c0a h
 have hll:=hlook w1.drew hgg1
 have hHll:=Lib.hid hll
 have hHdel:=Lib.hid hdel
 have hHupd:=Lib.hid hupd
 have hHrest:=Lib.hid hrest
 have hHdw:=Lib.hid hdw
 have hwr:IntKind.i64.wrap ((i:Int) + 1)=(i:Int) + 1:=by unfold maxLen at hcap;rw [IntKind.wrap_i64];omega
 clear hll hdel hupd hrest hdw hlook b1 hvx hxl hob how hbx hg hl hnd hnb hb hlook0 hfind hc0 hg1 hkk how1 hgg1 hpl hcap hil hvs
 go_region_held3 (fun w'=>w'.cell? ⟨bx,0,none⟩=some (.map (some g)))
  (first | exact hS0 | assumption | exact b7w hbx')
  (first
   | (rw [hHll.out];simp only [Result.andThen_ok])
   | (go_at_call 90;refine hHdel.out.mono ?_;rintro e w2 ⟨v',rfl,ho',_,hv',hgr⟩;obtain⟨hS2,WA,xs',hu,hbx',hwa,hfa⟩:=hHupd.out w2 v' ho' hv' hgr))
 all_goals
  obtain⟨A2,c2,hl2⟩:=hHrest.out WA xs' hwa
  obtain⟨WB,xs2,hd2,hd3,hd4⟩:=hHdw.out WA xs' hwa
  have hbB:=hd3.trans hbx'
  have hD4:=Lib.hid hd4
  have hF:=Lib.hid hfa
  have hWa:=Lib.hid hwa
  have k1:=c4u hbx'
  have k2:WA.frozen? ⟨bx,1,none⟩=false:=c4v hbx'
  have k3:=c4u hbB
  have k4:WB.frozen? ⟨bx,1,none⟩=false:=c4v hbB
  have k5:=b7w hbx'
  clear hd3 hd4 hfa hwa
  by_cases hz:((pl.eraseIdx i).length:Int)=0
  ·have hz':(pl.eraseIdx i).length=0:=by omega
   rw [hz'] at hl2
   have HZ:=Lib.hid hz'
   clear hz hz'
   go_wp2_with (first | (rw [hl2];simp only [Result.andThen_ok]) | (rw [hd2];simp only [Result.andThen_ok]))
   go_ret
   obtain⟨s1,s2,s3⟩:=b2g hbB (.int .i64 (C6 (n - 1)))
   obtain⟨f1,f2⟩:=hD4.out _ _ _ s1 s2 rfl rfl rfl s3
   try rw [b95]
   first
    | (rw [if_pos HZ.out];exact⟨xs2,rfl,f1,hF.out.trans f2⟩)
    | exact⟨rfl,xs2,f1,hF.out.trans f2⟩
  ·have hz':¬ (pl.eraseIdx i).length=0:=by omega
   have HZ:=Lib.hid hz'
   have hz2:(((pl.eraseIdx i).length:Int) == 0)=false:=by simpa using hz'
   clear hz'
   go_wp2_with (rw [hl2];simp only [Result.andThen_ok])
   go_ret
   obtain⟨s1,s2,s3⟩:=b2g hbx' (.int .i64 (C6 (n - 1)))
   obtain⟨f1,f2⟩:=c4x hWa.out s1 s2 rfl rfl rfl s3
   try rw [b95]
   first
    | (rw [if_neg HZ.out];exact⟨xs',rfl,f1,hF.out.trans f2⟩)
    | exact⟨rfl,xs',f1,hF.out.trans f2⟩
end Go.Proofs.YtacnfjjkhpkloaaGreat.Am
namespace Go.Proofs.YtacnfjjkhpkloaaGreat
open Go Go.Proofs Go.RowKit Go.Proofs.YtacnfjjkhpkloaaGreat.Am
theorem c8V:(Tryz.prog.info? 3).map (fun i=>(i.zero,i.size,i.bytes))=some (some (.int .i64 0),1,8):=by kernel_rfl
def Rep.intA:Rep Int where
 sz:=1
 At _ _ cs a:=cs=[.int .i64 a]
 len:=by rintro w S cs a rfl;rfl
 keep h _:=h
 mono h _:=h
theorem d0q:Elt Tryz.prog Rep.intA 22 3 8 where
 und:=Tryz.underlying22
 info:=by
  obtain⟨i,h1,h2,h3,h4⟩:=info_parts c8V
  exact⟨i,_,h1,h2,h3,h4,rfl⟩
 pos:=by decide
 one:=by rintro w S cs a rfl u hu;simp at hu;subst hu;rfl
set_option maxHeartbeats 4000000 in
set_option maxRecDepth 100000 in
theorem c2j {w:World} {bx g:Nat} {l:IxD} {n:Int} {xs:List Nat} {k:List UInt8} (hw:IxW w bx l n g xs):∃ v,w.ownsRow 0 134 2 v (W4 D3 k [] l).length (XP (W4 D3 k [] l))/\(∀ b,obk v=some b->b ∈ xs)/\
  Calls Tryz.prog 76 #[.pointer (some ⟨bx,0,none⟩),a4K k] w fun e w'=>e= .returned v/\w=w':=by
 obtain⟨en,cl,ty,hbx,hg,hb,hnd,hnb,hl⟩:=hw
 obtain⟨v,hlook,how,hob⟩:=a8m k hg hl
 refine⟨v,how,fun b hb=>by obtain⟨j,_,h⟩:=hob b hb;exact List.mem_of_getElem? h,?_⟩
 have hc0:w.cell? ⟨bx,0,none⟩=some (.map (some g)):=b7w hbx
 have hv1:v.oneCell'=true:=by rcases how.2 with⟨hv,_⟩ | ⟨_,_,_,hv,_⟩ <;> rw [hv] <;> rfl
 have hlook:=hlook w hg
 generalize hkk:a4K k=kv at hlook ⊢
 clear hob how hl hb hnd hnb hbx hg hkk
 go_enter Tryz.func76,Tryz.ntmps76
 go_wp2_with (simp only [hlook,Result.andThen_ok])
 go_ret
 exact⟨rfl,rfl⟩
theorem c2k {w:World} {v:Value} {ps:List PlD} (how:w.ownsRow 0 134 2 v ps.length (XP ps)):∃ A c,v= .slice A ps.length c/\∀ (wr:World) (j:Nat) (h:j < ps.length),Below w.heap.size w wr->∃ vb,A=some ⟨vb,0,none⟩/\wr.cell? ⟨vb,j * 2,none⟩=some (.int .u64 ps[j].1)/\wr.cell? ⟨vb,j * 2 + 1,none⟩=some (.int .i64 ps[j].2):=by
 rcases how.2 with⟨hv,h0⟩ | ⟨vb,vc,cur,hv,_,h2,h3,h4,h5,h6⟩
 ·exact⟨none,0,by rw [hv,h0],fun wr j h=>by omega⟩
 ·refine⟨some ⟨vb,0,none⟩,vc,hv,fun wr j h hb=>⟨vb,rfl,?_⟩⟩
  have hvb:vb < w.heap.size:=(Array.getElem?_eq_some_iff.1 h2).1
  have hg2:wr.heap[vb]?=some (.cells cur 134 (0,0)):=(hb.block vb hvb).trans h2
  have hX:∀ m,m < 2->(XP ps)[j * 2 + m]?=[Value.int .u64 ps[j].1,Value.int .i64 ps[j].2][m]?:=fun m hm=>by
   have e:XP ps=XP (ps.take j) ++ ([Value.int .u64 ps[j].1,Value.int .i64 ps[j].2] ++ XP (ps.drop (j + 1))):=by
    have e1:ps=ps.take j ++ (ps[j] :: ps.drop (j + 1)):=by rw [<-List.drop_eq_getElem_cons h,List.take_append_drop]
    have e2:XP (ps.take j ++ (ps[j] :: ps.drop (j + 1)))=XP (ps.take j) ++ XP (ps[j] :: ps.drop (j + 1)):=a7T (u:=uP) _ _
    rw [<-e1] at e2
    rw [e2];rfl
   have hl:(XP (ps.take j)).length=j * 2:=by
    have h1:(ps.take j).length=j:=by rw [List.length_take];omega
    exact(a05 (u:=uP) rfl (ps.take j)).trans (congrArg (· * 2) h1)
   rw [e,List.getElem?_append_right (by omega),hl,Nat.add_sub_cancel_left,List.getElem?_append_left (by simpa using hm)]
  have hcl:∀ m,m < 2->wr.cell? ⟨vb,j * 2 + m,none⟩=[Value.int .u64 ps[j].1,Value.int .i64 ps[j].2][m]?:=fun m hm=>by
   rw [<-hX m hm,<-h6,List.getElem?_take,if_pos (by omega)]
   simp [World.cell?,hg2]
  exact⟨by simpa using hcl 0 (by decide),by simpa using hcl 1 (by decide)⟩
set_option maxHeartbeats 4000000 in
set_option maxRecDepth 100000 in
theorem b7x {w:World} {bx g:Nat} {l:IxD} {n:Int} {xs:List Nat} {k:List UInt8} (hw:IxW w bx l n g xs) (hbig:(W4 D3 k [] l).length<=1000000000000) :
  Calls Tryz.prog 42 #[.pointer (some ⟨bx,0,none⟩),a4K k] w fun e w'=>∃ A' n' c',e= .returned (.slice A' n' c')/\Own Rep.intA 3 w' w.heap.size No (.slice A' n' c') n' ((W4 D3 k [] l).map (·.2))/\Below w.heap.size w w':=by
 obtain⟨v,how,hvx,hof⟩:=c2j (k:=k) hw
 obtain⟨ps,hps⟩:∃ ps,ps=W4 D3 k [] l:=⟨_,rfl⟩
 rw [<-hps] at how hbig ⊢
 obtain⟨A,c,hv,hcell⟩:=c2k how
 subst hv
 generalize hkk:a4K k=kv at hof ⊢
 clear how hvx hw hkk hps
 go_enter Tryz.func42,Tryz.ntmps42
 go_wp2_with (go_at_call 76;refine hof.mono ?_;rintro e w1 ⟨rfl,rfl⟩)
 go_loopw [5,12] (fun x y wr=>∃ (j:Nat) (A':Option Addr) (c':Nat),x= .slice A' j c'/\y= .int .i64 j/\j<=ps.length/\Own Rep.intA 3 wr w.heap.size No (.slice A' j c') j ((ps.take j).map (·.2))/\Below w.heap.size w wr) (fun _ y _=>ps.length - (intOf y).toNat)
 case atStart=>exact⟨0,none,0,rfl,rfl,by omega,Own.nil_ _ _ _ _ _,Below.refl _ _⟩
 case round=>
  obtain⟨j,A',c',rfl,rfl,hj,hown,hbel⟩:=hrel
  by_cases hlt:(j:Int) < (ps.length:Int)
  ·have hjl:j < ps.length:=by omega
   obtain⟨vb,hA,hc0,hc1⟩:=hcell wr j hjl hbel
   subst hA
   have hbz:=hbel.size
   have Hcell:=Lib.hid hcell
   have Htk:=Lib.hid (List.take_succ_eq_append_getElem hjl)
   clear hcell
   go_wp2_with (at_builtin;(refine b6J d0q rfl rfl ((hown.alloc _).alloc _) rfl (Sl.litOf (w:=wr.alloc (.cells #[.int .u64 ps[j].1,.int .i64 ps[j].2] 134)) (t:=3) (S:=No) (cs:= #[.int .i64 ps[j].2]) [ps[j].2] (Rep.all_one (by show [_]=[_];rfl)) (n:=1) rfl (by simp [maxLen]) (b:=wr.heap.size + 1) (by simp)) rfl id (by omega) (by unfold maxLen;omega) (by simp;omega) (fun h=>h) ?_;intro A3 n3 c3 w3 hn3 hown3 hb3 hg3 hat3))
   have h3:=hn3.out
   subst h3
   refine⟨⟨j + 1,A3,c3,rfl,by simp,by omega,?_,((hbel.alloc hbz _).alloc (by simp;omega) _).trans hb3⟩,by simp [intOf];omega⟩
   rw [Htk.out,List.map_append]
   exact hown3
  ·have hje:j=ps.length:=by omega
   subst hje
   go_wp2
   go_ret
   rw [List.take_length] at hown
   exact⟨A',_,c',rfl,hown,hbel⟩
end Go.Proofs.YtacnfjjkhpkloaaGreat
