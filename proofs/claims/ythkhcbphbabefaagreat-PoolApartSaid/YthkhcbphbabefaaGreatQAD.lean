/- Texts laid together: SendAdd, SendRem, SendList, Sender, SpLay, TmKeys, Sp, PLoop, GList, GSortDef, GSort, GSym, GStable, PMap, Bl. No conditions. -/
import Derived.Test.YthkhcbphbabefaaGreatQAC
import Derived.Shelf.SlIterI.Sorted
import Derived.Shelf.SlIter.Sorted
import Derived.Shelf.SortM.Plain
import Derived.Shelf.SortM.SortNone
import Derived.Ground.GgzProg
import Derived.Ground.SlgmProg
import Derived.Lib.SlKeysI
namespace Go.Proofs.YthkhcbphbabefaaGreat.Am
open Go Go.Proofs Go.RowKit Go.MapKept
def IxW(w:World) (bx:Nat) (l:IxD) (n:Int) (g:Nat) (xs:List Nat):Prop:=∃en cl ty,w.heap[bx]?=some (.cells #[.map (some g),.int .i64 n] ty (0,0))/\w.heap[g]?=some (.map en cl)/\jm en.toList cl/\(g::xs).Nodup/\bx∉g::xs/\IxL w l en.toList xs
structure IxF (w w':World) (bx g:Nat) (xs xs':List Nat):Prop where
 os:w'.os=w.os
 tape:w'.tape=w.tape
 output:w'.output=w.output
 size:w.heap.size<=w'.heap.size
 block:∀k,k<w.heap.size->k≠bx->k≠g->k∉xs->w'.heap[k]?=w.heap[k]?
 new:∀x∈xs',x∈xs\/w.heap.size<=x
def LA(l:IxD) (n:Int) (k:List UInt8) (q id:Int):Option (IxD×Int×Bool):=
 (Ff.F_sender_find (Q5 C0 k [] l) q).bind λr=>
 sel r.2 (some (l,n,false)) (chk (decide ((0:Int)<=r.1/\r.1<=(((Q5 C0 k [] l).length:Nat):Int)/\((Q5 C0 k [] l).length+1)*16<=140737488355328)) (some (Z0 C0 k ((Q5 C0 k [] l).take r.1.toNat++(q,id)::(Q5 C0 k [] l).drop r.1.toNat) l,D1 (n+1),true)))
theorem xz{W:World}{b:Nat}{x y:Value}{ty:TypeId}(h:W.heap[b]?=some (.cells #[x,y] ty (0,0))):W.cell? ⟨b,0,none⟩=some x:=by simp[World.cell?,h]
theorem Ho{W:World}{b:Nat}{x y:Value}{ty:TypeId}(h:W.heap[b]?=some (.cells #[x,y] ty (0,0))):W.cell? ⟨b,1,none⟩=some y:=by simp[World.cell?,h]
theorem Hq{W:World}{b:Nat}{cs:Array Value}{ty:TypeId}{o:Nat}(h:W.heap[b]?=some (.cells cs ty (0,0))):W.frozen? ⟨b,o,none⟩=false:=by simp[World.frozen?,h]
set_option maxHeartbeats 4000000 in
set_option maxRecDepth 100000 in
theorem AK{w:World}{I:Nat->Nat->Prop}(hIn:∀b o,I b o->b<w.heap.size) (hgl:nX I w){bx g:Nat}{l:IxD}{n:Int}{xs:List Nat}{k:List UInt8}{q id:Int}{r:Int×Bool}(hw:IxW w bx l n g xs) (hr:Ff.F_sender_find (Q5 C0 k [] l) q=some r) (hr2:r.2=true) :
  Calls Tryz.prog 31 #[.pointer (some ⟨bx,0,none⟩),dJ k,.int .u64 q,.int .i64 id] w λe w'=>e= .returned (.bool false)/\w.grownBy w' none:=by
 obtain⟨en,cl,ty,hbx,hg,hb,hnd,hnb,hl⟩:=hw;obtain⟨v,hlook,how,hob⟩:=jz k hg hl;have hfind:=fQ hIn hgl how hr;have hc0:w.cell? ⟨bx,0,none⟩=some (.map (some g)):=by simp[World.cell?,hbx]
 have hR:=Lib.hid hr2;have hv1:v.oneCell'=true:=by rcases how.2 with⟨hv,_⟩|⟨_,_,_,hv,_⟩ <;> rw[hv] <;> rfl
 have hlook:=hlook w hg;generalize hkk:dJ k=kv at hlook⊢;clear hr hr2 hob how hl hb hnd hnb hbx hg hkk hIn hgl
 go_enter Tryz.func31,Tryz.ntmps31
 go_wp2_with (first|(simp only)|(go_at_call 56;refine hfind.mono ?_;rintro e w1 ⟨rfl,hg1⟩;rw[hR.out]))
 go_ret
 exact⟨rfl,hg1⟩
theorem AL(n:Int):wrap64 n=D1 n:=by unfold wrap64 D1;rw[IntKind.wrap_i64]
theorem pB{W:World}{b:Nat}{x y:Value}{ty:TypeId}(h:W.heap[b]?=some (.cells #[x,y] ty (0,0))) (z:Value):(W.setCell ⟨b,1,none⟩ z).heap[b]?=some (.cells #[x,z] ty (0,0))/\(∀k,k≠b->(W.setCell ⟨b,1,none⟩ z).heap[k]?=W.heap[k]?)/\W.heap.size<=(W.setCell ⟨b,1,none⟩ z).heap.size:=by
 refine⟨?_,λk hk=>?_,?_⟩
 ·simp[World.setCell,Array.getElem?_modify,h]
 ·simp only[World.setCell,Array.getElem?_modify];rw[Ql (Ne.symm hk)]
 ·simp[World.setCell]
theorem AM{k:List UInt8}{x y:Nat}{l:IxD}{xs:List Nat}(h:y∈ixX k x l xs):y∈xs\/y=x:=by
 unfold ixX at h;split at h
 ·exact Rb h
 ·rcases List.mem_append.1 h with h|h
  ·exact .inl h
  ·exact .inr (List.mem_singleton.1 h)
theorem rc{α:Type}{a:α}:∀{l:List α}{i:Nat},l.Nodup->a∉l->(l.set i a).Nodup
 |[],_,_,_=>by simp
 |b::l,0,h,ha=>by
  rw[Rx,Qz];exact⟨λk=>ha (Qc _ k),(List.nodup_cons.1 h).2⟩
 |b::l,i+1,h,ha=>by
  rw[Ry,Qz];rw[Qz]at h;refine⟨λk=>?_,rc h.2 λk=>ha (Qc _ k)⟩;rcases Rb k with k|k
  ·exact h.1 k
  ·exact ha (by rw[<-k];exact Qn ..)
theorem AN{k:List UInt8}{x:Nat}{l:IxD}{xs:List Nat}(hn:xs.Nodup) (hx:x∉xs\/∃j,aG C0 k l=some j/\xs[j]?=some x):(ixX k x l xs).Nodup:=by
 unfold ixX;rcases hx with hx|⟨j,h1,h2⟩
 ·split
  ·exact rc hn hx
  ·rw[QP];exact⟨hn,by simp,λa ha b hb e=>hx (by rw[<-List.mem_singleton.1 hb,<-e];exact ha)⟩
 ·rw[h1];obtain⟨hj,rfl⟩:=List.getElem?_eq_some_iff.1 h2;simp only[List.set_getElem_self];exact hn
theorem rh{w W W2:World}{bx g:Nat}{l:IxD}{n n':Int}{xs:List Nat}{k:List UInt8}{en:Array MapEntry}{cl:Nat}{ty:TypeId}{v v':Value}{p:List PlD}(hbx:w.heap[bx]?=some (.cells #[.map (some g),.int .i64 n] ty (0,0))) (hg:w.heap[g]?=some (.map en cl)) (hb:jm en.toList cl) (hnd:(g::xs).Nodup) (hnb:bx∉g::xs) (hl:IxL w l en.toList xs)
  (hob:∀b,obk v=some b->∃i,aG C0 k l=some i/\xs[i]?=some b) (hW:∀b,b<w.heap.size->W.heap[b]?=w.heap[b]?) (hlt:w.heap.size<=W.heap.size) (hos:W.os=w.os/\W.tape=w.tape/\W.output=w.output) {x:Nat} (hx:obk v'=some x) (ho:W2.ownsRow 0 130 2 v' p.length (XP p))
  (halt:(obk v'=obk v/\W.grownBy W2 (obk v))\/(W.grownBy W2 none/\obk v'=some W.heap.size)) :
  W2.cell? ⟨bx,0,none⟩=some (.map (some g))/\∃(WA:World) (xs':List Nat),(Instr.mapUpdate 115 (.map (some g)) (dJ k) v').run Tryz.prog W2= .ok () WA/\WA.heap[bx]?=some (.cells #[.map (some g),.int .i64 n] ty (0,0))/\IxW WA bx (Z0 C0 k p l) n g xs'/\IxF w WA bx g xs xs'/\
    ∀W3:World,W3.heap[bx]?=some (.cells #[.map (some g),.int .i64 n'] ty (0,0))->(∀b,b≠bx->W3.heap[b]?=WA.heap[b]?)->W3.os=WA.os->W3.tape=WA.tape->W3.output=WA.output->WA.heap.size<=W3.heap.size->
     IxW W3 bx (Z0 C0 k p l) n' g xs'/\IxF w W3 bx g xs xs':=by
 have hbxl:bx<w.heap.size:=(Array.getElem?_eq_some_iff.1 hbx).1;have hgl:g<w.heap.size:=(Array.getElem?_eq_some_iff.1 hg).1;have hxl:∀b∈xs,b<w.heap.size:=λb hb=>SEs.lt hl.to b hb;have hvx:∀b,obk v=some b->b∈xs:=λb hb=>by obtain⟨j,_,h⟩:=hob b hb;exact List.mem_of_getElem? h
 have hgx:g∉xs:=(List.nodup_cons.1 hnd).1;have hnx:xs.Nodup:=(List.nodup_cons.1 hnd).2;have hbg:bx≠g:=λe=>hnb (by simp[e]);have hbxs:bx∉xs:=λe=>hnb (by simp[e]);have hW2:∀b,b<w.heap.size->obk v≠some b->W2.heap[b]?=w.heap[b]?:=λb hbl hne=>by
  rcases halt with⟨_,h⟩|⟨h,_⟩
  ·exact(h.block b (by omega) (λe=>hne e.symm)).trans (hW b hbl)
  ·exact(h.block b (by omega) (by simp)).trans (hW b hbl)
 have hr:W2.os=w.os/\W2.tape=w.tape/\W2.output=w.output/\w.heap.size<=W2.heap.size:=by
  rcases halt with⟨_,h⟩|⟨h,_⟩
  ·exact⟨h.os.trans hos.1,h.tape.trans hos.2.1,h.output.trans hos.2.2,Qt hlt h.size⟩
  ·exact⟨h.os.trans hos.1,h.tape.trans hos.2.1,h.output.trans hos.2.2,Qt hlt h.size⟩
 have hxc:(∃j,aG C0 k l=some j/\xs[j]?=some x)\/w.heap.size<=x:=by
  rcases halt with⟨h,_⟩|⟨_,h⟩
  ·exact .inl (hob x (by rw[<-h];exact hx))
  ·rw[hx]at h;injection h with h;right;omega
 have hxm:x∈xs\/w.heap.size<=x:=hxc.imp (λ⟨j,_,h⟩=>List.mem_of_getElem? h) id;have hxg:x≠g:=λe=>by rcases hxm with h|h;exact hgx (e▸h);omega
 have hxb:x≠bx:=λe=>by rcases hxm with h|h;exact hbxs (e▸h);omega
 have hxn:x∉xs\/∃j,aG C0 k l=some j/\xs[j]?=some x:=by
  rcases hxc with h|h
  ·exact .inr h
  ·exact .inl λk=>by have:=hxl x k;omega
 have hbx2:W2.heap[bx]?=some (.cells #[.map (some g),.int .i64 n] ty (0,0)):=(hW2 bx hbxl λe=>hbxs (hvx _ e)).trans hbx;obtain⟨en',cl',h1,h2,h3⟩:=KH k (w:=w) (W:=W2) (v:=v') (p:=p) (x:=x) ((hW2 g hgl λe=>hgx (hvx _ e)).trans hg) hb hl (λj b hj hjb=>hW2 b (hxl b (List.mem_of_getElem? hjb)) λe=>by
  obtain⟨i,i1,i2⟩:=hob b e;have hij:i=j:=(List.getElem?_inj (List.getElem?_eq_some_iff.1 i2).1 hnx).1 (i2.trans hjb.symm);exact hj (hij▸i1)) hx ho hxg (λb hb e=>hgx (e▸hb))
 generalize hWA:({W2 with heap:=W2.heap.setIfInBounds g (.map en' cl')}:World)=WA at h1 h3;have hA:∀b,b≠g->WA.heap[b]?=W2.heap[b]?:=λb hb=>by
  rw[<-hWA];simp only[Array.getElem?_setIfInBounds];rw[Ql (Ne.symm hb)]
 have hAg:WA.heap[g]?=some (.map en' cl'):=by
  rw[<-hWA];have:g<W2.heap.size:=by omega
  simp[this]
 have hAr:WA.os=W2.os/\WA.tape=W2.tape/\WA.output=W2.output/\W2.heap.size<=WA.heap.size:=by
  rw[<-hWA];exact⟨rfl,rfl,rfl,by simp⟩
 have hnew:∀y∈ixX k x l xs,y∈xs\/w.heap.size<=y:=λy hy=>by
  rcases AM hy with h|h
  ·exact .inl h
  ·rw[h];exact hxm
 have hmain:∀(W3:World) (m:Int),W3.heap[bx]?=some (.cells #[.map (some g),.int .i64 m] ty (0,0))->(∀b,b≠bx->W3.heap[b]?=WA.heap[b]?)->W3.os=WA.os->W3.tape=WA.tape->W3.output=WA.output->WA.heap.size<=W3.heap.size->IxW W3 bx (Z0 C0 k p l) m g (ixX k x l xs)/\IxF w W3 bx g xs (ixX k x l xs):=λW3 m q1 q2 q3 q4 q5 q6=>by
  have hXb:∀y∈ixX k x l xs,y≠bx/\y≠g:=λy hy=>by
   rcases AM hy with h|h
   ·exact⟨λe=>hbxs (e▸h),λe=>hgx (e▸h)⟩
   ·rw[h];exact⟨hxb,hxg⟩
  refine⟨⟨en',cl',ty,q1,(q2 g (Ne.symm hbg)).trans hAg,h2,List.nodup_cons.2 ⟨λh=>(hXb g h).2 rfl,AN hnx hxn⟩,λh=>?_,h3.same λb hb=>q2 b (hXb b hb).1⟩,⟨q3.trans (hAr.1.trans hr.1),q4.trans (hAr.2.1.trans hr.2.1),q5.trans (hAr.2.2.1.trans hr.2.2.1),by omega,λj hj j1 j2 j3=>?_,hnew⟩⟩
  ·rcases List.mem_cons.1 h with h|h
   ·exact hbg h
   ·exact(hXb bx h).1 rfl
  ·exact(q2 j j1).trans ((hA j j2).trans (hW2 j hj λe=>j3 (hvx j e)))
 have hbA:WA.heap[bx]?=some (.cells #[.map (some g),.int .i64 n] ty (0,0)):=(hA bx hbg).trans hbx2;obtain⟨m1,m2⟩:=hmain WA n hbA (λ_ _=>rfl) rfl rfl rfl (PW _);exact⟨xz hbx2,WA,ixX k x l xs,h1,hbA,m1,m2,λW3 q1 q2 q3 q4 q5 q6=>hmain W3 n' q1 q2 q3 q4 q5 q6⟩
set_option maxHeartbeats 4000000 in
set_option maxRecDepth 100000 in
theorem Hr{w:World}{I:Nat->Nat->Prop}(hIn:∀b o,I b o->b<w.heap.size) (hgl:nX I w){bx g:Nat}{l:IxD}{n:Int}{xs:List Nat}{k:List UInt8}{q id:Int}{r:Int×Bool}(hw:IxW w bx l n g xs) (hr:Ff.F_sender_find (Q5 C0 k [] l) q=some r) (hr2:r.2=false)
  {i:Nat} (hi:r.1=(i:Int)) (hil:i<=(Q5 C0 k [] l).length) (hbig:((Q5 C0 k [] l).length+1)*16<=140737488355328) :
  Calls Tryz.prog 31 #[.pointer (some ⟨bx,0,none⟩),dJ k,.int .u64 q,.int .i64 id] w λe w'=>∃xs',e= .returned (.bool true)/\IxW w' bx (Z0 C0 k ((Q5 C0 k [] l).take i++(q,id)::(Q5 C0 k [] l).drop i) l) (D1 (n+1)) g xs'/\IxF w w' bx g xs xs':=by
 obtain⟨en,cl,ty,hbx,hg,hb,hnd,hnb,hl⟩:=hw;obtain⟨v,hlook,how,hob⟩:=jz k hg hl;have hfind:=fQ hIn hgl how hr;have hR:=Lib.hid hr2;have hI:=Lib.hid hi;have hv1:v.oneCell'=true:=by rcases how.2 with⟨hv,_⟩|⟨_,_,_,hv,_⟩ <;> rw[hv] <;> rfl
 have hc0:w.cell? ⟨bx,0,none⟩=some (.map (some g)):=by simp[World.cell?,hbx]
 have hlook0:=hlook w hg;generalize hkk:dJ k=kv at hlook hlook0⊢;clear hr hr2 hi hIn hgl
 go_enter Tryz.func31,Tryz.ntmps31
 go_wp2_with (first|(simp only)|(go_at_call 56;refine hfind.mono ?_;rintro e w1 ⟨rfl,hg1⟩;rw[hR.out,hI.out]))
 have hbxl:bx<w.heap.size:=(Array.getElem?_eq_some_iff.1 hbx).1;have hgl:g<w.heap.size:=(Array.getElem?_eq_some_iff.1 hg).1;have hxl:∀b∈xs,b<w.heap.size:=λb hb=>SEs.lt hl.to b hb;have b1:∀b,b<w.heap.size->w1.heap[b]?=w.heap[b]?:=λb hb=>hg1.block b hb (by simp);have hvx:∀b,obk v=some b->b∈xs:=λb hb=>by obtain⟨j,_,h⟩:=hob b hb;exact List.mem_of_getElem? h
 have hnm:w1.heap.size=w1.heap.size:=rfl;have hsz1:=hg1.size;have hgx:g∉xs:=by have:=List.nodup_cons.1 hnd;exact this.1
 have hbg:bx≠g:=λe=>hnb (by simp[e]);have hbxs:bx∉xs:=λe=>hnb (by simp[e]);have hpre:∀W:World,(∀b,b<w1.heap.size->W.heap[b]?=w1.heap[b]?)->W.cell? ⟨bx,0,none⟩=some (.map (some g))/\W.heap[g]?=some (.map en cl)/\W.ownsRow 0 130 2 v (Q5 C0 k [] l).length (XP (Q5 C0 k [] l)):=λW hW=>by
  refine⟨?_,?_,?_⟩
  ·simp[World.cell?,(hW bx (by omega)).trans ((b1 bx hbxl).trans hbx)]
  ·exact(hW g (by omega)).trans ((b1 g hgl).trans hg)
  ·exact dK how λb hb=>(hW b (by have:=hxl b (hvx b hb);omega)).trans (b1 b (hxl b (hvx b hb)))
 have hins:∀W:World,(∀b,b<w1.heap.size->W.heap[b]?=w1.heap[b]?)->W.heap[w1.heap.size]?=some (.cells #[.int .u64 q,.int .i64 id] 130 (0,0))->Calls Tryz.prog 57 #[v,.int .i64 (i:Int),.slice (some ⟨w1.heap.size,0,none⟩) 1 1] W (fm (u:=uP) W v ((Q5 C0 k [] l).take i++(q,id)::(Q5 C0 k [] l).drop i)):=λW hW hvb=>by
  refine AF (u:=uP) (a:=(q,id)) rfl rfl hil hbig (hpre W hW).2.2 (λe=>?_) hvb ⟨rfl,.inr ⟨w1.heap.size,1,_,rfl,QE _,hvb,PW _,by simp[maxLen],rfl,rfl⟩⟩;have:=hxl _ (hvx _ e);omega
 have hupd:∀W W2:World,(∀b,b<w1.heap.size->W.heap[b]?=w1.heap[b]?)->w1.heap.size<W.heap.size->W.os=w1.os/\W.tape=w1.tape/\W.output=w1.output->∀v',obk v'=v'.ownBlock->W2.ownsRow 0 130 2 v' ((Q5 C0 k [] l).take i++(q,id)::(Q5 C0 k [] l).drop i).length (XP ((Q5 C0 k [] l).take i++(q,id)::(Q5 C0 k [] l).drop i))->
   ((v'.ownBlock=v.ownBlock/\W.grownBy W2 v.ownBlock)\/(W.grownBy W2 none/\v'.ownBlock=some W.heap.size))->W2.cell? ⟨bx,0,none⟩=some (.map (some g))/\∃(WA:World) (xs':List Nat),(Instr.mapUpdate 115 (.map (some g)) kv v').run Tryz.prog W2= .ok () WA/\WA.heap[bx]?=some (.cells #[.map (some g),.int .i64 n] ty (0,0))/\IxW WA bx (Z0 C0 k ((Q5 C0 k [] l).take i++(q,id)::(Q5 C0 k [] l).drop i) l) n g xs'/\IxF w WA bx g xs xs'/\
    ∀W3:World,W3.heap[bx]?=some (.cells #[.map (some g),.int .i64 (D1 (n+1))] ty (0,0))->(∀b,b≠bx->W3.heap[b]?=WA.heap[b]?)->W3.os=WA.os->W3.tape=WA.tape->W3.output=WA.output->WA.heap.size<=W3.heap.size->
     IxW W3 bx (Z0 C0 k ((Q5 C0 k [] l).take i++(q,id)::(Q5 C0 k [] l).drop i) l) (D1 (n+1)) g xs'/\IxF w W3 bx g xs xs':=λW W2 h1 h2 h3 v' h4 h5 h6=>by
  obtain⟨x,hx⟩:∃x,obk v'=some x:=by
   rcases h5.2 with⟨_,h0⟩|⟨g',cap,cur,hv,_⟩
   ·simp at h0
   ·exact⟨g',by rw[hv];rfl⟩
  rw[<-hkk];refine rh (v:=v) hbx hg hb hnd hnb hl hob (λb hb=>(h1 b (by omega)).trans (b1 b hb)) (by omega) ⟨h3.1.trans hg1.os,h3.2.1.trans hg1.tape,h3.2.2.trans hg1.output⟩ hx h5 ?_;rw[h4,N7 how];exact h6
 have hl1:=Lib.hid (hlook w1.drew (hpre w1.drew λ_ _=>rfl).2.1);have hl2:=Lib.hid (hlook (w1.alloc (.cells #[.int .u64 q,.int .i64 id] 130)).drew (hpre _ λb hb=>heap_alloc_old w1 _ hb).2.1);have hl3:=Lib.hid (hlook (w1.drew.alloc (.cells #[.int .u64 q,.int .i64 id] 130)) (hpre _ λb hb=>heap_alloc_old w1 _ hb).2.1);have hHins:=Lib.hid hins;have hHupd:=Lib.hid hupd;have hHlook:=Lib.hid hlook;have hHpre:=Lib.hid hpre;have hS0:w1.cell? ⟨bx,0,none⟩=some (.map (some g)):=(hpre w1 λ_ _=>rfl).1;clear hins hupd hlook hpre b1 hvx hxl hob how hbx hg hl hnd hnb hb hlook0 hfind hc0 hg1 hkk
 go_region_held3 (λw'=>w'.cell? ⟨bx,0,none⟩=some (.map (some g)))
  (first | exact hS0 | assumption | exact xz hbx' | exact(hHpre.out (w1.alloc (.cells #[.int .u64 q,.int .i64 id] 130)).drew (λb hb=>heap_alloc_old w1 _ hb)).1)
  (first
   |(rw[hl1.out];simp only[Result.andThen_ok])
   |(rw[hl2.out];simp only[Result.andThen_ok])
   |(rw[hl3.out];simp only[Result.andThen_ok])
   |(go_at_call 57;refine(hHins.out (w1.alloc (.cells #[.int .u64 q,.int .i64 id] 130)).drew (λb hb=>heap_alloc_old w1 _ hb) (heap_alloc_new w1 _)).mono ?_;rintro e w2 ⟨v',rfl,ho',halt⟩;obtain⟨hS2,WA,xs',hu,hbx',_,_,hfin⟩:=hHupd.out (w1.alloc (.cells #[.int .u64 q,.int .i64 id] 130)).drew w2 (λb hb=>heap_alloc_old w1 _ hb) (by simp) ⟨rfl,rfl,rfl⟩ v' (N7 ho') ho' halt))
 all_goals
  have hk1:=Ho hbx';have hk2:WA.frozen? ⟨bx,1,none⟩=false:=Hq hbx'
  go_wp2
  go_ret
  obtain⟨s1,s2,s3⟩:=pB hbx' (.int .i64 (D1 (n+1)));obtain⟨f1,f2⟩:=hfin _ s1 s2 rfl rfl rfl s3;rw[AL];exact⟨xs',rfl,f1,f2⟩
theorem IxF.trans{w w1 w2:World}{bx g:Nat}{xs xs1 xs2:List Nat}(h:IxF w w1 bx g xs xs1) (k:IxF w1 w2 bx g xs1 xs2):IxF w w2 bx g xs xs2:=
 ⟨k.os.trans h.os,k.tape.trans h.tape,k.output.trans h.output,Qt h.size k.size,λj h0 h1 h2 h3=>(k.block j (Qi h0 h.size) h1 h2 λhm=>by
  rcases h.new j hm with h4|h4
  ·exact h3 h4
  ·omega).trans (h.block j h0 h1 h2 h3),λx hx=>by
  rcases k.new x hx with h1|h1
  ·exact h.new x h1
  ·exact .inr (Qt h.size h1)⟩
theorem ri(k:List UInt8):C0 k k=true:=by
 have e:=lI (K:=.str) (a:=k) (b:=k) rfl rfl;have:V0 (dJ k) (dJ k)=true:=by simp[V0,dJ]
 exact e.symm.trans this
theorem AO{k:List UInt8}{p:List PlD}:∀{l:IxD},∃i,aG C0 k (Z0 C0 k p l)=some i/\(Z0 C0 k p l)[i]?=some (k,p):=by
 have app:∀l:IxD,aG C0 k l=none->aG C0 k (l++[(k,p)])=some l.length:=by
  intro l
  induction l with
  |nil=>intro _;simp[aG,ri]
  |cons c l ih=>
   intro h;unfold aG at h;split at h
   ·cases h
   ·rename_i hs;have h:=Option.map_eq_none_iff.1 h;rw[Qu];unfold aG;rw[Ql hs,ih h];rfl
 have set:∀(l:IxD) (i:Nat),aG C0 k l=some i->aG C0 k (l.set i (k,p))=some i:=by
  intro l
  induction l with
  |nil=>intro i h;cases h
  |cons c l ih=>
   intro i h;unfold aG at h;split at h
   ·injection h with h;subst h;rw[Rx];unfold aG;rw[Qx (ri k)]
   ·rename_i hs;obtain⟨j,h1,rfl⟩:=Option.map_eq_some_iff.1 h;rw[Ry];unfold aG;rw[Ql hs,ih j h1];rfl
 intro l;unfold Z0;cases h:aG C0 k l with
 |none=>exact⟨l.length,app l h,by simp⟩
 |some i=>exact⟨i,set l i h,by simp[lJ h]⟩
theorem AP{k:List UInt8}{p:List PlD}{l:IxD}:Q5 C0 k [] (Z0 C0 k p l)=p:=by
 obtain⟨i,h1,h2⟩:=AO (k:=k) (p:=p) (l:=l);unfold Q5;rw[h1];simp[h2]
theorem AQ{W:World}{bx g:Nat}{l:IxD}{n:Int}{xs:List Nat}{k:List UInt8}(hw:IxW W bx l n g xs):∃(WB:World) (xs':List Nat),(∀ty,(Builtin.delete_ #[115,9] ty #[.map (some g),dJ k]).run Tryz.prog W= .ok (.tuple #[]) WB)/\WB.heap[bx]?=W.heap[bx]?/\
  ∀(W3:World) (m:Int) (ty:TypeId),W3.heap[bx]?=some (.cells #[.map (some g),.int .i64 m] ty (0,0))->(∀b,b≠bx->W3.heap[b]?=WB.heap[b]?)->W3.os=WB.os->W3.tape=WB.tape->W3.output=WB.output->WB.heap.size<=W3.heap.size->IxW W3 bx (kO C0 k l) m g xs'/\IxF W W3 bx g xs xs':=by
 obtain⟨en,cl,ty,hbx,hg,hb,hnd,hnb,hl⟩:=hw;have hgx:g∉xs:=(List.nodup_cons.1 hnd).1;have hbg:bx≠g:=λe=>hnb (by simp[e]);obtain⟨en',h1,h2,h3⟩:=KI k hg hb hl (λb hb e=>hgx (e▸hb));have hgl:g<W.heap.size:=(Array.getElem?_eq_some_iff.1 hg).1;generalize hWB:({W with heap:=W.heap.setIfInBounds g (.map en' cl)}:World)=WB at h1 h3;have hA:∀b,b≠g->WB.heap[b]?=W.heap[b]?:=λb hb=>by
  rw[<-hWB];simp only[Array.getElem?_setIfInBounds];rw[Ql (Ne.symm hb)]
 have hAg:WB.heap[g]?=some (.map en' cl):=by
  rw[<-hWB];simp[hgl]
 have hAr:WB.os=W.os/\WB.tape=W.tape/\WB.output=W.output/\W.heap.size<=WB.heap.size:=by
  rw[<-hWB];exact⟨rfl,rfl,rfl,by simp⟩
 have hsub:∀y∈ixY k l xs,y∈xs:=λy hy=>by
  unfold ixY at hy;split at hy
  ·exact(RN ..).mem hy
  ·exact hy
 have hnY:(ixY k l xs).Nodup:=by
  unfold ixY;split
  ·exact(List.nodup_cons.1 hnd).2.sublist (RN ..)
  ·exact(List.nodup_cons.1 hnd).2
 refine⟨WB,ixY k l xs,h1,hA bx hbg,λW3 m ty' q1 q2 q3 q4 q5 q6=>⟨⟨en',cl,ty',q1,(q2 g (Ne.symm hbg)).trans hAg,h2,List.nodup_cons.2 ⟨λh=>hgx (hsub g h),hnY⟩,λh=>?_,h3.same λb hb=>q2 b λe=>hnb (Qc _ (hsub _ (e▸hb)))⟩,⟨q3.trans hAr.1,q4.trans hAr.2.1,q5.trans hAr.2.2.1,by omega,λj hj j1 j2 j3=>(q2 j j1).trans (hA j j2),λx hx=>.inl (hsub x hx)⟩⟩⟩;rcases List.mem_cons.1 h with h|h
 ·exact hbg h
 ·exact hnb (Qc _ (hsub _ h))
theorem Hs{W W3:World}{bx g:Nat}{l:IxD}{n m:Int}{xs:List Nat}{ty:TypeId}(hw:IxW W bx l n g xs) (q1:W3.heap[bx]?=some (.cells #[.map (some g),.int .i64 m] ty (0,0))) (q2:∀b,b≠bx->W3.heap[b]?=W.heap[b]?) (q3:W3.os=W.os) (q4:W3.tape=W.tape) (q5:W3.output=W.output) (q6:W.heap.size<=W3.heap.size) :
  IxW W3 bx l m g xs/\IxF W W3 bx g xs xs:=by
 obtain⟨en,cl,ty0,hbx,hg,hb,hnd,hnb,hl⟩:=hw;have hbg:bx≠g:=λe=>hnb (by simp[e]);exact⟨⟨en,cl,ty,q1,(q2 g (Ne.symm hbg)).trans hg,hb,hnd,hnb,hl.same λb hb=>q2 b λe=>hnb (by rw[<-e];exact Qc _ hb)⟩,⟨q3,q4,q5,q6,λk hk k1 k2 k3=>q2 k k1,λx hx=>.inl hx⟩⟩
set_option maxHeartbeats 4000000 in
set_option maxRecDepth 100000 in
theorem Ht{w:World}{I:Nat->Nat->Prop}(hIn:∀b o,I b o->b<w.heap.size) (hgl:nX I w){bx g:Nat}{l:IxD}{n:Int}{xs:List Nat}{k:List UInt8}{q:Int}{r:Int×Bool}(hw:IxW w bx l n g xs) (hr:Ff.F_sender_find (Q5 C0 k [] l) q=some r) (hr2:r.2=false) :
  Calls Tryz.prog 35 #[.pointer (some ⟨bx,0,none⟩),dJ k,.int .u64 q] w λe w'=>e= .returned (.bool false)/\w.grownBy w' none:=by
 obtain⟨en,cl,ty,hbx,hg,hb,hnd,hnb,hl⟩:=hw;obtain⟨v,hlook,how,hob⟩:=jz k hg hl;have hfind:=fQ hIn hgl how hr;have hc0:w.cell? ⟨bx,0,none⟩=some (.map (some g)):=by simp[World.cell?,hbx]
 have hR:=Lib.hid hr2;have hv1:v.oneCell'=true:=by rcases how.2 with⟨hv,_⟩|⟨_,_,_,hv,_⟩ <;> rw[hv] <;> rfl
 have hlook:=hlook w hg;generalize hkk:dJ k=kv at hlook⊢;clear hr hr2 hob how hl hb hnd hnb hbx hg hkk hIn hgl
 go_enter Tryz.func35,Tryz.ntmps35
 go_wp2_with (first|(simp only)|(go_at_call 56;refine hfind.mono ?_;rintro e w1 ⟨rfl,hg1⟩;rw[hR.out]))
 go_ret
 exact⟨rfl,hg1⟩
set_option maxHeartbeats 8000000 in
set_option maxRecDepth 100000 in
theorem AR{w:World}{I:Nat->Nat->Prop}(hIn:∀b o,I b o->b<w.heap.size) (hgl:nX I w){bx g:Nat}{l:IxD}{n:Int}{xs:List Nat}{k:List UInt8}{q:Int}{r:Int×Bool}(hw:IxW w bx l n g xs) (hr:Ff.F_sender_find (Q5 C0 k [] l) q=some r) (hr2:r.2=true)
  {i:Nat} (hi:r.1=(i:Int)) (hil:i<(Q5 C0 k [] l).length) :
  Calls Tryz.prog 35 #[.pointer (some ⟨bx,0,none⟩),dJ k,.int .u64 q] w λe w'=>∃xs',e= .returned (.bool true)/\IxW w' bx (if((Q5 C0 k [] l).eraseIdx i).length=0 then kO C0 k (Z0 C0 k ((Q5 C0 k [] l).eraseIdx i) l)else Z0 C0 k ((Q5 C0 k [] l).eraseIdx i) l) (D1 (n-1)) g xs'/\IxF w w' bx g xs xs':=by
 obtain⟨en,cl,ty,hbx,hg,hb,hnd,hnb,hl⟩:=hw;obtain⟨v,hlook,how,hob⟩:=jz k hg hl;have hfind:=fQ hIn hgl how hr;have hR:=Lib.hid hr2;have hI:=Lib.hid hi;have hv1:v.oneCell'=true:=by rcases how.2 with⟨hv,_⟩|⟨_,_,_,hv,_⟩ <;> rw[hv] <;> rfl
 have hc0:w.cell? ⟨bx,0,none⟩=some (.map (some g)):=by simp[World.cell?,hbx]
 have hlook0:=hlook w hg;obtain⟨pl,hpl⟩:∃pl,pl=Q5 C0 k [] l:=⟨_,rfl⟩;rw[<-hpl]at hil how⊢;have hcap:pl.length<=maxLen:=by
  rcases how.2 with⟨_,h0⟩|⟨_,cap,_,_,_,_,h1,h2,_⟩
  ·omega
  ·exact Qt h1 h2
 generalize hkk:dJ k=kv at hlook hlook0⊢;clear hr hr2 hi hIn hgl
 go_enter Tryz.func35,Tryz.ntmps35
 go_wp2_with (first|(simp only)|(go_at_call 56;refine hfind.mono ?_;rintro e w1 ⟨rfl,hg1⟩;rw[hR.out,hI.out]))
 have hbxl:bx<w.heap.size:=(Array.getElem?_eq_some_iff.1 hbx).1;have hgl:g<w.heap.size:=(Array.getElem?_eq_some_iff.1 hg).1;have hxl:∀b∈xs,b<w.heap.size:=λb hb=>SEs.lt hl.to b hb;have b1:∀b,b<w.heap.size->w1.heap[b]?=w.heap[b]?:=λb hb=>hg1.block b hb (by simp);have hvx:∀b,obk v=some b->b∈xs:=λb hb=>by obtain⟨j,_,h⟩:=hob b hb;exact List.mem_of_getElem? h
 have hsz1:=hg1.size;have how1:w1.ownsRow 0 130 2 v pl.length (XP pl):=dK how λb hb=>b1 b (hxl b (hvx b hb));have hS0:w1.cell? ⟨bx,0,none⟩=some (.map (some g)):=xz ((b1 bx hbxl).trans hbx);have hgg1:w1.heap[g]?=some (.map en cl):=(b1 g hgl).trans hg;obtain⟨vb,vc,hvs,hdel⟩:∃vb vc,v= .slice (some ⟨vb,0,none⟩) pl.length vc/\Calls Tryz.prog 59 #[v,.int .i64 (i:Int),.int .i64 ((i:Int)+1)] w1.drew (tN (u:=uP) w1.drew v (pl.eraseIdx i)):=by
  rcases how1.2 with⟨_,h0⟩|⟨vb,vc,cur,hv,_,h2,h3,h4,h5,h6⟩
  ·omega
  ·refine⟨vb,vc,hv,?_⟩;rw[hv];exact AG (u:=uP) rfl hil h3 h4 (show w1.drew.heap[vb]?=_ from h2) h5 h6
 have hupd:∀(W2:World) (v':Value),W2.ownsRow 0 130 2 v' (pl.eraseIdx i).length (XP (pl.eraseIdx i))->obk v'=obk v->w1.drew.grownBy W2 v.ownBlock->W2.cell? ⟨bx,0,none⟩=some (.map (some g))/\∃(WA:World) (xs':List Nat),(Instr.mapUpdate 115 (.map (some g)) kv v').run Tryz.prog W2= .ok () WA/\WA.heap[bx]?=some (.cells #[.map (some g),.int .i64 n] ty (0,0))/\IxW WA bx (Z0 C0 k (pl.eraseIdx i) l) n g xs'/\IxF w WA bx g xs xs':=λW2 v' h1 h2 h3=>by
  rw[<-hkk];obtain⟨q0,WA,xs',q1,q2,q3,q4,_⟩:=rh (w:=w) (W:=w1.drew) (W2:=W2) (n':=0) (k:=k) (v:=v) (v':=v') (p:=pl.eraseIdx i) hbx hg hb hnd hnb hl hob (λb hb=>b1 b hb) hsz1 ⟨hg1.os,hg1.tape,hg1.output⟩ (x:=vb) (by rw[h2,hvs];rfl) h1 (.inl ⟨h2,by rw[hvs]at h3⊢;exact h3⟩);exact⟨q0,WA,xs',q1,q2,q3,q4⟩
 have hrest:∀(WA:World) (xs':List Nat),IxW WA bx (Z0 C0 k (pl.eraseIdx i) l) n g xs'->∃A c,(Instr.lookup 115 (.map (some g)) kv false).run Tryz.prog WA= .ok (.slice A (pl.eraseIdx i).length c) WA:=λWA xs' h=>by
  obtain⟨en2,cl2,ty2,_,hg2,_,_,_,hl2⟩:=h;obtain⟨v2,hlook2,how2,_⟩:=jz k hg2 hl2;rw[AP]at how2;rw[<-hkk];rcases how2.2 with⟨hv,h0⟩|⟨g2,cap,_,hv,_⟩
  ·exact⟨none,0,by rw[h0,<-hv];exact hlook2 WA hg2⟩
  ·exact⟨some ⟨g2,0,none⟩,cap,by rw[<-hv];exact hlook2 WA hg2⟩
 have hdw:∀(WA:World) (xs':List Nat),IxW WA bx (Z0 C0 k (pl.eraseIdx i) l) n g xs'->∃(WB:World) (xs2:List Nat),(∀ty,(Builtin.delete_ #[115,9] ty #[.map (some g),kv]).run Tryz.prog WA= .ok (.tuple #[]) WB)/\WB.heap[bx]?=WA.heap[bx]?/\
   ∀(W3:World) (m:Int) (ty:TypeId),W3.heap[bx]?=some (.cells #[.map (some g),.int .i64 m] ty (0,0))->(∀b,b≠bx->W3.heap[b]?=WB.heap[b]?)->W3.os=WB.os->W3.tape=WB.tape->W3.output=WB.output->WB.heap.size<=W3.heap.size->IxW W3 bx (kO C0 k (Z0 C0 k (pl.eraseIdx i) l)) m g xs2/\IxF WA W3 bx g xs' xs2:=λWA xs' h=>by
  rw[<-hkk];exact AQ h
 have hll:=hlook w1.drew hgg1;have hHll:=Lib.hid hll;have hHdel:=Lib.hid hdel;have hHupd:=Lib.hid hupd;have hHrest:=Lib.hid hrest;have hHdw:=Lib.hid hdw;have hwr:IntKind.i64.wrap ((i:Int)+1)=(i:Int)+1:=by unfold maxLen at hcap;rw[IntKind.wrap_i64];omega
 clear hll hdel hupd hrest hdw hlook b1 hvx hxl hob how hbx hg hl hnd hnb hb hlook0 hfind hc0 hg1 hkk how1 hgg1 hpl hcap hil hvs
 go_region_held3 (λw'=>w'.cell? ⟨bx,0,none⟩=some (.map (some g)))
  (first | exact hS0 | assumption | exact xz hbx')
  (first
   |(rw[hHll.out];simp only[Result.andThen_ok])
   |(go_at_call 59;refine hHdel.out.mono ?_;rintro e w2 ⟨v',rfl,ho',_,hv',hgr⟩;obtain⟨hS2,WA,xs',hu,hbx',hwa,hfa⟩:=hHupd.out w2 v' ho' hv' hgr))
 all_goals
  obtain⟨A2,c2,hl2⟩:=hHrest.out WA xs' hwa;obtain⟨WB,xs2,hd2,hd3,hd4⟩:=hHdw.out WA xs' hwa;have hbB:=hd3.trans hbx';have hD4:=Lib.hid hd4;have hF:=Lib.hid hfa;have hWa:=Lib.hid hwa;have k1:=Ho hbx';have k2:WA.frozen? ⟨bx,1,none⟩=false:=Hq hbx';have k3:=Ho hbB;have k4:WB.frozen? ⟨bx,1,none⟩=false:=Hq hbB;have k5:=xz hbx';clear hd3 hd4 hfa hwa;by_cases hz:((pl.eraseIdx i).length:Int)=0
  ·have hz':(pl.eraseIdx i).length=0:=by omega
   rw[hz']at hl2;have HZ:=Lib.hid hz';clear hz hz'
   go_wp2_with (first | (rw[hl2];simp only[Result.andThen_ok]) | (rw[hd2];simp only[Result.andThen_ok]))
   go_ret
   obtain⟨s1,s2,s3⟩:=pB hbB (.int .i64 (D1 (n-1)));obtain⟨f1,f2⟩:=hD4.out _ _ _ s1 s2 rfl rfl rfl s3
   try rw[AL]
   first
    |(rw[Qx HZ.out];exact⟨xs2,rfl,f1,hF.out.trans f2⟩)
    |exact⟨rfl,xs2,f1,hF.out.trans f2⟩
  ·have hz':¬(pl.eraseIdx i).length=0:=by omega
   have HZ:=Lib.hid hz';have hz2:(((pl.eraseIdx i).length:Int)==0)=false:=by simpa using hz'
   clear hz'
   go_wp2_with (rw[hl2];simp only[Result.andThen_ok])
   go_ret
   obtain⟨s1,s2,s3⟩:=pB hbx' (.int .i64 (D1 (n-1)));obtain⟨f1,f2⟩:=Hs hWa.out s1 s2 rfl rfl rfl s3
   try rw[AL]
   first
    |(rw[Ql HZ.out];exact⟨xs',rfl,f1,hF.out.trans f2⟩)
    |exact⟨rfl,xs',f1,hF.out.trans f2⟩
end Go.Proofs.YthkhcbphbabefaaGreat.Am
namespace Go.Proofs.YthkhcbphbabefaaGreat
open Go Go.Proofs Go.RowKit Go.Proofs.YthkhcbphbabefaaGreat.Am
theorem Nk:(Tryz.prog.info? 3).map (λi=>(i.zero,i.size,i.bytes))=some (some (.int .i64 0),1,8):=by kernel_rfl
def Rep.intA:Rep Int where
 sz:=1
 At _ _ cs a:=cs=[.int .i64 a]
 len:=by rintro w S cs a rfl;rfl
 keep h _:=h
 mono h _:=h
theorem Px:Elt Tryz.prog Rep.intA 22 3 8 where
 und:=Tryz.underlying22
 info:=by
  obtain⟨i,h1,h2,h3,h4⟩:=info_parts Nk;exact⟨i,_,h1,h2,h3,h4,rfl⟩
 pos:=by decide
 one:=by rintro w S cs a rfl u hu;simp at hu;subst hu;rfl
set_option maxHeartbeats 4000000 in
set_option maxRecDepth 100000 in
theorem DR{w:World}{bx g:Nat}{l:IxD}{n:Int}{xs:List Nat}{k:List UInt8}(hw:IxW w bx l n g xs):∃v,w.ownsRow 0 130 2 v (Q5 C0 k [] l).length (XP (Q5 C0 k [] l))/\(∀b,obk v=some b->b∈xs)/\
  Calls Tryz.prog 70 #[.pointer (some ⟨bx,0,none⟩),dJ k] w λe w'=>e= .returned v/\w=w':=by
 obtain⟨en,cl,ty,hbx,hg,hb,hnd,hnb,hl⟩:=hw;obtain⟨v,hlook,how,hob⟩:=jz k hg hl;refine⟨v,how,λb hb=>by obtain⟨j,_,h⟩:=hob b hb;exact List.mem_of_getElem? h,?_⟩;have hc0:w.cell? ⟨bx,0,none⟩=some (.map (some g)):=xz hbx;have hv1:v.oneCell'=true:=by rcases how.2 with⟨hv,_⟩|⟨_,_,_,hv,_⟩ <;> rw[hv] <;> rfl
 have hlook:=hlook w hg;generalize hkk:dJ k=kv at hlook⊢;clear hob how hl hb hnd hnb hbx hg hkk
 go_enter Tryz.func70,Tryz.ntmps70
 go_wp2_with (simp only[hlook,Result.andThen_ok])
 go_ret
 exact⟨rfl,rfl⟩
theorem DS{w:World}{v:Value}{ps:List PlD}(how:w.ownsRow 0 130 2 v ps.length (XP ps)):∃A c,v= .slice A ps.length c/\∀(wr:World) (j:Nat) (h:j<ps.length),Below w.heap.size w wr->∃vb,A=some ⟨vb,0,none⟩/\wr.cell? ⟨vb,j*2,none⟩=some (.int .u64 ps[j].1)/\wr.cell? ⟨vb,j*2+1,none⟩=some (.int .i64 ps[j].2):=by
 rcases how.2 with⟨hv,h0⟩|⟨vb,vc,cur,hv,_,h2,h3,h4,h5,h6⟩
 ·exact⟨none,0,by rw[hv,h0],λwr j h=>by omega⟩
 ·refine⟨some ⟨vb,0,none⟩,vc,hv,λwr j h hb=>⟨vb,rfl,?_⟩⟩;have hvb:vb<w.heap.size:=(Array.getElem?_eq_some_iff.1 h2).1;have hg2:wr.heap[vb]?=some (.cells cur 130 (0,0)):=(hb.block vb hvb).trans h2;have hX:∀m,m<2->(XP ps)[j*2+m]?=[Value.int .u64 ps[j].1,Value.int .i64 ps[j].2][m]?:=λm hm=>by
   have e:XP ps=XP (ps.take j)++([Value.int .u64 ps[j].1,Value.int .i64 ps[j].2]++XP (ps.drop (j+1))):=by
    have e1:ps=ps.take j++(ps[j]::ps.drop (j+1)):=by rw[<-List.drop_eq_getElem_cons h,List.take_append_drop]
    have e2:XP (ps.take j++(ps[j]::ps.drop (j+1)))=XP (ps.take j)++XP (ps[j]::ps.drop (j+1)):=iV (u:=uP) _ _;rw[<-e1]at e2;rw[e2];rfl
   have hl:(XP (ps.take j)).length=j*2:=by
    have h1:(ps.take j).length=j:=by rw[List.length_take];omega
    exact(X4 (u:=uP) rfl (ps.take j)).trans (congrArg (· * 2) h1)
   rw[e,List.getElem?_append_right (by omega),hl,Nat.add_sub_cancel_left,List.getElem?_append_left (by simpa using hm)]
  have hcl:∀m,m<2->wr.cell? ⟨vb,j*2+m,none⟩=[Value.int .u64 ps[j].1,Value.int .i64 ps[j].2][m]?:=λm hm=>by
   rw[<-hX m hm,<-h6,List.getElem?_take,if_pos (by omega)];simp[World.cell?,hg2]
  exact⟨by simp,by simp⟩
set_option maxHeartbeats 4000000 in
set_option maxRecDepth 100000 in
theorem xA{w:World}{bx g:Nat}{l:IxD}{n:Int}{xs:List Nat}{k:List UInt8}(hw:IxW w bx l n g xs) (hbig:(Q5 C0 k [] l).length<=1000000000000) :
  Calls Tryz.prog 42 #[.pointer (some ⟨bx,0,none⟩),dJ k] w λe w'=>∃A' n' c',e= .returned (.slice A' n' c')/\Own Rep.intA 3 w' w.heap.size No (.slice A' n' c') n' ((Q5 C0 k [] l).map (·.2))/\Below w.heap.size w w':=by
 obtain⟨v,how,hvx,hof⟩:=DR (k:=k) hw;obtain⟨ps,hps⟩:∃ps,ps=Q5 C0 k [] l:=⟨_,rfl⟩;rw[<-hps]at how hbig⊢;obtain⟨A,c,hv,hcell⟩:=DS how;subst hv;generalize hkk:dJ k=kv at hof⊢;clear how hvx hw hkk hps
 go_enter Tryz.func42,Tryz.ntmps42
 go_wp2_with (go_at_call 70;refine hof.mono ?_;rintro e w1 ⟨rfl,rfl⟩)
 go_loopw [5,12] (λx y wr=>∃(j:Nat) (A':Option Addr) (c':Nat),x= .slice A' j c'/\y= .int .i64 j/\j<=ps.length/\Own Rep.intA 3 wr w.heap.size No (.slice A' j c') j ((ps.take j).map (·.2))/\Below w.heap.size w wr) (λ_ y _=>ps.length-(intOf y).toNat)
 case atStart=>exact⟨0,none,0,rfl,rfl,by omega,Own.nil_ _ _ _ _ _,Below.refl _ _⟩
 case round=>
  obtain⟨j,A',c',rfl,rfl,hj,hown,hbel⟩:=hrel;by_cases hlt:(j:Int)<(ps.length:Int)
  ·have hjl:j<ps.length:=by omega
   obtain⟨vb,hA,hc0,hc1⟩:=hcell wr j hjl hbel;subst hA;have hbz:=hbel.size;have Hcell:=Lib.hid hcell;have Htk:=Lib.hid (List.take_succ_eq_append_getElem hjl);clear hcell
   go_wp2_with (at_builtin;(refine wl Px rfl rfl ((hown.alloc _).alloc _) rfl (Sl.litOf (w:=wr.alloc (.cells #[.int .u64 ps[j].1,.int .i64 ps[j].2] 130)) (t:=3) (S:=No) (cs:= #[.int .i64 ps[j].2]) [ps[j].2] (Rep.all_one (by show [_]=[_];rfl)) (n:=1) rfl (by simp[maxLen]) (b:=wr.heap.size+1) (by simp)) rfl id (by omega) (by unfold maxLen;omega) (by simp;omega) (λh=>h) ?_;intro A3 n3 c3 w3 hn3 hown3 hb3 hg3 hat3))
   have h3:=hn3.out;subst h3;refine⟨⟨j+1,A3,c3,rfl,by simp,by omega,?_,((hbel.alloc hbz _).alloc (by simp;omega) _).trans hb3⟩,by simp[intOf];omega⟩;rw[Htk.out,List.map_append];exact hown3
  ·have hje:j=ps.length:=by omega
   subst hje
   go_wp2
   go_ret
   rw[List.take_length]at hown;exact⟨A',_,c',rfl,hown,hbel⟩
end Go.Proofs.YthkhcbphbabefaaGreat
namespace Go.Proofs.YthkhcbphbabefaaGreat.Am
open Go Go.Proofs Go.RowKit
def oIx(l:IxD) (n:Int):List OC:=[.row 2 (10000000+130) (l.map Nj),.d (.v (.int .i64 n))]
theorem kW:Q4 (10000000+130):=by decide
theorem KJ:(10000000+130)-rS=130:=by decide
theorem Hu{I:Nat->Nat->Prop}{w:World}{v:Value}{F:List Nat}{l:IxD}{n:Int}(h:OCr I w (.box (oIx l n)) v F) (hF:F.Nodup):∃bx g xs,v= .pointer (some ⟨bx,0,none⟩)/\F=bx::g::xs/\IxW w bx l n g xs/\∀b∈F,∀o,¬I b o:=by
 simp only[oIx,OCr,OCs]at h;obtain⟨bx,cur,ty,Fs,rfl,hbx,⟨x,r,F1,F2,hc,⟨ex,hrow,rfl,hI1,hs⟩,⟨y,r2,F3,F4,rfl,⟨rfl,hd⟩,⟨rfl,rfl⟩,rfl⟩,rfl⟩,rfl,hbI⟩:=h;obtain⟨⟨g,en,cl,rfl,hg,hb,hnd,hse⟩,hex⟩:=hs kW;rw[Qx kW]at hF⊢;simp only[DVr]at hd;obtain⟨rfl,_⟩:=hd;have hc':cur= #[.map (some g),.int .i64 n]:=by cases cur;simp only at hc;subst hc;rfl
 subst hc';have hobk:(obk (Value.map (some g))).toList=[g]:=rfl;rw[hobk]at hF⊢;simp only[PO,QT,Qu]at hF⊢;simp only[KJ]at hse;refine⟨bx,g,ex,rfl,rfl,⟨en,cl,ty,hbx,hg,hb,hnd,(List.nodup_cons.1 hF).1,IxL.of hse⟩,λb hm o=>?_⟩;rcases List.mem_cons.1 hm with rfl|hm
 ·exact hbI o
 rcases List.mem_cons.1 hm with rfl|hm
 ·exact hI1 _ o rfl
 ·exact hex b hm o
theorem Hv{I:Nat->Nat->Prop}{w:World}{bx g:Nat}{l:IxD}{n:Int}{xs:List Nat}(h:IxW w bx l n g xs) (hI:∀b∈bx::g::xs,∀o,¬I b o):OCr I w (.box (oIx l n)) (.pointer (some ⟨bx,0,none⟩)) (bx::g::xs):=by
 obtain⟨en,cl,ty,hbx,hg,hb,hnd,hnb,hl⟩:=h;simp only[oIx,OCr,OCs];refine⟨bx,_,ty,g::xs,rfl,hbx,⟨.map (some g),_,g::xs,[],rfl,⟨xs,⟨Nat.zero_lt_two,λe he=>?_,.inr (.inr (.inr ⟨kW,g,rfl,(Array.getElem?_eq_some_iff.1 hg).1⟩))⟩,?_,λg' o h1=>?_,λ_=>⟨⟨g,en,cl,rfl,hg,hb,hnd,by simp only[KJ];exact hl.to⟩,λb hm=>hI b (by simp[hm])⟩⟩,⟨_,_,[],[],rfl,⟨rfl,?_⟩,⟨rfl,rfl⟩,rfl⟩,by simp⟩,rfl,hI bx (by simp)⟩
 ·obtain⟨c,_,rfl⟩:=List.mem_map.1 he;rfl
 ·rw[Qx kW];rfl
 ·injection h1 with h1;subst h1;exact hI g (by simp) o
 ·simp only[DVr];exact⟨trivial,rfl⟩
theorem IxW.lt{w:World}{bx g:Nat}{l:IxD}{n:Int}{xs:List Nat}(h:IxW w bx l n g xs):∀b∈bx::g::xs,b<w.heap.size:=λb hm=>by
 obtain⟨en,cl,ty,hbx,hg,hb,hnd,hnb,hl⟩:=h;rcases List.mem_cons.1 hm with rfl|hm
 ·exact(Array.getElem?_eq_some_iff.1 hbx).1
 rcases List.mem_cons.1 hm with rfl|hm
 ·exact(Array.getElem?_eq_some_iff.1 hg).1
 ·exact SEs.lt hl.to b hm
theorem IxW.nodup{w:World}{bx g:Nat}{l:IxD}{n:Int}{xs:List Nat}(h:IxW w bx l n g xs):(bx::g::xs).Nodup:=by
 obtain⟨en,cl,ty,hbx,hg,hb,hnd,hnb,hl⟩:=h;exact List.nodup_cons.2 ⟨hnb,hnd⟩
theorem IxW.same{w w':World}{bx g:Nat}{l:IxD}{n:Int}{xs:List Nat}(h:IxW w bx l n g xs) (hk:∀b,b<w.heap.size->w'.heap[b]?=w.heap[b]?):IxW w' bx l n g xs:=by
 have hlt:=h.lt;obtain⟨en,cl,ty,hbx,hg,hb,hnd,hnb,hl⟩:=h;exact⟨en,cl,ty,(hk bx (hlt bx (by simp))).trans hbx,(hk g (hlt g (by simp))).trans hg,hb,hnd,hnb,hl.same λb hm=>hk b (hlt b (by simp[hm]))⟩
theorem pC{I:Nat->Nat->Prop}{w:World}{xs:List Value}{F:List Nat}(h:OAs I w [] xs F):xs=[]/\F=[]:=h
theorem AS{I:Nat->Nat->Prop}{w:World}{cs:List OC}{ts:List OA}{xs:List Value}{F:List Nat}(h:OAs I w (.bx cs::ts) xs F):∃x r F1 F2,xs=x::r/\OCr I w (.box cs) x F1/\OAs I w ts r F2/\F=F1++F2:=by
 simp only[OAs,OAr]at h;exact h
theorem xB{I:Nat->Nat->Prop}{w:World}{y:Value}{ts:List OA}{xs:List Value}{F:List Nat}(h:OAs I w (.c (.d (.v y))::ts) xs F):∃r,xs=y::r/\OAs I w ts r F:=by
 simp only[OAs,OAr,OCr,DVr]at h;obtain⟨x,r,F1,F2,rfl,⟨rfl,rfl,_⟩,h2,rfl⟩:=h;exact⟨r,rfl,h2⟩
theorem pD{S:fg}{xs:List OA}{args:List Value}{w w':World}{I:Nat->Nat->Prop}{bx g:Nat}{xx xx':List Nat}{l':IxD}{n':Int}{b:Bool}(hIn:∀b o,I b o->b<w.heap.size) (hNI:∀b∈bx::g::xx,∀o,¬I b o)
  (hw:IxW w' bx l' n' g xx') (hf:IxF w w' bx g xx xx') (hpost:S.post xs=[.bx (oIx l' n')]) (htop:D4 xs args=[.pointer (some ⟨bx,0,none⟩)]) (hres:S.res xs=[.c (.d (.v (.bool b)))]):Ret S I w xs args (bx::g::xx) w' I [.bool b] (bx::g::xx') []:=by
 have hnot:∀k,k<w.heap.size->k∉bx::g::xx->w'.heap[k]?=w.heap[k]?:=λk hk hm=>by
  simp only[QY,not_or]at hm;exact hf.block k hk hm.1 hm.2.1 hm.2.2
 refine⟨⟨hf.os,hf.tape,hf.output,hf.size,λk hk hm=>hnot k hk hm⟩,λ_ _ h=>h,λc o hi=>?_,λ_ _ h=>.inl h,λc o hi=>Qi (hIn c o hi) hf.size,?_,?_,by simpa using hw.nodup,λc hc=>?_,λ_ _ h _=>h,λ_ _ h _ n=>absurd h n⟩
 ·exact dY (hnot c (hIn c o hi) λhm=>hNI c hm o hi)
 ·rw[hpost,htop];simp only[OAs,OAr];refine⟨_,_,bx::g::xx',[],rfl,Hv hw λc hc o hi=>?_,⟨rfl,rfl⟩,by simp⟩;rcases List.mem_cons.1 hc with rfl|hc
  ·exact hNI c (by simp) o hi
  rcases List.mem_cons.1 hc with rfl|hc
  ·exact hNI c (by simp) o hi
  ·rcases hf.new c hc with h1|h1
   ·exact hNI c (by simp[h1]) o hi
   ·exact absurd (hIn c o hi) (Nat.not_lt.2 h1)
 ·rw[hres];simp only[OAs,OAr,OCr,DVr];exact⟨_,_,[],[],rfl,⟨rfl,rfl,rfl⟩,⟨rfl,rfl⟩,rfl⟩
 ·rw[PO]at hc;rcases List.mem_cons.1 hc with rfl|hc
  ·exact .inl (by simp)
  rcases List.mem_cons.1 hc with rfl|hc
  ·exact .inl (by simp)
  ·exact(hf.new c hc).imp (λh=>by simp[h]) id
theorem rj{w w':World}{bx g:Nat}{xs:List Nat}(h:w.grownBy w' none):IxF w w' bx g xs xs:=⟨h.os,h.tape,h.output,h.size,λk hk _ _ _=>h.block k hk (by simp),λ_ h=>.inl h⟩
theorem Hw{S:fg}{xs:List OA}{args:List Value}{w w':World}{I:Nat->Nat->Prop}{bx g:Nat}{xx:List Nat}{l:IxD}{n:Int}{v:Value}{z e:Nat}{es:List (List DV)}{X:List Value}(hIn:∀b o,I b o->b<w.heap.size) (hNI:∀b∈bx::g::xx,∀o,¬I b o)
  (hw:IxW w bx l n g xx) (hb:Below w.heap.size w w') (ho:w'.ownsRow w.heap.size e z v es.length X) (hd:D2 I w' es X) (hz:0<z) (hes:∀x∈es,x.length=z) (he:e<Q7) (hpost:S.post xs=[.bx (oIx l n)]) (htop:D4 xs args=[.pointer (some ⟨bx,0,none⟩)]) (hres:S.res xs=[.c (.row z e es)]):Ret S I w xs args (bx::g::xx) w' I [v] (bx::g::xx) (obk v).toList:=by
 have hlt:=hw.lt;have hov:∀k,obk v=some k->w.heap.size<=k:=λk hk=>by
  rcases ho.2 with⟨hv,_⟩|⟨g',cap,cur,hv,h1,_⟩
  ·rw[hv]at hk;cases hk
  ·rw[hv]at hk;injection hk with hk;rw[<-hk];exact h1
 refine⟨⟨hb.os,hb.tape,hb.output,hb.size,λk hk _=>hb.block k hk⟩,λ_ _ h=>h,λc o hi=>dY (hb.block c (hIn c o hi)),λ_ _ h=>.inl h,λc o hi=>Qi (hIn c o hi) hb.size,?_,?_,?_,λc hc=>?_,λ_ _ h _=>h,λ_ _ h _ n=>absurd h n⟩
 ·rw[hpost,htop];simp only[OAs,OAr];exact⟨_,_,bx::g::xx,[],rfl,Hv (hw.same λb h=>hb.block b h) hNI,⟨rfl,rfl⟩,by simp⟩
 ·rw[hres];simp only[OAs,OAr,OCr];refine⟨_,_,(obk v).toList,[],rfl,⟨[],⟨hz,hes,.inl ⟨he,X,⟨ho.1,ho.2.imp id λ⟨g',cap,cur,h1,_,h3⟩=>⟨g',cap,cur,h1,QE _,h3⟩⟩,hd⟩⟩,?_,λk o hk hi=>?_,λh=>absurd h (D3 he)⟩,⟨rfl,rfl⟩,by simp⟩
  ·rw[Ql (D3 he),PO]
  ·exact absurd (hIn k o hi) (Nat.not_lt.2 (hov k hk))
 ·rw[QP];refine⟨hw.nodup,by cases obk v <;> simp,λa ha b hb' hab=>?_⟩;subst hab;have:=hov a (by simpa using hb');have:=hlt a ha;omega
 ·rcases List.mem_append.1 hc with hc|hc
  ·exact .inl hc
  ·exact .inr (hov c (by simpa using hc))
def O2(l:IxD) (n:Int) (k:List UInt8) (q id:Int):Option (IxD×Int×Bool):=LA l n k q id
abbrev Hx:OTs:=.cons (.row (.pr .str (.sl (.pr (.int .u64) (.int .i64)))) (10000000+130)) (.cons (.d (.int .i64)) .nil)
def O3:TFn:=⟨.cons (.bx Hx) (.cons (.c (.d .str)) (.cons (.c (.d (.int .u64))) (.cons (.c (.d (.int .i64))) .nil))),.cons Hx .nil,.cons (.c (.d .bool)) .nil,IxD×Int×Bool,λa=>O2 a.1.1 a.1.2.1 a.2.1 a.2.2.1 a.2.2.2.1,λr=>(((r.1,(r.2.1,())),()),(r.2.2,())),.none⟩
theorem cy:FnT Tryz.prog 31 O3:=
 ⟨rfl,rfl,⟨trivial,⟨_,Tryz.func31,rfl,rfl⟩,λw I F args xs hIn hgl hargs hF hp=>by
  obtain⟨a,r,rfl,hr⟩:=hp;obtain⟨⟨l,n,u1⟩,k,q,id,u⟩:=a;change IxD at l;change Int at n;change List UInt8 at k;change Int at q;change Int at id;obtain⟨l',n',b⟩:=r;change IxD at l';change Int at n';change Bool at b;have hr':LA l n k q id=some (l',n',b):=hr
  replace hargs:OAs I w [.bx (oIx l n),.c (.d (.v (dJ k))),.c (.d (.v (.int .u64 q))),.c (.d (.v (.int .i64 id)))] args.toList F:=hargs
  obtain⟨x,r0,F1,F2,e1,hx,hr0,rfl⟩:=AS hargs;obtain⟨r1,rfl,hr1⟩:=xB hr0;obtain⟨r2,rfl,hr2⟩:=xB hr1;obtain⟨r3,rfl,hr3⟩:=xB hr2;obtain⟨rfl,rfl⟩:=pC hr3;rw[PO]at hF⊢;obtain⟨bx,g,xx,rfl,rfl,hw,hNI⟩:=Hu hx hF;have ha:args= #[.pointer (some ⟨bx,0,none⟩),dJ k,.int .u64 q,.int .i64 id]:=by cases args;simp only at e1;subst e1;rfl
  subst ha;have epost:(O3.spec.post (O3.args.oas ((l,n,u1),k,q,id,u)))=[.bx (oIx l' n')]:=by
   rw[TFn.post_of rfl hr];rfl
  have eres:(O3.spec.res (O3.args.oas ((l,n,u1),k,q,id,u)))=[.c (.d (.v (.bool b)))]:=by
   rw[TFn.res_of rfl hr];rfl
  unfold LA at hr';obtain⟨r,hf,hr'⟩:=Option.bind_eq_some_iff.1 hr';cases hr2:r.2 with
  |true=>
   rw[hr2]at hr';injection hr' with hr';injection hr' with h1 hr';injection hr' with h2 h3;subst h1;subst h2;subst h3;refine Calls.mono (AK hIn hgl hw hf hr2) λe w' h=>?_;obtain⟨rfl,hg⟩:=h;exact⟨I,[.bool false],_,[],rfl,pD hIn hNI (hw.same λb hb=>hg.block b hb (by simp)) (rj hg) epost rfl eres⟩
  |false=>
   rw[hr2]at hr';obtain⟨hc,hr'⟩:=L9 (show chk _ _=_ from hr');obtain⟨c1,c2,c3⟩:=PN hc;injection hr' with hr';injection hr' with h1 hr';injection hr' with h2 h3;obtain⟨i,hi⟩:=RW c1;rw[hi]at h1;subst h1;subst h2;subst h3;refine Calls.mono (Hr (id:=id) hIn hgl hw hf hr2 hi (by omega) c3) λe w' h=>?_;obtain⟨xx',rfl,hw',hf'⟩:=h;exact⟨I,[.bool true],_,[],rfl,pD hIn hNI hw' hf' epost rfl eres⟩⟩⟩
def E8(l:IxD) (n:Int) (k:List UInt8) (q:Int):Option (IxD×Int×Bool):=
 (Ff.F_sender_find (Q5 C0 k [] l) q).bind λr=>
 sel r.2 (chk (decide ((0:Int)<=r.1/\r.1<(((Q5 C0 k [] l).length:Nat):Int))) (some (if((Q5 C0 k [] l).eraseIdx r.1.toNat).length=0 then kO C0 k (Z0 C0 k ((Q5 C0 k [] l).eraseIdx r.1.toNat) l)else Z0 C0 k ((Q5 C0 k [] l).eraseIdx r.1.toNat) l,D1 (n-1),true))) (some (l,n,false))
def K4:TFn:=⟨.cons (.bx Hx) (.cons (.c (.d .str)) (.cons (.c (.d (.int .u64))) .nil)),.cons Hx .nil,.cons (.c (.d .bool)) .nil,IxD×Int×Bool,λa=>E8 a.1.1 a.1.2.1 a.2.1 a.2.2.1,λr=>(((r.1,(r.2.1,())),()),(r.2.2,())),.none⟩
theorem bb:FnT Tryz.prog 35 K4:=
 ⟨rfl,rfl,⟨trivial,⟨_,Tryz.func35,rfl,rfl⟩,λw I F args xs hIn hgl hargs hF hp=>by
  obtain⟨a,r,rfl,hr⟩:=hp;obtain⟨⟨l,n,u1⟩,k,q,u⟩:=a;change IxD at l;change Int at n;change List UInt8 at k;change Int at q;obtain⟨l',n',b⟩:=r;change IxD at l';change Int at n';change Bool at b;have hr':E8 l n k q=some (l',n',b):=hr
  replace hargs:OAs I w [.bx (oIx l n),.c (.d (.v (dJ k))),.c (.d (.v (.int .u64 q)))] args.toList F:=hargs
  obtain⟨x,r0,F1,F2,e1,hx,hr0,rfl⟩:=AS hargs;obtain⟨r1,rfl,hr1⟩:=xB hr0;obtain⟨r2,rfl,hr2⟩:=xB hr1;obtain⟨rfl,rfl⟩:=pC hr2;rw[PO]at hF⊢;obtain⟨bx,g,xx,rfl,rfl,hw,hNI⟩:=Hu hx hF;have ha:args= #[.pointer (some ⟨bx,0,none⟩),dJ k,.int .u64 q]:=by cases args;simp only at e1;subst e1;rfl
  subst ha;have epost:(K4.spec.post (K4.args.oas ((l,n,u1),k,q,u)))=[.bx (oIx l' n')]:=by
   rw[TFn.post_of rfl hr];rfl
  have eres:(K4.spec.res (K4.args.oas ((l,n,u1),k,q,u)))=[.c (.d (.v (.bool b)))]:=by
   rw[TFn.res_of rfl hr];rfl
  unfold E8 at hr';obtain⟨r,hf,hr'⟩:=Option.bind_eq_some_iff.1 hr';cases hr2:r.2 with
  |false=>
   rw[hr2]at hr';injection hr' with hr';injection hr' with h1 hr';injection hr' with h2 h3;subst h1;subst h2;subst h3;refine Calls.mono (Ht hIn hgl hw hf hr2) λe w' h=>?_;obtain⟨rfl,hg⟩:=h;exact⟨I,[.bool false],_,[],rfl,pD hIn hNI (hw.same λb hb=>hg.block b hb (by simp)) (rj hg) epost rfl eres⟩
  |true=>
   rw[hr2]at hr';obtain⟨hc,hr'⟩:=L9 (show chk _ _=_ from hr');obtain⟨c1,c2⟩:=PN hc;injection hr' with hr';injection hr' with h1 hr';injection hr' with h2 h3;obtain⟨i,hi⟩:=RW c1;rw[hi]at h1;subst h1;subst h2;subst h3;refine Calls.mono (AR hIn hgl hw hf hr2 hi (by omega)) λe w' h=>?_;obtain⟨xx',rfl,hw',hf'⟩:=h;exact⟨I,[.bool true],_,[],rfl,pD hIn hNI hw' hf' epost rfl eres⟩⟩⟩
def KM(a:Int):List DV:=[.v (.int .i64 a)]
theorem vX{w:World}{S:Nat->Prop}{I:Nat->Nat->Prop}:∀{l:List Int}{X:List Value},Rep.intA.all w S X l->D2 I w (l.map KM) X
 |[],X,h=>h
 |a::l,X,h=>by
  obtain⟨c,r,rfl,hc,hr⟩:=h;simp only[PQ,D2];refine⟨c,r,rfl,?_,vX hr⟩;have hc':c=[.int .i64 a]:=hc;rw[hc'];show E4 I w [.v (.int .i64 a)] [.int .i64 a];simp only[E4,DVr];exact⟨_,_,rfl,⟨rfl,rfl⟩,rfl⟩
theorem Hy{w w':World}{S:Nat->Prop}{A:Option Addr}{m c:Nat}{l:List Int}(h:Go.Proofs.YthkhcbphbabefaaGreat.Own Rep.intA 3 w w'.heap.size S (.slice A m c) m l){I:Nat->Nat->Prop}:∃X,w.ownsRow w'.heap.size 3 1 (.slice A m c) (l.map KM).length X/\D2 I w (l.map KM) X:=by
 obtain⟨hm,_,X,ho,hr⟩:=h;rw[PR,<-hm];exact⟨X,ho,vX hr⟩
theorem Hz{l:List Int}:∀x∈l.map KM,x.length=1:=λx hx=>by
 obtain⟨a,_,rfl⟩:=List.mem_map.1 hx;rfl
def J2(l:IxD) (n:Int) (k:List UInt8):Option (IxD×Int×List Int):=chk (decide ((Q5 C0 k [] l).length<=1000000000000)) (some (l,n,(Q5 C0 k [] l).map (·.2)))
def M6:TFn:=⟨.cons (.bx Hx) (.cons (.c (.d .str)) .nil),.cons Hx .nil,.cons (.c (.row (.int .i64) 3)) .nil,IxD×Int×List Int,λa=>J2 a.1.1 a.1.2.1 a.2.1,λr=>(((r.1,(r.2.1,())),()),(r.2.2,())),.none⟩
theorem bQ:FnT Tryz.prog 42 M6:=
 ⟨rfl,rfl,⟨trivial,⟨_,Tryz.func42,rfl,rfl⟩,λw I F args xs hIn hgl hargs hF hp=>by
  obtain⟨a,r,rfl,hr⟩:=hp;obtain⟨⟨l,n,u1⟩,k,u⟩:=a;change IxD at l;change Int at n;change List UInt8 at k;have hr':J2 l n k=some r:=hr;obtain⟨hc,hr'⟩:=L9 hr';injection hr' with hr';subst hr'
  replace hargs:OAs I w [.bx (oIx l n),.c (.d (.v (dJ k)))] args.toList F:=hargs
  obtain⟨x,r0,F1,F2,e1,hx,hr0,rfl⟩:=AS hargs;obtain⟨r1,rfl,hr1⟩:=xB hr0;obtain⟨rfl,rfl⟩:=pC hr1;rw[PO]at hF⊢;obtain⟨bx,g,xx,rfl,rfl,hw,hNI⟩:=Hu hx hF;have ha:args= #[.pointer (some ⟨bx,0,none⟩),dJ k]:=by cases args;simp only at e1;subst e1;rfl
  subst ha;have epost:(M6.spec.post (M6.args.oas ((l,n,u1),k,u)))=[.bx (oIx l n)]:=by
   rw[TFn.post_of rfl hr];rfl
  have eres:(M6.spec.res (M6.args.oas ((l,n,u1),k,u)))=[.c (.row 1 3 (((Q5 C0 k [] l).map (·.2)).map KM))]:=by
   rw[TFn.res_of rfl hr];rfl
  refine Calls.mono (xA hw (PN hc)) λe w' h=>?_;obtain⟨A,m,c,rfl,ho,hb⟩:=h;obtain⟨X,ho',hd⟩:=Hy (I:=I) ho;exact⟨I,[.slice A m c],_,_,rfl,Hw hIn hNI hw hb ho' hd (by decide) Hz (by decide) epost rfl eres⟩⟩⟩
theorem AU(w:World):Calls Tryz.prog 26 #[] w λe w'=>∃bx g ty,e= .returned (.pointer (some ⟨bx,0,none⟩))/\w.heap.size<=bx/\w.heap.size<=g/\bx≠g/\w'.heap[bx]?=some (.cells #[.map (some g),.int .i64 0] ty (0,0))/\w'.heap[g]?=some (.map #[] 0)/\w.grownBy w' none:=by
 have hmm:∀(t:TypeId) (w:World),(Instr.makeMap t none).run Tryz.prog w= .ok (.map (some w.heap.size)) (w.alloc (.map #[] 0)):=λ_ _=>rfl
 go_enter Tryz.func26,Tryz.ntmps26
 go_wp2
 go_ret
 refine⟨w.heap.size+1,w.heap.size,117,rfl,SN _,PW _,by omega,?_,?_,?_⟩
 ·have:=heap_alloc_new (w.alloc (.map #[] 0)) (.cells #[.map (some w.heap.size),.int .i64 0] 117);simpa using this
 ·exact((D9 (w.alloc (.map #[] 0)) _).block w.heap.size (by simp) (by simp)).trans (heap_alloc_new w _)
 ·exact(D9 w _).trans (D9 _ _)
def cW:Option (IxD×Int):=some ([],0)
def bA:TFn:=⟨.nil,.nil,.cons (.c (.box Hx)) .nil,IxD×Int,λ_=>cW,λr=>((),((r.1,(r.2,())),())),.none⟩
theorem pE:FnT Tryz.prog 26 bA:=
 ⟨rfl,rfl,⟨trivial,⟨_,Tryz.func26,rfl,rfl⟩,λw I F args xs hIn hgl hargs hF hp=>by
  obtain⟨a,r,rfl,hr⟩:=hp;have hr':cW=some r:=hr;injection hr' with hr';subst hr'
  replace hargs:OAs I w [] args.toList F:=hargs
  obtain⟨e1,rfl⟩:=pC hargs;have ha:args= #[]:=by cases args;simp only at e1;subst e1;rfl
  subst ha;have epost:(bA.spec.post (bA.args.oas a))=[]:=by
   rw[TFn.post_of rfl hr];rfl
  have eres:(bA.spec.res (bA.args.oas a))=[.c (.box (oIx [] 0))]:=by
   rw[TFn.res_of rfl hr];rfl
  refine Calls.mono (AU w) λe w' h=>?_;obtain⟨bx,g,ty,rfl,h1,h2,h3,h4,h5,hg⟩:=h;have hw:IxW w' bx [] 0 g []:=⟨_,_,ty,h4,h5,by simp[jm],by simp,by simpa using h3,rfl,rfl⟩;refine⟨I,[.pointer (some ⟨bx,0,none⟩)],[],[bx,g],rfl,⟨⟨hg.os,hg.tape,hg.output,hg.size,λk hk _=>hg.block k hk (by simp)⟩,λ_ _ h=>h,λc o hi=>dY (hg.block c (hIn c o hi) (by simp)),λ_ _ h=>.inl h,λc o hi=>Qi (hIn c o hi) hg.size,?_,?_,by simpa using h3,λc hc=>?_,λ_ _ h _=>h,λ_ _ h _ n=>absurd h n⟩⟩
  ·rw[epost];exact⟨rfl,rfl⟩
  ·rw[eres];simp only[OAs,OAr];refine⟨_,_,[bx,g],[],rfl,Hv hw λc hc o hi=>?_,⟨rfl,rfl⟩,by simp⟩;have:=hIn c o hi;simp only[QY,SI,or_false]at hc;omega
  ·simp only[QT,QY,SI,or_false]at hc;right;omega⟩⟩
end Go.Proofs.YthkhcbphbabefaaGreat.Am
namespace Go.Proofs
open Go.Shelf
def Tryz.keys40_ren:Go.Shelf.Ren:=⟨fun | 7=>40 | 10=>63 | n=>n,fun | 23=>64 | 26=>3 | 3=>76 | 28=>87 | 0=>0 | 27=>86 | 33=>96 | 4=>4 | n=>n,fun | n=>n⟩
theorem Tryz.keys40:Go.Proofs.SlLaysZI.n7 Tryz.prog Tryz.keys40_ren:={
 mixed:=by kernel_rfl
 f7:=⟨Tryz.f40.name,by decide,Tryz.func40.trans (congrArg some (by kernel_rfl))⟩
 f10:=⟨Tryz.f63.name,by decide,Tryz.func63.trans (congrArg some (by kernel_rfl))⟩
 t0:=Tryz.underlying0
 a0:=Tryz.isAgg0
 z0:=Tryz.sizeOf0
 v0:=Tryz.zeroValue0
 t4:=Tryz.underlying4
 a4:=Tryz.isAgg4
 z4:=Tryz.sizeOf4
 v4:=Tryz.zeroValue4
 t23:=Tryz.underlying64
 a23:=Tryz.isAgg64
 z23:=Tryz.sizeOf64
 v23:=Tryz.zeroValue64
 t26:=Tryz.underlying3
 a26:=Tryz.isAgg3
 z26:=Tryz.sizeOf3
 v26:=Tryz.zeroValue3
 t27:=Tryz.underlying86
 a27:=Tryz.isAgg86
 z27:=Tryz.sizeOf86
 v27:=Tryz.zeroValue86
 t28:=Tryz.underlying87
 a28:=Tryz.isAgg87
 z28:=Tryz.sizeOf87
 v28:=Tryz.zeroValue87
 t33:=Tryz.underlying96
 a33:=Tryz.isAgg96
 z33:=Tryz.sizeOf96
 v33:=Tryz.zeroValue96}
def Tryz.sorted39_ren:Go.Shelf.Ren:=⟨fun | 6=>39 | 8=>61 | 9=>62 | 11=>88 | 13=>90 | 12=>89 | 23=>106 | 24=>107 | 14=>97 | 15=>98 | 16=>99 | 17=>100 | 18=>101 | 19=>102 | 20=>103 | 21=>104 | 22=>105 | 25=>117 | 26=>118 | 27=>119 | 28=>120 | 29=>121 | 30=>93 | 31=>125 | n=>n,fun | 26=>3 | 28=>87 | 24=>22 | 0=>0 | 3=>3 | 37=>153 | 48=>122 | 50=>27 | 4=>4 | 40=>171 | 39=>170 | 45=>73 | 5=>5 | 9=>9 | 51=>186 | 55=>148 | 57=>193 | 58=>194 | 33=>96 | n=>n,fun | n=>n⟩
theorem Tryz.sorted39:Go.Proofs.SlLaysZI.n6 Tryz.prog Tryz.sorted39_ren:={
 mixed:=by kernel_rfl
 f6:=⟨Tryz.f39.name,by decide,Tryz.func39.trans (congrArg some (by kernel_rfl))⟩
 f8:=⟨Tryz.f61.name,by decide,Tryz.func61.trans (congrArg some (by kernel_rfl))⟩
 f11:=⟨Tryz.f88.name,by decide,Tryz.func88.trans (congrArg some (by kernel_rfl))⟩
 t0:=Tryz.underlying0
 a0:=Tryz.isAgg0
 z0:=Tryz.sizeOf0
 v0:=Tryz.zeroValue0
 t24:=Tryz.underlying22
 a24:=Tryz.isAgg22
 z24:=Tryz.sizeOf22
 v24:=Tryz.zeroValue22
 t26:=Tryz.underlying3
 a26:=Tryz.isAgg3
 z26:=Tryz.sizeOf3
 v26:=Tryz.zeroValue3
 t28:=Tryz.underlying87
 a28:=Tryz.isAgg87
 z28:=Tryz.sizeOf87
 v28:=Tryz.zeroValue87
 i26:=by kernel_rfl}
def Tryz.sort62_ren:Go.Shelf.Ren:=⟨fun | 5=>62 | 8=>90 | 7=>89 | 19=>106 | 20=>107 | 10=>97 | 11=>98 | 12=>99 | 13=>100 | 14=>101 | 15=>102 | 16=>103 | 17=>104 | 18=>105 | 30=>117 | 31=>118 | 32=>119 | 33=>120 | 34=>121 | 35=>93 | 40=>125 | n=>n,fun | 23=>22 | 25=>3 | 3=>3 | 32=>153 | 22=>22 | 0=>0 | 44=>122 | 46=>27 | 4=>4 | 36=>171 | 35=>170 | 41=>73 | 5=>5 | 9=>9 | 53=>186 | 57=>148 | 63=>193 | 64=>194 | n=>n,fun | n=>n⟩
theorem Tryz.sort62:Go.Proofs.SlLaysM.n5 Tryz.prog Tryz.sort62_ren:={
 mixed:=by kernel_rfl
 f5:=⟨Tryz.f62.name,by decide,Tryz.func62.trans (congrArg some (by kernel_rfl))⟩
 f7:=⟨Tryz.f89.name,by decide,Tryz.func89.trans (congrArg some (by kernel_rfl))⟩
 f8:=Tryz.func90.trans (congrArg some (by kernel_rfl))
 f10:=⟨Tryz.f97.name,by decide,Tryz.func97.trans (congrArg some (by kernel_rfl))⟩
 f11:=⟨Tryz.f98.name,by decide,Tryz.func98.trans (congrArg some (by kernel_rfl))⟩
 f12:=⟨Tryz.f99.name,by decide,Tryz.func99.trans (congrArg some (by kernel_rfl))⟩
 f13:=⟨Tryz.f100.name,by decide,Tryz.func100.trans (congrArg some (by kernel_rfl))⟩
 f14:=⟨Tryz.f101.name,by decide,Tryz.func101.trans (congrArg some (by kernel_rfl))⟩
 f15:=⟨Tryz.f102.name,by decide,Tryz.func102.trans (congrArg some (by kernel_rfl))⟩
 f16:=⟨Tryz.f103.name,by decide,Tryz.func103.trans (congrArg some (by kernel_rfl))⟩
 f17:=⟨Tryz.f104.name,by decide,Tryz.func104.trans (congrArg some (by kernel_rfl))⟩
 f18:=⟨Tryz.f105.name,by decide,Tryz.func105.trans (congrArg some (by kernel_rfl))⟩
 f19:=Tryz.func106.trans (congrArg some (by kernel_rfl))
 f20:=Tryz.func107.trans (congrArg some (by kernel_rfl))
 f30:=⟨Tryz.f117.name,by decide,Tryz.func117.trans (congrArg some (by kernel_rfl))⟩
 f31:=Tryz.func118.trans (congrArg some (by kernel_rfl))
 f32:=Tryz.func119.trans (congrArg some (by kernel_rfl))
 f33:=⟨Tryz.f120.name,by decide,Tryz.func120.trans (congrArg some (by kernel_rfl))⟩
 f34:=⟨Tryz.f121.name,by decide,Tryz.func121.trans (congrArg some (by kernel_rfl))⟩
 f35:=⟨Tryz.f93.name,by decide,Tryz.func93.trans (congrArg some (by kernel_rfl))⟩
 f40:=⟨Tryz.f125.name,by decide,Tryz.func125.trans (congrArg some (by kernel_rfl))⟩
 t0:=Tryz.underlying0
 a0:=Tryz.isAgg0
 z0:=Tryz.sizeOf0
 v0:=Tryz.zeroValue0
 t3:=Tryz.underlying3
 a3:=Tryz.isAgg3
 z3:=Tryz.sizeOf3
 v3:=Tryz.zeroValue3
 t4:=Tryz.underlying4
 a4:=Tryz.isAgg4
 z4:=Tryz.sizeOf4
 v4:=Tryz.zeroValue4
 t5:=Tryz.underlying5
 a5:=Tryz.isAgg5
 z5:=Tryz.sizeOf5
 v5:=Tryz.zeroValue5
 t9:=Tryz.underlying9
 a9:=Tryz.isAgg9
 z9:=Tryz.sizeOf9
 v9:=Tryz.zeroValue9
 t22:=Tryz.underlying22
 a22:=Tryz.isAgg22
 z22:=Tryz.sizeOf22
 v22:=Tryz.zeroValue22
 t23:=Tryz.underlying22
 a23:=Tryz.isAgg22
 z23:=Tryz.sizeOf22
 v23:=Tryz.zeroValue22
 t25:=Tryz.underlying3
 a25:=Tryz.isAgg3
 z25:=Tryz.sizeOf3
 v25:=Tryz.zeroValue3
 t32:=Tryz.underlying153
 a32:=Tryz.isAgg153
 z32:=Tryz.sizeOf153
 v32:=Tryz.zeroValue153
 t35:=Tryz.underlying170
 a35:=Tryz.isAgg170
 z35:=Tryz.sizeOf170
 v35:=Tryz.zeroValue170
 t36:=Tryz.underlying171
 a36:=Tryz.isAgg171
 z36:=Tryz.sizeOf171
 v36:=Tryz.zeroValue171
 t41:=Tryz.underlying73
 a41:=Tryz.isAgg73
 z41:=Tryz.sizeOf73
 v41:=Tryz.zeroValue73
 t44:=Tryz.underlying122
 a44:=Tryz.isAgg122
 z44:=Tryz.sizeOf122
 v44:=Tryz.zeroValue122
 t46:=Tryz.underlying27
 a46:=Tryz.isAgg27
 z46:=Tryz.sizeOf27
 v46:=Tryz.zeroValue27
 t53:=Tryz.underlying186
 a53:=Tryz.isAgg186
 z53:=Tryz.sizeOf186
 v53:=Tryz.zeroValue186
 t57:=Tryz.underlying148
 a57:=Tryz.isAgg148
 z57:=Tryz.sizeOf148
 v57:=Tryz.zeroValue148
 t63:=Tryz.underlying193
 a63:=Tryz.isAgg193
 z63:=Tryz.sizeOf193
 v63:=Tryz.zeroValue193
 t64:=Tryz.underlying194
 a64:=Tryz.isAgg194
 z64:=Tryz.sizeOf194
 v64:=Tryz.zeroValue194}
def Tryz.keys73_ren:Go.Shelf.Ren:=⟨fun | 7=>73 | 10=>95 | n=>n,fun | 23=>118 | 26=>3 | 3=>137 | 28=>87 | 0=>0 | 27=>86 | 33=>96 | 4=>4 | n=>n,fun | n=>n⟩
theorem Tryz.keys73:Go.Proofs.SlLaysZI.n7 Tryz.prog Tryz.keys73_ren:={
 mixed:=by kernel_rfl
 f7:=⟨Tryz.f73.name,by decide,Tryz.func73.trans (congrArg some (by kernel_rfl))⟩
 f10:=⟨Tryz.f95.name,by decide,Tryz.func95.trans (congrArg some (by kernel_rfl))⟩
 t0:=Tryz.underlying0
 a0:=Tryz.isAgg0
 z0:=Tryz.sizeOf0
 v0:=Tryz.zeroValue0
 t4:=Tryz.underlying4
 a4:=Tryz.isAgg4
 z4:=Tryz.sizeOf4
 v4:=Tryz.zeroValue4
 t23:=Tryz.underlying118
 a23:=Tryz.isAgg118
 z23:=Tryz.sizeOf118
 v23:=Tryz.zeroValue118
 t26:=Tryz.underlying3
 a26:=Tryz.isAgg3
 z26:=Tryz.sizeOf3
 v26:=Tryz.zeroValue3
 t27:=Tryz.underlying86
 a27:=Tryz.isAgg86
 z27:=Tryz.sizeOf86
 v27:=Tryz.zeroValue86
 t28:=Tryz.underlying87
 a28:=Tryz.isAgg87
 z28:=Tryz.sizeOf87
 v28:=Tryz.zeroValue87
 t33:=Tryz.underlying96
 a33:=Tryz.isAgg96
 z33:=Tryz.sizeOf96
 v33:=Tryz.zeroValue96}
end Go.Proofs
namespace Go.Proofs.YthkhcbphbabefaaGreat.Am
open Go Go.Proofs Go.RowKit Go.Maps Go.Sort Go.WideElems Go.WideShapes
def AY(_:Value):Option (DataW Unit×List MemPlace):=some (.lit (.bool true),[])
theorem nQ{w:World}{b:Nat}{v:Value}(h:w.cell? ⟨b,0,none⟩=some v):b<w.heap.size:=by
 rcases Rv b w.heap.size with h1|h1
 ·exact h1
 ·have:w.heap[b]?=none:=Array.getElem?_eq_none h1;simp[World.cell?,this]at h
theorem xC{ms:List MapEntry}{c:Nat}(h:jm ms c):(ms.map (·.born)).Nodup:=by
 unfold List.Nodup;rw[SY];exact h.1.imp λhlt=>Nat.ne_of_lt hlt
theorem DT{w:World}{b g:Nat}{ty:TypeId}(hb:w.heap[b]?=some (.cells #[.map (some g)] ty (0,0))):w.cell? ⟨b,0,none⟩=some (.map (some g)):=by
 simp[World.cell?,hb]
theorem KN{P:Program}{k:TypeId}{x:MapEntry}{kl:Lit}(h:keyOf P k x.key=some kl):WideElems.rg P k AY x=(kl,.lit (.bool true)):=by
 simp[WideElems.rg,WideElems.rd,h,AY]
theorem AZ{P:Program}{k:TypeId}{en:Array MapEntry}{clock:Nat}(hb:jm en.toList clock) (hnd:(en.toList.map (·.key)).Nodup) (hk:∀x∈en.toList,∃kl,keyOf P k x.key=some kl) (hsz:en.size<=maxLen):WideElems.Fit P k AY en clock:=
 ⟨hsz,⟨hb.2,xC hb,hnd⟩,λx hx=>by
  obtain⟨kl,h⟩:=hk x hx;exact⟨(kl,.lit (.bool true)),by simp[WideElems.rd,h,AY]⟩⟩
theorem Ba{P:Program}{k:TypeId}(hk:P.underlying k=some (.int .i64)){x:Int}(hx:(Lit.int .i64 x).wf=true):keyOf P k (.int .i64 x)=some (.int .i64 x):=by
 simp[keyOf,hk,mapKey,hx]
theorem Fw{P:Program}{k:TypeId}(hk:P.underlying k=some (.int .i64)):∀{ms:List MapEntry}{ks:List Int},ms.map (·.key)=ks.map (Value.int .i64)->(∀x∈ks,(Lit.int .i64 x).wf=true)->(ms.map (WideElems.rg P k AY)).map (λp=>Go.intOf p.1)=ks
 |[],[],_,_=>rfl
 |m::ms,x::ks,h,hw=>by
  simp only[PQ,List.cons.injEq]at h;have h1:keyOf P k m.key=some (.int .i64 x):=by rw[h.1];exact Ba hk (hw x (by simp))
  rw[PQ,PQ,KN h1,Fw hk h.2 (λy hy=>hw y (by simp[hy]))];rfl
 |[],_::_,h,_=>by simp at h
 |_::_,[],h,_=>by simp at h
theorem rk{α β:Type}{f:α->β}(hf:∀x y,f x=f y->x=y){l:List α}(h:l.Nodup):(l.map f).Nodup:=by
 unfold List.Nodup at *
 rw[SY];exact h.imp λhne e=>hne (hf _ _ e)
theorem HA{α:Type}{f:α->Value}{ms:List MapEntry}{ks:List α}(h:ms.map (·.key)=ks.map f){m:MapEntry}(hm:m∈ms):∃x∈ks,m.key=f x:=by
 have:m.key∈ms.map (·.key):=List.mem_map.2 ⟨m,hm,rfl⟩;rw[h]at this;obtain⟨x,h1,h2⟩:=List.mem_map.1 this;exact⟨x,h1,h2.symm⟩
theorem Bb{P:Program}{k:TypeId}(en:Array MapEntry):Maps.size (DataW.map ((en.toList.map (WideElems.rg P k AY)).foldr DataW.insert []))=en.size:=by
 show((en.toList.map (WideElems.rg P k AY)).foldr DataW.insert []).length=en.size;rw[length_sorted];simp
theorem vY{P:Program}{f f1:FuncId}{e:TypeId}(hk:P.underlying e=some (.int .i64))
  (h:∀(b g nn:Nat) (D0:DataW Unit) (w:World),w.cell? ⟨b,0,none⟩=some (.map (some g))->w.ownsMap P e AY g nn D0->Maps.size D0<=maxLen->Maps.size D0*8<=140737488355328->
   Calls P f #[rR f1 b] w λo w'=>∃(v:Value) (ss:List Int),o= .returned v/\ss.Perm (intKeys D0)/\w'.ownsRow w.heap.size e 1 v ss.length ((ss.mergeSort (λx y=>decide (x<=y))).map encZ)/\(v= .slice none 0 0↔ss=[])/\RowKit.Below w.heap.size w w'):IU P f f1 e:=by
 intro w b g ty en clock ks hb hg hborn hkeys hnd hwf hmax hby
 have hlen:en.size=ks.length:=by
  have:=congrArg List.length hkeys;simpa using this
 have hfit:WideElems.Fit P e AY en clock:=AZ hborn (by rw[hkeys];exact rk (λx y h=>by injection h) hnd) (λm hm=>by
  obtain⟨x,hx,hxe⟩:=HA hkeys hm;exact⟨_,by rw[hxe];exact Ba hk (hwf x hx)⟩) (by rw[hlen];exact hmax)
 refine(h b g en.size _ w (DT hb) ⟨en,clock,hg,hfit,PW _,rfl⟩ (by rw[Bb,hlen];exact hmax) (by rw[Bb,hlen];exact hby)).mono ?_;rintro o w' ⟨v,ss,rfl,hp,hown,_,hB⟩;have hperm:ss.Perm ks:=by
  refine hp.trans ?_;show(((en.toList.map (WideElems.rg P e AY)).foldr DataW.insert []).map λp=>Go.intOf p.1).Perm ks;have:=(sorted_perm (en.toList.map (WideElems.rg P e AY))).map (λp=>Go.intOf p.1);rw[Fw hk hkeys hwf]at this;exact this
 refine⟨v,rfl,?_,hB⟩;have e1:ss.mergeSort (λx y=>decide (x<=y))=ks.mergeSort (λx y=>decide (x<=y)):=mergeSort_of_perm_i hperm;rw[e1,hperm.length_eq]at hown;exact hown
end Go.Proofs.YthkhcbphbabefaaGreat.Am
namespace Go.Proofs.YthkhcbphbabefaaGreat.Am
open Go Go.Proofs Go.RowKit Go.Maps Go.Sort Go.Shelf
theorem vZ(m:Nat):AnyZI.SortsIn Tryz.prog Tryz.sorted39_ren Fence.wide m:=
 ⟨λblk off cap ss W hH hblk hsz=>callsIn_wide.2 (AnyM.slices_Sort_int Tryz.sort62 blk off cap ss W hH hblk hsz),
  λp cap W=>callsIn_wide.2 (AnyM.slices_Sort_int_none Tryz.sort62 p cap W)⟩
theorem Nl:Gd Tryz.prog 40 (.keys 63):=⟨64,λg w=>(callsIn_wide (n:=5)).1 (AnyZI.keys_in Tryz.keys40 Fence.wide 5 trivial rfl (some g) w)⟩
theorem DU:Gd Tryz.prog 39 (.sortI 63 3):=vY Tryz.underlying3 λb g nn D0 w hb hown hmax hby=>by
 have hseq:SeqGives Fence.wide 2 Tryz.prog 63 #[.pointer (some ⟨b,0,none⟩)] encZ (λss=>ss.Perm (intKeys D0)) (Maps.size D0) w:=
  AnyZI.keys_gives (ρ:=Tryz.keys40_ren) {Tryz.keys40 with} Fence.wide _ trivial rfl (by omega) b g nn D0 w (nQ hb) hb hown
 exact(callsIn_wide (n:=5)).1 (AnyZI.sorted_in Tryz.sorted39 Fence.wide 5 trivial trivial trivial trivial rfl (by omega) (vZ _) (enters_of Tryz.func62 (by kernel_rfl) rfl) 63 #[.pointer (some ⟨b,0,none⟩)] trivial (enters_of Tryz.func63 (by kernel_rfl) rfl) _ _ hmax hby _ hseq)
theorem Nm:Gd Tryz.prog 73 (.keys 95):=⟨118,λg w=>(callsIn_wide (n:=5)).1 (AnyZI.keys_in Tryz.keys73 Fence.wide 5 trivial rfl (some g) w)⟩
theorem DW:Gd Tryz.prog 39 (.sortI 95 3):=vY Tryz.underlying3 λb g nn D0 w hb hown hmax hby=>by
 have hseq:SeqGives Fence.wide 2 Tryz.prog 95 #[.pointer (some ⟨b,0,none⟩)] encZ (λss=>ss.Perm (intKeys D0)) (Maps.size D0) w:=
  AnyZI.keys_gives (ρ:=Tryz.keys73_ren) {Tryz.keys73 with} Fence.wide _ trivial rfl (by omega) b g nn D0 w (nQ hb) hb hown
 exact(callsIn_wide (n:=5)).1 (AnyZI.sorted_in Tryz.sorted39 Fence.wide 5 trivial trivial trivial trivial rfl (by omega) (vZ _) (enters_of Tryz.func62 (by kernel_rfl) rfl) 95 #[.pointer (some ⟨b,0,none⟩)] trivial (enters_of Tryz.func95 (by kernel_rfl) rfl) _ _ hmax hby _ hseq)
end Go.Proofs.YthkhcbphbabefaaGreat.Am
namespace Go.Proofs.YthkhcbphbabefaaGreat.Am
open Go
theorem S2{S R:Type}{G:S->Option (S⊕R)}{p:R->Prop}(inv:Nat->S->Prop) (step:∀n x,inv n x->Ok (G x) (Nxt p λz=>∃m,m<n/\inv m z)) :
  ∀{n:Nat} {x:S},inv n x->n<1180591620717411303424->Ok (aH G x) p:=by
 have key:∀(f n:Nat) (x:S),inv n x->n<f->Ok (GM f G x) p:=by
  intro f
  induction f with
  |zero=>intro n x _ h;omega
  |succ f ih=>
   intro n x hi hm;obtain⟨y,hy,h⟩:=step n x hi;unfold GM;rw[hy];cases y with
   |inl z=>
    obtain⟨m,h1,h2⟩:=h;exact ih m z h2 (by omega)
   |inr r=>exact⟨r,rfl,h⟩
 intro n x hi hm;show Ok (GM Lw G x) p;rw[GN];exact key _ n x hi hm
theorem eI{α β S R:Type}{G:S->Option (S⊕R)}{p:R->Prop}(l:List α) (st:Nat->β->S) (inv:Nat->β->Prop)
  (step:∀i b,(h:i<l.length)->inv i b->Ok (G (st i b)) (Nxt p λz=>∃b',z=st (i+1) b'/\inv (i+1) b'))
  (stop:∀b,inv l.length b->Ok (G (st l.length b)) (Nxt p λ_=>False)) {b0:β} (h0:inv 0 b0) (hl:l.length<1180591620717411303424):Ok (aH G (st 0 b0)) p:=by
 refine S2 (λn x=>∃i b,i+n=l.length/\x=st i b/\inv i b) ?_ ⟨0,b0,by omega,rfl,h0⟩ hl;rintro n x ⟨i,b,hn,rfl,hi⟩;by_cases h:i<l.length
 ·refine(step i b h hi).mono λr hr=>?_;cases r with
  |inl z=>
   obtain⟨b',h1,h2⟩:=hr;exact⟨n-1,by omega,i+1,b',by omega,h1,h2⟩
  |inr r=>exact hr
 ·have e:i=l.length:=by omega
  subst e;refine(stop b hi).mono λr hr=>?_;cases r with
  |inl z=>exact hr.elim
  |inr r=>exact hr
theorem aZ{α:Type}(x y:Option α):sel true x y=x:=rfl
theorem dV{α:Type}(x y:Option α):sel false x y=y:=rfl
theorem aC{α:Type}(x:Option α):chk true x=x:=rfl
theorem eJ{α:Type}{l:List α}{i:Nat}(h:i<l.length) (d:α):l.getD i d=l[i]:=by
 rw[List.getD_eq_getElem?_getD,List.getElem?_eq_getElem h];rfl
theorem cu{α:Type}{l:List α}{i:Nat}(h:i<l.length):l.take (i+1)=l.take i++[l[i]]:=Rp h
theorem Y4{i:Nat}(h:i<9223372036854775807):D1 ((i:Int)+1)=((i+1:Nat):Int):=by
 rw[I4] <;> omega
section
variable {α:Type}
theorem fR{l:List α}(h:0<l.length):∃A x,l=A++[x]:=by
 have hne:l≠[]:=by intro e;rw[e]at h;simp at h
 exact⟨l.dropLast,l.getLast hne,(List.dropLast_concat_getLast hne).symm⟩
end
section
variable {α:Type}(lt:α->α->Bool)
def Nn(x:α):List α->List α
 |[]=>[x]
 |y::ys=>if lt x y then y::Nn x ys else x::y::ys
def Bj(x:α) (s:List α):List α:=(Nn lt x s.reverse).reverse
def jH(l:List α):List α:=l.foldl (λs x=>Bj lt x s) []
theorem DX(x:α):Bj lt x []=[x]:=rfl
theorem ja(x y:α) (s:List α):Bj lt x (s++[y])=if lt x y then Bj lt x s++[y]else s++[y,x]:=by
 unfold Bj;rw[List.reverse_append];simp only[List.reverse_cons,List.reverse_nil,QT,Qu,Nn];split <;> simp
theorem fS(l:List α) (x:α):jH lt (l++[x])=Bj lt x (jH lt l):=by
 unfold jH;rw[List.foldl_append];rfl
variable {lt}
end
section
variable {α:Type}{d:α}{cmp:α->α->Option Int}{c:α->α->Int}
def ltc(c:α->α->Int) (a b:α):Bool:=decide (c a b<0)
end
section
variable {α:Type}{lt:α->α->Bool}
end
section
variable {α:Type}{d:α}{cmp:α->α->Option Int}{c:α->α->Int}{rec:List α->Int->Int->Int->Option (List α)}
end
section
variable {α:Type}{d:α}{cmp:α->α->Option Int}{c:α->α->Int}
def blk(lt:α->α->Bool) (bs:Nat) (l:List α):List α:=if _h:l=[]\/bs=0 then []else jH lt (l.take bs)++blk lt bs (l.drop bs)
termination_by l.length
decreasing_by
 have h1:l≠[]:=λe=>_h (.inl e);have h2:bs≠0:=λe=>_h (.inr e);have:=List.length_pos_iff.2 h1;simp only[Qk];omega
end
def gZ{α:Type}(eq:α->α->Bool):Prop:=∀a b,eq a b=true↔a=b
theorem Z6:gZ L0:=λa b=>by simp[L0]
theorem ba:gZ C0:=λa b=>by simp[C0]
section
variable {α β:Type}{eq:α->α->Bool}
theorem bi(p:α×β) (l:List (α×β)):B9 (p::l)=p.1::B9 l:=rfl
theorem dW(l:List (α×β)):(B9 l).length=l.length:=PR ..
theorem I6{l l':List (α×β)}(h:l.Perm l'):(B9 l).Perm (B9 l'):=h.map _
theorem E3{k:α}{l:List (α×β)}:k∈B9 l↔∃v,(k,v)∈l:=by
 unfold B9;rw[Ts];exact⟨λ⟨p,h,e⟩=>⟨p.2,by rw[<-e];exact h⟩,λ⟨v,h⟩=>⟨_,h,rfl⟩⟩
theorem bj(he:gZ eq) (k:α):∀l:List (α×β),(aG eq k l).isSome=true↔k∈B9 l
 |[]=>by simp[aG,B9]
 |p::l=>by
  rw[bi,QY,<-bj he k l,<-he];show(if eq k p.1=true then some 0 else(aG eq k l).map (· + 1)).isSome=true↔_
  by_cases h:eq k p.1=true <;> simp[h]
theorem mn(he:gZ eq){k:α}{l:List (α×β)}(h:k∉B9 l):aG eq k l=none:=by
 cases hm:aG eq k l with
 |none=>rfl
 |some i=>exact(h ((bj he k l).1 (by rw[hm];rfl))).elim
theorem mo(he:gZ eq){k:α}{d:β}{l:List (α×β)}(h:k∉B9 l):Q5 eq k d l=d:=by
 unfold Q5;rw[mn he h];rfl
theorem jb(he:gZ eq){k:α}{v:β}{l:List (α×β)}(h:k∉B9 l):Z0 eq k v l=l++[(k,v)]:=by
 unfold Z0;rw[mn he h]
theorem rn(he:gZ eq){k:α}{l:List (α×β)}(h:k∉B9 l):kO eq k l=l:=by
 unfold kO;rw[mn he h]
theorem kX(he:gZ eq){k:α}{v:β}:∀{l:List (α×β)},(B9 l).Nodup->(k,v)∈l->∃i,aG eq k l=some i/\l[i]?=some (k,v)
 |p::l,hnd,hm=>by
  rw[bi,Qz]at hnd;unfold aG;rcases List.mem_cons.1 hm with e|hm
  ·subst e;exact⟨0,by simp[(he k k).2 rfl],rfl⟩
  ·have hne:¬eq k p.1=true:=λe=>hnd.1 (by rw[<-(he _ _).1 e];exact E3.2 ⟨v,hm⟩);obtain⟨i,h1,h2⟩:=kX he hnd.2 hm;exact⟨i+1,by rw[Ql hne,h1];rfl,by simpa using h2⟩
theorem fU(he:gZ eq){k:α}{v d:β}{l:List (α×β)}(hnd:(B9 l).Nodup) (hm:(k,v)∈l):Q5 eq k d l=v:=by
 obtain⟨i,h1,h2⟩:=kX he hnd hm;unfold Q5;rw[h1,PS,h2];rfl
theorem xD{γ:Type}{l:List γ}{i:Nat}(h:i<l.length):(l[i]::l.eraseIdx i).Perm l:=by
 rw[Rs];refine List.perm_middle.symm.trans ?_;rw[RZ,Qv]
theorem Ea{γ:Type}{l:List γ}{i:Nat}(h:i<l.length) (a:γ):(l.set i a).Perm (a::l.eraseIdx i):=by
 rw[Rs,List.set_eq_take_append_cons_drop,Qx h];exact List.perm_middle
theorem mp(he:gZ eq){k:α}{v:β}{l:List (α×β)}(hnd:(B9 l).Nodup) (hm:(k,v)∈l):((k,v)::kO eq k l).Perm l:=by
 obtain⟨i,h1,h2⟩:=kX he hnd hm;unfold kO;rw[h1];obtain⟨h3,h4⟩:=List.getElem?_eq_some_iff.1 h2;have:=xD h3;rw[h4]at this;exact this
theorem pL(he:gZ eq){k:α}{v v0:β}{l:List (α×β)}(hnd:(B9 l).Nodup) (hm:(k,v0)∈l):(Z0 eq k v l).Perm ((k,v)::kO eq k l):=by
 obtain⟨i,h1,h2⟩:=kX he hnd hm;unfold Z0 kO;rw[h1];obtain⟨h3,_⟩:=List.getElem?_eq_some_iff.1 h2;exact Ea h3 _
def Pre(P:α->Bool) (m:List α):Prop:=m.Pairwise λa b=>P b=true->P a=true
theorem Eb{P:α->Bool}{m:List α}(h:∀x∈m,P x=false):m.countP P=0/\m.filter P=[]/\m.filter (λx=> !P x)=m:=by
 refine⟨List.countP_eq_zero.2 λx hx=>by rw[h x hx];simp,List.filter_eq_nil_iff.2 λx hx=>by rw[h x hx];simp,List.filter_eq_self.2 λx hx=>by rw[h x hx];rfl⟩
theorem jc{P:α->Bool}:∀{m:List α},Pre P m->m.take (m.countP P)=m.filter P/\m.drop (m.countP P)=m.filter (λx=> !P x)
 |[],_=>⟨rfl,rfl⟩
 |x::m,h=>by
  unfold Pre at h;rw[QZ]at h;cases hx:P x with
  |true=>
   obtain⟨h1,h2⟩:=jc (m:=m) h.2;rw[List.countP_cons_of_pos hx,QS,List.drop_succ_cons,h1,h2,RU hx,Rl (by simp[hx])];exact⟨rfl,rfl⟩
  |false=>
   have hn:∀y∈m,P y=false:=λy hy=>by
    cases hy':P y with
    |false=>rfl
    |true=>have:=h.1 y hy hy';rw[hx]at this;cases this
   obtain⟨h1,h2,h3⟩:=Eb hn;rw[List.countP_cons_of_neg (by simp[hx]),h1,Rl (by simp[hx]),h2,RU (by simp[hx]),h3];exact⟨rfl,rfl⟩
theorem Bl{P:α->Bool}{m:List α}(h:Pre P m){i:Nat}(hi:i<m.length) (hp:P m[i]=true):(m.take (i+1)).countP P=i+1:=by
 have hl:(m.take (i+1)).length=i+1:=by rw[Qb];omega
 rw[<-hl];rw[List.countP_eq_length.2]
 ·rw[hl];rw[hl]
 ·intro x hx;obtain⟨j,hj,rfl⟩:=RJ hx;rw[List.getElem_take];rw[hl]at hj;rcases Rv j i with hlt|hge
  ·exact List.pairwise_iff_getElem.1 h j i (by omega) hi hlt hp
  ·have:j=i:=by omega
   subst this;exact hp
theorem jd(P:α->Bool) (m:List α) (x:α):(m.filter P++[x]++m.filter (λy=> !P y)).Perm (x::m):=by
 refine List.Perm.trans ?_ ((List.filter_append_perm P m).cons x);rw[Qe];exact List.perm_middle
end
theorem jf:∀(x:List UInt8),Op.bytesLess x x=false
 |[]=>rfl
 |a::x=>by rw[Op.bytesLess,jf x];simp
theorem tV(a b:UInt8) (x y:List UInt8):Op.bytesLess (a::x) (b::y)=true↔a.toNat<b.toNat\/(a.toNat=b.toNat/\Op.bytesLess x y=true):=by
 rw[Op.bytesLess];simp only[RI,PM,PX,Tv];rw[UInt8.lt_iff_toNat_lt,<-UInt8.toNat_inj]
theorem wa:∀{x y z:List UInt8},Op.bytesLess x y=true->Op.bytesLess y z=true->Op.bytesLess x z=true
 |x,[],z,h,_=>by cases x <;> cases h
 |x,_::_,[],_,h=>by cases h
 |[],_::_,_::_,_,_=>rfl
 |a::x,b::y,c::z,h,k=>by
  rw[tV]at h k⊢;rcases h with h|⟨h1,h2⟩ <;> rcases k with k|⟨k1,k2⟩
  ·left;omega
  ·left;omega
  ·left;omega
  ·right;exact⟨by omega,wa h2 k2⟩
theorem Fy:∀(x y:List UInt8),Op.bytesLess x y=true\/x=y\/Op.bytesLess y x=true
 |[],[]=>.inr (.inl rfl)
 |[],_::_=>.inl rfl
 |_::_,[]=>.inr (.inr rfl)
 |a::x,b::y=>by
  rw[tV,tV];rcases Nat.lt_trichotomy a.toNat b.toNat with h|h|h
  ·exact .inl (.inl h)
  ·rcases Fy x y with k|k|k
   ·exact .inl (.inr ⟨h,k⟩)
   ·exact .inr (.inl (by rw[UInt8.toNat_inj.1 h,k]))
   ·exact .inr (.inr (.inr ⟨h.symm,k⟩))
  ·exact .inr (.inr (.inl h))
end Go.Proofs.YthkhcbphbabefaaGreat.Am
