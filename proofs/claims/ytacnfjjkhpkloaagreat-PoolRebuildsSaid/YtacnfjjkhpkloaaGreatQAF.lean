/- Texts laid together: ConfigT, SortF, HeapLay. No conditions. -/
import Derived.Test.YtacnfjjkhpkloaaGreatQAE
import Derived.Test.YtacnfjjkhpkloaaGreatKD
import Derived.Shelf.SlSortCmp.NoneTotal
import Derived.Shelf.SlGeneric
import Derived.Ground.SlsfProg
import Derived.Test.YtacnfjjkhpkloaaGreatProg
namespace Go.Proofs.YtacnfjjkhpkloaaGreat.Am
open Go Go.Proofs Go.RowKit Go.MapKept
def c8o (c:a2r) (i:Nat) (n:Int) (m:Bool):a2r:=
 let (a0,a1,a2,a3,a4,a5,kp,a7,a8,pr,a10,a11):=c
 match i with
 | 0=>(if m then -1 else C6 n,a1,a2,a3,a4,a5,kp,a7,a8,pr,a10,a11)
 | 1=>(a0,if m then -1 else C6 n,a2,a3,a4,a5,kp,a7,a8,pr,a10,a11)
 | 2=>(a0,a1,if m then -1 else C6 n,a3,a4,a5,kp,a7,a8,pr,a10,a11)
 | 3=>(a0,a1,a2,if m then -1 else C6 n,a4,a5,kp,a7,a8,pr,a10,a11)
 | 4=>(a0,a1,a2,a3,if m then -1 else C6 n,a5,kp,a7,a8,pr,a10,a11)
 | 5=>(a0,a1,a2,a3,a4,if m then -1 else C6 n,kp,a7,a8,pr,a10,a11)
 | 6=>(a0,a1,a2,a3,a4,a5,decide (n=1),a7,a8,pr,a10,a11)
 | 7=>(a0,a1,a2,a3,a4,a5,kp,if m then -1 else C6 n,a8,pr,a10,a11)
 | 8=>(a0,a1,a2,a3,a4,a5,kp,a7,if m then -1 else C6 n,pr,a10,a11)
 | 9=>(a0,a1,a2,a3,a4,a5,kp,a7,a8,n,a10,a11)
 | 10=>(a0,a1,a2,a3,a4,a5,kp,a7,a8,pr,if m then -1 else C6 n,a11)
 | _=>(a0,a1,a2,a3,a4,a5,kp,a7,a8,pr,a10,if m then -1 else C6 n)
theorem c2d {c:a2r} {w:World} {b:Nat} {ty:TypeId} (hb:w.heap[b]?=some (.cells (b7V c).toArray ty (0,0))) (n:Int) (m:Bool):∀ i:Nat,i < 12->Calls Tryz.prog 87 #[.pointer (some ⟨b,0,none⟩),.int .i64 (i:Int),.agg #[.int .u64 n,.bool m]] w fun e w'=>
  e= .returned (.tuple #[])/\w'.heap[b]?=some (.cells (b7V (c8o c i n m)).toArray ty (0,0))/\w.grownBy w' (some b)
 | 0,_=>c8e hb n m
 | 1,_=>c8f hb n m
 | 2,_=>c8g hb n m
 | 3,_=>c8h hb n m
 | 4,_=>c8i hb n m
 | 5,_=>c8j hb n m
 | 6,_=>c8k hb n m
 | 7,_=>c8l hb n m
 | 8,_=>c8m hb n m
 | 9,_=>c8n hb n m
 | 10,_=>c56 hb n m
 | 11,_=>c57 hb n m
def a4c (c:a2r) (i:Int) (v:Int × Bool):Option a2r:=chk (decide (0<=i/\i < 12)) (some (c8o c i.toNat v.1 v.2))
def Y7:TFn:=⟨.cons (.bx (.cons (.d c8d) .nil)) (.cons (.c (.d (.int .i64))) (.cons (.agg (.cons (.d c55) .nil)) .nil)),.cons (.cons (.d c8d) .nil) .nil,.nil,a2r,fun a=>a4c a.1.1 a.2.1 a.2.2.1.1,fun r=>(((r,()),()),()),.none⟩
theorem b9V {I:Nat->Nat->Prop} {w:World}:∀ (vs:List Value),(∀ v ∈ vs,v.oneCell'=true)->OCs I w (vs.map fun v=> .d (.v v)) vs []
 | [],_=>⟨rfl,rfl⟩
 | v :: vs,h=>by
  simp only [List.map_cons,OCs]
  exact⟨v,vs,[],[],rfl,⟨rfl,⟨rfl,h v (by simp)⟩⟩,b9V vs fun x hx=>h x (by simp [hx]),rfl⟩
theorem c4p (c:a2r):∀ v ∈ b7V c,v.oneCell'=true:=by
 intro v hv
 simp only [b7V,List.mem_cons,List.not_mem_nil,or_false] at hv
 rcases hv with h | h | h | h | h | h | h | h | h | h | h | h <;> rw [h] <;> rfl
theorem b2d:FnT Tryz.prog 87 Y7:=
 ⟨rfl,rfl,⟨trivial,⟨_,Tryz.func87,rfl,rfl⟩,fun w I F args xs hIn hgl hargs hF hp=>by
  obtain⟨a,r,rfl,hr⟩:=hp
  obtain⟨⟨c,u1⟩,i,⟨v,u2⟩,u⟩:=a
  change a2r at c
  change Int at i
  change Int × Bool at v
  obtain⟨v0,v1⟩:=v
  have hr':a4c c i (v0,v1)=some r:=hr
  obtain⟨hc,hr'⟩:=X3 hr'
  obtain⟨c1,c2⟩:=of_decide_eq_true hc
  obtain⟨n,rfl⟩:=Int.eq_ofNat_of_zero_le c1
  injection hr' with hr'
  rw [Int.toNat_natCast] at hr'
  replace hargs:OAs I w [.bx ((b7V c).map fun v=> .d (.v v)),.c (.d (.v (.int .i64 (n:Int)))),.agg [.d (.v (.int .u64 v0)),.d (.v (.bool v1))]] args.toList F:=hargs
  simp only [OAs,OAr] at hargs
  obtain⟨x,q1,F1,F2,e1,h1,⟨y,q2,F3,F4,rfl,h2,⟨z,q3,F5,F6,rfl,⟨vs,rfl,h3⟩,⟨rfl,rfl⟩,rfl⟩,rfl⟩,rfl⟩:=hargs
  simp only [OCr,DVr] at h2
  obtain⟨rfl,rfl,_⟩:=h2
  obtain⟨h4,rfl⟩:=a7R (vs:=[.int .u64 v0,.bool v1]) h3
  have hvs:vs= #[.int .u64 v0,.bool v1]:=by cases vs;simp only at h4;subst h4;rfl
  subst hvs
  simp only [OCr] at h1
  obtain⟨b,cur,ty,Fs,rfl,hb,h5,rfl,hbI⟩:=h1
  obtain⟨h6,rfl⟩:=a7R h5
  have hcur:cur=(b7V c).toArray:=by rw [<-h6]
  subst hcur
  have ha:args= #[.pointer (some ⟨b,0,none⟩),.int .i64 (n:Int),.agg #[.int .u64 v0,.bool v1]]:=by cases args;simp only at e1;subst e1;rfl
  subst ha
  refine Calls.mono (c2d hb v0 v1 n (by omega)) fun e w' h=>?_
  rw [hr'] at h
  obtain⟨rfl,hb',hg⟩:=h
  have hbl:b < w.heap.size:=(Array.getElem?_eq_some_iff.1 hb).1
  refine⟨I,[],[b],[],rfl,⟨⟨hg.os,hg.tape,hg.output,hg.size,fun k hk hm=>hg.block k hk (fun e=>hm (by injection e with e;simp [e]))⟩,fun _ _ h=>h,fun k o hi=>World.cell?_of_block (hg.block k (hIn k o hi) fun e=>by injection e with e;subst e;exact hbI o hi),fun _ _ h=> .inl h,fun k o hi=>Nat.lt_of_lt_of_le (hIn k o hi) hg.size,?_,?_,by simp,fun k hk=>?_⟩⟩
  ·have e1:(Y7.spec.post (Y7.args.oas ((c,u1),(n:Int),((v0,v1),u2),u)))=[.bx ((b7V r).map fun v=> .d (.v v))]:=
    (TFn.post_of (S:=Y7) (a:=((c,u1),(n:Int),((v0,v1),u2),u)) (r:=r) rfl hr).trans rfl
   have key:OAs I w' [.bx ((b7V r).map fun v=> .d (.v v))] [.pointer (some ⟨b,0,none⟩)] [b]:=by
    simp only [OAs,OAr,OCr]
    exact⟨_,_,[b],[],rfl,⟨b,_,ty,[],rfl,hb',b9V _ (c4p r),rfl,hbI⟩,⟨rfl,rfl⟩,rfl⟩
   exact Eq.mpr (congrArg (fun l=>OAs I w' l [.pointer (some ⟨b,0,none⟩)] [b]) e1) key
  ·have e2:Y7.spec.res (Y7.args.oas ((c,u1),(n:Int),((v0,v1),u2),u))=[]:=(TFn.res_of (S:=Y7) (a:=((c,u1),(n:Int),((v0,v1),u2),u)) (r:=r) rfl hr).trans rfl
   exact Eq.mpr (congrArg (fun l=>OAs I w' l [] []) e2) ⟨rfl,rfl⟩
  ·left;simpa using hk⟩⟩
end Go.Proofs.YtacnfjjkhpkloaaGreat.Am
namespace Go.Proofs.YtacnfjjkhpkloaaGreat.Am
open Go Go.Shelf Go.Proofs Go.RowKit
def c3c {α:Type} (d0:α) (cf:α->α->Int) (l:List α):List α:=
 haveI:Inhabited α:=⟨d0⟩
 (Sort.pdq (ltOf cf) l.toArray 0 l.length (Lib.bitLen l.length) true true).toList
theorem b3p {α:Type} (d0:α) (cf:α->α->Int) (hO:haveI:Inhabited α:=⟨d0⟩;Sort.SWO (ltOf cf)) (l:List α):(c3c d0 cf l).Perm l/\(c3c d0 cf l).Pairwise fun x y=>ltOf cf y x=false:=by
 letI:Inhabited α:=⟨d0⟩
 have h:=Sort.pdq_sorts (ltOf cf) hO l.toArray 0 l.toArray.size (Lib.bitLen l.length) true true (Nat.zero_le _) (Nat.le_refl _) (Or.inl rfl)
 obtain⟨⟨h1,h2,h3⟩,h4⟩:=h
 have e1:l.toArray.size=l.length:=List.size_toArray
 have hs:c3c d0 cf l=(Sort.pdq (ltOf cf) l.toArray 0 l.toArray.size (Lib.bitLen l.length) true true).toList:=by rw [e1];rfl
 rw [hs]
 generalize Sort.pdq (ltOf cf) l.toArray 0 l.toArray.size (Lib.bitLen l.length) true true=d at h1 h2 h3 h4
 constructor
 ·have e2:d.extract 0 l.toArray.size=d:=by rw [<-h1,Array.extract_size]
  rw [e2,Array.extract_size] at h3
  exact h3
 ·rw [List.pairwise_iff_getElem]
  intro i j hi hj hij
  have hj':j < d.size:=by simpa using hj
  have hi':i < d.size:=by simpa using hi
  have:=h4 i j (Nat.zero_le _) hij (by rw [<-h1];exact hj')
  rwa [getElem!_pos d j hj',getElem!_pos d i hi'] at this
theorem b6p {α:Type} (d0:α) (cf:α->α->Int) (hO:haveI:Inhabited α:=⟨d0⟩;Sort.SWO (ltOf cf)) (l:List α):(c3c d0 cf l).length=l.length:=(b3p d0 cf hO l).1.length_eq
def b2e (u:U) (e:TypeId) (g:FuncId) (cf:u.den->u.den->Int):TFn:=⟨.cons (.rx u e) (.cons (.c (.fn g)) .nil),.rcons u e .nil,.nil,List u.den,fun a=>chk (Nat.blt a.1.length 4611686018427387904) (some (c3c u.dflt cf a.1)),fun r=>((r,()),()),.none⟩
theorem c2e {P:Program} {ρ:Ren} (L:SlLaysF0.n6 P ρ) {fn:Func} (hf:P.funcs[ρ.f 6]?=some fn) (hb:fn.body.isSome=true) (hn:(fn.name == "runtime.NumGoroutine")=false) (u:U) (hu:u.flat=true) (e:TypeId) (he:e < a0S)
  (aE:∀ w,(isAgg (ρ.t 24)).run P w= .ok true w) (zE:∀ w,(Go.sizeOf (ρ.t 24)).run P w= .ok u.size w) (cf:u.den->u.den->Int) (hO:haveI:Inhabited u.den:=⟨u.dflt⟩;Sort.SWO (ltOf cf)) (g:FuncId) (eg:∀ args w,(callFunc g args).run P w= .ok (.enter g args) w)
  (hc:∀ (x y:u.den) (W:World),Calls P g #[.agg (u.encV x).toArray,.agg (u.encV y).toArray] W fun o w'=>o= .returned (.int .i64 (cf x y))/\∃ q os,w'=Sort.grow (W.drewN q) os):FnT P (ρ.f 6) (b2e u e g cf):=
 ⟨rfl,rfl,⟨trivial,⟨fn,hf,hb,hn⟩,fun w I F args xs hIn hgl hargs hF hp=>by
  letI:Inhabited u.den:=⟨u.dflt⟩
  obtain⟨⟨l,u1,u2⟩,r,rfl,hr⟩:=hp
  change List u.den at l
  change List u.den at r
  replace hargs:OAs I w [.rx u.size e (l.map u.enc),.c (.d (.v (.func (.func g) #[] #[])))] args.toList F:=hargs
  simp only [OAs,OAr,OCr,DVr] at hargs
  obtain⟨v,r1,F1,F2,e1,⟨ex,hrow,hF1,hI,_⟩,⟨x2,r2,F3,F4,rfl,⟨rfl,rfl,_⟩,⟨rfl,rfl⟩,rfl⟩,rfl⟩:=hargs
  rw [if_neg (I8 he),List.append_nil] at hF1
  subst hF1
  have ha:args= #[v,.func (.func g) #[] #[]]:=by
   cases args;simp only at e1;subst e1;rfl
  subst ha
  replace hr:chk (Nat.blt l.length 4611686018427387904) (some (c3c u.dflt cf l))=some r:=hr
  obtain⟨hlen,hr⟩:=X3 hr
  injection hr with hr
  have hlen:l.length < 4611686018427387904:=by simpa [Nat.blt_eq] using hlen
  have epost:((b2e u e g cf).spec.post ((b2e u e g cf).args.oas (l,u1,u2)))=[.rx u.size e (r.map u.enc)]:=by
   rw [TFn.post_of (S:=b2e u e g cf) (a:=(l,u1,u2)) (r:=r) rfl (by show chk _ _=_;rw [show Nat.blt l.length 4611686018427387904=true by simpa [Nat.blt_eq] using hlen,hr];rfl)];rfl
  have eres:((b2e u e g cf).spec.res ((b2e u e g cf).args.oas (l,u1,u2)))=[]:=by
   rw [TFn.res_of (S:=b2e u e g cf) (a:=(l,u1,u2)) (r:=r) rfl (by show chk _ _=_;rw [show Nat.blt l.length 4611686018427387904=true by simpa [Nat.blt_eq] using hlen,hr];rfl)];rfl
  obtain⟨hz,hes,xs,ho,hd⟩:=hrow.sl he
  simp only [List.length_map] at ho
  rcases ho.2 with⟨rfl,hl0⟩ | ⟨b,cap,cur,rfl,_,hg,hcap,hmax,hcs,htk⟩
  ·have hl:l=[]:=List.eq_nil_of_length_eq_zero hl0
   subst hl
   have hr0:r=[]:=by
    rw [<-hr];exact List.eq_nil_of_length_eq_zero (b6p u.dflt cf hO [])
   refine Calls.mono (AnyF.slices_SortFunc_none L none 0 _ w) fun o w' h=>?_
   obtain⟨rfl,rfl⟩:=h
   refine⟨I,[],[],[],rfl,⟨⟨rfl,rfl,rfl,Nat.le_refl _,fun _ _ _=>rfl⟩,fun _ _ h=>h,a2R.refl _ _,fun _ _ h=> .inl h,hIn,?_,?_,by simp,by simp⟩⟩
   ·rw [epost,hr0]
    exact⟨.slice none 0 0,[],[],[],rfl,⟨[],hrow,by rw [if_neg (I8 he),List.append_nil];rfl,hI,fun h=>absurd h (I8 he)⟩,⟨rfl,rfl⟩,rfl⟩
   ·rw [eres];exact⟨rfl,rfl⟩
  ·have hblk:b < w.heap.size:=(Array.getElem?_eq_some_iff.1 hg).1
   have hbI:∀ o,¬ I b o:=fun o=>hI b o rfl
   have hcs':l.length * u.size<=cur.size:=by rw [hcs];exact Nat.mul_le_mul_right _ hcap
   have hget:∀ j,j < l.length * u.size->cur[j]?=some ((u.encV (l.toArray[j / u.size]!))[j % u.size]!):=fun j hj=>by
    have hi:j / u.size < l.length:=Nat.div_lt_of_lt_mul (by rw [Nat.mul_comm];exact hj)
    have hm:j % u.size < u.size:=Nat.mod_lt _ hz
    have h1:=H6.get hd (z:=u.size) (fun e' he'=>by obtain⟨x,_,rfl⟩:=List.mem_map.1 he';exact U.enc_len u x) (i:=j / u.size) (e:=u.enc l[j / u.size]) (by simp [hi])
    have h2:=U.encV_of u hu _ h1
    have h3:l.toArray[j / u.size]! =l[j / u.size]:=by simp [hi]
    rw [h3,<-h2,<-htk]
    have h4:j / u.size * u.size + j % u.size=j:=Nat.div_add_mod' j u.size
    have hjc:j < cur.size:=by omega
    have h5:(((cur.toList.take (l.length * u.size)).drop (j / u.size * u.size)).take u.size)[j % u.size]?=some cur[j]:=by
     rw [List.getElem?_take_of_lt hm,List.getElem?_drop,h4,List.getElem?_take_of_lt hj,Array.getElem?_toList,Array.getElem?_eq_getElem hjc]
    rw [Array.getElem?_eq_getElem hjc,List.getElem!_eq_getElem?_getD,h5];rfl
   have hH:Sort.HoldsK u.encV u.size w b 0 l.toArray:=fun j hj=>by
    rw [Sort.size_flatK,List.size_toArray] at hj
    rw [Nat.zero_add,Sort.get_flatK _ _ _ _ (by rw [List.size_toArray];exact hj)]
    refine⟨?_,by simp [World.frozen?,hg]⟩
    simp only [World.cell?,hg,id]
    exact hget j hj
   have hcon:=AnyQ.slices_SortFunc_eq L u.size aE zE u.encV u.encV_len u.encV_one cf hO g #[] b 0 cap l.toArray w eg (fun m os dk _ x y=>by simpa using hc x y _) hH hblk hlen
   refine Calls.mono hcon fun o w' h=>?_
   obtain⟨rfl,n,os,rfl⟩:=h
   have hr':Sort.pdq (ltOf cf) l.toArray 0 l.toArray.size (Lib.bitLen l.toArray.size) true true=r.toArray:=by
    rw [<-hr];exact(Array.toArray_toList).symm
   rw [hr']
   have hrl:r.length=l.length:=by rw [<-hr];exact b6p u.dflt cf hO l
   have hheap:∀ x,x < w.heap.size->(sortWorldK u.encV u.size w b 0 n r.toArray os).heap[x]?=if b=x then(w.heap[x]?).map (Sort.onCells (Sort.putCells id 0 (Sort.flatK u.encV u.size r.toArray))) else w.heap[x]?:=fun x hx=>by
    unfold sortWorldK Sort.grow Sort.putRowK Sort.putRow Sort.mapBlock Sort.ahead
    simp only [Array.getElem?_append,Array.size_modify,hx,if_true,Array.getElem?_modify]
   have hsize:w.heap.size<=(sortWorldK u.encV u.size w b 0 n r.toArray os).heap.size:=by
    unfold sortWorldK Sort.grow
    simp [Sort.putRowK,Sort.ahead]
   have hb':(sortWorldK u.encV u.size w b 0 n r.toArray os).heap[b]?=some (.cells (Sort.putCells id 0 (Sort.flatK u.encV u.size r.toArray) cur) e (0,0)):=by
    rw [hheap b hblk,if_pos rfl,hg];rfl
   have hother:∀ x,x < w.heap.size->x ≠ b->(sortWorldK u.encV u.size w b 0 n r.toArray os).heap[x]?=w.heap[x]?:=fun x hx hne=>by
    rw [hheap x hx,if_neg (fun h=>hne h.symm)]
   have hos:(sortWorldK u.encV u.size w b 0 n r.toArray os).os=w.os:=rfl
   have htp:(sortWorldK u.encV u.size w b 0 n r.toArray os).tape=w.tape:=rfl
   have hou:(sortWorldK u.encV u.size w b 0 n r.toArray os).output=w.output:=rfl
   generalize sortWorldK u.encV u.size w b 0 n r.toArray os=w' at hheap hsize hb' hother hos htp hou ⊢
   have hks:a2R I w w':=fun x o hi=>World.cell?_of_block (a:=⟨x,o,none⟩) (hother x (hIn x o hi) (fun h=>hbI o (h ▸ hi)))
   refine⟨I,[],[b],[],rfl,⟨⟨hos,htp,hou,hsize,fun x hx hne=>hother x hx (fun h=>hne (by subst h;simp [obk]))⟩,fun _ _ h=>h,hks,fun _ _ h=> .inl h,fun x o hi=>Nat.lt_of_lt_of_le (hIn x o hi) hsize,?_,?_,by simp,by simp [obk]⟩⟩
   ·rw [epost]
    refine⟨_,[],[b],[],rfl,⟨[],?_,by rw [if_neg (I8 he),List.append_nil];rfl,hI,fun h=>absurd h (I8 he)⟩,⟨rfl,rfl⟩,rfl⟩
    have hpc:(Sort.putCells id 0 (Sort.flatK u.encV u.size r.toArray) cur).size=cur.size:=by simp [Sort.putCells]
    refine⟨hz,fun e' he'=>by obtain⟨x,_,rfl⟩:=List.mem_map.1 he';exact U.enc_len u x,.inl ⟨he,_,⟨?_,.inr ⟨b,cap,_,?_,Nat.zero_le _,hb',?_,hmax,?_,rfl⟩⟩,?_⟩⟩
    ·simp only [List.length_map,hrl]
     rw [List.length_take,show(Sort.putCells id 0 (Sort.flatK u.encV u.size r.toArray) cur).toList.length=cur.size from hpc];omega
    ·simp only [List.length_map,hrl]
    ·simp only [List.length_map,hrl];exact hcap
    ·rw [hpc];exact hcs
    ·refine H6.of_get (z:=u.size) ?_ fun i e' hi=>?_
     ·simp only [List.length_map,hrl]
      rw [List.length_take,show(Sort.putCells id 0 (Sort.flatK u.encV u.size r.toArray) cur).toList.length=cur.size from hpc];omega
     ·obtain⟨hi',rfl⟩:=List.getElem?_eq_some_iff.1 hi
      simp only [List.length_map] at hi'
      simp only [List.getElem_map,List.length_map]
      have:(((Sort.putCells id 0 (Sort.flatK u.encV u.size r.toArray) cur).toList.take (r.length * u.size)).drop (i * u.size)).take u.size=u.encV r[i]:=by
       refine List.ext_getElem? fun m=>?_
       by_cases hm:m < u.size
       ·have hj:i * u.size + m < r.length * u.size:=by
         have:(i + 1) * u.size<=r.length * u.size:=Nat.mul_le_mul_right _ hi'
         rw [Nat.succ_mul] at this;omega
        have hjc:i * u.size + m < cur.size:=by rw [hrl] at hj;omega
        rw [List.getElem?_take_of_lt hm,List.getElem?_drop,List.getElem?_take_of_lt hj,Array.getElem?_toList]
        simp only [Sort.putCells,Array.getElem?_mapIdx,Array.getElem?_eq_getElem hjc,Option.map_some,Nat.zero_le,true_and,Nat.zero_add,Sort.size_flatK,List.size_toArray,hj,if_true,Nat.sub_zero,id]
        rw [Sort.get_flatK _ _ _ _ (by rw [List.size_toArray];exact hj)]
        have e1:(i * u.size + m) / u.size=i:=by rw [Nat.mul_comm,Nat.mul_add_div hz,Nat.div_eq_of_lt hm];rfl
        have e2:(i * u.size + m) % u.size=m:=by rw [Nat.mul_comm,Nat.mul_add_mod,Nat.mod_eq_of_lt hm]
        rw [e1,e2]
        have e3:r.toArray[i]! =r[i]:=by simp [hi']
        have hm':m < (u.encV r[i]).length:=by rw [U.encV_len];exact hm
        rw [e3,getElem!_pos _ m hm',List.getElem?_eq_getElem hm']
       ·rw [List.getElem?_eq_none (by rw [List.length_take];omega),List.getElem?_eq_none (by rw [U.encV_len];omega)]
      rw [this]
      exact U.encV_to u hu _
   ·rw [eres];exact⟨rfl,rfl⟩⟩⟩
end Go.Proofs.YtacnfjjkhpkloaaGreat.Am
namespace Go.Proofs
open Go.Shelf
def Tryz.sortItems_ren:Go.Shelf.Ren:=⟨fun | 6=>71 | 15=>99 | 14=>98 | 28=>127 | 29=>128 | 20=>119 | 21=>120 | 22=>121 | 23=>122 | 24=>123 | 25=>124 | 26=>125 | 27=>126 | 46=>139 | 47=>140 | 48=>141 | 49=>142 | 50=>143 | 57=>148 | n=>n,fun | 22=>83 | 24=>94 | 25=>130 | 3=>3 | 39=>174 | 0=>0 | 53=>167 | 55=>23 | 4=>4 | 46=>196 | 45=>195 | 50=>99 | 5=>5 | 9=>9 | 66=>209 | 70=>181 | 76=>217 | 77=>218 | n=>n,fun | n=>n⟩
theorem Tryz.sortItems:Go.Proofs.SlLaysF0.n6 Tryz.prog Tryz.sortItems_ren:={
 mixed:=by kernel_rfl
 f6:=⟨Tryz.f71.name,by decide,Tryz.func71.trans (congrArg some (by kernel_rfl))⟩
 f14:=⟨Tryz.f98.name,by decide,Tryz.func98.trans (congrArg some (by kernel_rfl))⟩
 f15:=Tryz.func99.trans (congrArg some (by kernel_rfl))
 f20:=⟨Tryz.f119.name,by decide,Tryz.func119.trans (congrArg some (by kernel_rfl))⟩
 f21:=⟨Tryz.f120.name,by decide,Tryz.func120.trans (congrArg some (by kernel_rfl))⟩
 f22:=⟨Tryz.f121.name,by decide,Tryz.func121.trans (congrArg some (by kernel_rfl))⟩
 f23:=⟨Tryz.f122.name,by decide,Tryz.func122.trans (congrArg some (by kernel_rfl))⟩
 f24:=⟨Tryz.f123.name,by decide,Tryz.func123.trans (congrArg some (by kernel_rfl))⟩
 f25:=⟨Tryz.f124.name,by decide,Tryz.func124.trans (congrArg some (by kernel_rfl))⟩
 f26:=⟨Tryz.f125.name,by decide,Tryz.func125.trans (congrArg some (by kernel_rfl))⟩
 f27:=⟨Tryz.f126.name,by decide,Tryz.func126.trans (congrArg some (by kernel_rfl))⟩
 f28:=Tryz.func127.trans (congrArg some (by kernel_rfl))
 f29:=Tryz.func128.trans (congrArg some (by kernel_rfl))
 f46:=⟨Tryz.f139.name,by decide,Tryz.func139.trans (congrArg some (by kernel_rfl))⟩
 f47:=Tryz.func140.trans (congrArg some (by kernel_rfl))
 f48:=Tryz.func141.trans (congrArg some (by kernel_rfl))
 f49:=⟨Tryz.f142.name,by decide,Tryz.func142.trans (congrArg some (by kernel_rfl))⟩
 f50:=⟨Tryz.f143.name,by decide,Tryz.func143.trans (congrArg some (by kernel_rfl))⟩
 f57:=⟨Tryz.f148.name,by decide,Tryz.func148.trans (congrArg some (by kernel_rfl))⟩
 t0:=Tryz.underlying0
 a0:=Tryz.isAgg0
 z0:=Tryz.sizeOf0
 v0:=Tryz.zeroValue0
 t3:=Tryz.underlying3
 a3:=Tryz.isAgg3
 z3:=Tryz.sizeOf3
 v3:=Tryz.zeroValue3
 t4:=Tryz.underlying4
 a4:=Tryz.isAgg4
 z4:=Tryz.sizeOf4
 v4:=Tryz.zeroValue4
 t5:=Tryz.underlying5
 a5:=Tryz.isAgg5
 z5:=Tryz.sizeOf5
 v5:=Tryz.zeroValue5
 t9:=Tryz.underlying9
 a9:=Tryz.isAgg9
 z9:=Tryz.sizeOf9
 v9:=Tryz.zeroValue9
 t22:=Tryz.underlying83
 a22:=Tryz.isAgg83
 z22:=Tryz.sizeOf83
 v22:=Tryz.zeroValue83
 t25:=Tryz.underlying130
 a25:=Tryz.isAgg130
 z25:=Tryz.sizeOf130
 v25:=Tryz.zeroValue130
 t39:=Tryz.underlying174
 a39:=Tryz.isAgg174
 z39:=Tryz.sizeOf174
 v39:=Tryz.zeroValue174
 t45:=Tryz.underlying195
 a45:=Tryz.isAgg195
 z45:=Tryz.sizeOf195
 v45:=Tryz.zeroValue195
 t46:=Tryz.underlying196
 a46:=Tryz.isAgg196
 z46:=Tryz.sizeOf196
 v46:=Tryz.zeroValue196
 t50:=Tryz.underlying99
 a50:=Tryz.isAgg99
 z50:=Tryz.sizeOf99
 v50:=Tryz.zeroValue99
 t53:=Tryz.underlying167
 a53:=Tryz.isAgg167
 z53:=Tryz.sizeOf167
 v53:=Tryz.zeroValue167
 t55:=Tryz.underlying23
 a55:=Tryz.isAgg23
 z55:=Tryz.sizeOf23
 v55:=Tryz.zeroValue23
 t66:=Tryz.underlying209
 a66:=Tryz.isAgg209
 z66:=Tryz.sizeOf209
 v66:=Tryz.zeroValue209
 t70:=Tryz.underlying181
 a70:=Tryz.isAgg181
 z70:=Tryz.sizeOf181
 v70:=Tryz.zeroValue181
 t76:=Tryz.underlying217
 a76:=Tryz.isAgg217
 z76:=Tryz.sizeOf217
 v76:=Tryz.zeroValue217
 t77:=Tryz.underlying218
 a77:=Tryz.isAgg218
 z77:=Tryz.sizeOf218
 v77:=Tryz.zeroValue218}
end Go.Proofs
