/- Texts laid together: TmCall, TmCall2, TmLay, TmExec, TmFn, TmVw, TmClone, TmFlat, TmPlain, TmAid. No conditions. -/
import Derived.Test.YthadhfbkhldblaaKC
import Derived.KernelRfl
namespace Go.Proofs.Ythadhfbkhldblaa.Am
open Go
def b37 {α:Type} (p:List DV->Option (α × List DV)):List (List DV)->Option (List α)
 | []=>some []
 | e :: es=>(p e).bind fun a=>(b37 p es).map (a.1 :: ·)
def b6S {α:Type} (p:List DV->Option (α × List DV)):(n:Nat)->List DV->Option (Vector α n × List DV)
 | 0,l=>some (#v[],l)
 | n + 1,l=>(b6S p n l).bind fun a=>(p a.2).map fun b=>(a.1.push b.1,b.2)
def U.dec:(u:U)->List DV->Option (u.den × List DV)
 | .int _,l=>match l with
  | .v (.int _ n) :: r=>some (n,r)
  | _=>none
 | .byte,l=>match l with
  | .v (.int _ n) :: r=>some (UInt8.ofNat n.toNat,r)
  | _=>none
 | .bool,l=>match l with
  | .v (.bool b) :: r=>some (b,r)
  | _=>none
 | .str,l=>match l with
  | .v (.string s) :: r=>some (s.data.toList,r)
  | _=>none
 | .sl u,l=>match l with
  | .sl es :: r=>(b37 u.dec es).map fun x=>(x,r)
  | _=>none
 | .pr a b,l=>(a.dec l).bind fun x=>(b.dec x.2).map fun y=>((x.1,y.1),y.2)
 | .arr n u,l=>b6S u.dec n l
theorem a5B {α:Type} {p:List DV->Option (α × List DV)} {f:α->List DV} (h:∀ x r,p (f x ++ r)=some (x,r)):∀ (l:List α),b37 p (l.map f)=some l
 | []=>rfl
 | x :: l=>by
  have:=h x []
  rw [List.append_nil] at this
  rw [List.map_cons,b37,this,Option.bind_some,a5B h l];rfl
theorem b1r {α:Type} {p:List DV->Option (α × List DV)} {f:α->List DV} (h:∀ x r,p (f x ++ r)=some (x,r)):∀ (n:Nat) (v:Vector α n) (r:List DV),b6S p n (v.toList.flatMap f ++ r)=some (v,r)
 | 0,v,r=>by
  have:v= #v[]:=by ext i hi;omega
  subst this
  rfl
 | n + 1,v,r=>by
  have e:v=v.pop.push v.back:=(Vector.push_pop_back v).symm
  rw [e,Vector.toList_push,List.flatMap_append,List.append_assoc,b6S,b1r h n v.pop,Option.bind_some]
  simp only [List.flatMap_cons,List.flatMap_nil,List.append_nil,h,Option.map_some]
theorem b3i (x:UInt8) (r:List DV):some (UInt8.ofNat ((UInt8.toNat x:Nat):Int).toNat,r)=some (x,r):=by
 rw [Int.toNat_natCast,UInt8.ofNat_toNat]
theorem U.dec_enc:∀ (u:U) (x:u.den) (r:List DV),u.dec (u.enc x ++ r)=some (x,r)
 | .int _,_,_=>rfl
 | .byte,x,r=>b3i x r
 | .bool,_,_=>rfl
 | .str,_,_=>rfl
 | .sl u,l,r=>by
  show(b37 u.dec (List.map u.enc l)).map (fun x=>(x,r))=some (l,r)
  rw [a5B (U.dec_enc u) l];rfl
 | .pr a b,x,r=>by
  show(a.dec ((a.enc x.1 ++ b.enc x.2) ++ r)).bind (fun y=>(b.dec y.2).map fun z=>((y.1,z.1),z.2))=some (x,r)
  rw [List.append_assoc,U.dec_enc a,Option.bind_some,U.dec_enc b];rfl
 | .arr n u,v,r=>b1r (U.dec_enc u) n v r
mutual
inductive OT where
 | d (u:U)
 | npt
 | it (t:TypeId) (u:U) (h:u.size=1)
 | fn (f:FuncId)
 | clo (f:FuncId) (u:U)
 | e (u:U)
 | row (u:U) (e:TypeId)
 | box (ts:OTs)
inductive OTs where
 | nil
 | cons (t:OT) (ts:OTs)
end
mutual
def OT.den:OT->Type
 | .d u=>u.den
 | .fn _=>Unit
 | .npt=>Unit
 | .it _ u _=>u.den
 | .clo _ u=>u.den
 | .e u=>u.den
 | .row u _=>List u.den
 | .box ts=>ts.den
def OTs.den:OTs->Type
 | .nil=>Unit
 | .cons t ts=>t.den × ts.den
end
mutual
def OT.ocs:(t:OT)->t.den->List OC
 | .d u,x=>(u.enc x).map .d
 | .fn f,_=>[.d (.v (.func (.func f) #[] #[]))]
 | .npt,_=>[.d (.v (.pointer none))]
 | .it t u _,x=>[.d (.it t (a5p (u.enc x)))]
 | .clo f u,x=>[.d (.clo f (u.enc x))]
 | .e u,x=>[.e (u.enc x)]
 | .row u e,l=>[.row u.size e (List.map u.enc l)]
 | .box ts,x=>[.box (ts.ocs x)]
def OTs.ocs:(ts:OTs)->ts.den->List OC
 | .nil,_=>[]
 | .cons t ts,x=>t.ocs x.1 ++ ts.ocs x.2
end
mutual
def OT.sh:OT->List CSh
 | .d u=>List.replicate u.size .D
 | .fn _=>[.D]
 | .npt=>[.D]
 | .it _ _ _=>[.D]
 | .clo _ _=>[.D]
 | .e _=>[.E]
 | .row u e=>[.R u.size e]
 | .box ts=>[.B ts.sh]
def OTs.sh:OTs->List CSh
 | .nil=>[]
 | .cons t ts=>t.sh ++ ts.sh
end
def unD:List OC->Option (List DV)
 | []=>some []
 | .d x :: r=>(unD r).map (x :: ·)
 | _ :: _=>none
theorem b38:∀ (l:List DV),unD (l.map .d)=some l
 | []=>rfl
 | x :: l=>by rw [List.map_cons,unD,b38 l];rfl
mutual
def OT.dec:(t:OT)->List OC->Option (t.den × List OC)
 | .d u,l=>(unD (l.take u.size)).bind fun ds=>(u.dec ds).map fun x=>(x.1,l.drop u.size)
 | .fn _,l=>some ((),l.drop 1)
 | .npt,l=>some ((),l.drop 1)
 | .it _ u _,l=>match l with
  | .d (.it _ d) :: r=>(u.dec [d]).map fun y=>(y.1,r)
  | _=>none
 | .clo _ u,l=>match l with
  | .d (.clo _ ds) :: r=>(u.dec ds).map fun y=>(y.1,r)
  | _=>none
 | .e u,l=>match l with
  | .e ds :: r=>(u.dec ds).map fun y=>(y.1,r)
  | _=>none
 | .row u _,l=>match l with
  | .row _ _ es :: r=>(b37 u.dec es).map fun x=>(x,r)
  | _=>none
 | .box ts,l=>match l with
  | .box cs :: r=>(ts.dec cs).map fun x=>(x.1,r)
  | _=>none
def OTs.dec:(ts:OTs)->List OC->Option (ts.den × List OC)
 | .nil,l=>some ((),l)
 | .cons t ts,l=>(t.dec l).bind fun x=>(ts.dec x.2).map fun y=>((x.1,y.1),y.2)
end
theorem b7i (u:U) (x:u.den) (r:List OC):(unD ((((u.enc x).map OC.d) ++ r).take u.size)).bind (fun ds=>(u.dec ds).map fun y=>(y.1,(((u.enc x).map OC.d) ++ r).drop u.size))=some (x,r):=by
 have hl:((u.enc x).map OC.d).length=u.size:=by rw [List.length_map,U.enc_len]
 rw [<-hl,List.take_left,List.drop_left,b38,Option.bind_some]
 have:=U.dec_enc u x []
 rw [List.append_nil] at this
 rw [this];rfl
theorem b7j (u:U) (x:u.den):((u.enc x).map OC.d).length=(List.replicate u.size CSh.D).length:=by
 rw [List.length_map,U.enc_len,List.length_replicate]
theorem b1s (u:U) (x:u.den) (r:List OC):(u.dec (u.enc x)).map (fun y=>(y.1,r))=some (x,r):=by
 have h1:=U.dec_enc u x []
 rw [List.append_nil] at h1
 rw [h1];rfl
theorem b6m (u:U) (h:u.size=1) (x:u.den) (r:List OC):(u.dec [a5p (u.enc x)]).map (fun y=>(y.1,r))=some (x,r):=by
 have h1:=U.dec_enc u x []
 rw [List.append_nil] at h1
 rw [a8o (ds:=u.enc x) (by rw [U.enc_len,h]),h1];rfl
mutual
theorem OT.dec_ocs:∀ (t:OT) (x:t.den) (r:List OC),t.dec (t.ocs x ++ r)=some (x,r)
 | .d u,x,r=>b7i u x r
 | .fn _,_,_=>rfl
 | .npt,_,_=>rfl
 | .it t u h,x,r=>by
  exact b6m u h x r
 | .clo f u,x,r=>b1s u x r
 | .e u,x,r=>b1s u x r
 | .row u _,l,r=>by
  show(b37 u.dec (List.map u.enc l)).map (fun x=>(x,r))=some (l,r)
  rw [a5B (U.dec_enc u) l];rfl
 | .box ts,x,r=>by
  show(ts.dec (ts.ocs x)).map (fun y=>(y.1,r))=some (x,r)
  have:=OTs.dec_ocs ts x []
  rw [List.append_nil] at this
  rw [this];rfl
theorem OTs.dec_ocs:∀ (ts:OTs) (x:ts.den) (r:List OC),ts.dec (ts.ocs x ++ r)=some (x,r)
 | .nil,_,_=>rfl
 | .cons t ts,x,r=>by
  show(t.dec ((t.ocs x.1 ++ ts.ocs x.2) ++ r)).bind (fun y=>(ts.dec y.2).map fun z=>((y.1,z.1),z.2))=some (x,r)
  rw [List.append_assoc,OT.dec_ocs t,Option.bind_some,OTs.dec_ocs ts];rfl
end
def a9M:List OC->OC
 | [x]=>x
 | _=> .row 0 0 []
inductive AT where
 | c (t:OT)
 | agg (ts:OTs)
 | bx (ts:OTs)
 | rx (u:U) (e:TypeId)
def AT.den:AT->Type
 | .c t=>t.den
 | .agg ts=>ts.den
 | .bx ts=>ts.den
 | .rx u _=>List u.den
def AT.oa:(t:AT)->t.den->OA
 | .c t,x=> .c (a9M (t.ocs x))
 | .agg ts,x=> .agg (ts.ocs x)
 | .bx ts,x=> .bx (ts.ocs x)
 | .rx u e,l=> .rx u.size e (List.map u.enc l)
def AT.ok:AT->Bool
 | .c t=>Nat.beq t.sh.length 1
 | _=>true
def AT.ash:AT->ASh
 | .c t=> .c (t.sh.headD .D)
 | .agg ts=> .agg ts.sh
 | .bx ts=> .bx ts.sh
 | .rx u e=> .rx u.size e
def AT.dec:(t:AT)->OA->Option t.den
 | .c t,x=>match x with
  | .c y=>(t.dec [y]).map (·.1)
  | _=>none
 | .agg ts,x=>match x with
  | .agg ys=>(ts.dec ys).map (·.1)
  | _=>none
 | .bx ts,x=>match x with
  | .bx ys=>(ts.dec ys).map (·.1)
  | _=>none
 | .rx u _,x=>match x with
  | .rx _ _ es=>b37 u.dec es
  | _=>none
mutual
theorem OT.len:∀ (t:OT) (x:t.den),(t.ocs x).length=t.sh.length
 | .d u,x=>b7j u x
 | .fn _,_=>rfl
 | .npt,_=>rfl
 | .it _ _ _,_=>rfl
 | .clo _ _,_=>rfl
 | .e _,_=>rfl
 | .row _ _,_=>rfl
 | .box _,_=>rfl
theorem OTs.len:∀ (ts:OTs) (x:ts.den),(ts.ocs x).length=ts.sh.length
 | .nil,_=>rfl
 | .cons t ts,x=>by
  show(t.ocs x.1 ++ ts.ocs x.2).length=(t.sh ++ ts.sh).length
  rw [List.length_append,List.length_append,OT.len t,OTs.len ts]
end
theorem a08 {l:List OC} (h:l.length=1):l=[a9M l]:=by
 match l,h with
 | [x],_=>rfl
theorem AT.dec_oa (t:AT) (hk:t.ok=true) (x:t.den):t.dec (t.oa x)=some x:=by
 cases t with
 | c t=>
  have h1:(t.ocs x).length=1:=by rw [OT.len t x];exact Nat.eq_of_beq_eq_true hk
  have:=OT.dec_ocs t x []
  rw [List.append_nil,a08 h1] at this
  show(t.dec [a9M (t.ocs x)]).map (·.1)=some x
  rw [this];rfl
 | agg ts=>
  have:=OTs.dec_ocs ts x []
  rw [List.append_nil] at this
  show(ts.dec (ts.ocs x)).map (·.1)=some x
  rw [this];rfl
 | bx ts=>
  have:=OTs.dec_ocs ts x []
  rw [List.append_nil] at this
  show(ts.dec (ts.ocs x)).map (·.1)=some x
  rw [this];rfl
 | rx u e=>exact a5B (U.dec_enc u) x
inductive ATs where
 | nil
 | cons (t:AT) (ts:ATs)
def ATs.den:ATs->Type
 | .nil=>Unit
 | .cons t ts=>t.den × ts.den
def ATs.oas:(ts:ATs)->ts.den->List OA
 | .nil,_=>[]
 | .cons t ts,x=>t.oa x.1 :: ts.oas x.2
def ATs.ok:ATs->Bool
 | .nil=>true
 | .cons t ts=>t.ok && ts.ok
def ATs.sh:ATs->List ASh
 | .nil=>[]
 | .cons t ts=>t.ash :: ts.sh
def ATs.dec:(ts:ATs)->List OA->Option ts.den
 | .nil,_=>some ()
 | .cons t ts,l=>match l with
  | x :: r=>(t.dec x).bind fun a=>(ts.dec r).map fun b=>(a,b)
  | []=>none
theorem ATs.dec_oas:∀ (ts:ATs),ts.ok=true->∀ (x:ts.den),ts.dec (ts.oas x)=some x
 | .nil,_,_=>rfl
 | .cons t ts,h,x=>by
  simp only [ATs.ok,Bool.and_eq_true] at h
  show(t.dec (t.oa x.1)).bind (fun a=>(ts.dec (ts.oas x.2)).map fun b=>(a,b))=some x
  rw [AT.dec_oa t h.1,Option.bind_some,ATs.dec_oas ts h.2];rfl
inductive PTs where
 | nil
 | cons (t:OTs) (ts:PTs)
 | rcons (u:U) (e:TypeId) (ts:PTs)
def PTs.den:PTs->Type
 | .nil=>Unit
 | .cons t ts=>t.den × ts.den
 | .rcons u _ ts=>List u.den × ts.den
def PTs.ocs:(ts:PTs)->ts.den->List OA
 | .nil,_=>[]
 | .cons t ts,x=> .bx (t.ocs x.1) :: ts.ocs x.2
 | .rcons u e ts,x=> .rx u.size e (List.map u.enc x.1) :: ts.ocs x.2
structure TFn:Type 1 where
 args:ATs
 posts:PTs
 res:ATs
 R:Type
 G:args.den->Option R
 out:R->posts.den × res.den
 sp:Sp
def U.noSl:U->Bool
 | .sl _=>false
 | .pr a b=>a.noSl && b.noSl
 | .arr _ u=>u.noSl
 | _=>true
theorem U.noSl_ok:∀ (u:U),u.noSl=true->∀ (x:u.den),(List.map OC.d (u.enc x)).all a2C=true
 | .int _,_,_=>rfl
 | .byte,_,_=>rfl
 | .bool,_,_=>rfl
 | .str,_,_=>rfl
 | .sl _,h,_=>by cases h
 | .pr a b,h,x=>by
  have h':(a.noSl && b.noSl)=true:=h
  rw [Bool.and_eq_true] at h'
  rw [U.enc,List.map_append,List.all_append,a.noSl_ok h'.1,b.noSl_ok h'.2];rfl
 | .arr n u,h,v=>by
  have h':u.noSl=true:=h
  rw [U.enc,List.all_eq_true]
  intro c hc
  obtain⟨d,hd,rfl⟩:=List.mem_map.1 hc
  obtain⟨y,_,hy⟩:=List.mem_flatMap.1 hd
  exact List.all_eq_true.1 (u.noSl_ok h' y) _ (List.mem_map.2 ⟨d,hy,rfl⟩)
def OT.flat:OT->Bool
 | .d u=>u.noSl
 | _=>false
theorem OT.flat_ok (t:OT) (h:t.flat=true) (x:t.den):(t.ocs x).all a2C=true:=by
 cases t <;> first | cases h | skip
 case d u=>exact u.noSl_ok h x
def OTs.flat:OTs->Bool
 | .nil=>true
 | .cons t ts=>t.flat && ts.flat
theorem OTs.flat_ok:∀ (ts:OTs),ts.flat=true->∀ (x:ts.den),(ts.ocs x).all a2C=true
 | .nil,_,_=>rfl
 | .cons t ts,h,x=>by
  have h':(t.flat && ts.flat)=true:=h
  rw [Bool.and_eq_true] at h'
  rw [OTs.ocs,List.all_append,t.flat_ok h'.1,ts.flat_ok h'.2];rfl
def AT.flat:AT->Bool
 | .c t=>t.flat
 | .agg ts=>ts.flat
 | _=>false
def ATs.flat:ATs->Bool
 | .nil=>true
 | .cons t ts=>t.flat && ts.flat
def PTs.isNil:PTs->Bool
 | .nil=>true
 | _=>false
theorem PTs.isNil_ok (ts:PTs) (h:ts.isNil=true) (x:ts.den):ts.ocs x=[]:=by
 cases ts <;> first | rfl | cases h
def TFn.flat (S:TFn):Bool:=S.posts.isNil && S.res.flat
def TFn.val (S:TFn) (xs:List OA):Option S.R:=(S.args.dec xs).bind S.G
def TFn.spec (S:TFn):a1e:=⟨S.args.sh,fun xs=>∃ a r,xs=S.args.oas a/\S.G a=some r,
 fun xs=>match S.val xs with | some r=>S.posts.ocs (S.out r).1 | none=>[],fun xs=>match S.val xs with | some r=>S.res.oas (S.out r).2 | none=>[],S.sp,S.flat⟩
theorem TFn.val_of {S:TFn} (hk:S.args.ok=true) {a:S.args.den} {r:S.R} (h:S.G a=some r):S.val (S.args.oas a)=some r:=by
 unfold TFn.val
 rw [ATs.dec_oas _ hk,Option.bind_some,h]
theorem TFn.post_of {S:TFn} (hk:S.args.ok=true) {a:S.args.den} {r:S.R} (h:S.G a=some r):S.spec.post (S.args.oas a)=S.posts.ocs (S.out r).1:=by
 show(match S.val (S.args.oas a) with | some r=>S.posts.ocs (S.out r).1 | none=>[])=_
 rw [S.val_of hk h]
theorem TFn.res_of {S:TFn} (hk:S.args.ok=true) {a:S.args.den} {r:S.R} (h:S.G a=some r):S.spec.res (S.args.oas a)=S.res.oas (S.out r).2:=by
 show(match S.val (S.args.oas a) with | some r=>S.res.oas (S.out r).2 | none=>[])=_
 rw [S.val_of hk h]
structure Tt (α:Type) where
 x:α
 rest:List TC
 fz:List Nat
 ids:List (Nat ⊕ Nat)
mutual
def a3L:(t:OT)->List TC->TQ (Tt t.den)
 | .d u,ps=>(b2p u ps).bind fun p=> .ret ⟨p.x,p.rest,p.fz,[]⟩
 | .npt,ps=>match ps with
  | .npt :: rest=> .ret ⟨(),rest,[],[]⟩
  | _=> .fail
 | .it t u _,ps=>match ps with
  | .it t' v x :: rest=>match decEq t' t with
   | .isTrue _=>match decEq v u with
    | .isTrue hu=> .ret ⟨a0q hu x,rest,[],[]⟩
    | .isFalse _=> .fail
   | .isFalse _=> .fail
  | _=> .fail
 | .clo f u,ps=>match ps with
  | .clo g v x :: rest=>match decEq g f with
   | .isTrue _=>match decEq v u with
    | .isTrue hu=> .ret ⟨a0q hu x,rest,[],[]⟩
    | .isFalse _=> .fail
   | .isFalse _=> .fail
  | _=> .fail
 | .e u,ps=>match ps with
  | .ep v x off :: rest=>match decEq v u with
   | .isTrue hu=> .req (Nat.beq off 0) (.ret ⟨a0q hu x,rest,[],[]⟩)
   | .isFalse _=> .fail
  | _=> .fail
 | .fn f,ps=>match ps with
  | .fn g :: rest=>match decEq g f with
   | .isTrue _=> .ret ⟨(),rest,[],[]⟩
   | .isFalse _=> .fail
  | _=> .fail
 | .row u e,ps=>match ps with
  | .row id ver :: rest=> .rdR id fun r=>match r.c with
   | some R=>match decEq R.u u with
    | .isTrue h=> .req (Nat.beq ver r.ver && Nat.beq R.e e && !R.fr) (.ret ⟨(h ▸ R.l:List u.den),rest,[],[.inr id]⟩)
    | .isFalse _=> .fail
   | none=> .fail
  | .nil :: rest=> .req (decide (0 < u.size/\e < Q5)) (.ret ⟨([]:List u.den),rest,[],[]⟩)
  | _=> .fail
 | .box ts,ps=>match ps with
  | .ptr id ver off :: rest=> .rdB id fun b=>match b.c with
   | some qs=>(a4J ts qs).bind fun k=> .req (k.rest.isEmpty && Nat.beq ver b.ver && Nat.beq off 0) (.ret ⟨k.x,rest,k.fz,.inl id :: k.ids⟩)
   | none=> .fail
  | _=> .fail
def a4J:(ts:OTs)->List TC->TQ (Tt ts.den)
 | .nil,ps=> .ret ⟨(),ps,[],[]⟩
 | .cons t ts,ps=>(a3L t ps).bind fun p=>(a4J ts p.rest).bind fun q=> .ret ⟨(p.x,q.x),q.rest,p.fz ++ q.fz,p.ids ++ q.ids⟩
end
theorem a4K {s:St} {K:Tks->List G8->Prop}:∀ (a b:List CSh) (x y:List AC) {tr:List G8},((L1 a x).wpt s tr fun k rs=>(L1 b y).wpt s rs fun m rs'=>K ⟨k.ocs ++ m.ocs,k.fz ++ m.fz,k.ids ++ m.ids⟩ rs')->(L1 (a ++ b) (x ++ y)).wpt s tr K
 | [],b,[],y,tr,h=>by simpa only [L1,Q.wpt,List.nil_append] using h
 | [],b,_ :: _,y,tr,h=>by simp only [L1,Q.wpt] at h
 | _ :: _,b,[],y,tr,h=>by simp only [L1,Q.wpt] at h
 | c :: a,b,x :: xs,y,tr,h=>by
  simp only [List.cons_append,L1,Q.wpt_bind,Q.wpt] at h ⊢
  refine Q.wpt_mono h fun d rs h1=>?_
  refine a4K a b xs y (Q.wpt_mono h1 fun e rs' h2=>?_)
  refine Q.wpt_mono h2 fun g rs'' h3=>?_
  simpa only [List.cons_append,List.append_assoc] using h3
theorem a8D {s:St} {K:Tks->List G8->Prop}:∀ (xs:List AC) {tr:List G8},((a1m xs).wpt s tr fun d rs=>K ⟨d.1.map .d,d.2,[]⟩ rs)->(L1 (List.replicate xs.length .D) xs).wpt s tr K
 | [],_,h=>h
 | x :: xs,tr,h=>by
  simp only [a1m,Q.wpt_bind,Q.wpt] at h
  simp only [List.length_cons,List.replicate_succ,L1,a3t,Q.wpt_bind,Q.wpt]
  refine Q.wpt_mono h fun d rs h1=>?_
  refine a8D xs (Q.wpt_mono h1 fun e rs' h2=>?_)
  simpa only [List.map_cons,List.append_nil] using h2
theorem a8E {s:St} {K:List DV × List Nat->List G8->Prop}:∀ (xs:List AC) {tr:List G8},(a1m xs).wpt s tr K->(a1m xs).wpt s tr fun d rs=>d.1.length=xs.length/\K d rs
 | [],_,h=>⟨rfl,h⟩
 | x :: xs,tr,h=>by
  simp only [a1m,Q.wpt_bind,Q.wpt] at h ⊢
  refine Q.wpt_mono h fun d rs h1=>?_
  refine Q.wpt_mono (a8E xs h1) fun e rs' h2=>?_
  exact⟨by simp [h2.1],h2.2⟩
theorem Q.wpt_ex {α:Type} {q:Q α} {s:St} {K:α->List G8->Prop}:∀ {tr:List G8},q.wpt s tr K->∃ a rs,K a rs:=by
 induction q with
 | ret a=>exact fun h=>⟨a,_,h⟩
 | rdT k g ih=>exact fun h=>ih _ h
 | rdB k g ih=>exact fun h=>ih _ h
 | rdR k g ih=>exact fun h=>ih _ h
 | req p q ih=>exact fun h=>ih h.2
 | fail=>exact fun h=>h.elim
def b72 {α:Type} (f:α->List OC) (sh:List CSh) (p:List TC->TQ (Tt α)):Prop:=∀ (ps:List TC) (s:TSt) (tr:List G8) (K:Tt α->List G8->Prop),(p ps).wpt s tr K->
 ∃ pre k rs,o7 ps=pre ++ o7 k.rest/\K k rs/\(L1 sh pre).wpt s.st tr fun q rs'=>q=⟨f k.x,k.fz,k.ids⟩/\rs'=rs
mutual
theorem a8F:∀ (t:OT),b72 t.ocs t.sh (a3L t)
 | .d u,ps,s,tr,K,h=>by
  simp only [a3L,TQ.wpt_bind] at h
  obtain⟨pre,k,rs,e,h,d⟩:=a3C u ps s tr _ h
  refine⟨pre,_,rs,e,h,?_⟩
  have d2:=a8E pre d
  obtain⟨x,rs',hl,hx,_⟩:=Q.wpt_ex d2
  rw [hx,U.enc_len] at hl
  show(L1 (List.replicate u.size .D) pre).wpt _ _ _
  rw [hl]
  refine a8D pre (Q.wpt_mono d ?_)
  rintro d rs ⟨rfl,rfl⟩
  exact⟨rfl,rfl⟩
 | .npt,ps,s,tr,K,h=>by
  unfold a3L at h
  split at h
  ·exact⟨[_],_,tr,rfl,h,show(L1 [.D] [AC.d (.v (.pointer none))]).wpt _ _ _ from⟨rfl,rfl⟩⟩
  ·exact h.elim
 | .it t u hz,ps,s,tr,K,h=>by
  unfold a3L at h
  split at h
  ·split at h
   ·split at h
    ·rename_i e1 _ _ e2 _;subst e1;subst e2;exact⟨[_],_,tr,rfl,h,show(L1 [.D] [AC.d (.it _ (a5p _))]).wpt _ _ _ from⟨rfl,rfl⟩⟩
    ·exact h.elim
   ·exact h.elim
  ·exact h.elim
 | .clo f u,ps,s,tr,K,h=>by
  unfold a3L at h
  split at h
  ·split at h
   ·split at h
    ·rename_i e1 _ _ e2 _;subst e1;subst e2;exact⟨[_],_,tr,rfl,h,show(L1 [.D] [AC.d (.clo _ (U.enc _ _))]).wpt _ _ _ from⟨rfl,rfl⟩⟩
    ·exact h.elim
   ·exact h.elim
  ·exact h.elim
 | .e u,ps,s,tr,K,h=>by
  unfold a3L at h
  split at h
  ·split at h
   ·rename_i e2 _
    subst e2
    obtain⟨h0,h⟩:=h
    rw [Nat.eq_of_beq_eq_true h0]
    exact⟨[_],_,tr,rfl,h,show(L1 [.E] [AC.eptr (U.enc _ _)]).wpt _ _ _ from⟨rfl,rfl⟩⟩
   ·exact h.elim
  ·exact h.elim
 | .fn f,ps,s,tr,K,h=>by
  unfold a3L at h
  split at h
  ·split at h
   ·rename_i hg _;subst hg;exact⟨[_],_,tr,rfl,h,show(L1 [.D] [AC.d (.v (.func (.func _) #[] #[]))]).wpt _ _ _ from⟨rfl,rfl⟩⟩
   ·exact h.elim
  ·exact h.elim
 | .row u e,ps,s,tr,K,h=>by
  unfold a3L at h
  split at h
  ·rename_i id ver rest
   simp only [TQ.wpt] at h
   split at h
   ·rename_i R hR
    split at h
    ·rename_i hu _
     obtain⟨h1,h2⟩:=h
     simp only [Bool.and_eq_true] at h1
     refine⟨[.row id ver],_,_,rfl,h2,?_⟩
     have hc:(s.st.r id).c=some R.row:=by show(s.r id).c.map a2P.row=_;rw [hR];rfl
     simp only [OT.sh,L1,a3t,Q.bind,Q.wpt]
     rw [hc]
     subst hu
     refine⟨⟨Nat.eq_of_beq_eq_true h1.1.1,rfl,Nat.eq_of_beq_eq_true h1.1.2,by show R.fr=false;simpa using h1.2⟩,rfl,rfl⟩
    ·exact h.elim
   ·exact h.elim
  ·rename_i rest
   obtain⟨h1,h2⟩:=h
   exact⟨[.nil],_,tr,rfl,h2,of_decide_eq_true h1,rfl,rfl⟩
  ·exact h.elim
 | .box ts,ps,s,tr,K,h=>by
  unfold a3L at h
  split at h
  ·rename_i id ver off rest
   simp only [TQ.wpt] at h
   split at h
   ·rename_i qs hq
    rw [TQ.wpt_bind] at h
    obtain⟨pre,k,rs,e,h,d⟩:=a15 ts qs s _ _ h
    obtain⟨h1,h2⟩:=h
    simp only [Bool.and_eq_true] at h1
    have hr:=List.isEmpty_iff.1 h1.1.1
    rw [hr] at e
    have e:o7 qs=pre:=e.trans (List.append_nil _)
    refine⟨[.ptr id ver off],_,_,rfl,h2,?_⟩
    have hc:(s.st.b id).c=some (o7 qs):=by show(s.b id).c.map o7=_;rw [hq];rfl
    simp only [OT.sh,L1,a3t,Q.wpt_bind,Q.wpt]
    rw [hc,e]
    simp only [Q.wpt_bind]
    refine Q.wpt_mono d ?_
    rintro q rs' ⟨rfl,rfl⟩
    exact⟨⟨Nat.eq_of_beq_eq_true h1.1.2,Nat.eq_of_beq_eq_true h1.2⟩,by simp only [List.append_nil];rfl,rfl⟩
   ·exact h.elim
  ·exact h.elim
theorem a15:∀ (ts:OTs),b72 ts.ocs ts.sh (a4J ts)
 | .nil,ps,s,tr,K,h=>⟨[],_,tr,rfl,h,rfl,rfl⟩
 | .cons t ts,ps,s,tr,K,h=>by
  simp only [a4J,TQ.wpt_bind] at h
  obtain⟨pre1,k1,rs1,e1,h,d1⟩:=a8F t ps s tr _ h
  obtain⟨pre2,k2,rs2,e2,h,d2⟩:=a15 ts _ s rs1 _ h
  refine⟨pre1 ++ pre2,_,rs2,by rw [e1,e2,List.append_assoc],h,a4K _ _ _ _ (Q.wpt_mono d1 ?_)⟩
  rintro q rs ⟨rfl,rfl⟩
  refine Q.wpt_mono d2 ?_
  rintro q rs ⟨rfl,rfl⟩
  exact⟨rfl,rfl⟩
end
structure Tta (α:Type) where
 x:α
 fz:List Nat
 ids:List (Nat ⊕ Nat)
 tops:List (Nat ⊕ Nat)
def a4L:(t:AT)->TV->TQ (Tta t.den)
 | .c t,v=>match v with
  | .o (.c x)=> .req (is1 x) ((a3L t [x]).bind fun k=> .req (k.rest.isEmpty) (.ret ⟨k.x,k.fz,k.ids,[]⟩))
  | _=> .fail
 | .agg ts,v=>match v with
  | .o (.agg ps)=>(a4J ts ps).bind fun k=> .req (k.rest.isEmpty) (.ret ⟨k.x,k.fz,k.ids,[]⟩)
  | _=> .fail
 | .bx ts,v=>match v with
  | .o (.c (.ptr id ver off))=> .rdB id fun b=>match b.c with
   | some qs=>(a4J ts qs).bind fun k=> .req (k.rest.isEmpty && Nat.beq ver b.ver && Nat.beq off 0) (.ret ⟨k.x,k.fz,k.ids,[.inl id]⟩)
   | none=> .fail
  | _=> .fail
 | .rx u e,v=>match v with
  | .o (.c (.row id ver))=> .rdR id fun r=>match r.c with
   | some R=>match decEq R.u u with
    | .isTrue h=> .req (Nat.beq ver r.ver && Nat.beq R.e e && !R.fr && Nat.blt e Q5) (.ret ⟨(h ▸ R.l:List u.den),[],[],[.inr id]⟩)
    | .isFalse _=> .fail
   | none=> .fail
  | _=> .fail
theorem a9N (t:AT) (hk:t.ok=true) (v:TV):Sim (fun k:Tta t.den=>(⟨t.oa k.x,k.fz,k.ids,k.tops⟩:Ta)) (a4L t v) (b2R t.ash v.av):=by
 cases t with
 | c t=>
  unfold a4L
  simp only
  split
  ·rename_i x
   refine Sim.chk fun h1 s tr K hK=>?_
   rw [TQ.wpt_bind] at hK
   obtain⟨pre,k,rs,e,hK,d⟩:=a8F t _ s tr _ hK
   obtain⟨h2,h3⟩:=hK
   rw [List.isEmpty_iff.1 h2] at e
   have e:o7 [x]=pre:=e.trans (List.append_nil _)
   have e0:o7 [x]=[R9 x.cells]:=(List.append_nil _).trans (a2E h1)
   rw [<-e,e0] at d
   have hl:t.sh.length=1:=Nat.eq_of_beq_eq_true hk
   match hs:t.sh,hl with
   | [c],_=>
    have hocs:t.ocs k.x=[a9M (t.ocs k.x)]:=a08 (by rw [OT.len,hs];rfl)
    rw [hs] at d
    simp only [L1,Q.wpt_bind,Q.wpt] at d
    show((a3t (t.sh.headD .D) (R9 x.cells)).bind fun k=>Q.ret (⟨.c k.oc,k.fz,k.ids,[]⟩:Ta)).wpt _ _ _
    rw [hs,Q.wpt_bind]
    refine Q.wpt_mono d ?_
    rintro q rs' ⟨hq,rfl⟩
    rw [hocs] at hq
    injection hq with q1 q2 q3
    injection q1 with q1 _
    refine⟨_,?_,h3⟩
    simp only [List.append_nil] at q2 q3
    show(⟨.c q.oc,q.fz,q.ids,[]⟩:Ta)=⟨.c (a9M (t.ocs k.x)),k.fz,k.ids,[]⟩
    rw [q1,q2,q3]
  ·exact Sim.fail
 | agg ts=>
  unfold a4L
  simp only
  split
  ·rename_i ps
   intro s tr K hK
   rw [TQ.wpt_bind] at hK
   obtain⟨pre,k,rs,e,hK,d⟩:=a15 ts _ s tr _ hK
   obtain⟨h2,h3⟩:=hK
   rw [List.isEmpty_iff.1 h2] at e
   have e:o7 ps=pre:=e.trans (List.append_nil _)
   rw [<-e] at d
   show((L1 ts.sh (o7 ps)).bind fun k=>Q.ret (⟨.agg k.ocs,k.fz,k.ids,[]⟩:Ta)).wpt _ _ _
   rw [Q.wpt_bind]
   refine Q.wpt_mono d ?_
   rintro q rs' ⟨rfl,rfl⟩
   exact⟨_,rfl,h3⟩
  ·exact Sim.fail
 | bx ts=>
  unfold a4L
  simp only
  split
  ·rename_i id ver off
   refine Sim.rdB fun b=>?_
   obtain⟨bv,c⟩:=b
   cases c with
   | none=>exact Sim.fail
   | some qs=>
    intro s tr K hK
    simp only at hK
    rw [TQ.wpt_bind] at hK
    obtain⟨pre,k,rs,e,hK,d⟩:=a15 ts _ s tr _ hK
    obtain⟨h2,h3⟩:=hK
    simp only [Bool.and_eq_true] at h2
    rw [List.isEmpty_iff.1 h2.1.1] at e
    have e:o7 qs=pre:=e.trans (List.append_nil _)
    rw [<-e] at d
    show((L1 ts.sh (o7 qs)).bind fun k=>Q.req (ver=bv/\off=0) (.ret (⟨.bx k.ocs,k.fz,k.ids,[.inl id]⟩:Ta))).wpt _ _ _
    rw [Q.wpt_bind]
    refine Q.wpt_mono d ?_
    rintro q rs' ⟨rfl,rfl⟩
    exact⟨⟨Nat.eq_of_beq_eq_true h2.1.2,Nat.eq_of_beq_eq_true h2.2⟩,_,rfl,h3⟩
  ·exact Sim.fail
 | rx u e=>
  unfold a4L
  simp only
  split
  ·rename_i id ver
   refine Sim.rdR fun r=>?_
   obtain⟨rv,c⟩:=r
   cases c with
   | none=>exact Sim.fail
   | some R=>
    simp only
    split
    ·rename_i hu _
     subst hu
     refine Sim.req (fun h=>?_) fun _=>Sim.ret rfl
     simp only [Bool.and_eq_true] at h
     exact⟨Nat.eq_of_beq_eq_true h.1.1.1,rfl,Nat.eq_of_beq_eq_true h.1.1.2,by show R.fr=false;simpa using h.1.2,Nat.le_of_ble_eq_true h.2⟩
    ·exact Sim.fail
  ·exact Sim.fail
def a5C:(ts:ATs)->List TV->TQ (Tta ts.den)
 | .nil,vs=>match vs with
  | []=> .ret ⟨(),[],[],[]⟩
  | _=> .fail
 | .cons t ts,vs=>match vs with
  | v :: vs=>(a4L t v).bind fun k=>(a5C ts vs).bind fun ks=> .ret ⟨(k.x,ks.x),k.fz ++ ks.fz,k.ids ++ ks.ids,k.tops ++ ks.tops⟩
  | []=> .fail
theorem a1F:∀ (ts:ATs),ts.ok=true->∀ (vs:List TV),Sim (fun k:Tta ts.den=>(⟨ts.oas k.x,k.fz,k.ids,k.tops⟩:Tas)) (a5C ts vs) (a3u ts.sh (vs.map TV.av))
 | .nil,_,[]=>Sim.ret rfl
 | .nil,_,_ :: _=>Sim.fail
 | .cons _ _,_,[]=>Sim.fail
 | .cons t ts,h,v :: vs=>by
  simp only [ATs.ok,Bool.and_eq_true] at h
  exact Sim.bind (a9N t h.1 v) fun k=>Sim.bind (a1F ts h.2 vs) fun ks=>Sim.ret rfl
end Go.Proofs.Ythadhfbkhldblaa.Am
namespace Go.Proofs.Ythadhfbkhldblaa.Am
open Go
def b3j:List (Nat ⊕ Nat)->TQ (List P2)
 | []=> .ret []
 | .inl id :: ids=> .rdB id fun b=>(b3j ids).bind fun us=> .ret (.b id ⟨b.ver,none⟩ :: us)
 | .inr id :: ids=> .rdR id fun b=>(b3j ids).bind fun us=> .ret (.r id ⟨b.ver,none⟩ :: us)
theorem a3M:∀ (ids:List (Nat ⊕ Nat)),Sim US (b3j ids) (a61 ids)
 | []=>Sim.ret rfl
 | .inl _id :: ids=>Sim.rdB fun _b=>Sim.bind (a3M ids) fun _us=>Sim.ret rfl
 | .inr _id :: ids=>Sim.rdR fun _b=>Sim.bind (a3M ids) fun _us=>Sim.ret rfl
def b1t:Nat->List TC
 | 0=>[]
 | n + 1=> .junk :: b1t n
theorem a8G {α:Type}:∀ (l:List α),o7 (b1t l.length)=l.map fun _=>AC.junk
 | []=>rfl
 | x :: l=>by rw [List.length_cons,b1t,o7,a8G l];rfl
def b3k:List (Nat ⊕ Nat)->(ts:PTs)->ts.den->TQ (List P2)
 | [],.nil,_=> .ret []
 | .inl id :: ids,.cons t ts,x=> .rdB id fun b=>(b3k ids ts x.2).bind fun us=> .ret (.b id ⟨b.ver,some (b1t t.sh.length)⟩ :: us)
 | .inr id :: ids,.rcons u e ts,x=> .req (Nat.blt e Q5) (.rdR id fun r=>(b3k ids ts x.2).bind fun us=> .ret (.r id ⟨r.ver,some ⟨u,x.1,e,false⟩⟩ :: us))
 | _,_,_=> .fail
theorem a3N:∀ (ids:List (Nat ⊕ Nat)) (ts:PTs) (x:ts.den),Sim US (b3k ids ts x) (a4g ids (ts.ocs x))
 | [],.nil,_=>Sim.ret rfl
 | .inr id :: ids,.rcons u e ts,x=>Sim.req (fun h=>Nat.le_of_ble_eq_true h) fun _=>Sim.rdR fun r=>Sim.bind (a3N ids ts x.2) fun us=>Sim.ret rfl
 | .inl id :: ids,.cons t ts,x=>Sim.rdB fun b=>Sim.bind (a3N ids ts x.2) fun us=>Sim.ret (by
   show Upd.b id ⟨b.ver,some ((t.ocs x.1).map fun _=>AC.junk)⟩ :: _=Upd.b id ⟨b.ver,some (o7 (b1t t.sh.length))⟩ :: _
   rw [<-a8G,OTs.len]
   rfl)
 | [],.cons _ _,_=>Sim.fail
 | [],.rcons _ _ _,_=>Sim.fail
 | .inl _ :: _,.nil,_=>Sim.fail
 | .inr _ :: _,.nil,_=>Sim.fail
 | .inl _ :: _,.rcons _ _ _,_=>Sim.fail
 | .inr _ :: _,.cons _ _,_=>Sim.fail
structure Tmk where
 ps:List TC
 us:List P2
 m:Nat
mutual
def b5A (n:Nat):(t:OT)->t.den->TQ Tmk
 | .d u,x=> .ret ⟨[.ch u x],[],n⟩
 | .fn f,_=> .ret ⟨[.fn f],[],n⟩
 | .npt,_=> .ret ⟨[.npt],[],n⟩
 | .it t u _,x=> .ret ⟨[.it t u x],[],n⟩
 | .clo f u,x=> .ret ⟨[.clo f u x],[],n⟩
 | .e u,x=> .ret ⟨[.ep u x 0],[],n⟩
 | .row u e,l=> .req (Nat.blt e J4) (.rdR n fun r=> .ret ⟨[.row n (r.ver + 1)],[.r n ⟨r.ver + 1,some ⟨u,l,e,false⟩⟩],n + 1⟩)
 | .box ts,x=> .rdB n fun b=>(a7C (n + 1) ts x).bind fun k=> .ret ⟨[.ptr n (b.ver + 1) 0],k.us ++ [.b n ⟨b.ver + 1,some k.ps⟩],k.m⟩
def a7C (n:Nat):(ts:OTs)->ts.den->TQ Tmk
 | .nil,_=> .ret ⟨[],[],n⟩
 | .cons t ts,x=>(b5A n t x.1).bind fun k=>(a7C k.m ts x.2).bind fun ks=> .ret ⟨k.ps ++ ks.ps,k.us ++ ks.us,ks.m⟩
end
def b39 (k:Tmk):Mks:=⟨o7 k.ps,US k.us,k.m⟩
theorem a8H {s:St} {K:Mks->List G8->Prop}:∀ (a b:List OC) {n:Nat} {tr:List G8},((a4y n a).wpt s tr fun k rs=>(a4y k.m b).wpt s rs fun q rs'=>K ⟨k.acs ++ q.acs,k.us ++ q.us,q.m⟩ rs')->(a4y n (a ++ b)).wpt s tr K
 | [],b,n,tr,h=>by simpa only [a4y,Q.wpt,List.nil_append] using h
 | c :: a,b,n,tr,h=>by
  simp only [List.cons_append,a4y,Q.wpt_bind,Q.wpt] at h ⊢
  refine Q.wpt_mono h fun d rs h1=>?_
  refine a8H a b (Q.wpt_mono h1 fun e rs' h2=>?_)
  refine Q.wpt_mono h2 fun g rs'' h3=>?_
  simpa only [List.cons_append,List.append_assoc] using h3
theorem b4a {s:St} {K:Mks->List G8->Prop} {n:Nat} {tr:List G8}:∀ (ds:List DV),K ⟨ds.map .d,[],n⟩ tr->(a4y n (ds.map .d)).wpt s tr K
 | [],h=>h
 | d :: ds,h=>by
  simp only [List.map_cons,a4y,mkC,Q.wpt_bind,Q.wpt]
  exact b4a (K:=fun k rs=>K ⟨.d d :: k.acs,[] ++ k.us,k.m⟩ rs) ds h
theorem a0t {s:St} {K:Mks->List G8->Prop} {n:Nat} {tr:List G8} {c:OC} (h:(mkC n c).wpt s tr fun k rs=>K ⟨[k.ac],k.us,k.m⟩ rs):(a4y n [c]).wpt s tr K:=by
 simp only [a4y,Q.wpt_bind,Q.wpt]
 refine Q.wpt_mono h fun k rs h1=>?_
 simpa only [List.append_nil] using h1
theorem b8D (u:U) (n:Nat) (x:u.den):(⟨(u.enc x).map .d,[],n⟩:Mks)=b39 ⟨[.ch u x],[],n⟩:=by
 unfold b39
 rw [L2]
 rfl
mutual
theorem a8I:∀ (t:OT) (n:Nat) (x:t.den),Sim b39 (b5A n t x) (a4y n (t.ocs x))
 | .d u,n,x=>fun s tr K h=>b4a _ ⟨_,b8D u n x,h⟩
 | .npt,n,x=>fun s tr K h=>a0t (c:= .d (.v (.pointer none))) ⟨_,rfl,h⟩
 | .it t u _,n,x=>fun s tr K h=>a0t (c:= .d (.it t (a5p (u.enc x)))) ⟨_,rfl,h⟩
 | .clo f u,n,x=>fun s tr K h=>a0t (c:= .d (.clo f (u.enc x))) ⟨_,rfl,h⟩
 | .e u,n,x=>fun s tr K h=>a0t (c:= .e (u.enc x)) ⟨_,rfl,h⟩
 | .fn f,n,x=>fun s tr K h=>a0t (c:= .d (.v (.func (.func f) #[] #[]))) ⟨_,rfl,h⟩
 | .row u e,n,l=>fun s tr K h=>a0t (c:= .row u.size e (List.map u.enc l)) ⟨Nat.le_of_ble_eq_true h.1,_,rfl,h.2⟩
 | .box ts,n,x=>fun s tr K h=>a0t (c:= .box (ts.ocs x)) (by
   have h:((a7C (n + 1) ts x).bind fun k=>TQ.ret (⟨[.ptr n ((s.b n).ver + 1) 0],k.us ++ [.b n ⟨(s.b n).ver + 1,some k.ps⟩],k.m⟩:Tmk)).wpt s (.b n :: tr) K:=h
   rw [TQ.wpt_bind] at h
   have h1:=a16 ts (n + 1) x s _ _ h
   show((a4y (n + 1) (ts.ocs x)).bind fun k=>Q.ret (⟨.ptr n ((s.b n).ver + 1) 0,k.us ++ [.b n ⟨(s.b n).ver + 1,some k.acs⟩],k.m⟩:Mk)).wpt s.st (.b n :: tr) _
   rw [Q.wpt_bind]
   refine Q.wpt_mono h1 ?_
   rintro b rs ⟨a,rfl,hk⟩
   refine⟨_,?_,hk⟩
   simp only [b39,US,List.map_append,List.map_cons,List.map_nil]
   rfl)
theorem a16:∀ (ts:OTs) (n:Nat) (x:ts.den),Sim b39 (a7C n ts x) (a4y n (ts.ocs x))
 | .nil,n,x=>fun s tr K h=>⟨_,rfl,h⟩
 | .cons t ts,n,x=>fun s tr K h=>by
  simp only [a7C,TQ.wpt_bind] at h
  refine a8H (t.ocs x.1) (ts.ocs x.2) (Q.wpt_mono (a8I t n x.1 s tr _ h) ?_)
  rintro b rs ⟨a,rfl,hk⟩
  refine Q.wpt_mono (a16 ts a.m x.2 s rs _ hk) ?_
  rintro b rs ⟨a',rfl,hk⟩
  refine⟨_,?_,hk⟩
  simp only [b39,US,List.map_append,P1]
end
structure b73 where
 us:List P2
 m:Nat
def b3l (n:Nat):List (Nat ⊕ Nat)->(ts:PTs)->ts.den->TQ b73
 | [],.nil,_=> .ret ⟨[],n⟩
 | .inl id :: ids,.cons t ts,x=>(a7C n t x.1).bind fun k=> .req ((.inl id :: ids).all fun j=>Nat.blt (tid j) n || Nat.ble k.m (tid j)) (.rdB id fun b=>(b3l k.m ids ts x.2).bind fun p=> .ret ⟨k.us ++ (.b id ⟨b.ver,some k.ps⟩ :: p.us),p.m⟩)
 | .inr _ :: ids,.rcons _ _ ts,x=>b3l n ids ts x.2
 | _,_,_=> .fail
theorem a3O:∀ (ids:List (Nat ⊕ Nat)) (ts:PTs) (n:Nat) (x:ts.den),Sim (fun p:b73=>(⟨US p.us,p.m⟩:Mps)) (b3l n ids ts x) (a62 n ids (ts.ocs x))
 | [],.nil,n,_=>Sim.ret rfl
 | .inr _ :: ids,.rcons _ _ ts,n,x=>a3O ids ts n x.2
 | .inl id :: ids,.cons t ts,n,x=>Sim.bind (a16 t n x.1) fun k=>Sim.req (fun h j hj=>by
   have h1:=List.all_eq_true.1 h j hj
   rw [Bool.or_eq_true] at h1
   rcases h1 with h1 | h1
   ·exact .inl (Nat.le_of_ble_eq_true h1)
   ·exact .inr (Nat.le_of_ble_eq_true h1)) fun _=>Sim.rdB fun b=>Sim.bind (a3O ids ts k.m x.2) fun p=>Sim.ret (by
   simp only [b39,US,List.map_append,List.map_cons]
   rfl)
 | [],.cons _ _,_,_=>Sim.fail
 | [],.rcons _ _ _,_,_=>Sim.fail
 | .inl _ :: _,.nil,_,_=>Sim.fail
 | .inr _ :: _,.nil,_,_=>Sim.fail
 | .inl _ :: _,.rcons _ _ _,_,_=>Sim.fail
 | .inr _ :: _,.cons _ _,_,_=>Sim.fail
structure b74 where
 v:T1
 us:List P2
 m:Nat
def b75 (n:Nat):(t:AT)->t.den->TQ b74
 | .c t,x=>(b5A n t x).bind fun k=>match k.ps with
  | [p]=> .req (is1 p) (.ret ⟨.c p,k.us,k.m⟩)
  | _=> .fail
 | .agg ts,x=>(a7C n ts x).bind fun k=> .ret ⟨.agg k.ps,k.us,k.m⟩
 | .bx ts,x=>(b5A n (.box ts) x).bind fun k=>match k.ps with
  | [p]=> .req (is1 p) (.ret ⟨.c p,k.us,k.m⟩)
  | _=> .fail
 | .rx u e,x=>(b5A n (.row u e) x).bind fun k=>match k.ps with
  | [p]=> .req (is1 p) (.ret ⟨.c p,k.us,k.m⟩)
  | _=> .fail
def b6T (k:b74):Mka:=⟨k.v.av,US k.us,k.m⟩
theorem b1u {s:St} {K:Mks->List G8->Prop} {n:Nat} {tr:List G8} {c:OC} (h:(a4y n [c]).wpt s tr K):(mkC n c).wpt s tr fun k rs=>K ⟨[k.ac],k.us,k.m⟩ rs:=by
 simp only [a4y,Q.wpt_bind,Q.wpt] at h
 refine Q.wpt_mono h fun k rs h1=>?_
 simpa only [List.append_nil] using h1
theorem a5D (t:OT) (n:Nat) (x:t.den) (c:OC) (hc:t.ocs x=[c]):Sim b6T ((b5A n t x).bind fun k=>match k.ps with
  | [p]=> .req (is1 p) (.ret ⟨.c p,k.us,k.m⟩)
  | _=> .fail) ((mkC n c).bind fun k=> .ret ⟨.c k.ac,k.us,k.m⟩):=fun s tr K h=>by
 rw [TQ.wpt_bind] at h
 have h1:=a8I t n x s tr _ h
 rw [hc] at h1
 rw [Q.wpt_bind]
 refine Q.wpt_mono (b1u h1) ?_
 rintro k rs ⟨a,ha,hk⟩
 split at hk
 ·rename_i p hp
  obtain⟨h2,h3⟩:=hk
  refine⟨_,?_,h3⟩
  have e0:o7 [p]=[R9 p.cells]:=(List.append_nil _).trans (a2E h2)
  simp only [b39,hp,e0] at ha
  injection ha with a1 a2 a3
  injection a1 with a1 _
  simp only [b6T,T1.av]
  rw [a1,a2,a3]
 ·exact hk.elim
theorem b3m (t:AT) (hk:t.ok=true) (n:Nat) (x:t.den):Sim b6T (b75 n t x) (mkA n (t.oa x)):=by
 cases t with
 | c t=>
  have h1:(t.ocs x).length=1:=by rw [OT.len t x];exact Nat.eq_of_beq_eq_true hk
  exact a5D t n x _ (a08 h1)
 | agg ts=>exact Sim.bind (a16 ts n x) fun k=>Sim.ret rfl
 | bx ts=>exact a5D (.box ts) n x _ rfl
 | rx u e=>exact a5D (.row u e) n x _ rfl
structure b4Y where
 vs:List T1
 us:List P2
 m:Nat
def b1v (n:Nat):(ts:ATs)->ts.den->TQ b4Y
 | .nil,_=> .ret ⟨[],[],n⟩
 | .cons t ts,x=>(b75 n t x.1).bind fun k=>(b1v k.m ts x.2).bind fun ks=> .ret ⟨k.v :: ks.vs,k.us ++ ks.us,ks.m⟩
def a4h (k:b4Y):b67:=⟨k.vs.map T1.av,US k.us,k.m⟩
theorem a17:∀ (ts:ATs),ts.ok=true->∀ (n:Nat) (x:ts.den),Sim a4h (b1v n ts x) (b4A n (ts.oas x))
 | .nil,_,_,_=>Sim.ret rfl
 | .cons t ts,h,n,x=>by
  simp only [ATs.ok,Bool.and_eq_true] at h
  exact Sim.bind (b3m t h.1 n x.1) fun k=>Sim.bind (a17 ts h.2 k.m x.2) fun ks=>Sim.ret (by simp only [b6T,a4h,US,List.map_append,List.map_cons])
def b4Z (vs:List T1):TV:=match vs with
 | [v]=> .o v
 | vs=> .tup vs
theorem a8J (vs:List T1):b5u (vs.map T1.av)=(b4Z vs).av:=by
 match vs with
 | []=>rfl
 | [_]=>rfl
 | _ :: _ :: _=>rfl
def b5B (x:Nat ⊕ Nat):List (Nat ⊕ Nat)->Bool
 | []=>false
 | y :: r=>(match x,y with | .inl a,.inl b=>Nat.beq a b | .inr a,.inr b=>Nat.beq a b | _,_=>false) || b5B x r
theorem a5E {x:Nat ⊕ Nat}:∀ {l:List (Nat ⊕ Nat)},b5B x l=false->x ∉ l
 | [],_,h=>by simp at h
 | y :: r,h,hm=>by
  simp only [b5B,Bool.or_eq_false_iff] at h
  rcases List.mem_cons.1 hm with e | hm
  ·subst e
   have h1:=h.1
   cases x <;> simp at h1
  ·exact a5E h.2 hm
def a6s:List (Nat ⊕ Nat)->Bool
 | []=>true
 | x :: r=> !b5B x r && a6s r
theorem a3P:∀ {l:List (Nat ⊕ Nat)},a6s l=true->l.Nodup
 | [],_=>List.nodup_nil
 | x :: r,h=>by
  simp only [a6s,Bool.and_eq_true,Bool.not_eq_true'] at h
  exact List.nodup_cons.2 ⟨a5E h.1,a3P h.2⟩
def b40 (S:TFn) (o:Oper) (c:Call) (ex:List TV:=[]):TQ (List P2):=
 (b6g c.args.toList).bind fun xs=>(a5C S.args (xs ++ ex)).bind fun k=>
 .req (a6s (k.tops ++ k.ids) && k.fz.all fun id=> !b5B (Sum.inr id) (k.tops ++ k.ids))
 (.call (S.G k.x) fun r=>match S.flat && k.tops.isEmpty && k.ids.isEmpty with
 | true=>(V1 k.fz).bind fun _=>(b1v (a2Z o.dst) S.res (S.out r).2).bind fun q=> .ret (q.us ++ b6Q o.dst (b4Z q.vs))
 | false=>(V1 k.fz).bind fun us1=>(b3j k.ids).bind fun us2=>(b3k k.tops S.posts (S.out r).1).bind fun us3=>(b3l (a2Z o.dst) k.tops S.posts (S.out r).1).bind fun p=>(b1v p.m S.res (S.out r).2).bind fun q=>
 .ret (us1 ++ us2 ++ us3 ++ p.us ++ q.us ++ b6Q o.dst (b4Z q.vs)))
theorem AT.flat_ok (t:AT) (h:t.flat=true) (hk:t.ok=true) (x:t.den):a6e (t.oa x)=true:=by
 cases t with
 | c t=>
  have h1:(t.ocs x).length=1:=by rw [OT.len t x];exact Nat.eq_of_beq_eq_true hk
  have h2:=a08 h1
  have h3:=t.flat_ok h x
  rw [h2,List.all_cons,Bool.and_eq_true] at h3
  exact h3.1
 | agg ts=>exact ts.flat_ok h x
 | bx ts=>cases h
 | rx u e=>cases h
theorem ATs.flat_ok:∀ (ts:ATs),ts.flat=true->ts.ok=true->∀ (x:ts.den),(ts.oas x).all a6e=true
 | .nil,_,_,_=>rfl
 | .cons t ts,h,hk,x=>by
  have h':(t.flat && ts.flat)=true:=h
  have hk':(t.ok && ts.ok)=true:=hk
  rw [Bool.and_eq_true] at h' hk'
  rw [ATs.oas,List.all_cons,t.flat_ok h'.1 hk'.1,ts.flat_ok h'.2 hk'.2];rfl
theorem Sim.call {α β γ:Type} {f:α->β} {o:Option γ} {q':γ->TQ α} {q:Q β} (h:∀ r,o=some r->Sim f (q' r) q):Sim f (.call o q') q:=fun s tr K hk=>by
 obtain⟨r,h1,h2⟩:=hk
 exact h r h1 s tr K h2
theorem b1w (S:TFn) (ha:S.args.ok=true) (hr:S.res.ok=true) (o:Oper) (c:Call) (ex:List TV):Sim US (b40 S o c ex) (b0K S.spec o c (ex.map TV.av)):=by
 refine Sim.bind (a20 _) fun xs=>Sim.bind (show Sim _ _ (a3u S.spec.sh (xs.map TV.av ++ ex.map TV.av)) by rw [<-List.map_append];exact a1F S.args ha (xs ++ ex)) fun k=>Sim.chk fun h=>Sim.call fun r hF=>?_
 rw [Bool.and_eq_true] at h
 refine Sim.must ⟨a3P h.1,fun id hid=>?_,⟨k.x,r,rfl,hF⟩⟩ ?_
 ·have:=List.all_eq_true.1 h.2 id hid
  exact a5E (by simpa using this)
 ·simp only
  rw [TFn.post_of ha hF,TFn.res_of ha hF]
  show Sim US _ (match S.flat && k.tops.isEmpty && k.ids.isEmpty with | true=>_ | false=>_)
  cases hfl:S.flat && k.tops.isEmpty && k.ids.isEmpty with
  | true=>
   rw [Bool.and_eq_true,Bool.and_eq_true] at hfl
   have hf:(S.posts.isNil && S.res.flat)=true:=hfl.1.1
   rw [Bool.and_eq_true] at hf
   refine Sim.must ⟨S.posts.isNil_ok hf.1 _,S.res.flat_ok hf.2 hr _⟩ ?_
   refine Sim.bind (I5 k.fz) fun _=>Sim.bind (a17 S.res hr _ (S.out r).2) fun q=>Sim.ret ?_
   simp only [a4h]
   rw [a8J]
   simp only [US,List.map_append]
   congr 1
   cases o.dst <;> rfl
  | false=>
  refine Sim.bind (I5 k.fz) fun us1=>Sim.bind (a3M k.ids) fun us2=>Sim.bind (a3N k.tops S.posts (S.out r).1) fun us3=>Sim.bind (a3O k.tops S.posts _ (S.out r).1) fun p=>Sim.bind (a17 S.res hr p.m (S.out r).2) fun q=>Sim.ret ?_
  simp only [a4h]
  rw [a8J]
  simp only [US,List.map_append]
  congr 1
  cases o.dst <;> rfl
def b4b (k:TK) (x:TV):TQ Nat:=match k with
 | .slice _=>b7e x
 | .str=>a7s x
 | .map _ _=>a7w x
 | _=> .fail
def tmm (f:Int->Int->Int) (x y:TV):TQ TV:=match x,y with
 | .o (.c (.ch (.int k) a)),.o (.c (.ch (.int _) b))=> .ret (c1 (.int k) (f a b))
 | _,_=> .fail
def b1x (T:TypeId->Option TI) (TU:TypeId->Option U) (b:Builtin) (o:Oper) (c:Call):TQ (List P2):=match b with
 | .len=>match c.args.toList,c.argTypes.toList with
  | [x],[t]=>(ttq T t).bind fun i=>(tev x).bind fun x=>(b4b i.k x).bind fun n=>a1A o.dst (c1 (.int .i64) (n:Int))
  | _,_=> .fail
 | .append=>match c.args.toList,c.argTypes.toList with
  | [x,y],[t,t']=>(ttq T t).bind fun i=>match i.k with
   | .slice e=>(ttq T e).bind fun ie=>(TQ.ofOpt o.dst).bind fun d=>match TU e with
    | some u=> .req (Nat.beq t t' && decide (0 < ie.size) && Nat.beq u.size ie.size) ((tev x).bind fun x=>(tev y).bind fun y=>match x,y with
     | .o (.c x),.o (.c y)=>b1q d e u ie.bytes x y
     | _,_=> .fail)
    | none=> .fail
   | _=> .fail
  | _,_=> .fail
 | .delete=>match c.args.toList,c.argTypes.toList with
  | [x,y],t :: _=>(ttq T t).bind fun i=>match i.k with
   | .map kt vt=>(ttq T kt).bind fun ik=>(ttq T vt).bind fun iv=>(tev x).bind fun m=>(tev y).bind fun k=>match TU kt,TU vt with
    | some K,some V=> .req (isKey K && kOk ik.k K) ((a9K K k).bind fun k=>(b4T K V iv k m).bind fun us=> .ret (us ++ b6Q o.dst .any))
    | _,_=> .fail
   | _=> .fail
  | _,_=> .fail
 | .max=>match c.args.toList with
  | [x,y]=>(tev x).bind fun x=>(tev y).bind fun y=>(tmm max x y).bind (a1A o.dst)
  | _=> .fail
 | .min=>match c.args.toList with
  | [x,y]=>(tev x).bind fun x=>(tev y).bind fun y=>(tmm min x y).bind (a1A o.dst)
  | _=> .fail
 | _=> .fail
theorem a9O (k:TK) (x:TV):Sim id (b4b k x) (b0P k x.av):=by
 cases k <;> first | exact b3b x | exact a7t x | exact a7x x | exact Sim.fail
theorem b1y (f:Int->Int->Int) (x y:TV):Sim TV.av (tmm f x y) (mmQ f x.av y.av):=by
 unfold tmm
 split
 ·exact Sim.ret rfl
 ·exact Sim.fail
theorem a9P (T:TypeId->Option TI) (TU:TypeId->Option U) (b:Builtin) (o:Oper) (c:Call):Sim US (b1x T TU b o c) (a6g T b o c):=by
 unfold b1x a6g
 cases b <;> try exact Sim.fail
 case len=>
  simp only
  split
  ·rename_i x t hx ht
   rw [hx,ht]
   exact Sim.bind (B2 T t) fun i=>Sim.bind (A9 x) fun x=>Sim.bind (a9O i.k x) fun n=>B8 o.dst (c1 (.int .i64) (n:Int))
  ·exact Sim.fail
 case append=>
  simp only
  split
  ·rename_i x y t t' hx ht
   rw [hx,ht]
   refine Sim.bind (B2 T t) fun i=>?_
   simp only [id]
   cases i.k <;> try exact Sim.fail
   case slice e=>
    refine Sim.bind (B2 T e) fun ie=>Sim.bind (H9 o.dst) fun d=>?_
    cases TU e with
    | none=>exact Sim.fail
    | some u=>
     refine Sim.req (fun h=>?_) fun h=>?_
     ·simp only [Bool.and_eq_true] at h
      exact⟨Nat.eq_of_beq_eq_true h.1.1,of_decide_eq_true h.1.2⟩
     ·simp only [Bool.and_eq_true] at h
      refine Sim.bind (A9 x) fun x=>Sim.bind (A9 y) fun y=>?_
      split
      ·exact a7B d e u ie.size ie.bytes (Nat.eq_of_beq_eq_true h.2) _ _
      ·exact Sim.fail
  ·exact Sim.fail
 case delete=>
  simp only
  split
  ·rename_i x y t ts hx ht
   rw [hx,ht]
   refine Sim.bind (B2 T t) fun i=>?_
   simp only [id]
   cases i.k <;> try exact Sim.fail
   case map kt vt=>
    refine Sim.bind (B2 T kt) fun ik=>Sim.bind (B2 T vt) fun iv=>Sim.bind (A9 x) fun m=>Sim.bind (A9 y) fun k=>?_
    cases TU kt with
    | none=>exact Sim.fail
    | some K=>
     cases TU vt with
     | none=>exact Sim.fail
     | some V=>
      refine Sim.chk fun h=>?_
      simp only [Bool.and_eq_true] at h
      refine Sim.bind (a22 h.1 k) fun k=>Sim.bind (b1h h.1 h.2 k m) fun us=>Sim.ret ?_
      simp only [US,List.map_append]
      congr 1
      cases o.dst <;> rfl
  ·exact Sim.fail
 case max=>
  simp only
  split
  ·rename_i x y hx
   rw [hx]
   exact Sim.bind (A9 x) fun x=>Sim.bind (A9 y) fun y=>Sim.bind (b1y max x y) fun v=>B8 o.dst v
  ·exact Sim.fail
 case min=>
  simp only
  split
  ·rename_i x y hx
   rw [hx]
   exact Sim.bind (A9 x) fun x=>Sim.bind (A9 y) fun y=>Sim.bind (b1y min x y) fun v=>B8 o.dst v
  ·exact Sim.fail
def b1z:List (Nat × TFn)->Nat->Option TFn
 | [],_=>none
 | p :: l,j=>match Nat.beq j p.1 with
  | true=>some p.2
  | false=>b1z l j
def b7k:TV->TQ (Nat × List TV)
 | .o (.c (.fn f))=> .req true (.ret (f,[]))
 | .o (.c (.clo f u x))=> .ret (f,[.o (.c (.ep u x 0))])
 | _=> .fail
theorem b3n (x:TV):Sim (fun p:Nat × List TV=>(p.1,p.2.map TV.av)) (b7k x) (fnQ x.av):=by
 unfold b7k
 split
 ·exact Sim.req (fun _=>⟨rfl,rfl⟩) fun _=>Sim.ret rfl
 ·exact Sim.ret rfl
 ·exact Sim.fail
def b6n:TV->Nat
 | .o (.c .npt)=>1
 | .o (.c (.it t _ _))=>2 + t
 | _=>0
def a25:List TV->Nat
 | []=>0
 | v :: vs=>b6n v + 5000 * a25 vs
theorem a18:∀ (u:U) (x:u.den),∀ d ∈ u.enc x,a9A (.c (.d d))=0
 | .int _,_,d,h=>by cases h with | head=>rfl | tail _ h=>cases h
 | .byte,_,d,h=>by cases h with | head=>rfl | tail _ h=>cases h
 | .bool,_,d,h=>by cases h with | head=>rfl | tail _ h=>cases h
 | .str,_,d,h=>by cases h with | head=>rfl | tail _ h=>cases h
 | .sl _,_,d,h=>by cases h with | head=>rfl | tail _ h=>cases h
 | .pr a b,x,d,h=>by
  rcases List.mem_append.1 h with h | h
  ·exact a18 a x.1 d h
  ·exact a18 b x.2 d h
 | .arr _ u,v,d,h=>by
  obtain⟨y,_,hy⟩:=List.mem_flatMap.1 h
  exact a18 u y d hy
theorem b1A:∀ (l:List DV),(∀ d ∈ l,a9A (.c (.d d))=0)->a9A (.c (R9 (l.map .d)))=0
 | [],_=>rfl
 | [d],h=>h d (by simp)
 | _ :: _ :: _,_=>rfl
theorem b3o (x:TV):a9A x.av=b6n x:=by
 cases x with
 | o x=>
  cases x with
  | c x=>cases x <;> first | rfl | exact b1A _ (a18 _ _)
  | agg xs=>rfl
 | tup xs=>rfl
 | clo f id ver=>rfl
 | ent tup id pv K k=>rfl
 | nx b x y=>rfl
 | any=>rfl
theorem a4M:∀ (xs:List TV),a5o (xs.map TV.av)=a25 xs
 | []=>rfl
 | x :: xs=>by
  show a9A x.av + 5000 * a5o (xs.map TV.av)=_
  rw [b3o,a4M xs];rfl
def b1B (f1:FuncId) (o:Oper):List TV->TQ (List P2)
 | [.o (.c (.row id ver))]=>(TQ.ofOpt o.dst).bind fun d=> .rdR id fun r=>match r.c with
  | some R=> .req (Nat.beq ver r.ver && Nat.ble Q5 R.e && !(Nat.beq R.e a0H) && !(b3e R.e)) (.rdB d fun b=> .ret [.b d ⟨b.ver + 1,some [.row id ver]⟩,.t d ⟨true,.clo f1 d (b.ver + 1)⟩])
  | none=> .fail
 | _=> .fail
theorem a9Q (f1:FuncId) (o:Oper) (xs:List TV):Sim US (b1B f1 o xs) (b4D f1 o (xs.map TV.av)):=by
 unfold b1B
 split
 ·refine Sim.bind (H9 o.dst) fun d=>Sim.rdR fun r=>?_
  obtain⟨rv,c⟩:=r
  cases c with
  | none=>exact Sim.fail
  | some R=>exact Sim.req (fun h=>by simp only [Bool.and_eq_true] at h;exact⟨Nat.eq_of_beq_eq_true h.1.1.1,Nat.le_of_ble_eq_true h.1.1.2,b1i h.1.2,a8A h.2⟩) fun _=>Sim.rdB fun b=>Sim.ret rfl
 ·exact Sim.fail
def a4i (x y:Int):Bool:=decide (x<=y)
def a4j (x y:List UInt8):Bool:=decide (x<=y)
def b5C {α:Type} (le:α->α->Bool) (x:α):List α->List α
 | []=>[x]
 | y :: l=>match le x y with
  | true=>x :: y :: l
  | false=>y :: b5C le x l
def a9R {α:Type} (le:α->α->Bool):List α->List α
 | []=>[]
 | x :: l=>b5C le x (a9R le l)
theorem a3Q {α:Type} (le:α->α->Bool) (x:α):∀ l:List α,(b5C le x l).Perm (x :: l)
 | []=>List.Perm.refl _
 | y :: l=>by
  unfold b5C
  split
  ·exact List.Perm.refl _
  ·exact((a3Q le x l).cons y).trans (List.Perm.swap x y l)
theorem a4N {α:Type} (le:α->α->Bool):∀ l:List α,(a9R le l).Perm l
 | []=>List.Perm.refl _
 | x :: l=>(a3Q le x _).trans ((a4N le l).cons x)
theorem a3R {α:Type} {le:α->α->Bool} (tr:∀ a b c,le a b=true->le b c=true->le a c=true) (to:∀ a b,(le a b || le b a)=true) (x:α):∀ l:List α,l.Pairwise (fun a b=>le a b=true)->(b5C le x l).Pairwise (fun a b=>le a b=true)
 | [],_=>List.pairwise_singleton _ _
 | y :: l,h=>by
  rw [List.pairwise_cons] at h
  unfold b5C
  split
  ·rename_i hxy
   refine List.pairwise_cons.2 ⟨fun z hz=>?_,List.pairwise_cons.2 h⟩
   rcases List.mem_cons.1 hz with rfl | hz
   ·exact hxy
   ·exact tr _ _ _ hxy (h.1 z hz)
  ·rename_i hxy
   have hyx:le y x=true:=by have:=to x y;rw [hxy] at this;simpa using this
   refine List.pairwise_cons.2 ⟨fun z hz=>?_,a3R tr to x l h.2⟩
   rcases List.mem_cons.1 ((a3Q le x l).mem_iff.1 hz) with rfl | hz
   ·exact hyx
   ·exact h.1 z hz
theorem a2H {α:Type} {le:α->α->Bool} (tr:∀ a b c,le a b=true->le b c=true->le a c=true) (to:∀ a b,(le a b || le b a)=true):∀ l:List α,(a9R le l).Pairwise (fun a b=>le a b=true)
 | []=>List.Pairwise.nil
 | x :: l=>a3R tr to x _ (a2H tr to l)
theorem a0u {α:Type} {le:α->α->Bool} (tr:∀ a b c,le a b=true->le b c=true->le a c=true) (to:∀ a b,(le a b || le b a)=true) (an:∀ a b,le a b=true->le b a=true->a=b) {l l':List α} (h:l'.Pairwise (fun a b=>le a b=true)) (hp:l.Perm l'):a9R le l=l':=
 List.Perm.eq_of_pairwise (le:=fun a b=>le a b=true) (fun a b _ _ h1 h2=>an a b h1 h2) (a2H tr to l) h ((a4N le l).trans hp)
def a5F (l:List Int):List Int:=a9R a4i l
def W4 (l:List (List UInt8)):List (List UInt8):=a9R a4j l
theorem a8K (a b c:Int) (h1:a4i a b=true) (h2:a4i b c=true):a4i a c=true:=decide_eq_true (Int.le_trans (of_decide_eq_true h1) (of_decide_eq_true h2))
theorem a8L (a b:Int):(a4i a b || a4i b a)=true:=by simp only [a4i,Bool.or_eq_true,decide_eq_true_eq];exact Int.le_total a b
theorem b3p (a b:Int) (h1:a4i a b=true) (h2:a4i b a=true):a=b:=Int.le_antisymm (of_decide_eq_true h1) (of_decide_eq_true h2)
theorem a5G (a b c:List UInt8) (h1:a4j a b=true) (h2:a4j b c=true):a4j a c=true:=decide_eq_true (List.le_trans (of_decide_eq_true h1) (of_decide_eq_true h2))
theorem a5H (a b:List UInt8):(a4j a b || a4j b a)=true:=by simp only [a4j,Bool.or_eq_true,decide_eq_true_eq];exact List.le_total a b
theorem a8M (a b:List UInt8) (h1:a4j a b=true) (h2:a4j b a=true):a=b:=List.le_antisymm (of_decide_eq_true h1) (of_decide_eq_true h2)
theorem a7D (l:List Int):l.mergeSort (fun x y=>decide (x<=y))=a5F l:=by
 refine(a0u a8K a8L b3p (List.pairwise_mergeSort a8K a8L l) ?_).symm
 exact(List.mergeSort_perm l a4i).symm
theorem a3S (l:List (List UInt8)):l.mergeSort (fun x y=>decide (x<=y))=W4 l:=by
 refine(a0u a5G a5H a8M (List.pairwise_mergeSort a5G a5H l) ?_).symm
 exact(List.mergeSort_perm l a4j).symm
def a5I (l:List Int):Bool:=decide (l.Nodup/\(∀ x ∈ l,-9223372036854775808<=x/\x<=9223372036854775807)/\l.length * 8<=LIM)
def a0v (l:List (List UInt8)):Bool:=decide (l.Nodup/\(∀ x ∈ l,x.length<=4611686018427387904)/\l.length * 16<=LIM)
def b6o (K:U):(u:U)->List u.den->Option (List K.den)
 | .pr K' _,l=>match decEq K' K with
  | .isTrue h=>some (List.map (fun p=>a0q h p.1) l)
  | .isFalse _=>none
 | _,_=>none
def a8N (K:U) (f1:FuncId) (e:TypeId) (good:List K.den->Bool) (srt:List K.den->List K.den) (o:Oper):List TV->TQ (List P2)
 | [.clo f id ver]=>(TQ.ofOpt o.dst).bind fun d=> .rdB id fun b=>match b.c with
  | some [.row rid rver]=> .rdR rid fun r=>match r.c with
   | some R=>match b6o K R.u R.l with
    | some ks=> .req (Nat.beq f f1 && Nat.beq ver b.ver && Nat.beq rver r.ver && (Nat.beq R.e (mE true) || Nat.beq R.e (mE false)) && decide (e < Q5)) (.req (good ks) (.rdR d fun rd=> .ret [.r d ⟨rd.ver + 1,some ⟨K,srt ks,e,false⟩⟩,.t d ⟨true,.o (.c (.row d (rd.ver + 1)))⟩]))
    | none=> .fail
   | none=> .fail
  | _=> .fail
 | _=> .fail
theorem a4O {K:U} (hK:K.size=1) {f1:FuncId} {e:TypeId} {good:List K.den->Bool} {srt:List K.den->List K.den} {goodA:List (List DV)->Prop} {srtA:List (List DV)->List (List DV)}
  (h1:∀ (V:U) (l:List (K.den × V.den)),good (l.map (·.1))=true->goodA (l.map (U.pr K V).enc)) (h2:∀ (V:U) (l:List (K.den × V.den)),srtA (l.map (U.pr K V).enc)=(srt (l.map (·.1))).map K.enc) (o:Oper) (xs:List TV) :
  Sim US (a8N K f1 e good srt o xs) (b0O f1 e goodA srtA o (xs.map TV.av)):=by
 unfold a8N
 split
 ·rename_i f id ver
  refine Sim.bind (H9 o.dst) fun d=>Sim.rdB fun b=>?_
  obtain⟨bv,c⟩:=b
  simp only
  split
  ·rename_i rid rver
   refine Sim.rdR fun r=>?_
   obtain⟨rv,c⟩:=r
   cases c with
   | none=>exact Sim.fail
   | some R=>
    obtain⟨ru,rl,re,rf⟩:=R
    simp only
    cases ru with
    | pr K' V=>
     unfold b6o
     simp only
     split
     ·rename_i ks hks
      split at hks
      ·rename_i hk _
       subst hk
       injection hks with hks
       have hks:ks=List.map (fun p=>p.1) rl:=hks.symm
       subst hks
       refine Sim.chk fun hc=>Sim.req (fun hg=>?_) fun _=>Sim.rdR fun rd=>Sim.ret ?_
       ·simp only [Bool.and_eq_true,Bool.or_eq_true] at hc
        obtain⟨⟨⟨⟨c1,c2⟩,c3⟩,c4⟩,c5⟩:=hc
        have hE:∃ b,re=mE b:=by
         rcases c4 with c4 | c4
         ·exact⟨_,Nat.eq_of_beq_eq_true c4⟩
         ·exact⟨_,Nat.eq_of_beq_eq_true c4⟩
        obtain⟨b0,rfl⟩:=hE
        obtain⟨m1,m2,_,m4,m5⟩:=U1 b0
        exact⟨Nat.eq_of_beq_eq_true c1,Nat.eq_of_beq_eq_true c2,Nat.eq_of_beq_eq_true c3,m4,m5,m1,m2,of_decide_eq_true c5,h1 V rl hg⟩
       ·show [Upd.r d ⟨rd.ver + 1,some ⟨srtA (rl.map (U.pr K' V).enc),1,e,false⟩⟩,_]=_
        rw [h2 V rl,<-hK]
        rfl
      ·cases hks
     ·exact Sim.fail
    | _=>exact Sim.fail
  ·exact Sim.fail
 ·exact Sim.fail
theorem a8O {α β γ:Type} {f:α->β} {g:β->γ} {h:α->γ} (e:∀ x,g (f x)=h x) (l:List α):(l.map f).map g=l.map h:=by
 rw [List.map_map];exact List.map_congr_left fun x _=>e x
theorem a5J {α β:Type} (f:α->β) (l:List α):(l.map f).length=l.length:=List.length_map f
theorem a09 {a b c k:Nat} (h:a=b) (h2:b * k<=c):a * k<=c:=h ▸ h2
theorem a7E {n:Nat} (h:n * 8<=LIM):n<=maxLen:=by unfold LIM at h;simp only [maxLen];omega
theorem a6t {n:Nat} (h:n * 16<=LIM):n<=maxLen:=by unfold LIM at h;simp only [maxLen];omega
theorem a2I {α:Type} (f:α->Int) (l:List α) (h:a5I (l.map f)=true):l.length * 8<=LIM:=by
 have:=(of_decide_eq_true h).2.2
 rwa [List.length_map] at this
theorem a2J {α:Type} (f:α->List UInt8) (l:List α) (h:a0v (l.map f)=true):l.length * 16<=LIM:=by
 have:=(of_decide_eq_true h).2.2
 rwa [List.length_map] at this
theorem b6p (V:U) (l:List ((U.int .i64).den × V.den)) (h:a5I (l.map (·.1))=true):b6b (l.map (U.pr (.int .i64) V).enc):=by
 obtain⟨a1,a2,_⟩:=of_decide_eq_true h
 have e:(l.map (U.pr (.int .i64) V).enc).map b3W=l.map (·.1):=a8O (f:=(U.pr (.int .i64) V).enc) (fun _=>rfl) l
 refine⟨fun c hc=>?_,?_,?_,?_,?_⟩
 ·obtain⟨p,_,rfl⟩:=List.mem_map.1 hc;exact⟨p.1,V.enc p.2,rfl⟩
 ·rw [e];exact a1
 ·rw [e]
  intro x hx
  have:=a2 x hx
  have h2:IntKind.i64.min<=x/\x<=IntKind.i64.max:=this
  simpa [Lit.wf] using h2
 ·exact a7E (a09 (a5J (U.pr (.int .i64) V).enc l) (a2I (α:=(U.pr (.int .i64) V).den) (fun p=>p.1) l h))
 ·exact a09 (a5J (U.pr (.int .i64) V).enc l) (a2I (α:=(U.pr (.int .i64) V).den) (fun p=>p.1) l h)
theorem b6q (V:U) (l:List (U.str.den × V.den)) (h:a0v (l.map (·.1))=true):b6c (l.map (U.pr .str V).enc):=by
 obtain⟨a1,a2,_⟩:=of_decide_eq_true h
 have e:(l.map (U.pr .str V).enc).map b3X=l.map (·.1):=a8O (f:=(U.pr .str V).enc) (fun _=>rfl) l
 refine⟨fun c hc=>?_,?_,?_,?_,?_⟩
 ·obtain⟨p,_,rfl⟩:=List.mem_map.1 hc;exact⟨p.1,V.enc p.2,rfl⟩
 ·rw [e];exact a1
 ·rw [e]
  intro x hx
  exact Nat.le_trans (a2 x hx) (by simp only [maxLen];omega)
 ·exact a6t (a09 (a5J (U.pr .str V).enc l) (a2J (α:=(U.pr .str V).den) (fun p=>p.1) l h))
 ·exact a09 (a5J (U.pr .str V).enc l) (a2J (α:=(U.pr .str V).den) (fun p=>p.1) l h)
theorem b6r (V:U) (l:List ((U.int .i64).den × V.den)):sortI (l.map (U.pr (.int .i64) V).enc)=(a5F (l.map (·.1))).map (U.int .i64).enc:=by
 have e:(l.map (U.pr (.int .i64) V).enc).map b3W=l.map (·.1):=a8O (f:=(U.pr (.int .i64) V).enc) (fun _=>rfl) l
 unfold sortI
 rw [e]
 exact congrArg (List.map fun x:Int=>[DV.v (.int .i64 x)]) (a7D (l.map fun p=>p.1))
theorem b6s (V:U) (l:List (U.str.den × V.den)):sortS (l.map (U.pr .str V).enc)=(W4 (l.map (·.1))).map U.str.enc:=by
 have e:(l.map (U.pr .str V).enc).map b3X=l.map (·.1):=a8O (f:=(U.pr .str V).enc) (fun _=>rfl) l
 unfold sortS
 rw [e]
 exact congrArg (List.map fun x:List UInt8=>[DV.v (a4f x)]) (a3S (l.map fun p=>p.1))
def b7l (sp:Sp) (o:Oper) (c:Call):TQ (List P2):=(b6g c.args.toList).bind fun xs=>match sp with
 | .none=> .fail
 | .keys f1=>b1B f1 o xs
 | .sortI f1 e=>a8N (.int .i64) f1 e a5I a5F o xs
 | .sortS f1 e=>a8N .str f1 e a0v W4 o xs
theorem a5K (sp:Sp) (o:Oper) (c:Call):Sim US (b7l sp o c) (spQ sp o c):=by
 refine Sim.bind (a20 _) fun xs=>?_
 cases sp with
 | none=>exact Sim.fail
 | keys f1=>exact a9Q f1 o xs
 | sortI f1 e=>exact a4O rfl b6p b6r o xs
 | sortS f1 e=>exact a4O rfl b6q b6s o xs
def a6u (T:TypeId->Option TI) (TU:TypeId->Option U) (Γ:List (Nat × TFn)) (o:Oper) (c:Call):TQ (List P2):=match c.callee with
 | .value x=>(tev x).bind fun v=>(b7k v).bind fun f=>(b6g c.args.toList).bind fun xs=> .req (Nat.blt f.1 1000000) (match b1z Γ (f.1 + a25 xs * 1000000) with
  | some S=>match S.sp with
   | .none=> .req (S.args.ok && S.res.ok) (b40 S o c f.2)
   | sp=>match f.2 with
    | []=>b7l sp o c
    | _=> .fail
  | none=> .fail)
 | .builtin b=>b1x T TU b o c
 | _=> .fail
def b3q (Γ:List (Nat × TFn)):List (Nat × a1e):=Γ.map fun p=>(p.1,p.2.spec)
theorem a4P:∀ (Γ:List (Nat × TFn)) (f:Nat),N3 (b3q Γ) f=(b1z Γ f).map TFn.spec
 | [],_=>rfl
 | p :: Γ,f=>by
  show(if f=p.1 then some p.2.spec else N3 (b3q Γ) f)=(match Nat.beq f p.1 with | true=>some p.2 | false=>b1z Γ f).map TFn.spec
  cases hb:Nat.beq f p.1 with
  | true=>rw [if_pos (Nat.eq_of_beq_eq_true hb)];rfl
  | false=>rw [if_neg (fun e=>by rw [e,Nat.beq_refl] at hb;cases hb),a4P Γ f]
theorem a9S (T:TypeId->Option TI) (TU:TypeId->Option U) (Γ:List (Nat × TFn)) (o:Oper) (c:Call):Sim US (a6u T TU Γ o c) (a8m T (b3q Γ) o c):=by
 unfold a6u a8m
 split
 ·rename_i x hc
  rw [hc]
  simp only
  refine Sim.bind (A9 x) fun v=>Sim.bind (b3n v) fun f=>Sim.bind (a20 _) fun xs=>?_
  simp only [id]
  rw [a4P,a4M]
  refine Sim.req (fun h=>Nat.le_of_ble_eq_true h) fun _=>?_
  cases b1z Γ (f.1 + a25 xs * 1000000) with
  | none=>exact Sim.fail
  | some S=>
   show Sim US (match S.sp with | .none=> .req (S.args.ok && S.res.ok) (b40 S o c f.2) | sp=>match f.2 with | []=>b7l sp o c | _=> .fail) (match S.sp with | .none=>b0K S.spec o c (f.2.map TV.av) | sp=>match f.2.map TV.av with | []=>spQ sp o c | _=> .fail)
   obtain⟨f0,ex⟩:=f
   cases S.sp with
   | none=>
    refine Sim.chk fun h=>?_
    rw [Bool.and_eq_true] at h
    exact b1w S h.1 h.2 o c ex
   | keys f1=>cases ex <;> first | exact a5K _ o c | exact Sim.fail
   | sortI f1 e=>cases ex <;> first | exact a5K _ o c | exact Sim.fail
   | sortS f1 e=>cases ex <;> first | exact a5K _ o c | exact Sim.fail
 ·rename_i b hc
  rw [hc]
  exact a9P T TU b o c
 ·exact Sim.fail
end Go.Proofs.Ythadhfbkhldblaa.Am
namespace Go.Proofs.Ythadhfbkhldblaa.Am
open Go
inductive Sh where
 | d (u:U)
 | nil
 | fn (f:FuncId)
 | npt
 | clo (f:FuncId) (u:U)
 | e (u:U)
 | row (j:Nat)
 | ptr (j off:Nat)
inductive SSh where
 | one (s:Sh)
 | agg (ss:List Sh)
def SSh.list:SSh->List Sh
 | .one s=>[s]
 | .agg ss=>ss
def a1G:List Sh->Type
 | []=>Unit
 | .d u :: r=>u.den × a1G r
 | .clo _ u :: r=>u.den × a1G r
 | .e u :: r=>u.den × a1G r
 | _ :: r=>a1G r
def Q8:(ss:List Sh)->a1G ss->List TC
 | [],_=>[]
 | .d u :: r,x=> .ch u x.1 :: Q8 r x.2
 | .nil :: r,x=> .nil :: Q8 r x
 | .fn f :: r,x=> .fn f :: Q8 r x
 | .npt :: r,x=> .npt :: Q8 r x
 | .clo f u :: r,x=> .clo f u x.1 :: Q8 r x.2
 | .e u :: r,x=> .ep u x.1 0 :: Q8 r x.2
 | .row j :: r,x=> .row j 0 :: Q8 r x
 | .ptr j off :: r,x=> .ptr j 0 off :: Q8 r x
def shr:Nat->Nat->List TC->List TC
 | 0,_,ps=>ps
 | f + 1,z,ps=>match a3B ps with
  | some c=>match Nat.blt z c.1.1.size with
   | true=>shr f z (a0T c.1.1 c.1.2 ++ c.2)
   | false=>ps
  | none=>ps
theorem a3T:∀ {f z:Nat} {ps:List TC},o7 (shr f z ps)=o7 ps
 | 0,_,_=>rfl
 | f + 1,z,ps=>by
  unfold shr
  split
  ·rename_i c hc
   split
   ·rw [a3T,P1,V9,a2o hc];rfl
   ·rfl
  ·rfl
def a7F (u:U):List TC->Option (u.den × List TC)
 | .ch v x :: rest=>match decEq v u with
  | .isTrue h=>some (a0q h x,rest)
  | .isFalse _=>none
 | _=>none
def b41 (u:U):List TC->Option (List u.den × List TC)
 | .ch (.sl v) x :: rest=>match decEq v u with
  | .isTrue h=>some ((h ▸ x:List u.den),rest)
  | .isFalse _=>none
 | .nil :: rest=>some ([],rest)
 | _=>none
def b42 {α:Type} (p:List TC->Option (α × List TC)):(n:Nat)->List TC->Option (Vector α n × List TC)
 | 0,ps=>some (#v[],ps)
 | n + 1,ps=>(b42 p n ps).bind fun a=>(p a.2).map fun b=>(a.1.push b.1,b.2)
def a3U:(u:U)->List TC->Option (u.den × List TC)
 | .sl u,ps=>b41 u ps
 | .pr a b,ps=>match a3B (shr FU (U.pr a b).size ps) with
  | some c=>match decEq c.1.1 (.pr a b) with
   | .isTrue h=>some (a0q h c.1.2,c.2)
   | .isFalse _=>(a3U a ps).bind fun p=>(a3U b p.2).map fun q=>((p.1,q.1),q.2)
  | none=>(a3U a ps).bind fun p=>(a3U b p.2).map fun q=>((p.1,q.1),q.2)
 | .arr n u,ps=>match a7F (.arr n u) (shr FU (U.arr n u).size ps) with
  | some q=>some q
  | none=>b42 (a3U u) n ps
 | .int k,ps=>a7F (.int k) (shr FU 1 ps)
 | .byte,ps=>a7F .byte (shr FU 1 ps)
 | .bool,ps=>a7F .bool (shr FU 1 ps)
 | .str,ps=>a7F .str (shr FU 1 ps)
def DLe (xs ys:List AC):Prop:=∀ s b r,a2O s b r xs ys
theorem a3V {s:St} {b:List (Nat × Nat × List AC)} {r:List (Nat × Option Nat × Row)}:∀ {xs ys us vs:List AC},a2O s b r xs ys->a2O s b r us vs->a2O s b r (xs ++ us) (ys ++ vs)
 | [],[],_,_,_,h=>h
 | _x :: _xs,_y :: _ys,_,_,h,k=>⟨h.1,a3V h.2 k⟩
theorem DLe.app {xs ys us vs:List AC} (h:DLe xs ys) (k:DLe us vs):DLe (xs ++ us) (ys ++ vs):=fun s b r=>a3V (h s b r) (k s b r)
theorem DLe.refl:∀ (ds:List DV),DLe (ds.map .d) (ds.map .d)
 | []=>fun _ _ _=>trivial
 | _d :: ds=>fun s b r=>⟨rfl,DLe.refl ds s b r⟩
theorem a19 {u:U} {ps:List TC} {p:u.den × List TC} (h:a7F u ps=some p):∃ pre,o7 ps=pre ++ o7 p.2/\DLe pre ((u.enc p.1).map .d):=by
 unfold a7F at h
 split at h
 ·split at h
  ·rename_i e _
   injection h with h
   subst h
   refine⟨_,rfl,?_⟩
   rw [a02]
   exact DLe.refl _
  ·cases h
 ·cases h
theorem b3r {u:U} {ps:List TC} {p:List u.den × List TC} (h:b41 u ps=some p):∃ pre,o7 ps=pre ++ o7 p.2/\DLe pre [.d (.sl (p.1.map u.enc))]:=by
 unfold b41 at h
 split at h
 ·split at h
  ·rename_i e _
   subst e
   injection h with h
   subst h
   exact⟨_,rfl,fun s b r=>⟨rfl,trivial⟩⟩
  ·cases h
 ·injection h with h
  subst h
  exact⟨[.nil],rfl,fun s b r=>⟨rfl,trivial⟩⟩
 ·cases h
theorem a8P {α:Type} {f:α->List DV} {p:List TC->Option (α × List TC)} (hp:∀ {ps q},p ps=some q->∃ pre,o7 ps=pre ++ o7 q.2/\DLe pre ((f q.1).map .d)):∀ (n:Nat) {ps:List TC} {q:Vector α n × List TC},b42 p n ps=some q->∃ pre,o7 ps=pre ++ o7 q.2/\DLe pre ((q.1.toList.flatMap f).map .d)
 | 0,ps,q,h=>by
  injection h with h;subst h
  exact⟨[],rfl,fun _ _ _=>trivial⟩
 | n + 1,ps,q,h=>by
  obtain⟨a,h1,h2⟩:=Option.bind_eq_some_iff.1 h
  obtain⟨b,h3,rfl⟩:=Option.map_eq_some_iff.1 h2
  obtain⟨pre1,e1,d1⟩:=a8P hp n h1
  obtain⟨pre2,e2,d2⟩:=hp h3
  refine⟨pre1 ++ pre2,by rw [e1,e2,List.append_assoc],?_⟩
  simp only [Vector.toList_push,List.flatMap_append,List.flatMap_cons,List.flatMap_nil,List.append_nil,List.map_append]
  exact d1.app d2
theorem a3a:∀ {u:U} {ps:List TC} {p:u.den × List TC},a3U u ps=some p->∃ pre,o7 ps=pre ++ o7 p.2/\DLe pre ((u.enc p.1).map .d)
 | .sl u,ps,p,h=>b3r h
 | .arr n u,ps,p,h=>by
  unfold a3U at h
  split at h
  ·rename_i q hq
   injection h with h;subst h
   rw [<-a3T (f:=FU) (z:=(U.arr n u).size)];exact a19 hq
  ·exact a8P a3a n h
 | .int k,ps,p,h=>by rw [<-a3T (f:=FU) (z:=1)];exact a19 h
 | .byte,ps,p,h=>by rw [<-a3T (f:=FU) (z:=1)];exact a19 h
 | .bool,ps,p,h=>by rw [<-a3T (f:=FU) (z:=1)];exact a19 h
 | .str,ps,p,h=>by rw [<-a3T (f:=FU) (z:=1)];exact a19 h
 | .pr a b,ps,p,h=>by
  have two:((a3U a ps).bind fun p=>(a3U b p.2).map fun q=>(((p.1,q.1),q.2):(a.den × b.den) × List TC))=some p->∃ pre,o7 ps=pre ++ o7 p.2/\DLe pre (((U.pr a b).enc p.1).map .d):=fun h=>by
   obtain⟨q,h1,h2⟩:=Option.bind_eq_some_iff.1 h
   obtain⟨q2,h3,rfl⟩:=Option.map_eq_some_iff.1 h2
   obtain⟨pre1,e1,d1⟩:=a3a h1
   obtain⟨pre2,e2,d2⟩:=a3a h3
   refine⟨pre1 ++ pre2,by rw [e1,e2,List.append_assoc],?_⟩
   show DLe _ ((a.enc q.1 ++ b.enc q2.1).map .d)
   rw [List.map_append]
   exact d1.app d2
  unfold a3U at h
  split at h
  ·rename_i c hc
   split at h
   ·rename_i e _
    injection h with h
    subst h
    have:=congrArg o7 (a2o hc)
    rw [a3T] at this
    refine⟨_,this,?_⟩
    rw [a02]
    exact DLe.refl _
   ·exact two h
  ·exact two h
structure Rd (α:Type) where
 x:α
 rr:List (Nat × Option Nat)
 br:List (Nat × Nat)
def fit:(ss:List Sh)->TSt->List TC->Option (Rd (a1G ss))
 | [],_,ps=>match ps with
  | []=>some ⟨(),[],[]⟩
  | _=>none
 | .d u :: r,s,ps=>(a3U u ps).bind fun p=>(fit r s p.2).map fun q=>⟨(p.1,q.x),q.rr,q.br⟩
 | .fn f :: r,s,ps=>match ps with
  | .fn g :: rest=>match decEq g f with
   | .isTrue _=>fit r s rest
   | .isFalse _=>none
  | _=>none
 | .npt :: r,s,ps=>match ps with
  | .npt :: rest=>fit r s rest
  | _=>none
 | .clo f u :: r,s,ps=>match ps with
  | .clo g v x :: rest=>match decEq g f with
   | .isTrue _=>match decEq v u with
    | .isTrue h=>(fit r s rest).map fun q=>⟨(a0q h x,q.x),q.rr,q.br⟩
    | .isFalse _=>none
   | .isFalse _=>none
  | _=>none
 | .e u :: r,s,ps=>match ps with
  | .ep v x off :: rest=>match decEq v u with
   | .isTrue h=>match Nat.beq off 0 with
    | true=>(fit r s rest).map fun q=>⟨(a0q h x,q.x),q.rr,q.br⟩
    | false=>none
   | .isFalse _=>none
  | _=>none
 | .nil :: r,s,ps=>match ps with
  | .nil :: rest=>fit r s rest
  | _=>none
 | .row j :: r,s,ps=>match ps with
  | .nil :: rest=>(fit r s rest).map fun q=>⟨q.x,(j,none) :: q.rr,q.br⟩
  | .row id ver :: rest=>match Nat.beq ver (s.r id).ver with
   | true=>(fit r s rest).map fun q=>⟨q.x,(j,some id) :: q.rr,q.br⟩
   | false=>none
  | _=>none
 | .ptr j off :: r,s,ps=>match ps with
  | .ptr id ver off' :: rest=>match Nat.beq ver (s.b id).ver && Nat.beq off' off with
   | true=>(fit r s rest).map fun q=>⟨q.x,q.rr,(j,id) :: q.br⟩
   | false=>none
  | _=>none
def a1H (b:List (Nat × Nat × List AC)) (r:List (Nat × Option Nat × Row)) (rr:List (Nat × Option Nat)) (br:List (Nat × Nat)):Prop:=
 (∀ p ∈ rr,(N3 r p.1).map (·.1)=some p.2)/\(∀ p ∈ br,(N3 b p.1).map (·.1)=some p.2)
theorem a1H.rr_tail {b:List (Nat × Nat × List AC)} {r:List (Nat × Option Nat × Row)} {p:Nat × Option Nat} {rr:List (Nat × Option Nat)} {br:List (Nat × Nat)} (h:a1H b r (p :: rr) br):(N3 r p.1).map (·.1)=some p.2/\a1H b r rr br:=
 ⟨h.1 p (by simp),fun q hq=>h.1 q (by simp [hq]),h.2⟩
theorem a1H.br_tail {b:List (Nat × Nat × List AC)} {r:List (Nat × Option Nat × Row)} {p:Nat × Nat} {rr:List (Nat × Option Nat)} {br:List (Nat × Nat)} (h:a1H b r rr (p :: br)):(N3 b p.1).map (·.1)=some p.2/\a1H b r rr br:=
 ⟨h.2 p (by simp),h.1,fun q hq=>h.2 q (by simp [hq])⟩
theorem a0G {b:List (Nat × Nat × List AC)} {r:List (Nat × Option Nat × Row)} {s:TSt}:∀ {ss:List Sh} {ps:List TC} {q:Rd (a1G ss)},fit ss s ps=some q->a1H b r q.rr q.br->a2O s.st b r (o7 ps) (o7 (Q8 ss q.x))
 | [],[],q,h,_=>trivial
 | [],_ :: _,q,h,_=>by cases h
 | .d u :: ss,ps,q,h,hr=>by
  obtain⟨p,h1,h2⟩:=Option.bind_eq_some_iff.1 h
  obtain⟨q2,h3,rfl⟩:=Option.map_eq_some_iff.1 h2
  obtain⟨pre,e,d⟩:=a3a h1
  rw [e]
  exact a3V (d _ _ _) (a0G (q:=q2) h3 hr)
 | .fn f :: ss,ps,q,h,hr=>by
  unfold fit at h
  split at h
  ·split at h
   ·rename_i e _;subst e
    exact⟨rfl,a0G (ss:=ss) (q:=q) h hr⟩
   ·cases h
  ·cases h
 | .clo f u :: ss,ps,q,h,hr=>by
  unfold fit at h
  split at h
  ·split at h
   ·rename_i e1 _;subst e1
    split at h
    ·rename_i e2 _;subst e2
     obtain⟨q2,h2,rfl⟩:=Option.map_eq_some_iff.1 h
     exact⟨rfl,a0G (ss:=ss) (q:=q2) h2 hr⟩
    ·cases h
   ·cases h
  ·cases h
 | .e u :: ss,ps,q,h,hr=>by
  unfold fit at h
  split at h
  ·split at h
   ·rename_i e2 _;subst e2
    split at h
    ·rename_i h0
     obtain⟨q2,h2,rfl⟩:=Option.map_eq_some_iff.1 h
     rw [Nat.eq_of_beq_eq_true h0]
     exact⟨rfl,a0G (ss:=ss) (q:=q2) h2 hr⟩
    ·cases h
   ·cases h
  ·cases h
 | .npt :: ss,ps,q,h,hr=>by
  match ps,h with
  | .npt :: rest,h=>exact⟨rfl,a0G (ss:=ss) (q:=q) h hr⟩
 | .nil :: ss,ps,q,h,hr=>by
  match ps,h with
  | .nil :: rest,h=>exact⟨trivial,a0G (ss:=ss) (q:=q) h hr⟩
 | .row j :: ss,ps,q,h,hr=>by
  unfold fit at h
  split at h
  ·obtain⟨q2,h2,rfl⟩:=Option.map_eq_some_iff.1 h
   obtain⟨a1,a2⟩:=hr.rr_tail
   exact⟨⟨rfl,a1⟩,a0G (ss:=ss) (q:=q2) h2 a2⟩
  ·rename_i id ver rest
   split at h
   ·rename_i hv
    obtain⟨q2,h2,rfl⟩:=Option.map_eq_some_iff.1 h
    obtain⟨a1,a2⟩:=hr.rr_tail
    exact⟨⟨Nat.eq_of_beq_eq_true hv,rfl,a1⟩,a0G (ss:=ss) (q:=q2) h2 a2⟩
   ·cases h
  ·cases h
 | .ptr j off :: ss,ps,q,h,hr=>by
  unfold fit at h
  split at h
  ·rename_i id ver off' rest
   split at h
   ·rename_i hv
    rw [Bool.and_eq_true] at hv
    obtain⟨q2,h2,rfl⟩:=Option.map_eq_some_iff.1 h
    obtain⟨a1,a2⟩:=hr.br_tail
    exact⟨⟨Nat.eq_of_beq_eq_true hv.1,rfl,Nat.eq_of_beq_eq_true hv.2,a1⟩,a0G (ss:=ss) (q:=q2) h2 a2⟩
   ·cases h
  ·cases h
structure Lay where
 n:Nat
 t:List (Nat × SSh)
 b:List (Nat × List Sh)
 r:List (Nat × U × TypeId × Bool)
def b3s:List (Nat × SSh)->Type
 | []=>Unit
 | p :: r=>a1G p.2.list × b3s r
def b4c:List (Nat × List Sh)->Type
 | []=>Unit
 | p :: r=>a1G p.2 × b4c r
def b4d:List (Nat × U × TypeId × Bool)->Type
 | []=>Unit
 | p :: r=>List p.2.1.den × b4d r
def Lay.den (L:Lay):Type:=b3s L.t × b4c L.b × b4d L.r
def b7m:(p:SSh)->a1G p.list->TV
 | .one s,x=>match Q8 [s] x with
  | [c]=> .o (.c c)
  | _=> .any
 | .agg ss,x=> .o (.agg (Q8 ss x))
def b43:(l:List (Nat × SSh))->b3s l->List (Nat × TV)
 | [],_=>[]
 | p :: r,x=>(p.1,b7m p.2 x.1) :: b43 r x.2
def b3t:(l:List (Nat × List Sh))->b4c l->List (Nat × List TC)
 | [],_=>[]
 | p :: r,x=>(p.1,Q8 p.2 x.1) :: b3t r x.2
def b1C:(l:List (Nat × U × TypeId × Bool))->b4d l->List (Nat × a2P)
 | [],_=>[]
 | p :: r,x=>(p.1,⟨p.2.1,x.1,p.2.2.1,p.2.2.2⟩) :: b1C r x.2
def Lay.st (L:Lay) (x:L.den):TSt:=⟨L.n,fun k=>⟨decide (k < L.n),(N3 (b43 L.t x.1) k).getD .any⟩,fun k=>⟨0,N3 (b3t L.b x.2.1) k⟩,fun k=>⟨0,N3 (b1C L.r x.2.2) k⟩⟩
def b44:(p:SSh)->TSt->TV->Option (Rd (a1G p.list))
 | .one s',s,v=>match v with
  | .o (.c c)=>match is1 c with
   | true=>fit [s'] s [c]
   | false=>none
  | _=>none
 | .agg ss,s,v=>match v with
  | .o (.agg ps)=>fit ss s ps
  | _=>none
theorem b3u {b:List (Nat × Nat × List AC)} {r:List (Nat × Option Nat × Row)} {s:TSt} {p:SSh} {v:TV} {q:Rd (a1G p.list)} (h:b44 p s v=some q) (hr:a1H b r q.rr q.br):b5Z s.st b r v.av (b7m p q.x).av:=by
 cases p with
 | one s'=>
  unfold b44 at h
  simp only at h
  split at h
  ·rename_i c
   split at h
   ·rename_i hc
    have h1:=a0G h hr
    have e0:o7 [c]=[R9 c.cells]:=(List.append_nil _).trans (a2E hc)
    rw [e0] at h1
    unfold b7m
    simp only
    split
    ·rename_i c' hc'
     rw [hc'] at h1
     show b5Y s.st b r (R9 c.cells) (R9 c'.cells)
     have h1:a2O s.st b r [R9 c.cells] (c'.cells ++ []):=h1
     rw [List.append_nil] at h1
     match hl:c'.cells,h1 with
     | [y],h1=>exact h1.1
    ·cases hx:(TV.o (T1.c c)).av <;> trivial
   ·cases h
  ·cases h
 | agg ss=>
  match v,h with
  | .o (.agg ps),h=>exact a0G (ss:=ss) (q:=q) h hr
def a2a (s:TSt):(l:List (Nat × SSh))->Option (Rd (b3s l))
 | []=>some ⟨(),[],[]⟩
 | p :: r=>match Nat.ble s.n p.1 || (s.t p.1).g with
  | true=>(b44 p.2 s (s.t p.1).x).bind fun q=>(a2a s r).map fun q2=>⟨(q.x,q2.x),q.rr ++ q2.rr,q.br ++ q2.br⟩
  | false=>none
def tA (l:List (Nat × SSh)) (x:b3s l):List (Nat × AV):=(b43 l x).map fun p=>(p.1,p.2.av)
theorem a1H.split {b:List (Nat × Nat × List AC)} {r:List (Nat × Option Nat × Row)} {rr rr2:List (Nat × Option Nat)} {br br2:List (Nat × Nat)} (h:a1H b r (rr ++ rr2) (br ++ br2)):a1H b r rr br/\a1H b r rr2 br2:=
 ⟨⟨fun p hp=>h.1 p (by simp [hp]),fun p hp=>h.2 p (by simp [hp])⟩,⟨fun p hp=>h.1 p (by simp [hp]),fun p hp=>h.2 p (by simp [hp])⟩⟩
theorem a2K {b:List (Nat × Nat × List AC)} {r:List (Nat × Option Nat × Row)} {s:TSt}:∀ {l:List (Nat × SSh)} {q:Rd (b3s l)},a2a s l=some q->a1H b r q.rr q.br->a0Q s.st b r (tA l q.x)
 | [],_,_,_=>trivial
 | p :: l,q,h,hr=>by
  unfold a2a at h
  split at h
  ·rename_i hg
   obtain⟨q1,h1,h2⟩:=Option.bind_eq_some_iff.1 h
   obtain⟨q2,h3,rfl⟩:=Option.map_eq_some_iff.1 h2
   obtain⟨r1,r2⟩:=hr.split
   refine⟨⟨fun hlt=>?_,b3u h1 r1⟩,a2K (q:=q2) h3 r2⟩
   rw [Bool.or_eq_true] at hg
   rcases hg with hg | hg
   ·have:=Nat.le_of_ble_eq_true hg
    have:p.1 < s.n:=hlt
    omega
   ·exact hg
  ·cases h
structure RdB (α:Type) where
 x:α
 rr:List (Nat × Option Nat)
 br:List (Nat × Nat)
 L:List (Nat × Nat × List AC)
def a2b (s:TSt):List (Nat × Nat)->(l:List (Nat × List Sh))->Option (RdB (b4c l))
 | _,[]=>some ⟨(),[],[],[]⟩
 | br,p :: r=>match N3 br p.1 with
  | none=>none
  | some id=>match(s.b id).c with
   | none=>none
   | some ps=>(fit p.2 s ps).bind fun q=>(a2b s (br ++ q.br) r).map fun q2=>⟨(q.x,q2.x),q.rr ++ q2.rr,q.br ++ q2.br,(p.1,id,o7 (Q8 p.2 q.x)) :: q2.L⟩
theorem a2L {b:List (Nat × Nat × List AC)} {r:List (Nat × Option Nat × Row)} {s:TSt}:∀ {l:List (Nat × List Sh)} {br:List (Nat × Nat)} {q:RdB (b4c l)},a2b s br l=some q->a1H b r q.rr q.br->a1x s.st b r q.L/\∀ k,(N3 q.L k).map (·.2)=(N3 (b3t l q.x) k).map o7
 | [],_,q,h,_=>by injection h with h;subst h;exact⟨trivial,fun _=>rfl⟩
 | p :: l,br,q,h,hr=>by
  unfold a2b at h
  split at h
  ·cases h
  ·rename_i id hid
   split at h
   ·cases h
   ·rename_i ps hps
    obtain⟨q1,h1,h2⟩:=Option.bind_eq_some_iff.1 h
    obtain⟨q2,h3,rfl⟩:=Option.map_eq_some_iff.1 h2
    obtain⟨r1,r2⟩:=hr.split
    obtain⟨k1,k2⟩:=a2L (q:=q2) h3 r2
    refine⟨⟨?_,k1⟩,fun k=>?_⟩
    ·have hc:(s.st.b id).c=some (o7 ps):=by show(s.b id).c.map o7=_;rw [hps];rfl
     unfold b4x
     rw [hc]
     exact a0G h1 r1
    ·show(N3 ((p.1,id,o7 (Q8 p.2 q1.x)) :: q2.L) k).map (·.2)=(N3 ((p.1,Q8 p.2 q1.x) :: b3t l q2.x) k).map o7
     simp only [N3]
     split
     ·rfl
     ·exact k2 k
structure RdR (α:Type) where
 x:α
 L:List (Nat × Option Nat × Row)
def a2c (s:TSt) (rr:List (Nat × Option Nat)):(l:List (Nat × U × TypeId × Bool))->Option (RdR (b4d l))
 | []=>some ⟨(),[]⟩
 | p :: r=>match N3 rr p.1 with
  | none=>none
  | some none=>match Nat.blt 0 p.2.1.size && Nat.blt p.2.2.1 Q5 with
   | true=>(a2c s rr r).map fun q2=>⟨(([]:List p.2.1.den),q2.x),(p.1,none,(⟨p.2.1,[],p.2.2.1,p.2.2.2⟩:a2P).row) :: q2.L⟩
   | false=>none
  | some (some id)=>match(s.r id).c with
   | none=>none
   | some R=>match decEq R.u p.2.1 with
    | .isTrue h=>match Nat.beq R.e p.2.2.1 && (!R.fr || p.2.2.2) with
     | true=>(a2c s rr r).map fun q2=>⟨((h ▸ R.l:List p.2.1.den),q2.x),(p.1,some id,(⟨p.2.1,(h ▸ R.l:List p.2.1.den),p.2.2.1,p.2.2.2⟩:a2P).row) :: q2.L⟩
     | false=>none
    | .isFalse _=>none
theorem row_cast {R:a2P} {u:U} (h:R.u=u) (e:TypeId) (fr:Bool):(⟨u,(h ▸ R.l:List u.den),e,fr⟩:a2P).row.es=R.row.es/\(⟨u,(h ▸ R.l:List u.den),e,fr⟩:a2P).row.sz=R.row.sz:=by
 subst h;exact⟨rfl,rfl⟩
theorem a1I {s:TSt} {rr:List (Nat × Option Nat)}:∀ {l:List (Nat × U × TypeId × Bool)} {q:RdR (b4d l)},a2c s rr l=some q->rowsLe s.st q.L/\∀ k,(N3 q.L k).map (·.2)=(N3 (b1C l q.x) k).map a2P.row
 | [],q,h=>by injection h with h;subst h;exact⟨trivial,fun _=>rfl⟩
 | p :: l,q,h=>by
  unfold a2c at h
  split at h
  ·cases h
  ·split at h
   ·rename_i hz
    obtain⟨q2,h3,rfl⟩:=Option.map_eq_some_iff.1 h
    obtain⟨k1,k2⟩:=a1I (q:=q2) h3
    rw [Bool.and_eq_true] at hz
    refine⟨⟨⟨rfl,Nat.le_of_ble_eq_true hz.1,Nat.le_of_ble_eq_true hz.2⟩,k1⟩,fun k=>?_⟩
    show(N3 ((p.1,none,(⟨p.2.1,[],p.2.2.1,p.2.2.2⟩:a2P).row) :: q2.L) k).map (·.2)=(N3 ((p.1,(⟨p.2.1,[],p.2.2.1,p.2.2.2⟩:a2P)) :: b1C l q2.x) k).map a2P.row
    simp only [N3]
    split
    ·rfl
    ·exact k2 k
   ·cases h
  ·rename_i id hid
   split at h
   ·cases h
   ·rename_i R hR
    split at h
    ·rename_i hu _
     split at h
     ·rename_i hc
      rw [Bool.and_eq_true] at hc
      obtain⟨q2,h3,rfl⟩:=Option.map_eq_some_iff.1 h
      obtain⟨k1,k2⟩:=a1I (q:=q2) h3
      obtain⟨c1,c2⟩:=row_cast hu p.2.2.1 p.2.2.2
      refine⟨⟨?_,k1⟩,fun k=>?_⟩
      ·have hcr:(s.st.r id).c=some R.row:=by show(s.r id).c.map a2P.row=_;rw [hR];rfl
       unfold rowSrc
       simp only
       rw [hcr]
       refine⟨c1.symm,c2.symm,Nat.eq_of_beq_eq_true hc.1,fun hf=>?_⟩
       have hf:R.fr=true:=hf
       have h2:=hc.2
       rw [hf] at h2
       exact h2
      ·show(N3 ((p.1,some id,(⟨p.2.1,(hu ▸ R.l:List p.2.1.den),p.2.2.1,p.2.2.2⟩:a2P).row) :: q2.L) k).map (·.2)=(N3 ((p.1,(⟨p.2.1,(hu ▸ R.l:List p.2.1.den),p.2.2.1,p.2.2.2⟩:a2P)) :: b1C l q2.x) k).map a2P.row
       simp only [N3]
       split
       ·rfl
       ·exact k2 k
     ·cases h
    ·cases h
def b3v (x:Nat):List Nat->Bool
 | []=>false
 | y :: r=>Nat.beq x y || b3v x r
def a6v:List Nat->Bool
 | []=>true
 | x :: r=> !b3v x r && a6v r
theorem a8Q {x:Nat}:∀ {l:List Nat},b3v x l=false->x ∉ l
 | [],_,h=>by simp at h
 | y :: r,h,hm=>by
  simp only [b3v,Bool.or_eq_false_iff] at h
  rcases List.mem_cons.1 hm with e | hm
  ·subst e
   have:=h.1
   simp at this
  ·exact a8Q h.2 hm
theorem a3W:∀ {l:List Nat},a6v l=true->l.Nodup
 | [],_=>List.nodup_nil
 | x :: r,h=>by
  simp only [a6v,Bool.and_eq_true,Bool.not_eq_true'] at h
  exact List.nodup_cons.2 ⟨a8Q h.1,a3W h.2⟩
def a7G (rL:List (Nat × Option Nat × Row)) (p:Nat × Option Nat):Bool:=match N3 rL p.1,p.2 with
 | some q,some id=>match q.1 with
  | some id'=>Nat.beq id' id
  | none=>false
 | some q,none=>match q.1 with
  | some _=>false
  | none=>true
 | none,_=>false
def a7H (bL:List (Nat × Nat × List AC)) (p:Nat × Nat):Bool:=match N3 bL p.1 with
 | some q=>Nat.beq q.1 p.2
 | none=>false
theorem a9T {rL:List (Nat × Option Nat × Row)} {p:Nat × Option Nat} (h:a7G rL p=true):(N3 rL p.1).map (·.1)=some p.2:=by
 unfold a7G at h
 split at h
 ·rename_i q id hq hp
  split at h
  ·rename_i id' hi
   rw [hq,hp,Option.map_some,hi,Nat.eq_of_beq_eq_true h]
  ·cases h
 ·rename_i q hq hp
  split at h
  ·cases h
  ·rename_i hi
   rw [hq,hp,Option.map_some,hi]
 ·cases h
theorem a9U {bL:List (Nat × Nat × List AC)} {p:Nat × Nat} (h:a7H bL p=true):(N3 bL p.1).map (·.1)=some p.2:=by
 unfold a7H at h
 split at h
 ·rename_i q hq
  rw [hq,Option.map_some,Nat.eq_of_beq_eq_true h]
 ·cases h
def Lay.read0 (L:Lay) (s:TSt):Option L.den:=match Nat.beq s.n L.n with
 | true=>(a2a s L.t).bind fun a=>(a2b s a.br L.b).bind fun c=>(a2c s (a.rr ++ c.rr) L.r).bind fun d=>
  match(a.rr ++ c.rr).all (a7G d.L) && (a.br ++ c.br).all (a7H c.L) && a6v (c.L.map (·.2.1)) && a6v (d.L.filterMap (·.2.1)) with
  | true=>some (a.x,c.x,d.x)
  | false=>none
 | false=>none
theorem b1D (l:List (Nat × TV)) (k:Nat):((N3 l k).getD .any).av=(N3 (l.map fun p=>(p.1,p.2.av)) k).getD .any:=by
 rw [<-a8n TV.av]
 cases N3 l k <;> rfl
theorem Lay.read0_le {L:Lay} {s:TSt} {x:L.den} (h:L.read0 s=some x):Le s.st (L.st x).st:=by
 unfold Lay.read0 at h
 split at h
 ·rename_i hn
  obtain⟨a,h1,h2⟩:=Option.bind_eq_some_iff.1 h
  obtain⟨c,h3,h4⟩:=Option.bind_eq_some_iff.1 h2
  obtain⟨d,h5,h6⟩:=Option.bind_eq_some_iff.1 h4
  clear h h2 h4
  split at h6
  ·rename_i hc
   injection h6 with h6
   subst h6
   simp only [Bool.and_eq_true,List.all_eq_true] at hc
   obtain⟨⟨⟨c1,c2⟩,c3⟩,c4⟩:=hc
   have hr:a1H c.L d.L (a.rr ++ c.rr) (a.br ++ c.br):=⟨fun p hp=>a9T (c1 p hp),fun p hp=>a9U (c2 p hp)⟩
   obtain⟨r1,r2⟩:=hr.split
   obtain⟨b1,b2⟩:=a2L h3 r2
   obtain⟨w1,w2⟩:=a1I h5
   have e:(L.st (a.x,c.x,d.x)).st=a0E L.n (tA L.t a.x) c.L d.L:=by
    unfold a0E TSt.st Lay.st
    congr 1
    ·funext k
     exact congrArg (GV.mk _) (b1D _ k)
    ·funext k
     exact congrArg (BS.mk 0) (b2 k).symm
    ·funext k
     exact congrArg (RS.mk 0) (w2 k).symm
   rw [e]
   exact b62 (Nat.eq_of_beq_eq_true hn) (a2K h1 r1) b1 w1 (a3W c3) (a3W c4)
  ·cases h6
 ·cases h
def b6U (p:Nat × SSh) (s:TSt):TSt:=match p.2 with
 | .one (.d (.sl _))=>match(s.t p.1).g,(s.t p.1).x with
  | true,.o (.c (.row id ver))=>match(s.r id).c with
   | some R=>match Nat.beq ver (s.r id).ver && Nat.blt p.1 s.n && Nat.blt R.e Q5 with
    | true=>(s.app [.r id ⟨(s.r id).ver,some ⟨R.u,R.l,R.e,true⟩⟩]).app [.t p.1 ⟨true,.o (.c (.ch (.sl R.u) R.l))⟩]
    | false=>s
   | none=>s
  | _,_=>s
 | _=>s
def b7n:List (Nat × SSh)->TSt->TSt
 | [],s=>s
 | p :: r,s=>b7n r (b6U p s)
theorem b45 (p:Nat × SSh) (s:TSt):Le s.st (b6U p s).st:=by
 unfold b6U
 split
 ·split
  ·rename_i id ver hg hx
   split
   ·rename_i R hR
    split
    ·rename_i hc
     simp only [Bool.and_eq_true] at hc
     obtain⟨⟨c1,c2⟩,c3⟩:=hc
     have c1:=Nat.eq_of_beq_eq_true c1
     rw [TSt.st_app,TSt.st_app]
     refine b50 (R:=R.row) (Nat.le_of_ble_eq_true c2) (by exact hg) ?_ ?_ (Nat.le_of_ble_eq_true c3)
     ·exact(congrArg TV.av hx).trans (by rw [c1];rfl)
     ·show(s.r id).c.map a2P.row=_
      rw [hR];rfl
    ·exact Le.refl _
   ·exact Le.refl _
  ·exact Le.refl _
 ·exact Le.refl _
theorem b1E:∀ (l:List (Nat × SSh)) (s:TSt),Le s.st (b7n l s).st
 | [],_s=>Le.refl _
 | p :: l,s=>(b45 p s).trans (b1E l (b6U p s))
def Lay.read (L:Lay) (s:TSt):Option L.den:=L.read0 (b7n L.t s)
theorem Lay.read_le {L:Lay} {s:TSt} {x:L.den} (h:L.read s=some x):Le s.st (L.st x).st:=(b1E L.t s).trans (Lay.read0_le h)
end Go.Proofs.Ythadhfbkhldblaa.Am
namespace Go.Proofs.Ythadhfbkhldblaa.Am
open Go
def P2.part:P2->G8
 | .t k _=> .t k
 | .b k _=> .b k
 | .r k _=> .r k
theorem a8R (us:List P2):(us.map P2.upd).map Upd.part=us.map P2.part:=by
 rw [List.map_map]
 exact List.map_congr_left fun u _=>by cases u <;> rfl
def sel {α:Type} (b:Bool) (x y:α):α:=match b with
 | true=>x
 | false=>y
def a3X (d:Option Nat):List P2:=match d with
 | some d=>[.t d ⟨false,.any⟩]
 | none=>[]
theorem b3w (d:Option Nat):US (a3X d)=a47 d:=by cases d <;> rfl
section
variable (T:TypeId->Option TI) (TU:TypeId->Option U) (tcq:Oper->Call->TQ (List P2))
def V3 {R:Type} (draw:Bool) (l:List Oper):List Oper->TSt->List (List G8 × List G8)->(TSt->Option R)->Option R
 | [],s,tr,κ=>match draw with
  | true=>chk (a3r l tr) (κ s)
  | false=>κ s
 | o :: rest,s,tr,κ=>match o.guard with
  | none=>(b5z T TU tcq o).run s [] fun us rs=>V3 draw l rest (s.app us) (tr ++ [(rs,us.map P2.part)]) κ
  | some (j,want)=>match(l[j]?).bind (·.dst) with
   | none=>none
   | some d=>match(s.t d).g,(s.t d).x with
    | false,_=>V3 draw l rest (s.app (a3X o.dst)) (tr ++ [([.t d],(a3X o.dst).map P2.part)]) κ
    | true,.o (.c (.ch .bool b))=>sel b
     (match want with
      | true=>(b5z T TU tcq o).run (s.app1 (.t d ⟨true,c1 .bool true⟩)) [.t d] fun us rs=>V3 draw l rest ((s.app1 (.t d ⟨true,c1 .bool true⟩)).app us) (tr ++ [(rs,us.map P2.part)]) κ
      | false=>V3 draw l rest ((s.app1 (.t d ⟨true,c1 .bool true⟩)).app (a3X o.dst)) (tr ++ [([.t d],(a3X o.dst).map P2.part)]) κ)
     (match want with
      | false=>(b5z T TU tcq o).run (s.app1 (.t d ⟨true,c1 .bool false⟩)) [.t d] fun us rs=>V3 draw l rest ((s.app1 (.t d ⟨true,c1 .bool false⟩)).app us) (tr ++ [(rs,us.map P2.part)]) κ
      | true=>V3 draw l rest ((s.app1 (.t d ⟨true,c1 .bool false⟩)).app (a3X o.dst)) (tr ++ [([.t d],(a3X o.dst).map P2.part)]) κ)
    | _,_=>none
end
theorem a8S {α:Type} {b:Bool} {x y:Option α} {r:α} (h:sel b x y=some r):(b=true/\x=some r)\/(b=false/\y=some r):=by
 cases b
 ·exact .inr ⟨rfl,h⟩
 ·exact .inl ⟨rfl,h⟩
theorem a6w {s:TSt} {d:Nat} {x:TGV} (h:s.t d=x):s.app1 (.t d x)=s:=by
 show(⟨s.n,Am.upd s.t d x,s.b,s.r⟩:TSt)=s
 have:Am.upd s.t d x=s.t:=by
  funext j
  unfold Am.upd
  split
  ·rename_i e;rw [e,h]
  ·rfl
 rw [this]
section
variable {P:Program} {T:TypeId->Option TI} {TU:TypeId->Option U} {cq:Oper->Call->Q (List Upd)} {tcq:Oper->Call->TQ (List P2)}
theorem a2s {R:Type} (hc:∀ o c,o.op= .call c->Sim US (tcq o c) (cq o c)) {draw:Bool} {l:List Oper} {κ:TSt->Option R} {r:R}:∀ {rest:List Oper} {s:TSt} {tr:List (List G8 × List G8)},V3 T TU tcq draw l rest s tr κ=some r->
  wpD T cq l rest s.st tr fun s' tr'=>(draw=true->a3r l tr'=true)/\∃ ts,s'=ts.st/\κ ts=some r
 | [],s,tr,h=>by
  unfold V3 at h
  cases draw with
  | true=>exact⟨fun _=>(P3 h).1,s,rfl,(P3 h).2⟩
  | false=>exact⟨fun e=>(by cases e),s,rfl,h⟩
 | o :: rest,s,tr,h=>by
  have run:∀ {s:TSt} {t0:List G8},((b5z T TU tcq o).run s t0 fun us rs=>V3 T TU tcq draw l rest (s.app us) (tr ++ [(rs,us.map P2.part)]) κ)=some r->
    (opQ T cq o).wpt s.st t0 fun us rs=>wpD T cq l rest (s.st.app us) (tr ++ [(rs,us.map Upd.part)]) fun s' tr'=>(draw=true->a3r l tr'=true)/\∃ ts,s'=ts.st/\κ ts=some r:=fun {s t0} h=>by
   have h1:=b3h (T:=T) (TU:=TU) hc o s t0 _ (TQ.run_wpt h)
   refine Q.wpt_mono h1 ?_
   rintro us rs ⟨tus,rfl,h2⟩
   have h3:=a2s hc h2
   rw [TSt.st_app] at h3
   have e:tus.map P2.part=(US tus).map Upd.part:=(a8R tus).symm
   rw [e] at h3
   exact h3
  have skip:∀ {s:TSt} {t0:List G8},V3 T TU tcq draw l rest (s.app (a3X o.dst)) (tr ++ [(t0,(a3X o.dst).map P2.part)]) κ=some r->
    wpD T cq l rest (s.st.app (a47 o.dst)) (tr ++ [(t0,(a47 o.dst).map Upd.part)]) fun s' tr'=>(draw=true->a3r l tr'=true)/\∃ ts,s'=ts.st/\κ ts=some r:=fun {s t0} h=>by
   have h3:=a2s hc h
   rw [TSt.st_app] at h3
   have e1:(a3X o.dst).map P2.upd=a47 o.dst:=b3w o.dst
   have e:(a3X o.dst).map P2.part=(a47 o.dst).map Upd.part:=by rw [<-a8R,e1]
   rw [e,e1] at h3
   exact h3
  show(opD T cq l o).wpt s.st [] fun us rs=>wpD T cq l rest (s.st.app us) (tr ++ [(rs,us.map Upd.part)]) fun s' tr'=>(draw=true->a3r l tr'=true)/\∃ ts,s'=ts.st/\κ ts=some r
  unfold V3 at h
  unfold opD
  split at h
  ·rename_i hg
   rw [hg]
   exact run h
  ·rename_i j want hg
   rw [hg]
   simp only
   split at h
   ·cases h
   ·rename_i d hd
    rw [hd]
    simp only [Q.wpt]
    have hst:s.st.t d=(s.t d).gv:=rfl
    rw [hst]
    split at h
    ·rename_i hgf
     have e:(s.t d).gv.g=false:=hgf
     rw [e]
     exact skip h
    ·rename_i b hgt hxb
     have e:(s.t d).gv.g=true:=hgt
     have ex:(s.t d).gv.x= .c (.d (.v (.bool b))):=congrArg TV.av hxb
     rw [e]
     simp only
     rw [ex]
     have hsd:s.t d=⟨true,c1 .bool b⟩:=by
      have:s.t d=⟨(s.t d).g,(s.t d).x⟩:=rfl
      rw [this,hgt,hxb];rfl
     rcases a8S h with⟨hb,h⟩ | ⟨hb,h⟩
     ·subst hb
      rw [a6w hsd] at h
      cases want with
      | true=>exact run h
      | false=>exact skip h
     ·subst hb
      rw [a6w hsd] at h
      cases want with
      | true=>exact skip h
      | false=>exact run h
    ·cases h
theorem a4Q {l:List Oper} {K:St->Prop}:∀ {rest:List Oper} {s:St} {tr:List (List G8 × List G8)},(wpD T cq l rest s tr fun s' _=>K s')->wpR T cq l rest s K
 | [],_,_,h=>h
 | o :: rest,s,tr,h=>by
  have h:(opD T cq l o).wpt s [] fun us rs=>wpD T cq l rest (s.app us) (tr ++ [(rs,us.map Upd.part)]) fun s' _=>K s':=h
  show(opD T cq l o).wp s fun us=>wpR T cq l rest (s.app us) K
  exact Q.wp_of_wpt (Q.wpt_mono h fun us rs h1=>a4Q h1)
theorem a5L {l:List Oper} {K K':St->List (List G8 × List G8)->Prop} (hk:∀ s tr,K s tr->K' s tr):∀ {rest:List Oper} {s:St} {tr:List (List G8 × List G8)},wpD T cq l rest s tr K->wpD T cq l rest s tr K'
 | [],_,_,h=>hk _ _ h
 | o :: rest,s,tr,h=>by
  have h:(opD T cq l o).wpt s [] fun us rs=>wpD T cq l rest (s.app us) (tr ++ [(rs,us.map Upd.part)]) K:=h
  show(opD T cq l o).wpt s [] fun us rs=>wpD T cq l rest (s.app us) (tr ++ [(rs,us.map Upd.part)]) K'
  exact Q.wpt_mono h fun us rs h1=>a5L hk h1
end
def b5D {S R:Type}:Nat->(S->Option (S ⊕ R))->S->Option R
 | 0,_,_=>none
 | n + 1,G,x=>match G x with
  | none=>none
  | some (.inl y)=>b5D n G y
  | some (.inr r)=>some r
theorem b1F:(True/\True)=True:=propext ⟨fun _=>trivial,fun _=>⟨trivial,trivial⟩⟩
def b7o:Nat:= @Eq.rec Prop (True/\True) (fun _ _=>Nat) 1180591620717411303424 True b1F
theorem b1G {p q:Prop} (h:p=q) (n:Nat): @Eq.rec Prop p (fun _ _=>Nat) n q h=n:=by cases h;rfl
theorem b46:b7o=1180591620717411303424:=b1G b1F _
def W5 {S R:Type} (G:S->Option (S ⊕ R)) (x:S):Option R:=b5D b7o G x
def b3x {α β:Type} (o:Option α) (f:α->Option β):Option β:=
 let _h:= @W5 Unit Unit
 match o with
 | none=>none
 | some x=>f x
theorem a8T {α β:Type} (o:Option α) (f:α->Option β):b3x o f=o.bind f:=by cases o <;> rfl
structure Vw (L:Lay) (S:Type) where
 to:L.den->S
 of:S->L.den
 ok:∀ x,of (to x)=x
inductive An:Type->Type 1 where
 | leaf {R:Type}:An R
 | two {R:Type} (a b:An R):An R
 | one {R:Type} (a:An R):An R
 | cut {R S:Type} (L:Lay) (V:Vw L S) (F:S->Option R) (a b:An R):An R
 | loop {R S:Type} (L:Lay) (V:Vw L S) (G:S->Option (S ⊕ R)) (a:An (S ⊕ R)):An R
section
variable (T:TypeId->Option TI) (TU:TypeId->Option U) (tcq:Oper->Call->TQ (List P2))
def An.fst {R:Type}:An R->An R
 | .two a _=>a
 | .cut _ _ _ a _=>a
 | .one a=>a
 | _=> .leaf
def An.snd {R:Type}:An R->An R
 | .two _ b=>b
 | .cut _ _ _ _ b=>b
 | _=> .leaf
def b1H {R:Type} (id:Nat) (κ:AX->TSt->Option R) (ax:AX) (s:TSt):Option R:=match ax with
 | .normal=>κ .normal s
 | .exit i=>match Nat.beq i id with
  | true=>κ .normal s
  | false=>κ (.exit i) s
 | .ret=>κ .ret s
def b7p {R S:Type} (L:Lay) (V:Vw L S) (F:S->Option R) (κ:AX->TSt->Option R) (ax:AX) (s:TSt):Option R:=match ax with
 | .normal=>b3x (L.read s) fun x=>F (V.to x)
 | .exit i=>κ (.exit i) s
 | .ret=>κ .ret s
def b47 {R:Type} (F:TSt->Option R) (κ:AX->TSt->Option R) (ax:AX) (s:TSt):Option R:=match ax with
 | .normal=>F s
 | .exit i=>κ (.exit i) s
 | .ret=>κ .ret s
def b4e {R S:Type} (L:Lay) (V:Vw L S) (κ:AX->TSt->Option R) (ax:AX) (s:TSt):Option (S ⊕ R):=match ax with
 | .normal=>(L.read s).map fun x=> .inl (V.to x)
 | .exit i=>(κ (.exit i) s).map .inr
 | .ret=>(κ .ret s).map .inr
def An.next {R:Type} (a:An R) (F:TSt->Option R) (κ:AX->TSt->Option R):AX->TSt->Option R:=match a with
 | .cut L V G _ _=>b7p L V G κ
 | _=>b47 F κ
def b1I {R:Type}:An R->Code->TSt->(AX->TSt->Option R)->Option R
 | _,.skip,s,κ=>κ .normal s
 | a,.seq x y,s,κ=>b1I a.fst x s (a.next (fun s'=>b1I a.snd y s' κ) κ)
 | _,.region _ ops draw,s,κ=>chk (ops.toList.all (a9r s.n)) (V3 T TU tcq draw ops.toList ops.toList s [] fun s'=>κ .normal s')
 | a,.cond c x y,s,κ=>((tev c).bind b21).run s [] fun b _=>sel b (b1I a.fst x s κ) (b1I a.snd y s κ)
 | a,.block id c,s,κ=>b1I a.fst c s (b1H id κ)
 | a,.loop _,s,_=>match a with
  | .loop L V G _=>b3x (L.read s) fun x=>W5 G (V.to x)
  | _=>none
 | _,.exit i,s,κ=>κ (.exit i) s
 | _,.ret,s,κ=>κ .ret s
 | _,_,_,_=>none
def An.ok:{R:Type}->An R->Code->(AX->TSt->Option R)->Prop
 | _,.leaf,_,_=>True
 | _,.two a b,.seq x y,κ=>a.ok x (b47 (fun s'=>b1I T TU tcq b y s' κ) κ)/\b.ok y κ
 | _,.cut L V F a b,.seq x y,κ=>a.ok x (b7p L V F κ)/\b.ok y κ/\∀ v,F v=b1I T TU tcq b y (L.st (V.of v)) κ
 | _,.two a b,.cond _ x y,κ=>a.ok x κ/\b.ok y κ
 | _,.one a,.block id c,κ=>a.ok c (b1H id κ)
 | _,.loop L V G a,.loop c,κ=>a.ok c (b4e L V κ)/\∀ v,G v=b1I T TU tcq a c (L.st (V.of v)) (b4e L V κ)
 | _,_,_,_=>False
end
section
variable {P:Program} {T:TypeId->Option TI} {TU:TypeId->Option U} {cq:Oper->Call->Q (List Upd)} {tcq:Oper->Call->TQ (List P2)}
theorem b48 (hT:∀ t i,T t=some i->TOk P t i) (hcq:∀ o c,o.op= .call c->b2w P o (cq o c)) (hc:∀ o c,o.op= .call c->Sim US (tcq o c) (cq o c)) (hm:P.follows .mixedOrders=true) :
  ∀ (c:Code) {R:Type} {a:An R} {s:TSt} {κ:AX->TSt->Option R} {K:AX->St->Prop} {r:R},a.ok T TU tcq c κ->b1I T TU tcq a c s κ=some r->(∀ ax s',κ ax s'=some r->K ax s'.st)->Tri P c K s.st:=by
 intro c
 induction c with
 | skip=>intro R a s κ K r _ h hk;exact b2K (hk _ _ h)
 | seq x y ihx ihy=>
  intro R a s κ K r ho h hk
  refine b4w ?_
  cases a with
  | leaf=>
   refine ihx (a:= .leaf) (κ:=b47 (fun s'=>b1I T TU tcq .leaf y s' κ) κ) trivial h fun ax s' h'=>?_
   cases ax with
   | normal=>exact ihy (a:= .leaf) (κ:=κ) trivial h' hk
   | exit i=>exact hk _ _ h'
   | ret=>exact hk _ _ h'
  | two a b=>
   refine ihx ho.1 h fun ax s' h'=>?_
   cases ax with
   | normal=>exact ihy ho.2 h' hk
   | exit i=>exact hk _ _ h'
   | ret=>exact hk _ _ h'
  | cut L V F a b=>
   refine ihx ho.1 h fun ax s' h'=>?_
   cases ax with
   | normal=>
    rw [b7p,a8T] at h'
    obtain⟨v,h1,h2⟩:=Option.bind_eq_some_iff.1 h'
    rw [ho.2.2 (V.to v),V.ok] at h2
    exact b5X (Lay.read_le h1) (ihy ho.2.1 h2 hk)
   | exit i=>exact hk _ _ h'
   | ret=>exact hk _ _ h'
  | one a=>exact ho.elim
  | loop L V G a=>exact ho.elim
 | region id ops draw=>
  intro R a s κ K r _ h hk
  obtain⟨hd,h⟩:=P3 h
  have h1:=a2s (T:=T) (TU:=TU) hc h
  have e:ops=ops.toList.toArray:=(Array.toArray_toList ..).symm
  rw [e]
  cases draw with
  | true=>exact a9u hT hcq hm hd (a5L (fun s' tr h2=>by obtain⟨h3,ts,rfl,h4⟩:=h2;exact⟨h3 rfl,hk _ _ h4⟩) h1)
  | false=>exact a9s hT hcq hd (a4Q (tr:=[]) (a5L (fun s' tr h2=>by obtain⟨_,ts,rfl,h4⟩:=h2;exact hk _ _ h4) h1))
 | cond cc x y ihx ihy=>
  intro R a s κ K r ho h hk
  have h0:a.fst.ok T TU tcq x κ/\a.snd.ok T TU tcq y κ:=by
   cases a with
   | leaf=>exact⟨trivial,trivial⟩
   | two a b=>exact ho
   | cut L V F a b=>exact ho.elim
   | one a=>exact ho.elim
   | loop L V G a=>exact ho.elim
  have h1:=(Sim.bind (A9 cc) fun v=>a6l v) s [] _ (TQ.run_wpt h)
  refine b2M (Q.wp_of_wpt (Q.wpt_mono h1 ?_))
  rintro b rs ⟨b',rfl,h2⟩
  rcases a8S h2 with⟨rfl,h3⟩ | ⟨rfl,h3⟩
  ·exact⟨fun _=>ihx h0.1 h3 hk,fun e=>(by cases e)⟩
  ·exact⟨fun e=>(by cases e),fun _=>ihy h0.2 h3 hk⟩
 | block id c ih=>
  intro R a s κ K r ho h hk
  have h0:a.fst.ok T TU tcq c (b1H id κ):=by
   cases a with
   | leaf=>exact trivial
   | two a b=>exact ho.elim
   | cut L V F a b=>exact ho.elim
   | one a=>exact ho
   | loop L V G a=>exact ho.elim
  refine b0F (ih h0 h fun ax s' h'=>?_)
  cases ax with
  | normal=>exact hk _ _ h'
  | exit i=>
   show if i=id then K .normal s'.st else K (.exit i) s'.st
   have h':(match Nat.beq i id with | true=>κ .normal s' | false=>κ (.exit i) s')=some r:=h'
   split at h'
   ·rename_i hb;rw [if_pos (Nat.eq_of_beq_eq_true hb)];exact hk _ _ h'
   ·rename_i hb
    rw [if_neg (fun e=>by subst e;rw [Nat.beq_refl] at hb;cases hb)]
    exact hk _ _ h'
  | ret=>exact hk _ _ h'
 | loop c ih=>
  intro R a s κ K r ho h hk
  cases a with
  | loop L V G a=>
   obtain⟨ho1,ho2⟩:=ho
   have h:b3x (L.read s) (fun x=>W5 G (V.to x))=some r:=h
   rw [a8T] at h
   obtain⟨v,h1,h2⟩:=Option.bind_eq_some_iff.1 h
   refine b2N (fun n st=>∃ x,st=(L.st (V.of x)).st/\b5D n G x=some r) (n0:=b7o) (s0:=(L.st (V.of (V.to v))).st) (by rw [V.ok];exact Lay.read_le h1) ⟨V.to v,rfl,h2⟩ ?_
   rintro n st ⟨x,rfl,hx⟩
   cases n with
   | zero=>cases hx
   | succ n=>
    unfold b5D at hx
    split at hx
    ·cases hx
    ·rename_i y hy
     rw [ho2 x] at hy
     refine ih ho1 hy fun ax s' h'=>?_
     cases ax with
     | normal=>
      obtain⟨z,h3,h4⟩:=Option.map_eq_some_iff.1 h'
      injection h4 with h4
      subst h4
      exact⟨n,_,Nat.lt_succ_self n,by rw [V.ok];exact Lay.read_le h3,V.to z,rfl,hx⟩
     | exit i=>obtain⟨z,_,h4⟩:=Option.map_eq_some_iff.1 h';cases h4
     | ret=>obtain⟨z,_,h4⟩:=Option.map_eq_some_iff.1 h';cases h4
    ·rename_i r' hy
     injection hx with hx
     subst hx
     rw [ho2 x] at hy
     refine ih ho1 hy fun ax s' h'=>?_
     cases ax with
     | normal=>obtain⟨z,_,h4⟩:=Option.map_eq_some_iff.1 h';cases h4
     | exit i=>
      obtain⟨z,h3,h4⟩:=Option.map_eq_some_iff.1 h'
      injection h4 with h4
      subst h4
      exact hk _ _ h3
     | ret=>
      obtain⟨z,h3,h4⟩:=Option.map_eq_some_iff.1 h'
      injection h4 with h4
      subst h4
      exact hk _ _ h3
  | leaf=>cases h
  | two a b=>exact ho.elim
  | cut L V F a b=>exact ho.elim
  | one a=>exact ho.elim
 | exit i=>intro R a s κ K r _ h hk;exact b2L (hk _ _ h)
 | ret=>intro R a s κ K r _ h hk;exact b4v (hk _ _ h)
 | _=>intro R a s κ K r _ h hk;cases h
end
end Go.Proofs.Ythadhfbkhldblaa.Am
namespace Go.Proofs.Ythadhfbkhldblaa.Am
open Go
def a8U:PTs->ATs->ATs
 | .nil,r=>r
 | .cons t ts,r=> .cons (.bx t) (a8U ts r)
 | .rcons u e ts,r=> .cons (.rx u e) (a8U ts r)
def spl:(p:PTs)->(r:ATs)->(a8U p r).den->p.den × r.den
 | .nil,_,x=>((),x)
 | .cons _ ts,r,x=>((x.1,(spl ts r x.2).1),(spl ts r x.2).2)
 | .rcons _ _ ts,r,x=>((x.1,(spl ts r x.2).1),(spl ts r x.2).2)
theorem a5M:∀ (p:PTs) (r:ATs) (x:(a8U p r).den),(a8U p r).oas x=p.ocs (spl p r x).1 ++ r.oas (spl p r x).2
 | .nil,_,_=>rfl
 | .cons t ts,r,x=>by
  show AT.oa (.bx t) x.1 :: (a8U ts r).oas x.2=OA.bx (t.ocs x.1) :: (ts.ocs (spl ts r x.2).1 ++ r.oas (spl ts r x.2).2)
  rw [a5M ts r x.2];rfl
 | .rcons u e ts,r,x=>by
  show AT.oa (.rx u e) x.1 :: (a8U ts r).oas x.2=AT.oa (.rx u e) x.1 :: (ts.ocs (spl ts r x.2).1 ++ r.oas (spl ts r x.2).2)
  rw [a5M ts r x.2]
theorem a7I:∀ (p:PTs) (r:ATs),r.ok=true->(a8U p r).ok=true
 | .nil,_,h=>h
 | .cons _ ts,r,h=>by
  show(true && (a8U ts r).ok)=true
  rw [a7I ts r h];rfl
 | .rcons _ _ ts,r,h=>by
  show(true && (a8U ts r).ok)=true
  rw [a7I ts r h];rfl
def ATs.len:ATs->Nat
 | .nil=>0
 | .cons _ ts=>ts.len + 1
def PTs.len:PTs->Nat
 | .nil=>0
 | .cons _ ts=>ts.len + 1
 | .rcons _ _ ts=>ts.len + 1
theorem b1J:∀ (ts:ATs) (x:ts.den),(ts.oas x).length=ts.len
 | .nil,_=>rfl
 | .cons t ts,x=>by
  show(ts.oas x.2).length + 1=ts.len + 1
  rw [b1J ts]
theorem a7J:∀ (ts:PTs) (x:ts.den),(ts.ocs x).length=ts.len
 | .nil,_=>rfl
 | .cons t ts,x=>by
  show(ts.ocs x.2).length + 1=ts.len + 1
  rw [a7J ts]
 | .rcons _ _ ts,x=>by
  show(ts.ocs x.2).length + 1=ts.len + 1
  rw [a7J ts]
def a9V:ATs->List T1->List T1
 | .cons (.bx _) ts,v :: vs=>v :: a9V ts vs
 | .cons (.rx _ _) ts,v :: vs=>v :: a9V ts vs
 | .cons _ ts,_ :: vs=>a9V ts vs
 | _,_=>[]
theorem a1a:∀ (ts:ATs) (x:ts.den) (vs:List T1),I4 (ts.oas x) (vs.map T1.av)=(a9V ts vs).map T1.av
 | .nil,_,[]=>rfl
 | .nil,_,_ :: _=>rfl
 | .cons (.bx _) _ts,_x,[]=>rfl
 | .cons (.rx _ _) _ts,_x,[]=>rfl
 | .cons (.c _) _ts,_x,[]=>rfl
 | .cons (.agg _) _ts,_x,[]=>rfl
 | .cons (.bx _t) ts,x,v :: vs=>congrArg (v.av :: ·) (a1a ts x.2 vs)
 | .cons (.rx _ _) ts,x,v :: vs=>congrArg (v.av :: ·) (a1a ts x.2 vs)
 | .cons (.c _t) ts,x,_v :: vs=>a1a ts x.2 vs
 | .cons (.agg _t) ts,x,_v :: vs=>a1a ts x.2 vs
def tUT (g:Bool) (i:Nat):List T1->List P2
 | []=>[]
 | v :: vs=> .t i ⟨g,.o v⟩ :: tUT g (i + 1) vs
theorem b1K (g:Bool):∀ (vs:List T1) (i:Nat),(tUT g i vs).map P2.upd=tU g i (vs.map T1.av)
 | [],_=>rfl
 | v :: vs,i=>congrArg (Upd.t i ⟨g,v.av⟩ :: ·) (b1K g vs (i + 1))
def b1L (n:Nat):TSt:=⟨n,fun k=>⟨decide (k < n),.any⟩,fun _=>⟨0,none⟩,fun _=>⟨0,none⟩⟩
theorem b1M (n:Nat):(b1L n).st=a0E n [] [] []:=rfl
def b1N (n:Nat) (args:ATs) (k:b4Y):TSt:=(((b1L n).app k.us).app (tUT true 0 k.vs)).app (tUT false n (a9V args k.vs))
def b6V (T:TypeId->Option TI):List ResultVar->TQ (List TV)
 | []=> .ret []
 | .tmp t :: rs=>(tev (.tmp t)).bind fun v=>(b6V T rs).bind fun vs=> .ret (v :: vs)
 | .cell a t :: rs=>(ttq T t).bind fun i=>(tev (.tmp a)).bind fun p=>(b24 i p).bind fun v=>(b6V T rs).bind fun vs=> .ret (v :: vs)
theorem a5N (T:TypeId->Option TI):∀ (rs:List ResultVar),Sim (List.map TV.av) (b6V T rs) (b4C T rs)
 | []=>Sim.ret rfl
 | .tmp t :: rs=>Sim.bind (A9 (.tmp t)) fun _v=>Sim.bind (a5N T rs) fun _vs=>Sim.ret rfl
 | .cell a t :: rs=>Sim.bind (B2 T t) fun i=>Sim.bind (A9 (.tmp a)) fun p=>Sim.bind (a6n i p) fun _v=>Sim.bind (a5N T rs) fun _vs=>Sim.ret rfl
def b7q (n:Nat):Nat->TQ (List TV)
 | 0=> .ret []
 | m + 1=> .rdT n fun x=>(b7q (n + 1) m).bind fun vs=> .ret (x.x :: vs)
theorem a8V:∀ (m n:Nat),Sim (List.map TV.av) (b7q n m) (b59 n m)
 | 0,_=>Sim.ret rfl
 | m + 1,n=>Sim.rdT fun _x=>Sim.bind (a8V m (n + 1)) fun _vs=>Sim.ret rfl
def b6t (T:TypeId->Option TI) (n:Nat) (rs:List ResultVar) (S:TFn):TQ (S.posts.den × S.res.den):=
 (b7q n S.posts.len).bind fun ps=>(b6V T rs).bind fun vs=>(a5C (a8U S.posts S.res) (ps ++ vs)).bind fun k=>
 .req (a6s (k.tops ++ k.ids) && k.fz.all fun id=> !b5B (Sum.inr id) (k.tops ++ k.ids)) ((V1 k.fz).bind fun _=> .ret (spl S.posts S.res k.x))
theorem b49 {T:TypeId->Option TI} {n:Nat} {rs:List ResultVar} {S:TFn} (hr:S.res.ok=true) {fin:S.posts.den × S.res.den->S.R} (hfin:∀ x,S.out (fin x)=x) {s:TSt} {r:S.R} (h:((b6t T n rs S).run s [] fun x _=>some (fin x))=some r) :
  (b5v T n S.posts.len rs (a8U S.posts S.res).sh (S.posts.ocs (S.out r).1) (S.res.oas (S.out r).2)).wp s.st fun _=>True:=by
 have h1:=TQ.run_wpt h
 unfold b6t at h1
 rw [TQ.wpt_bind] at h1
 unfold b5v
 rw [Q.wp_bind]
 refine Q.wp_of_wpt (tr:=[]) (Q.wpt_mono (a8V S.posts.len n s [] _ h1) ?_)
 rintro ps rs1 ⟨tps,rfl,h2⟩
 rw [TQ.wpt_bind] at h2
 rw [Q.wp_bind]
 refine Q.wp_of_wpt (tr:=rs1) (Q.wpt_mono (a5N T rs s rs1 _ h2) ?_)
 rintro vs rs2 ⟨tvs,rfl,h3⟩
 rw [TQ.wpt_bind] at h3
 rw [Q.wp_bind,<-List.map_append]
 refine Q.wp_of_wpt (tr:=rs2) (Q.wpt_mono (a1F _ (a7I _ _ hr) (tps ++ tvs) s rs2 _ h3) ?_)
 rintro k rs3 ⟨tk,rfl,h4⟩
 obtain⟨h5,h6⟩:=h4
 rw [Bool.and_eq_true] at h5
 rw [TQ.wpt_bind] at h6
 have h7:=I5 tk.fz s rs3 _ h6
 obtain⟨us,rs4,tus,_,h8⟩:=Q.wpt_ex h7
 injection h8 with h8
 subst h8
 rw [hfin]
 refine⟨⟨a5M _ _ _,a3P h5.1,fun id hid=>?_⟩,?_⟩
 ·have:=List.all_eq_true.1 h5.2 id hid
  exact a5E (by simpa using this)
 ·rw [Q.wp_bind]
  exact Q.wp_of_wpt (tr:=rs3) (Q.wpt_mono h7 fun _ _ _=>trivial)
def b7r (T:TypeId->Option TI) (n:Nat) (rs:List ResultVar) (S:TFn) (fin:S.posts.den × S.res.den->S.R) (ax:AX) (s:TSt):Option S.R:=match ax with
 | .exit _=>none
 | .normal=>chk (Nat.beq s.n n) ((b6t T n rs S).run s [] fun x _=>some (fin x))
 | .ret=>chk (Nat.beq s.n n) ((b6t T n rs S).run s [] fun x _=>some (fin x))
def b5a (T:TypeId->Option TI) (TU:TypeId->Option U) (Γ:List (Nat × TFn)) (n:Nat) (rs:List ResultVar) (S:TFn) (fin:S.posts.den × S.res.den->S.R) (an:An S.R) (c:Code) (a:S.args.den):Option S.R:=
 (b1v 1000 S.args a).run (b1L n) [] fun k _=>chk (Nat.beq (a9V S.args k.vs).length S.posts.len && Nat.ble S.args.len n) (b1I T TU (a6u T TU Γ) an c (b1N n S.args k) (b7r T n rs S fin))
structure FnT (P:Program) (f:FuncId) (S:TFn):Prop where
 args:S.args.ok=true
 res:S.res.ok=true
 ok:b2T P f S.spec
def D2 {α β:Type} (l:List (α × β)):List α:=List.map (fun p=>p.1) l
theorem C0 {P:Program}:∀ p ∈ ([]:List (Nat × TFn)),FnT P (p.1 % 1000000) p.2:=fun _ h=>by cases h
theorem A0 {P:Program} {f:FuncId} {S:TFn} {Γ:List (Nat × TFn)} (h:FnT P (f % 1000000) S) (k:∀ p ∈ Γ,FnT P (p.1 % 1000000) p.2):∀ p ∈ (f,S) :: Γ,FnT P (p.1 % 1000000) p.2:=fun p hp=>by
 cases hp with
 | head=>exact h
 | tail _ hp=>exact k p hp
theorem fnT {P:Program} {T:TypeId->Option TI} {TU:TypeId->Option U} {Γ:List (Nat × TFn)} {f:FuncId} {fn:Func} {c:Code} {S:TFn} (hT:∀ t i,T t=some i->TOk P t i) (hm:P.follows .mixedOrders=true) (hΓ:∀ p ∈ Γ,FnT P (p.1 % 1000000) p.2)
  (hf:P.funcs[f]?=some fn) (hb:fn.body=some c) (hname:(fn.name == "runtime.NumGoroutine")=false) (ha:S.args.ok=true) (hr:S.res.ok=true) (fin:S.posts.den × S.res.den->S.R) (hfin:∀ x,S.out (fin x)=x) (an:An S.R)
  (hok:an.ok T TU (a6u T TU Γ) c (b7r T fn.ntmps fn.results.toList S fin)) (hF:∀ a,S.G a=b5a T TU Γ fn.ntmps fn.results.toList S fin an c a) (hsp:S.sp= .none:=by rfl):FnT P f S:=by
 refine⟨ha,hr,b8A hT hf hb hname 1000 (fun xs hx=>?_) hsp⟩
 obtain⟨a,r,rfl,hFa⟩:=hx
 have h1:=hF a
 rw [hFa] at h1
 have h1:=h1.symm
 unfold b5a at h1
 have h2:=TQ.run_wpt h1
 have h3:=a17 S.args ha 1000 a _ _ _ h2
 rw [b1M] at h3
 have hlen:S.args.len<=fn.ntmps:=by
  obtain⟨_,_,k,_,hk⟩:=Q.wpt_ex h3
  have:=(P3 hk).1
  rw [Bool.and_eq_true] at this
  exact Nat.le_of_ble_eq_true this.2
 refine⟨by rw [b1J];exact hlen,(a8U S.posts S.res).sh,Q.wp_of_wpt (Q.wpt_mono h3 ?_)⟩
 rintro k rs ⟨tk,rfl,hk⟩
 obtain⟨hc,hk⟩:=P3 hk
 rw [Bool.and_eq_true] at hc
 have hst:(b1N fn.ntmps S.args tk).st=(((a0E fn.ntmps [] [] []).app (a4h tk).us).app (tU true 0 (a4h tk).avs)).app (tU false fn.ntmps (I4 (S.args.oas a) (a4h tk).avs)):=by
  unfold b1N
  rw [TSt.st_app,TSt.st_app,TSt.st_app,b1K,b1K]
  simp only [a4h]
  rw [a1a]
  rfl
 rw [<-hst]
 have hmm:(I4 (S.args.oas a) (a4h tk).avs).length=S.posts.len:=by
  simp only [a4h]
  rw [a1a,List.length_map]
  exact Nat.eq_of_beq_eq_true hc.1
 rw [hmm]
 have hcq:=b0Q (P:=P) (T:=T) hT (Γ:=b3q Γ) (fun p hp=>by
  obtain⟨q,hq,rfl⟩:=List.mem_map.1 hp
  exact(hΓ q hq).ok)
 have fin':∀ s',chk (Nat.beq s'.n fn.ntmps) ((b6t T fn.ntmps fn.results.toList S).run s' [] fun x _=>some (fin x))=some r->
   s'.st.n=fn.ntmps/\(S.spec.post (S.args.oas a)).length=S.posts.len/\(b5v T fn.ntmps S.posts.len fn.results.toList (a8U S.posts S.res).sh (S.spec.post (S.args.oas a)) (S.spec.res (S.args.oas a))).wp s'.st fun _=>True:=fun s' h'=>by
  obtain⟨h5,h6⟩:=P3 h'
  rw [TFn.post_of ha hFa,TFn.res_of ha hFa]
  exact⟨Nat.eq_of_beq_eq_true h5,a7J _ _,b49 hr hfin h6⟩
 refine b48 hT hcq (fun o c _=>a9S T TU Γ o c) hm c hok hk fun ax s' h'=>?_
 cases ax with
 | normal=>exact fin' s' h'
 | exit i=>cases h'
 | ret=>exact fin' s' h'
end Go.Proofs.Ythadhfbkhldblaa.Am
namespace Go.Proofs.Ythadhfbkhldblaa.Am
open Go
abbrev S0:List Type->Type
 | []=>Unit
 | [A]=>A
 | A :: B :: r=>A × S0 (B :: r)
def a1f {A:Type}:(r:List Type)->A->S0 r->S0 (A :: r)
 | [],a,_=>a
 | _ :: _,a,x=>(a,x)
def fhd {A:Type}:(r:List Type)->S0 (A :: r)->A
 | [],a=>a
 | _ :: _,x=>x.1
def ftl {A:Type}:(r:List Type)->S0 (A :: r)->S0 r
 | [],_=>()
 | _ :: _,x=>x.2
theorem S1 {A:Type}:∀ (r:List Type) (a:A) (x:S0 r),fhd r (a1f r a x)=a
 | [],_,_=>rfl
 | _ :: _,_,_=>rfl
theorem S2 {A:Type}:∀ (r:List Type) (a:A) (x:S0 r),ftl r (a1f r a x)=x
 | [],_,_=>rfl
 | _ :: _,_,_=>rfl
abbrev a2Q:List Sh->List Type->List Type
 | [],r=>r
 | .d u :: s,r=>u.den :: a2Q s r
 | .clo _ u :: s,r=>u.den :: a2Q s r
 | .e u :: s,r=>u.den :: a2Q s r
 | .nil :: s,r=>a2Q s r
 | .fn _ :: s,r=>a2Q s r
 | .npt :: s,r=>a2Q s r
 | .row _ :: s,r=>a2Q s r
 | .ptr _ _ :: s,r=>a2Q s r
def a7Q:(ss:List Sh)->(r:List Type)->a1G ss->S0 r->S0 (a2Q ss r)
 | [],_,_,y=>y
 | .d _ :: s,r,x,y=>a1f (a2Q s r) x.1 (a7Q s r x.2 y)
 | .clo _ _ :: s,r,x,y=>a1f (a2Q s r) x.1 (a7Q s r x.2 y)
 | .e _ :: s,r,x,y=>a1f (a2Q s r) x.1 (a7Q s r x.2 y)
 | .nil :: s,r,x,y=>a7Q s r x y
 | .fn _ :: s,r,x,y=>a7Q s r x y
 | .npt :: s,r,x,y=>a7Q s r x y
 | .row _ :: s,r,x,y=>a7Q s r x y
 | .ptr _ _ :: s,r,x,y=>a7Q s r x y
def a8X:(ss:List Sh)->(r:List Type)->S0 (a2Q ss r)->a1G ss
 | [],_,_=>()
 | .d _ :: s,r,y=>(fhd (a2Q s r) y,a8X s r (ftl (a2Q s r) y))
 | .clo _ _ :: s,r,y=>(fhd (a2Q s r) y,a8X s r (ftl (a2Q s r) y))
 | .e _ :: s,r,y=>(fhd (a2Q s r) y,a8X s r (ftl (a2Q s r) y))
 | .nil :: s,r,y=>a8X s r y
 | .fn _ :: s,r,y=>a8X s r y
 | .npt :: s,r,y=>a8X s r y
 | .row _ :: s,r,y=>a8X s r y
 | .ptr _ _ :: s,r,y=>a8X s r y
def a6N:(ss:List Sh)->(r:List Type)->S0 (a2Q ss r)->S0 r
 | [],_,y=>y
 | .d _ :: s,r,y=>a6N s r (ftl (a2Q s r) y)
 | .clo _ _ :: s,r,y=>a6N s r (ftl (a2Q s r) y)
 | .e _ :: s,r,y=>a6N s r (ftl (a2Q s r) y)
 | .nil :: s,r,y=>a6N s r y
 | .fn _ :: s,r,y=>a6N s r y
 | .npt :: s,r,y=>a6N s r y
 | .row _ :: s,r,y=>a6N s r y
 | .ptr _ _ :: s,r,y=>a6N s r y
theorem a4k:∀ (ss:List Sh) (r:List Type) (x:a1G ss) (y:S0 r),a8X ss r (a7Q ss r x y)=x/\a6N ss r (a7Q ss r x y)=y
 | [],_,_,_=>⟨rfl,rfl⟩
 | .d _ :: s,r,x,y=>by
  obtain⟨h1,h2⟩:=a4k s r x.2 y
  unfold a7Q a8X a6N
  rw [S1,S2,h1,h2]
  exact⟨rfl,rfl⟩
 | .clo _ _ :: s,r,x,y=>by
  obtain⟨h1,h2⟩:=a4k s r x.2 y
  unfold a7Q a8X a6N
  rw [S1,S2,h1,h2]
  exact⟨rfl,rfl⟩
 | .e _ :: s,r,x,y=>by
  obtain⟨h1,h2⟩:=a4k s r x.2 y
  unfold a7Q a8X a6N
  rw [S1,S2,h1,h2]
  exact⟨rfl,rfl⟩
 | .nil :: s,r,x,y=>a4k s r x y
 | .fn _ :: s,r,x,y=>a4k s r x y
 | .npt :: s,r,x,y=>a4k s r x y
 | .row _ :: s,r,x,y=>a4k s r x y
 | .ptr _ _ :: s,r,x,y=>a4k s r x y
abbrev tTs:List (Nat × SSh)->List Type->List Type
 | [],r=>r
 | p :: l,r=>a2Q p.2.list (tTs l r)
def tTo:(l:List (Nat × SSh))->(r:List Type)->b3s l->S0 r->S0 (tTs l r)
 | [],_,_,y=>y
 | p :: l,r,x,y=>a7Q p.2.list (tTs l r) x.1 (tTo l r x.2 y)
def tOf:(l:List (Nat × SSh))->(r:List Type)->S0 (tTs l r)->b3s l
 | [],_,_=>()
 | p :: l,r,y=>(a8X p.2.list (tTs l r) y,tOf l r (a6N p.2.list (tTs l r) y))
def tRe:(l:List (Nat × SSh))->(r:List Type)->S0 (tTs l r)->S0 r
 | [],_,y=>y
 | p :: l,r,y=>tRe l r (a6N p.2.list (tTs l r) y)
theorem b8q:∀ (l:List (Nat × SSh)) (r:List Type) (x:b3s l) (y:S0 r),tOf l r (tTo l r x y)=x/\tRe l r (tTo l r x y)=y
 | [],_,_,_=>⟨rfl,rfl⟩
 | p :: l,r,x,y=>by
  obtain⟨h1,h2⟩:=b8q l r x.2 y
  obtain⟨h3,h4⟩:=a4k p.2.list (tTs l r) x.1 (tTo l r x.2 y)
  unfold tTo tOf tRe
  rw [h3,h4,h1,h2]
  exact⟨rfl,rfl⟩
abbrev bTs:List (Nat × List Sh)->List Type->List Type
 | [],r=>r
 | p :: l,r=>a2Q p.2 (bTs l r)
def bTo:(l:List (Nat × List Sh))->(r:List Type)->b4c l->S0 r->S0 (bTs l r)
 | [],_,_,y=>y
 | p :: l,r,x,y=>a7Q p.2 (bTs l r) x.1 (bTo l r x.2 y)
def bOf:(l:List (Nat × List Sh))->(r:List Type)->S0 (bTs l r)->b4c l
 | [],_,_=>()
 | p :: l,r,y=>(a8X p.2 (bTs l r) y,bOf l r (a6N p.2 (bTs l r) y))
def bRe:(l:List (Nat × List Sh))->(r:List Type)->S0 (bTs l r)->S0 r
 | [],_,y=>y
 | p :: l,r,y=>bRe l r (a6N p.2 (bTs l r) y)
theorem b8r:∀ (l:List (Nat × List Sh)) (r:List Type) (x:b4c l) (y:S0 r),bOf l r (bTo l r x y)=x/\bRe l r (bTo l r x y)=y
 | [],_,_,_=>⟨rfl,rfl⟩
 | p :: l,r,x,y=>by
  obtain⟨h1,h2⟩:=b8r l r x.2 y
  obtain⟨h3,h4⟩:=a4k p.2 (bTs l r) x.1 (bTo l r x.2 y)
  unfold bTo bOf bRe
  rw [h3,h4,h1,h2]
  exact⟨rfl,rfl⟩
abbrev rTs:List (Nat × U × TypeId × Bool)->List Type
 | []=>[]
 | p :: l=>List p.2.1.den :: rTs l
def rTo:(l:List (Nat × U × TypeId × Bool))->b4d l->S0 (rTs l)
 | [],_=>()
 | _ :: l,x=>a1f (rTs l) x.1 (rTo l x.2)
def rOf:(l:List (Nat × U × TypeId × Bool))->S0 (rTs l)->b4d l
 | [],_=>()
 | _ :: l,y=>(fhd (rTs l) y,rOf l (ftl (rTs l) y))
theorem b8s:∀ (l:List (Nat × U × TypeId × Bool)) (x:b4d l),rOf l (rTo l x)=x
 | [],_=>rfl
 | _ :: l,x=>by
  unfold rTo rOf
  rw [S1,S2,b8s l x.2];rfl
abbrev Lay.fl (L:Lay):Type:=S0 (tTs L.t (bTs L.b (rTs L.r)))
def vw (L:Lay):Vw L L.fl:=
 ⟨fun x=>tTo L.t (bTs L.b (rTs L.r)) x.1 (bTo L.b (rTs L.r) x.2.1 (rTo L.r x.2.2)),
  fun y=>(tOf L.t (bTs L.b (rTs L.r)) y,bOf L.b (rTs L.r) (tRe L.t (bTs L.b (rTs L.r)) y),rOf L.r (bRe L.b (rTs L.r) (tRe L.t (bTs L.b (rTs L.r)) y))),
  fun x=>by
  obtain⟨h1,h2⟩:=b8q L.t (bTs L.b (rTs L.r)) x.1 (bTo L.b (rTs L.r) x.2.1 (rTo L.r x.2.2))
  obtain⟨h3,h4⟩:=b8r L.b (rTs L.r) x.2.1 (rTo L.r x.2.2)
  simp only [h1,h2,h3,h4,b8s];rfl⟩
abbrev An.lp {R:Type} (L:Lay) (G:L.fl->Option (L.fl ⊕ R)) (a:An (L.fl ⊕ R)):An R:= .loop L (vw L) G a
abbrev An.ct {R:Type} (L:Lay) (F:L.fl->Option R) (a b:An R):An R:= .cut L (vw L) F a b
abbrev zd (k:Nat) (u:U):Nat × SSh:=(k,.one (.d u))
abbrev zi (k:Nat):Nat × SSh:=(k,.one (.d (.int .i64)))
abbrev zr (k j:Nat):Nat × SSh:=(k,.one (.row (1000000 + j)))
abbrev zp (k j o:Nat):Nat × SSh:=(k,.one (.ptr (1000000 + j) o))
mutual
def oT:OT->List Type->List Type
 | .d u,r=>u.den :: r
 | .fn _,r=>r
 | .npt,r=>r
 | .it _ u _,r=>u.den :: r
 | .clo _ u,r=>u.den :: r
 | .e u,r=>u.den :: r
 | .row u _,r=>List u.den :: r
 | .box ts,r=>oTs ts r
def oTs:OTs->List Type->List Type
 | .nil,r=>r
 | .cons t ts,r=>oT t (oTs ts r)
end
mutual
def oTo:(t:OT)->(r:List Type)->t.den->S0 r->S0 (oT t r)
 | .d _,r,x,y=>a1f r x y
 | .fn _,_,_,y=>y
 | .npt,_,_,y=>y
 | .it _ _ _,r,x,y=>a1f r x y
 | .clo _ _,r,x,y=>a1f r x y
 | .e _,r,x,y=>a1f r x y
 | .row _ _,r,x,y=>a1f r x y
 | .box ts,r,x,y=>a8Y ts r x y
def a8Y:(ts:OTs)->(r:List Type)->ts.den->S0 r->S0 (oTs ts r)
 | .nil,_,_,y=>y
 | .cons t ts,r,x,y=>oTo t (oTs ts r) x.1 (a8Y ts r x.2 y)
end
mutual
def oOf:(t:OT)->(r:List Type)->S0 (oT t r)->t.den
 | .d _,r,y=>fhd r y
 | .fn _,_,_=>()
 | .npt,_,_=>()
 | .it _ _ _,r,y=>fhd r y
 | .clo _ _,r,y=>fhd r y
 | .e _,r,y=>fhd r y
 | .row _ _,r,y=>fhd r y
 | .box ts,r,y=>b4h ts r y
def b4h:(ts:OTs)->(r:List Type)->S0 (oTs ts r)->ts.den
 | .nil,_,_=>()
 | .cons t ts,r,y=>(oOf t (oTs ts r) y,b4h ts r (oRe t (oTs ts r) y))
def oRe:(t:OT)->(r:List Type)->S0 (oT t r)->S0 r
 | .d _,r,y=>ftl r y
 | .fn _,_,y=>y
 | .npt,_,y=>y
 | .it _ _ _,r,y=>ftl r y
 | .clo _ _,r,y=>ftl r y
 | .e _,r,y=>ftl r y
 | .row _ _,r,y=>ftl r y
 | .box ts,r,y=>b2r ts r y
def b2r:(ts:OTs)->(r:List Type)->S0 (oTs ts r)->S0 r
 | .nil,_,y=>y
 | .cons t ts,r,y=>b2r ts r (oRe t (oTs ts r) y)
end
mutual
theorem b6A:∀ (t:OT) (r:List Type) (x:t.den) (y:S0 r),oOf t r (oTo t r x y)=x/\oRe t r (oTo t r x y)=y
 | .d _,r,x,y=>⟨S1 r x y,S2 r x y⟩
 | .fn _,_,_,_=>⟨rfl,rfl⟩
 | .npt,_,_,_=>⟨rfl,rfl⟩
 | .it _ _ _,r,x,y=>⟨S1 r x y,S2 r x y⟩
 | .clo _ _,r,x,y=>⟨S1 r x y,S2 r x y⟩
 | .e _,r,x,y=>⟨S1 r x y,S2 r x y⟩
 | .row _ _,r,x,y=>⟨S1 r x y,S2 r x y⟩
 | .box ts,r,x,y=>a6z ts r x y
theorem a6z:∀ (ts:OTs) (r:List Type) (x:ts.den) (y:S0 r),b4h ts r (a8Y ts r x y)=x/\b2r ts r (a8Y ts r x y)=y
 | .nil,_,_,_=>⟨rfl,rfl⟩
 | .cons t ts,r,x,y=>by
  obtain⟨h1,h2⟩:=a6z ts r x.2 y
  obtain⟨h3,h4⟩:=b6A t (oTs ts r) x.1 (a8Y ts r x.2 y)
  show(oOf t (oTs ts r) (oTo t (oTs ts r) x.1 (a8Y ts r x.2 y)),b4h ts r (oRe t (oTs ts r) (oTo t (oTs ts r) x.1 (a8Y ts r x.2 y))))=x/\b2r ts r (oRe t (oTs ts r) (oTo t (oTs ts r) x.1 (a8Y ts r x.2 y)))=y
  rw [h3,h4,h1,h2]
  exact⟨rfl,rfl⟩
end
def aT:AT->List Type->List Type
 | .c t,r=>oT t r
 | .agg ts,r=>oTs ts r
 | .bx ts,r=>oTs ts r
 | .rx u _,r=>List u.den :: r
def aTo:(t:AT)->(r:List Type)->t.den->S0 r->S0 (aT t r)
 | .c t,r,x,y=>oTo t r x y
 | .agg ts,r,x,y=>a8Y ts r x y
 | .bx ts,r,x,y=>a8Y ts r x y
 | .rx _ _,r,x,y=>a1f r x y
def aOf:(t:AT)->(r:List Type)->S0 (aT t r)->t.den
 | .c t,r,y=>oOf t r y
 | .agg ts,r,y=>b4h ts r y
 | .bx ts,r,y=>b4h ts r y
 | .rx _ _,r,y=>fhd r y
def aRe:(t:AT)->(r:List Type)->S0 (aT t r)->S0 r
 | .c t,r,y=>oRe t r y
 | .agg ts,r,y=>b2r ts r y
 | .bx ts,r,y=>b2r ts r y
 | .rx _ _,r,y=>ftl r y
theorem b7L (t:AT) (r:List Type) (x:t.den) (y:S0 r):aOf t r (aTo t r x y)=x/\aRe t r (aTo t r x y)=y:=by
 cases t with
 | c t=>exact b6A t r x y
 | agg ts=>exact a6z ts r x y
 | bx ts=>exact a6z ts r x y
 | rx u e=>exact⟨S1 r x y,S2 r x y⟩
def asT:ATs->List Type
 | .nil=>[]
 | .cons t ts=>aT t (asT ts)
def b1S:(ts:ATs)->ts.den->S0 (asT ts)
 | .nil,_=>()
 | .cons t ts,x=>aTo t (asT ts) x.1 (b1S ts x.2)
def b6B:(ts:ATs)->S0 (asT ts)->ts.den
 | .nil,_=>()
 | .cons t ts,y=>(aOf t (asT ts) y,b6B ts (aRe t (asT ts) y))
theorem b4i:∀ (ts:ATs) (x:ts.den),b6B ts (b1S ts x)=x
 | .nil,_=>rfl
 | .cons t ts,x=>by
  obtain⟨h3,h4⟩:=b7L t (asT ts) x.1 (b1S ts x.2)
  show(aOf t (asT ts) (aTo t (asT ts) x.1 (b1S ts x.2)),b6B ts (aRe t (asT ts) (aTo t (asT ts) x.1 (b1S ts x.2))))=x
  rw [h3,h4,b4i ts x.2];rfl
def pT:PTs->List Type->List Type
 | .nil,r=>r
 | .cons t ts,r=>oTs t (pT ts r)
 | .rcons u _ ts,r=>List u.den :: pT ts r
def pTo:(ts:PTs)->(r:List Type)->ts.den->S0 r->S0 (pT ts r)
 | .nil,_,_,y=>y
 | .cons t ts,r,x,y=>a8Y t (pT ts r) x.1 (pTo ts r x.2 y)
 | .rcons _ _ ts,r,x,y=>a1f (pT ts r) x.1 (pTo ts r x.2 y)
def pOf:(ts:PTs)->(r:List Type)->S0 (pT ts r)->ts.den
 | .nil,_,_=>()
 | .cons t ts,r,y=>(b4h t (pT ts r) y,pOf ts r (b2r t (pT ts r) y))
 | .rcons _ _ ts,r,y=>(fhd (pT ts r) y,pOf ts r (ftl (pT ts r) y))
def pRe:(ts:PTs)->(r:List Type)->S0 (pT ts r)->S0 r
 | .nil,_,y=>y
 | .cons t ts,r,y=>pRe ts r (b2r t (pT ts r) y)
 | .rcons _ _ ts,r,y=>pRe ts r (ftl (pT ts r) y)
theorem b5d:∀ (ts:PTs) (r:List Type) (x:ts.den) (y:S0 r),pOf ts r (pTo ts r x y)=x/\pRe ts r (pTo ts r x y)=y
 | .nil,_,_,_=>⟨rfl,rfl⟩
 | .cons t ts,r,x,y=>by
  obtain⟨h1,h2⟩:=b5d ts r x.2 y
  obtain⟨h3,h4⟩:=a6z t (pT ts r) x.1 (pTo ts r x.2 y)
  show(b4h t (pT ts r) (a8Y t (pT ts r) x.1 (pTo ts r x.2 y)),pOf ts r (b2r t (pT ts r) (a8Y t (pT ts r) x.1 (pTo ts r x.2 y))))=x/\pRe ts r (b2r t (pT ts r) (a8Y t (pT ts r) x.1 (pTo ts r x.2 y)))=y
  rw [h3,h4,h1,h2]
  exact⟨rfl,rfl⟩
 | .rcons _ _ ts,r,x,y=>by
  obtain⟨h1,h2⟩:=b5d ts r x.2 y
  show(fhd (pT ts r) (a1f (pT ts r) x.1 (pTo ts r x.2 y)),pOf ts r (ftl (pT ts r) (a1f (pT ts r) x.1 (pTo ts r x.2 y))))=x/\pRe ts r (ftl (pT ts r) (a1f (pT ts r) x.1 (pTo ts r x.2 y)))=y
  rw [S1,S2,h1,h2]
  exact⟨rfl,rfl⟩
theorem b6C (posts:PTs) (res:ATs) (x:posts.den × res.den):(pOf posts (asT res) (pTo posts (asT res) x.1 (b1S res x.2)),b6B res (pRe posts (asT res) (pTo posts (asT res) x.1 (b1S res x.2))))=x:=by
 obtain⟨h1,h2⟩:=b5d posts (asT res) x.1 (b1S res x.2)
 rw [h1,h2,b4i]
def mkT (args:ATs) (posts:PTs) (res:ATs) (G:args.den->Option (S0 (pT posts (asT res)))):TFn:=
 ⟨args,posts,res,S0 (pT posts (asT res)),G,fun y=>(pOf posts (asT res) y,b6B res (pRe posts (asT res) y)),.none⟩
theorem fnV {P:Program} {T:TypeId->Option TI} (TU:TypeId->Option U) (Γ:List (Nat × TFn)) {f:FuncId} {fn:Func} {c:Code} {args:ATs} {posts:PTs} {res:ATs} {G:args.den->Option (S0 (pT posts (asT res)))} (hT:∀ t i,T t=some i->TOk P t i) (hΓ:∀ p ∈ Γ,FnT P (p.1 % 1000000) p.2)
  (hf:P.funcs[f]?=some fn) (an:An (S0 (pT posts (asT res)))) (hm:P.follows .mixedOrders=true:=by rfl) (hb:fn.body=some c:=by rfl) (hname:(fn.name == "runtime.NumGoroutine")=false:=by rfl) (ha:args.ok=true:=by rfl) (hr:res.ok=true:=by rfl)
  (hok:an.ok T TU (a6u T TU Γ) c (b7r T fn.ntmps fn.results.toList (mkT args posts res G) fun x=>pTo posts (asT res) x.1 (b1S res x.2)):=by repeat' first | refine⟨?_,?_⟩ | (intro v;kernel_rfl) | exact True.intro)
  (hF:∀ a,G a=b5a T TU Γ fn.ntmps fn.results.toList (mkT args posts res G) (fun x=>pTo posts (asT res) x.1 (b1S res x.2)) an c a:=by intro a;kernel_rfl):FnT P f (mkT args posts res G):=
 fnT hT hm hΓ hf hb hname ha hr (fun x=>pTo posts (asT res) x.1 (b1S res x.2)) (fun x=>b6C posts res x) an hok hF
end Go.Proofs.Ythadhfbkhldblaa.Am
namespace Go.Proofs.Ythadhfbkhldblaa.Am
open Go
end Go.Proofs.Ythadhfbkhldblaa.Am
namespace Go.Proofs.Ythadhfbkhldblaa.Am
open Go
def U.flat:U->Bool
 | .sl _=>false
 | .pr a b=>a.flat && b.flat
 | .arr _ _=>false
 | _=>true
def U.encV:(u:U)->u.den->List Value
 | .int k,n=>[.int k n]
 | .byte,x=>[.int .u8 (UInt8.toNat x:Nat)]
 | .bool,b=>[.bool b]
 | .str,l=>[.string ⟨List.toArray l⟩]
 | .sl _,_=>[.bool false]
 | .pr a b,x=>a.encV x.1 ++ b.encV x.2
 | .arr n u,_=>List.replicate (n * u.size) (.bool false)
theorem U.encV_len:(u:U)->(x:u.den)->(u.encV x).length=u.size
 | .int _,_=>rfl
 | .byte,_=>rfl
 | .bool,_=>rfl
 | .str,_=>rfl
 | .sl _,_=>rfl
 | .pr a b,x=>by rw [U.encV,List.length_append,a.encV_len,b.encV_len];rfl
 | .arr n u,v=>by rw [U.encV,List.length_replicate];rfl
theorem U.encV_one:(u:U)->(x:u.den)->∀ v ∈ u.encV x,v.oneCell'=true
 | .int _,_,v,h=>by simp only [U.encV,List.mem_singleton] at h;subst h;rfl
 | .byte,_,v,h=>by simp only [U.encV,List.mem_singleton] at h;subst h;rfl
 | .bool,_,v,h=>by simp only [U.encV,List.mem_singleton] at h;subst h;rfl
 | .str,_,v,h=>by simp only [U.encV,List.mem_singleton] at h;subst h;rfl
 | .sl _,_,v,h=>by simp only [U.encV,List.mem_singleton] at h;subst h;rfl
 | .pr a b,x,v,h=>by
  rw [U.encV] at h
  rcases List.mem_append.1 h with h | h
  ·exact a.encV_one _ v h
  ·exact b.encV_one _ v h
 | .arr n u,_,v,h=>by rw [U.encV] at h;rw [List.eq_of_mem_replicate h];rfl
section
variable {I:Nat->Nat->Prop} {w:World}
theorem D6.split:∀ {ds es:List DV} {xs:List Value},D6 I w (ds ++ es) xs->∃ a b,xs=a ++ b/\D6 I w ds a/\D6 I w es b
 | [],_,xs,h=>⟨[],xs,rfl,by simp [D6],h⟩
 | d :: ds,es,xs,h=>by
  simp only [List.cons_append,D6] at h
  obtain⟨x,r,rfl,h2,h3⟩:=h
  obtain⟨a,b,rfl,h4,h5⟩:=D6.split h3
  exact⟨x :: a,b,rfl,by simp only [D6];exact⟨x,a,rfl,h2,h4⟩,h5⟩
theorem U.encV_of:(u:U)->u.flat=true->(x:u.den)->{vs:List Value}->D6 I w (u.enc x) vs->vs=u.encV x
 | .int _,_,x,vs,h=>by simp only [U.enc,D6,DVr] at h;obtain⟨y,r,rfl,⟨rfl,_⟩,rfl⟩:=h;rfl
 | .byte,_,x,vs,h=>by simp only [U.enc,D6,DVr] at h;obtain⟨y,r,rfl,⟨rfl,_⟩,rfl⟩:=h;rfl
 | .bool,_,x,vs,h=>by simp only [U.enc,D6,DVr] at h;obtain⟨y,r,rfl,⟨rfl,_⟩,rfl⟩:=h;rfl
 | .str,_,x,vs,h=>by simp only [U.enc,D6,DVr] at h;obtain⟨y,r,rfl,⟨rfl,_⟩,rfl⟩:=h;rfl
 | .sl _,hf,_,_,_=>by cases hf
 | .arr _ _,hf,_,_,_=>by cases hf
 | .pr a b,hf,x,vs,h=>by
  have hf':(a.flat && b.flat)=true:=hf
  rw [Bool.and_eq_true] at hf'
  rw [U.enc] at h
  obtain⟨p,q,rfl,h1,h2⟩:=D6.split h
  rw [U.encV,a.encV_of hf'.1 _ h1,b.encV_of hf'.2 _ h2]
theorem U.encV_to:(u:U)->u.flat=true->(x:u.den)->D6 I w (u.enc x) (u.encV x)
 | .int _,_,x=>by simp only [U.enc,U.encV,D6,DVr];exact⟨_,_,rfl,⟨rfl,rfl⟩,rfl⟩
 | .byte,_,x=>by simp only [U.enc,U.encV,D6,DVr];exact⟨_,_,rfl,⟨rfl,rfl⟩,rfl⟩
 | .bool,_,x=>by simp only [U.enc,U.encV,D6,DVr];exact⟨_,_,rfl,⟨rfl,rfl⟩,rfl⟩
 | .str,_,x=>by simp only [U.enc,U.encV,D6,DVr];exact⟨_,_,rfl,⟨rfl,rfl⟩,rfl⟩
 | .sl _,hf,_=>by cases hf
 | .arr _ _,hf,_=>by cases hf
 | .pr a b,hf,x=>by
  have hf':(a.flat && b.flat)=true:=hf
  rw [Bool.and_eq_true] at hf'
  rw [U.enc,U.encV]
  exact D6.app (a.encV_to hf'.1 _) (b.encV_to hf'.2 _)
end
end Go.Proofs.Ythadhfbkhldblaa.Am
namespace Go.Proofs.Ythadhfbkhldblaa.Am
open Go
def I9 (n:Int):Int:=IntKind.wrap .i64 n
def a1J (n:Int):Int:=IntKind.wrap .u64 n
end Go.Proofs.Ythadhfbkhldblaa.Am
namespace Go.Proofs.Ythadhfbkhldblaa.Am
open Go
def Ok {α:Type} (o:Option α) (p:α->Prop):Prop:=∃ r,o=some r/\p r
theorem Ok.mono {α:Type} {o:Option α} {p q:α->Prop} (h:Ok o p) (k:∀ r,p r->q r):Ok o q:=by
 obtain⟨r,h1,h2⟩:=h;exact⟨r,h1,k r h2⟩
theorem A7 {α:Type} (x:α) (p:α->Prop):Ok (some x) p ↔ p x:=⟨fun⟨r,h1,h2⟩=>by injection h1 with h1;rw [h1];exact h2,fun h=>⟨x,rfl,h⟩⟩
theorem N9 {α:Type} (b:Bool) (k:Option α) (p:α->Prop):Ok (chk b k) p ↔ b=true/\Ok k p:=by
 cases b
 ·exact⟨fun⟨r,h,_⟩=>(by cases h),fun h=>(by cases h.1)⟩
 ·exact⟨fun h=>⟨rfl,h⟩,fun h=>h.2⟩
theorem B3 {α:Type} (b:Bool) (x y:Option α) (p:α->Prop):Ok (sel b x y) p ↔ (b=true->Ok x p)/\(b=false->Ok y p):=by
 cases b
 ·exact⟨fun h=>⟨fun e=>(by cases e),fun _=>h⟩,fun h=>h.2 rfl⟩
 ·exact⟨fun h=>⟨fun _=>h,fun e=>(by cases e)⟩,fun h=>h.1 rfl⟩
theorem B5 {α β:Type} (o:Option α) (f:α->Option β) (p:β->Prop):Ok (o.bind f) p ↔ Ok o fun r=>Ok (f r) p:=by
 cases o with
 | none=>exact⟨fun⟨r,h,_⟩=>(by cases h),fun⟨r,h,_⟩=>(by cases h)⟩
 | some x=>rw [A7];exact Iff.rfl
theorem P0 {α β:Type} (o:Option α) (f:α->β) (p:β->Prop):Ok (o.map f) p ↔ Ok o fun r=>p (f r):=by
 cases o with
 | none=>exact⟨fun⟨r,h,_⟩=>(by cases h),fun⟨r,h,_⟩=>(by cases h)⟩
 | some x=>rw [A7,Option.map_some,A7]
theorem a1N {α:Type} {o:Option α} {x:α}:Ok o (· =x) ↔ o=some x:=⟨fun⟨r,h,e⟩=>by rw [h,e],fun h=>⟨x,h,rfl⟩⟩
def Nxt {S R:Type} (p:R->Prop) (q:S->Prop):S ⊕ R->Prop
 | .inl z=>q z
 | .inr r=>p r
theorem C9 {S R:Type} (p:R->Prop) (q:S->Prop) (z:S):Nxt p q (.inl z)=q z:=rfl
theorem H2 {S R:Type} (p:R->Prop) (q:S->Prop) (r:R):Nxt p q (.inr r)=p r:=rfl
theorem Y3 {n:Int} (h0: -9223372036854775808<=n) (h1:n<=9223372036854775807):I9 n=n:=by
 rw [I9,IntKind.wrap_i64];omega
theorem b2c {n:Int} (h0:0<=n) (h1:n < 18446744073709551616):a1J n=n:=by
 rw [a1J,IntKind.wrap_u64];omega
end Go.Proofs.Ythadhfbkhldblaa.Am
