/- Texts laid together: TmCall, TmCall2, TmLay, TmExec, TmFn, TmVw, TmClone, TmFlat, TmPlain, TmAid. No conditions. -/
import Derived.Test.YtbipjlehhlkghaaGreatDoorKC
import Derived.KernelRfl
namespace Go.Proofs.YtbipjlehhlkghaaGreatDoor.Am
open Go
def d1Q {α:Type} (p:List DV->Option (α × List DV)):List (List DV)->Option (List α)
 | []=>some []
 | e :: es=>(p e).bind fun a=>(d1Q p es).map (a.1 :: ·)
def d6h {α:Type} (p:List DV->Option (α × List DV)):(n:Nat)->List DV->Option (Vector α n × List DV)
 | 0,l=>some (#v[],l)
 | n + 1,l=>(d6h p n l).bind fun a=>(p a.2).map fun b=>(a.1.push b.1,b.2)
def U.dec:(u:U)->List DV->Option (u.den × List DV)
 | .int _,l=>match l with
  | .v (.int _ n) :: r=>some (n,r)
  | _=>none
 | .byte,l=>match l with
  | .v (.int _ n) :: r=>some (UInt8.ofNat n.toNat,r)
  | _=>none
 | .bool,l=>match l with
  | .v (.bool b) :: r=>some (b,r)
  | _=>none
 | .str,l=>match l with
  | .v (.string s) :: r=>some (s.data.toList,r)
  | _=>none
 | .sl u,l=>match l with
  | .sl es :: r=>(d1Q u.dec es).map fun x=>(x,r)
  | _=>none
 | .pr a b,l=>(a.dec l).bind fun x=>(b.dec x.2).map fun y=>((x.1,y.1),y.2)
 | .arr n u,l=>d6h u.dec n l
theorem b9j {α:Type} {p:List DV->Option (α × List DV)} {f:α->List DV} (h:∀ x r,p (f x ++ r)=some (x,r)):∀ (l:List α),d1Q p (l.map f)=some l
 | []=>rfl
 | x :: l=>by
  have:=h x []
  rw [List.append_nil] at this
  rw [List.map_cons,d1Q,this,Option.bind_some,b9j h l];rfl
theorem c7D {α:Type} {p:List DV->Option (α × List DV)} {f:α->List DV} (h:∀ x r,p (f x ++ r)=some (x,r)):∀ (n:Nat) (v:Vector α n) (r:List DV),d6h p n (v.toList.flatMap f ++ r)=some (v,r)
 | 0,v,r=>by
  have:v= #v[]:=by ext i hi;omega
  subst this
  rfl
 | n + 1,v,r=>by
  have e:v=v.pop.push v.back:=(Vector.push_pop_back v).symm
  rw [e,Vector.toList_push,List.flatMap_append,List.append_assoc,d6h,c7D h n v.pop,Option.bind_some]
  simp only [List.flatMap_cons,List.flatMap_nil,List.append_nil,h,Option.map_some]
theorem d0a (x:UInt8) (r:List DV):some (UInt8.ofNat ((UInt8.toNat x:Nat):Int).toNat,r)=some (x,r):=by
 rw [Int.toNat_natCast,UInt8.ofNat_toNat]
theorem U.dec_enc:∀ (u:U) (x:u.den) (r:List DV),u.dec (u.enc x ++ r)=some (x,r)
 | .int _,_,_=>rfl
 | .byte,x,r=>d0a x r
 | .bool,_,_=>rfl
 | .str,_,_=>rfl
 | .sl u,l,r=>by
  show(d1Q u.dec (List.map u.enc l)).map (fun x=>(x,r))=some (l,r)
  rw [b9j (U.dec_enc u) l];rfl
 | .pr a b,x,r=>by
  show(a.dec ((a.enc x.1 ++ b.enc x.2) ++ r)).bind (fun y=>(b.dec y.2).map fun z=>((y.1,z.1),z.2))=some (x,r)
  rw [List.append_assoc,U.dec_enc a,Option.bind_some,U.dec_enc b];rfl
 | .arr n u,v,r=>c7D (U.dec_enc u) n v r
mutual
inductive OT where
 | d (u:U)
 | npt
 | it (t:TypeId) (u:U) (h:u.size=1)
 | fn (f:FuncId)
 | clo (f:FuncId) (u:U)
 | e (u:U)
 | row (u:U) (e:TypeId)
 | box (ts:OTs)
inductive OTs where
 | nil
 | cons (t:OT) (ts:OTs)
end
mutual
def OT.den:OT->Type
 | .d u=>u.den
 | .fn _=>Unit
 | .npt=>Unit
 | .it _ u _=>u.den
 | .clo _ u=>u.den
 | .e u=>u.den
 | .row u _=>List u.den
 | .box ts=>ts.den
def OTs.den:OTs->Type
 | .nil=>Unit
 | .cons t ts=>t.den × ts.den
end
mutual
def OT.ocs:(t:OT)->t.den->List OC
 | .d u,x=>(u.enc x).map .d
 | .fn f,_=>[.d (.v (.func (.func f) #[] #[]))]
 | .npt,_=>[.d (.v (.pointer none))]
 | .it t u _,x=>[.d (.it t (b87 (u.enc x)))]
 | .clo f u,x=>[.d (.clo f (u.enc x))]
 | .e u,x=>[.e (u.enc x)]
 | .row u e,l=>[.row u.size e (List.map u.enc l)]
 | .box ts,x=>[.box (ts.ocs x)]
def OTs.ocs:(ts:OTs)->ts.den->List OC
 | .nil,_=>[]
 | .cons t ts,x=>t.ocs x.1 ++ ts.ocs x.2
end
mutual
def OT.sh:OT->List CSh
 | .d u=>List.replicate u.size .D
 | .fn _=>[.D]
 | .npt=>[.D]
 | .it _ _ _=>[.D]
 | .clo _ _=>[.D]
 | .e _=>[.E]
 | .row u e=>[.R u.size e]
 | .box ts=>[.B ts.sh]
def OTs.sh:OTs->List CSh
 | .nil=>[]
 | .cons t ts=>t.sh ++ ts.sh
end
def unD:List OC->Option (List DV)
 | []=>some []
 | .d x :: r=>(unD r).map (x :: ·)
 | _ :: _=>none
theorem d1R:∀ (l:List DV),unD (l.map .d)=some l
 | []=>rfl
 | x :: l=>by rw [List.map_cons,unD,d1R l];rfl
mutual
def OT.dec:(t:OT)->List OC->Option (t.den × List OC)
 | .d u,l=>(unD (l.take u.size)).bind fun ds=>(u.dec ds).map fun x=>(x.1,l.drop u.size)
 | .fn _,l=>some ((),l.drop 1)
 | .npt,l=>some ((),l.drop 1)
 | .it _ u _,l=>match l with
  | .d (.it _ d) :: r=>(u.dec [d]).map fun y=>(y.1,r)
  | _=>none
 | .clo _ u,l=>match l with
  | .d (.clo _ ds) :: r=>(u.dec ds).map fun y=>(y.1,r)
  | _=>none
 | .e u,l=>match l with
  | .e ds :: r=>(u.dec ds).map fun y=>(y.1,r)
  | _=>none
 | .row u _,l=>match l with
  | .row _ _ es :: r=>(d1Q u.dec es).map fun x=>(x,r)
  | _=>none
 | .box ts,l=>match l with
  | .box cs :: r=>(ts.dec cs).map fun x=>(x.1,r)
  | _=>none
def OTs.dec:(ts:OTs)->List OC->Option (ts.den × List OC)
 | .nil,l=>some ((),l)
 | .cons t ts,l=>(t.dec l).bind fun x=>(ts.dec x.2).map fun y=>((x.1,y.1),y.2)
end
theorem d6J (u:U) (x:u.den) (r:List OC):(unD ((((u.enc x).map OC.d) ++ r).take u.size)).bind (fun ds=>(u.dec ds).map fun y=>(y.1,(((u.enc x).map OC.d) ++ r).drop u.size))=some (x,r):=by
 have hl:((u.enc x).map OC.d).length=u.size:=by rw [List.length_map,U.enc_len]
 rw [<-hl,List.take_left,List.drop_left,d1R,Option.bind_some]
 have:=U.dec_enc u x []
 rw [List.append_nil] at this
 rw [this];rfl
theorem d6K (u:U) (x:u.den):((u.enc x).map OC.d).length=(List.replicate u.size CSh.D).length:=by
 rw [List.length_map,U.enc_len,List.length_replicate]
theorem c7E (u:U) (x:u.den) (r:List OC):(u.dec (u.enc x)).map (fun y=>(y.1,r))=some (x,r):=by
 have h1:=U.dec_enc u x []
 rw [List.append_nil] at h1
 rw [h1];rfl
theorem d4O (u:U) (h:u.size=1) (x:u.den) (r:List OC):(u.dec [b87 (u.enc x)]).map (fun y=>(y.1,r))=some (x,r):=by
 have h1:=U.dec_enc u x []
 rw [List.append_nil] at h1
 rw [c3G (ds:=u.enc x) (by rw [U.enc_len,h]),h1];rfl
mutual
theorem OT.dec_ocs:∀ (t:OT) (x:t.den) (r:List OC),t.dec (t.ocs x ++ r)=some (x,r)
 | .d u,x,r=>d6J u x r
 | .fn _,_,_=>rfl
 | .npt,_,_=>rfl
 | .it t u h,x,r=>by
  exact d4O u h x r
 | .clo f u,x,r=>c7E u x r
 | .e u,x,r=>c7E u x r
 | .row u _,l,r=>by
  show(d1Q u.dec (List.map u.enc l)).map (fun x=>(x,r))=some (l,r)
  rw [b9j (U.dec_enc u) l];rfl
 | .box ts,x,r=>by
  show(ts.dec (ts.ocs x)).map (fun y=>(y.1,r))=some (x,r)
  have:=OTs.dec_ocs ts x []
  rw [List.append_nil] at this
  rw [this];rfl
theorem OTs.dec_ocs:∀ (ts:OTs) (x:ts.den) (r:List OC),ts.dec (ts.ocs x ++ r)=some (x,r)
 | .nil,_,_=>rfl
 | .cons t ts,x,r=>by
  show(t.dec ((t.ocs x.1 ++ ts.ocs x.2) ++ r)).bind (fun y=>(ts.dec y.2).map fun z=>((y.1,z.1),z.2))=some (x,r)
  rw [List.append_assoc,OT.dec_ocs t,Option.bind_some,OTs.dec_ocs ts];rfl
end
def c5q:List OC->OC
 | [x]=>x
 | _=> .row 0 0 []
inductive AT where
 | c (t:OT)
 | agg (ts:OTs)
 | bx (ts:OTs)
 | rx (u:U) (e:TypeId)
def AT.den:AT->Type
 | .c t=>t.den
 | .agg ts=>ts.den
 | .bx ts=>ts.den
 | .rx u _=>List u.den
def AT.oa:(t:AT)->t.den->OA
 | .c t,x=> .c (c5q (t.ocs x))
 | .agg ts,x=> .agg (ts.ocs x)
 | .bx ts,x=> .bx (ts.ocs x)
 | .rx u e,l=> .rx u.size e (List.map u.enc l)
def AT.ok:AT->Bool
 | .c t=>Nat.beq t.sh.length 1
 | _=>true
def AT.ash:AT->ASh
 | .c t=> .c (t.sh.headD .D)
 | .agg ts=> .agg ts.sh
 | .bx ts=> .bx ts.sh
 | .rx u e=> .rx u.size e
def AT.dec:(t:AT)->OA->Option t.den
 | .c t,x=>match x with
  | .c y=>(t.dec [y]).map (·.1)
  | _=>none
 | .agg ts,x=>match x with
  | .agg ys=>(ts.dec ys).map (·.1)
  | _=>none
 | .bx ts,x=>match x with
  | .bx ys=>(ts.dec ys).map (·.1)
  | _=>none
 | .rx u _,x=>match x with
  | .rx _ _ es=>d1Q u.dec es
  | _=>none
mutual
theorem OT.len:∀ (t:OT) (x:t.den),(t.ocs x).length=t.sh.length
 | .d u,x=>d6K u x
 | .fn _,_=>rfl
 | .npt,_=>rfl
 | .it _ _ _,_=>rfl
 | .clo _ _,_=>rfl
 | .e _,_=>rfl
 | .row _ _,_=>rfl
 | .box _,_=>rfl
theorem OTs.len:∀ (ts:OTs) (x:ts.den),(ts.ocs x).length=ts.sh.length
 | .nil,_=>rfl
 | .cons t ts,x=>by
  show(t.ocs x.1 ++ ts.ocs x.2).length=(t.sh ++ ts.sh).length
  rw [List.length_append,List.length_append,OT.len t,OTs.len ts]
end
theorem b1Y {l:List OC} (h:l.length=1):l=[c5q l]:=by
 match l,h with
 | [x],_=>rfl
theorem AT.dec_oa (t:AT) (hk:t.ok=true) (x:t.den):t.dec (t.oa x)=some x:=by
 cases t with
 | c t=>
  have h1:(t.ocs x).length=1:=by rw [OT.len t x];exact Nat.eq_of_beq_eq_true hk
  have:=OT.dec_ocs t x []
  rw [List.append_nil,b1Y h1] at this
  show(t.dec [c5q (t.ocs x)]).map (·.1)=some x
  rw [this];rfl
 | agg ts=>
  have:=OTs.dec_ocs ts x []
  rw [List.append_nil] at this
  show(ts.dec (ts.ocs x)).map (·.1)=some x
  rw [this];rfl
 | bx ts=>
  have:=OTs.dec_ocs ts x []
  rw [List.append_nil] at this
  show(ts.dec (ts.ocs x)).map (·.1)=some x
  rw [this];rfl
 | rx u e=>exact b9j (U.dec_enc u) x
inductive ATs where
 | nil
 | cons (t:AT) (ts:ATs)
def ATs.den:ATs->Type
 | .nil=>Unit
 | .cons t ts=>t.den × ts.den
def ATs.oas:(ts:ATs)->ts.den->List OA
 | .nil,_=>[]
 | .cons t ts,x=>t.oa x.1 :: ts.oas x.2
def ATs.ok:ATs->Bool
 | .nil=>true
 | .cons t ts=>t.ok && ts.ok
def ATs.sh:ATs->List ASh
 | .nil=>[]
 | .cons t ts=>t.ash :: ts.sh
def ATs.dec:(ts:ATs)->List OA->Option ts.den
 | .nil,_=>some ()
 | .cons t ts,l=>match l with
  | x :: r=>(t.dec x).bind fun a=>(ts.dec r).map fun b=>(a,b)
  | []=>none
theorem ATs.dec_oas:∀ (ts:ATs),ts.ok=true->∀ (x:ts.den),ts.dec (ts.oas x)=some x
 | .nil,_,_=>rfl
 | .cons t ts,h,x=>by
  simp only [ATs.ok,Bool.and_eq_true] at h
  show(t.dec (t.oa x.1)).bind (fun a=>(ts.dec (ts.oas x.2)).map fun b=>(a,b))=some x
  rw [AT.dec_oa t h.1,Option.bind_some,ATs.dec_oas ts h.2];rfl
inductive PTs where
 | nil
 | cons (t:OTs) (ts:PTs)
 | rcons (u:U) (e:TypeId) (ts:PTs)
def PTs.den:PTs->Type
 | .nil=>Unit
 | .cons t ts=>t.den × ts.den
 | .rcons u _ ts=>List u.den × ts.den
def PTs.ocs:(ts:PTs)->ts.den->List OA
 | .nil,_=>[]
 | .cons t ts,x=> .bx (t.ocs x.1) :: ts.ocs x.2
 | .rcons u e ts,x=> .rx u.size e (List.map u.enc x.1) :: ts.ocs x.2
structure TFn:Type 1 where
 args:ATs
 posts:PTs
 res:ATs
 R:Type
 G:args.den->Option R
 out:R->posts.den × res.den
 sp:Sp
def U.noSl:U->Bool
 | .sl _=>false
 | .pr a b=>a.noSl && b.noSl
 | .arr _ u=>u.noSl
 | _=>true
theorem U.noSl_ok:∀ (u:U),u.noSl=true->∀ (x:u.den),(List.map OC.d (u.enc x)).all b5j=true
 | .int _,_,_=>rfl
 | .byte,_,_=>rfl
 | .bool,_,_=>rfl
 | .str,_,_=>rfl
 | .sl _,h,_=>by cases h
 | .pr a b,h,x=>by
  have h':(a.noSl && b.noSl)=true:=h
  rw [Bool.and_eq_true] at h'
  rw [U.enc,List.map_append,List.all_append,a.noSl_ok h'.1,b.noSl_ok h'.2];rfl
 | .arr n u,h,v=>by
  have h':u.noSl=true:=h
  rw [U.enc,List.all_eq_true]
  intro c hc
  obtain⟨d,hd,rfl⟩:=List.mem_map.1 hc
  obtain⟨y,_,hy⟩:=List.mem_flatMap.1 hd
  exact List.all_eq_true.1 (u.noSl_ok h' y) _ (List.mem_map.2 ⟨d,hy,rfl⟩)
def OT.flat:OT->Bool
 | .d u=>u.noSl
 | _=>false
theorem OT.flat_ok (t:OT) (h:t.flat=true) (x:t.den):(t.ocs x).all b5j=true:=by
 cases t <;> first | cases h | skip
 case d u=>exact u.noSl_ok h x
def OTs.flat:OTs->Bool
 | .nil=>true
 | .cons t ts=>t.flat && ts.flat
theorem OTs.flat_ok:∀ (ts:OTs),ts.flat=true->∀ (x:ts.den),(ts.ocs x).all b5j=true
 | .nil,_,_=>rfl
 | .cons t ts,h,x=>by
  have h':(t.flat && ts.flat)=true:=h
  rw [Bool.and_eq_true] at h'
  rw [OTs.ocs,List.all_append,t.flat_ok h'.1,ts.flat_ok h'.2];rfl
def AT.flat:AT->Bool
 | .c t=>t.flat
 | .agg ts=>ts.flat
 | _=>false
def ATs.flat:ATs->Bool
 | .nil=>true
 | .cons t ts=>t.flat && ts.flat
def PTs.isNil:PTs->Bool
 | .nil=>true
 | _=>false
theorem PTs.isNil_ok (ts:PTs) (h:ts.isNil=true) (x:ts.den):ts.ocs x=[]:=by
 cases ts <;> first | rfl | cases h
def TFn.flat (S:TFn):Bool:=S.posts.isNil && S.res.flat
def TFn.val (S:TFn) (xs:List OA):Option S.R:=(S.args.dec xs).bind S.G
def TFn.spec (S:TFn):b3P:=⟨S.args.sh,fun xs=>∃ a r,xs=S.args.oas a/\S.G a=some r,
 fun xs=>match S.val xs with | some r=>S.posts.ocs (S.out r).1 | none=>[],fun xs=>match S.val xs with | some r=>S.res.oas (S.out r).2 | none=>[],S.sp,S.flat⟩
theorem TFn.val_of {S:TFn} (hk:S.args.ok=true) {a:S.args.den} {r:S.R} (h:S.G a=some r):S.val (S.args.oas a)=some r:=by
 unfold TFn.val
 rw [ATs.dec_oas _ hk,Option.bind_some,h]
theorem TFn.post_of {S:TFn} (hk:S.args.ok=true) {a:S.args.den} {r:S.R} (h:S.G a=some r):S.spec.post (S.args.oas a)=S.posts.ocs (S.out r).1:=by
 show(match S.val (S.args.oas a) with | some r=>S.posts.ocs (S.out r).1 | none=>[])=_
 rw [S.val_of hk h]
theorem TFn.res_of {S:TFn} (hk:S.args.ok=true) {a:S.args.den} {r:S.R} (h:S.G a=some r):S.spec.res (S.args.oas a)=S.res.oas (S.out r).2:=by
 show(match S.val (S.args.oas a) with | some r=>S.res.oas (S.out r).2 | none=>[])=_
 rw [S.val_of hk h]
structure Tt (α:Type) where
 x:α
 rest:List TC
 fz:List Nat
 ids:List (Nat ⊕ Nat)
mutual
def b6O:(t:OT)->List TC->TQ (Tt t.den)
 | .d u,ps=>(c9d u ps).bind fun p=> .ret ⟨p.x,p.rest,p.fz,[]⟩
 | .npt,ps=>match ps with
  | .npt :: rest=> .ret ⟨(),rest,[],[]⟩
  | _=> .fail
 | .it t u _,ps=>match ps with
  | .it t' v x :: rest=>match decEq t' t with
   | .isTrue _=>match decEq v u with
    | .isTrue hu=> .ret ⟨a94 hu x,rest,[],[]⟩
    | .isFalse _=> .fail
   | .isFalse _=> .fail
  | _=> .fail
 | .clo f u,ps=>match ps with
  | .clo g v x :: rest=>match decEq g f with
   | .isTrue _=>match decEq v u with
    | .isTrue hu=> .ret ⟨a94 hu x,rest,[],[]⟩
    | .isFalse _=> .fail
   | .isFalse _=> .fail
  | _=> .fail
 | .e u,ps=>match ps with
  | .ep v x off :: rest=>match decEq v u with
   | .isTrue hu=> .req (Nat.beq off 0) (.ret ⟨a94 hu x,rest,[],[]⟩)
   | .isFalse _=> .fail
  | _=> .fail
 | .fn f,ps=>match ps with
  | .fn g :: rest=>match decEq g f with
   | .isTrue _=> .ret ⟨(),rest,[],[]⟩
   | .isFalse _=> .fail
  | _=> .fail
 | .row u e,ps=>match ps with
  | .row id ver :: rest=> .rdR id fun r=>match r.c with
   | some R=>match decEq R.u u with
    | .isTrue h=> .req (Nat.beq ver r.ver && Nat.beq R.e e && !R.fr) (.ret ⟨(h ▸ R.l:List u.den),rest,[],[.inr id]⟩)
    | .isFalse _=> .fail
   | none=> .fail
  | .nil :: rest=> .req (decide (0 < u.size/\e < a6Y)) (.ret ⟨([]:List u.den),rest,[],[]⟩)
  | _=> .fail
 | .box ts,ps=>match ps with
  | .ptr id ver off :: rest=> .rdB id fun b=>match b.c with
   | some qs=>(b8j ts qs).bind fun k=> .req (k.rest.isEmpty && Nat.beq ver b.ver && Nat.beq off 0) (.ret ⟨k.x,rest,k.fz,.inl id :: k.ids⟩)
   | none=> .fail
  | _=> .fail
def b8j:(ts:OTs)->List TC->TQ (Tt ts.den)
 | .nil,ps=> .ret ⟨(),ps,[],[]⟩
 | .cons t ts,ps=>(b6O t ps).bind fun p=>(b8j ts p.rest).bind fun q=> .ret ⟨(p.x,q.x),q.rest,p.fz ++ q.fz,p.ids ++ q.ids⟩
end
theorem b8k {s:St} {K:Tks->List T5->Prop}:∀ (a b:List CSh) (x y:List AC) {tr:List T5},((a1X a x).wpt s tr fun k rs=>(a1X b y).wpt s rs fun m rs'=>K ⟨k.ocs ++ m.ocs,k.fz ++ m.fz,k.ids ++ m.ids⟩ rs')->(a1X (a ++ b) (x ++ y)).wpt s tr K
 | [],b,[],y,tr,h=>by simpa only [a1X,Q.wpt,List.nil_append] using h
 | [],b,_ :: _,y,tr,h=>by simp only [a1X,Q.wpt] at h
 | _ :: _,b,[],y,tr,h=>by simp only [a1X,Q.wpt] at h
 | c :: a,b,x :: xs,y,tr,h=>by
  simp only [List.cons_append,a1X,Q.wpt_bind,Q.wpt] at h ⊢
  refine Q.wpt_mono h fun d rs h1=>?_
  refine b8k a b xs y (Q.wpt_mono h1 fun e rs' h2=>?_)
  refine Q.wpt_mono h2 fun g rs'' h3=>?_
  simpa only [List.cons_append,List.append_assoc] using h3
theorem c3V {s:St} {K:Tks->List T5->Prop}:∀ (xs:List AC) {tr:List T5},((b2E xs).wpt s tr fun d rs=>K ⟨d.1.map .d,d.2,[]⟩ rs)->(a1X (List.replicate xs.length .D) xs).wpt s tr K
 | [],_,h=>h
 | x :: xs,tr,h=>by
  simp only [b2E,Q.wpt_bind,Q.wpt] at h
  simp only [List.length_cons,List.replicate_succ,a1X,b6y,Q.wpt_bind,Q.wpt]
  refine Q.wpt_mono h fun d rs h1=>?_
  refine c3V xs (Q.wpt_mono h1 fun e rs' h2=>?_)
  simpa only [List.map_cons,List.append_nil] using h2
theorem c3W {s:St} {K:List DV × List Nat->List T5->Prop}:∀ (xs:List AC) {tr:List T5},(b2E xs).wpt s tr K->(b2E xs).wpt s tr fun d rs=>d.1.length=xs.length/\K d rs
 | [],_,h=>⟨rfl,h⟩
 | x :: xs,tr,h=>by
  simp only [b2E,Q.wpt_bind,Q.wpt] at h ⊢
  refine Q.wpt_mono h fun d rs h1=>?_
  refine Q.wpt_mono (c3W xs h1) fun e rs' h2=>?_
  exact⟨by simp [h2.1],h2.2⟩
theorem Q.wpt_ex {α:Type} {q:Q α} {s:St} {K:α->List T5->Prop}:∀ {tr:List T5},q.wpt s tr K->∃ a rs,K a rs:=by
 induction q with
 | ret a=>exact fun h=>⟨a,_,h⟩
 | rdT k g ih=>exact fun h=>ih _ h
 | rdB k g ih=>exact fun h=>ih _ h
 | rdR k g ih=>exact fun h=>ih _ h
 | req p q ih=>exact fun h=>ih h.2
 | fail=>exact fun h=>h.elim
def d7y {α:Type} (f:α->List OC) (sh:List CSh) (p:List TC->TQ (Tt α)):Prop:=∀ (ps:List TC) (s:TSt) (tr:List T5) (K:Tt α->List T5->Prop),(p ps).wpt s tr K->
 ∃ pre k rs,B9 ps=pre ++ B9 k.rest/\K k rs/\(a1X sh pre).wpt s.st tr fun q rs'=>q=⟨f k.x,k.fz,k.ids⟩/\rs'=rs
mutual
theorem c3X:∀ (t:OT),d7y t.ocs t.sh (b6O t)
 | .d u,ps,s,tr,K,h=>by
  simp only [b6O,TQ.wpt_bind] at h
  obtain⟨pre,k,rs,e,h,d⟩:=b6G u ps s tr _ h
  refine⟨pre,_,rs,e,h,?_⟩
  have d2:=c3W pre d
  obtain⟨x,rs',hl,hx,_⟩:=Q.wpt_ex d2
  rw [hx,U.enc_len] at hl
  show(a1X (List.replicate u.size .D) pre).wpt _ _ _
  rw [hl]
  refine c3V pre (Q.wpt_mono d ?_)
  rintro d rs ⟨rfl,rfl⟩
  exact⟨rfl,rfl⟩
 | .npt,ps,s,tr,K,h=>by
  unfold b6O at h
  split at h
  ·exact⟨[_],_,tr,rfl,h,show(a1X [.D] [AC.d (.v (.pointer none))]).wpt _ _ _ from⟨rfl,rfl⟩⟩
  ·exact h.elim
 | .it t u hz,ps,s,tr,K,h=>by
  unfold b6O at h
  split at h
  ·split at h
   ·split at h
    ·rename_i e1 _ _ e2 _;subst e1;subst e2;exact⟨[_],_,tr,rfl,h,show(a1X [.D] [AC.d (.it _ (b87 _))]).wpt _ _ _ from⟨rfl,rfl⟩⟩
    ·exact h.elim
   ·exact h.elim
  ·exact h.elim
 | .clo f u,ps,s,tr,K,h=>by
  unfold b6O at h
  split at h
  ·split at h
   ·split at h
    ·rename_i e1 _ _ e2 _;subst e1;subst e2;exact⟨[_],_,tr,rfl,h,show(a1X [.D] [AC.d (.clo _ (U.enc _ _))]).wpt _ _ _ from⟨rfl,rfl⟩⟩
    ·exact h.elim
   ·exact h.elim
  ·exact h.elim
 | .e u,ps,s,tr,K,h=>by
  unfold b6O at h
  split at h
  ·split at h
   ·rename_i e2 _
    subst e2
    obtain⟨h0,h⟩:=h
    rw [Nat.eq_of_beq_eq_true h0]
    exact⟨[_],_,tr,rfl,h,show(a1X [.E] [AC.eptr (U.enc _ _)]).wpt _ _ _ from⟨rfl,rfl⟩⟩
   ·exact h.elim
  ·exact h.elim
 | .fn f,ps,s,tr,K,h=>by
  unfold b6O at h
  split at h
  ·split at h
   ·rename_i hg _;subst hg;exact⟨[_],_,tr,rfl,h,show(a1X [.D] [AC.d (.v (.func (.func _) #[] #[]))]).wpt _ _ _ from⟨rfl,rfl⟩⟩
   ·exact h.elim
  ·exact h.elim
 | .row u e,ps,s,tr,K,h=>by
  unfold b6O at h
  split at h
  ·rename_i id ver rest
   simp only [TQ.wpt] at h
   split at h
   ·rename_i R hR
    split at h
    ·rename_i hu _
     obtain⟨h1,h2⟩:=h
     simp only [Bool.and_eq_true] at h1
     refine⟨[.row id ver],_,_,rfl,h2,?_⟩
     have hc:(s.st.r id).c=some R.row:=by show(s.r id).c.map b5J.row=_;rw [hR];rfl
     simp only [OT.sh,a1X,b6y,Q.bind,Q.wpt]
     rw [hc]
     subst hu
     refine⟨⟨Nat.eq_of_beq_eq_true h1.1.1,rfl,Nat.eq_of_beq_eq_true h1.1.2,by show R.fr=false;simpa using h1.2⟩,rfl,rfl⟩
    ·exact h.elim
   ·exact h.elim
  ·rename_i rest
   obtain⟨h1,h2⟩:=h
   exact⟨[.nil],_,tr,rfl,h2,of_decide_eq_true h1,rfl,rfl⟩
  ·exact h.elim
 | .box ts,ps,s,tr,K,h=>by
  unfold b6O at h
  split at h
  ·rename_i id ver off rest
   simp only [TQ.wpt] at h
   split at h
   ·rename_i qs hq
    rw [TQ.wpt_bind] at h
    obtain⟨pre,k,rs,e,h,d⟩:=b3W ts qs s _ _ h
    obtain⟨h1,h2⟩:=h
    simp only [Bool.and_eq_true] at h1
    have hr:=List.isEmpty_iff.1 h1.1.1
    rw [hr] at e
    have e:B9 qs=pre:=e.trans (List.append_nil _)
    refine⟨[.ptr id ver off],_,_,rfl,h2,?_⟩
    have hc:(s.st.b id).c=some (B9 qs):=by show(s.b id).c.map B9=_;rw [hq];rfl
    simp only [OT.sh,a1X,b6y,Q.wpt_bind,Q.wpt]
    rw [hc,e]
    simp only [Q.wpt_bind]
    refine Q.wpt_mono d ?_
    rintro q rs' ⟨rfl,rfl⟩
    exact⟨⟨Nat.eq_of_beq_eq_true h1.1.2,Nat.eq_of_beq_eq_true h1.2⟩,by simp only [List.append_nil];rfl,rfl⟩
   ·exact h.elim
  ·exact h.elim
theorem b3W:∀ (ts:OTs),d7y ts.ocs ts.sh (b8j ts)
 | .nil,ps,s,tr,K,h=>⟨[],_,tr,rfl,h,rfl,rfl⟩
 | .cons t ts,ps,s,tr,K,h=>by
  simp only [b8j,TQ.wpt_bind] at h
  obtain⟨pre1,k1,rs1,e1,h,d1⟩:=c3X t ps s tr _ h
  obtain⟨pre2,k2,rs2,e2,h,d2⟩:=b3W ts _ s rs1 _ h
  refine⟨pre1 ++ pre2,_,rs2,by rw [e1,e2,List.append_assoc],h,b8k _ _ _ _ (Q.wpt_mono d1 ?_)⟩
  rintro q rs ⟨rfl,rfl⟩
  refine Q.wpt_mono d2 ?_
  rintro q rs ⟨rfl,rfl⟩
  exact⟨rfl,rfl⟩
end
structure Tta (α:Type) where
 x:α
 fz:List Nat
 ids:List (Nat ⊕ Nat)
 tops:List (Nat ⊕ Nat)
def b8l:(t:AT)->TV->TQ (Tta t.den)
 | .c t,v=>match v with
  | .o (.c x)=> .req (is1 x) ((b6O t [x]).bind fun k=> .req (k.rest.isEmpty) (.ret ⟨k.x,k.fz,k.ids,[]⟩))
  | _=> .fail
 | .agg ts,v=>match v with
  | .o (.agg ps)=>(b8j ts ps).bind fun k=> .req (k.rest.isEmpty) (.ret ⟨k.x,k.fz,k.ids,[]⟩)
  | _=> .fail
 | .bx ts,v=>match v with
  | .o (.c (.ptr id ver off))=> .rdB id fun b=>match b.c with
   | some qs=>(b8j ts qs).bind fun k=> .req (k.rest.isEmpty && Nat.beq ver b.ver && Nat.beq off 0) (.ret ⟨k.x,k.fz,k.ids,[.inl id]⟩)
   | none=> .fail
  | _=> .fail
 | .rx u e,v=>match v with
  | .o (.c (.row id ver))=> .rdR id fun r=>match r.c with
   | some R=>match decEq R.u u with
    | .isTrue h=> .req (Nat.beq ver r.ver && Nat.beq R.e e && !R.fr) (.ret ⟨(h ▸ R.l:List u.den),[],[],[.inr id]⟩)
    | .isFalse _=> .fail
   | none=> .fail
  | _=> .fail
theorem c5r (t:AT) (hk:t.ok=true) (v:TV):Sim (fun k:Tta t.den=>(⟨t.oa k.x,k.fz,k.ids,k.tops⟩:Ta)) (b8l t v) (c9H t.ash v.av):=by
 cases t with
 | c t=>
  unfold b8l
  simp only
  split
  ·rename_i x
   refine Sim.chk fun h1 s tr K hK=>?_
   rw [TQ.wpt_bind] at hK
   obtain⟨pre,k,rs,e,hK,d⟩:=c3X t _ s tr _ hK
   obtain⟨h2,h3⟩:=hK
   rw [List.isEmpty_iff.1 h2] at e
   have e:B9 [x]=pre:=e.trans (List.append_nil _)
   have e0:B9 [x]=[a5m x.cells]:=(List.append_nil _).trans (b5l h1)
   rw [<-e,e0] at d
   have hl:t.sh.length=1:=Nat.eq_of_beq_eq_true hk
   match hs:t.sh,hl with
   | [c],_=>
    have hocs:t.ocs k.x=[c5q (t.ocs k.x)]:=b1Y (by rw [OT.len,hs];rfl)
    rw [hs] at d
    simp only [a1X,Q.wpt_bind,Q.wpt] at d
    show((b6y (t.sh.headD .D) (a5m x.cells)).bind fun k=>Q.ret (⟨.c k.oc,k.fz,k.ids,[]⟩:Ta)).wpt _ _ _
    rw [hs,Q.wpt_bind]
    refine Q.wpt_mono d ?_
    rintro q rs' ⟨hq,rfl⟩
    rw [hocs] at hq
    injection hq with q1 q2 q3
    injection q1 with q1 _
    refine⟨_,?_,h3⟩
    simp only [List.append_nil] at q2 q3
    show(⟨.c q.oc,q.fz,q.ids,[]⟩:Ta)=⟨.c (c5q (t.ocs k.x)),k.fz,k.ids,[]⟩
    rw [q1,q2,q3]
  ·exact Sim.fail
 | agg ts=>
  unfold b8l
  simp only
  split
  ·rename_i ps
   intro s tr K hK
   rw [TQ.wpt_bind] at hK
   obtain⟨pre,k,rs,e,hK,d⟩:=b3W ts _ s tr _ hK
   obtain⟨h2,h3⟩:=hK
   rw [List.isEmpty_iff.1 h2] at e
   have e:B9 ps=pre:=e.trans (List.append_nil _)
   rw [<-e] at d
   show((a1X ts.sh (B9 ps)).bind fun k=>Q.ret (⟨.agg k.ocs,k.fz,k.ids,[]⟩:Ta)).wpt _ _ _
   rw [Q.wpt_bind]
   refine Q.wpt_mono d ?_
   rintro q rs' ⟨rfl,rfl⟩
   exact⟨_,rfl,h3⟩
  ·exact Sim.fail
 | bx ts=>
  unfold b8l
  simp only
  split
  ·rename_i id ver off
   refine Sim.rdB fun b=>?_
   obtain⟨bv,c⟩:=b
   cases c with
   | none=>exact Sim.fail
   | some qs=>
    intro s tr K hK
    simp only at hK
    rw [TQ.wpt_bind] at hK
    obtain⟨pre,k,rs,e,hK,d⟩:=b3W ts _ s tr _ hK
    obtain⟨h2,h3⟩:=hK
    simp only [Bool.and_eq_true] at h2
    rw [List.isEmpty_iff.1 h2.1.1] at e
    have e:B9 qs=pre:=e.trans (List.append_nil _)
    rw [<-e] at d
    show((a1X ts.sh (B9 qs)).bind fun k=>Q.req (ver=bv/\off=0) (.ret (⟨.bx k.ocs,k.fz,k.ids,[.inl id]⟩:Ta))).wpt _ _ _
    rw [Q.wpt_bind]
    refine Q.wpt_mono d ?_
    rintro q rs' ⟨rfl,rfl⟩
    exact⟨⟨Nat.eq_of_beq_eq_true h2.1.2,Nat.eq_of_beq_eq_true h2.2⟩,_,rfl,h3⟩
  ·exact Sim.fail
 | rx u e=>
  unfold b8l
  simp only
  split
  ·rename_i id ver
   refine Sim.rdR fun r=>?_
   obtain⟨rv,c⟩:=r
   cases c with
   | none=>exact Sim.fail
   | some R=>
    simp only
    split
    ·rename_i hu _
     subst hu
     refine Sim.req (fun h=>?_) fun _=>Sim.ret rfl
     simp only [Bool.and_eq_true] at h
     exact⟨Nat.eq_of_beq_eq_true h.1.1,rfl,Nat.eq_of_beq_eq_true h.1.2,by show R.fr=false;simpa using h.2⟩
    ·exact Sim.fail
  ·exact Sim.fail
def b9k:(ts:ATs)->List TV->TQ (Tta ts.den)
 | .nil,vs=>match vs with
  | []=> .ret ⟨(),[],[],[]⟩
  | _=> .fail
 | .cons t ts,vs=>match vs with
  | v :: vs=>(b8l t v).bind fun k=>(b9k ts vs).bind fun ks=> .ret ⟨(k.x,ks.x),k.fz ++ ks.fz,k.ids ++ ks.ids,k.tops ++ ks.tops⟩
  | []=> .fail
theorem b28:∀ (ts:ATs),ts.ok=true->∀ (vs:List TV),Sim (fun k:Tta ts.den=>(⟨ts.oas k.x,k.fz,k.ids,k.tops⟩:Tas)) (b9k ts vs) (b6z ts.sh (vs.map TV.av))
 | .nil,_,[]=>Sim.ret rfl
 | .nil,_,_ :: _=>Sim.fail
 | .cons _ _,_,[]=>Sim.fail
 | .cons t ts,h,v :: vs=>by
  simp only [ATs.ok,Bool.and_eq_true] at h
  exact Sim.bind (c5r t h.1 v) fun k=>Sim.bind (b28 ts h.2 vs) fun ks=>Sim.ret rfl
end Go.Proofs.YtbipjlehhlkghaaGreatDoor.Am
namespace Go.Proofs.YtbipjlehhlkghaaGreatDoor.Am
open Go
def d0b:List (Nat ⊕ Nat)->TQ (List a2Z)
 | []=> .ret []
 | .inl id :: ids=> .rdB id fun b=>(d0b ids).bind fun us=> .ret (.b id ⟨b.ver,none⟩ :: us)
 | .inr id :: ids=> .rdR id fun b=>(d0b ids).bind fun us=> .ret (.r id ⟨b.ver,none⟩ :: us)
theorem b6P:∀ (ids:List (Nat ⊕ Nat)),Sim US (d0b ids) (c1Y ids)
 | []=>Sim.ret rfl
 | .inl _id :: ids=>Sim.rdB fun _b=>Sim.bind (b6P ids) fun _us=>Sim.ret rfl
 | .inr _id :: ids=>Sim.rdR fun _b=>Sim.bind (b6P ids) fun _us=>Sim.ret rfl
def c7F:Nat->List TC
 | 0=>[]
 | n + 1=> .junk :: c7F n
theorem c3Y {α:Type}:∀ (l:List α),B9 (c7F l.length)=l.map fun _=>AC.junk
 | []=>rfl
 | x :: l=>by rw [List.length_cons,c7F,B9,c3Y l];rfl
def d0c:List (Nat ⊕ Nat)->(ts:PTs)->ts.den->TQ (List a2Z)
 | [],.nil,_=> .ret []
 | .inl id :: ids,.cons t ts,x=> .rdB id fun b=>(d0c ids ts x.2).bind fun us=> .ret (.b id ⟨b.ver,some (c7F t.sh.length)⟩ :: us)
 | .inr id :: ids,.rcons u e ts,x=> .req (Nat.blt e a1r) (.rdR id fun r=>(d0c ids ts x.2).bind fun us=> .ret (.r id ⟨r.ver,some ⟨u,x.1,e,false⟩⟩ :: us))
 | _,_,_=> .fail
theorem b6Q:∀ (ids:List (Nat ⊕ Nat)) (ts:PTs) (x:ts.den),Sim US (d0c ids ts x) (b7B ids (ts.ocs x))
 | [],.nil,_=>Sim.ret rfl
 | .inr id :: ids,.rcons u e ts,x=>Sim.req (fun h=>Nat.le_of_ble_eq_true h) fun _=>Sim.rdR fun r=>Sim.bind (b6Q ids ts x.2) fun us=>Sim.ret rfl
 | .inl id :: ids,.cons t ts,x=>Sim.rdB fun b=>Sim.bind (b6Q ids ts x.2) fun us=>Sim.ret (by
   show Upd.b id ⟨b.ver,some ((t.ocs x.1).map fun _=>AC.junk)⟩ :: _=Upd.b id ⟨b.ver,some (B9 (c7F t.sh.length))⟩ :: _
   rw [<-c3Y,OTs.len]
   rfl)
 | [],.cons _ _,_=>Sim.fail
 | [],.rcons _ _ _,_=>Sim.fail
 | .inl _ :: _,.nil,_=>Sim.fail
 | .inr _ :: _,.nil,_=>Sim.fail
 | .inl _ :: _,.rcons _ _ _,_=>Sim.fail
 | .inr _ :: _,.cons _ _,_=>Sim.fail
structure Tmk where
 ps:List TC
 us:List a2Z
 m:Nat
mutual
def d32 (n:Nat):(t:OT)->t.den->TQ Tmk
 | .d u,x=> .ret ⟨[.ch u x],[],n⟩
 | .fn f,_=> .ret ⟨[.fn f],[],n⟩
 | .npt,_=> .ret ⟨[.npt],[],n⟩
 | .it t u _,x=> .ret ⟨[.it t u x],[],n⟩
 | .clo f u,x=> .ret ⟨[.clo f u x],[],n⟩
 | .e u,x=> .ret ⟨[.ep u x 0],[],n⟩
 | .row u e,l=> .req (Nat.blt e a1r) (.rdR n fun r=> .ret ⟨[.row n (r.ver + 1)],[.r n ⟨r.ver + 1,some ⟨u,l,e,false⟩⟩],n + 1⟩)
 | .box ts,x=> .rdB n fun b=>(c2z (n + 1) ts x).bind fun k=> .ret ⟨[.ptr n (b.ver + 1) 0],k.us ++ [.b n ⟨b.ver + 1,some k.ps⟩],k.m⟩
def c2z (n:Nat):(ts:OTs)->ts.den->TQ Tmk
 | .nil,_=> .ret ⟨[],[],n⟩
 | .cons t ts,x=>(d32 n t x.1).bind fun k=>(c2z k.m ts x.2).bind fun ks=> .ret ⟨k.ps ++ ks.ps,k.us ++ ks.us,ks.m⟩
end
def d1S (k:Tmk):Mks:=⟨B9 k.ps,US k.us,k.m⟩
theorem c3Z {s:St} {K:Mks->List T5->Prop}:∀ (a b:List OC) {n:Nat} {tr:List T5},((b79 n a).wpt s tr fun k rs=>(b79 k.m b).wpt s rs fun q rs'=>K ⟨k.acs ++ q.acs,k.us ++ q.us,q.m⟩ rs')->(b79 n (a ++ b)).wpt s tr K
 | [],b,n,tr,h=>by simpa only [b79,Q.wpt,List.nil_append] using h
 | c :: a,b,n,tr,h=>by
  simp only [List.cons_append,b79,Q.wpt_bind,Q.wpt] at h ⊢
  refine Q.wpt_mono h fun d rs h1=>?_
  refine c3Z a b (Q.wpt_mono h1 fun e rs' h2=>?_)
  refine Q.wpt_mono h2 fun g rs'' h3=>?_
  simpa only [List.cons_append,List.append_assoc] using h3
theorem d1T {s:St} {K:Mks->List T5->Prop} {n:Nat} {tr:List T5}:∀ (ds:List DV),K ⟨ds.map .d,[],n⟩ tr->(b79 n (ds.map .d)).wpt s tr K
 | [],h=>h
 | d :: ds,h=>by
  simp only [List.map_cons,b79,mkC,Q.wpt_bind,Q.wpt]
  exact d1T (K:=fun k rs=>K ⟨.d d :: k.acs,[] ++ k.us,k.m⟩ rs) ds h
theorem a97 {s:St} {K:Mks->List T5->Prop} {n:Nat} {tr:List T5} {c:OC} (h:(mkC n c).wpt s tr fun k rs=>K ⟨[k.ac],k.us,k.m⟩ rs):(b79 n [c]).wpt s tr K:=by
 simp only [b79,Q.wpt_bind,Q.wpt]
 refine Q.wpt_mono h fun k rs h1=>?_
 simpa only [List.append_nil] using h1
theorem d8a (u:U) (n:Nat) (x:u.den):(⟨(u.enc x).map .d,[],n⟩:Mks)=d1S ⟨[.ch u x],[],n⟩:=by
 unfold d1S
 rw [a1Y]
 rfl
mutual
theorem c30:∀ (t:OT) (n:Nat) (x:t.den),Sim d1S (d32 n t x) (b79 n (t.ocs x))
 | .d u,n,x=>fun s tr K h=>d1T _ ⟨_,d8a u n x,h⟩
 | .npt,n,x=>fun s tr K h=>a97 (c:= .d (.v (.pointer none))) ⟨_,rfl,h⟩
 | .it t u _,n,x=>fun s tr K h=>a97 (c:= .d (.it t (b87 (u.enc x)))) ⟨_,rfl,h⟩
 | .clo f u,n,x=>fun s tr K h=>a97 (c:= .d (.clo f (u.enc x))) ⟨_,rfl,h⟩
 | .e u,n,x=>fun s tr K h=>a97 (c:= .e (u.enc x)) ⟨_,rfl,h⟩
 | .fn f,n,x=>fun s tr K h=>a97 (c:= .d (.v (.func (.func f) #[] #[]))) ⟨_,rfl,h⟩
 | .row u e,n,l=>fun s tr K h=>a97 (c:= .row u.size e (List.map u.enc l)) ⟨Nat.le_of_ble_eq_true h.1,_,rfl,h.2⟩
 | .box ts,n,x=>fun s tr K h=>a97 (c:= .box (ts.ocs x)) (by
   have h:((c2z (n + 1) ts x).bind fun k=>TQ.ret (⟨[.ptr n ((s.b n).ver + 1) 0],k.us ++ [.b n ⟨(s.b n).ver + 1,some k.ps⟩],k.m⟩:Tmk)).wpt s (.b n :: tr) K:=h
   rw [TQ.wpt_bind] at h
   have h1:=b3X ts (n + 1) x s _ _ h
   show((b79 (n + 1) (ts.ocs x)).bind fun k=>Q.ret (⟨.ptr n ((s.b n).ver + 1) 0,k.us ++ [.b n ⟨(s.b n).ver + 1,some k.acs⟩],k.m⟩:Mk)).wpt s.st (.b n :: tr) _
   rw [Q.wpt_bind]
   refine Q.wpt_mono h1 ?_
   rintro b rs ⟨a,rfl,hk⟩
   refine⟨_,?_,hk⟩
   simp only [d1S,US,List.map_append,List.map_cons,List.map_nil]
   rfl)
theorem b3X:∀ (ts:OTs) (n:Nat) (x:ts.den),Sim d1S (c2z n ts x) (b79 n (ts.ocs x))
 | .nil,n,x=>fun s tr K h=>⟨_,rfl,h⟩
 | .cons t ts,n,x=>fun s tr K h=>by
  simp only [c2z,TQ.wpt_bind] at h
  refine c3Z (t.ocs x.1) (ts.ocs x.2) (Q.wpt_mono (c30 t n x.1 s tr _ h) ?_)
  rintro b rs ⟨a,rfl,hk⟩
  refine Q.wpt_mono (b3X ts a.m x.2 s rs _ hk) ?_
  rintro b rs ⟨a',rfl,hk⟩
  refine⟨_,?_,hk⟩
  simp only [d1S,US,List.map_append,a3N]
end
structure d7z where
 us:List a2Z
 m:Nat
def d0d (n:Nat):List (Nat ⊕ Nat)->(ts:PTs)->ts.den->TQ d7z
 | [],.nil,_=> .ret ⟨[],n⟩
 | .inl id :: ids,.cons t ts,x=>(c2z n t x.1).bind fun k=> .req ((.inl id :: ids).all fun j=>Nat.blt (tid j) n || Nat.ble k.m (tid j)) (.rdB id fun b=>(d0d k.m ids ts x.2).bind fun p=> .ret ⟨k.us ++ (.b id ⟨b.ver,some k.ps⟩ :: p.us),p.m⟩)
 | .inr _ :: ids,.rcons _ _ ts,x=>d0d n ids ts x.2
 | _,_,_=> .fail
theorem b6R:∀ (ids:List (Nat ⊕ Nat)) (ts:PTs) (n:Nat) (x:ts.den),Sim (fun p:d7z=>(⟨US p.us,p.m⟩:Mps)) (d0d n ids ts x) (c1Z n ids (ts.ocs x))
 | [],.nil,n,_=>Sim.ret rfl
 | .inr _ :: ids,.rcons _ _ ts,n,x=>b6R ids ts n x.2
 | .inl id :: ids,.cons t ts,n,x=>Sim.bind (b3X t n x.1) fun k=>Sim.req (fun h j hj=>by
   have h1:=List.all_eq_true.1 h j hj
   rw [Bool.or_eq_true] at h1
   rcases h1 with h1 | h1
   ·exact .inl (Nat.le_of_ble_eq_true h1)
   ·exact .inr (Nat.le_of_ble_eq_true h1)) fun _=>Sim.rdB fun b=>Sim.bind (b6R ids ts k.m x.2) fun p=>Sim.ret (by
   simp only [d1S,US,List.map_append,List.map_cons]
   rfl)
 | [],.cons _ _,_,_=>Sim.fail
 | [],.rcons _ _ _,_,_=>Sim.fail
 | .inl _ :: _,.nil,_,_=>Sim.fail
 | .inr _ :: _,.nil,_,_=>Sim.fail
 | .inl _ :: _,.rcons _ _ _,_,_=>Sim.fail
 | .inr _ :: _,.cons _ _,_,_=>Sim.fail
structure d7A where
 v:T1
 us:List a2Z
 m:Nat
def d7B (n:Nat):(t:AT)->t.den->TQ d7A
 | .c t,x=>(d32 n t x).bind fun k=>match k.ps with
  | [p]=> .req (is1 p) (.ret ⟨.c p,k.us,k.m⟩)
  | _=> .fail
 | .agg ts,x=>(c2z n ts x).bind fun k=> .ret ⟨.agg k.ps,k.us,k.m⟩
 | .bx ts,x=>(d32 n (.box ts) x).bind fun k=>match k.ps with
  | [p]=> .req (is1 p) (.ret ⟨.c p,k.us,k.m⟩)
  | _=> .fail
 | .rx u e,x=>(d32 n (.row u e) x).bind fun k=>match k.ps with
  | [p]=> .req (is1 p) (.ret ⟨.c p,k.us,k.m⟩)
  | _=> .fail
def d6i (k:d7A):Mka:=⟨k.v.av,US k.us,k.m⟩
theorem c7G {s:St} {K:Mks->List T5->Prop} {n:Nat} {tr:List T5} {c:OC} (h:(b79 n [c]).wpt s tr K):(mkC n c).wpt s tr fun k rs=>K ⟨[k.ac],k.us,k.m⟩ rs:=by
 simp only [b79,Q.wpt_bind,Q.wpt] at h
 refine Q.wpt_mono h fun k rs h1=>?_
 simpa only [List.append_nil] using h1
theorem b9l (t:OT) (n:Nat) (x:t.den) (c:OC) (hc:t.ocs x=[c]):Sim d6i ((d32 n t x).bind fun k=>match k.ps with
  | [p]=> .req (is1 p) (.ret ⟨.c p,k.us,k.m⟩)
  | _=> .fail) ((mkC n c).bind fun k=> .ret ⟨.c k.ac,k.us,k.m⟩):=fun s tr K h=>by
 rw [TQ.wpt_bind] at h
 have h1:=c30 t n x s tr _ h
 rw [hc] at h1
 rw [Q.wpt_bind]
 refine Q.wpt_mono (c7G h1) ?_
 rintro k rs ⟨a,ha,hk⟩
 split at hk
 ·rename_i p hp
  obtain⟨h2,h3⟩:=hk
  refine⟨_,?_,h3⟩
  have e0:B9 [p]=[a5m p.cells]:=(List.append_nil _).trans (b5l h2)
  simp only [d1S,hp,e0] at ha
  injection ha with a1 a2 a3
  injection a1 with a1 _
  simp only [d6i,T1.av]
  rw [a1,a2,a3]
 ·exact hk.elim
theorem d0e (t:AT) (hk:t.ok=true) (n:Nat) (x:t.den):Sim d6i (d7B n t x) (mkA n (t.oa x)):=by
 cases t with
 | c t=>
  have h1:(t.ocs x).length=1:=by rw [OT.len t x];exact Nat.eq_of_beq_eq_true hk
  exact b9l t n x _ (b1Y h1)
 | agg ts=>exact Sim.bind (b3X ts n x) fun k=>Sim.ret rfl
 | bx ts=>exact b9l (.box ts) n x _ rfl
 | rx u e=>exact b9l (.row u e) n x _ rfl
structure d21 where
 vs:List T1
 us:List a2Z
 m:Nat
def c7H (n:Nat):(ts:ATs)->ts.den->TQ d21
 | .nil,_=> .ret ⟨[],[],n⟩
 | .cons t ts,x=>(d7B n t x.1).bind fun k=>(c7H k.m ts x.2).bind fun ks=> .ret ⟨k.v :: ks.vs,k.us ++ ks.us,ks.m⟩
def b7C (k:d21):d6z:=⟨k.vs.map T1.av,US k.us,k.m⟩
theorem b3Y:∀ (ts:ATs),ts.ok=true->∀ (n:Nat) (x:ts.den),Sim b7C (c7H n ts x) (d2B n (ts.oas x))
 | .nil,_,_,_=>Sim.ret rfl
 | .cons t ts,h,n,x=>by
  simp only [ATs.ok,Bool.and_eq_true] at h
  exact Sim.bind (d0e t h.1 n x.1) fun k=>Sim.bind (b3Y ts h.2 k.m x.2) fun ks=>Sim.ret (by simp only [d6i,b7C,US,List.map_append,List.map_cons])
def d22 (vs:List T1):TV:=match vs with
 | [v]=> .o v
 | vs=> .tup vs
theorem c31 (vs:List T1):d3X (vs.map T1.av)=(d22 vs).av:=by
 match vs with
 | []=>rfl
 | [_]=>rfl
 | _ :: _ :: _=>rfl
def d33 (x:Nat ⊕ Nat):List (Nat ⊕ Nat)->Bool
 | []=>false
 | y :: r=>(match x,y with | .inl a,.inl b=>Nat.beq a b | .inr a,.inr b=>Nat.beq a b | _,_=>false) || d33 x r
theorem b9m {x:Nat ⊕ Nat}:∀ {l:List (Nat ⊕ Nat)},d33 x l=false->x ∉ l
 | [],_,h=>by simp at h
 | y :: r,h,hm=>by
  simp only [d33,Bool.or_eq_false_iff] at h
  rcases List.mem_cons.1 hm with e | hm
  ·subst e
   have h1:=h.1
   cases x <;> simp at h1
  ·exact b9m h.2 hm
def c0M:List (Nat ⊕ Nat)->Bool
 | []=>true
 | x :: r=> !d33 x r && c0M r
theorem b6S:∀ {l:List (Nat ⊕ Nat)},c0M l=true->l.Nodup
 | [],_=>List.nodup_nil
 | x :: r,h=>by
  simp only [c0M,Bool.and_eq_true,Bool.not_eq_true'] at h
  exact List.nodup_cons.2 ⟨b9m h.1,b6S h.2⟩
def d23 (S:TFn) (o:Oper) (c:Call) (ex:List TV:=[]):TQ (List a2Z):=
 (d4G c.args.toList).bind fun xs=>(b9k S.args (xs ++ ex)).bind fun k=>
 .req (c0M (k.tops ++ k.ids) && k.fz.all fun id=> !d33 (Sum.inr id) (k.tops ++ k.ids))
 (.call (S.G k.x) fun r=>match S.flat && k.tops.isEmpty && k.ids.isEmpty with
 | true=>(a60 k.fz).bind fun _=>(c7H (b52 o.dst) S.res (S.out r).2).bind fun q=> .ret (q.us ++ d6f o.dst (d22 q.vs))
 | false=>(a60 k.fz).bind fun us1=>(d0b k.ids).bind fun us2=>(d0c k.tops S.posts (S.out r).1).bind fun us3=>(d0d (b52 o.dst) k.tops S.posts (S.out r).1).bind fun p=>(c7H p.m S.res (S.out r).2).bind fun q=>
 .ret (us1 ++ us2 ++ us3 ++ p.us ++ q.us ++ d6f o.dst (d22 q.vs)))
theorem AT.flat_ok (t:AT) (h:t.flat=true) (hk:t.ok=true) (x:t.den):c0x (t.oa x)=true:=by
 cases t with
 | c t=>
  have h1:(t.ocs x).length=1:=by rw [OT.len t x];exact Nat.eq_of_beq_eq_true hk
  have h2:=b1Y h1
  have h3:=t.flat_ok h x
  rw [h2,List.all_cons,Bool.and_eq_true] at h3
  exact h3.1
 | agg ts=>exact ts.flat_ok h x
 | bx ts=>cases h
 | rx u e=>cases h
theorem ATs.flat_ok:∀ (ts:ATs),ts.flat=true->ts.ok=true->∀ (x:ts.den),(ts.oas x).all c0x=true
 | .nil,_,_,_=>rfl
 | .cons t ts,h,hk,x=>by
  have h':(t.flat && ts.flat)=true:=h
  have hk':(t.ok && ts.ok)=true:=hk
  rw [Bool.and_eq_true] at h' hk'
  rw [ATs.oas,List.all_cons,t.flat_ok h'.1 hk'.1,ts.flat_ok h'.2 hk'.2];rfl
theorem Sim.call {α β γ:Type} {f:α->β} {o:Option γ} {q':γ->TQ α} {q:Q β} (h:∀ r,o=some r->Sim f (q' r) q):Sim f (.call o q') q:=fun s tr K hk=>by
 obtain⟨r,h1,h2⟩:=hk
 exact h r h1 s tr K h2
theorem c7I (S:TFn) (ha:S.args.ok=true) (hr:S.res.ok=true) (o:Oper) (c:Call) (ex:List TV):Sim US (d23 S o c ex) (c6V S.spec o c (ex.map TV.av)):=by
 refine Sim.bind (b53 _) fun xs=>Sim.bind (show Sim _ _ (b6z S.spec.sh (xs.map TV.av ++ ex.map TV.av)) by rw [<-List.map_append];exact b28 S.args ha (xs ++ ex)) fun k=>Sim.chk fun h=>Sim.call fun r hF=>?_
 rw [Bool.and_eq_true] at h
 refine Sim.must ⟨b6S h.1,fun id hid=>?_,⟨k.x,r,rfl,hF⟩⟩ ?_
 ·have:=List.all_eq_true.1 h.2 id hid
  exact b9m (by simpa using this)
 ·simp only
  rw [TFn.post_of ha hF,TFn.res_of ha hF]
  show Sim US _ (match S.flat && k.tops.isEmpty && k.ids.isEmpty with | true=>_ | false=>_)
  cases hfl:S.flat && k.tops.isEmpty && k.ids.isEmpty with
  | true=>
   rw [Bool.and_eq_true,Bool.and_eq_true] at hfl
   have hf:(S.posts.isNil && S.res.flat)=true:=hfl.1.1
   rw [Bool.and_eq_true] at hf
   refine Sim.must ⟨S.posts.isNil_ok hf.1 _,S.res.flat_ok hf.2 hr _⟩ ?_
   refine Sim.bind (a0n k.fz) fun _=>Sim.bind (b3Y S.res hr _ (S.out r).2) fun q=>Sim.ret ?_
   simp only [b7C]
   rw [c31]
   simp only [US,List.map_append]
   congr 1
   cases o.dst <;> rfl
  | false=>
  refine Sim.bind (a0n k.fz) fun us1=>Sim.bind (b6P k.ids) fun us2=>Sim.bind (b6Q k.tops S.posts (S.out r).1) fun us3=>Sim.bind (b6R k.tops S.posts _ (S.out r).1) fun p=>Sim.bind (b3Y S.res hr p.m (S.out r).2) fun q=>Sim.ret ?_
  simp only [b7C]
  rw [c31]
  simp only [US,List.map_append]
  congr 1
  cases o.dst <;> rfl
def d1U (k:TK) (x:TV):TQ Nat:=match k with
 | .slice _=>d6G x
 | .str=>c2o x
 | .map _ _=>c2s x
 | _=> .fail
def tmm (f:Int->Int->Int) (x y:TV):TQ TV:=match x,y with
 | .o (.c (.ch (.int k) a)),.o (.c (.ch (.int _) b))=> .ret (c1 (.int k) (f a b))
 | _,_=> .fail
def c7J (T:TypeId->Option TI) (TU:TypeId->Option U) (b:Builtin) (o:Oper) (c:Call):TQ (List a2Z):=match b with
 | .len=>match c.args.toList,c.argTypes.toList with
  | [x],[t]=>(ttq T t).bind fun i=>(tev x).bind fun x=>(d1U i.k x).bind fun n=>b23 o.dst (c1 (.int .i64) (n:Int))
  | _,_=> .fail
 | .append=>match c.args.toList,c.argTypes.toList with
  | [x,y],[t,t']=>(ttq T t).bind fun i=>match i.k with
   | .slice e=>(ttq T e).bind fun ie=>(TQ.ofOpt o.dst).bind fun d=>match TU e with
    | some u=> .req (Nat.beq t t' && decide (0 < ie.size) && Nat.beq u.size ie.size) ((tev x).bind fun x=>(tev y).bind fun y=>match x,y with
     | .o (.c x),.o (.c y)=>c7C d e u ie.bytes x y
     | _,_=> .fail)
    | none=> .fail
   | _=> .fail
  | _,_=> .fail
 | .delete=>match c.args.toList,c.argTypes.toList with
  | [x,y],t :: _=>(ttq T t).bind fun i=>match i.k with
   | .map kt vt=>(ttq T kt).bind fun ik=>(ttq T vt).bind fun iv=>(tev x).bind fun m=>(tev y).bind fun k=>match TU kt,TU vt with
    | some K,some V=> .req (isKey K && kOk ik.k K) ((c5o K k).bind fun k=>(d2W K V iv k m).bind fun us=> .ret (us ++ d6f o.dst .any))
    | _,_=> .fail
   | _=> .fail
  | _,_=> .fail
 | .max=>match c.args.toList with
  | [x,y]=>(tev x).bind fun x=>(tev y).bind fun y=>(tmm max x y).bind (b23 o.dst)
  | _=> .fail
 | .min=>match c.args.toList with
  | [x,y]=>(tev x).bind fun x=>(tev y).bind fun y=>(tmm min x y).bind (b23 o.dst)
  | _=> .fail
 | _=> .fail
theorem c5s (k:TK) (x:TV):Sim id (d1U k x) (c6Z k x.av):=by
 cases k <;> first | exact c94 x | exact c2p x | exact c2t x | exact Sim.fail
theorem c7K (f:Int->Int->Int) (x y:TV):Sim TV.av (tmm f x y) (mmQ f x.av y.av):=by
 unfold tmm
 split
 ·exact Sim.ret rfl
 ·exact Sim.fail
theorem c5t (T:TypeId->Option TI) (TU:TypeId->Option U) (b:Builtin) (o:Oper) (c:Call):Sim US (c7J T TU b o c) (c0z T b o c):=by
 unfold c7J c0z
 cases b <;> try exact Sim.fail
 case len=>
  simp only
  split
  ·rename_i x t hx ht
   rw [hx,ht]
   exact Sim.bind (H4 T t) fun i=>Sim.bind (G6 x) fun x=>Sim.bind (c5s i.k x) fun n=>K7 o.dst (c1 (.int .i64) (n:Int))
  ·exact Sim.fail
 case append=>
  simp only
  split
  ·rename_i x y t t' hx ht
   rw [hx,ht]
   refine Sim.bind (H4 T t) fun i=>?_
   simp only [id]
   cases i.k <;> try exact Sim.fail
   case slice e=>
    refine Sim.bind (H4 T e) fun ie=>Sim.bind (Z9 o.dst) fun d=>?_
    cases TU e with
    | none=>exact Sim.fail
    | some u=>
     refine Sim.req (fun h=>?_) fun h=>?_
     ·simp only [Bool.and_eq_true] at h
      exact⟨Nat.eq_of_beq_eq_true h.1.1,of_decide_eq_true h.1.2⟩
     ·simp only [Bool.and_eq_true] at h
      refine Sim.bind (G6 x) fun x=>Sim.bind (G6 y) fun y=>?_
      split
      ·exact c2y d e u ie.size ie.bytes (Nat.eq_of_beq_eq_true h.2) _ _
      ·exact Sim.fail
  ·exact Sim.fail
 case delete=>
  simp only
  split
  ·rename_i x y t ts hx ht
   rw [hx,ht]
   refine Sim.bind (H4 T t) fun i=>?_
   simp only [id]
   cases i.k <;> try exact Sim.fail
   case map kt vt=>
    refine Sim.bind (H4 T kt) fun ik=>Sim.bind (H4 T vt) fun iv=>Sim.bind (G6 x) fun m=>Sim.bind (G6 y) fun k=>?_
    cases TU kt with
    | none=>exact Sim.fail
    | some K=>
     cases TU vt with
     | none=>exact Sim.fail
     | some V=>
      refine Sim.chk fun h=>?_
      simp only [Bool.and_eq_true] at h
      refine Sim.bind (b55 h.1 k) fun k=>Sim.bind (c7t h.1 h.2 k m) fun us=>Sim.ret ?_
      simp only [US,List.map_append]
      congr 1
      cases o.dst <;> rfl
  ·exact Sim.fail
 case max=>
  simp only
  split
  ·rename_i x y hx
   rw [hx]
   exact Sim.bind (G6 x) fun x=>Sim.bind (G6 y) fun y=>Sim.bind (c7K max x y) fun v=>K7 o.dst v
  ·exact Sim.fail
 case min=>
  simp only
  split
  ·rename_i x y hx
   rw [hx]
   exact Sim.bind (G6 x) fun x=>Sim.bind (G6 y) fun y=>Sim.bind (c7K min x y) fun v=>K7 o.dst v
  ·exact Sim.fail
def c7L:List (Nat × TFn)->Nat->Option TFn
 | [],_=>none
 | p :: l,j=>match Nat.beq j p.1 with
  | true=>some p.2
  | false=>c7L l j
def d6L:TV->TQ (Nat × List TV)
 | .o (.c (.fn f))=> .req true (.ret (f,[]))
 | .o (.c (.clo f u x))=> .ret (f,[.o (.c (.ep u x 0))])
 | _=> .fail
theorem d0f (x:TV):Sim (fun p:Nat × List TV=>(p.1,p.2.map TV.av)) (d6L x) (fnQ x.av):=by
 unfold d6L
 split
 ·exact Sim.req (fun _=>⟨rfl,rfl⟩) fun _=>Sim.ret rfl
 ·exact Sim.ret rfl
 ·exact Sim.fail
def d4P:TV->Nat
 | .o (.c .npt)=>1
 | .o (.c (.it t _ _))=>2 + t
 | _=>0
def b56:List TV->Nat
 | []=>0
 | v :: vs=>d4P v + 5000 * b56 vs
theorem b3Z:∀ (u:U) (x:u.den),∀ d ∈ u.enc x,c5e (.c (.d d))=0
 | .int _,_,d,h=>by cases h with | head=>rfl | tail _ h=>cases h
 | .byte,_,d,h=>by cases h with | head=>rfl | tail _ h=>cases h
 | .bool,_,d,h=>by cases h with | head=>rfl | tail _ h=>cases h
 | .str,_,d,h=>by cases h with | head=>rfl | tail _ h=>cases h
 | .sl _,_,d,h=>by cases h with | head=>rfl | tail _ h=>cases h
 | .pr a b,x,d,h=>by
  rcases List.mem_append.1 h with h | h
  ·exact b3Z a x.1 d h
  ·exact b3Z b x.2 d h
 | .arr _ u,v,d,h=>by
  obtain⟨y,_,hy⟩:=List.mem_flatMap.1 h
  exact b3Z u y d hy
theorem c7M:∀ (l:List DV),(∀ d ∈ l,c5e (.c (.d d))=0)->c5e (.c (a5m (l.map .d)))=0
 | [],_=>rfl
 | [d],h=>h d (by simp)
 | _ :: _ :: _,_=>rfl
theorem d0g (x:TV):c5e x.av=d4P x:=by
 cases x with
 | o x=>
  cases x with
  | c x=>cases x <;> first | rfl | exact c7M _ (b3Z _ _)
  | agg xs=>rfl
 | tup xs=>rfl
 | clo f id ver=>rfl
 | ent tup id pv K k=>rfl
 | nx b x y=>rfl
 | any=>rfl
theorem b8m:∀ (xs:List TV),b86 (xs.map TV.av)=b56 xs
 | []=>rfl
 | x :: xs=>by
  show c5e x.av + 5000 * b86 (xs.map TV.av)=_
  rw [d0g,b8m xs];rfl
def c7N (f1:FuncId) (o:Oper):List TV->TQ (List a2Z)
 | [.o (.c (.row id ver))]=>(TQ.ofOpt o.dst).bind fun d=> .rdR id fun r=>match r.c with
  | some R=> .req (Nat.beq ver r.ver && Nat.ble a6Y R.e && !(Nat.beq R.e b02)) (.rdB d fun b=> .ret [.b d ⟨b.ver + 1,some [.row id ver]⟩,.t d ⟨true,.clo f1 d (b.ver + 1)⟩])
  | none=> .fail
 | _=> .fail
theorem c5u (f1:FuncId) (o:Oper) (xs:List TV):Sim US (c7N f1 o xs) (d2F f1 o (xs.map TV.av)):=by
 unfold c7N
 split
 ·refine Sim.bind (Z9 o.dst) fun d=>Sim.rdR fun r=>?_
  obtain⟨rv,c⟩:=r
  cases c with
  | none=>exact Sim.fail
  | some R=>exact Sim.req (fun h=>by simp only [Bool.and_eq_true] at h;exact⟨Nat.eq_of_beq_eq_true h.1.1,Nat.le_of_ble_eq_true h.1.2,c7u h.2⟩) fun _=>Sim.rdB fun b=>Sim.ret rfl
 ·exact Sim.fail
def b7D (x y:Int):Bool:=decide (x<=y)
def b7E (x y:List UInt8):Bool:=decide (x<=y)
def d34 {α:Type} (le:α->α->Bool) (x:α):List α->List α
 | []=>[x]
 | y :: l=>match le x y with
  | true=>x :: y :: l
  | false=>y :: d34 le x l
def c5v {α:Type} (le:α->α->Bool):List α->List α
 | []=>[]
 | x :: l=>d34 le x (c5v le l)
theorem b6T {α:Type} (le:α->α->Bool) (x:α):∀ l:List α,(d34 le x l).Perm (x :: l)
 | []=>List.Perm.refl _
 | y :: l=>by
  unfold d34
  split
  ·exact List.Perm.refl _
  ·exact((b6T le x l).cons y).trans (List.Perm.swap x y l)
theorem b8n {α:Type} (le:α->α->Bool):∀ l:List α,(c5v le l).Perm l
 | []=>List.Perm.refl _
 | x :: l=>(b6T le x _).trans ((b8n le l).cons x)
theorem b6U {α:Type} {le:α->α->Bool} (tr:∀ a b c,le a b=true->le b c=true->le a c=true) (to:∀ a b,(le a b || le b a)=true) (x:α):∀ l:List α,l.Pairwise (fun a b=>le a b=true)->(d34 le x l).Pairwise (fun a b=>le a b=true)
 | [],_=>List.pairwise_singleton _ _
 | y :: l,h=>by
  rw [List.pairwise_cons] at h
  unfold d34
  split
  ·rename_i hxy
   refine List.pairwise_cons.2 ⟨fun z hz=>?_,List.pairwise_cons.2 h⟩
   rcases List.mem_cons.1 hz with rfl | hz
   ·exact hxy
   ·exact tr _ _ _ hxy (h.1 z hz)
  ·rename_i hxy
   have hyx:le y x=true:=by have:=to x y;rw [hxy] at this;simpa using this
   refine List.pairwise_cons.2 ⟨fun z hz=>?_,b6U tr to x l h.2⟩
   rcases List.mem_cons.1 ((b6T le x l).mem_iff.1 hz) with rfl | hz
   ·exact hyx
   ·exact h.1 z hz
theorem b5o {α:Type} {le:α->α->Bool} (tr:∀ a b c,le a b=true->le b c=true->le a c=true) (to:∀ a b,(le a b || le b a)=true):∀ l:List α,(c5v le l).Pairwise (fun a b=>le a b=true)
 | []=>List.Pairwise.nil
 | x :: l=>b6U tr to x _ (b5o tr to l)
theorem b30 {α:Type} {le:α->α->Bool} (tr:∀ a b c,le a b=true->le b c=true->le a c=true) (to:∀ a b,(le a b || le b a)=true) (an:∀ a b,le a b=true->le b a=true->a=b) {l l':List α} (h:l'.Pairwise (fun a b=>le a b=true)) (hp:l.Perm l'):c5v le l=l':=
 List.Perm.eq_of_pairwise (le:=fun a b=>le a b=true) (fun a b _ _ h1 h2=>an a b h1 h2) (b5o tr to l) h ((b8n le l).trans hp)
def b9n (l:List Int):List Int:=c5v b7D l
def b9o (l:List (List UInt8)):List (List UInt8):=c5v b7E l
theorem c32 (a b c:Int) (h1:b7D a b=true) (h2:b7D b c=true):b7D a c=true:=decide_eq_true (Int.le_trans (of_decide_eq_true h1) (of_decide_eq_true h2))
theorem c33 (a b:Int):(b7D a b || b7D b a)=true:=by simp only [b7D,Bool.or_eq_true,decide_eq_true_eq];exact Int.le_total a b
theorem d0h (a b:Int) (h1:b7D a b=true) (h2:b7D b a=true):a=b:=Int.le_antisymm (of_decide_eq_true h1) (of_decide_eq_true h2)
theorem c34 (a b c:List UInt8) (h1:b7E a b=true) (h2:b7E b c=true):b7E a c=true:=decide_eq_true (List.le_trans (of_decide_eq_true h1) (of_decide_eq_true h2))
theorem c35 (a b:List UInt8):(b7E a b || b7E b a)=true:=by simp only [b7E,Bool.or_eq_true,decide_eq_true_eq];exact List.le_total a b
theorem d0i (a b:List UInt8) (h1:b7E a b=true) (h2:b7E b a=true):a=b:=List.le_antisymm (of_decide_eq_true h1) (of_decide_eq_true h2)
theorem c2A (l:List Int):l.mergeSort (fun x y=>decide (x<=y))=b9n l:=by
 refine(b30 c32 c33 d0h (List.pairwise_mergeSort c32 c33 l) ?_).symm
 exact(List.mergeSort_perm l b7D).symm
theorem c2B (l:List (List UInt8)):l.mergeSort (fun x y=>decide (x<=y))=b9o l:=by
 refine(b30 c34 c35 d0i (List.pairwise_mergeSort c34 c35 l) ?_).symm
 exact(List.mergeSort_perm l b7E).symm
def b9p (l:List Int):Bool:=decide (l.Nodup/\(∀ x ∈ l,-9223372036854775808<=x/\x<=9223372036854775807)/\l.length * 8<=LIM)
def b9q (l:List (List UInt8)):Bool:=decide (l.Nodup/\(∀ x ∈ l,x.length<=4611686018427387904)/\l.length * 16<=LIM)
def d4Q (K:U):(u:U)->List u.den->Option (List K.den)
 | .pr K' _,l=>match decEq K' K with
  | .isTrue h=>some (List.map (fun p=>a94 h p.1) l)
  | .isFalse _=>none
 | _,_=>none
def c36 (K:U) (f1:FuncId) (e:TypeId) (good:List K.den->Bool) (srt:List K.den->List K.den) (o:Oper):List TV->TQ (List a2Z)
 | [.clo f id ver]=>(TQ.ofOpt o.dst).bind fun d=> .rdB id fun b=>match b.c with
  | some [.row rid rver]=> .rdR rid fun r=>match r.c with
   | some R=>match d4Q K R.u R.l with
    | some ks=> .req (Nat.beq f f1 && Nat.beq ver b.ver && Nat.beq rver r.ver && (Nat.beq R.e (mE true) || Nat.beq R.e (mE false)) && decide (e < a6Y)) (.req (good ks) (.rdR d fun rd=> .ret [.r d ⟨rd.ver + 1,some ⟨K,srt ks,e,false⟩⟩,.t d ⟨true,.o (.c (.row d (rd.ver + 1)))⟩]))
    | none=> .fail
   | none=> .fail
  | _=> .fail
 | _=> .fail
theorem b8o {K:U} (hK:K.size=1) {f1:FuncId} {e:TypeId} {good:List K.den->Bool} {srt:List K.den->List K.den} {goodA:List (List DV)->Prop} {srtA:List (List DV)->List (List DV)}
  (h1:∀ (V:U) (l:List (K.den × V.den)),good (l.map (·.1))=true->goodA (l.map (U.pr K V).enc)) (h2:∀ (V:U) (l:List (K.den × V.den)),srtA (l.map (U.pr K V).enc)=(srt (l.map (·.1))).map K.enc) (o:Oper) (xs:List TV) :
  Sim US (c36 K f1 e good srt o xs) (c6Y f1 e goodA srtA o (xs.map TV.av)):=by
 unfold c36
 split
 ·rename_i f id ver
  refine Sim.bind (Z9 o.dst) fun d=>Sim.rdB fun b=>?_
  obtain⟨bv,c⟩:=b
  simp only
  split
  ·rename_i rid rver
   refine Sim.rdR fun r=>?_
   obtain⟨rv,c⟩:=r
   cases c with
   | none=>exact Sim.fail
   | some R=>
    obtain⟨ru,rl,re,rf⟩:=R
    simp only
    cases ru with
    | pr K' V=>
     unfold d4Q
     simp only
     split
     ·rename_i ks hks
      split at hks
      ·rename_i hk _
       subst hk
       injection hks with hks
       have hks:ks=List.map (fun p=>p.1) rl:=hks.symm
       subst hks
       refine Sim.chk fun hc=>Sim.req (fun hg=>?_) fun _=>Sim.rdR fun rd=>Sim.ret ?_
       ·simp only [Bool.and_eq_true,Bool.or_eq_true] at hc
        obtain⟨⟨⟨⟨c1,c2⟩,c3⟩,c4⟩,c5⟩:=hc
        have hE:∃ b,re=mE b:=by
         rcases c4 with c4 | c4
         ·exact⟨_,Nat.eq_of_beq_eq_true c4⟩
         ·exact⟨_,Nat.eq_of_beq_eq_true c4⟩
        obtain⟨b0,rfl⟩:=hE
        obtain⟨m1,m2,_,m4,m5⟩:=a92 b0
        exact⟨Nat.eq_of_beq_eq_true c1,Nat.eq_of_beq_eq_true c2,Nat.eq_of_beq_eq_true c3,m4,m5,m1,m2,of_decide_eq_true c5,h1 V rl hg⟩
       ·show [Upd.r d ⟨rd.ver + 1,some ⟨srtA (rl.map (U.pr K' V).enc),1,e,false⟩⟩,_]=_
        rw [h2 V rl,<-hK]
        rfl
      ·cases hks
     ·exact Sim.fail
    | _=>exact Sim.fail
  ·exact Sim.fail
 ·exact Sim.fail
theorem c37 {α β γ:Type} {f:α->β} {g:β->γ} {h:α->γ} (e:∀ x,g (f x)=h x) (l:List α):(l.map f).map g=l.map h:=by
 rw [List.map_map];exact List.map_congr_left fun x _=>e x
theorem b9r {α β:Type} (f:α->β) (l:List α):(l.map f).length=l.length:=List.length_map f
theorem b1Z {a b c k:Nat} (h:a=b) (h2:b * k<=c):a * k<=c:=h ▸ h2
theorem c2C {n:Nat} (h:n * 8<=LIM):n<=maxLen:=by unfold LIM at h;simp only [maxLen];omega
theorem c0N {n:Nat} (h:n * 16<=LIM):n<=maxLen:=by unfold LIM at h;simp only [maxLen];omega
theorem b5p {α:Type} (f:α->Int) (l:List α) (h:b9p (l.map f)=true):l.length * 8<=LIM:=by
 have:=(of_decide_eq_true h).2.2
 rwa [List.length_map] at this
theorem b5q {α:Type} (f:α->List UInt8) (l:List α) (h:b9q (l.map f)=true):l.length * 16<=LIM:=by
 have:=(of_decide_eq_true h).2.2
 rwa [List.length_map] at this
theorem d4R (V:U) (l:List ((U.int .i64).den × V.den)) (h:b9p (l.map (·.1))=true):d4B (l.map (U.pr (.int .i64) V).enc):=by
 obtain⟨a1,a2,_⟩:=of_decide_eq_true h
 have e:(l.map (U.pr (.int .i64) V).enc).map d1F=l.map (·.1):=c37 (f:=(U.pr (.int .i64) V).enc) (fun _=>rfl) l
 refine⟨fun c hc=>?_,?_,?_,?_,?_⟩
 ·obtain⟨p,_,rfl⟩:=List.mem_map.1 hc;exact⟨p.1,V.enc p.2,rfl⟩
 ·rw [e];exact a1
 ·rw [e]
  intro x hx
  have:=a2 x hx
  have h2:IntKind.i64.min<=x/\x<=IntKind.i64.max:=this
  simpa [Lit.wf] using h2
 ·exact c2C (b1Z (b9r (U.pr (.int .i64) V).enc l) (b5p (α:=(U.pr (.int .i64) V).den) (fun p=>p.1) l h))
 ·exact b1Z (b9r (U.pr (.int .i64) V).enc l) (b5p (α:=(U.pr (.int .i64) V).den) (fun p=>p.1) l h)
theorem d4S (V:U) (l:List (U.str.den × V.den)) (h:b9q (l.map (·.1))=true):d4C (l.map (U.pr .str V).enc):=by
 obtain⟨a1,a2,_⟩:=of_decide_eq_true h
 have e:(l.map (U.pr .str V).enc).map d1G=l.map (·.1):=c37 (f:=(U.pr .str V).enc) (fun _=>rfl) l
 refine⟨fun c hc=>?_,?_,?_,?_,?_⟩
 ·obtain⟨p,_,rfl⟩:=List.mem_map.1 hc;exact⟨p.1,V.enc p.2,rfl⟩
 ·rw [e];exact a1
 ·rw [e]
  intro x hx
  exact Nat.le_trans (a2 x hx) (by simp only [maxLen];omega)
 ·exact c0N (b1Z (b9r (U.pr .str V).enc l) (b5q (α:=(U.pr .str V).den) (fun p=>p.1) l h))
 ·exact b1Z (b9r (U.pr .str V).enc l) (b5q (α:=(U.pr .str V).den) (fun p=>p.1) l h)
theorem d4T (V:U) (l:List ((U.int .i64).den × V.den)):sortI (l.map (U.pr (.int .i64) V).enc)=(b9n (l.map (·.1))).map (U.int .i64).enc:=by
 have e:(l.map (U.pr (.int .i64) V).enc).map d1F=l.map (·.1):=c37 (f:=(U.pr (.int .i64) V).enc) (fun _=>rfl) l
 unfold sortI
 rw [e]
 exact congrArg (List.map fun x:Int=>[DV.v (.int .i64 x)]) (c2A (l.map fun p=>p.1))
theorem d4U (V:U) (l:List (U.str.den × V.den)):sortS (l.map (U.pr .str V).enc)=(b9o (l.map (·.1))).map U.str.enc:=by
 have e:(l.map (U.pr .str V).enc).map d1G=l.map (·.1):=c37 (f:=(U.pr .str V).enc) (fun _=>rfl) l
 unfold sortS
 rw [e]
 exact congrArg (List.map fun x:List UInt8=>[DV.v (c9J x)]) (c2B (l.map fun p=>p.1))
def d6M (sp:Sp) (o:Oper) (c:Call):TQ (List a2Z):=(d4G c.args.toList).bind fun xs=>match sp with
 | .none=> .fail
 | .keys f1=>c7N f1 o xs
 | .sortI f1 e=>c36 (.int .i64) f1 e b9p b9n o xs
 | .sortS f1 e=>c36 .str f1 e b9q b9o o xs
theorem b9s (sp:Sp) (o:Oper) (c:Call):Sim US (d6M sp o c) (spQ sp o c):=by
 refine Sim.bind (b53 _) fun xs=>?_
 cases sp with
 | none=>exact Sim.fail
 | keys f1=>exact c5u f1 o xs
 | sortI f1 e=>exact b8o rfl d4R d4T o xs
 | sortS f1 e=>exact b8o rfl d4S d4U o xs
def b1a (T:TypeId->Option TI) (TU:TypeId->Option U) (Γ:List (Nat × TFn)) (o:Oper) (c:Call):TQ (List a2Z):=match c.callee with
 | .value x=>(tev x).bind fun v=>(d6L v).bind fun f=>(d4G c.args.toList).bind fun xs=> .req (Nat.blt f.1 1000000) (match c7L Γ (f.1 + b56 xs * 1000000) with
  | some S=>match S.sp with
   | .none=> .req (S.args.ok && S.res.ok) (d23 S o c f.2)
   | sp=>match f.2 with
    | []=>d6M sp o c
    | _=> .fail
  | none=> .fail)
 | .builtin b=>c7J T TU b o c
 | _=> .fail
def c7O (Γ:List (Nat × TFn)):List (Nat × b3P):=Γ.map fun p=>(p.1,p.2.spec)
theorem b8p:∀ (Γ:List (Nat × TFn)) (f:Nat),a3n (c7O Γ) f=(c7L Γ f).map TFn.spec
 | [],_=>rfl
 | p :: Γ,f=>by
  show(if f=p.1 then some p.2.spec else a3n (c7O Γ) f)=(match Nat.beq f p.1 with | true=>some p.2 | false=>c7L Γ f).map TFn.spec
  cases hb:Nat.beq f p.1 with
  | true=>rw [if_pos (Nat.eq_of_beq_eq_true hb)];rfl
  | false=>rw [if_neg (fun e=>by rw [e,Nat.beq_refl] at hb;cases hb),b8p Γ f]
theorem b4P (T:TypeId->Option TI) (TU:TypeId->Option U) (Γ:List (Nat × TFn)) (o:Oper) (c:Call):Sim US (b1a T TU Γ o c) (c3E T (c7O Γ) o c):=by
 unfold b1a c3E
 split
 ·rename_i x hc
  rw [hc]
  simp only
  refine Sim.bind (G6 x) fun v=>Sim.bind (d0f v) fun f=>Sim.bind (b53 _) fun xs=>?_
  simp only
  rw [b8p,b8m]
  refine Sim.req (fun h=>Nat.le_of_ble_eq_true h) fun _=>?_
  cases c7L Γ (f.1 + b56 xs * 1000000) with
  | none=>exact Sim.fail
  | some S=>
   show Sim US (match S.sp with | .none=> .req (S.args.ok && S.res.ok) (d23 S o c f.2) | sp=>match f.2 with | []=>d6M sp o c | _=> .fail) (match S.sp with | .none=>c6V S.spec o c (f.2.map TV.av) | sp=>match f.2.map TV.av with | []=>spQ sp o c | _=> .fail)
   obtain⟨f0,ex⟩:=f
   cases S.sp with
   | none=>
    refine Sim.chk fun h=>?_
    rw [Bool.and_eq_true] at h
    exact c7I S h.1 h.2 o c ex
   | keys f1=>cases ex <;> first | exact b9s _ o c | exact Sim.fail
   | sortI f1 e=>cases ex <;> first | exact b9s _ o c | exact Sim.fail
   | sortS f1 e=>cases ex <;> first | exact b9s _ o c | exact Sim.fail
 ·rename_i b hc
  rw [hc]
  exact c5t T TU b o c
 ·exact Sim.fail
end Go.Proofs.YtbipjlehhlkghaaGreatDoor.Am
namespace Go.Proofs.YtbipjlehhlkghaaGreatDoor.Am
open Go
inductive Sh where
 | d (u:U)
 | nil
 | fn (f:FuncId)
 | npt
 | clo (f:FuncId) (u:U)
 | e (u:U)
 | row (j:Nat)
 | ptr (j off:Nat)
inductive SSh where
 | one (s:Sh)
 | agg (ss:List Sh)
def SSh.list:SSh->List Sh
 | .one s=>[s]
 | .agg ss=>ss
def b29:List Sh->Type
 | []=>Unit
 | .d u :: r=>u.den × b29 r
 | .clo _ u :: r=>u.den × b29 r
 | .e u :: r=>u.den × b29 r
 | _ :: r=>b29 r
def a4M:(ss:List Sh)->b29 ss->List TC
 | [],_=>[]
 | .d u :: r,x=> .ch u x.1 :: a4M r x.2
 | .nil :: r,x=> .nil :: a4M r x
 | .fn f :: r,x=> .fn f :: a4M r x
 | .npt :: r,x=> .npt :: a4M r x
 | .clo f u :: r,x=> .clo f u x.1 :: a4M r x.2
 | .e u :: r,x=> .ep u x.1 0 :: a4M r x.2
 | .row j :: r,x=> .row j 0 :: a4M r x
 | .ptr j off :: r,x=> .ptr j 0 off :: a4M r x
def shr:Nat->Nat->List TC->List TC
 | 0,_,ps=>ps
 | f + 1,z,ps=>match b6F ps with
  | some c=>match Nat.blt z c.1.1.size with
   | true=>shr f z (b09 c.1.1 c.1.2 ++ c.2)
   | false=>ps
  | none=>ps
theorem b6V:∀ {f z:Nat} {ps:List TC},B9 (shr f z ps)=B9 ps
 | 0,_,_=>rfl
 | f + 1,z,ps=>by
  unfold shr
  split
  ·rename_i c hc
   split
   ·rw [b6V,a3N,a7E,b4L hc];rfl
   ·rfl
  ·rfl
def c2D (u:U):List TC->Option (u.den × List TC)
 | .ch v x :: rest=>match decEq v u with
  | .isTrue h=>some (a94 h x,rest)
  | .isFalse _=>none
 | _=>none
def d24 (u:U):List TC->Option (List u.den × List TC)
 | .ch (.sl v) x :: rest=>match decEq v u with
  | .isTrue h=>some ((h ▸ x:List u.den),rest)
  | .isFalse _=>none
 | .nil :: rest=>some ([],rest)
 | _=>none
def d25 {α:Type} (p:List TC->Option (α × List TC)):(n:Nat)->List TC->Option (Vector α n × List TC)
 | 0,ps=>some (#v[],ps)
 | n + 1,ps=>(d25 p n ps).bind fun a=>(p a.2).map fun b=>(a.1.push b.1,b.2)
def b6W:(u:U)->List TC->Option (u.den × List TC)
 | .sl u,ps=>d24 u ps
 | .pr a b,ps=>match b6F (shr FU (U.pr a b).size ps) with
  | some c=>match decEq c.1.1 (.pr a b) with
   | .isTrue h=>some (a94 h c.1.2,c.2)
   | .isFalse _=>(b6W a ps).bind fun p=>(b6W b p.2).map fun q=>((p.1,q.1),q.2)
  | none=>(b6W a ps).bind fun p=>(b6W b p.2).map fun q=>((p.1,q.1),q.2)
 | .arr n u,ps=>match c2D (.arr n u) (shr FU (U.arr n u).size ps) with
  | some q=>some q
  | none=>d25 (b6W u) n ps
 | .int k,ps=>c2D (.int k) (shr FU 1 ps)
 | .byte,ps=>c2D .byte (shr FU 1 ps)
 | .bool,ps=>c2D .bool (shr FU 1 ps)
 | .str,ps=>c2D .str (shr FU 1 ps)
def DLe (xs ys:List AC):Prop:=∀ s b r,b5I s b r xs ys
theorem b6X {s:St} {b:List (Nat × Nat × List AC)} {r:List (Nat × Option Nat × Row)}:∀ {xs ys us vs:List AC},b5I s b r xs ys->b5I s b r us vs->b5I s b r (xs ++ us) (ys ++ vs)
 | [],[],_,_,_,h=>h
 | _x :: _xs,_y :: _ys,_,_,h,k=>⟨h.1,b6X h.2 k⟩
theorem DLe.app {xs ys us vs:List AC} (h:DLe xs ys) (k:DLe us vs):DLe (xs ++ us) (ys ++ vs):=fun s b r=>b6X (h s b r) (k s b r)
theorem DLe.refl:∀ (ds:List DV),DLe (ds.map .d) (ds.map .d)
 | []=>fun _ _ _=>trivial
 | _d :: ds=>fun s b r=>⟨rfl,DLe.refl ds s b r⟩
theorem b31 {u:U} {ps:List TC} {p:u.den × List TC} (h:c2D u ps=some p):∃ pre,B9 ps=pre ++ B9 p.2/\DLe pre ((u.enc p.1).map .d):=by
 unfold c2D at h
 split at h
 ·split at h
  ·rename_i e _
   injection h with h
   subst h
   refine⟨_,rfl,?_⟩
   rw [b1S]
   exact DLe.refl _
  ·cases h
 ·cases h
theorem d0j {u:U} {ps:List TC} {p:List u.den × List TC} (h:d24 u ps=some p):∃ pre,B9 ps=pre ++ B9 p.2/\DLe pre [.d (.sl (p.1.map u.enc))]:=by
 unfold d24 at h
 split at h
 ·split at h
  ·rename_i e _
   subst e
   injection h with h
   subst h
   exact⟨_,rfl,fun s b r=>⟨rfl,trivial⟩⟩
  ·cases h
 ·injection h with h
  subst h
  exact⟨[.nil],rfl,fun s b r=>⟨rfl,trivial⟩⟩
 ·cases h
theorem c38 {α:Type} {f:α->List DV} {p:List TC->Option (α × List TC)} (hp:∀ {ps q},p ps=some q->∃ pre,B9 ps=pre ++ B9 q.2/\DLe pre ((f q.1).map .d)):∀ (n:Nat) {ps:List TC} {q:Vector α n × List TC},d25 p n ps=some q->∃ pre,B9 ps=pre ++ B9 q.2/\DLe pre ((q.1.toList.flatMap f).map .d)
 | 0,ps,q,h=>by
  injection h with h;subst h
  exact⟨[],rfl,fun _ _ _=>trivial⟩
 | n + 1,ps,q,h=>by
  obtain⟨a,h1,h2⟩:=Option.bind_eq_some_iff.1 h
  obtain⟨b,h3,rfl⟩:=Option.map_eq_some_iff.1 h2
  obtain⟨pre1,e1,d1⟩:=c38 hp n h1
  obtain⟨pre2,e2,d2⟩:=hp h3
  refine⟨pre1 ++ pre2,by rw [e1,e2,List.append_assoc],?_⟩
  simp only [Vector.toList_push,List.flatMap_append,List.flatMap_cons,List.flatMap_nil,List.append_nil,List.map_append]
  exact d1.app d2
theorem b57:∀ {u:U} {ps:List TC} {p:u.den × List TC},b6W u ps=some p->∃ pre,B9 ps=pre ++ B9 p.2/\DLe pre ((u.enc p.1).map .d)
 | .sl u,ps,p,h=>d0j h
 | .arr n u,ps,p,h=>by
  unfold b6W at h
  split at h
  ·rename_i q hq
   injection h with h;subst h
   rw [<-b6V (f:=FU) (z:=(U.arr n u).size)];exact b31 hq
  ·exact c38 b57 n h
 | .int k,ps,p,h=>by rw [<-b6V (f:=FU) (z:=1)];exact b31 h
 | .byte,ps,p,h=>by rw [<-b6V (f:=FU) (z:=1)];exact b31 h
 | .bool,ps,p,h=>by rw [<-b6V (f:=FU) (z:=1)];exact b31 h
 | .str,ps,p,h=>by rw [<-b6V (f:=FU) (z:=1)];exact b31 h
 | .pr a b,ps,p,h=>by
  have two:((b6W a ps).bind fun p=>(b6W b p.2).map fun q=>(((p.1,q.1),q.2):(a.den × b.den) × List TC))=some p->∃ pre,B9 ps=pre ++ B9 p.2/\DLe pre (((U.pr a b).enc p.1).map .d):=fun h=>by
   obtain⟨q,h1,h2⟩:=Option.bind_eq_some_iff.1 h
   obtain⟨q2,h3,rfl⟩:=Option.map_eq_some_iff.1 h2
   obtain⟨pre1,e1,d1⟩:=b57 h1
   obtain⟨pre2,e2,d2⟩:=b57 h3
   refine⟨pre1 ++ pre2,by rw [e1,e2,List.append_assoc],?_⟩
   show DLe _ ((a.enc q.1 ++ b.enc q2.1).map .d)
   rw [List.map_append]
   exact d1.app d2
  unfold b6W at h
  split at h
  ·rename_i c hc
   split at h
   ·rename_i e _
    injection h with h
    subst h
    have:=congrArg B9 (b4L hc)
    rw [b6V] at this
    refine⟨_,this,?_⟩
    rw [b1S]
    exact DLe.refl _
   ·exact two h
  ·exact two h
structure Rd (α:Type) where
 x:α
 rr:List (Nat × Option Nat)
 br:List (Nat × Nat)
def fit:(ss:List Sh)->TSt->List TC->Option (Rd (b29 ss))
 | [],_,ps=>match ps with
  | []=>some ⟨(),[],[]⟩
  | _=>none
 | .d u :: r,s,ps=>(b6W u ps).bind fun p=>(fit r s p.2).map fun q=>⟨(p.1,q.x),q.rr,q.br⟩
 | .fn f :: r,s,ps=>match ps with
  | .fn g :: rest=>match decEq g f with
   | .isTrue _=>fit r s rest
   | .isFalse _=>none
  | _=>none
 | .npt :: r,s,ps=>match ps with
  | .npt :: rest=>fit r s rest
  | _=>none
 | .clo f u :: r,s,ps=>match ps with
  | .clo g v x :: rest=>match decEq g f with
   | .isTrue _=>match decEq v u with
    | .isTrue h=>(fit r s rest).map fun q=>⟨(a94 h x,q.x),q.rr,q.br⟩
    | .isFalse _=>none
   | .isFalse _=>none
  | _=>none
 | .e u :: r,s,ps=>match ps with
  | .ep v x off :: rest=>match decEq v u with
   | .isTrue h=>match Nat.beq off 0 with
    | true=>(fit r s rest).map fun q=>⟨(a94 h x,q.x),q.rr,q.br⟩
    | false=>none
   | .isFalse _=>none
  | _=>none
 | .nil :: r,s,ps=>match ps with
  | .nil :: rest=>fit r s rest
  | _=>none
 | .row j :: r,s,ps=>match ps with
  | .nil :: rest=>(fit r s rest).map fun q=>⟨q.x,(j,none) :: q.rr,q.br⟩
  | .row id ver :: rest=>match Nat.beq ver (s.r id).ver with
   | true=>(fit r s rest).map fun q=>⟨q.x,(j,some id) :: q.rr,q.br⟩
   | false=>none
  | _=>none
 | .ptr j off :: r,s,ps=>match ps with
  | .ptr id ver off' :: rest=>match Nat.beq ver (s.b id).ver && Nat.beq off' off with
   | true=>(fit r s rest).map fun q=>⟨q.x,q.rr,(j,id) :: q.br⟩
   | false=>none
  | _=>none
def b3a (b:List (Nat × Nat × List AC)) (r:List (Nat × Option Nat × Row)) (rr:List (Nat × Option Nat)) (br:List (Nat × Nat)):Prop:=
 (∀ p ∈ rr,(a3n r p.1).map (·.1)=some p.2)/\(∀ p ∈ br,(a3n b p.1).map (·.1)=some p.2)
theorem b3a.rr_tail {b:List (Nat × Nat × List AC)} {r:List (Nat × Option Nat × Row)} {p:Nat × Option Nat} {rr:List (Nat × Option Nat)} {br:List (Nat × Nat)} (h:b3a b r (p :: rr) br):(a3n r p.1).map (·.1)=some p.2/\b3a b r rr br:=
 ⟨h.1 p (by simp),fun q hq=>h.1 q (by simp [hq]),h.2⟩
theorem b3a.br_tail {b:List (Nat × Nat × List AC)} {r:List (Nat × Option Nat × Row)} {p:Nat × Nat} {rr:List (Nat × Option Nat)} {br:List (Nat × Nat)} (h:b3a b r rr (p :: br)):(a3n b p.1).map (·.1)=some p.2/\b3a b r rr br:=
 ⟨h.2 p (by simp),h.1,fun q hq=>h.2 q (by simp [hq])⟩
theorem b0F {b:List (Nat × Nat × List AC)} {r:List (Nat × Option Nat × Row)} {s:TSt}:∀ {ss:List Sh} {ps:List TC} {q:Rd (b29 ss)},fit ss s ps=some q->b3a b r q.rr q.br->b5I s.st b r (B9 ps) (B9 (a4M ss q.x))
 | [],[],q,h,_=>trivial
 | [],_ :: _,q,h,_=>by cases h
 | .d u :: ss,ps,q,h,hr=>by
  obtain⟨p,h1,h2⟩:=Option.bind_eq_some_iff.1 h
  obtain⟨q2,h3,rfl⟩:=Option.map_eq_some_iff.1 h2
  obtain⟨pre,e,d⟩:=b57 h1
  rw [e]
  exact b6X (d _ _ _) (b0F (q:=q2) h3 hr)
 | .fn f :: ss,ps,q,h,hr=>by
  unfold fit at h
  split at h
  ·split at h
   ·rename_i e _;subst e
    exact⟨rfl,b0F (ss:=ss) (q:=q) h hr⟩
   ·cases h
  ·cases h
 | .clo f u :: ss,ps,q,h,hr=>by
  unfold fit at h
  split at h
  ·split at h
   ·rename_i e1 _;subst e1
    split at h
    ·rename_i e2 _;subst e2
     obtain⟨q2,h2,rfl⟩:=Option.map_eq_some_iff.1 h
     exact⟨rfl,b0F (ss:=ss) (q:=q2) h2 hr⟩
    ·cases h
   ·cases h
  ·cases h
 | .e u :: ss,ps,q,h,hr=>by
  unfold fit at h
  split at h
  ·split at h
   ·rename_i e2 _;subst e2
    split at h
    ·rename_i h0
     obtain⟨q2,h2,rfl⟩:=Option.map_eq_some_iff.1 h
     rw [Nat.eq_of_beq_eq_true h0]
     exact⟨rfl,b0F (ss:=ss) (q:=q2) h2 hr⟩
    ·cases h
   ·cases h
  ·cases h
 | .npt :: ss,ps,q,h,hr=>by
  match ps,h with
  | .npt :: rest,h=>exact⟨rfl,b0F (ss:=ss) (q:=q) h hr⟩
 | .nil :: ss,ps,q,h,hr=>by
  match ps,h with
  | .nil :: rest,h=>exact⟨trivial,b0F (ss:=ss) (q:=q) h hr⟩
 | .row j :: ss,ps,q,h,hr=>by
  unfold fit at h
  split at h
  ·obtain⟨q2,h2,rfl⟩:=Option.map_eq_some_iff.1 h
   obtain⟨a1,a2⟩:=hr.rr_tail
   exact⟨⟨rfl,a1⟩,b0F (ss:=ss) (q:=q2) h2 a2⟩
  ·rename_i id ver rest
   split at h
   ·rename_i hv
    obtain⟨q2,h2,rfl⟩:=Option.map_eq_some_iff.1 h
    obtain⟨a1,a2⟩:=hr.rr_tail
    exact⟨⟨Nat.eq_of_beq_eq_true hv,rfl,a1⟩,b0F (ss:=ss) (q:=q2) h2 a2⟩
   ·cases h
  ·cases h
 | .ptr j off :: ss,ps,q,h,hr=>by
  unfold fit at h
  split at h
  ·rename_i id ver off' rest
   split at h
   ·rename_i hv
    rw [Bool.and_eq_true] at hv
    obtain⟨q2,h2,rfl⟩:=Option.map_eq_some_iff.1 h
    obtain⟨a1,a2⟩:=hr.br_tail
    exact⟨⟨Nat.eq_of_beq_eq_true hv.1,rfl,Nat.eq_of_beq_eq_true hv.2,a1⟩,b0F (ss:=ss) (q:=q2) h2 a2⟩
   ·cases h
  ·cases h
structure Lay where
 n:Nat
 t:List (Nat × SSh)
 b:List (Nat × List Sh)
 r:List (Nat × U × TypeId × Bool)
def d0k:List (Nat × SSh)->Type
 | []=>Unit
 | p :: r=>b29 p.2.list × d0k r
def d1V:List (Nat × List Sh)->Type
 | []=>Unit
 | p :: r=>b29 p.2 × d1V r
def d1W:List (Nat × U × TypeId × Bool)->Type
 | []=>Unit
 | p :: r=>List p.2.1.den × d1W r
def Lay.den (L:Lay):Type:=d0k L.t × d1V L.b × d1W L.r
def d6N:(p:SSh)->b29 p.list->TV
 | .one s,x=>match a4M [s] x with
  | [c]=> .o (.c c)
  | _=> .any
 | .agg ss,x=> .o (.agg (a4M ss x))
def d26:(l:List (Nat × SSh))->d0k l->List (Nat × TV)
 | [],_=>[]
 | p :: r,x=>(p.1,d6N p.2 x.1) :: d26 r x.2
def d0l:(l:List (Nat × List Sh))->d1V l->List (Nat × List TC)
 | [],_=>[]
 | p :: r,x=>(p.1,a4M p.2 x.1) :: d0l r x.2
def c7P:(l:List (Nat × U × TypeId × Bool))->d1W l->List (Nat × b5J)
 | [],_=>[]
 | p :: r,x=>(p.1,⟨p.2.1,x.1,p.2.2.1,p.2.2.2⟩) :: c7P r x.2
def Lay.st (L:Lay) (x:L.den):TSt:=⟨L.n,fun k=>⟨decide (k < L.n),(a3n (d26 L.t x.1) k).getD .any⟩,fun k=>⟨0,a3n (d0l L.b x.2.1) k⟩,fun k=>⟨0,a3n (c7P L.r x.2.2) k⟩⟩
def d27:(p:SSh)->TSt->TV->Option (Rd (b29 p.list))
 | .one s',s,v=>match v with
  | .o (.c c)=>match is1 c with
   | true=>fit [s'] s [c]
   | false=>none
  | _=>none
 | .agg ss,s,v=>match v with
  | .o (.agg ps)=>fit ss s ps
  | _=>none
theorem d0m {b:List (Nat × Nat × List AC)} {r:List (Nat × Option Nat × Row)} {s:TSt} {p:SSh} {v:TV} {q:Rd (b29 p.list)} (h:d27 p s v=some q) (hr:b3a b r q.rr q.br):d4r s.st b r v.av (d6N p q.x).av:=by
 cases p with
 | one s'=>
  unfold d27 at h
  simp only at h
  split at h
  ·rename_i c
   split at h
   ·rename_i hc
    have h1:=b0F h hr
    have e0:B9 [c]=[a5m c.cells]:=(List.append_nil _).trans (b5l hc)
    rw [e0] at h1
    unfold d6N
    simp only
    split
    ·rename_i c' hc'
     rw [hc'] at h1
     show d4q s.st b r (a5m c.cells) (a5m c'.cells)
     have h1:b5I s.st b r [a5m c.cells] (c'.cells ++ []):=h1
     rw [List.append_nil] at h1
     match hl:c'.cells,h1 with
     | [y],h1=>exact h1.1
    ·cases hx:(TV.o (T1.c c)).av <;> trivial
   ·cases h
  ·cases h
 | agg ss=>
  match v,h with
  | .o (.agg ps),h=>exact b0F (ss:=ss) (q:=q) h hr
def b32 (s:TSt):(l:List (Nat × SSh))->Option (Rd (d0k l))
 | []=>some ⟨(),[],[]⟩
 | p :: r=>match Nat.ble s.n p.1 || (s.t p.1).g with
  | true=>(d27 p.2 s (s.t p.1).x).bind fun q=>(b32 s r).map fun q2=>⟨(q.x,q2.x),q.rr ++ q2.rr,q.br ++ q2.br⟩
  | false=>none
def tA (l:List (Nat × SSh)) (x:d0k l):List (Nat × AV):=(d26 l x).map fun p=>(p.1,p.2.av)
theorem b3a.split {b:List (Nat × Nat × List AC)} {r:List (Nat × Option Nat × Row)} {rr rr2:List (Nat × Option Nat)} {br br2:List (Nat × Nat)} (h:b3a b r (rr ++ rr2) (br ++ br2)):b3a b r rr br/\b3a b r rr2 br2:=
 ⟨⟨fun p hp=>h.1 p (by simp [hp]),fun p hp=>h.2 p (by simp [hp])⟩,⟨fun p hp=>h.1 p (by simp [hp]),fun p hp=>h.2 p (by simp [hp])⟩⟩
theorem b5r {b:List (Nat × Nat × List AC)} {r:List (Nat × Option Nat × Row)} {s:TSt}:∀ {l:List (Nat × SSh)} {q:Rd (d0k l)},b32 s l=some q->b3a b r q.rr q.br->b05 s.st b r (tA l q.x)
 | [],_,_,_=>trivial
 | p :: l,q,h,hr=>by
  unfold b32 at h
  split at h
  ·rename_i hg
   obtain⟨q1,h1,h2⟩:=Option.bind_eq_some_iff.1 h
   obtain⟨q2,h3,rfl⟩:=Option.map_eq_some_iff.1 h2
   obtain⟨r1,r2⟩:=hr.split
   refine⟨⟨fun hlt=>?_,d0m h1 r1⟩,b5r (q:=q2) h3 r2⟩
   rw [Bool.or_eq_true] at hg
   rcases hg with hg | hg
   ·have:=Nat.le_of_ble_eq_true hg
    have:p.1 < s.n:=hlt
    omega
   ·exact hg
  ·cases h
structure RdB (α:Type) where
 x:α
 rr:List (Nat × Option Nat)
 br:List (Nat × Nat)
 L:List (Nat × Nat × List AC)
def b33 (s:TSt):List (Nat × Nat)->(l:List (Nat × List Sh))->Option (RdB (d1V l))
 | _,[]=>some ⟨(),[],[],[]⟩
 | br,p :: r=>match a3n br p.1 with
  | none=>none
  | some id=>match(s.b id).c with
   | none=>none
   | some ps=>(fit p.2 s ps).bind fun q=>(b33 s (br ++ q.br) r).map fun q2=>⟨(q.x,q2.x),q.rr ++ q2.rr,q.br ++ q2.br,(p.1,id,B9 (a4M p.2 q.x)) :: q2.L⟩
theorem b5s {b:List (Nat × Nat × List AC)} {r:List (Nat × Option Nat × Row)} {s:TSt}:∀ {l:List (Nat × List Sh)} {br:List (Nat × Nat)} {q:RdB (d1V l)},b33 s br l=some q->b3a b r q.rr q.br->b20 s.st b r q.L/\∀ k,(a3n q.L k).map (·.2)=(a3n (d0l l q.x) k).map B9
 | [],_,q,h,_=>by injection h with h;subst h;exact⟨trivial,fun _=>rfl⟩
 | p :: l,br,q,h,hr=>by
  unfold b33 at h
  split at h
  ·cases h
  ·rename_i id hid
   split at h
   ·cases h
   ·rename_i ps hps
    obtain⟨q1,h1,h2⟩:=Option.bind_eq_some_iff.1 h
    obtain⟨q2,h3,rfl⟩:=Option.map_eq_some_iff.1 h2
    obtain⟨r1,r2⟩:=hr.split
    obtain⟨k1,k2⟩:=b5s (q:=q2) h3 r2
    refine⟨⟨?_,k1⟩,fun k=>?_⟩
    ·have hc:(s.st.b id).c=some (B9 ps):=by show(s.b id).c.map B9=_;rw [hps];rfl
     unfold d2y
     rw [hc]
     exact b0F h1 r1
    ·show(a3n ((p.1,id,B9 (a4M p.2 q1.x)) :: q2.L) k).map (·.2)=(a3n ((p.1,a4M p.2 q1.x) :: d0l l q2.x) k).map B9
     simp only [a3n]
     split
     ·rfl
     ·exact k2 k
structure RdR (α:Type) where
 x:α
 L:List (Nat × Option Nat × Row)
def b34 (s:TSt) (rr:List (Nat × Option Nat)):(l:List (Nat × U × TypeId × Bool))->Option (RdR (d1W l))
 | []=>some ⟨(),[]⟩
 | p :: r=>match a3n rr p.1 with
  | none=>none
  | some none=>match Nat.blt 0 p.2.1.size && Nat.blt p.2.2.1 a6Y with
   | true=>(b34 s rr r).map fun q2=>⟨(([]:List p.2.1.den),q2.x),(p.1,none,(⟨p.2.1,[],p.2.2.1,p.2.2.2⟩:b5J).row) :: q2.L⟩
   | false=>none
  | some (some id)=>match(s.r id).c with
   | none=>none
   | some R=>match decEq R.u p.2.1 with
    | .isTrue h=>match Nat.beq R.e p.2.2.1 && (!R.fr || p.2.2.2) with
     | true=>(b34 s rr r).map fun q2=>⟨((h ▸ R.l:List p.2.1.den),q2.x),(p.1,some id,(⟨p.2.1,(h ▸ R.l:List p.2.1.den),p.2.2.1,p.2.2.2⟩:b5J).row) :: q2.L⟩
     | false=>none
    | .isFalse _=>none
theorem row_cast {R:b5J} {u:U} (h:R.u=u) (e:TypeId) (fr:Bool):(⟨u,(h ▸ R.l:List u.den),e,fr⟩:b5J).row.es=R.row.es/\(⟨u,(h ▸ R.l:List u.den),e,fr⟩:b5J).row.sz=R.row.sz:=by
 subst h;exact⟨rfl,rfl⟩
theorem b3b {s:TSt} {rr:List (Nat × Option Nat)}:∀ {l:List (Nat × U × TypeId × Bool)} {q:RdR (d1W l)},b34 s rr l=some q->rowsLe s.st q.L/\∀ k,(a3n q.L k).map (·.2)=(a3n (c7P l q.x) k).map b5J.row
 | [],q,h=>by injection h with h;subst h;exact⟨trivial,fun _=>rfl⟩
 | p :: l,q,h=>by
  unfold b34 at h
  split at h
  ·cases h
  ·split at h
   ·rename_i hz
    obtain⟨q2,h3,rfl⟩:=Option.map_eq_some_iff.1 h
    obtain⟨k1,k2⟩:=b3b (q:=q2) h3
    rw [Bool.and_eq_true] at hz
    refine⟨⟨⟨rfl,Nat.le_of_ble_eq_true hz.1,Nat.le_of_ble_eq_true hz.2⟩,k1⟩,fun k=>?_⟩
    show(a3n ((p.1,none,(⟨p.2.1,[],p.2.2.1,p.2.2.2⟩:b5J).row) :: q2.L) k).map (·.2)=(a3n ((p.1,(⟨p.2.1,[],p.2.2.1,p.2.2.2⟩:b5J)) :: c7P l q2.x) k).map b5J.row
    simp only [a3n]
    split
    ·rfl
    ·exact k2 k
   ·cases h
  ·rename_i id hid
   split at h
   ·cases h
   ·rename_i R hR
    split at h
    ·rename_i hu _
     split at h
     ·rename_i hc
      rw [Bool.and_eq_true] at hc
      obtain⟨q2,h3,rfl⟩:=Option.map_eq_some_iff.1 h
      obtain⟨k1,k2⟩:=b3b (q:=q2) h3
      obtain⟨c1,c2⟩:=row_cast hu p.2.2.1 p.2.2.2
      refine⟨⟨?_,k1⟩,fun k=>?_⟩
      ·have hcr:(s.st.r id).c=some R.row:=by show(s.r id).c.map b5J.row=_;rw [hR];rfl
       unfold rowSrc
       simp only
       rw [hcr]
       refine⟨c1.symm,c2.symm,Nat.eq_of_beq_eq_true hc.1,fun hf=>?_⟩
       have hf:R.fr=true:=hf
       have h2:=hc.2
       rw [hf] at h2
       exact h2
      ·show(a3n ((p.1,some id,(⟨p.2.1,(hu ▸ R.l:List p.2.1.den),p.2.2.1,p.2.2.2⟩:b5J).row) :: q2.L) k).map (·.2)=(a3n ((p.1,(⟨p.2.1,(hu ▸ R.l:List p.2.1.den),p.2.2.1,p.2.2.2⟩:b5J)) :: c7P l q2.x) k).map b5J.row
       simp only [a3n]
       split
       ·rfl
       ·exact k2 k
     ·cases h
    ·cases h
def d0n (x:Nat):List Nat->Bool
 | []=>false
 | y :: r=>Nat.beq x y || d0n x r
def c0O:List Nat->Bool
 | []=>true
 | x :: r=> !d0n x r && c0O r
theorem c39 {x:Nat}:∀ {l:List Nat},d0n x l=false->x ∉ l
 | [],_,h=>by simp at h
 | y :: r,h,hm=>by
  simp only [d0n,Bool.or_eq_false_iff] at h
  rcases List.mem_cons.1 hm with e | hm
  ·subst e
   have:=h.1
   simp at this
  ·exact c39 h.2 hm
theorem b6Y:∀ {l:List Nat},c0O l=true->l.Nodup
 | [],_=>List.nodup_nil
 | x :: r,h=>by
  simp only [c0O,Bool.and_eq_true,Bool.not_eq_true'] at h
  exact List.nodup_cons.2 ⟨c39 h.1,b6Y h.2⟩
def c2E (rL:List (Nat × Option Nat × Row)) (p:Nat × Option Nat):Bool:=match a3n rL p.1,p.2 with
 | some q,some id=>match q.1 with
  | some id'=>Nat.beq id' id
  | none=>false
 | some q,none=>match q.1 with
  | some _=>false
  | none=>true
 | none,_=>false
def c2F (bL:List (Nat × Nat × List AC)) (p:Nat × Nat):Bool:=match a3n bL p.1 with
 | some q=>Nat.beq q.1 p.2
 | none=>false
theorem c5w {rL:List (Nat × Option Nat × Row)} {p:Nat × Option Nat} (h:c2E rL p=true):(a3n rL p.1).map (·.1)=some p.2:=by
 unfold c2E at h
 split at h
 ·rename_i q id hq hp
  split at h
  ·rename_i id' hi
   rw [hq,hp,Option.map_some,hi,Nat.eq_of_beq_eq_true h]
  ·cases h
 ·rename_i q hq hp
  split at h
  ·cases h
  ·rename_i hi
   rw [hq,hp,Option.map_some,hi]
 ·cases h
theorem c5x {bL:List (Nat × Nat × List AC)} {p:Nat × Nat} (h:c2F bL p=true):(a3n bL p.1).map (·.1)=some p.2:=by
 unfold c2F at h
 split at h
 ·rename_i q hq
  rw [hq,Option.map_some,Nat.eq_of_beq_eq_true h]
 ·cases h
def Lay.read0 (L:Lay) (s:TSt):Option L.den:=match Nat.beq s.n L.n with
 | true=>(b32 s L.t).bind fun a=>(b33 s a.br L.b).bind fun c=>(b34 s (a.rr ++ c.rr) L.r).bind fun d=>
  match(a.rr ++ c.rr).all (c2E d.L) && (a.br ++ c.br).all (c2F c.L) && c0O (c.L.map (·.2.1)) && c0O (d.L.filterMap (·.2.1)) with
  | true=>some (a.x,c.x,d.x)
  | false=>none
 | false=>none
theorem c7Q (l:List (Nat × TV)) (k:Nat):((a3n l k).getD .any).av=(a3n (l.map fun p=>(p.1,p.2.av)) k).getD .any:=by
 rw [<-c3F TV.av]
 cases a3n l k <;> rfl
theorem Lay.read0_le {L:Lay} {s:TSt} {x:L.den} (h:L.read0 s=some x):Le s.st (L.st x).st:=by
 unfold Lay.read0 at h
 split at h
 ·rename_i hn
  obtain⟨a,h1,h2⟩:=Option.bind_eq_some_iff.1 h
  obtain⟨c,h3,h4⟩:=Option.bind_eq_some_iff.1 h2
  obtain⟨d,h5,h6⟩:=Option.bind_eq_some_iff.1 h4
  clear h h2 h4
  split at h6
  ·rename_i hc
   injection h6 with h6
   subst h6
   simp only [Bool.and_eq_true,List.all_eq_true] at hc
   obtain⟨⟨⟨c1,c2⟩,c3⟩,c4⟩:=hc
   have hr:b3a c.L d.L (a.rr ++ c.rr) (a.br ++ c.br):=⟨fun p hp=>c5w (c1 p hp),fun p hp=>c5x (c2 p hp)⟩
   obtain⟨r1,r2⟩:=hr.split
   obtain⟨b1,b2⟩:=b5s h3 r2
   obtain⟨w1,w2⟩:=b3b h5
   have e:(L.st (a.x,c.x,d.x)).st=a93 L.n (tA L.t a.x) c.L d.L:=by
    unfold a93 TSt.st Lay.st
    congr 1
    ·funext k
     exact congrArg (GV.mk _) (c7Q _ k)
    ·funext k
     exact congrArg (BS.mk 0) (b2 k).symm
    ·funext k
     exact congrArg (RS.mk 0) (w2 k).symm
   rw [e]
   exact d6u (Nat.eq_of_beq_eq_true hn) (b5r h1 r1) b1 w1 (b6Y c3) (b6Y c4)
  ·cases h6
 ·cases h
def d6j (p:Nat × SSh) (s:TSt):TSt:=match p.2 with
 | .one (.d (.sl _))=>match(s.t p.1).g,(s.t p.1).x with
  | true,.o (.c (.row id ver))=>match(s.r id).c with
   | some R=>match Nat.beq ver (s.r id).ver && Nat.blt p.1 s.n && Nat.blt R.e a6Y with
    | true=>(s.app [.r id ⟨(s.r id).ver,some ⟨R.u,R.l,R.e,true⟩⟩]).app [.t p.1 ⟨true,.o (.c (.ch (.sl R.u) R.l))⟩]
    | false=>s
   | none=>s
  | _,_=>s
 | _=>s
def d6O:List (Nat × SSh)->TSt->TSt
 | [],s=>s
 | p :: r,s=>d6O r (d6j p s)
theorem d28 (p:Nat × SSh) (s:TSt):Le s.st (d6j p s).st:=by
 unfold d6j
 split
 ·split
  ·rename_i id ver hg hx
   split
   ·rename_i R hR
    split
    ·rename_i hc
     simp only [Bool.and_eq_true] at hc
     obtain⟨⟨c1,c2⟩,c3⟩:=hc
     have c1:=Nat.eq_of_beq_eq_true c1
     rw [TSt.st_app,TSt.st_app]
     refine d4s (R:=R.row) (Nat.le_of_ble_eq_true c2) (by exact hg) ?_ ?_ (Nat.le_of_ble_eq_true c3)
     ·exact(congrArg TV.av hx).trans (by rw [c1];rfl)
     ·show(s.r id).c.map b5J.row=_
      rw [hR];rfl
    ·exact Le.refl _
   ·exact Le.refl _
  ·exact Le.refl _
 ·exact Le.refl _
theorem c7R:∀ (l:List (Nat × SSh)) (s:TSt),Le s.st (d6O l s).st
 | [],_s=>Le.refl _
 | p :: l,s=>(d28 p s).trans (c7R l (d6j p s))
def Lay.read (L:Lay) (s:TSt):Option L.den:=L.read0 (d6O L.t s)
theorem Lay.read_le {L:Lay} {s:TSt} {x:L.den} (h:L.read s=some x):Le s.st (L.st x).st:=(c7R L.t s).trans (Lay.read0_le h)
end Go.Proofs.YtbipjlehhlkghaaGreatDoor.Am
namespace Go.Proofs.YtbipjlehhlkghaaGreatDoor.Am
open Go
def a2Z.part:a2Z->T5
 | .t k _=> .t k
 | .b k _=> .b k
 | .r k _=> .r k
theorem c4a (us:List a2Z):(us.map a2Z.upd).map Upd.part=us.map a2Z.part:=by
 rw [List.map_map]
 exact List.map_congr_left fun u _=>by cases u <;> rfl
def sel {α:Type} (b:Bool) (x y:α):α:=match b with
 | true=>x
 | false=>y
def b6Z (d:Option Nat):List a2Z:=match d with
 | some d=>[.t d ⟨false,.any⟩]
 | none=>[]
theorem d0o (d:Option Nat):US (b6Z d)=b8O d:=by cases d <;> rfl
section
variable (T:TypeId->Option TI) (TU:TypeId->Option U) (tcq:Oper->Call->TQ (List a2Z))
def a62 {R:Type} (draw:Bool) (l:List Oper):List Oper->TSt->List (List T5 × List T5)->(TSt->Option R)->Option R
 | [],s,tr,κ=>match draw with
  | true=>chk (b6w l tr) (κ s)
  | false=>κ s
 | o :: rest,s,tr,κ=>match o.guard with
  | none=>(d31 T TU tcq o).run s [] fun us rs=>a62 draw l rest (s.app us) (tr ++ [(rs,us.map a2Z.part)]) κ
  | some (j,want)=>match(l[j]?).bind (·.dst) with
   | none=>none
   | some d=>match(s.t d).g,(s.t d).x with
    | false,_=>a62 draw l rest (s.app (b6Z o.dst)) (tr ++ [([.t d],(b6Z o.dst).map a2Z.part)]) κ
    | true,.o (.c (.ch .bool b))=>sel b
     (match want with
      | true=>(d31 T TU tcq o).run (s.app1 (.t d ⟨true,c1 .bool true⟩)) [.t d] fun us rs=>a62 draw l rest ((s.app1 (.t d ⟨true,c1 .bool true⟩)).app us) (tr ++ [(rs,us.map a2Z.part)]) κ
      | false=>a62 draw l rest ((s.app1 (.t d ⟨true,c1 .bool true⟩)).app (b6Z o.dst)) (tr ++ [([.t d],(b6Z o.dst).map a2Z.part)]) κ)
     (match want with
      | false=>(d31 T TU tcq o).run (s.app1 (.t d ⟨true,c1 .bool false⟩)) [.t d] fun us rs=>a62 draw l rest ((s.app1 (.t d ⟨true,c1 .bool false⟩)).app us) (tr ++ [(rs,us.map a2Z.part)]) κ
      | true=>a62 draw l rest ((s.app1 (.t d ⟨true,c1 .bool false⟩)).app (b6Z o.dst)) (tr ++ [([.t d],(b6Z o.dst).map a2Z.part)]) κ)
    | _,_=>none
end
theorem c4b {α:Type} {b:Bool} {x y:Option α} {r:α} (h:sel b x y=some r):(b=true/\x=some r)\/(b=false/\y=some r):=by
 cases b
 ·exact .inr ⟨rfl,h⟩
 ·exact .inl ⟨rfl,h⟩
theorem c0P {s:TSt} {d:Nat} {x:TGV} (h:s.t d=x):s.app1 (.t d x)=s:=by
 show(⟨s.n,Am.upd s.t d x,s.b,s.r⟩:TSt)=s
 have:Am.upd s.t d x=s.t:=by
  funext j
  unfold Am.upd
  split
  ·rename_i e;rw [e,h]
  ·rfl
 rw [this]
section
variable {P:Program} {T:TypeId->Option TI} {TU:TypeId->Option U} {cq:Oper->Call->Q (List Upd)} {tcq:Oper->Call->TQ (List a2Z)}
theorem b4Q {R:Type} (hc:∀ o c,o.op= .call c->Sim US (tcq o c) (cq o c)) {draw:Bool} {l:List Oper} {κ:TSt->Option R} {r:R}:∀ {rest:List Oper} {s:TSt} {tr:List (List T5 × List T5)},a62 T TU tcq draw l rest s tr κ=some r->
  wpD T cq l rest s.st tr fun s' tr'=>(draw=true->b6w l tr'=true)/\∃ ts,s'=ts.st/\κ ts=some r
 | [],s,tr,h=>by
  unfold a62 at h
  cases draw with
  | true=>exact⟨fun _=>(a3O h).1,s,rfl,(a3O h).2⟩
  | false=>exact⟨fun e=>(by cases e),s,rfl,h⟩
 | o :: rest,s,tr,h=>by
  have run:∀ {s:TSt} {t0:List T5},((d31 T TU tcq o).run s t0 fun us rs=>a62 T TU tcq draw l rest (s.app us) (tr ++ [(rs,us.map a2Z.part)]) κ)=some r->
    (opQ T cq o).wpt s.st t0 fun us rs=>wpD T cq l rest (s.st.app us) (tr ++ [(rs,us.map Upd.part)]) fun s' tr'=>(draw=true->b6w l tr'=true)/\∃ ts,s'=ts.st/\κ ts=some r:=fun {s t0} h=>by
   have h1:=c99 (T:=T) (TU:=TU) hc o s t0 _ (TQ.run_wpt h)
   refine Q.wpt_mono h1 ?_
   rintro us rs ⟨tus,rfl,h2⟩
   have h3:=b4Q hc h2
   rw [TSt.st_app] at h3
   have e:tus.map a2Z.part=(US tus).map Upd.part:=(c4a tus).symm
   rw [e] at h3
   exact h3
  have skip:∀ {s:TSt} {t0:List T5},a62 T TU tcq draw l rest (s.app (b6Z o.dst)) (tr ++ [(t0,(b6Z o.dst).map a2Z.part)]) κ=some r->
    wpD T cq l rest (s.st.app (b8O o.dst)) (tr ++ [(t0,(b8O o.dst).map Upd.part)]) fun s' tr'=>(draw=true->b6w l tr'=true)/\∃ ts,s'=ts.st/\κ ts=some r:=fun {s t0} h=>by
   have h3:=b4Q hc h
   rw [TSt.st_app] at h3
   have e1:(b6Z o.dst).map a2Z.upd=b8O o.dst:=d0o o.dst
   have e:(b6Z o.dst).map a2Z.part=(b8O o.dst).map Upd.part:=by rw [<-c4a,e1]
   rw [e,e1] at h3
   exact h3
  show(opD T cq l o).wpt s.st [] fun us rs=>wpD T cq l rest (s.st.app us) (tr ++ [(rs,us.map Upd.part)]) fun s' tr'=>(draw=true->b6w l tr'=true)/\∃ ts,s'=ts.st/\κ ts=some r
  unfold a62 at h
  unfold opD
  split at h
  ·rename_i hg
   rw [hg]
   exact run h
  ·rename_i j want hg
   rw [hg]
   simp only
   split at h
   ·cases h
   ·rename_i d hd
    rw [hd]
    simp only [Q.wpt]
    have hst:s.st.t d=(s.t d).gv:=rfl
    rw [hst]
    split at h
    ·rename_i hgf
     have e:(s.t d).gv.g=false:=hgf
     rw [e]
     exact skip h
    ·rename_i b hgt hxb
     have e:(s.t d).gv.g=true:=hgt
     have ex:(s.t d).gv.x= .c (.d (.v (.bool b))):=congrArg TV.av hxb
     rw [e]
     simp only
     rw [ex]
     have hsd:s.t d=⟨true,c1 .bool b⟩:=by
      have:s.t d=⟨(s.t d).g,(s.t d).x⟩:=rfl
      rw [this,hgt,hxb];rfl
     rcases c4b h with⟨hb,h⟩ | ⟨hb,h⟩
     ·subst hb
      rw [c0P hsd] at h
      cases want with
      | true=>exact run h
      | false=>exact skip h
     ·subst hb
      rw [c0P hsd] at h
      cases want with
      | true=>exact skip h
      | false=>exact run h
    ·cases h
theorem b8q {l:List Oper} {K:St->Prop}:∀ {rest:List Oper} {s:St} {tr:List (List T5 × List T5)},(wpD T cq l rest s tr fun s' _=>K s')->wpR T cq l rest s K
 | [],_,_,h=>h
 | o :: rest,s,tr,h=>by
  have h:(opD T cq l o).wpt s [] fun us rs=>wpD T cq l rest (s.app us) (tr ++ [(rs,us.map Upd.part)]) fun s' _=>K s':=h
  show(opD T cq l o).wp s fun us=>wpR T cq l rest (s.app us) K
  exact Q.wp_of_wpt (Q.wpt_mono h fun us rs h1=>b8q h1)
theorem b9t {l:List Oper} {K K':St->List (List T5 × List T5)->Prop} (hk:∀ s tr,K s tr->K' s tr):∀ {rest:List Oper} {s:St} {tr:List (List T5 × List T5)},wpD T cq l rest s tr K->wpD T cq l rest s tr K'
 | [],_,_,h=>hk _ _ h
 | o :: rest,s,tr,h=>by
  have h:(opD T cq l o).wpt s [] fun us rs=>wpD T cq l rest (s.app us) (tr ++ [(rs,us.map Upd.part)]) K:=h
  show(opD T cq l o).wpt s [] fun us rs=>wpD T cq l rest (s.app us) (tr ++ [(rs,us.map Upd.part)]) K'
  exact Q.wpt_mono h fun us rs h1=>b9t hk h1
end
def a1E {S R:Type}:Nat->(S->Option (S ⊕ R))->S->Option R
 | 0,_,_=>none
 | n + 1,G,x=>match G x with
  | none=>none
  | some (.inl y)=>a1E n G y
  | some (.inr r)=>some r
theorem c7S:(True/\True)=True:=propext ⟨fun _=>trivial,fun _=>⟨trivial,trivial⟩⟩
def c6g:Nat:= @Eq.rec Prop (True/\True) (fun _ _=>Nat) 1180591620717411303424 True c7S
theorem c7T {p q:Prop} (h:p=q) (n:Nat): @Eq.rec Prop p (fun _ _=>Nat) n q h=n:=by cases h;rfl
theorem b60:c6g=1180591620717411303424:=c7T c7S _
def I2 {S R:Type} (G:S->Option (S ⊕ R)) (x:S):Option R:=a1E c6g G x
def d0p {α β:Type} (o:Option α) (f:α->Option β):Option β:=
 let _h:= @I2 Unit Unit
 match o with
 | none=>none
 | some x=>f x
theorem c4c {α β:Type} (o:Option α) (f:α->Option β):d0p o f=o.bind f:=by cases o <;> rfl
structure Vw (L:Lay) (S:Type) where
 to:L.den->S
 of:S->L.den
 ok:∀ x,of (to x)=x
inductive An:Type->Type 1 where
 | leaf {R:Type}:An R
 | two {R:Type} (a b:An R):An R
 | one {R:Type} (a:An R):An R
 | cut {R S:Type} (L:Lay) (V:Vw L S) (F:S->Option R) (a b:An R):An R
 | loop {R S:Type} (L:Lay) (V:Vw L S) (G:S->Option (S ⊕ R)) (a:An (S ⊕ R)):An R
section
variable (T:TypeId->Option TI) (TU:TypeId->Option U) (tcq:Oper->Call->TQ (List a2Z))
def An.fst {R:Type}:An R->An R
 | .two a _=>a
 | .cut _ _ _ a _=>a
 | .one a=>a
 | _=> .leaf
def An.snd {R:Type}:An R->An R
 | .two _ b=>b
 | .cut _ _ _ _ b=>b
 | _=> .leaf
def c7U {R:Type} (id:Nat) (κ:AX->TSt->Option R) (ax:AX) (s:TSt):Option R:=match ax with
 | .normal=>κ .normal s
 | .exit i=>match Nat.beq i id with
  | true=>κ .normal s
  | false=>κ (.exit i) s
 | .ret=>κ .ret s
def d6P {R S:Type} (L:Lay) (V:Vw L S) (F:S->Option R) (κ:AX->TSt->Option R) (ax:AX) (s:TSt):Option R:=match ax with
 | .normal=>d0p (L.read s) fun x=>F (V.to x)
 | .exit i=>κ (.exit i) s
 | .ret=>κ .ret s
def d0q {R:Type} (F:TSt->Option R) (κ:AX->TSt->Option R) (ax:AX) (s:TSt):Option R:=match ax with
 | .normal=>F s
 | .exit i=>κ (.exit i) s
 | .ret=>κ .ret s
def d1X {R S:Type} (L:Lay) (V:Vw L S) (κ:AX->TSt->Option R) (ax:AX) (s:TSt):Option (S ⊕ R):=match ax with
 | .normal=>(L.read s).map fun x=> .inl (V.to x)
 | .exit i=>(κ (.exit i) s).map .inr
 | .ret=>(κ .ret s).map .inr
def An.next {R:Type} (a:An R) (F:TSt->Option R) (κ:AX->TSt->Option R):AX->TSt->Option R:=match a with
 | .cut L V G _ _=>d6P L V G κ
 | _=>d0q F κ
def c0Q {R:Type}:An R->Code->TSt->(AX->TSt->Option R)->Option R
 | _,.skip,s,κ=>κ .normal s
 | a,.seq x y,s,κ=>c0Q a.fst x s (a.next (fun s'=>c0Q a.snd y s' κ) κ)
 | _,.region _ ops draw,s,κ=>chk (ops.toList.all (c0u s.n)) (a62 T TU tcq draw ops.toList ops.toList s [] fun s'=>κ .normal s')
 | a,.cond c x y,s,κ=>((tev c).bind c9S).run s [] fun b _=>sel b (c0Q a.fst x s κ) (c0Q a.snd y s κ)
 | a,.block id c,s,κ=>c0Q a.fst c s (c7U id κ)
 | a,.loop _,s,_=>match a with
  | .loop L V G _=>d0p (L.read s) fun x=>I2 G (V.to x)
  | _=>none
 | _,.exit i,s,κ=>κ (.exit i) s
 | _,.ret,s,κ=>κ .ret s
 | _,_,_,_=>none
def An.ok:{R:Type}->An R->Code->(AX->TSt->Option R)->Prop
 | _,.leaf,_,_=>True
 | _,.two a b,.seq x y,κ=>a.ok x (d0q (fun s'=>c0Q T TU tcq b y s' κ) κ)/\b.ok y κ
 | _,.cut L V F a b,.seq x y,κ=>a.ok x (d6P L V F κ)/\b.ok y κ/\∀ v,F v=c0Q T TU tcq b y (L.st (V.of v)) κ
 | _,.two a b,.cond _ x y,κ=>a.ok x κ/\b.ok y κ
 | _,.one a,.block id c,κ=>a.ok c (c7U id κ)
 | _,.loop L V G a,.loop c,κ=>a.ok c (d1X L V κ)/\∀ v,G v=c0Q T TU tcq a c (L.st (V.of v)) (d1X L V κ)
 | _,_,_,_=>False
end
section
variable {P:Program} {T:TypeId->Option TI} {TU:TypeId->Option U} {cq:Oper->Call->Q (List Upd)} {tcq:Oper->Call->TQ (List a2Z)}
theorem c2G (hT:∀ t i,T t=some i->TOk P t i) (hcq:∀ o c,o.op= .call c->c6r P o (cq o c)) (hc:∀ o c,o.op= .call c->Sim US (tcq o c) (cq o c)) (hm:P.follows .mixedOrders=true) :
  ∀ (c:Code) {R:Type} {a:An R} {s:TSt} {κ:AX->TSt->Option R} {K:AX->St->Prop} {r:R},a.ok T TU tcq c κ->c0Q T TU tcq a c s κ=some r->(∀ ax s',κ ax s'=some r->K ax s'.st)->Tri P c K s.st:=by
 intro c
 induction c with
 | skip=>intro R a s κ K r _ h hk;exact c9A (hk _ _ h)
 | seq x y ihx ihy=>
  intro R a s κ K r ho h hk
  refine b8X ?_
  cases a with
  | leaf=>
   refine ihx (a:= .leaf) (κ:=d0q (fun s'=>c0Q T TU tcq .leaf y s' κ) κ) trivial h fun ax s' h'=>?_
   cases ax with
   | normal=>exact ihy (a:= .leaf) (κ:=κ) trivial h' hk
   | exit i=>exact hk _ _ h'
   | ret=>exact hk _ _ h'
  | two a b=>
   refine ihx ho.1 h fun ax s' h'=>?_
   cases ax with
   | normal=>exact ihy ho.2 h' hk
   | exit i=>exact hk _ _ h'
   | ret=>exact hk _ _ h'
  | cut L V F a b=>
   refine ihx ho.1 h fun ax s' h'=>?_
   cases ax with
   | normal=>
    rw [d6P,c4c] at h'
    obtain⟨v,h1,h2⟩:=Option.bind_eq_some_iff.1 h'
    rw [ho.2.2 (V.to v),V.ok] at h2
    exact d4p (Lay.read_le h1) (ihy ho.2.1 h2 hk)
   | exit i=>exact hk _ _ h'
   | ret=>exact hk _ _ h'
  | one a=>exact ho.elim
  | loop L V G a=>exact ho.elim
 | region id ops draw=>
  intro R a s κ K r _ h hk
  obtain⟨hd,h⟩:=a3O h
  have h1:=b4Q (T:=T) (TU:=TU) hc h
  have e:ops=ops.toList.toArray:=(Array.toArray_toList ..).symm
  rw [e]
  cases draw with
  | true=>exact c47 hT hcq hm hd (b9t (fun s' tr h2=>by obtain⟨h3,ts,rfl,h4⟩:=h2;exact⟨h3 rfl,hk _ _ h4⟩) h1)
  | false=>exact b77 hT hcq hd (b8q (tr:=[]) (b9t (fun s' tr h2=>by obtain⟨_,ts,rfl,h4⟩:=h2;exact hk _ _ h4) h1))
 | cond cc x y ihx ihy=>
  intro R a s κ K r ho h hk
  have h0:a.fst.ok T TU tcq x κ/\a.snd.ok T TU tcq y κ:=by
   cases a with
   | leaf=>exact⟨trivial,trivial⟩
   | two a b=>exact ho
   | cut L V F a b=>exact ho.elim
   | one a=>exact ho.elim
   | loop L V G a=>exact ho.elim
  have h1:=(Sim.bind (G6 cc) fun v=>c0F v) s [] _ (TQ.run_wpt h)
  refine c9C (Q.wp_of_wpt (Q.wpt_mono h1 ?_))
  rintro b rs ⟨b',rfl,h2⟩
  rcases c4b h2 with⟨rfl,h3⟩ | ⟨rfl,h3⟩
  ·exact⟨fun _=>ihx h0.1 h3 hk,fun e=>(by cases e)⟩
  ·exact⟨fun e=>(by cases e),fun _=>ihy h0.2 h3 hk⟩
 | block id c ih=>
  intro R a s κ K r ho h hk
  have h0:a.fst.ok T TU tcq c (c7U id κ):=by
   cases a with
   | leaf=>exact trivial
   | two a b=>exact ho.elim
   | cut L V F a b=>exact ho.elim
   | one a=>exact ho
   | loop L V G a=>exact ho.elim
  refine c6Q (ih h0 h fun ax s' h'=>?_)
  cases ax with
  | normal=>exact hk _ _ h'
  | exit i=>
   show if i=id then K .normal s'.st else K (.exit i) s'.st
   have h':(match Nat.beq i id with | true=>κ .normal s' | false=>κ (.exit i) s')=some r:=h'
   split at h'
   ·rename_i hb;rw [if_pos (Nat.eq_of_beq_eq_true hb)];exact hk _ _ h'
   ·rename_i hb
    rw [if_neg (fun e=>by subst e;rw [Nat.beq_refl] at hb;cases hb)]
    exact hk _ _ h'
  | ret=>exact hk _ _ h'
 | loop c ih=>
  intro R a s κ K r ho h hk
  cases a with
  | loop L V G a=>
   obtain⟨ho1,ho2⟩:=ho
   have h:d0p (L.read s) (fun x=>I2 G (V.to x))=some r:=h
   rw [c4c] at h
   obtain⟨v,h1,h2⟩:=Option.bind_eq_some_iff.1 h
   refine c9D (fun n st=>∃ x,st=(L.st (V.of x)).st/\a1E n G x=some r) (n0:=c6g) (s0:=(L.st (V.of (V.to v))).st) (by rw [V.ok];exact Lay.read_le h1) ⟨V.to v,rfl,h2⟩ ?_
   rintro n st ⟨x,rfl,hx⟩
   cases n with
   | zero=>cases hx
   | succ n=>
    unfold a1E at hx
    split at hx
    ·cases hx
    ·rename_i y hy
     rw [ho2 x] at hy
     refine ih ho1 hy fun ax s' h'=>?_
     cases ax with
     | normal=>
      obtain⟨z,h3,h4⟩:=Option.map_eq_some_iff.1 h'
      injection h4 with h4
      subst h4
      exact⟨n,_,Nat.lt_succ_self n,by rw [V.ok];exact Lay.read_le h3,V.to z,rfl,hx⟩
     | exit i=>obtain⟨z,_,h4⟩:=Option.map_eq_some_iff.1 h';cases h4
     | ret=>obtain⟨z,_,h4⟩:=Option.map_eq_some_iff.1 h';cases h4
    ·rename_i r' hy
     injection hx with hx
     subst hx
     rw [ho2 x] at hy
     refine ih ho1 hy fun ax s' h'=>?_
     cases ax with
     | normal=>obtain⟨z,_,h4⟩:=Option.map_eq_some_iff.1 h';cases h4
     | exit i=>
      obtain⟨z,h3,h4⟩:=Option.map_eq_some_iff.1 h'
      injection h4 with h4
      subst h4
      exact hk _ _ h3
     | ret=>
      obtain⟨z,h3,h4⟩:=Option.map_eq_some_iff.1 h'
      injection h4 with h4
      subst h4
      exact hk _ _ h3
  | leaf=>cases h
  | two a b=>exact ho.elim
  | cut L V F a b=>exact ho.elim
  | one a=>exact ho.elim
 | exit i=>intro R a s κ K r _ h hk;exact c9B (hk _ _ h)
 | ret=>intro R a s κ K r _ h hk;exact d2x (hk _ _ h)
 | _=>intro R a s κ K r _ h hk;cases h
end
end Go.Proofs.YtbipjlehhlkghaaGreatDoor.Am
namespace Go.Proofs.YtbipjlehhlkghaaGreatDoor.Am
open Go
def c0R:PTs->ATs->ATs
 | .nil,r=>r
 | .cons t ts,r=> .cons (.bx t) (c0R ts r)
 | .rcons u e ts,r=> .cons (.rx u e) (c0R ts r)
def spl:(p:PTs)->(r:ATs)->(c0R p r).den->p.den × r.den
 | .nil,_,x=>((),x)
 | .cons _ ts,r,x=>((x.1,(spl ts r x.2).1),(spl ts r x.2).2)
 | .rcons _ _ ts,r,x=>((x.1,(spl ts r x.2).1),(spl ts r x.2).2)
theorem b9u:∀ (p:PTs) (r:ATs) (x:(c0R p r).den),(c0R p r).oas x=p.ocs (spl p r x).1 ++ r.oas (spl p r x).2
 | .nil,_,_=>rfl
 | .cons t ts,r,x=>by
  show AT.oa (.bx t) x.1 :: (c0R ts r).oas x.2=OA.bx (t.ocs x.1) :: (ts.ocs (spl ts r x.2).1 ++ r.oas (spl ts r x.2).2)
  rw [b9u ts r x.2];rfl
 | .rcons u e ts,r,x=>by
  show AT.oa (.rx u e) x.1 :: (c0R ts r).oas x.2=AT.oa (.rx u e) x.1 :: (ts.ocs (spl ts r x.2).1 ++ r.oas (spl ts r x.2).2)
  rw [b9u ts r x.2]
theorem c2H:∀ (p:PTs) (r:ATs),r.ok=true->(c0R p r).ok=true
 | .nil,_,h=>h
 | .cons _ ts,r,h=>by
  show(true && (c0R ts r).ok)=true
  rw [c2H ts r h];rfl
 | .rcons _ _ ts,r,h=>by
  show(true && (c0R ts r).ok)=true
  rw [c2H ts r h];rfl
def ATs.len:ATs->Nat
 | .nil=>0
 | .cons _ ts=>ts.len + 1
def PTs.len:PTs->Nat
 | .nil=>0
 | .cons _ ts=>ts.len + 1
 | .rcons _ _ ts=>ts.len + 1
theorem c7V:∀ (ts:ATs) (x:ts.den),(ts.oas x).length=ts.len
 | .nil,_=>rfl
 | .cons t ts,x=>by
  show(ts.oas x.2).length + 1=ts.len + 1
  rw [c7V ts]
theorem b9v:∀ (ts:PTs) (x:ts.den),(ts.ocs x).length=ts.len
 | .nil,_=>rfl
 | .cons t ts,x=>by
  show(ts.ocs x.2).length + 1=ts.len + 1
  rw [b9v ts]
 | .rcons _ _ ts,x=>by
  show(ts.ocs x.2).length + 1=ts.len + 1
  rw [b9v ts]
def c5y:ATs->List T1->List T1
 | .cons (.bx _) ts,v :: vs=>v :: c5y ts vs
 | .cons (.rx _ _) ts,v :: vs=>v :: c5y ts vs
 | .cons _ ts,_ :: vs=>c5y ts vs
 | _,_=>[]
theorem b10:∀ (ts:ATs) (x:ts.den) (vs:List T1),a0m (ts.oas x) (vs.map T1.av)=(c5y ts vs).map T1.av
 | .nil,_,[]=>rfl
 | .nil,_,_ :: _=>rfl
 | .cons (.bx _) _ts,_x,[]=>rfl
 | .cons (.rx _ _) _ts,_x,[]=>rfl
 | .cons (.c _) _ts,_x,[]=>rfl
 | .cons (.agg _) _ts,_x,[]=>rfl
 | .cons (.bx _t) ts,x,v :: vs=>congrArg (v.av :: ·) (b10 ts x.2 vs)
 | .cons (.rx _ _) ts,x,v :: vs=>congrArg (v.av :: ·) (b10 ts x.2 vs)
 | .cons (.c _t) ts,x,_v :: vs=>b10 ts x.2 vs
 | .cons (.agg _t) ts,x,_v :: vs=>b10 ts x.2 vs
def tUT (g:Bool) (i:Nat):List T1->List a2Z
 | []=>[]
 | v :: vs=> .t i ⟨g,.o v⟩ :: tUT g (i + 1) vs
theorem c7W (g:Bool):∀ (vs:List T1) (i:Nat),(tUT g i vs).map a2Z.upd=tU g i (vs.map T1.av)
 | [],_=>rfl
 | v :: vs,i=>congrArg (Upd.t i ⟨g,v.av⟩ :: ·) (c7W g vs (i + 1))
def c0S (n:Nat):TSt:=⟨n,fun k=>⟨decide (k < n),.any⟩,fun _=>⟨0,none⟩,fun _=>⟨0,none⟩⟩
theorem c7X (n:Nat):(c0S n).st=a93 n [] [] []:=rfl
def c7Y (n:Nat) (args:ATs) (k:d21):TSt:=(((c0S n).app k.us).app (tUT true 0 k.vs)).app (tUT false n (c5y args k.vs))
def d6k (T:TypeId->Option TI):List ResultVar->TQ (List TV)
 | []=> .ret []
 | .tmp t :: rs=>(tev (.tmp t)).bind fun v=>(d6k T rs).bind fun vs=> .ret (v :: vs)
 | .cell a t :: rs=>(ttq T t).bind fun i=>(tev (.tmp a)).bind fun p=>(c9V i p).bind fun v=>(d6k T rs).bind fun vs=> .ret (v :: vs)
theorem b9w (T:TypeId->Option TI):∀ (rs:List ResultVar),Sim (List.map TV.av) (d6k T rs) (d2D T rs)
 | []=>Sim.ret rfl
 | .tmp t :: rs=>Sim.bind (G6 (.tmp t)) fun _v=>Sim.bind (b9w T rs) fun _vs=>Sim.ret rfl
 | .cell a t :: rs=>Sim.bind (H4 T t) fun i=>Sim.bind (G6 (.tmp a)) fun p=>Sim.bind (c0H i p) fun _v=>Sim.bind (b9w T rs) fun _vs=>Sim.ret rfl
def d6Q (n:Nat):Nat->TQ (List TV)
 | 0=> .ret []
 | m + 1=> .rdT n fun x=>(d6Q (n + 1) m).bind fun vs=> .ret (x.x :: vs)
theorem c4d:∀ (m n:Nat),Sim (List.map TV.av) (d6Q n m) (d4z n m)
 | 0,_=>Sim.ret rfl
 | m + 1,n=>Sim.rdT fun _x=>Sim.bind (c4d m (n + 1)) fun _vs=>Sim.ret rfl
def d35 (T:TypeId->Option TI) (n:Nat) (rs:List ResultVar) (S:TFn):TQ (S.posts.den × S.res.den):=
 (d6Q n S.posts.len).bind fun ps=>(d6k T rs).bind fun vs=>(b9k (c0R S.posts S.res) (ps ++ vs)).bind fun k=>
 .req (c0M (k.tops ++ k.ids) && k.fz.all fun id=> !d33 (Sum.inr id) (k.tops ++ k.ids)) ((a60 k.fz).bind fun _=> .ret (spl S.posts S.res k.x))
theorem c7Z {T:TypeId->Option TI} {n:Nat} {rs:List ResultVar} {S:TFn} (hr:S.res.ok=true) {fin:S.posts.den × S.res.den->S.R} (hfin:∀ x,S.out (fin x)=x) {s:TSt} {r:S.R} (h:((d35 T n rs S).run s [] fun x _=>some (fin x))=some r) :
  (d2E T n S.posts.len rs (c0R S.posts S.res).sh (S.posts.ocs (S.out r).1) (S.res.oas (S.out r).2)).wp s.st fun _=>True:=by
 have h1:=TQ.run_wpt h
 unfold d35 at h1
 rw [TQ.wpt_bind] at h1
 unfold d2E
 rw [Q.wp_bind]
 refine Q.wp_of_wpt (tr:=[]) (Q.wpt_mono (c4d S.posts.len n s [] _ h1) ?_)
 rintro ps rs1 ⟨tps,rfl,h2⟩
 rw [TQ.wpt_bind] at h2
 rw [Q.wp_bind]
 refine Q.wp_of_wpt (tr:=rs1) (Q.wpt_mono (b9w T rs s rs1 _ h2) ?_)
 rintro vs rs2 ⟨tvs,rfl,h3⟩
 rw [TQ.wpt_bind] at h3
 rw [Q.wp_bind,<-List.map_append]
 refine Q.wp_of_wpt (tr:=rs2) (Q.wpt_mono (b28 _ (c2H _ _ hr) (tps ++ tvs) s rs2 _ h3) ?_)
 rintro k rs3 ⟨tk,rfl,h4⟩
 obtain⟨h5,h6⟩:=h4
 rw [Bool.and_eq_true] at h5
 rw [TQ.wpt_bind] at h6
 have h7:=a0n tk.fz s rs3 _ h6
 obtain⟨us,rs4,tus,_,h8⟩:=Q.wpt_ex h7
 injection h8 with h8
 subst h8
 rw [hfin]
 refine⟨⟨b9u _ _ _,b6S h5.1,fun id hid=>?_⟩,?_⟩
 ·have:=List.all_eq_true.1 h5.2 id hid
  exact b9m (by simpa using this)
 ·rw [Q.wp_bind]
  exact Q.wp_of_wpt (tr:=rs3) (Q.wpt_mono h7 fun _ _ _=>trivial)
def d1Y (T:TypeId->Option TI) (n:Nat) (rs:List ResultVar) (S:TFn) (fin:S.posts.den × S.res.den->S.R) (ax:AX) (s:TSt):Option S.R:=match ax with
 | .exit _=>none
 | .normal=>chk (Nat.beq s.n n) ((d35 T n rs S).run s [] fun x _=>some (fin x))
 | .ret=>chk (Nat.beq s.n n) ((d35 T n rs S).run s [] fun x _=>some (fin x))
def d29 (T:TypeId->Option TI) (TU:TypeId->Option U) (Γ:List (Nat × TFn)) (n:Nat) (rs:List ResultVar) (S:TFn) (fin:S.posts.den × S.res.den->S.R) (an:An S.R) (c:Code) (a:S.args.den):Option S.R:=
 (c7H 1000 S.args a).run (c0S n) [] fun k _=>chk (Nat.beq (c5y S.args k.vs).length S.posts.len && Nat.ble S.args.len n) (c0Q T TU (b1a T TU Γ) an c (c7Y n S.args k) (d1Y T n rs S fin))
structure FnT (P:Program) (f:FuncId) (S:TFn):Prop where
 args:S.args.ok=true
 res:S.res.ok=true
 ok:c9K P f S.spec
theorem c4e {P:Program} {f:FuncId} {fn:Func} {c:Code} {S:TFn} (hf:P.funcs[f]?=some fn) (hb:fn.body=some c) (hname:(fn.name == "runtime.NumGoroutine")=false) (ha:S.args.ok=true) (hr:S.res.ok=true) (hG:∀ a,S.G a=none) (hsp:S.sp= .none:=by rfl):FnT P f S:=
 ⟨ha,hr,⟨by show d7r P f S.sp;rw [hsp];trivial,⟨fn,hf,by rw [hb];rfl,hname⟩,fun _ _ _ _ _ _ _ _ _ hp=>by
  obtain⟨a,r,_,h⟩:=hp
  rw [hG] at h;cases h⟩⟩
def b1b {α β:Type} (l:List (α × β)):List α:=List.map (fun p=>p.1) l
theorem B3 {P:Program}:∀ p ∈ ([]:List (Nat × TFn)),FnT P (p.1 % 1000000) p.2:=fun _ h=>by cases h
theorem A2 {P:Program} {f:FuncId} {S:TFn} {Γ:List (Nat × TFn)} (h:FnT P (f % 1000000) S) (k:∀ p ∈ Γ,FnT P (p.1 % 1000000) p.2):∀ p ∈ (f,S) :: Γ,FnT P (p.1 % 1000000) p.2:=fun p hp=>by
 cases hp with
 | head=>exact h
 | tail _ hp=>exact k p hp
theorem fnT {P:Program} {T:TypeId->Option TI} {TU:TypeId->Option U} {Γ:List (Nat × TFn)} {f:FuncId} {fn:Func} {c:Code} {S:TFn} (hT:∀ t i,T t=some i->TOk P t i) (hm:P.follows .mixedOrders=true) (hΓ:∀ p ∈ Γ,FnT P (p.1 % 1000000) p.2)
  (hf:P.funcs[f]?=some fn) (hb:fn.body=some c) (hname:(fn.name == "runtime.NumGoroutine")=false) (ha:S.args.ok=true) (hr:S.res.ok=true) (fin:S.posts.den × S.res.den->S.R) (hfin:∀ x,S.out (fin x)=x) (an:An S.R)
  (hok:an.ok T TU (b1a T TU Γ) c (d1Y T fn.ntmps fn.results.toList S fin)) (hF:∀ a,S.G a=d29 T TU Γ fn.ntmps fn.results.toList S fin an c a) (hsp:S.sp= .none:=by rfl):FnT P f S:=by
 refine⟨ha,hr,d7t hT hf hb hname 1000 (fun xs hx=>?_) hsp⟩
 obtain⟨a,r,rfl,hFa⟩:=hx
 have h1:=hF a
 rw [hFa] at h1
 have h1:=h1.symm
 unfold d29 at h1
 have h2:=TQ.run_wpt h1
 have h3:=b3Y S.args ha 1000 a _ _ _ h2
 rw [c7X] at h3
 have hlen:S.args.len<=fn.ntmps:=by
  obtain⟨_,_,k,_,hk⟩:=Q.wpt_ex h3
  have:=(a3O hk).1
  rw [Bool.and_eq_true] at this
  exact Nat.le_of_ble_eq_true this.2
 refine⟨by rw [c7V];exact hlen,(c0R S.posts S.res).sh,Q.wp_of_wpt (Q.wpt_mono h3 ?_)⟩
 rintro k rs ⟨tk,rfl,hk⟩
 obtain⟨hc,hk⟩:=a3O hk
 rw [Bool.and_eq_true] at hc
 have hst:(c7Y fn.ntmps S.args tk).st=(((a93 fn.ntmps [] [] []).app (b7C tk).us).app (tU true 0 (b7C tk).avs)).app (tU false fn.ntmps (a0m (S.args.oas a) (b7C tk).avs)):=by
  unfold c7Y
  rw [TSt.st_app,TSt.st_app,TSt.st_app,c7W,c7W]
  simp only [b7C]
  rw [b10]
  rfl
 rw [<-hst]
 have hmm:(a0m (S.args.oas a) (b7C tk).avs).length=S.posts.len:=by
  simp only [b7C]
  rw [b10,List.length_map]
  exact Nat.eq_of_beq_eq_true hc.1
 rw [hmm]
 have hcq:=c0A (P:=P) (T:=T) hT (Γ:=c7O Γ) (fun p hp=>by
  obtain⟨q,hq,rfl⟩:=List.mem_map.1 hp
  exact(hΓ q hq).ok)
 have fin':∀ s',chk (Nat.beq s'.n fn.ntmps) ((d35 T fn.ntmps fn.results.toList S).run s' [] fun x _=>some (fin x))=some r->
   s'.st.n=fn.ntmps/\(S.spec.post (S.args.oas a)).length=S.posts.len/\(d2E T fn.ntmps S.posts.len fn.results.toList (c0R S.posts S.res).sh (S.spec.post (S.args.oas a)) (S.spec.res (S.args.oas a))).wp s'.st fun _=>True:=fun s' h'=>by
  obtain⟨h5,h6⟩:=a3O h'
  rw [TFn.post_of ha hFa,TFn.res_of ha hFa]
  exact⟨Nat.eq_of_beq_eq_true h5,b9v _ _,c7Z hr hfin h6⟩
 refine c2G hT hcq (fun o c _=>b4P T TU Γ o c) hm c hok hk fun ax s' h'=>?_
 cases ax with
 | normal=>exact fin' s' h'
 | exit i=>cases h'
 | ret=>exact fin' s' h'
end Go.Proofs.YtbipjlehhlkghaaGreatDoor.Am
namespace Go.Proofs.YtbipjlehhlkghaaGreatDoor.Am
open Go
abbrev a5C:List Type->Type
 | []=>Unit
 | [A]=>A
 | A :: B :: r=>A × a5C (B :: r)
def b2c {A:Type}:(r:List Type)->A->a5C r->a5C (A :: r)
 | [],a,_=>a
 | _ :: _,a,x=>(a,x)
def fhd {A:Type}:(r:List Type)->a5C (A :: r)->A
 | [],a=>a
 | _ :: _,x=>x.1
def ftl {A:Type}:(r:List Type)->a5C (A :: r)->a5C r
 | [],_=>()
 | _ :: _,x=>x.2
theorem a5D {A:Type}:∀ (r:List Type) (a:A) (x:a5C r),fhd r (b2c r a x)=a
 | [],_,_=>rfl
 | _ :: _,_,_=>rfl
theorem a5E {A:Type}:∀ (r:List Type) (a:A) (x:a5C r),ftl r (b2c r a x)=x
 | [],_,_=>rfl
 | _ :: _,_,_=>rfl
abbrev b5L:List Sh->List Type->List Type
 | [],r=>r
 | .d u :: s,r=>u.den :: b5L s r
 | .clo _ u :: s,r=>u.den :: b5L s r
 | .e u :: s,r=>u.den :: b5L s r
 | .nil :: s,r=>b5L s r
 | .fn _ :: s,r=>b5L s r
 | .npt :: s,r=>b5L s r
 | .row _ :: s,r=>b5L s r
 | .ptr _ _ :: s,r=>b5L s r
def c2K:(ss:List Sh)->(r:List Type)->b29 ss->a5C r->a5C (b5L ss r)
 | [],_,_,y=>y
 | .d _ :: s,r,x,y=>b2c (b5L s r) x.1 (c2K s r x.2 y)
 | .clo _ _ :: s,r,x,y=>b2c (b5L s r) x.1 (c2K s r x.2 y)
 | .e _ :: s,r,x,y=>b2c (b5L s r) x.1 (c2K s r x.2 y)
 | .nil :: s,r,x,y=>c2K s r x y
 | .fn _ :: s,r,x,y=>c2K s r x y
 | .npt :: s,r,x,y=>c2K s r x y
 | .row _ :: s,r,x,y=>c2K s r x y
 | .ptr _ _ :: s,r,x,y=>c2K s r x y
def c4g:(ss:List Sh)->(r:List Type)->a5C (b5L ss r)->b29 ss
 | [],_,_=>()
 | .d _ :: s,r,y=>(fhd (b5L s r) y,c4g s r (ftl (b5L s r) y))
 | .clo _ _ :: s,r,y=>(fhd (b5L s r) y,c4g s r (ftl (b5L s r) y))
 | .e _ :: s,r,y=>(fhd (b5L s r) y,c4g s r (ftl (b5L s r) y))
 | .nil :: s,r,y=>c4g s r y
 | .fn _ :: s,r,y=>c4g s r y
 | .npt :: s,r,y=>c4g s r y
 | .row _ :: s,r,y=>c4g s r y
 | .ptr _ _ :: s,r,y=>c4g s r y
def c1J:(ss:List Sh)->(r:List Type)->a5C (b5L ss r)->a5C r
 | [],_,y=>y
 | .d _ :: s,r,y=>c1J s r (ftl (b5L s r) y)
 | .clo _ _ :: s,r,y=>c1J s r (ftl (b5L s r) y)
 | .e _ :: s,r,y=>c1J s r (ftl (b5L s r) y)
 | .nil :: s,r,y=>c1J s r y
 | .fn _ :: s,r,y=>c1J s r y
 | .npt :: s,r,y=>c1J s r y
 | .row _ :: s,r,y=>c1J s r y
 | .ptr _ _ :: s,r,y=>c1J s r y
theorem b7F:∀ (ss:List Sh) (r:List Type) (x:b29 ss) (y:a5C r),c4g ss r (c2K ss r x y)=x/\c1J ss r (c2K ss r x y)=y
 | [],_,_,_=>⟨rfl,rfl⟩
 | .d _ :: s,r,x,y=>by
  obtain⟨h1,h2⟩:=b7F s r x.2 y
  unfold c2K c4g c1J
  rw [a5D,a5E,h1,h2]
  exact⟨rfl,rfl⟩
 | .clo _ _ :: s,r,x,y=>by
  obtain⟨h1,h2⟩:=b7F s r x.2 y
  unfold c2K c4g c1J
  rw [a5D,a5E,h1,h2]
  exact⟨rfl,rfl⟩
 | .e _ :: s,r,x,y=>by
  obtain⟨h1,h2⟩:=b7F s r x.2 y
  unfold c2K c4g c1J
  rw [a5D,a5E,h1,h2]
  exact⟨rfl,rfl⟩
 | .nil :: s,r,x,y=>b7F s r x y
 | .fn _ :: s,r,x,y=>b7F s r x y
 | .npt :: s,r,x,y=>b7F s r x y
 | .row _ :: s,r,x,y=>b7F s r x y
 | .ptr _ _ :: s,r,x,y=>b7F s r x y
abbrev tTs:List (Nat × SSh)->List Type->List Type
 | [],r=>r
 | p :: l,r=>b5L p.2.list (tTs l r)
def tTo:(l:List (Nat × SSh))->(r:List Type)->d0k l->a5C r->a5C (tTs l r)
 | [],_,_,y=>y
 | p :: l,r,x,y=>c2K p.2.list (tTs l r) x.1 (tTo l r x.2 y)
def tOf:(l:List (Nat × SSh))->(r:List Type)->a5C (tTs l r)->d0k l
 | [],_,_=>()
 | p :: l,r,y=>(c4g p.2.list (tTs l r) y,tOf l r (c1J p.2.list (tTs l r) y))
def tRe:(l:List (Nat × SSh))->(r:List Type)->a5C (tTs l r)->a5C r
 | [],_,y=>y
 | p :: l,r,y=>tRe l r (c1J p.2.list (tTs l r) y)
theorem d71:∀ (l:List (Nat × SSh)) (r:List Type) (x:d0k l) (y:a5C r),tOf l r (tTo l r x y)=x/\tRe l r (tTo l r x y)=y
 | [],_,_,_=>⟨rfl,rfl⟩
 | p :: l,r,x,y=>by
  obtain⟨h1,h2⟩:=d71 l r x.2 y
  obtain⟨h3,h4⟩:=b7F p.2.list (tTs l r) x.1 (tTo l r x.2 y)
  unfold tTo tOf tRe
  rw [h3,h4,h1,h2]
  exact⟨rfl,rfl⟩
abbrev bTs:List (Nat × List Sh)->List Type->List Type
 | [],r=>r
 | p :: l,r=>b5L p.2 (bTs l r)
def bTo:(l:List (Nat × List Sh))->(r:List Type)->d1V l->a5C r->a5C (bTs l r)
 | [],_,_,y=>y
 | p :: l,r,x,y=>c2K p.2 (bTs l r) x.1 (bTo l r x.2 y)
def bOf:(l:List (Nat × List Sh))->(r:List Type)->a5C (bTs l r)->d1V l
 | [],_,_=>()
 | p :: l,r,y=>(c4g p.2 (bTs l r) y,bOf l r (c1J p.2 (bTs l r) y))
def bRe:(l:List (Nat × List Sh))->(r:List Type)->a5C (bTs l r)->a5C r
 | [],_,y=>y
 | p :: l,r,y=>bRe l r (c1J p.2 (bTs l r) y)
theorem d72:∀ (l:List (Nat × List Sh)) (r:List Type) (x:d1V l) (y:a5C r),bOf l r (bTo l r x y)=x/\bRe l r (bTo l r x y)=y
 | [],_,_,_=>⟨rfl,rfl⟩
 | p :: l,r,x,y=>by
  obtain⟨h1,h2⟩:=d72 l r x.2 y
  obtain⟨h3,h4⟩:=b7F p.2 (bTs l r) x.1 (bTo l r x.2 y)
  unfold bTo bOf bRe
  rw [h3,h4,h1,h2]
  exact⟨rfl,rfl⟩
abbrev rTs:List (Nat × U × TypeId × Bool)->List Type
 | []=>[]
 | p :: l=>List p.2.1.den :: rTs l
def rTo:(l:List (Nat × U × TypeId × Bool))->d1W l->a5C (rTs l)
 | [],_=>()
 | _ :: l,x=>b2c (rTs l) x.1 (rTo l x.2)
def rOf:(l:List (Nat × U × TypeId × Bool))->a5C (rTs l)->d1W l
 | [],_=>()
 | _ :: l,y=>(fhd (rTs l) y,rOf l (ftl (rTs l) y))
theorem d73:∀ (l:List (Nat × U × TypeId × Bool)) (x:d1W l),rOf l (rTo l x)=x
 | [],_=>rfl
 | _ :: l,x=>by
  unfold rTo rOf
  rw [a5D,a5E,d73 l x.2];rfl
abbrev Lay.fl (L:Lay):Type:=a5C (tTs L.t (bTs L.b (rTs L.r)))
def vw (L:Lay):Vw L L.fl:=
 ⟨fun x=>tTo L.t (bTs L.b (rTs L.r)) x.1 (bTo L.b (rTs L.r) x.2.1 (rTo L.r x.2.2)),
  fun y=>(tOf L.t (bTs L.b (rTs L.r)) y,bOf L.b (rTs L.r) (tRe L.t (bTs L.b (rTs L.r)) y),rOf L.r (bRe L.b (rTs L.r) (tRe L.t (bTs L.b (rTs L.r)) y))),
  fun x=>by
  obtain⟨h1,h2⟩:=d71 L.t (bTs L.b (rTs L.r)) x.1 (bTo L.b (rTs L.r) x.2.1 (rTo L.r x.2.2))
  obtain⟨h3,h4⟩:=d72 L.b (rTs L.r) x.2.1 (rTo L.r x.2.2)
  simp only [h1,h2,h3,h4,d73];rfl⟩
abbrev An.lp {R:Type} (L:Lay) (G:L.fl->Option (L.fl ⊕ R)) (a:An (L.fl ⊕ R)):An R:= .loop L (vw L) G a
abbrev An.ct {R:Type} (L:Lay) (F:L.fl->Option R) (a b:An R):An R:= .cut L (vw L) F a b
abbrev zd (k:Nat) (u:U):Nat × SSh:=(k,.one (.d u))
abbrev zi (k:Nat):Nat × SSh:=(k,.one (.d (.int .i64)))
abbrev zr (k j:Nat):Nat × SSh:=(k,.one (.row (1000000 + j)))
abbrev zp (k j o:Nat):Nat × SSh:=(k,.one (.ptr (1000000 + j) o))
mutual
def oT:OT->List Type->List Type
 | .d u,r=>u.den :: r
 | .fn _,r=>r
 | .npt,r=>r
 | .it _ u _,r=>u.den :: r
 | .clo _ u,r=>u.den :: r
 | .e u,r=>u.den :: r
 | .row u _,r=>List u.den :: r
 | .box ts,r=>oTs ts r
def oTs:OTs->List Type->List Type
 | .nil,r=>r
 | .cons t ts,r=>oT t (oTs ts r)
end
mutual
def oTo:(t:OT)->(r:List Type)->t.den->a5C r->a5C (oT t r)
 | .d _,r,x,y=>b2c r x y
 | .fn _,_,_,y=>y
 | .npt,_,_,y=>y
 | .it _ _ _,r,x,y=>b2c r x y
 | .clo _ _,r,x,y=>b2c r x y
 | .e _,r,x,y=>b2c r x y
 | .row _ _,r,x,y=>b2c r x y
 | .box ts,r,x,y=>c4h ts r x y
def c4h:(ts:OTs)->(r:List Type)->ts.den->a5C r->a5C (oTs ts r)
 | .nil,_,_,y=>y
 | .cons t ts,r,x,y=>oTo t (oTs ts r) x.1 (c4h ts r x.2 y)
end
mutual
def oOf:(t:OT)->(r:List Type)->a5C (oT t r)->t.den
 | .d _,r,y=>fhd r y
 | .fn _,_,_=>()
 | .npt,_,_=>()
 | .it _ _ _,r,y=>fhd r y
 | .clo _ _,r,y=>fhd r y
 | .e _,r,y=>fhd r y
 | .row _ _,r,y=>fhd r y
 | .box ts,r,y=>d11 ts r y
def d11:(ts:OTs)->(r:List Type)->a5C (oTs ts r)->ts.den
 | .nil,_,_=>()
 | .cons t ts,r,y=>(oOf t (oTs ts r) y,d11 ts r (oRe t (oTs ts r) y))
def oRe:(t:OT)->(r:List Type)->a5C (oT t r)->a5C r
 | .d _,r,y=>ftl r y
 | .fn _,_,y=>y
 | .npt,_,y=>y
 | .it _ _ _,r,y=>ftl r y
 | .clo _ _,r,y=>ftl r y
 | .e _,r,y=>ftl r y
 | .row _ _,r,y=>ftl r y
 | .box ts,r,y=>c9f ts r y
def c9f:(ts:OTs)->(r:List Type)->a5C (oTs ts r)->a5C r
 | .nil,_,y=>y
 | .cons t ts,r,y=>c9f ts r (oRe t (oTs ts r) y)
end
mutual
theorem d5B:∀ (t:OT) (r:List Type) (x:t.den) (y:a5C r),oOf t r (oTo t r x y)=x/\oRe t r (oTo t r x y)=y
 | .d _,r,x,y=>⟨a5D r x y,a5E r x y⟩
 | .fn _,_,_,_=>⟨rfl,rfl⟩
 | .npt,_,_,_=>⟨rfl,rfl⟩
 | .it _ _ _,r,x,y=>⟨a5D r x y,a5E r x y⟩
 | .clo _ _,r,x,y=>⟨a5D r x y,a5E r x y⟩
 | .e _,r,x,y=>⟨a5D r x y,a5E r x y⟩
 | .row _ _,r,x,y=>⟨a5D r x y,a5E r x y⟩
 | .box ts,r,x,y=>c0X ts r x y
theorem c0X:∀ (ts:OTs) (r:List Type) (x:ts.den) (y:a5C r),d11 ts r (c4h ts r x y)=x/\c9f ts r (c4h ts r x y)=y
 | .nil,_,_,_=>⟨rfl,rfl⟩
 | .cons t ts,r,x,y=>by
  obtain⟨h1,h2⟩:=c0X ts r x.2 y
  obtain⟨h3,h4⟩:=d5B t (oTs ts r) x.1 (c4h ts r x.2 y)
  show(oOf t (oTs ts r) (oTo t (oTs ts r) x.1 (c4h ts r x.2 y)),d11 ts r (oRe t (oTs ts r) (oTo t (oTs ts r) x.1 (c4h ts r x.2 y))))=x/\c9f ts r (oRe t (oTs ts r) (oTo t (oTs ts r) x.1 (c4h ts r x.2 y)))=y
  rw [h3,h4,h1,h2]
  exact⟨rfl,rfl⟩
end
def aT:AT->List Type->List Type
 | .c t,r=>oT t r
 | .agg ts,r=>oTs ts r
 | .bx ts,r=>oTs ts r
 | .rx u _,r=>List u.den :: r
def aTo:(t:AT)->(r:List Type)->t.den->a5C r->a5C (aT t r)
 | .c t,r,x,y=>oTo t r x y
 | .agg ts,r,x,y=>c4h ts r x y
 | .bx ts,r,x,y=>c4h ts r x y
 | .rx _ _,r,x,y=>b2c r x y
def aOf:(t:AT)->(r:List Type)->a5C (aT t r)->t.den
 | .c t,r,y=>oOf t r y
 | .agg ts,r,y=>d11 ts r y
 | .bx ts,r,y=>d11 ts r y
 | .rx _ _,r,y=>fhd r y
def aRe:(t:AT)->(r:List Type)->a5C (aT t r)->a5C r
 | .c t,r,y=>oRe t r y
 | .agg ts,r,y=>c9f ts r y
 | .bx ts,r,y=>c9f ts r y
 | .rx _ _,r,y=>ftl r y
theorem d7c (t:AT) (r:List Type) (x:t.den) (y:a5C r):aOf t r (aTo t r x y)=x/\aRe t r (aTo t r x y)=y:=by
 cases t with
 | c t=>exact d5B t r x y
 | agg ts=>exact c0X ts r x y
 | bx ts=>exact c0X ts r x y
 | rx u e=>exact⟨a5D r x y,a5E r x y⟩
def asT:ATs->List Type
 | .nil=>[]
 | .cons t ts=>aT t (asT ts)
def c78:(ts:ATs)->ts.den->a5C (asT ts)
 | .nil,_=>()
 | .cons t ts,x=>aTo t (asT ts) x.1 (c78 ts x.2)
def d5C:(ts:ATs)->a5C (asT ts)->ts.den
 | .nil,_=>()
 | .cons t ts,y=>(aOf t (asT ts) y,d5C ts (aRe t (asT ts) y))
theorem d12:∀ (ts:ATs) (x:ts.den),d5C ts (c78 ts x)=x
 | .nil,_=>rfl
 | .cons t ts,x=>by
  obtain⟨h3,h4⟩:=d7c t (asT ts) x.1 (c78 ts x.2)
  show(aOf t (asT ts) (aTo t (asT ts) x.1 (c78 ts x.2)),d5C ts (aRe t (asT ts) (aTo t (asT ts) x.1 (c78 ts x.2))))=x
  rw [h3,h4,d12 ts x.2];rfl
def pT:PTs->List Type->List Type
 | .nil,r=>r
 | .cons t ts,r=>oTs t (pT ts r)
 | .rcons u _ ts,r=>List u.den :: pT ts r
def pTo:(ts:PTs)->(r:List Type)->ts.den->a5C r->a5C (pT ts r)
 | .nil,_,_,y=>y
 | .cons t ts,r,x,y=>c4h t (pT ts r) x.1 (pTo ts r x.2 y)
 | .rcons _ _ ts,r,x,y=>b2c (pT ts r) x.1 (pTo ts r x.2 y)
def pOf:(ts:PTs)->(r:List Type)->a5C (pT ts r)->ts.den
 | .nil,_,_=>()
 | .cons t ts,r,y=>(d11 t (pT ts r) y,pOf ts r (c9f t (pT ts r) y))
 | .rcons _ _ ts,r,y=>(fhd (pT ts r) y,pOf ts r (ftl (pT ts r) y))
def pRe:(ts:PTs)->(r:List Type)->a5C (pT ts r)->a5C r
 | .nil,_,y=>y
 | .cons t ts,r,y=>pRe ts r (c9f t (pT ts r) y)
 | .rcons _ _ ts,r,y=>pRe ts r (ftl (pT ts r) y)
theorem d3e:∀ (ts:PTs) (r:List Type) (x:ts.den) (y:a5C r),pOf ts r (pTo ts r x y)=x/\pRe ts r (pTo ts r x y)=y
 | .nil,_,_,_=>⟨rfl,rfl⟩
 | .cons t ts,r,x,y=>by
  obtain⟨h1,h2⟩:=d3e ts r x.2 y
  obtain⟨h3,h4⟩:=c0X t (pT ts r) x.1 (pTo ts r x.2 y)
  show(d11 t (pT ts r) (c4h t (pT ts r) x.1 (pTo ts r x.2 y)),pOf ts r (c9f t (pT ts r) (c4h t (pT ts r) x.1 (pTo ts r x.2 y))))=x/\pRe ts r (c9f t (pT ts r) (c4h t (pT ts r) x.1 (pTo ts r x.2 y)))=y
  rw [h3,h4,h1,h2]
  exact⟨rfl,rfl⟩
 | .rcons _ _ ts,r,x,y=>by
  obtain⟨h1,h2⟩:=d3e ts r x.2 y
  show(fhd (pT ts r) (b2c (pT ts r) x.1 (pTo ts r x.2 y)),pOf ts r (ftl (pT ts r) (b2c (pT ts r) x.1 (pTo ts r x.2 y))))=x/\pRe ts r (ftl (pT ts r) (b2c (pT ts r) x.1 (pTo ts r x.2 y)))=y
  rw [a5D,a5E,h1,h2]
  exact⟨rfl,rfl⟩
theorem d5D (posts:PTs) (res:ATs) (x:posts.den × res.den):(pOf posts (asT res) (pTo posts (asT res) x.1 (c78 res x.2)),d5C res (pRe posts (asT res) (pTo posts (asT res) x.1 (c78 res x.2))))=x:=by
 obtain⟨h1,h2⟩:=d3e posts (asT res) x.1 (c78 res x.2)
 rw [h1,h2,d12]
def mkT (args:ATs) (posts:PTs) (res:ATs) (G:args.den->Option (a5C (pT posts (asT res)))):TFn:=
 ⟨args,posts,res,a5C (pT posts (asT res)),G,fun y=>(pOf posts (asT res) y,d5C res (pRe posts (asT res) y)),.none⟩
theorem fnV {P:Program} {T:TypeId->Option TI} (TU:TypeId->Option U) (Γ:List (Nat × TFn)) {f:FuncId} {fn:Func} {c:Code} {args:ATs} {posts:PTs} {res:ATs} {G:args.den->Option (a5C (pT posts (asT res)))} (hT:∀ t i,T t=some i->TOk P t i) (hΓ:∀ p ∈ Γ,FnT P (p.1 % 1000000) p.2)
  (hf:P.funcs[f]?=some fn) (an:An (a5C (pT posts (asT res)))) (hm:P.follows .mixedOrders=true:=by rfl) (hb:fn.body=some c:=by rfl) (hname:(fn.name == "runtime.NumGoroutine")=false:=by rfl) (ha:args.ok=true:=by rfl) (hr:res.ok=true:=by rfl)
  (hok:an.ok T TU (b1a T TU Γ) c (d1Y T fn.ntmps fn.results.toList (mkT args posts res G) fun x=>pTo posts (asT res) x.1 (c78 res x.2)):=by repeat' first | refine⟨?_,?_⟩ | (intro v;kernel_rfl) | exact True.intro)
  (hF:∀ a,G a=d29 T TU Γ fn.ntmps fn.results.toList (mkT args posts res G) (fun x=>pTo posts (asT res) x.1 (c78 res x.2)) an c a:=by intro a;kernel_rfl):FnT P f (mkT args posts res G):=
 fnT hT hm hΓ hf hb hname ha hr (fun x=>pTo posts (asT res) x.1 (c78 res x.2)) (fun x=>d5D posts res x) an hok hF
end Go.Proofs.YtbipjlehhlkghaaGreatDoor.Am
namespace Go.Proofs.YtbipjlehhlkghaaGreatDoor.Am
open Go
theorem c2J {P:Program} {w:World} {t e:TypeId} (hu:P.underlying t=some (.slice e)) (m:Nat) (A:Option Addr) (n c:Nat):(Op.equalIn (m + 1) t (.slice A n c) (.slice none 0 0)).run P w= .ok A.isNone w:=by
 cases A <;> (simp only [Op.equalIn,Sem.run_bind,run_underlying hu,Result.andThen_ok];rfl)
theorem c5B {P:Program} {w:World} {t e:TypeId} (hu:P.underlying t=some (.slice e)) (A:Option Addr) (n c:Nat):(binOp .eql t (.slice A n c) (.slice none 0 0)).run P w= .ok (.bool A.isNone) w:=by
 have hr:(Op.equal t (.slice A n c) (.slice none 0 0)).run P w= .ok A.isNone w:=c2J hu 9999 A n c
 simp only [binOp,Sem.run_bind,hr,Result.andThen_ok]
 rfl
theorem c76 {P:Program} {id:Nat} {o1 o2:Oper} {s:St} {K:AX->St->Prop} {t t' e:TypeId} {es:List (List DV)} (hu:P.underlying t=some (.slice e))
  (h1:o1.op= .move (.tmp 0)) (h1d:o1.dst=some 3) (h1g:o1.guard=none) (h2:o2.op= .binOp .eql t (.tmp 3) (.const (.slice none 0 0)) t') (h2d:o2.dst=some 4) (h2g:o2.guard=none) (hn:4 < s.n)
  (h0:s.t 0=⟨true,.c (.d (.sl es))⟩) (hk:∀ b,(b=true->es=[])->K .normal (s.app [.t 3 ⟨true,.c (.d (.sl es))⟩,.t 4 ⟨true,.c (.d (.v (.bool b)))⟩])):Tri P (.region id [o1,o2].toArray false) K s:=by
 intro W0 M a w hR
 refine wp_region_lit ?_
 have hT:∀ t i,(fun _=>none:TypeId->Option TI) t=some i->TOk P t i:=fun _ _ h=>by cases h
 have hcq:∀ (o:Oper) (c:Call),o.op= .call c->c6r P o ((fun _ _=> .fail:Oper->Call->Q (List Upd)) o c):=fun _ _ _ _ _ _ _ _ _ _ _ _ hq=>hq.elim
 refine wpList_step ?_
 intro K1 hK1
 have hw1:Region.wanted o1 (yielded [o1,o2].toArray a.tmps)=true:=by simp [Region.wanted,h1g]
 rw [if_pos hw1]
 have step1:=c6N (P:=P) hT hcq (l:=[o1,o2]) rfl (o:=o1) (K:=fun us=>us=[.t 3 ⟨true,.c (.d (.sl es))⟩]) (Q':=QK W0 M K) (fun d e=>by rw [h1d] at e;injection e with e;subst e;exact Nat.lt_of_succ_lt hn) hR (by
  unfold wpO opD
  rw [h1g]
  simp only
  unfold opQ
  rw [h1]
  simp only [ev,Q.bind,Q.wp,h0,one,h1d]
  exact⟨trivial,rfl⟩)
 rw [if_pos hw1] at step1
 refine Oper.wp_mono (fun a' w'=>?_) step1
 rintro⟨us,rfl,G,hr⟩
 refine hK1 _ _ ?_
 refine wpList_step ?_
 intro K2 hK2
 have hw2:Region.wanted o2 (yielded [o1,o2].toArray a'.tmps)=true:=by simp [Region.wanted,h2g]
 rw [if_pos hw2]
 have h3:=(hr.tm 3).1 (by simp [St.app,St.app1,St.setT,upd])
 simp only [St.app,St.app1,St.setT,upd,if_true,AVr,ACr,DVr] at h3
 obtain⟨A,c,z,xs,hv,hlc,_,_,_,hne,_⟩:=h3
 have hrun:(execOp a'.eval o2).run P w'= .ok (.value (.bool A.isNone)) w':=by
  have hev:a'.eval (.tmp 3)= .slice A es.length c:=hv
  have hec:a'.eval (.const (.slice none 0 0))= .slice none 0 0:=rfl
  unfold execOp
  rw [h2]
  simp only [hev,hec,Sem.run_bind,a2W .eql t (.tmp 3) (.const (.slice none 0 0)) (.slice A es.length c) (.slice none 0 0) rfl,Result.andThen_ok,c5B hu]
  rfl
 refine a1a hrun ?_
 refine hK2 _ _ (wpList_nil ?_)
 refine⟨_,⟨G,?_⟩,hk A.isNone (fun e=>?_)⟩
 ·rw [h2d]
  exact hr.put (d:=4) (show 4 < s.n from hn) ⟨fun _=>by simp only [AVr,ACr,DVr];exact⟨trivial,rfl⟩,fun e=>by cases e⟩
 ·cases A with
  | none=>
   cases es with
   | nil=>rfl
   | cons x es=>
    obtain⟨ad,h,_⟩:=hne (by simp)
    cases h
  | some ad=>cases e
def b8s {u:U} (by_:Nat) (l:List u.den):Option (List u.den):=chk (decide ((0 + l.length) * by_<=LIM/\0 + l.length<=LEN)) (some l)
def a1Z (by_:Nat) (u:U) (e:TypeId):TFn:=⟨.cons (.c (.d (.sl u))) .nil,.nil,.cons (.c (.row u e)) .nil,List u.den,fun a=>b8s by_ a.1,fun r=>((),(r,())),.none⟩
def stC (n:Nat) (u:U) (l:List u.den) (b:Bool):TSt:=(((c0S n).app [.t 0 ⟨true,.o (.c (.ch (.sl u) l))⟩]).app [.t 2 ⟨true,.o (.c .nil)⟩]).app [.t 3 ⟨true,.o (.c (.ch (.sl u) l))⟩,.t 4 ⟨true,.o (.c (.ch .bool b))⟩]
def d3d {α:Type} (x:Unit × (α × Unit)):α:=x.2.1
theorem c77 {P:Program} {T:TypeId->Option TI} {TU:TypeId->Option U} {f:FuncId} {fn:Func} {cd rest:Code} {by_:Nat} {u:U} {e t t':TypeId} {i0 i1:Nat} {o0 o1 o2:Oper} (hT:∀ t i,T t=some i->TOk P t i) (hm:P.follows .mixedOrders=true) (hu:P.underlying t=some (.slice e))
  (hf:P.funcs[f]?=some fn) (hb:fn.body=some (.seq (.region i0 [o0].toArray false) (.seq (.seq (.region i1 [o1,o2].toArray false) cd) rest))) (hname:(fn.name == "runtime.NumGoroutine")=false) (hn:4 < fn.ntmps)
  (g0:o0.op= .assign (.const (.slice none 0 0))) (g0d:o0.dst=some 2) (g0g:o0.guard=none)
  (h1:o1.op= .move (.tmp 0)) (h1d:o1.dst=some 3) (h1g:o1.guard=none) (h2:o2.op= .binOp .eql t (.tmp 3) (.const (.slice none 0 0)) t') (h2d:o2.dst=some 4) (h2g:o2.guard=none)
  (hx1:c0Q (R:=List u.den) T TU (b1a T TU []) .leaf (.seq cd rest) (stC fn.ntmps u [] true) (d1Y T fn.ntmps fn.results.toList (a1Z by_ u e) d3d)=some ([]:List u.den))
  (hx2:∀ l:List u.den,c0Q (R:=List u.den) T TU (b1a T TU []) .leaf (.seq cd rest) (stC fn.ntmps u l false) (d1Y T fn.ntmps fn.results.toList (a1Z by_ u e) d3d)=b8s by_ l):FnT P f (a1Z by_ u e):=by
 refine⟨rfl,rfl,d7t hT hf hb hname 1000 (fun xs hx=>?_) rfl⟩
 obtain⟨a,r,rfl,hFa⟩:=hx
 obtain⟨l,a2⟩:=a
 cases a2
 have hl:r=l:=by
  have:=(a3O hFa).2
  injection this with this
  exact this.symm
 subst hl
 refine⟨by show 1<=fn.ntmps;omega,(c0R .nil (a1Z by_ u e).res).sh,?_⟩
 show Tri P _ (d7s T fn.ntmps 0 fn.results.toList (c0R .nil (a1Z by_ u e).res).sh ((a1Z by_ u e).spec.post ((a1Z by_ u e).args.oas (r,()))) ((a1Z by_ u e).spec.res ((a1Z by_ u e).args.oas (r,()))))
  ((((a93 fn.ntmps [] [] []).app []).app (tU true 0 [.c (.d (.sl (List.map u.enc r)))])).app (tU false fn.ntmps []))
 have hst:(((a93 fn.ntmps [] [] []).app []).app (tU true 0 [.c (.d (.sl (List.map u.enc r)))])).app (tU false fn.ntmps [])=((c0S fn.ntmps).app [.t 0 ⟨true,.o (.c (.ch (.sl u) r))⟩]).st:=by
  rw [TSt.st_app];rfl
 rw [hst]
 have hcq0:∀ (o:Oper) (c:Call),o.op= .call c->c6r P o ((fun _ _=> .fail:Oper->Call->Q (List Upd)) o c):=fun _ _ _ _ _ _ _ _ _ _ _ _ hq=>hq.elim
 have happ:∀ (s:TSt) (us:List a2Z),s.st.app (us.map a2Z.upd)=(s.app us).st:=fun s us=>(TSt.st_app us s).symm
 refine b8X (b77 hT hcq0 (show([o0].all (c0u fn.ntmps))=true by simp only [List.all_cons,List.all_nil,Bool.and_true,c0u,g0d];exact decide_eq_true (by exact Nat.lt_trans (by decide:2 < 4) hn)) ?_)
 show wpO T _ [o0] o0 _ fun us=>d7p P _ _ .normal _
 unfold wpO opD
 rw [g0g]
 simp only
 unfold opQ
 rw [g0]
 simp only [ev,Q.bind,Q.wp,one,g0d,c1L]
 rw [show([Upd.t 2 ⟨true,b2D (.slice none 0 0)⟩]:List Upd)=([.t 2 ⟨true,.o (.c .nil)⟩]:List a2Z).map a2Z.upd from rfl,happ]
 show Tri P (.seq _ _) _ _
 refine b8X (b8X (c76 hu h1 h1d h1g h2 h2d h2g (show 4 < fn.ntmps from hn) (es:=List.map u.enc r) rfl fun b hbe=>?_))
 show Tri P cd _ _
 rw [show([Upd.t 3 ⟨true,.c (.d (.sl (List.map u.enc r)))⟩,Upd.t 4 ⟨true,.c (.d (.v (.bool b)))⟩]:List Upd)=([.t 3 ⟨true,.o (.c (.ch (.sl u) r))⟩,.t 4 ⟨true,.o (.c (.ch .bool b))⟩]:List a2Z).map a2Z.upd from rfl,happ]
 have hcq:=c0A (P:=P) (T:=T) hT (Γ:=c7O []) (fun p hp=>by cases hp)
 have fin':∀ s',chk (Nat.beq s'.n fn.ntmps) ((d35 T fn.ntmps fn.results.toList (a1Z by_ u e)).run s' [] fun x _=>some (d3d x))=some r->
   s'.st.n=fn.ntmps/\((a1Z by_ u e).spec.post ((a1Z by_ u e).args.oas (r,()))).length=(a1Z by_ u e).posts.len/\(d2E T fn.ntmps (a1Z by_ u e).posts.len fn.results.toList (c0R (a1Z by_ u e).posts (a1Z by_ u e).res).sh ((a1Z by_ u e).spec.post ((a1Z by_ u e).args.oas (r,()))) ((a1Z by_ u e).spec.res ((a1Z by_ u e).args.oas (r,())))).wp s'.st fun _=>True:=fun s' h'=>by
  obtain⟨h5,h6⟩:=a3O h'
  rw [TFn.post_of (S:=a1Z by_ u e) rfl hFa,TFn.res_of (S:=a1Z by_ u e) rfl hFa]
  exact⟨Nat.eq_of_beq_eq_true h5,b9v _ _,c7Z (S:=a1Z by_ u e) rfl (fin:=d3d) (fun x=>rfl) h6⟩
 have hex:c0Q (R:=List u.den) T TU (b1a T TU []) .leaf (.seq cd rest) (stC fn.ntmps u r b) (d1Y T fn.ntmps fn.results.toList (a1Z by_ u e) d3d)=some r:=by
  cases b with
  | true=>
   have:=List.map_eq_nil_iff.1 (hbe rfl)
   subst this
   exact hx1
  | false=>exact(hx2 r).trans hFa
 have hex':c0Q (R:=List u.den) T TU (b1a T TU []) .leaf cd (stC fn.ntmps u r b) (d0q (fun s'=>c0Q T TU (b1a T TU []) .leaf rest s' (d1Y T fn.ntmps fn.results.toList (a1Z by_ u e) d3d)) (d1Y T fn.ntmps fn.results.toList (a1Z by_ u e) d3d))=some r:=hex
 refine c2G (R:=List u.den) hT hcq (fun o c _=>b4P T TU [] o c) hm cd (a:= .leaf) trivial hex' fun ax s' h'=>?_
 cases ax with
 | normal=>
  refine c2G (R:=List u.den) hT hcq (fun o c _=>b4P T TU [] o c) hm rest (a:= .leaf) trivial (show c0Q (R:=List u.den) T TU (b1a T TU []) .leaf rest s' _=some r from h') fun ax s' h'=>?_
  cases ax with
  | normal=>exact fin' s' h'
  | exit i=>cases h'
  | ret=>exact fin' s' h'
 | exit i=>cases h'
 | ret=>exact fin' s' h'
end Go.Proofs.YtbipjlehhlkghaaGreatDoor.Am
namespace Go.Proofs.YtbipjlehhlkghaaGreatDoor.Am
open Go
def U.flat:U->Bool
 | .sl _=>false
 | .pr a b=>a.flat && b.flat
 | .arr _ _=>false
 | _=>true
def U.encV:(u:U)->u.den->List Value
 | .int k,n=>[.int k n]
 | .byte,x=>[.int .u8 (UInt8.toNat x:Nat)]
 | .bool,b=>[.bool b]
 | .str,l=>[.string ⟨List.toArray l⟩]
 | .sl _,_=>[.bool false]
 | .pr a b,x=>a.encV x.1 ++ b.encV x.2
 | .arr n u,_=>List.replicate (n * u.size) (.bool false)
theorem U.encV_len:(u:U)->(x:u.den)->(u.encV x).length=u.size
 | .int _,_=>rfl
 | .byte,_=>rfl
 | .bool,_=>rfl
 | .str,_=>rfl
 | .sl _,_=>rfl
 | .pr a b,x=>by rw [U.encV,List.length_append,a.encV_len,b.encV_len];rfl
 | .arr n u,v=>by rw [U.encV,List.length_replicate];rfl
theorem U.encV_one:(u:U)->(x:u.den)->∀ v ∈ u.encV x,v.oneCell'=true
 | .int _,_,v,h=>by simp only [U.encV,List.mem_singleton] at h;subst h;rfl
 | .byte,_,v,h=>by simp only [U.encV,List.mem_singleton] at h;subst h;rfl
 | .bool,_,v,h=>by simp only [U.encV,List.mem_singleton] at h;subst h;rfl
 | .str,_,v,h=>by simp only [U.encV,List.mem_singleton] at h;subst h;rfl
 | .sl _,_,v,h=>by simp only [U.encV,List.mem_singleton] at h;subst h;rfl
 | .pr a b,x,v,h=>by
  rw [U.encV] at h
  rcases List.mem_append.1 h with h | h
  ·exact a.encV_one _ v h
  ·exact b.encV_one _ v h
 | .arr n u,_,v,h=>by rw [U.encV] at h;rw [List.eq_of_mem_replicate h];rfl
section
variable {I:Nat->Nat->Prop} {w:World}
theorem O7.split:∀ {ds es:List DV} {xs:List Value},O7 I w (ds ++ es) xs->∃ a b,xs=a ++ b/\O7 I w ds a/\O7 I w es b
 | [],_,xs,h=>⟨[],xs,rfl,by simp [O7],h⟩
 | d :: ds,es,xs,h=>by
  simp only [List.cons_append,O7] at h
  obtain⟨x,r,rfl,h2,h3⟩:=h
  obtain⟨a,b,rfl,h4,h5⟩:=O7.split h3
  exact⟨x :: a,b,rfl,by simp only [O7];exact⟨x,a,rfl,h2,h4⟩,h5⟩
theorem U.encV_of:(u:U)->u.flat=true->(x:u.den)->{vs:List Value}->O7 I w (u.enc x) vs->vs=u.encV x
 | .int _,_,x,vs,h=>by simp only [U.enc,O7,DVr] at h;obtain⟨y,r,rfl,⟨rfl,_⟩,rfl⟩:=h;rfl
 | .byte,_,x,vs,h=>by simp only [U.enc,O7,DVr] at h;obtain⟨y,r,rfl,⟨rfl,_⟩,rfl⟩:=h;rfl
 | .bool,_,x,vs,h=>by simp only [U.enc,O7,DVr] at h;obtain⟨y,r,rfl,⟨rfl,_⟩,rfl⟩:=h;rfl
 | .str,_,x,vs,h=>by simp only [U.enc,O7,DVr] at h;obtain⟨y,r,rfl,⟨rfl,_⟩,rfl⟩:=h;rfl
 | .sl _,hf,_,_,_=>by cases hf
 | .arr _ _,hf,_,_,_=>by cases hf
 | .pr a b,hf,x,vs,h=>by
  have hf':(a.flat && b.flat)=true:=hf
  rw [Bool.and_eq_true] at hf'
  rw [U.enc] at h
  obtain⟨p,q,rfl,h1,h2⟩:=O7.split h
  rw [U.encV,a.encV_of hf'.1 _ h1,b.encV_of hf'.2 _ h2]
theorem U.encV_to:(u:U)->u.flat=true->(x:u.den)->O7 I w (u.enc x) (u.encV x)
 | .int _,_,x=>by simp only [U.enc,U.encV,O7,DVr];exact⟨_,_,rfl,⟨rfl,rfl⟩,rfl⟩
 | .byte,_,x=>by simp only [U.enc,U.encV,O7,DVr];exact⟨_,_,rfl,⟨rfl,rfl⟩,rfl⟩
 | .bool,_,x=>by simp only [U.enc,U.encV,O7,DVr];exact⟨_,_,rfl,⟨rfl,rfl⟩,rfl⟩
 | .str,_,x=>by simp only [U.enc,U.encV,O7,DVr];exact⟨_,_,rfl,⟨rfl,rfl⟩,rfl⟩
 | .sl _,hf,_=>by cases hf
 | .arr _ _,hf,_=>by cases hf
 | .pr a b,hf,x=>by
  have hf':(a.flat && b.flat)=true:=hf
  rw [Bool.and_eq_true] at hf'
  rw [U.enc,U.encV]
  exact O7.app (a.encV_to hf'.1 _) (b.encV_to hf'.2 _)
end
end Go.Proofs.YtbipjlehhlkghaaGreatDoor.Am
namespace Go.Proofs.YtbipjlehhlkghaaGreatDoor.Am
open Go
def A5 (n:Int):Int:=IntKind.wrap .i64 n
def wu8 (n:Int):Int:=IntKind.wrap .u8 n
def T6 (n:Int):Int:=IntKind.wrap .u32 n
def B1 (n:Int):Int:=IntKind.wrap .u64 n
end Go.Proofs.YtbipjlehhlkghaaGreatDoor.Am
namespace Go.Proofs.YtbipjlehhlkghaaGreatDoor.Am
open Go
def Ok {α:Type} (o:Option α) (p:α->Prop):Prop:=∃ r,o=some r/\p r
theorem Ok.mono {α:Type} {o:Option α} {p q:α->Prop} (h:Ok o p) (k:∀ r,p r->q r):Ok o q:=by
 obtain⟨r,h1,h2⟩:=h;exact⟨r,h1,k r h2⟩
theorem A3 {α:Type} (x:α) (p:α->Prop):Ok (some x) p ↔ p x:=⟨fun⟨r,h1,h2⟩=>by injection h1 with h1;rw [h1];exact h2,fun h=>⟨x,rfl,h⟩⟩
theorem E5 {α:Type} (b:Bool) (k:Option α) (p:α->Prop):Ok (chk b k) p ↔ b=true/\Ok k p:=by
 cases b
 ·exact⟨fun⟨r,h,_⟩=>(by cases h),fun h=>(by cases h.1)⟩
 ·exact⟨fun h=>⟨rfl,h⟩,fun h=>h.2⟩
theorem C0 {α:Type} (b:Bool) (x y:Option α) (p:α->Prop):Ok (sel b x y) p ↔ (b=true->Ok x p)/\(b=false->Ok y p):=by
 cases b
 ·exact⟨fun h=>⟨fun e=>(by cases e),fun _=>h⟩,fun h=>h.2 rfl⟩
 ·exact⟨fun h=>⟨fun _=>h,fun e=>(by cases e)⟩,fun h=>h.1 rfl⟩
theorem B6 {α β:Type} (o:Option α) (f:α->Option β) (p:β->Prop):Ok (o.bind f) p ↔ Ok o fun r=>Ok (f r) p:=by
 cases o with
 | none=>exact⟨fun⟨r,h,_⟩=>(by cases h),fun⟨r,h,_⟩=>(by cases h)⟩
 | some x=>rw [A3];exact Iff.rfl
theorem D5 {α β:Type} (o:Option α) (f:α->β) (p:β->Prop):Ok (o.map f) p ↔ Ok o fun r=>p (f r):=by
 cases o with
 | none=>exact⟨fun⟨r,h,_⟩=>(by cases h),fun⟨r,h,_⟩=>(by cases h)⟩
 | some x=>rw [A3,Option.map_some,A3]
theorem L4 {α:Type} {o:Option α} {x:α}:Ok o (· =x) ↔ o=some x:=⟨fun⟨r,h,e⟩=>by rw [h,e],fun h=>⟨x,h,rfl⟩⟩
def Nxt {S R:Type} (p:R->Prop) (q:S->Prop):S ⊕ R->Prop
 | .inl z=>q z
 | .inr r=>p r
theorem B4 {S R:Type} (p:R->Prop) (q:S->Prop) (z:S):Nxt p q (.inl z)=q z:=rfl
theorem B8 {S R:Type} (p:R->Prop) (q:S->Prop) (r:R):Nxt p q (.inr r)=p r:=rfl
theorem b0m {S R:Type} {G:S->Option (S ⊕ R)} {p:R->Prop} (inv:S->Prop) (m:S->Nat) (step:∀ x,inv x->Ok (G x) (Nxt p fun z=>inv z/\m z < m x)) :
  ∀ {x:S},inv x->m x < 1180591620717411303424->Ok (I2 G x) p:=by
 have key:∀ (n:Nat) (x:S),inv x->m x < n->Ok (a1E n G x) p:=by
  intro n
  induction n with
  | zero=>intro x _ h;omega
  | succ n ih=>
   intro x hi hm
   obtain⟨y,hy,h⟩:=step x hi
   unfold a1E
   rw [hy]
   cases y with
   | inl z=>exact ih z h.1 (by have:=h.2;omega)
   | inr r=>exact⟨r,rfl,h⟩
 intro x hi hm
 unfold I2
 rw [b60]
 exact key _ x hi hm
theorem E0 {n:Int} (h0: -9223372036854775808<=n) (h1:n<=9223372036854775807):A5 n=n:=by
 rw [A5,IntKind.wrap_i64];omega
theorem K9 {n:Int} (h0:0<=n) (h1:n < 18446744073709551616):B1 n=n:=by
 rw [B1,IntKind.wrap_u64];omega
theorem d5E {n:Int} (h0:0<=n) (h1:n < 256):wu8 n=n:=by
 rw [wu8,IntKind.wrap_u8];omega
theorem I7 (n:Int):0<=B1 n/\B1 n < 18446744073709551616:=by
 rw [B1,IntKind.wrap_u64];omega
theorem a5R (n:Int):0<=wu8 n/\wu8 n < 256:=by
 rw [wu8,IntKind.wrap_u8];omega
theorem c4i (x:UInt8):(0:Int)<=((UInt8.toNat x:Nat):Int)/\((UInt8.toNat x:Nat):Int) < 256:=by
 have:=x.toNat_lt
 omega
end Go.Proofs.YtbipjlehhlkghaaGreatDoor.Am
