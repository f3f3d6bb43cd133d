/- Texts laid together: TmCall, TmCall2, TmLay, TmExec, TmFn, TmVw, TmClone, TmFlat, TmCloneX, TmPlain, TmAid. No conditions. -/
import Derived.Test.YtacnfjjkhpkloaaGreatKC
import Derived.KernelRfl
namespace Go.Proofs.YtacnfjjkhpkloaaGreat.Am
open Go
def c21 {α:Type} (p:List DV->Option (α × List DV)):List (List DV)->Option (List α)
 | []=>some []
 | e :: es=>(p e).bind fun a=>(c21 p es).map (a.1 :: ·)
def c7B {α:Type} (p:List DV->Option (α × List DV)):(n:Nat)->List DV->Option (Vector α n × List DV)
 | 0,l=>some (#v[],l)
 | n + 1,l=>(c7B p n l).bind fun a=>(p a.2).map fun b=>(a.1.push b.1,b.2)
def U.dec:(u:U)->List DV->Option (u.den × List DV)
 | .int _,l=>match l with
  | .v (.int _ n) :: r=>some (n,r)
  | _=>none
 | .byte,l=>match l with
  | .v (.int _ n) :: r=>some (UInt8.ofNat n.toNat,r)
  | _=>none
 | .bool,l=>match l with
  | .v (.bool b) :: r=>some (b,r)
  | _=>none
 | .str,l=>match l with
  | .v (.string s) :: r=>some (s.data.toList,r)
  | _=>none
 | .sl u,l=>match l with
  | .sl es :: r=>(c21 u.dec es).map fun x=>(x,r)
  | _=>none
 | .pr a b,l=>(a.dec l).bind fun x=>(b.dec x.2).map fun y=>((x.1,y.1),y.2)
 | .arr n u,l=>c7B u.dec n l
theorem b1U {α:Type} {p:List DV->Option (α × List DV)} {f:α->List DV} (h:∀ x r,p (f x ++ r)=some (x,r)):∀ (l:List α),c21 p (l.map f)=some l
 | []=>rfl
 | x :: l=>by
  have:=h x []
  rw [List.append_nil] at this
  rw [List.map_cons,c21,this,Option.bind_some,b1U h l];rfl
theorem b9m {α:Type} {p:List DV->Option (α × List DV)} {f:α->List DV} (h:∀ x r,p (f x ++ r)=some (x,r)):∀ (n:Nat) (v:Vector α n) (r:List DV),c7B p n (v.toList.flatMap f ++ r)=some (v,r)
 | 0,v,r=>by
  have:v= #v[]:=by ext i hi;omega
  subst this
  rfl
 | n + 1,v,r=>by
  have e:v=v.pop.push v.back:=(Vector.push_pop_back v).symm
  rw [e,Vector.toList_push,List.flatMap_append,List.append_assoc,c7B,b9m h n v.pop,Option.bind_some]
  simp only [List.flatMap_cons,List.flatMap_nil,List.append_nil,h,Option.map_some]
theorem c1P (x:UInt8) (r:List DV):some (UInt8.ofNat ((UInt8.toNat x:Nat):Int).toNat,r)=some (x,r):=by
 rw [Int.toNat_natCast,UInt8.ofNat_toNat]
theorem U.dec_enc:∀ (u:U) (x:u.den) (r:List DV),u.dec (u.enc x ++ r)=some (x,r)
 | .int _,_,_=>rfl
 | .byte,x,r=>c1P x r
 | .bool,_,_=>rfl
 | .str,_,_=>rfl
 | .sl u,l,r=>by
  show(c21 u.dec (List.map u.enc l)).map (fun x=>(x,r))=some (l,r)
  rw [b1U (U.dec_enc u) l];rfl
 | .pr a b,x,r=>by
  show(a.dec ((a.enc x.1 ++ b.enc x.2) ++ r)).bind (fun y=>(b.dec y.2).map fun z=>((y.1,z.1),z.2))=some (x,r)
  rw [List.append_assoc,U.dec_enc a,Option.bind_some,U.dec_enc b];rfl
 | .arr n u,v,r=>b9m (U.dec_enc u) n v r
mutual
inductive OT where
 | d (u:U)
 | npt
 | it (t:TypeId) (u:U) (h:u.size=1)
 | fn (f:FuncId)
 | clo (f:FuncId) (u:U)
 | e (u:U)
 | row (u:U) (e:TypeId)
 | box (ts:OTs)
inductive OTs where
 | nil
 | cons (t:OT) (ts:OTs)
end
mutual
def OT.den:OT->Type
 | .d u=>u.den
 | .fn _=>Unit
 | .npt=>Unit
 | .it _ u _=>u.den
 | .clo _ u=>u.den
 | .e u=>u.den
 | .row u _=>List u.den
 | .box ts=>ts.den
def OTs.den:OTs->Type
 | .nil=>Unit
 | .cons t ts=>t.den × ts.den
end
mutual
def OT.ocs:(t:OT)->t.den->List OC
 | .d u,x=>(u.enc x).map .d
 | .fn f,_=>[.d (.v (.func (.func f) #[] #[]))]
 | .npt,_=>[.d (.v (.pointer none))]
 | .it t u _,x=>[.d (.it t (b1I (u.enc x)))]
 | .clo f u,x=>[.d (.clo f (u.enc x))]
 | .e u,x=>[.e (u.enc x)]
 | .row u e,l=>[.row u.size e (List.map u.enc l)]
 | .box ts,x=>[.box (ts.ocs x)]
def OTs.ocs:(ts:OTs)->ts.den->List OC
 | .nil,_=>[]
 | .cons t ts,x=>t.ocs x.1 ++ ts.ocs x.2
end
mutual
def OT.sh:OT->List CSh
 | .d u=>List.replicate u.size .D
 | .fn _=>[.D]
 | .npt=>[.D]
 | .it _ _ _=>[.D]
 | .clo _ _=>[.D]
 | .e _=>[.E]
 | .row u e=>[.R u.size e]
 | .box ts=>[.B ts.sh]
def OTs.sh:OTs->List CSh
 | .nil=>[]
 | .cons t ts=>t.sh ++ ts.sh
end
def unD:List OC->Option (List DV)
 | []=>some []
 | .d x :: r=>(unD r).map (x :: ·)
 | _ :: _=>none
theorem c22:∀ (l:List DV),unD (l.map .d)=some l
 | []=>rfl
 | x :: l=>by rw [List.map_cons,unD,c22 l];rfl
mutual
def OT.dec:(t:OT)->List OC->Option (t.den × List OC)
 | .d u,l=>(unD (l.take u.size)).bind fun ds=>(u.dec ds).map fun x=>(x.1,l.drop u.size)
 | .fn _,l=>some ((),l.drop 1)
 | .npt,l=>some ((),l.drop 1)
 | .it _ u _,l=>match l with
  | .d (.it _ d) :: r=>(u.dec [d]).map fun y=>(y.1,r)
  | _=>none
 | .clo _ u,l=>match l with
  | .d (.clo _ ds) :: r=>(u.dec ds).map fun y=>(y.1,r)
  | _=>none
 | .e u,l=>match l with
  | .e ds :: r=>(u.dec ds).map fun y=>(y.1,r)
  | _=>none
 | .row u _,l=>match l with
  | .row _ _ es :: r=>(c21 u.dec es).map fun x=>(x,r)
  | _=>none
 | .box ts,l=>match l with
  | .box cs :: r=>(ts.dec cs).map fun x=>(x.1,r)
  | _=>none
def OTs.dec:(ts:OTs)->List OC->Option (ts.den × List OC)
 | .nil,l=>some ((),l)
 | .cons t ts,l=>(t.dec l).bind fun x=>(ts.dec x.2).map fun y=>((x.1,y.1),y.2)
end
theorem c74 (u:U) (x:u.den) (r:List OC):(unD ((((u.enc x).map OC.d) ++ r).take u.size)).bind (fun ds=>(u.dec ds).map fun y=>(y.1,(((u.enc x).map OC.d) ++ r).drop u.size))=some (x,r):=by
 have hl:((u.enc x).map OC.d).length=u.size:=by rw [List.length_map,U.enc_len]
 rw [<-hl,List.take_left,List.drop_left,c22,Option.bind_some]
 have:=U.dec_enc u x []
 rw [List.append_nil] at this
 rw [this];rfl
theorem c75 (u:U) (x:u.den):((u.enc x).map OC.d).length=(List.replicate u.size CSh.D).length:=by
 rw [List.length_map,U.enc_len,List.length_replicate]
theorem b9n (u:U) (x:u.den) (r:List OC):(u.dec (u.enc x)).map (fun y=>(y.1,r))=some (x,r):=by
 have h1:=U.dec_enc u x []
 rw [List.append_nil] at h1
 rw [h1];rfl
theorem c5X (u:U) (h:u.size=1) (x:u.den) (r:List OC):(u.dec [b1I (u.enc x)]).map (fun y=>(y.1,r))=some (x,r):=by
 have h1:=U.dec_enc u x []
 rw [List.append_nil] at h1
 rw [b5O (ds:=u.enc x) (by rw [U.enc_len,h]),h1];rfl
mutual
theorem OT.dec_ocs:∀ (t:OT) (x:t.den) (r:List OC),t.dec (t.ocs x ++ r)=some (x,r)
 | .d u,x,r=>c74 u x r
 | .fn _,_,_=>rfl
 | .npt,_,_=>rfl
 | .it t u h,x,r=>by
  exact c5X u h x r
 | .clo f u,x,r=>b9n u x r
 | .e u,x,r=>b9n u x r
 | .row u _,l,r=>by
  show(c21 u.dec (List.map u.enc l)).map (fun x=>(x,r))=some (l,r)
  rw [b1U (U.dec_enc u) l];rfl
 | .box ts,x,r=>by
  show(ts.dec (ts.ocs x)).map (fun y=>(y.1,r))=some (x,r)
  have:=OTs.dec_ocs ts x []
  rw [List.append_nil] at this
  rw [this];rfl
theorem OTs.dec_ocs:∀ (ts:OTs) (x:ts.den) (r:List OC),ts.dec (ts.ocs x ++ r)=some (x,r)
 | .nil,_,_=>rfl
 | .cons t ts,x,r=>by
  show(t.dec ((t.ocs x.1 ++ ts.ocs x.2) ++ r)).bind (fun y=>(ts.dec y.2).map fun z=>((y.1,z.1),z.2))=some (x,r)
  rw [List.append_assoc,OT.dec_ocs t,Option.bind_some,OTs.dec_ocs ts];rfl
end
def b7j:List OC->OC
 | [x]=>x
 | _=> .row 0 0 []
inductive AT where
 | c (t:OT)
 | agg (ts:OTs)
 | bx (ts:OTs)
 | rx (u:U) (e:TypeId)
def AT.den:AT->Type
 | .c t=>t.den
 | .agg ts=>ts.den
 | .bx ts=>ts.den
 | .rx u _=>List u.den
def AT.oa:(t:AT)->t.den->OA
 | .c t,x=> .c (b7j (t.ocs x))
 | .agg ts,x=> .agg (ts.ocs x)
 | .bx ts,x=> .bx (ts.ocs x)
 | .rx u e,l=> .rx u.size e (List.map u.enc l)
def AT.ok:AT->Bool
 | .c t=>Nat.beq t.sh.length 1
 | _=>true
def AT.ash:AT->ASh
 | .c t=> .c (t.sh.headD .D)
 | .agg ts=> .agg ts.sh
 | .bx ts=> .bx ts.sh
 | .rx u e=> .rx u.size e
def AT.dec:(t:AT)->OA->Option t.den
 | .c t,x=>match x with
  | .c y=>(t.dec [y]).map (·.1)
  | _=>none
 | .agg ts,x=>match x with
  | .agg ys=>(ts.dec ys).map (·.1)
  | _=>none
 | .bx ts,x=>match x with
  | .bx ys=>(ts.dec ys).map (·.1)
  | _=>none
 | .rx u _,x=>match x with
  | .rx _ _ es=>c21 u.dec es
  | _=>none
mutual
theorem OT.len:∀ (t:OT) (x:t.den),(t.ocs x).length=t.sh.length
 | .d u,x=>c75 u x
 | .fn _,_=>rfl
 | .npt,_=>rfl
 | .it _ _ _,_=>rfl
 | .clo _ _,_=>rfl
 | .e _,_=>rfl
 | .row _ _,_=>rfl
 | .box _,_=>rfl
theorem OTs.len:∀ (ts:OTs) (x:ts.den),(ts.ocs x).length=ts.sh.length
 | .nil,_=>rfl
 | .cons t ts,x=>by
  show(t.ocs x.1 ++ ts.ocs x.2).length=(t.sh ++ ts.sh).length
  rw [List.length_append,List.length_append,OT.len t,OTs.len ts]
end
theorem a6o {l:List OC} (h:l.length=1):l=[b7j l]:=by
 match l,h with
 | [x],_=>rfl
theorem AT.dec_oa (t:AT) (hk:t.ok=true) (x:t.den):t.dec (t.oa x)=some x:=by
 cases t with
 | c t=>
  have h1:(t.ocs x).length=1:=by rw [OT.len t x];exact Nat.eq_of_beq_eq_true hk
  have:=OT.dec_ocs t x []
  rw [List.append_nil,a6o h1] at this
  show(t.dec [b7j (t.ocs x)]).map (·.1)=some x
  rw [this];rfl
 | agg ts=>
  have:=OTs.dec_ocs ts x []
  rw [List.append_nil] at this
  show(ts.dec (ts.ocs x)).map (·.1)=some x
  rw [this];rfl
 | bx ts=>
  have:=OTs.dec_ocs ts x []
  rw [List.append_nil] at this
  show(ts.dec (ts.ocs x)).map (·.1)=some x
  rw [this];rfl
 | rx u e=>exact b1U (U.dec_enc u) x
inductive ATs where
 | nil
 | cons (t:AT) (ts:ATs)
def ATs.den:ATs->Type
 | .nil=>Unit
 | .cons t ts=>t.den × ts.den
def ATs.oas:(ts:ATs)->ts.den->List OA
 | .nil,_=>[]
 | .cons t ts,x=>t.oa x.1 :: ts.oas x.2
def ATs.ok:ATs->Bool
 | .nil=>true
 | .cons t ts=>t.ok && ts.ok
def ATs.sh:ATs->List ASh
 | .nil=>[]
 | .cons t ts=>t.ash :: ts.sh
def ATs.dec:(ts:ATs)->List OA->Option ts.den
 | .nil,_=>some ()
 | .cons t ts,l=>match l with
  | x :: r=>(t.dec x).bind fun a=>(ts.dec r).map fun b=>(a,b)
  | []=>none
theorem ATs.dec_oas:∀ (ts:ATs),ts.ok=true->∀ (x:ts.den),ts.dec (ts.oas x)=some x
 | .nil,_,_=>rfl
 | .cons t ts,h,x=>by
  simp only [ATs.ok,Bool.and_eq_true] at h
  show(t.dec (t.oa x.1)).bind (fun a=>(ts.dec (ts.oas x.2)).map fun b=>(a,b))=some x
  rw [AT.dec_oa t h.1,Option.bind_some,ATs.dec_oas ts h.2];rfl
inductive PTs where
 | nil
 | cons (t:OTs) (ts:PTs)
 | rcons (u:U) (e:TypeId) (ts:PTs)
def PTs.den:PTs->Type
 | .nil=>Unit
 | .cons t ts=>t.den × ts.den
 | .rcons u _ ts=>List u.den × ts.den
def PTs.ocs:(ts:PTs)->ts.den->List OA
 | .nil,_=>[]
 | .cons t ts,x=> .bx (t.ocs x.1) :: ts.ocs x.2
 | .rcons u e ts,x=> .rx u.size e (List.map u.enc x.1) :: ts.ocs x.2
structure TFn:Type 1 where
 args:ATs
 posts:PTs
 res:ATs
 R:Type
 G:args.den->Option R
 out:R->posts.den × res.den
 sp:Sp
def U.noSl:U->Bool
 | .sl _=>false
 | .pr a b=>a.noSl && b.noSl
 | .arr _ u=>u.noSl
 | _=>true
theorem U.noSl_ok:∀ (u:U),u.noSl=true->∀ (x:u.den),(List.map OC.d (u.enc x)).all a8F=true
 | .int _,_,_=>rfl
 | .byte,_,_=>rfl
 | .bool,_,_=>rfl
 | .str,_,_=>rfl
 | .sl _,h,_=>by cases h
 | .pr a b,h,x=>by
  have h':(a.noSl && b.noSl)=true:=h
  rw [Bool.and_eq_true] at h'
  rw [U.enc,List.map_append,List.all_append,a.noSl_ok h'.1,b.noSl_ok h'.2];rfl
 | .arr n u,h,v=>by
  have h':u.noSl=true:=h
  rw [U.enc,List.all_eq_true]
  intro c hc
  obtain⟨d,hd,rfl⟩:=List.mem_map.1 hc
  obtain⟨y,_,hy⟩:=List.mem_flatMap.1 hd
  exact List.all_eq_true.1 (u.noSl_ok h' y) _ (List.mem_map.2 ⟨d,hy,rfl⟩)
def OT.flat:OT->Bool
 | .d u=>u.noSl
 | _=>false
theorem OT.flat_ok (t:OT) (h:t.flat=true) (x:t.den):(t.ocs x).all a8F=true:=by
 cases t <;> first | cases h | skip
 case d u=>exact u.noSl_ok h x
def OTs.flat:OTs->Bool
 | .nil=>true
 | .cons t ts=>t.flat && ts.flat
theorem OTs.flat_ok:∀ (ts:OTs),ts.flat=true->∀ (x:ts.den),(ts.ocs x).all a8F=true
 | .nil,_,_=>rfl
 | .cons t ts,h,x=>by
  have h':(t.flat && ts.flat)=true:=h
  rw [Bool.and_eq_true] at h'
  rw [OTs.ocs,List.all_append,t.flat_ok h'.1,ts.flat_ok h'.2];rfl
def AT.flat:AT->Bool
 | .c t=>t.flat
 | .agg ts=>ts.flat
 | _=>false
def ATs.flat:ATs->Bool
 | .nil=>true
 | .cons t ts=>t.flat && ts.flat
def PTs.isNil:PTs->Bool
 | .nil=>true
 | _=>false
theorem PTs.isNil_ok (ts:PTs) (h:ts.isNil=true) (x:ts.den):ts.ocs x=[]:=by
 cases ts <;> first | rfl | cases h
def TFn.flat (S:TFn):Bool:=S.posts.isNil && S.res.flat
def TFn.val (S:TFn) (xs:List OA):Option S.R:=(S.args.dec xs).bind S.G
def TFn.spec (S:TFn):a6y:=⟨S.args.sh,fun xs=>∃ a r,xs=S.args.oas a/\S.G a=some r,
 fun xs=>match S.val xs with | some r=>S.posts.ocs (S.out r).1 | none=>[],fun xs=>match S.val xs with | some r=>S.res.oas (S.out r).2 | none=>[],S.sp,S.flat⟩
theorem TFn.val_of {S:TFn} (hk:S.args.ok=true) {a:S.args.den} {r:S.R} (h:S.G a=some r):S.val (S.args.oas a)=some r:=by
 unfold TFn.val
 rw [ATs.dec_oas _ hk,Option.bind_some,h]
theorem TFn.post_of {S:TFn} (hk:S.args.ok=true) {a:S.args.den} {r:S.R} (h:S.G a=some r):S.spec.post (S.args.oas a)=S.posts.ocs (S.out r).1:=by
 show(match S.val (S.args.oas a) with | some r=>S.posts.ocs (S.out r).1 | none=>[])=_
 rw [S.val_of hk h]
theorem TFn.res_of {S:TFn} (hk:S.args.ok=true) {a:S.args.den} {r:S.R} (h:S.G a=some r):S.spec.res (S.args.oas a)=S.res.oas (S.out r).2:=by
 show(match S.val (S.args.oas a) with | some r=>S.res.oas (S.out r).2 | none=>[])=_
 rw [S.val_of hk h]
structure Tt (α:Type) where
 x:α
 rest:List TC
 fz:List Nat
 ids:List (Nat ⊕ Nat)
mutual
def a9U:(t:OT)->List TC->TQ (Tt t.den)
 | .d u,ps=>(c0R u ps).bind fun p=> .ret ⟨p.x,p.rest,p.fz,[]⟩
 | .npt,ps=>match ps with
  | .npt :: rest=> .ret ⟨(),rest,[],[]⟩
  | _=> .fail
 | .it t u _,ps=>match ps with
  | .it t' v x :: rest=>match decEq t' t with
   | .isTrue _=>match decEq v u with
    | .isTrue hu=> .ret ⟨a4H hu x,rest,[],[]⟩
    | .isFalse _=> .fail
   | .isFalse _=> .fail
  | _=> .fail
 | .clo f u,ps=>match ps with
  | .clo g v x :: rest=>match decEq g f with
   | .isTrue _=>match decEq v u with
    | .isTrue hu=> .ret ⟨a4H hu x,rest,[],[]⟩
    | .isFalse _=> .fail
   | .isFalse _=> .fail
  | _=> .fail
 | .e u,ps=>match ps with
  | .ep v x off :: rest=>match decEq v u with
   | .isTrue hu=> .req (Nat.beq off 0) (.ret ⟨a4H hu x,rest,[],[]⟩)
   | .isFalse _=> .fail
  | _=> .fail
 | .fn f,ps=>match ps with
  | .fn g :: rest=>match decEq g f with
   | .isTrue _=> .ret ⟨(),rest,[],[]⟩
   | .isFalse _=> .fail
  | _=> .fail
 | .row u e,ps=>match ps with
  | .row id ver :: rest=> .rdR id fun r=>match r.c with
   | some R=>match decEq R.u u with
    | .isTrue h=> .req (Nat.beq ver r.ver && Nat.beq R.e e && !R.fr) (.ret ⟨(h ▸ R.l:List u.den),rest,[],[.inr id]⟩)
    | .isFalse _=> .fail
   | none=> .fail
  | .nil :: rest=> .req (decide (0 < u.size/\e < a0S)) (.ret ⟨([]:List u.den),rest,[],[]⟩)
  | _=> .fail
 | .box ts,ps=>match ps with
  | .ptr id ver off :: rest=> .rdB id fun b=>match b.c with
   | some qs=>(b01 ts qs).bind fun k=> .req (k.rest.isEmpty && Nat.beq ver b.ver && Nat.beq off 0) (.ret ⟨k.x,rest,k.fz,.inl id :: k.ids⟩)
   | none=> .fail
  | _=> .fail
def b01:(ts:OTs)->List TC->TQ (Tt ts.den)
 | .nil,ps=> .ret ⟨(),ps,[],[]⟩
 | .cons t ts,ps=>(a9U t ps).bind fun p=>(b01 ts p.rest).bind fun q=> .ret ⟨(p.x,q.x),q.rest,p.fz ++ q.fz,p.ids ++ q.ids⟩
end
theorem b02 {s:St} {K:Tks->List N7->Prop}:∀ (a b:List CSh) (x y:List AC) {tr:List N7},((Y0 a x).wpt s tr fun k rs=>(Y0 b y).wpt s rs fun m rs'=>K ⟨k.ocs ++ m.ocs,k.fz ++ m.fz,k.ids ++ m.ids⟩ rs')->(Y0 (a ++ b) (x ++ y)).wpt s tr K
 | [],b,[],y,tr,h=>by simpa only [Y0,Q.wpt,List.nil_append] using h
 | [],b,_ :: _,y,tr,h=>by simp only [Y0,Q.wpt] at h
 | _ :: _,b,[],y,tr,h=>by simp only [Y0,Q.wpt] at h
 | c :: a,b,x :: xs,y,tr,h=>by
  simp only [List.cons_append,Y0,Q.wpt_bind,Q.wpt] at h ⊢
  refine Q.wpt_mono h fun d rs h1=>?_
  refine b02 a b xs y (Q.wpt_mono h1 fun e rs' h2=>?_)
  refine Q.wpt_mono h2 fun g rs'' h3=>?_
  simpa only [List.cons_append,List.append_assoc] using h3
theorem b54 {s:St} {K:Tks->List N7->Prop}:∀ (xs:List AC) {tr:List N7},((a6K xs).wpt s tr fun d rs=>K ⟨d.1.map .d,d.2,[]⟩ rs)->(Y0 (List.replicate xs.length .D) xs).wpt s tr K
 | [],_,h=>h
 | x :: xs,tr,h=>by
  simp only [a6K,Q.wpt_bind,Q.wpt] at h
  simp only [List.length_cons,List.replicate_succ,Y0,a9C,Q.wpt_bind,Q.wpt]
  refine Q.wpt_mono h fun d rs h1=>?_
  refine b54 xs (Q.wpt_mono h1 fun e rs' h2=>?_)
  simpa only [List.map_cons,List.append_nil] using h2
theorem b55 {s:St} {K:List DV × List Nat->List N7->Prop}:∀ (xs:List AC) {tr:List N7},(a6K xs).wpt s tr K->(a6K xs).wpt s tr fun d rs=>d.1.length=xs.length/\K d rs
 | [],_,h=>⟨rfl,h⟩
 | x :: xs,tr,h=>by
  simp only [a6K,Q.wpt_bind,Q.wpt] at h ⊢
  refine Q.wpt_mono h fun d rs h1=>?_
  refine Q.wpt_mono (b55 xs h1) fun e rs' h2=>?_
  exact⟨by simp [h2.1],h2.2⟩
theorem Q.wpt_ex {α:Type} {q:Q α} {s:St} {K:α->List N7->Prop}:∀ {tr:List N7},q.wpt s tr K->∃ a rs,K a rs:=by
 induction q with
 | ret a=>exact fun h=>⟨a,_,h⟩
 | rdT k g ih=>exact fun h=>ih _ h
 | rdB k g ih=>exact fun h=>ih _ h
 | rdR k g ih=>exact fun h=>ih _ h
 | req p q ih=>exact fun h=>ih h.2
 | fail=>exact fun h=>h.elim
def c9n {α:Type} (f:α->List OC) (sh:List CSh) (p:List TC->TQ (Tt α)):Prop:=∀ (ps:List TC) (s:TSt) (tr:List N7) (K:Tt α->List N7->Prop),(p ps).wpt s tr K->
 ∃ pre k rs,B6 ps=pre ++ B6 k.rest/\K k rs/\(Y0 sh pre).wpt s.st tr fun q rs'=>q=⟨f k.x,k.fz,k.ids⟩/\rs'=rs
mutual
theorem b56:∀ (t:OT),c9n t.ocs t.sh (a9U t)
 | .d u,ps,s,tr,K,h=>by
  simp only [a9U,TQ.wpt_bind] at h
  obtain⟨pre,k,rs,e,h,d⟩:=a9L u ps s tr _ h
  refine⟨pre,_,rs,e,h,?_⟩
  have d2:=b55 pre d
  obtain⟨x,rs',hl,hx,_⟩:=Q.wpt_ex d2
  rw [hx,U.enc_len] at hl
  show(Y0 (List.replicate u.size .D) pre).wpt _ _ _
  rw [hl]
  refine b54 pre (Q.wpt_mono d ?_)
  rintro d rs ⟨rfl,rfl⟩
  exact⟨rfl,rfl⟩
 | .npt,ps,s,tr,K,h=>by
  unfold a9U at h
  split at h
  ·exact⟨[_],_,tr,rfl,h,show(Y0 [.D] [AC.d (.v (.pointer none))]).wpt _ _ _ from⟨rfl,rfl⟩⟩
  ·exact h.elim
 | .it t u hz,ps,s,tr,K,h=>by
  unfold a9U at h
  split at h
  ·split at h
   ·split at h
    ·rename_i e1 _ _ e2 _;subst e1;subst e2;exact⟨[_],_,tr,rfl,h,show(Y0 [.D] [AC.d (.it _ (b1I _))]).wpt _ _ _ from⟨rfl,rfl⟩⟩
    ·exact h.elim
   ·exact h.elim
  ·exact h.elim
 | .clo f u,ps,s,tr,K,h=>by
  unfold a9U at h
  split at h
  ·split at h
   ·split at h
    ·rename_i e1 _ _ e2 _;subst e1;subst e2;exact⟨[_],_,tr,rfl,h,show(Y0 [.D] [AC.d (.clo _ (U.enc _ _))]).wpt _ _ _ from⟨rfl,rfl⟩⟩
    ·exact h.elim
   ·exact h.elim
  ·exact h.elim
 | .e u,ps,s,tr,K,h=>by
  unfold a9U at h
  split at h
  ·split at h
   ·rename_i e2 _
    subst e2
    obtain⟨h0,h⟩:=h
    rw [Nat.eq_of_beq_eq_true h0]
    exact⟨[_],_,tr,rfl,h,show(Y0 [.E] [AC.eptr (U.enc _ _)]).wpt _ _ _ from⟨rfl,rfl⟩⟩
   ·exact h.elim
  ·exact h.elim
 | .fn f,ps,s,tr,K,h=>by
  unfold a9U at h
  split at h
  ·split at h
   ·rename_i hg _;subst hg;exact⟨[_],_,tr,rfl,h,show(Y0 [.D] [AC.d (.v (.func (.func _) #[] #[]))]).wpt _ _ _ from⟨rfl,rfl⟩⟩
   ·exact h.elim
  ·exact h.elim
 | .row u e,ps,s,tr,K,h=>by
  unfold a9U at h
  split at h
  ·rename_i id ver rest
   simp only [TQ.wpt] at h
   split at h
   ·rename_i R hR
    split at h
    ·rename_i hu _
     obtain⟨h1,h2⟩:=h
     simp only [Bool.and_eq_true] at h1
     refine⟨[.row id ver],_,_,rfl,h2,?_⟩
     have hc:(s.st.r id).c=some R.row:=by show(s.r id).c.map a8U.row=_;rw [hR];rfl
     simp only [OT.sh,Y0,a9C,Q.bind,Q.wpt]
     rw [hc]
     subst hu
     refine⟨⟨Nat.eq_of_beq_eq_true h1.1.1,rfl,Nat.eq_of_beq_eq_true h1.1.2,by show R.fr=false;simpa using h1.2⟩,rfl,rfl⟩
    ·exact h.elim
   ·exact h.elim
  ·rename_i rest
   obtain⟨h1,h2⟩:=h
   exact⟨[.nil],_,tr,rfl,h2,of_decide_eq_true h1,rfl,rfl⟩
  ·exact h.elim
 | .box ts,ps,s,tr,K,h=>by
  unfold a9U at h
  split at h
  ·rename_i id ver off rest
   simp only [TQ.wpt] at h
   split at h
   ·rename_i qs hq
    rw [TQ.wpt_bind] at h
    obtain⟨pre,k,rs,e,h,d⟩:=a7J ts qs s _ _ h
    obtain⟨h1,h2⟩:=h
    simp only [Bool.and_eq_true] at h1
    have hr:=List.isEmpty_iff.1 h1.1.1
    rw [hr] at e
    have e:B6 qs=pre:=e.trans (List.append_nil _)
    refine⟨[.ptr id ver off],_,_,rfl,h2,?_⟩
    have hc:(s.st.b id).c=some (B6 qs):=by show(s.b id).c.map B6=_;rw [hq];rfl
    simp only [OT.sh,Y0,a9C,Q.wpt_bind,Q.wpt]
    rw [hc,e]
    simp only [Q.wpt_bind]
    refine Q.wpt_mono d ?_
    rintro q rs' ⟨rfl,rfl⟩
    exact⟨⟨Nat.eq_of_beq_eq_true h1.1.2,Nat.eq_of_beq_eq_true h1.2⟩,by simp only [List.append_nil];rfl,rfl⟩
   ·exact h.elim
  ·exact h.elim
theorem a7J:∀ (ts:OTs),c9n ts.ocs ts.sh (b01 ts)
 | .nil,ps,s,tr,K,h=>⟨[],_,tr,rfl,h,rfl,rfl⟩
 | .cons t ts,ps,s,tr,K,h=>by
  simp only [b01,TQ.wpt_bind] at h
  obtain⟨pre1,k1,rs1,e1,h,d1⟩:=b56 t ps s tr _ h
  obtain⟨pre2,k2,rs2,e2,h,d2⟩:=a7J ts _ s rs1 _ h
  refine⟨pre1 ++ pre2,_,rs2,by rw [e1,e2,List.append_assoc],h,b02 _ _ _ _ (Q.wpt_mono d1 ?_)⟩
  rintro q rs ⟨rfl,rfl⟩
  refine Q.wpt_mono d2 ?_
  rintro q rs ⟨rfl,rfl⟩
  exact⟨rfl,rfl⟩
end
structure Tta (α:Type) where
 x:α
 fz:List Nat
 ids:List (Nat ⊕ Nat)
 tops:List (Nat ⊕ Nat)
def b03:(t:AT)->TV->TQ (Tta t.den)
 | .c t,v=>match v with
  | .o (.c x)=> .req (is1 x) ((a9U t [x]).bind fun k=> .req (k.rest.isEmpty) (.ret ⟨k.x,k.fz,k.ids,[]⟩))
  | _=> .fail
 | .agg ts,v=>match v with
  | .o (.agg ps)=>(b01 ts ps).bind fun k=> .req (k.rest.isEmpty) (.ret ⟨k.x,k.fz,k.ids,[]⟩)
  | _=> .fail
 | .bx ts,v=>match v with
  | .o (.c (.ptr id ver off))=> .rdB id fun b=>match b.c with
   | some qs=>(b01 ts qs).bind fun k=> .req (k.rest.isEmpty && Nat.beq ver b.ver && Nat.beq off 0) (.ret ⟨k.x,k.fz,k.ids,[.inl id]⟩)
   | none=> .fail
  | _=> .fail
 | .rx u e,v=>match v with
  | .o (.c (.row id ver))=> .rdR id fun r=>match r.c with
   | some R=>match decEq R.u u with
    | .isTrue h=> .req (Nat.beq ver r.ver && Nat.beq R.e e && !R.fr && Nat.blt e a0S) (.ret ⟨(h ▸ R.l:List u.den),[],[],[.inr id]⟩)
    | .isFalse _=> .fail
   | none=> .fail
  | _=> .fail
theorem b7k (t:AT) (hk:t.ok=true) (v:TV):Sim (fun k:Tta t.den=>(⟨t.oa k.x,k.fz,k.ids,k.tops⟩:Ta)) (b03 t v) (c1m t.ash v.av):=by
 cases t with
 | c t=>
  unfold b03
  simp only
  split
  ·rename_i x
   refine Sim.chk fun h1 s tr K hK=>?_
   rw [TQ.wpt_bind] at hK
   obtain⟨pre,k,rs,e,hK,d⟩:=b56 t _ s tr _ hK
   obtain⟨h2,h3⟩:=hK
   rw [List.isEmpty_iff.1 h2] at e
   have e:B6 [x]=pre:=e.trans (List.append_nil _)
   have e0:B6 [x]=[a1U x.cells]:=(List.append_nil _).trans (a8H h1)
   rw [<-e,e0] at d
   have hl:t.sh.length=1:=Nat.eq_of_beq_eq_true hk
   match hs:t.sh,hl with
   | [c],_=>
    have hocs:t.ocs k.x=[b7j (t.ocs k.x)]:=a6o (by rw [OT.len,hs];rfl)
    rw [hs] at d
    simp only [Y0,Q.wpt_bind,Q.wpt] at d
    show((a9C (t.sh.headD .D) (a1U x.cells)).bind fun k=>Q.ret (⟨.c k.oc,k.fz,k.ids,[]⟩:Ta)).wpt _ _ _
    rw [hs,Q.wpt_bind]
    refine Q.wpt_mono d ?_
    rintro q rs' ⟨hq,rfl⟩
    rw [hocs] at hq
    injection hq with q1 q2 q3
    injection q1 with q1 _
    refine⟨_,?_,h3⟩
    simp only [List.append_nil] at q2 q3
    show(⟨.c q.oc,q.fz,q.ids,[]⟩:Ta)=⟨.c (b7j (t.ocs k.x)),k.fz,k.ids,[]⟩
    rw [q1,q2,q3]
  ·exact Sim.fail
 | agg ts=>
  unfold b03
  simp only
  split
  ·rename_i ps
   intro s tr K hK
   rw [TQ.wpt_bind] at hK
   obtain⟨pre,k,rs,e,hK,d⟩:=a7J ts _ s tr _ hK
   obtain⟨h2,h3⟩:=hK
   rw [List.isEmpty_iff.1 h2] at e
   have e:B6 ps=pre:=e.trans (List.append_nil _)
   rw [<-e] at d
   show((Y0 ts.sh (B6 ps)).bind fun k=>Q.ret (⟨.agg k.ocs,k.fz,k.ids,[]⟩:Ta)).wpt _ _ _
   rw [Q.wpt_bind]
   refine Q.wpt_mono d ?_
   rintro q rs' ⟨rfl,rfl⟩
   exact⟨_,rfl,h3⟩
  ·exact Sim.fail
 | bx ts=>
  unfold b03
  simp only
  split
  ·rename_i id ver off
   refine Sim.rdB fun b=>?_
   obtain⟨bv,c⟩:=b
   cases c with
   | none=>exact Sim.fail
   | some qs=>
    intro s tr K hK
    simp only at hK
    rw [TQ.wpt_bind] at hK
    obtain⟨pre,k,rs,e,hK,d⟩:=a7J ts _ s tr _ hK
    obtain⟨h2,h3⟩:=hK
    simp only [Bool.and_eq_true] at h2
    rw [List.isEmpty_iff.1 h2.1.1] at e
    have e:B6 qs=pre:=e.trans (List.append_nil _)
    rw [<-e] at d
    show((Y0 ts.sh (B6 qs)).bind fun k=>Q.req (ver=bv/\off=0) (.ret (⟨.bx k.ocs,k.fz,k.ids,[.inl id]⟩:Ta))).wpt _ _ _
    rw [Q.wpt_bind]
    refine Q.wpt_mono d ?_
    rintro q rs' ⟨rfl,rfl⟩
    exact⟨⟨Nat.eq_of_beq_eq_true h2.1.2,Nat.eq_of_beq_eq_true h2.2⟩,_,rfl,h3⟩
  ·exact Sim.fail
 | rx u e=>
  unfold b03
  simp only
  split
  ·rename_i id ver
   refine Sim.rdR fun r=>?_
   obtain⟨rv,c⟩:=r
   cases c with
   | none=>exact Sim.fail
   | some R=>
    simp only
    split
    ·rename_i hu _
     subst hu
     refine Sim.req (fun h=>?_) fun _=>Sim.ret rfl
     simp only [Bool.and_eq_true] at h
     exact⟨Nat.eq_of_beq_eq_true h.1.1.1,rfl,Nat.eq_of_beq_eq_true h.1.1.2,by show R.fr=false;simpa using h.1.2,Nat.le_of_ble_eq_true h.2⟩
    ·exact Sim.fail
  ·exact Sim.fail
def b1V:(ts:ATs)->List TV->TQ (Tta ts.den)
 | .nil,vs=>match vs with
  | []=> .ret ⟨(),[],[],[]⟩
  | _=> .fail
 | .cons t ts,vs=>match vs with
  | v :: vs=>(b03 t v).bind fun k=>(b1V ts vs).bind fun ks=> .ret ⟨(k.x,ks.x),k.fz ++ ks.fz,k.ids ++ ks.ids,k.tops ++ ks.tops⟩
  | []=> .fail
theorem a7a:∀ (ts:ATs),ts.ok=true->∀ (vs:List TV),Sim (fun k:Tta ts.den=>(⟨ts.oas k.x,k.fz,k.ids,k.tops⟩:Tas)) (b1V ts vs) (a9D ts.sh (vs.map TV.av))
 | .nil,_,[]=>Sim.ret rfl
 | .nil,_,_ :: _=>Sim.fail
 | .cons _ _,_,[]=>Sim.fail
 | .cons t ts,h,v :: vs=>by
  simp only [ATs.ok,Bool.and_eq_true] at h
  exact Sim.bind (b7k t h.1 v) fun k=>Sim.bind (a7a ts h.2 vs) fun ks=>Sim.ret rfl
end Go.Proofs.YtacnfjjkhpkloaaGreat.Am
namespace Go.Proofs.YtacnfjjkhpkloaaGreat.Am
open Go
def c1Q:List (Nat ⊕ Nat)->TQ (List a0l)
 | []=> .ret []
 | .inl id :: ids=> .rdB id fun b=>(c1Q ids).bind fun us=> .ret (.b id ⟨b.ver,none⟩ :: us)
 | .inr id :: ids=> .rdR id fun b=>(c1Q ids).bind fun us=> .ret (.r id ⟨b.ver,none⟩ :: us)
theorem a9V:∀ (ids:List (Nat ⊕ Nat)),Sim US (c1Q ids) (b38 ids)
 | []=>Sim.ret rfl
 | .inl _id :: ids=>Sim.rdB fun _b=>Sim.bind (a9V ids) fun _us=>Sim.ret rfl
 | .inr _id :: ids=>Sim.rdR fun _b=>Sim.bind (a9V ids) fun _us=>Sim.ret rfl
def b9o:Nat->List TC
 | 0=>[]
 | n + 1=> .junk :: b9o n
theorem b57 {α:Type}:∀ (l:List α),B6 (b9o l.length)=l.map fun _=>AC.junk
 | []=>rfl
 | x :: l=>by rw [List.length_cons,b9o,B6,b57 l];rfl
def c1R:List (Nat ⊕ Nat)->(ts:PTs)->ts.den->TQ (List a0l)
 | [],.nil,_=> .ret []
 | .inl id :: ids,.cons t ts,x=> .rdB id fun b=>(c1R ids ts x.2).bind fun us=> .ret (.b id ⟨b.ver,some (b9o t.sh.length)⟩ :: us)
 | .inr id :: ids,.rcons u e ts,x=> .req (Nat.blt e a0S) (.rdR id fun r=>(c1R ids ts x.2).bind fun us=> .ret (.r id ⟨r.ver,some ⟨u,x.1,e,false⟩⟩ :: us))
 | _,_,_=> .fail
theorem a9W:∀ (ids:List (Nat ⊕ Nat)) (ts:PTs) (x:ts.den),Sim US (c1R ids ts x) (b0v ids (ts.ocs x))
 | [],.nil,_=>Sim.ret rfl
 | .inr id :: ids,.rcons u e ts,x=>Sim.req (fun h=>Nat.le_of_ble_eq_true h) fun _=>Sim.rdR fun r=>Sim.bind (a9W ids ts x.2) fun us=>Sim.ret rfl
 | .inl id :: ids,.cons t ts,x=>Sim.rdB fun b=>Sim.bind (a9W ids ts x.2) fun us=>Sim.ret (by
   show Upd.b id ⟨b.ver,some ((t.ocs x.1).map fun _=>AC.junk)⟩ :: _=Upd.b id ⟨b.ver,some (B6 (b9o t.sh.length))⟩ :: _
   rw [<-b57,OTs.len]
   rfl)
 | [],.cons _ _,_=>Sim.fail
 | [],.rcons _ _ _,_=>Sim.fail
 | .inl _ :: _,.nil,_=>Sim.fail
 | .inr _ :: _,.nil,_=>Sim.fail
 | .inl _ :: _,.rcons _ _ _,_=>Sim.fail
 | .inr _ :: _,.cons _ _,_=>Sim.fail
structure Tmk where
 ps:List TC
 us:List a0l
 m:Nat
mutual
def c45 (n:Nat):(t:OT)->t.den->TQ Tmk
 | .d u,x=> .ret ⟨[.ch u x],[],n⟩
 | .fn f,_=> .ret ⟨[.fn f],[],n⟩
 | .npt,_=> .ret ⟨[.npt],[],n⟩
 | .it t u _,x=> .ret ⟨[.it t u x],[],n⟩
 | .clo f u,x=> .ret ⟨[.clo f u x],[],n⟩
 | .e u,x=> .ret ⟨[.ep u x 0],[],n⟩
 | .row u e,l=> .req (Nat.blt e R7) (.rdR n fun r=> .ret ⟨[.row n (r.ver + 1)],[.r n ⟨r.ver + 1,some ⟨u,l,e,false⟩⟩],n + 1⟩)
 | .box ts,x=> .rdB n fun b=>(b4J (n + 1) ts x).bind fun k=> .ret ⟨[.ptr n (b.ver + 1) 0],k.us ++ [.b n ⟨b.ver + 1,some k.ps⟩],k.m⟩
def b4J (n:Nat):(ts:OTs)->ts.den->TQ Tmk
 | .nil,_=> .ret ⟨[],[],n⟩
 | .cons t ts,x=>(c45 n t x.1).bind fun k=>(b4J k.m ts x.2).bind fun ks=> .ret ⟨k.ps ++ ks.ps,k.us ++ ks.us,ks.m⟩
end
def c23 (k:Tmk):Mks:=⟨B6 k.ps,US k.us,k.m⟩
theorem b58 {s:St} {K:Mks->List N7->Prop}:∀ (a b:List OC) {n:Nat} {tr:List N7},((b0R n a).wpt s tr fun k rs=>(b0R k.m b).wpt s rs fun q rs'=>K ⟨k.acs ++ q.acs,k.us ++ q.us,q.m⟩ rs')->(b0R n (a ++ b)).wpt s tr K
 | [],b,n,tr,h=>by simpa only [b0R,Q.wpt,List.nil_append] using h
 | c :: a,b,n,tr,h=>by
  simp only [List.cons_append,b0R,Q.wpt_bind,Q.wpt] at h ⊢
  refine Q.wpt_mono h fun d rs h1=>?_
  refine b58 a b (Q.wpt_mono h1 fun e rs' h2=>?_)
  refine Q.wpt_mono h2 fun g rs'' h3=>?_
  simpa only [List.cons_append,List.append_assoc] using h3
theorem c24 {s:St} {K:Mks->List N7->Prop} {n:Nat} {tr:List N7}:∀ (ds:List DV),K ⟨ds.map .d,[],n⟩ tr->(b0R n (ds.map .d)).wpt s tr K
 | [],h=>h
 | d :: ds,h=>by
  simp only [List.map_cons,b0R,mkC,Q.wpt_bind,Q.wpt]
  exact c24 (K:=fun k rs=>K ⟨.d d :: k.acs,[] ++ k.us,k.m⟩ rs) ds h
theorem a5d {s:St} {K:Mks->List N7->Prop} {n:Nat} {tr:List N7} {c:OC} (h:(mkC n c).wpt s tr fun k rs=>K ⟨[k.ac],k.us,k.m⟩ rs):(b0R n [c]).wpt s tr K:=by
 simp only [b0R,Q.wpt_bind,Q.wpt]
 refine Q.wpt_mono h fun k rs h1=>?_
 simpa only [List.append_nil] using h1
theorem c99 (u:U) (n:Nat) (x:u.den):(⟨(u.enc x).map .d,[],n⟩:Mks)=c23 ⟨[.ch u x],[],n⟩:=by
 unfold c23
 rw [Y1]
 rfl
mutual
theorem b59:∀ (t:OT) (n:Nat) (x:t.den),Sim c23 (c45 n t x) (b0R n (t.ocs x))
 | .d u,n,x=>fun s tr K h=>c24 _ ⟨_,c99 u n x,h⟩
 | .npt,n,x=>fun s tr K h=>a5d (c:= .d (.v (.pointer none))) ⟨_,rfl,h⟩
 | .it t u _,n,x=>fun s tr K h=>a5d (c:= .d (.it t (b1I (u.enc x)))) ⟨_,rfl,h⟩
 | .clo f u,n,x=>fun s tr K h=>a5d (c:= .d (.clo f (u.enc x))) ⟨_,rfl,h⟩
 | .e u,n,x=>fun s tr K h=>a5d (c:= .e (u.enc x)) ⟨_,rfl,h⟩
 | .fn f,n,x=>fun s tr K h=>a5d (c:= .d (.v (.func (.func f) #[] #[]))) ⟨_,rfl,h⟩
 | .row u e,n,l=>fun s tr K h=>a5d (c:= .row u.size e (List.map u.enc l)) ⟨Nat.le_of_ble_eq_true h.1,_,rfl,h.2⟩
 | .box ts,n,x=>fun s tr K h=>a5d (c:= .box (ts.ocs x)) (by
   have h:((b4J (n + 1) ts x).bind fun k=>TQ.ret (⟨[.ptr n ((s.b n).ver + 1) 0],k.us ++ [.b n ⟨(s.b n).ver + 1,some k.ps⟩],k.m⟩:Tmk)).wpt s (.b n :: tr) K:=h
   rw [TQ.wpt_bind] at h
   have h1:=a7K ts (n + 1) x s _ _ h
   show((b0R (n + 1) (ts.ocs x)).bind fun k=>Q.ret (⟨.ptr n ((s.b n).ver + 1) 0,k.us ++ [.b n ⟨(s.b n).ver + 1,some k.acs⟩],k.m⟩:Mk)).wpt s.st (.b n :: tr) _
   rw [Q.wpt_bind]
   refine Q.wpt_mono h1 ?_
   rintro b rs ⟨a,rfl,hk⟩
   refine⟨_,?_,hk⟩
   simp only [c23,US,List.map_append,List.map_cons,List.map_nil]
   rfl)
theorem a7K:∀ (ts:OTs) (n:Nat) (x:ts.den),Sim c23 (b4J n ts x) (b0R n (ts.ocs x))
 | .nil,n,x=>fun s tr K h=>⟨_,rfl,h⟩
 | .cons t ts,n,x=>fun s tr K h=>by
  simp only [b4J,TQ.wpt_bind] at h
  refine b58 (t.ocs x.1) (ts.ocs x.2) (Q.wpt_mono (b59 t n x.1 s tr _ h) ?_)
  rintro b rs ⟨a,rfl,hk⟩
  refine Q.wpt_mono (a7K ts a.m x.2 s rs _ hk) ?_
  rintro b rs ⟨a',rfl,hk⟩
  refine⟨_,?_,hk⟩
  simp only [c23,US,List.map_append,a0T]
end
structure c9o where
 us:List a0l
 m:Nat
def c1S (n:Nat):List (Nat ⊕ Nat)->(ts:PTs)->ts.den->TQ c9o
 | [],.nil,_=> .ret ⟨[],n⟩
 | .inl id :: ids,.cons t ts,x=>(b4J n t x.1).bind fun k=> .req ((.inl id :: ids).all fun j=>Nat.blt (tid j) n || Nat.ble k.m (tid j)) (.rdB id fun b=>(c1S k.m ids ts x.2).bind fun p=> .ret ⟨k.us ++ (.b id ⟨b.ver,some k.ps⟩ :: p.us),p.m⟩)
 | .inr _ :: ids,.rcons _ _ ts,x=>c1S n ids ts x.2
 | _,_,_=> .fail
theorem a9X:∀ (ids:List (Nat ⊕ Nat)) (ts:PTs) (n:Nat) (x:ts.den),Sim (fun p:c9o=>(⟨US p.us,p.m⟩:Mps)) (c1S n ids ts x) (b39 n ids (ts.ocs x))
 | [],.nil,n,_=>Sim.ret rfl
 | .inr _ :: ids,.rcons _ _ ts,n,x=>a9X ids ts n x.2
 | .inl id :: ids,.cons t ts,n,x=>Sim.bind (a7K t n x.1) fun k=>Sim.req (fun h j hj=>by
   have h1:=List.all_eq_true.1 h j hj
   rw [Bool.or_eq_true] at h1
   rcases h1 with h1 | h1
   ·exact .inl (Nat.le_of_ble_eq_true h1)
   ·exact .inr (Nat.le_of_ble_eq_true h1)) fun _=>Sim.rdB fun b=>Sim.bind (a9X ids ts k.m x.2) fun p=>Sim.ret (by
   simp only [c23,US,List.map_append,List.map_cons]
   rfl)
 | [],.cons _ _,_,_=>Sim.fail
 | [],.rcons _ _ _,_,_=>Sim.fail
 | .inl _ :: _,.nil,_,_=>Sim.fail
 | .inr _ :: _,.nil,_,_=>Sim.fail
 | .inl _ :: _,.rcons _ _ _,_,_=>Sim.fail
 | .inr _ :: _,.cons _ _,_,_=>Sim.fail
structure c9p where
 v:T1
 us:List a0l
 m:Nat
def c9q (n:Nat):(t:AT)->t.den->TQ c9p
 | .c t,x=>(c45 n t x).bind fun k=>match k.ps with
  | [p]=> .req (is1 p) (.ret ⟨.c p,k.us,k.m⟩)
  | _=> .fail
 | .agg ts,x=>(b4J n ts x).bind fun k=> .ret ⟨.agg k.ps,k.us,k.m⟩
 | .bx ts,x=>(c45 n (.box ts) x).bind fun k=>match k.ps with
  | [p]=> .req (is1 p) (.ret ⟨.c p,k.us,k.m⟩)
  | _=> .fail
 | .rx u e,x=>(c45 n (.row u e) x).bind fun k=>match k.ps with
  | [p]=> .req (is1 p) (.ret ⟨.c p,k.us,k.m⟩)
  | _=> .fail
def c7C (k:c9p):Mka:=⟨k.v.av,US k.us,k.m⟩
theorem b9p {s:St} {K:Mks->List N7->Prop} {n:Nat} {tr:List N7} {c:OC} (h:(b0R n [c]).wpt s tr K):(mkC n c).wpt s tr fun k rs=>K ⟨[k.ac],k.us,k.m⟩ rs:=by
 simp only [b0R,Q.wpt_bind,Q.wpt] at h
 refine Q.wpt_mono h fun k rs h1=>?_
 simpa only [List.append_nil] using h1
theorem b1W (t:OT) (n:Nat) (x:t.den) (c:OC) (hc:t.ocs x=[c]):Sim c7C ((c45 n t x).bind fun k=>match k.ps with
  | [p]=> .req (is1 p) (.ret ⟨.c p,k.us,k.m⟩)
  | _=> .fail) ((mkC n c).bind fun k=> .ret ⟨.c k.ac,k.us,k.m⟩):=fun s tr K h=>by
 rw [TQ.wpt_bind] at h
 have h1:=b59 t n x s tr _ h
 rw [hc] at h1
 rw [Q.wpt_bind]
 refine Q.wpt_mono (b9p h1) ?_
 rintro k rs ⟨a,ha,hk⟩
 split at hk
 ·rename_i p hp
  obtain⟨h2,h3⟩:=hk
  refine⟨_,?_,h3⟩
  have e0:B6 [p]=[a1U p.cells]:=(List.append_nil _).trans (a8H h2)
  simp only [c23,hp,e0] at ha
  injection ha with a1 a2 a3
  injection a1 with a1 _
  simp only [c7C,T1.av]
  rw [a1,a2,a3]
 ·exact hk.elim
theorem c1T (t:AT) (hk:t.ok=true) (n:Nat) (x:t.den):Sim c7C (c9q n t x) (mkA n (t.oa x)):=by
 cases t with
 | c t=>
  have h1:(t.ocs x).length=1:=by rw [OT.len t x];exact Nat.eq_of_beq_eq_true hk
  exact b1W t n x _ (a6o h1)
 | agg ts=>exact Sim.bind (a7K ts n x) fun k=>Sim.ret rfl
 | bx ts=>exact b1W (.box ts) n x _ rfl
 | rx u e=>exact b1W (.row u e) n x _ rfl
structure c35 where
 vs:List T1
 us:List a0l
 m:Nat
def b9q (n:Nat):(ts:ATs)->ts.den->TQ c35
 | .nil,_=> .ret ⟨[],[],n⟩
 | .cons t ts,x=>(c9q n t x.1).bind fun k=>(b9q k.m ts x.2).bind fun ks=> .ret ⟨k.v :: ks.vs,k.us ++ ks.us,ks.m⟩
def b0w (k:c35):c7T:=⟨k.vs.map T1.av,US k.us,k.m⟩
theorem a7L:∀ (ts:ATs),ts.ok=true->∀ (n:Nat) (x:ts.den),Sim b0w (b9q n ts x) (c3E n (ts.oas x))
 | .nil,_,_,_=>Sim.ret rfl
 | .cons t ts,h,n,x=>by
  simp only [ATs.ok,Bool.and_eq_true] at h
  exact Sim.bind (c1T t h.1 n x.1) fun k=>Sim.bind (a7L ts h.2 k.m x.2) fun ks=>Sim.ret (by simp only [c7C,b0w,US,List.map_append,List.map_cons])
def c36 (vs:List T1):TV:=match vs with
 | [v]=> .o v
 | vs=> .tup vs
theorem b6a (vs:List T1):c4Z (vs.map T1.av)=(c36 vs).av:=by
 match vs with
 | []=>rfl
 | [_]=>rfl
 | _ :: _ :: _=>rfl
def c46 (x:Nat ⊕ Nat):List (Nat ⊕ Nat)->Bool
 | []=>false
 | y :: r=>(match x,y with | .inl a,.inl b=>Nat.beq a b | .inr a,.inr b=>Nat.beq a b | _,_=>false) || c46 x r
theorem b1X {x:Nat ⊕ Nat}:∀ {l:List (Nat ⊕ Nat)},c46 x l=false->x ∉ l
 | [],_,h=>by simp at h
 | y :: r,h,hm=>by
  simp only [c46,Bool.or_eq_false_iff] at h
  rcases List.mem_cons.1 hm with e | hm
  ·subst e
   have h1:=h.1
   cases x <;> simp at h1
  ·exact b1X h.2 hm
def b3h:List (Nat ⊕ Nat)->Bool
 | []=>true
 | x :: r=> !c46 x r && b3h r
theorem a9Y:∀ {l:List (Nat ⊕ Nat)},b3h l=true->l.Nodup
 | [],_=>List.nodup_nil
 | x :: r,h=>by
  simp only [b3h,Bool.and_eq_true,Bool.not_eq_true'] at h
  exact List.nodup_cons.2 ⟨b1X h.1,a9Y h.2⟩
def c37 (S:TFn) (o:Oper) (c:Call) (ex:List TV:=[]):TQ (List a0l):=
 (c5Q c.args.toList).bind fun xs=>(b1V S.args (xs ++ ex)).bind fun k=>
 .req (b3h (k.tops ++ k.ids) && k.fz.all fun id=> !c46 (Sum.inr id) (k.tops ++ k.ids))
 (.call (S.G k.x) fun r=>match S.flat && k.tops.isEmpty && k.ids.isEmpty with
 | true=>(a3i k.fz).bind fun _=>(b9q (a9b o.dst) S.res (S.out r).2).bind fun q=> .ret (q.us ++ c7z o.dst (c36 q.vs))
 | false=>(a3i k.fz).bind fun us1=>(c1Q k.ids).bind fun us2=>(c1R k.tops S.posts (S.out r).1).bind fun us3=>(c1S (a9b o.dst) k.tops S.posts (S.out r).1).bind fun p=>(b9q p.m S.res (S.out r).2).bind fun q=>
 .ret (us1 ++ us2 ++ us3 ++ p.us ++ q.us ++ c7z o.dst (c36 q.vs)))
theorem AT.flat_ok (t:AT) (h:t.flat=true) (hk:t.ok=true) (x:t.den):b21 (t.oa x)=true:=by
 cases t with
 | c t=>
  have h1:(t.ocs x).length=1:=by rw [OT.len t x];exact Nat.eq_of_beq_eq_true hk
  have h2:=a6o h1
  have h3:=t.flat_ok h x
  rw [h2,List.all_cons,Bool.and_eq_true] at h3
  exact h3.1
 | agg ts=>exact ts.flat_ok h x
 | bx ts=>cases h
 | rx u e=>cases h
theorem ATs.flat_ok:∀ (ts:ATs),ts.flat=true->ts.ok=true->∀ (x:ts.den),(ts.oas x).all b21=true
 | .nil,_,_,_=>rfl
 | .cons t ts,h,hk,x=>by
  have h':(t.flat && ts.flat)=true:=h
  have hk':(t.ok && ts.ok)=true:=hk
  rw [Bool.and_eq_true] at h' hk'
  rw [ATs.oas,List.all_cons,t.flat_ok h'.1 hk'.1,ts.flat_ok h'.2 hk'.2];rfl
theorem Sim.call {α β γ:Type} {f:α->β} {o:Option γ} {q':γ->TQ α} {q:Q β} (h:∀ r,o=some r->Sim f (q' r) q):Sim f (.call o q') q:=fun s tr K hk=>by
 obtain⟨r,h1,h2⟩:=hk
 exact h r h1 s tr K h2
theorem b9r (S:TFn) (ha:S.args.ok=true) (hr:S.res.ok=true) (o:Oper) (c:Call) (ex:List TV):Sim US (c37 S o c ex) (b8E S.spec o c (ex.map TV.av)):=by
 refine Sim.bind (a9c _) fun xs=>Sim.bind (show Sim _ _ (a9D S.spec.sh (xs.map TV.av ++ ex.map TV.av)) by rw [<-List.map_append];exact a7a S.args ha (xs ++ ex)) fun k=>Sim.chk fun h=>Sim.call fun r hF=>?_
 rw [Bool.and_eq_true] at h
 refine Sim.must ⟨a9Y h.1,fun id hid=>?_,⟨k.x,r,rfl,hF⟩⟩ ?_
 ·have:=List.all_eq_true.1 h.2 id hid
  exact b1X (by simpa using this)
 ·simp only
  rw [TFn.post_of ha hF,TFn.res_of ha hF]
  show Sim US _ (match S.flat && k.tops.isEmpty && k.ids.isEmpty with | true=>_ | false=>_)
  cases hfl:S.flat && k.tops.isEmpty && k.ids.isEmpty with
  | true=>
   rw [Bool.and_eq_true,Bool.and_eq_true] at hfl
   have hf:(S.posts.isNil && S.res.flat)=true:=hfl.1.1
   rw [Bool.and_eq_true] at hf
   refine Sim.must ⟨S.posts.isNil_ok hf.1 _,S.res.flat_ok hf.2 hr _⟩ ?_
   refine Sim.bind (S0 k.fz) fun _=>Sim.bind (a7L S.res hr _ (S.out r).2) fun q=>Sim.ret ?_
   simp only [b0w]
   rw [b6a]
   simp only [US,List.map_append]
   congr 1
   cases o.dst <;> rfl
  | false=>
  refine Sim.bind (S0 k.fz) fun us1=>Sim.bind (a9V k.ids) fun us2=>Sim.bind (a9W k.tops S.posts (S.out r).1) fun us3=>Sim.bind (a9X k.tops S.posts _ (S.out r).1) fun p=>Sim.bind (a7L S.res hr p.m (S.out r).2) fun q=>Sim.ret ?_
  simp only [b0w]
  rw [b6a]
  simp only [US,List.map_append]
  congr 1
  cases o.dst <;> rfl
def c25 (k:TK) (x:TV):TQ Nat:=match k with
 | .slice _=>c70 x
 | .str=>b4x x
 | .map _ _=>b4D x
 | _=> .fail
def tmm (f:Int->Int->Int) (x y:TV):TQ TV:=match x,y with
 | .o (.c (.ch (.int k) a)),.o (.c (.ch (.int _) b))=> .ret (c1 (.int k) (f a b))
 | _,_=> .fail
def b9s (T:TypeId->Option TI) (TU:TypeId->Option U) (b:Builtin) (o:Oper) (c:Call):TQ (List a0l):=match b with
 | .len=>match c.args.toList,c.argTypes.toList with
  | [x],[t]=>(ttq T t).bind fun i=>(tev x).bind fun x=>(c25 i.k x).bind fun n=>a62 o.dst (c1 (.int .i64) (n:Int))
  | _,_=> .fail
 | .append=>match c.args.toList,c.argTypes.toList with
  | [x,y],[t,t']=>(ttq T t).bind fun i=>match i.k with
   | .slice e=>(ttq T e).bind fun ie=>(TQ.ofOpt o.dst).bind fun d=>match TU e with
    | some u=> .req (Nat.beq t t' && decide (0 < ie.size) && Nat.beq u.size ie.size) ((tev x).bind fun x=>(tev y).bind fun y=>match x,y with
     | .o (.c x),.o (.c y)=>b9l d e u ie.bytes x y
     | _,_=> .fail)
    | none=> .fail
   | _=> .fail
  | _,_=> .fail
 | .delete=>match c.args.toList,c.argTypes.toList with
  | [x,y],t :: _=>(ttq T t).bind fun i=>match i.k with
   | .map kt vt=>(ttq T kt).bind fun ik=>(ttq T vt).bind fun iv=>(tev x).bind fun m=>(tev y).bind fun k=>match TU kt,TU vt with
    | some K,some V=> .req (isKey (kU K) && kOk ik.k (kU K)) ((b7h T ik (kU K) k).bind fun k=>(c30 (kU K) V ik iv k m).bind fun us=> .ret (us ++ c7z o.dst .any))
    | _,_=> .fail
   | _=> .fail
  | _,_=> .fail
 | .max=>match c.args.toList with
  | [x,y]=>(tev x).bind fun x=>(tev y).bind fun y=>(tmm max x y).bind (a62 o.dst)
  | _=> .fail
 | .min=>match c.args.toList with
  | [x,y]=>(tev x).bind fun x=>(tev y).bind fun y=>(tmm min x y).bind (a62 o.dst)
  | _=> .fail
 | _=> .fail
theorem b7l (k:TK) (x:TV):Sim id (c25 k x) (b8J k x.av):=by
 cases k <;> first | exact c1I x | exact b4y x | exact b4E x | exact Sim.fail
theorem b9t (f:Int->Int->Int) (x y:TV):Sim TV.av (tmm f x y) (mmQ f x.av y.av):=by
 unfold tmm
 split
 ·exact Sim.ret rfl
 ·exact Sim.fail
theorem b7m (T:TypeId->Option TI) (TU:TypeId->Option U) (b:Builtin) (o:Oper) (c:Call):Sim US (b9s T TU b o c) (b23 T b o c):=by
 unfold b9s b23
 cases b <;> try exact Sim.fail
 case len=>
  simp only
  split
  ·rename_i x t hx ht
   rw [hx,ht]
   exact Sim.bind (E6 T t) fun i=>Sim.bind (D9 x) fun x=>Sim.bind (b7l i.k x) fun n=>H3 o.dst (c1 (.int .i64) (n:Int))
  ·exact Sim.fail
 case append=>
  simp only
  split
  ·rename_i x y t t' hx ht
   rw [hx,ht]
   refine Sim.bind (E6 T t) fun i=>?_
   simp only [id]
   cases i.k <;> try exact Sim.fail
   case slice e=>
    refine Sim.bind (E6 T e) fun ie=>Sim.bind (P2 o.dst) fun d=>?_
    cases TU e with
    | none=>exact Sim.fail
    | some u=>
     refine Sim.req (fun h=>?_) fun h=>?_
     ·simp only [Bool.and_eq_true] at h
      exact⟨Nat.eq_of_beq_eq_true h.1.1,of_decide_eq_true h.1.2⟩
     ·simp only [Bool.and_eq_true] at h
      refine Sim.bind (D9 x) fun x=>Sim.bind (D9 y) fun y=>?_
      split
      ·exact b4I d e u ie.size ie.bytes (Nat.eq_of_beq_eq_true h.2) _ _
      ·exact Sim.fail
  ·exact Sim.fail
 case delete=>
  simp only
  split
  ·rename_i x y t ts hx ht
   rw [hx,ht]
   refine Sim.bind (E6 T t) fun i=>?_
   simp only [id]
   cases i.k <;> try exact Sim.fail
   case map kt vt=>
    refine Sim.bind (E6 T kt) fun ik=>Sim.bind (E6 T vt) fun iv=>Sim.bind (D9 x) fun m=>Sim.bind (D9 y) fun k=>?_
    cases TU kt with
    | none=>exact Sim.fail
    | some K=>
     cases TU vt with
     | none=>exact Sim.fail
     | some V=>
      refine Sim.chk fun h=>?_
      simp only [Bool.and_eq_true] at h
      refine Sim.bind (a9e h.1 k) fun k=>Sim.bind (b9c h.1 h.2 k m) fun us=>Sim.ret ?_
      simp only [US,List.map_append]
      congr 1
      cases o.dst <;> rfl
  ·exact Sim.fail
 case max=>
  simp only
  split
  ·rename_i x y hx
   rw [hx]
   exact Sim.bind (D9 x) fun x=>Sim.bind (D9 y) fun y=>Sim.bind (b9t max x y) fun v=>H3 o.dst v
  ·exact Sim.fail
 case min=>
  simp only
  split
  ·rename_i x y hx
   rw [hx]
   exact Sim.bind (D9 x) fun x=>Sim.bind (D9 y) fun y=>Sim.bind (b9t min x y) fun v=>H3 o.dst v
  ·exact Sim.fail
def b9u:List (Nat × TFn)->Nat->Option TFn
 | [],_=>none
 | p :: l,j=>match Nat.beq j p.1 with
  | true=>some p.2
  | false=>b9u l j
def c76:TV->TQ (Nat × List TV)
 | .o (.c (.fn f))=> .req true (.ret (f,[]))
 | .o (.c (.clo f u x))=> .ret (f,[.o (.c (.ep u x 0))])
 | _=> .fail
theorem c1U (x:TV):Sim (fun p:Nat × List TV=>(p.1,p.2.map TV.av)) (c76 x) (fnQ x.av):=by
 unfold c76
 split
 ·exact Sim.req (fun _=>⟨rfl,rfl⟩) fun _=>Sim.ret rfl
 ·exact Sim.ret rfl
 ·exact Sim.fail
def c5Y:TV->Nat
 | .o (.c .npt)=>1
 | .o (.c (.it t _ _))=>2 + t
 | _=>0
def a9f:List TV->Nat
 | []=>0
 | v :: vs=>c5Y v + 5000 * a9f vs
theorem a7M:∀ (u:U) (x:u.den),∀ d ∈ u.enc x,b67 (.c (.d d))=0
 | .int _,_,d,h=>by cases h with | head=>rfl | tail _ h=>cases h
 | .byte,_,d,h=>by cases h with | head=>rfl | tail _ h=>cases h
 | .bool,_,d,h=>by cases h with | head=>rfl | tail _ h=>cases h
 | .str,_,d,h=>by cases h with | head=>rfl | tail _ h=>cases h
 | .sl _,_,d,h=>by cases h with | head=>rfl | tail _ h=>cases h
 | .pr a b,x,d,h=>by
  rcases List.mem_append.1 h with h | h
  ·exact a7M a x.1 d h
  ·exact a7M b x.2 d h
 | .arr _ u,v,d,h=>by
  obtain⟨y,_,hy⟩:=List.mem_flatMap.1 h
  exact a7M u y d hy
theorem b9v:∀ (l:List DV),(∀ d ∈ l,b67 (.c (.d d))=0)->b67 (.c (a1U (l.map .d)))=0
 | [],_=>rfl
 | [d],h=>h d (by simp)
 | _ :: _ :: _,_=>rfl
theorem c1V (x:TV):b67 x.av=c5Y x:=by
 cases x with
 | o x=>
  cases x with
  | c x=>cases x <;> first | rfl | exact b9v _ (a7M _ _)
  | agg xs=>rfl
 | tup xs=>rfl
 | clo f id ver=>rfl
 | ent tup id pv K k=>rfl
 | nx b x y=>rfl
 | any=>rfl
theorem b04:∀ (xs:List TV),b1H (xs.map TV.av)=a9f xs
 | []=>rfl
 | x :: xs=>by
  show b67 x.av + 5000 * b1H (xs.map TV.av)=_
  rw [c1V,b04 xs];rfl
def b9w (f1:FuncId) (o:Oper):List TV->TQ (List a0l)
 | [.o (.c (.row id ver))]=>(TQ.ofOpt o.dst).bind fun d=> .rdR id fun r=>match r.c with
  | some R=> .req (Nat.beq ver r.ver && Nat.ble a0S R.e && !(Nat.beq R.e a4A) && !(c1L R.e)) (.rdB d fun b=> .ret [.b d ⟨b.ver + 1,some [.row id ver]⟩,.t d ⟨true,.clo f1 d (b.ver + 1)⟩])
  | none=> .fail
 | _=> .fail
theorem b7n (f1:FuncId) (o:Oper) (xs:List TV):Sim US (b9w f1 o xs) (c3I f1 o (xs.map TV.av)):=by
 unfold b9w
 split
 ·refine Sim.bind (P2 o.dst) fun d=>Sim.rdR fun r=>?_
  obtain⟨rv,c⟩:=r
  cases c with
  | none=>exact Sim.fail
  | some R=>exact Sim.req (fun h=>by simp only [Bool.and_eq_true] at h;exact⟨Nat.eq_of_beq_eq_true h.1.1.1,Nat.le_of_ble_eq_true h.1.1.2,b9d h.1.2,b51 h.2⟩) fun _=>Sim.rdB fun b=>Sim.ret rfl
 ·exact Sim.fail
def b0x (x y:Int):Bool:=decide (x<=y)
def b0y (x y:List UInt8):Bool:=decide (x<=y)
def c47 {α:Type} (le:α->α->Bool) (x:α):List α->List α
 | []=>[x]
 | y :: l=>match le x y with
  | true=>x :: y :: l
  | false=>y :: c47 le x l
def b7o {α:Type} (le:α->α->Bool):List α->List α
 | []=>[]
 | x :: l=>c47 le x (b7o le l)
theorem a9Z {α:Type} (le:α->α->Bool) (x:α):∀ l:List α,(c47 le x l).Perm (x :: l)
 | []=>List.Perm.refl _
 | y :: l=>by
  unfold c47
  split
  ·exact List.Perm.refl _
  ·exact((a9Z le x l).cons y).trans (List.Perm.swap x y l)
theorem b05 {α:Type} (le:α->α->Bool):∀ l:List α,(b7o le l).Perm l
 | []=>List.Perm.refl _
 | x :: l=>(a9Z le x _).trans ((b05 le l).cons x)
theorem a90 {α:Type} {le:α->α->Bool} (tr:∀ a b c,le a b=true->le b c=true->le a c=true) (to:∀ a b,(le a b || le b a)=true) (x:α):∀ l:List α,l.Pairwise (fun a b=>le a b=true)->(c47 le x l).Pairwise (fun a b=>le a b=true)
 | [],_=>List.pairwise_singleton _ _
 | y :: l,h=>by
  rw [List.pairwise_cons] at h
  unfold c47
  split
  ·rename_i hxy
   refine List.pairwise_cons.2 ⟨fun z hz=>?_,List.pairwise_cons.2 h⟩
   rcases List.mem_cons.1 hz with rfl | hz
   ·exact hxy
   ·exact tr _ _ _ hxy (h.1 z hz)
  ·rename_i hxy
   have hyx:le y x=true:=by have:=to x y;rw [hxy] at this;simpa using this
   refine List.pairwise_cons.2 ⟨fun z hz=>?_,a90 tr to x l h.2⟩
   rcases List.mem_cons.1 ((a9Z le x l).mem_iff.1 hz) with rfl | hz
   ·exact hyx
   ·exact h.1 z hz
theorem a8K {α:Type} {le:α->α->Bool} (tr:∀ a b c,le a b=true->le b c=true->le a c=true) (to:∀ a b,(le a b || le b a)=true):∀ l:List α,(b7o le l).Pairwise (fun a b=>le a b=true)
 | []=>List.Pairwise.nil
 | x :: l=>a90 tr to x _ (a8K tr to l)
theorem a3E {α:Type} {le:α->α->Bool} (tr:∀ a b c,le a b=true->le b c=true->le a c=true) (to:∀ a b,(le a b || le b a)=true) (an:∀ a b,le a b=true->le b a=true->a=b) {l l':List α} (h:l'.Pairwise (fun a b=>le a b=true)) (hp:l.Perm l'):b7o le l=l':=
 List.Perm.eq_of_pairwise (le:=fun a b=>le a b=true) (fun a b _ _ h1 h2=>an a b h1 h2) (a8K tr to l) h ((b05 le l).trans hp)
def a4b (l:List Int):List Int:=b7o b0x l
def b1Y (l:List (List UInt8)):List (List UInt8):=b7o b0y l
theorem a9g (a b c:Int) (h1:b0x a b=true) (h2:b0x b c=true):b0x a c=true:=decide_eq_true (Int.le_trans (of_decide_eq_true h1) (of_decide_eq_true h2))
theorem a9h (a b:Int):(b0x a b || b0x b a)=true:=by simp only [b0x,Bool.or_eq_true,decide_eq_true_eq];exact Int.le_total a b
theorem b1Z (a b:Int) (h1:b0x a b=true) (h2:b0x b a=true):a=b:=Int.le_antisymm (of_decide_eq_true h1) (of_decide_eq_true h2)
theorem b6b (a b c:List UInt8) (h1:b0y a b=true) (h2:b0y b c=true):b0y a c=true:=decide_eq_true (List.le_trans (of_decide_eq_true h1) (of_decide_eq_true h2))
theorem b6c (a b:List UInt8):(b0y a b || b0y b a)=true:=by simp only [b0y,Bool.or_eq_true,decide_eq_true_eq];exact List.le_total a b
theorem c1W (a b:List UInt8) (h1:b0y a b=true) (h2:b0y b a=true):a=b:=List.le_antisymm (of_decide_eq_true h1) (of_decide_eq_true h2)
theorem b4K (l:List Int):l.mergeSort (fun x y=>decide (x<=y))=a4b l:=by
 refine(a3E a9g a9h b1Z (List.pairwise_mergeSort a9g a9h l) ?_).symm
 exact(List.mergeSort_perm l b0x).symm
theorem b4L (l:List (List UInt8)):l.mergeSort (fun x y=>decide (x<=y))=b1Y l:=by
 refine(a3E b6b b6c c1W (List.pairwise_mergeSort b6b b6c l) ?_).symm
 exact(List.mergeSort_perm l b0y).symm
def a5e (l:List Int):Bool:=decide (l.Nodup/\(∀ x ∈ l,-9223372036854775808<=x/\x<=9223372036854775807)/\l.length * 8<=LIM)
def b15 (l:List (List UInt8)):Bool:=decide (l.Nodup/\(∀ x ∈ l,x.length<=4611686018427387904)/\l.length * 16<=LIM)
def c5Z (K:U):(u:U)->List u.den->Option (List K.den)
 | .pr K' _,l=>match decEq K' K with
  | .isTrue h=>some (List.map (fun p=>a4H h p.1) l)
  | .isFalse _=>none
 | _,_=>none
def b6d (K:U) (f1:FuncId) (e:TypeId) (good:List K.den->Bool) (srt:List K.den->List K.den) (o:Oper):List TV->TQ (List a0l)
 | [.clo f id ver]=>(TQ.ofOpt o.dst).bind fun d=> .rdB id fun b=>match b.c with
  | some [.row rid rver]=> .rdR rid fun r=>match r.c with
   | some R=>match c5Z K R.u R.l with
    | some ks=> .req (Nat.beq f f1 && Nat.beq ver b.ver && Nat.beq rver r.ver && (Nat.beq R.e (mE true) || Nat.beq R.e (mE false)) && decide (e < a0S)) (.req (good ks) (.rdR d fun rd=> .ret [.r d ⟨rd.ver + 1,some ⟨K,srt ks,e,false⟩⟩,.t d ⟨true,.o (.c (.row d (rd.ver + 1)))⟩]))
    | none=> .fail
   | none=> .fail
  | _=> .fail
 | _=> .fail
theorem b06 {K:U} (hK:K.size=1) {f1:FuncId} {e:TypeId} {good:List K.den->Bool} {srt:List K.den->List K.den} {goodA:List (List DV)->Prop} {srtA:List (List DV)->List (List DV)}
  (h1:∀ (V:U) (l:List (K.den × V.den)),good (l.map (·.1))=true->goodA (l.map (U.pr K V).enc)) (h2:∀ (V:U) (l:List (K.den × V.den)),srtA (l.map (U.pr K V).enc)=(srt (l.map (·.1))).map K.enc) (o:Oper) (xs:List TV) :
  Sim US (b6d K f1 e good srt o xs) (b8I f1 e goodA srtA o (xs.map TV.av)):=by
 unfold b6d
 split
 ·rename_i f id ver
  refine Sim.bind (P2 o.dst) fun d=>Sim.rdB fun b=>?_
  obtain⟨bv,c⟩:=b
  simp only
  split
  ·rename_i rid rver
   refine Sim.rdR fun r=>?_
   obtain⟨rv,c⟩:=r
   cases c with
   | none=>exact Sim.fail
   | some R=>
    obtain⟨ru,rl,re,rf⟩:=R
    simp only
    cases ru with
    | pr K' V=>
     unfold c5Z
     simp only
     split
     ·rename_i ks hks
      split at hks
      ·rename_i hk _
       subst hk
       injection hks with hks
       have hks:ks=List.map (fun p=>p.1) rl:=hks.symm
       subst hks
       refine Sim.chk fun hc=>Sim.req (fun hg=>?_) fun _=>Sim.rdR fun rd=>Sim.ret ?_
       ·simp only [Bool.and_eq_true,Bool.or_eq_true] at hc
        obtain⟨⟨⟨⟨c1,c2⟩,c3⟩,c4⟩,c5⟩:=hc
        have hE:∃ b,re=mE b:=by
         rcases c4 with c4 | c4
         ·exact⟨_,Nat.eq_of_beq_eq_true c4⟩
         ·exact⟨_,Nat.eq_of_beq_eq_true c4⟩
        obtain⟨b0,rfl⟩:=hE
        obtain⟨m1,m2,_,m4,m5⟩:=a7x b0
        exact⟨Nat.eq_of_beq_eq_true c1,Nat.eq_of_beq_eq_true c2,Nat.eq_of_beq_eq_true c3,m4,m5,m1,m2,of_decide_eq_true c5,h1 V rl hg⟩
       ·show [Upd.r d ⟨rd.ver + 1,some ⟨srtA (rl.map (U.pr K' V).enc),1,e,false⟩⟩,_]=_
        rw [h2 V rl,<-hK]
        rfl
      ·cases hks
     ·exact Sim.fail
    | _=>exact Sim.fail
  ·exact Sim.fail
 ·exact Sim.fail
theorem b6e {α β γ:Type} {f:α->β} {g:β->γ} {h:α->γ} (e:∀ x,g (f x)=h x) (l:List α):(l.map f).map g=l.map h:=by
 rw [List.map_map];exact List.map_congr_left fun x _=>e x
theorem b16 {α β:Type} (f:α->β) (l:List α):(l.map f).length=l.length:=List.length_map f
theorem a6p {a b c k:Nat} (h:a=b) (h2:b * k<=c):a * k<=c:=h ▸ h2
theorem b4M {n:Nat} (h:n * 8<=LIM):n<=maxLen:=by unfold LIM at h;simp only [maxLen];omega
theorem b3i {n:Nat} (h:n * 16<=LIM):n<=maxLen:=by unfold LIM at h;simp only [maxLen];omega
theorem a8L {α:Type} (f:α->Int) (l:List α) (h:a5e (l.map f)=true):l.length * 8<=LIM:=by
 have:=(of_decide_eq_true h).2.2
 rwa [List.length_map] at this
theorem a8M {α:Type} (f:α->List UInt8) (l:List α) (h:b15 (l.map f)=true):l.length * 16<=LIM:=by
 have:=(of_decide_eq_true h).2.2
 rwa [List.length_map] at this
theorem c50 (V:U) (l:List ((U.int .i64).den × V.den)) (h:a5e (l.map (·.1))=true):c5L (l.map (U.pr (.int .i64) V).enc):=by
 obtain⟨a1,a2,_⟩:=of_decide_eq_true h
 have e:(l.map (U.pr (.int .i64) V).enc).map c2Q=l.map (·.1):=b6e (f:=(U.pr (.int .i64) V).enc) (fun _=>rfl) l
 refine⟨fun c hc=>?_,?_,?_,?_,?_⟩
 ·obtain⟨p,_,rfl⟩:=List.mem_map.1 hc;exact⟨p.1,V.enc p.2,rfl⟩
 ·rw [e];exact a1
 ·rw [e]
  intro x hx
  have:=a2 x hx
  have h2:IntKind.i64.min<=x/\x<=IntKind.i64.max:=this
  simpa [Lit.wf] using h2
 ·exact b4M (a6p (b16 (U.pr (.int .i64) V).enc l) (a8L (α:=(U.pr (.int .i64) V).den) (fun p=>p.1) l h))
 ·exact a6p (b16 (U.pr (.int .i64) V).enc l) (a8L (α:=(U.pr (.int .i64) V).den) (fun p=>p.1) l h)
theorem c51 (V:U) (l:List (U.str.den × V.den)) (h:b15 (l.map (·.1))=true):c5M (l.map (U.pr .str V).enc):=by
 obtain⟨a1,a2,_⟩:=of_decide_eq_true h
 have e:(l.map (U.pr .str V).enc).map c2R=l.map (·.1):=b6e (f:=(U.pr .str V).enc) (fun _=>rfl) l
 refine⟨fun c hc=>?_,?_,?_,?_,?_⟩
 ·obtain⟨p,_,rfl⟩:=List.mem_map.1 hc;exact⟨p.1,V.enc p.2,rfl⟩
 ·rw [e];exact a1
 ·rw [e]
  intro x hx
  exact Nat.le_trans (a2 x hx) (by simp only [maxLen];omega)
 ·exact b3i (a6p (b16 (U.pr .str V).enc l) (a8M (α:=(U.pr .str V).den) (fun p=>p.1) l h))
 ·exact a6p (b16 (U.pr .str V).enc l) (a8M (α:=(U.pr .str V).den) (fun p=>p.1) l h)
theorem c52 (V:U) (l:List ((U.int .i64).den × V.den)):sortI (l.map (U.pr (.int .i64) V).enc)=(a4b (l.map (·.1))).map (U.int .i64).enc:=by
 have e:(l.map (U.pr (.int .i64) V).enc).map c2Q=l.map (·.1):=b6e (f:=(U.pr (.int .i64) V).enc) (fun _=>rfl) l
 unfold sortI
 rw [e]
 exact congrArg (List.map fun x:Int=>[DV.v (.int .i64 x)]) (b4K (l.map fun p=>p.1))
theorem c53 (V:U) (l:List (U.str.den × V.den)):sortS (l.map (U.pr .str V).enc)=(b1Y (l.map (·.1))).map U.str.enc:=by
 have e:(l.map (U.pr .str V).enc).map c2R=l.map (·.1):=b6e (f:=(U.pr .str V).enc) (fun _=>rfl) l
 unfold sortS
 rw [e]
 exact congrArg (List.map fun x:List UInt8=>[DV.v (c1o x)]) (b4L (l.map fun p=>p.1))
def c77 (sp:Sp) (o:Oper) (c:Call):TQ (List a0l):=(c5Q c.args.toList).bind fun xs=>match sp with
 | .none=> .fail
 | .keys f1=>b9w f1 o xs
 | .sortI f1 e=>b6d (.int .i64) f1 e a5e a4b o xs
 | .sortS f1 e=>b6d .str f1 e b15 b1Y o xs
theorem b17 (sp:Sp) (o:Oper) (c:Call):Sim US (c77 sp o c) (spQ sp o c):=by
 refine Sim.bind (a9c _) fun xs=>?_
 cases sp with
 | none=>exact Sim.fail
 | keys f1=>exact b7n f1 o xs
 | sortI f1 e=>exact b06 rfl c50 c52 o xs
 | sortS f1 e=>exact b06 rfl c51 c53 o xs
def a5R (T:TypeId->Option TI) (TU:TypeId->Option U) (Γ:List (Nat × TFn)) (o:Oper) (c:Call):TQ (List a0l):=match c.callee with
 | .value x=>(tev x).bind fun v=>(c76 v).bind fun f=>(c5Q c.args.toList).bind fun xs=> .req (Nat.blt f.1 1000000) (match b9u Γ (f.1 + a9f xs * 1000000) with
  | some S=>match S.sp with
   | .none=> .req (S.args.ok && S.res.ok) (c37 S o c f.2)
   | sp=>match f.2 with
    | []=>c77 sp o c
    | _=> .fail
  | none=> .fail)
 | .builtin b=>b9s T TU b o c
 | _=> .fail
def b9x (Γ:List (Nat × TFn)):List (Nat × a6y):=Γ.map fun p=>(p.1,p.2.spec)
theorem b07:∀ (Γ:List (Nat × TFn)) (f:Nat),a0x (b9x Γ) f=(b9u Γ f).map TFn.spec
 | [],_=>rfl
 | p :: Γ,f=>by
  show(if f=p.1 then some p.2.spec else a0x (b9x Γ) f)=(match Nat.beq f p.1 with | true=>some p.2 | false=>b9u Γ f).map TFn.spec
  cases hb:Nat.beq f p.1 with
  | true=>rw [if_pos (Nat.eq_of_beq_eq_true hb)];rfl
  | false=>rw [if_neg (fun e=>by rw [e,Nat.beq_refl] at hb;cases hb),b07 Γ f]
theorem a8k (T:TypeId->Option TI) (TU:TypeId->Option U) (Γ:List (Nat × TFn)) (o:Oper) (c:Call):Sim US (a5R T TU Γ o c) (b5M T (b9x Γ) o c):=by
 unfold a5R b5M
 split
 ·rename_i x hc
  rw [hc]
  simp only
  refine Sim.bind (D9 x) fun v=>Sim.bind (c1U v) fun f=>Sim.bind (a9c _) fun xs=>?_
  simp only [id]
  rw [b07,b04]
  refine Sim.req (fun h=>Nat.le_of_ble_eq_true h) fun _=>?_
  cases b9u Γ (f.1 + a9f xs * 1000000) with
  | none=>exact Sim.fail
  | some S=>
   show Sim US (match S.sp with | .none=> .req (S.args.ok && S.res.ok) (c37 S o c f.2) | sp=>match f.2 with | []=>c77 sp o c | _=> .fail) (match S.sp with | .none=>b8E S.spec o c (f.2.map TV.av) | sp=>match f.2.map TV.av with | []=>spQ sp o c | _=> .fail)
   obtain⟨f0,ex⟩:=f
   cases S.sp with
   | none=>
    refine Sim.chk fun h=>?_
    rw [Bool.and_eq_true] at h
    exact b9r S h.1 h.2 o c ex
   | keys f1=>cases ex <;> first | exact b17 _ o c | exact Sim.fail
   | sortI f1 e=>cases ex <;> first | exact b17 _ o c | exact Sim.fail
   | sortS f1 e=>cases ex <;> first | exact b17 _ o c | exact Sim.fail
 ·rename_i b hc
  rw [hc]
  exact b7m T TU b o c
 ·exact Sim.fail
end Go.Proofs.YtacnfjjkhpkloaaGreat.Am
namespace Go.Proofs.YtacnfjjkhpkloaaGreat.Am
open Go
inductive Sh where
 | d (u:U)
 | nil
 | fn (f:FuncId)
 | npt
 | clo (f:FuncId) (u:U)
 | e (u:U)
 | row (j:Nat)
 | ptr (j off:Nat)
inductive SSh where
 | one (s:Sh)
 | agg (ss:List Sh)
def SSh.list:SSh->List Sh
 | .one s=>[s]
 | .agg ss=>ss
def a7b:List Sh->Type
 | []=>Unit
 | .d u :: r=>u.den × a7b r
 | .clo _ u :: r=>u.den × a7b r
 | .e u :: r=>u.den × a7b r
 | _ :: r=>a7b r
def a1z:(ss:List Sh)->a7b ss->List TC
 | [],_=>[]
 | .d u :: r,x=> .ch u x.1 :: a1z r x.2
 | .nil :: r,x=> .nil :: a1z r x
 | .fn f :: r,x=> .fn f :: a1z r x
 | .npt :: r,x=> .npt :: a1z r x
 | .clo f u :: r,x=> .clo f u x.1 :: a1z r x.2
 | .e u :: r,x=> .ep u x.1 0 :: a1z r x.2
 | .row j :: r,x=> .row j 0 :: a1z r x
 | .ptr j off :: r,x=> .ptr j 0 off :: a1z r x
def shr:Nat->Nat->List TC->List TC
 | 0,_,ps=>ps
 | f + 1,z,ps=>match a9K ps with
  | some c=>match Nat.blt z c.1.1.size with
   | true=>shr f z (a5Q c.1.1 c.1.2 ++ c.2)
   | false=>ps
  | none=>ps
theorem a91:∀ {f z:Nat} {ps:List TC},B6 (shr f z ps)=B6 ps
 | 0,_,_=>rfl
 | f + 1,z,ps=>by
  unfold shr
  split
  ·rename_i c hc
   split
   ·rw [a91,a0T,a3D,a8g hc];rfl
   ·rfl
  ·rfl
def b4N (u:U):List TC->Option (u.den × List TC)
 | .ch v x :: rest=>match decEq v u with
  | .isTrue h=>some (a4H h x,rest)
  | .isFalse _=>none
 | _=>none
def c38 (u:U):List TC->Option (List u.den × List TC)
 | .ch (.sl v) x :: rest=>match decEq v u with
  | .isTrue h=>some ((h ▸ x:List u.den),rest)
  | .isFalse _=>none
 | .nil :: rest=>some ([],rest)
 | _=>none
def c39 {α:Type} (p:List TC->Option (α × List TC)):(n:Nat)->List TC->Option (Vector α n × List TC)
 | 0,ps=>some (#v[],ps)
 | n + 1,ps=>(c39 p n ps).bind fun a=>(p a.2).map fun b=>(a.1.push b.1,b.2)
def a92:(u:U)->List TC->Option (u.den × List TC)
 | .sl u,ps=>c38 u ps
 | .pr a b,ps=>match a9K (shr FU (U.pr a b).size ps) with
  | some c=>match decEq c.1.1 (.pr a b) with
   | .isTrue h=>some (a4H h c.1.2,c.2)
   | .isFalse _=>(a92 a ps).bind fun p=>(a92 b p.2).map fun q=>((p.1,q.1),q.2)
  | none=>(a92 a ps).bind fun p=>(a92 b p.2).map fun q=>((p.1,q.1),q.2)
 | .arr n u,ps=>match b4N (.arr n u) (shr FU (U.arr n u).size ps) with
  | some q=>some q
  | none=>c39 (a92 u) n ps
 | .int k,ps=>b4N (.int k) (shr FU 1 ps)
 | .byte,ps=>b4N .byte (shr FU 1 ps)
 | .bool,ps=>b4N .bool (shr FU 1 ps)
 | .str,ps=>b4N .str (shr FU 1 ps)
def DLe (xs ys:List AC):Prop:=∀ s b r,a8T s b r xs ys
theorem a93 {s:St} {b:List (Nat × Nat × List AC)} {r:List (Nat × Option Nat × Row)}:∀ {xs ys us vs:List AC},a8T s b r xs ys->a8T s b r us vs->a8T s b r (xs ++ us) (ys ++ vs)
 | [],[],_,_,_,h=>h
 | _x :: _xs,_y :: _ys,_,_,h,k=>⟨h.1,a93 h.2 k⟩
theorem DLe.app {xs ys us vs:List AC} (h:DLe xs ys) (k:DLe us vs):DLe (xs ++ us) (ys ++ vs):=fun s b r=>a93 (h s b r) (k s b r)
theorem DLe.refl:∀ (ds:List DV),DLe (ds.map .d) (ds.map .d)
 | []=>fun _ _ _=>trivial
 | _d :: ds=>fun s b r=>⟨rfl,DLe.refl ds s b r⟩
theorem a7N {u:U} {ps:List TC} {p:u.den × List TC} (h:b4N u ps=some p):∃ pre,B6 ps=pre ++ B6 p.2/\DLe pre ((u.enc p.1).map .d):=by
 unfold b4N at h
 split at h
 ·split at h
  ·rename_i e _
   injection h with h
   subst h
   refine⟨_,rfl,?_⟩
   rw [a6i]
   exact DLe.refl _
  ·cases h
 ·cases h
theorem c1X {u:U} {ps:List TC} {p:List u.den × List TC} (h:c38 u ps=some p):∃ pre,B6 ps=pre ++ B6 p.2/\DLe pre [.d (.sl (p.1.map u.enc))]:=by
 unfold c38 at h
 split at h
 ·split at h
  ·rename_i e _
   subst e
   injection h with h
   subst h
   exact⟨_,rfl,fun s b r=>⟨rfl,trivial⟩⟩
  ·cases h
 ·injection h with h
  subst h
  exact⟨[.nil],rfl,fun s b r=>⟨rfl,trivial⟩⟩
 ·cases h
theorem b6f {α:Type} {f:α->List DV} {p:List TC->Option (α × List TC)} (hp:∀ {ps q},p ps=some q->∃ pre,B6 ps=pre ++ B6 q.2/\DLe pre ((f q.1).map .d)):∀ (n:Nat) {ps:List TC} {q:Vector α n × List TC},c39 p n ps=some q->∃ pre,B6 ps=pre ++ B6 q.2/\DLe pre ((q.1.toList.flatMap f).map .d)
 | 0,ps,q,h=>by
  injection h with h;subst h
  exact⟨[],rfl,fun _ _ _=>trivial⟩
 | n + 1,ps,q,h=>by
  obtain⟨a,h1,h2⟩:=Option.bind_eq_some_iff.1 h
  obtain⟨b,h3,rfl⟩:=Option.map_eq_some_iff.1 h2
  obtain⟨pre1,e1,d1⟩:=b6f hp n h1
  obtain⟨pre2,e2,d2⟩:=hp h3
  refine⟨pre1 ++ pre2,by rw [e1,e2,List.append_assoc],?_⟩
  simp only [Vector.toList_push,List.flatMap_append,List.flatMap_cons,List.flatMap_nil,List.append_nil,List.map_append]
  exact d1.app d2
theorem a9i:∀ {u:U} {ps:List TC} {p:u.den × List TC},a92 u ps=some p->∃ pre,B6 ps=pre ++ B6 p.2/\DLe pre ((u.enc p.1).map .d)
 | .sl u,ps,p,h=>c1X h
 | .arr n u,ps,p,h=>by
  unfold a92 at h
  split at h
  ·rename_i q hq
   injection h with h;subst h
   rw [<-a91 (f:=FU) (z:=(U.arr n u).size)];exact a7N hq
  ·exact b6f a9i n h
 | .int k,ps,p,h=>by rw [<-a91 (f:=FU) (z:=1)];exact a7N h
 | .byte,ps,p,h=>by rw [<-a91 (f:=FU) (z:=1)];exact a7N h
 | .bool,ps,p,h=>by rw [<-a91 (f:=FU) (z:=1)];exact a7N h
 | .str,ps,p,h=>by rw [<-a91 (f:=FU) (z:=1)];exact a7N h
 | .pr a b,ps,p,h=>by
  have two:((a92 a ps).bind fun p=>(a92 b p.2).map fun q=>(((p.1,q.1),q.2):(a.den × b.den) × List TC))=some p->∃ pre,B6 ps=pre ++ B6 p.2/\DLe pre (((U.pr a b).enc p.1).map .d):=fun h=>by
   obtain⟨q,h1,h2⟩:=Option.bind_eq_some_iff.1 h
   obtain⟨q2,h3,rfl⟩:=Option.map_eq_some_iff.1 h2
   obtain⟨pre1,e1,d1⟩:=a9i h1
   obtain⟨pre2,e2,d2⟩:=a9i h3
   refine⟨pre1 ++ pre2,by rw [e1,e2,List.append_assoc],?_⟩
   show DLe _ ((a.enc q.1 ++ b.enc q2.1).map .d)
   rw [List.map_append]
   exact d1.app d2
  unfold a92 at h
  split at h
  ·rename_i c hc
   split at h
   ·rename_i e _
    injection h with h
    subst h
    have:=congrArg B6 (a8g hc)
    rw [a91] at this
    refine⟨_,this,?_⟩
    rw [a6i]
    exact DLe.refl _
   ·exact two h
  ·exact two h
structure Rd (α:Type) where
 x:α
 rr:List (Nat × Option Nat)
 br:List (Nat × Nat)
def fit:(ss:List Sh)->TSt->List TC->Option (Rd (a7b ss))
 | [],_,ps=>match ps with
  | []=>some ⟨(),[],[]⟩
  | _=>none
 | .d u :: r,s,ps=>(a92 u ps).bind fun p=>(fit r s p.2).map fun q=>⟨(p.1,q.x),q.rr,q.br⟩
 | .fn f :: r,s,ps=>match ps with
  | .fn g :: rest=>match decEq g f with
   | .isTrue _=>fit r s rest
   | .isFalse _=>none
  | _=>none
 | .npt :: r,s,ps=>match ps with
  | .npt :: rest=>fit r s rest
  | _=>none
 | .clo f u :: r,s,ps=>match ps with
  | .clo g v x :: rest=>match decEq g f with
   | .isTrue _=>match decEq v u with
    | .isTrue h=>(fit r s rest).map fun q=>⟨(a4H h x,q.x),q.rr,q.br⟩
    | .isFalse _=>none
   | .isFalse _=>none
  | _=>none
 | .e u :: r,s,ps=>match ps with
  | .ep v x off :: rest=>match decEq v u with
   | .isTrue h=>match Nat.beq off 0 with
    | true=>(fit r s rest).map fun q=>⟨(a4H h x,q.x),q.rr,q.br⟩
    | false=>none
   | .isFalse _=>none
  | _=>none
 | .nil :: r,s,ps=>match ps with
  | .nil :: rest=>fit r s rest
  | _=>none
 | .row j :: r,s,ps=>match ps with
  | .nil :: rest=>(fit r s rest).map fun q=>⟨q.x,(j,none) :: q.rr,q.br⟩
  | .row id ver :: rest=>match Nat.beq ver (s.r id).ver with
   | true=>(fit r s rest).map fun q=>⟨q.x,(j,some id) :: q.rr,q.br⟩
   | false=>none
  | _=>none
 | .ptr j off :: r,s,ps=>match ps with
  | .ptr id ver off' :: rest=>match Nat.beq ver (s.b id).ver && Nat.beq off' off with
   | true=>(fit r s rest).map fun q=>⟨q.x,q.rr,(j,id) :: q.br⟩
   | false=>none
  | _=>none
def a7c (b:List (Nat × Nat × List AC)) (r:List (Nat × Option Nat × Row)) (rr:List (Nat × Option Nat)) (br:List (Nat × Nat)):Prop:=
 (∀ p ∈ rr,(a0x r p.1).map (·.1)=some p.2)/\(∀ p ∈ br,(a0x b p.1).map (·.1)=some p.2)
theorem a7c.rr_tail {b:List (Nat × Nat × List AC)} {r:List (Nat × Option Nat × Row)} {p:Nat × Option Nat} {rr:List (Nat × Option Nat)} {br:List (Nat × Nat)} (h:a7c b r (p :: rr) br):(a0x r p.1).map (·.1)=some p.2/\a7c b r rr br:=
 ⟨h.1 p (by simp),fun q hq=>h.1 q (by simp [hq]),h.2⟩
theorem a7c.br_tail {b:List (Nat × Nat × List AC)} {r:List (Nat × Option Nat × Row)} {p:Nat × Nat} {rr:List (Nat × Option Nat)} {br:List (Nat × Nat)} (h:a7c b r rr (p :: br)):(a0x b p.1).map (·.1)=some p.2/\a7c b r rr br:=
 ⟨h.2 p (by simp),h.1,fun q hq=>h.2 q (by simp [hq])⟩
theorem a5v {b:List (Nat × Nat × List AC)} {r:List (Nat × Option Nat × Row)} {s:TSt}:∀ {ss:List Sh} {ps:List TC} {q:Rd (a7b ss)},fit ss s ps=some q->a7c b r q.rr q.br->a8T s.st b r (B6 ps) (B6 (a1z ss q.x))
 | [],[],q,h,_=>trivial
 | [],_ :: _,q,h,_=>by cases h
 | .d u :: ss,ps,q,h,hr=>by
  obtain⟨p,h1,h2⟩:=Option.bind_eq_some_iff.1 h
  obtain⟨q2,h3,rfl⟩:=Option.map_eq_some_iff.1 h2
  obtain⟨pre,e,d⟩:=a9i h1
  rw [e]
  exact a93 (d _ _ _) (a5v (q:=q2) h3 hr)
 | .fn f :: ss,ps,q,h,hr=>by
  unfold fit at h
  split at h
  ·split at h
   ·rename_i e _;subst e
    exact⟨rfl,a5v (ss:=ss) (q:=q) h hr⟩
   ·cases h
  ·cases h
 | .clo f u :: ss,ps,q,h,hr=>by
  unfold fit at h
  split at h
  ·split at h
   ·rename_i e1 _;subst e1
    split at h
    ·rename_i e2 _;subst e2
     obtain⟨q2,h2,rfl⟩:=Option.map_eq_some_iff.1 h
     exact⟨rfl,a5v (ss:=ss) (q:=q2) h2 hr⟩
    ·cases h
   ·cases h
  ·cases h
 | .e u :: ss,ps,q,h,hr=>by
  unfold fit at h
  split at h
  ·split at h
   ·rename_i e2 _;subst e2
    split at h
    ·rename_i h0
     obtain⟨q2,h2,rfl⟩:=Option.map_eq_some_iff.1 h
     rw [Nat.eq_of_beq_eq_true h0]
     exact⟨rfl,a5v (ss:=ss) (q:=q2) h2 hr⟩
    ·cases h
   ·cases h
  ·cases h
 | .npt :: ss,ps,q,h,hr=>by
  match ps,h with
  | .npt :: rest,h=>exact⟨rfl,a5v (ss:=ss) (q:=q) h hr⟩
 | .nil :: ss,ps,q,h,hr=>by
  match ps,h with
  | .nil :: rest,h=>exact⟨trivial,a5v (ss:=ss) (q:=q) h hr⟩
 | .row j :: ss,ps,q,h,hr=>by
  unfold fit at h
  split at h
  ·obtain⟨q2,h2,rfl⟩:=Option.map_eq_some_iff.1 h
   obtain⟨a1,a2⟩:=hr.rr_tail
   exact⟨⟨rfl,a1⟩,a5v (ss:=ss) (q:=q2) h2 a2⟩
  ·rename_i id ver rest
   split at h
   ·rename_i hv
    obtain⟨q2,h2,rfl⟩:=Option.map_eq_some_iff.1 h
    obtain⟨a1,a2⟩:=hr.rr_tail
    exact⟨⟨Nat.eq_of_beq_eq_true hv,rfl,a1⟩,a5v (ss:=ss) (q:=q2) h2 a2⟩
   ·cases h
  ·cases h
 | .ptr j off :: ss,ps,q,h,hr=>by
  unfold fit at h
  split at h
  ·rename_i id ver off' rest
   split at h
   ·rename_i hv
    rw [Bool.and_eq_true] at hv
    obtain⟨q2,h2,rfl⟩:=Option.map_eq_some_iff.1 h
    obtain⟨a1,a2⟩:=hr.br_tail
    exact⟨⟨Nat.eq_of_beq_eq_true hv.1,rfl,Nat.eq_of_beq_eq_true hv.2,a1⟩,a5v (ss:=ss) (q:=q2) h2 a2⟩
   ·cases h
  ·cases h
structure Lay where
 n:Nat
 t:List (Nat × SSh)
 b:List (Nat × List Sh)
 r:List (Nat × U × TypeId × Bool)
def c1Y:List (Nat × SSh)->Type
 | []=>Unit
 | p :: r=>a7b p.2.list × c1Y r
def c26:List (Nat × List Sh)->Type
 | []=>Unit
 | p :: r=>a7b p.2 × c26 r
def c27:List (Nat × U × TypeId × Bool)->Type
 | []=>Unit
 | p :: r=>List p.2.1.den × c27 r
def Lay.den (L:Lay):Type:=c1Y L.t × c26 L.b × c27 L.r
def c78:(p:SSh)->a7b p.list->TV
 | .one s,x=>match a1z [s] x with
  | [c]=> .o (.c c)
  | _=> .any
 | .agg ss,x=> .o (.agg (a1z ss x))
def c4a:(l:List (Nat × SSh))->c1Y l->List (Nat × TV)
 | [],_=>[]
 | p :: r,x=>(p.1,c78 p.2 x.1) :: c4a r x.2
def c1Z:(l:List (Nat × List Sh))->c26 l->List (Nat × List TC)
 | [],_=>[]
 | p :: r,x=>(p.1,a1z p.2 x.1) :: c1Z r x.2
def b9y:(l:List (Nat × U × TypeId × Bool))->c27 l->List (Nat × a8U)
 | [],_=>[]
 | p :: r,x=>(p.1,⟨p.2.1,x.1,p.2.2.1,p.2.2.2⟩) :: b9y r x.2
def Lay.st (L:Lay) (x:L.den):TSt:=⟨L.n,fun k=>⟨decide (k < L.n),(a0x (c4a L.t x.1) k).getD .any⟩,fun k=>⟨0,a0x (c1Z L.b x.2.1) k⟩,fun k=>⟨0,a0x (b9y L.r x.2.2) k⟩⟩
def c4b:(p:SSh)->TSt->TV->Option (Rd (a7b p.list))
 | .one s',s,v=>match v with
  | .o (.c c)=>match is1 c with
   | true=>fit [s'] s [c]
   | false=>none
  | _=>none
 | .agg ss,s,v=>match v with
  | .o (.agg ps)=>fit ss s ps
  | _=>none
theorem c15 {b:List (Nat × Nat × List AC)} {r:List (Nat × Option Nat × Row)} {s:TSt} {p:SSh} {v:TV} {q:Rd (a7b p.list)} (h:c4b p s v=some q) (hr:a7c b r q.rr q.br):c5z s.st b r v.av (c78 p q.x).av:=by
 cases p with
 | one s'=>
  unfold c4b at h
  simp only at h
  split at h
  ·rename_i c
   split at h
   ·rename_i hc
    have h1:=a5v h hr
    have e0:B6 [c]=[a1U c.cells]:=(List.append_nil _).trans (a8H hc)
    rw [e0] at h1
    unfold c78
    simp only
    split
    ·rename_i c' hc'
     rw [hc'] at h1
     show c5y s.st b r (a1U c.cells) (a1U c'.cells)
     have h1:a8T s.st b r [a1U c.cells] (c'.cells ++ []):=h1
     rw [List.append_nil] at h1
     match hl:c'.cells,h1 with
     | [y],h1=>exact h1.1
    ·cases hx:(TV.o (T1.c c)).av <;> trivial
   ·cases h
  ·cases h
 | agg ss=>
  match v,h with
  | .o (.agg ps),h=>exact a5v (ss:=ss) (q:=q) h hr
def a7O (s:TSt):(l:List (Nat × SSh))->Option (Rd (c1Y l))
 | []=>some ⟨(),[],[]⟩
 | p :: r=>match Nat.ble s.n p.1 || (s.t p.1).g with
  | true=>(c4b p.2 s (s.t p.1).x).bind fun q=>(a7O s r).map fun q2=>⟨(q.x,q2.x),q.rr ++ q2.rr,q.br ++ q2.br⟩
  | false=>none
def tA (l:List (Nat × SSh)) (x:c1Y l):List (Nat × AV):=(c4a l x).map fun p=>(p.1,p.2.av)
theorem a7c.split {b:List (Nat × Nat × List AC)} {r:List (Nat × Option Nat × Row)} {rr rr2:List (Nat × Option Nat)} {br br2:List (Nat × Nat)} (h:a7c b r (rr ++ rr2) (br ++ br2)):a7c b r rr br/\a7c b r rr2 br2:=
 ⟨⟨fun p hp=>h.1 p (by simp [hp]),fun p hp=>h.2 p (by simp [hp])⟩,⟨fun p hp=>h.1 p (by simp [hp]),fun p hp=>h.2 p (by simp [hp])⟩⟩
theorem a8N {b:List (Nat × Nat × List AC)} {r:List (Nat × Option Nat × Row)} {s:TSt}:∀ {l:List (Nat × SSh)} {q:Rd (c1Y l)},a7O s l=some q->a7c b r q.rr q.br->a5N s.st b r (tA l q.x)
 | [],_,_,_=>trivial
 | p :: l,q,h,hr=>by
  unfold a7O at h
  split at h
  ·rename_i hg
   obtain⟨q1,h1,h2⟩:=Option.bind_eq_some_iff.1 h
   obtain⟨q2,h3,rfl⟩:=Option.map_eq_some_iff.1 h2
   obtain⟨r1,r2⟩:=hr.split
   refine⟨⟨fun hlt=>?_,c15 h1 r1⟩,a8N (q:=q2) h3 r2⟩
   rw [Bool.or_eq_true] at hg
   rcases hg with hg | hg
   ·have:=Nat.le_of_ble_eq_true hg
    have:p.1 < s.n:=hlt
    omega
   ·exact hg
  ·cases h
structure RdB (α:Type) where
 x:α
 rr:List (Nat × Option Nat)
 br:List (Nat × Nat)
 L:List (Nat × Nat × List AC)
def a7P (s:TSt):List (Nat × Nat)->(l:List (Nat × List Sh))->Option (RdB (c26 l))
 | _,[]=>some ⟨(),[],[],[]⟩
 | br,p :: r=>match a0x br p.1 with
  | none=>none
  | some id=>match(s.b id).c with
   | none=>none
   | some ps=>(fit p.2 s ps).bind fun q=>(a7P s (br ++ q.br) r).map fun q2=>⟨(q.x,q2.x),q.rr ++ q2.rr,q.br ++ q2.br,(p.1,id,B6 (a1z p.2 q.x)) :: q2.L⟩
theorem a8O {b:List (Nat × Nat × List AC)} {r:List (Nat × Option Nat × Row)} {s:TSt}:∀ {l:List (Nat × List Sh)} {br:List (Nat × Nat)} {q:RdB (c26 l)},a7P s br l=some q->a7c b r q.rr q.br->a6Z s.st b r q.L/\∀ k,(a0x q.L k).map (·.2)=(a0x (c1Z l q.x) k).map B6
 | [],_,q,h,_=>by injection h with h;subst h;exact⟨trivial,fun _=>rfl⟩
 | p :: l,br,q,h,hr=>by
  unfold a7P at h
  split at h
  ·cases h
  ·rename_i id hid
   split at h
   ·cases h
   ·rename_i ps hps
    obtain⟨q1,h1,h2⟩:=Option.bind_eq_some_iff.1 h
    obtain⟨q2,h3,rfl⟩:=Option.map_eq_some_iff.1 h2
    obtain⟨r1,r2⟩:=hr.split
    obtain⟨k1,k2⟩:=a8O (q:=q2) h3 r2
    refine⟨⟨?_,k1⟩,fun k=>?_⟩
    ·have hc:(s.st.b id).c=some (B6 ps):=by show(s.b id).c.map B6=_;rw [hps];rfl
     unfold c3B
     rw [hc]
     exact a5v h1 r1
    ·show(a0x ((p.1,id,B6 (a1z p.2 q1.x)) :: q2.L) k).map (·.2)=(a0x ((p.1,a1z p.2 q1.x) :: c1Z l q2.x) k).map B6
     simp only [a0x]
     split
     ·rfl
     ·exact k2 k
structure RdR (α:Type) where
 x:α
 L:List (Nat × Option Nat × Row)
def a7Q (s:TSt) (rr:List (Nat × Option Nat)):(l:List (Nat × U × TypeId × Bool))->Option (RdR (c27 l))
 | []=>some ⟨(),[]⟩
 | p :: r=>match a0x rr p.1 with
  | none=>none
  | some none=>match Nat.blt 0 p.2.1.size && Nat.blt p.2.2.1 a0S with
   | true=>(a7Q s rr r).map fun q2=>⟨(([]:List p.2.1.den),q2.x),(p.1,none,(⟨p.2.1,[],p.2.2.1,p.2.2.2⟩:a8U).row) :: q2.L⟩
   | false=>none
  | some (some id)=>match(s.r id).c with
   | none=>none
   | some R=>match decEq R.u p.2.1 with
    | .isTrue h=>match Nat.beq R.e p.2.2.1 && (!R.fr || p.2.2.2) with
     | true=>(a7Q s rr r).map fun q2=>⟨((h ▸ R.l:List p.2.1.den),q2.x),(p.1,some id,(⟨p.2.1,(h ▸ R.l:List p.2.1.den),p.2.2.1,p.2.2.2⟩:a8U).row) :: q2.L⟩
     | false=>none
    | .isFalse _=>none
theorem row_cast {R:a8U} {u:U} (h:R.u=u) (e:TypeId) (fr:Bool):(⟨u,(h ▸ R.l:List u.den),e,fr⟩:a8U).row.es=R.row.es/\(⟨u,(h ▸ R.l:List u.den),e,fr⟩:a8U).row.sz=R.row.sz:=by
 subst h;exact⟨rfl,rfl⟩
theorem a7d {s:TSt} {rr:List (Nat × Option Nat)}:∀ {l:List (Nat × U × TypeId × Bool)} {q:RdR (c27 l)},a7Q s rr l=some q->rowsLe s.st q.L/\∀ k,(a0x q.L k).map (·.2)=(a0x (b9y l q.x) k).map a8U.row
 | [],q,h=>by injection h with h;subst h;exact⟨trivial,fun _=>rfl⟩
 | p :: l,q,h=>by
  unfold a7Q at h
  split at h
  ·cases h
  ·split at h
   ·rename_i hz
    obtain⟨q2,h3,rfl⟩:=Option.map_eq_some_iff.1 h
    obtain⟨k1,k2⟩:=a7d (q:=q2) h3
    rw [Bool.and_eq_true] at hz
    refine⟨⟨⟨rfl,Nat.le_of_ble_eq_true hz.1,Nat.le_of_ble_eq_true hz.2⟩,k1⟩,fun k=>?_⟩
    show(a0x ((p.1,none,(⟨p.2.1,[],p.2.2.1,p.2.2.2⟩:a8U).row) :: q2.L) k).map (·.2)=(a0x ((p.1,(⟨p.2.1,[],p.2.2.1,p.2.2.2⟩:a8U)) :: b9y l q2.x) k).map a8U.row
    simp only [a0x]
    split
    ·rfl
    ·exact k2 k
   ·cases h
  ·rename_i id hid
   split at h
   ·cases h
   ·rename_i R hR
    split at h
    ·rename_i hu _
     split at h
     ·rename_i hc
      rw [Bool.and_eq_true] at hc
      obtain⟨q2,h3,rfl⟩:=Option.map_eq_some_iff.1 h
      obtain⟨k1,k2⟩:=a7d (q:=q2) h3
      obtain⟨c1,c2⟩:=row_cast hu p.2.2.1 p.2.2.2
      refine⟨⟨?_,k1⟩,fun k=>?_⟩
      ·have hcr:(s.st.r id).c=some R.row:=by show(s.r id).c.map a8U.row=_;rw [hR];rfl
       unfold rowSrc
       simp only
       rw [hcr]
       refine⟨c1.symm,c2.symm,Nat.eq_of_beq_eq_true hc.1,fun hf=>?_⟩
       have hf:R.fr=true:=hf
       have h2:=hc.2
       rw [hf] at h2
       exact h2
      ·show(a0x ((p.1,some id,(⟨p.2.1,(hu ▸ R.l:List p.2.1.den),p.2.2.1,p.2.2.2⟩:a8U).row) :: q2.L) k).map (·.2)=(a0x ((p.1,(⟨p.2.1,(hu ▸ R.l:List p.2.1.den),p.2.2.1,p.2.2.2⟩:a8U)) :: b9y l q2.x) k).map a8U.row
       simp only [a0x]
       split
       ·rfl
       ·exact k2 k
     ·cases h
    ·cases h
def c16 (x:Nat):List Nat->Bool
 | []=>false
 | y :: r=>Nat.beq x y || c16 x r
def b3j:List Nat->Bool
 | []=>true
 | x :: r=> !c16 x r && b3j r
theorem b6g {x:Nat}:∀ {l:List Nat},c16 x l=false->x ∉ l
 | [],_,h=>by simp at h
 | y :: r,h,hm=>by
  simp only [c16,Bool.or_eq_false_iff] at h
  rcases List.mem_cons.1 hm with e | hm
  ·subst e
   have:=h.1
   simp at this
  ·exact b6g h.2 hm
theorem a94:∀ {l:List Nat},b3j l=true->l.Nodup
 | [],_=>List.nodup_nil
 | x :: r,h=>by
  simp only [b3j,Bool.and_eq_true,Bool.not_eq_true'] at h
  exact List.nodup_cons.2 ⟨b6g h.1,a94 h.2⟩
def b4O (rL:List (Nat × Option Nat × Row)) (p:Nat × Option Nat):Bool:=match a0x rL p.1,p.2 with
 | some q,some id=>match q.1 with
  | some id'=>Nat.beq id' id
  | none=>false
 | some q,none=>match q.1 with
  | some _=>false
  | none=>true
 | none,_=>false
def b4P (bL:List (Nat × Nat × List AC)) (p:Nat × Nat):Bool:=match a0x bL p.1 with
 | some q=>Nat.beq q.1 p.2
 | none=>false
theorem b7p {rL:List (Nat × Option Nat × Row)} {p:Nat × Option Nat} (h:b4O rL p=true):(a0x rL p.1).map (·.1)=some p.2:=by
 unfold b4O at h
 split at h
 ·rename_i q id hq hp
  split at h
  ·rename_i id' hi
   rw [hq,hp,Option.map_some,hi,Nat.eq_of_beq_eq_true h]
  ·cases h
 ·rename_i q hq hp
  split at h
  ·cases h
  ·rename_i hi
   rw [hq,hp,Option.map_some,hi]
 ·cases h
theorem b7q {bL:List (Nat × Nat × List AC)} {p:Nat × Nat} (h:b4P bL p=true):(a0x bL p.1).map (·.1)=some p.2:=by
 unfold b4P at h
 split at h
 ·rename_i q hq
  rw [hq,Option.map_some,Nat.eq_of_beq_eq_true h]
 ·cases h
def Lay.read0 (L:Lay) (s:TSt):Option L.den:=match Nat.beq s.n L.n with
 | true=>(a7O s L.t).bind fun a=>(a7P s a.br L.b).bind fun c=>(a7Q s (a.rr ++ c.rr) L.r).bind fun d=>
  match(a.rr ++ c.rr).all (b4O d.L) && (a.br ++ c.br).all (b4P c.L) && b3j (c.L.map (·.2.1)) && b3j (d.L.filterMap (·.2.1)) with
  | true=>some (a.x,c.x,d.x)
  | false=>none
 | false=>none
theorem b9z (l:List (Nat × TV)) (k:Nat):((a0x l k).getD .any).av=(a0x (l.map fun p=>(p.1,p.2.av)) k).getD .any:=by
 rw [<-b5N TV.av]
 cases a0x l k <;> rfl
theorem Lay.read0_le {L:Lay} {s:TSt} {x:L.den} (h:L.read0 s=some x):Le s.st (L.st x).st:=by
 unfold Lay.read0 at h
 split at h
 ·rename_i hn
  obtain⟨a,h1,h2⟩:=Option.bind_eq_some_iff.1 h
  obtain⟨c,h3,h4⟩:=Option.bind_eq_some_iff.1 h2
  obtain⟨d,h5,h6⟩:=Option.bind_eq_some_iff.1 h4
  clear h h2 h4
  split at h6
  ·rename_i hc
   injection h6 with h6
   subst h6
   simp only [Bool.and_eq_true,List.all_eq_true] at hc
   obtain⟨⟨⟨c1,c2⟩,c3⟩,c4⟩:=hc
   have hr:a7c c.L d.L (a.rr ++ c.rr) (a.br ++ c.br):=⟨fun p hp=>b7p (c1 p hp),fun p hp=>b7q (c2 p hp)⟩
   obtain⟨r1,r2⟩:=hr.split
   obtain⟨b1,b2⟩:=a8O h3 r2
   obtain⟨w1,w2⟩:=a7d h5
   have e:(L.st (a.x,c.x,d.x)).st=a47 L.n (tA L.t a.x) c.L d.L:=by
    unfold a47 TSt.st Lay.st
    congr 1
    ·funext k
     exact congrArg (GV.mk _) (b9z _ k)
    ·funext k
     exact congrArg (BS.mk 0) (b2 k).symm
    ·funext k
     exact congrArg (RS.mk 0) (w2 k).symm
   rw [e]
   exact c7P (Nat.eq_of_beq_eq_true hn) (a8N h1 r1) b1 w1 (a94 c3) (a94 c4)
  ·cases h6
 ·cases h
def c7D (p:Nat × SSh) (s:TSt):TSt:=match p.2 with
 | .one (.d (.sl _))=>match(s.t p.1).g,(s.t p.1).x with
  | true,.o (.c (.row id ver))=>match(s.r id).c with
   | some R=>match Nat.beq ver (s.r id).ver && Nat.blt p.1 s.n && Nat.blt R.e a0S with
    | true=>(s.app [.r id ⟨(s.r id).ver,some ⟨R.u,R.l,R.e,true⟩⟩]).app [.t p.1 ⟨true,.o (.c (.ch (.sl R.u) R.l))⟩]
    | false=>s
   | none=>s
  | _,_=>s
 | _=>s
def c79:List (Nat × SSh)->TSt->TSt
 | [],s=>s
 | p :: r,s=>c79 r (c7D p s)
theorem c4c (p:Nat × SSh) (s:TSt):Le s.st (c7D p s).st:=by
 unfold c7D
 split
 ·split
  ·rename_i id ver hg hx
   split
   ·rename_i R hR
    split
    ·rename_i hc
     simp only [Bool.and_eq_true] at hc
     obtain⟨⟨c1,c2⟩,c3⟩:=hc
     have c1:=Nat.eq_of_beq_eq_true c1
     rw [TSt.st_app,TSt.st_app]
     refine c5A (R:=R.row) (Nat.le_of_ble_eq_true c2) (by exact hg) ?_ ?_ (Nat.le_of_ble_eq_true c3)
     ·exact(congrArg TV.av hx).trans (by rw [c1];rfl)
     ·show(s.r id).c.map a8U.row=_
      rw [hR];rfl
    ·exact Le.refl _
   ·exact Le.refl _
  ·exact Le.refl _
 ·exact Le.refl _
theorem b9A:∀ (l:List (Nat × SSh)) (s:TSt),Le s.st (c79 l s).st
 | [],_s=>Le.refl _
 | p :: l,s=>(c4c p s).trans (b9A l (c7D p s))
def Lay.read (L:Lay) (s:TSt):Option L.den:=L.read0 (c79 L.t s)
theorem Lay.read_le {L:Lay} {s:TSt} {x:L.den} (h:L.read s=some x):Le s.st (L.st x).st:=(b9A L.t s).trans (Lay.read0_le h)
end Go.Proofs.YtacnfjjkhpkloaaGreat.Am
namespace Go.Proofs.YtacnfjjkhpkloaaGreat.Am
open Go
def a0l.part:a0l->N7
 | .t k _=> .t k
 | .b k _=> .b k
 | .r k _=> .r k
theorem b6h (us:List a0l):(us.map a0l.upd).map Upd.part=us.map a0l.part:=by
 rw [List.map_map]
 exact List.map_congr_left fun u _=>by cases u <;> rfl
def sel {α:Type} (b:Bool) (x y:α):α:=match b with
 | true=>x
 | false=>y
def a95 (d:Option Nat):List a0l:=match d with
 | some d=>[.t d ⟨false,.any⟩]
 | none=>[]
theorem c17 (d:Option Nat):US (a95 d)=b1o d:=by cases d <;> rfl
section
variable (T:TypeId->Option TI) (TU:TypeId->Option U) (tcq:Oper->Call->TQ (List a0l))
def a3k {R:Type} (draw:Bool) (l:List Oper):List Oper->TSt->List (List N7 × List N7)->(TSt->Option R)->Option R
 | [],s,tr,κ=>match draw with
  | true=>chk (a9A l tr) (κ s)
  | false=>κ s
 | o :: rest,s,tr,κ=>match o.guard with
  | none=>(c44 T TU tcq o).run s [] fun us rs=>a3k draw l rest (s.app us) (tr ++ [(rs,us.map a0l.part)]) κ
  | some (j,want)=>match(l[j]?).bind (·.dst) with
   | none=>none
   | some d=>match(s.t d).g,(s.t d).x with
    | false,_=>a3k draw l rest (s.app (a95 o.dst)) (tr ++ [([.t d],(a95 o.dst).map a0l.part)]) κ
    | true,.o (.c (.ch .bool b))=>sel b
     (match want with
      | true=>(c44 T TU tcq o).run (s.app1 (.t d ⟨true,c1 .bool true⟩)) [.t d] fun us rs=>a3k draw l rest ((s.app1 (.t d ⟨true,c1 .bool true⟩)).app us) (tr ++ [(rs,us.map a0l.part)]) κ
      | false=>a3k draw l rest ((s.app1 (.t d ⟨true,c1 .bool true⟩)).app (a95 o.dst)) (tr ++ [([.t d],(a95 o.dst).map a0l.part)]) κ)
     (match want with
      | false=>(c44 T TU tcq o).run (s.app1 (.t d ⟨true,c1 .bool false⟩)) [.t d] fun us rs=>a3k draw l rest ((s.app1 (.t d ⟨true,c1 .bool false⟩)).app us) (tr ++ [(rs,us.map a0l.part)]) κ
      | true=>a3k draw l rest ((s.app1 (.t d ⟨true,c1 .bool false⟩)).app (a95 o.dst)) (tr ++ [([.t d],(a95 o.dst).map a0l.part)]) κ)
    | _,_=>none
end
theorem b6i {α:Type} {b:Bool} {x y:Option α} {r:α} (h:sel b x y=some r):(b=true/\x=some r)\/(b=false/\y=some r):=by
 cases b
 ·exact .inr ⟨rfl,h⟩
 ·exact .inl ⟨rfl,h⟩
theorem b3k {s:TSt} {d:Nat} {x:TGV} (h:s.t d=x):s.app1 (.t d x)=s:=by
 show(⟨s.n,Am.upd s.t d x,s.b,s.r⟩:TSt)=s
 have:Am.upd s.t d x=s.t:=by
  funext j
  unfold Am.upd
  split
  ·rename_i e;rw [e,h]
  ·rfl
 rw [this]
section
variable {P:Program} {T:TypeId->Option TI} {TU:TypeId->Option U} {cq:Oper->Call->Q (List Upd)} {tcq:Oper->Call->TQ (List a0l)}
theorem a8l {R:Type} (hc:∀ o c,o.op= .call c->Sim US (tcq o c) (cq o c)) {draw:Bool} {l:List Oper} {κ:TSt->Option R} {r:R}:∀ {rest:List Oper} {s:TSt} {tr:List (List N7 × List N7)},a3k T TU tcq draw l rest s tr κ=some r->
  wpD T cq l rest s.st tr fun s' tr'=>(draw=true->a9A l tr'=true)/\∃ ts,s'=ts.st/\κ ts=some r
 | [],s,tr,h=>by
  unfold a3k at h
  cases draw with
  | true=>exact⟨fun _=>(X3 h).1,s,rfl,(X3 h).2⟩
  | false=>exact⟨fun e=>(by cases e),s,rfl,h⟩
 | o :: rest,s,tr,h=>by
  have run:∀ {s:TSt} {t0:List N7},((c44 T TU tcq o).run s t0 fun us rs=>a3k T TU tcq draw l rest (s.app us) (tr ++ [(rs,us.map a0l.part)]) κ)=some r->
    (opQ T cq o).wpt s.st t0 fun us rs=>wpD T cq l rest (s.st.app us) (tr ++ [(rs,us.map Upd.part)]) fun s' tr'=>(draw=true->a9A l tr'=true)/\∃ ts,s'=ts.st/\κ ts=some r:=fun {s t0} h=>by
   have h1:=c1O (T:=T) (TU:=TU) hc o s t0 _ (TQ.run_wpt h)
   refine Q.wpt_mono h1 ?_
   rintro us rs ⟨tus,rfl,h2⟩
   have h3:=a8l hc h2
   rw [TSt.st_app] at h3
   have e:tus.map a0l.part=(US tus).map Upd.part:=(b6h tus).symm
   rw [e] at h3
   exact h3
  have skip:∀ {s:TSt} {t0:List N7},a3k T TU tcq draw l rest (s.app (a95 o.dst)) (tr ++ [(t0,(a95 o.dst).map a0l.part)]) κ=some r->
    wpD T cq l rest (s.st.app (b1o o.dst)) (tr ++ [(t0,(b1o o.dst).map Upd.part)]) fun s' tr'=>(draw=true->a9A l tr'=true)/\∃ ts,s'=ts.st/\κ ts=some r:=fun {s t0} h=>by
   have h3:=a8l hc h
   rw [TSt.st_app] at h3
   have e1:(a95 o.dst).map a0l.upd=b1o o.dst:=c17 o.dst
   have e:(a95 o.dst).map a0l.part=(b1o o.dst).map Upd.part:=by rw [<-b6h,e1]
   rw [e,e1] at h3
   exact h3
  show(opD T cq l o).wpt s.st [] fun us rs=>wpD T cq l rest (s.st.app us) (tr ++ [(rs,us.map Upd.part)]) fun s' tr'=>(draw=true->a9A l tr'=true)/\∃ ts,s'=ts.st/\κ ts=some r
  unfold a3k at h
  unfold opD
  split at h
  ·rename_i hg
   rw [hg]
   exact run h
  ·rename_i j want hg
   rw [hg]
   simp only
   split at h
   ·cases h
   ·rename_i d hd
    rw [hd]
    simp only [Q.wpt]
    have hst:s.st.t d=(s.t d).gv:=rfl
    rw [hst]
    split at h
    ·rename_i hgf
     have e:(s.t d).gv.g=false:=hgf
     rw [e]
     exact skip h
    ·rename_i b hgt hxb
     have e:(s.t d).gv.g=true:=hgt
     have ex:(s.t d).gv.x= .c (.d (.v (.bool b))):=congrArg TV.av hxb
     rw [e]
     simp only
     rw [ex]
     have hsd:s.t d=⟨true,c1 .bool b⟩:=by
      have:s.t d=⟨(s.t d).g,(s.t d).x⟩:=rfl
      rw [this,hgt,hxb];rfl
     rcases b6i h with⟨hb,h⟩ | ⟨hb,h⟩
     ·subst hb
      rw [b3k hsd] at h
      cases want with
      | true=>exact run h
      | false=>exact skip h
     ·subst hb
      rw [b3k hsd] at h
      cases want with
      | true=>exact skip h
      | false=>exact run h
    ·cases h
theorem b08 {l:List Oper} {K:St->Prop}:∀ {rest:List Oper} {s:St} {tr:List (List N7 × List N7)},(wpD T cq l rest s tr fun s' _=>K s')->wpR T cq l rest s K
 | [],_,_,h=>h
 | o :: rest,s,tr,h=>by
  have h:(opD T cq l o).wpt s [] fun us rs=>wpD T cq l rest (s.app us) (tr ++ [(rs,us.map Upd.part)]) fun s' _=>K s':=h
  show(opD T cq l o).wp s fun us=>wpR T cq l rest (s.app us) K
  exact Q.wp_of_wpt (Q.wpt_mono h fun us rs h1=>b08 h1)
theorem b18 {l:List Oper} {K K':St->List (List N7 × List N7)->Prop} (hk:∀ s tr,K s tr->K' s tr):∀ {rest:List Oper} {s:St} {tr:List (List N7 × List N7)},wpD T cq l rest s tr K->wpD T cq l rest s tr K'
 | [],_,_,h=>hk _ _ h
 | o :: rest,s,tr,h=>by
  have h:(opD T cq l o).wpt s [] fun us rs=>wpD T cq l rest (s.app us) (tr ++ [(rs,us.map Upd.part)]) K:=h
  show(opD T cq l o).wpt s [] fun us rs=>wpD T cq l rest (s.app us) (tr ++ [(rs,us.map Upd.part)]) K'
  exact Q.wpt_mono h fun us rs h1=>b18 hk h1
end
def c48 {S R:Type}:Nat->(S->Option (S ⊕ R))->S->Option R
 | 0,_,_=>none
 | n + 1,G,x=>match G x with
  | none=>none
  | some (.inl y)=>c48 n G y
  | some (.inr r)=>some r
theorem b9B:(True/\True)=True:=propext ⟨fun _=>trivial,fun _=>⟨trivial,trivial⟩⟩
def c8a:Nat:= @Eq.rec Prop (True/\True) (fun _ _=>Nat) 1180591620717411303424 True b9B
theorem b9C {p q:Prop} (h:p=q) (n:Nat): @Eq.rec Prop p (fun _ _=>Nat) n q h=n:=by cases h;rfl
theorem c4d:c8a=1180591620717411303424:=b9C b9B _
def Q9 {S R:Type} (G:S->Option (S ⊕ R)) (x:S):Option R:=c48 c8a G x
def c18 {α β:Type} (o:Option α) (f:α->Option β):Option β:=
 let _h:= @Q9 Unit Unit
 match o with
 | none=>none
 | some x=>f x
theorem b6j {α β:Type} (o:Option α) (f:α->Option β):c18 o f=o.bind f:=by cases o <;> rfl
structure Vw (L:Lay) (S:Type) where
 to:L.den->S
 of:S->L.den
 ok:∀ x,of (to x)=x
inductive An:Type->Type 1 where
 | leaf {R:Type}:An R
 | two {R:Type} (a b:An R):An R
 | one {R:Type} (a:An R):An R
 | cut {R S:Type} (L:Lay) (V:Vw L S) (F:S->Option R) (a b:An R):An R
 | loop {R S:Type} (L:Lay) (V:Vw L S) (G:S->Option (S ⊕ R)) (a:An (S ⊕ R)):An R
section
variable (T:TypeId->Option TI) (TU:TypeId->Option U) (tcq:Oper->Call->TQ (List a0l))
def An.fst {R:Type}:An R->An R
 | .two a _=>a
 | .cut _ _ _ a _=>a
 | .one a=>a
 | _=> .leaf
def An.snd {R:Type}:An R->An R
 | .two _ b=>b
 | .cut _ _ _ _ b=>b
 | _=> .leaf
def b9D {R:Type} (id:Nat) (κ:AX->TSt->Option R) (ax:AX) (s:TSt):Option R:=match ax with
 | .normal=>κ .normal s
 | .exit i=>match Nat.beq i id with
  | true=>κ .normal s
  | false=>κ (.exit i) s
 | .ret=>κ .ret s
def c8b {R S:Type} (L:Lay) (V:Vw L S) (F:S->Option R) (κ:AX->TSt->Option R) (ax:AX) (s:TSt):Option R:=match ax with
 | .normal=>c18 (L.read s) fun x=>F (V.to x)
 | .exit i=>κ (.exit i) s
 | .ret=>κ .ret s
def c19 {R:Type} (F:TSt->Option R) (κ:AX->TSt->Option R) (ax:AX) (s:TSt):Option R:=match ax with
 | .normal=>F s
 | .exit i=>κ (.exit i) s
 | .ret=>κ .ret s
def c28 {R S:Type} (L:Lay) (V:Vw L S) (κ:AX->TSt->Option R) (ax:AX) (s:TSt):Option (S ⊕ R):=match ax with
 | .normal=>(L.read s).map fun x=> .inl (V.to x)
 | .exit i=>(κ (.exit i) s).map .inr
 | .ret=>(κ .ret s).map .inr
def An.next {R:Type} (a:An R) (F:TSt->Option R) (κ:AX->TSt->Option R):AX->TSt->Option R:=match a with
 | .cut L V G _ _=>c8b L V G κ
 | _=>c19 F κ
def b3l {R:Type}:An R->Code->TSt->(AX->TSt->Option R)->Option R
 | _,.skip,s,κ=>κ .normal s
 | a,.seq x y,s,κ=>b3l a.fst x s (a.next (fun s'=>b3l a.snd y s' κ) κ)
 | _,.region _ ops draw,s,κ=>chk (ops.toList.all (b2Y s.n)) (a3k T TU tcq draw ops.toList ops.toList s [] fun s'=>κ .normal s')
 | a,.cond c x y,s,κ=>((tev c).bind c1x).run s [] fun b _=>sel b (b3l a.fst x s κ) (b3l a.snd y s κ)
 | a,.block id c,s,κ=>b3l a.fst c s (b9D id κ)
 | a,.loop _,s,_=>match a with
  | .loop L V G _=>c18 (L.read s) fun x=>Q9 G (V.to x)
  | _=>none
 | _,.exit i,s,κ=>κ (.exit i) s
 | _,.ret,s,κ=>κ .ret s
 | _,_,_,_=>none
def An.ok:{R:Type}->An R->Code->(AX->TSt->Option R)->Prop
 | _,.leaf,_,_=>True
 | _,.two a b,.seq x y,κ=>a.ok x (c19 (fun s'=>b3l T TU tcq b y s' κ) κ)/\b.ok y κ
 | _,.cut L V F a b,.seq x y,κ=>a.ok x (c8b L V F κ)/\b.ok y κ/\∀ v,F v=b3l T TU tcq b y (L.st (V.of v)) κ
 | _,.two a b,.cond _ x y,κ=>a.ok x κ/\b.ok y κ
 | _,.one a,.block id c,κ=>a.ok c (b9D id κ)
 | _,.loop L V G a,.loop c,κ=>a.ok c (c28 L V κ)/\∀ v,G v=b3l T TU tcq a c (L.st (V.of v)) (c28 L V κ)
 | _,_,_,_=>False
end
section
variable {P:Program} {T:TypeId->Option TI} {TU:TypeId->Option U} {cq:Oper->Call->Q (List Upd)} {tcq:Oper->Call->TQ (List a0l)}
theorem b4Q (hT:∀ t i,T t=some i->TOk P t i) (hcq:∀ o c,o.op= .call c->b75 P o (cq o c)) (hc:∀ o c,o.op= .call c->Sim US (tcq o c) (cq o c)) (hm:P.follows .mixedOrders=true) :
  ∀ (c:Code) {R:Type} {a:An R} {s:TSt} {κ:AX->TSt->Option R} {K:AX->St->Prop} {r:R},a.ok T TU tcq c κ->b3l T TU tcq a c s κ=some r->(∀ ax s',κ ax s'=some r->K ax s'.st)->Tri P c K s.st:=by
 intro c
 induction c with
 | skip=>intro R a s κ K r _ h hk;exact c1f (hk _ _ h)
 | seq x y ihx ihy=>
  intro R a s κ K r ho h hk
  refine b1y ?_
  cases a with
  | leaf=>
   refine ihx (a:= .leaf) (κ:=c19 (fun s'=>b3l T TU tcq .leaf y s' κ) κ) trivial h fun ax s' h'=>?_
   cases ax with
   | normal=>exact ihy (a:= .leaf) (κ:=κ) trivial h' hk
   | exit i=>exact hk _ _ h'
   | ret=>exact hk _ _ h'
  | two a b=>
   refine ihx ho.1 h fun ax s' h'=>?_
   cases ax with
   | normal=>exact ihy ho.2 h' hk
   | exit i=>exact hk _ _ h'
   | ret=>exact hk _ _ h'
  | cut L V F a b=>
   refine ihx ho.1 h fun ax s' h'=>?_
   cases ax with
   | normal=>
    rw [c8b,b6j] at h'
    obtain⟨v,h1,h2⟩:=Option.bind_eq_some_iff.1 h'
    rw [ho.2.2 (V.to v),V.ok] at h2
    exact c5x (Lay.read_le h1) (ihy ho.2.1 h2 hk)
   | exit i=>exact hk _ _ h'
   | ret=>exact hk _ _ h'
  | one a=>exact ho.elim
  | loop L V G a=>exact ho.elim
 | region id ops draw=>
  intro R a s κ K r _ h hk
  obtain⟨hd,h⟩:=X3 h
  have h1:=a8l (T:=T) (TU:=TU) hc h
  have e:ops=ops.toList.toArray:=(Array.toArray_toList ..).symm
  rw [e]
  cases draw with
  | true=>exact b61 hT hcq hm hd (b18 (fun s' tr h2=>by obtain⟨h3,ts,rfl,h4⟩:=h2;exact⟨h3 rfl,hk _ _ h4⟩) h1)
  | false=>exact b0P hT hcq hd (b08 (tr:=[]) (b18 (fun s' tr h2=>by obtain⟨_,ts,rfl,h4⟩:=h2;exact hk _ _ h4) h1))
 | cond cc x y ihx ihy=>
  intro R a s κ K r ho h hk
  have h0:a.fst.ok T TU tcq x κ/\a.snd.ok T TU tcq y κ:=by
   cases a with
   | leaf=>exact⟨trivial,trivial⟩
   | two a b=>exact ho
   | cut L V F a b=>exact ho.elim
   | one a=>exact ho.elim
   | loop L V G a=>exact ho.elim
  have h1:=(Sim.bind (D9 cc) fun v=>b29 v) s [] _ (TQ.run_wpt h)
  refine c1h (Q.wp_of_wpt (Q.wpt_mono h1 ?_))
  rintro b rs ⟨b',rfl,h2⟩
  rcases b6i h2 with⟨rfl,h3⟩ | ⟨rfl,h3⟩
  ·exact⟨fun _=>ihx h0.1 h3 hk,fun e=>(by cases e)⟩
  ·exact⟨fun e=>(by cases e),fun _=>ihy h0.2 h3 hk⟩
 | block id c ih=>
  intro R a s κ K r ho h hk
  have h0:a.fst.ok T TU tcq c (b9D id κ):=by
   cases a with
   | leaf=>exact trivial
   | two a b=>exact ho.elim
   | cut L V F a b=>exact ho.elim
   | one a=>exact ho
   | loop L V G a=>exact ho.elim
  refine b8z (ih h0 h fun ax s' h'=>?_)
  cases ax with
  | normal=>exact hk _ _ h'
  | exit i=>
   show if i=id then K .normal s'.st else K (.exit i) s'.st
   have h':(match Nat.beq i id with | true=>κ .normal s' | false=>κ (.exit i) s')=some r:=h'
   split at h'
   ·rename_i hb;rw [if_pos (Nat.eq_of_beq_eq_true hb)];exact hk _ _ h'
   ·rename_i hb
    rw [if_neg (fun e=>by subst e;rw [Nat.beq_refl] at hb;cases hb)]
    exact hk _ _ h'
  | ret=>exact hk _ _ h'
 | loop c ih=>
  intro R a s κ K r ho h hk
  cases a with
  | loop L V G a=>
   obtain⟨ho1,ho2⟩:=ho
   have h:c18 (L.read s) (fun x=>Q9 G (V.to x))=some r:=h
   rw [b6j] at h
   obtain⟨v,h1,h2⟩:=Option.bind_eq_some_iff.1 h
   refine c1i (fun n st=>∃ x,st=(L.st (V.of x)).st/\c48 n G x=some r) (n0:=c8a) (s0:=(L.st (V.of (V.to v))).st) (by rw [V.ok];exact Lay.read_le h1) ⟨V.to v,rfl,h2⟩ ?_
   rintro n st ⟨x,rfl,hx⟩
   cases n with
   | zero=>cases hx
   | succ n=>
    unfold c48 at hx
    split at hx
    ·cases hx
    ·rename_i y hy
     rw [ho2 x] at hy
     refine ih ho1 hy fun ax s' h'=>?_
     cases ax with
     | normal=>
      obtain⟨z,h3,h4⟩:=Option.map_eq_some_iff.1 h'
      injection h4 with h4
      subst h4
      exact⟨n,_,Nat.lt_succ_self n,by rw [V.ok];exact Lay.read_le h3,V.to z,rfl,hx⟩
     | exit i=>obtain⟨z,_,h4⟩:=Option.map_eq_some_iff.1 h';cases h4
     | ret=>obtain⟨z,_,h4⟩:=Option.map_eq_some_iff.1 h';cases h4
    ·rename_i r' hy
     injection hx with hx
     subst hx
     rw [ho2 x] at hy
     refine ih ho1 hy fun ax s' h'=>?_
     cases ax with
     | normal=>obtain⟨z,_,h4⟩:=Option.map_eq_some_iff.1 h';cases h4
     | exit i=>
      obtain⟨z,h3,h4⟩:=Option.map_eq_some_iff.1 h'
      injection h4 with h4
      subst h4
      exact hk _ _ h3
     | ret=>
      obtain⟨z,h3,h4⟩:=Option.map_eq_some_iff.1 h'
      injection h4 with h4
      subst h4
      exact hk _ _ h3
  | leaf=>cases h
  | two a b=>exact ho.elim
  | cut L V F a b=>exact ho.elim
  | one a=>exact ho.elim
 | exit i=>intro R a s κ K r _ h hk;exact c1g (hk _ _ h)
 | ret=>intro R a s κ K r _ h hk;exact c3A (hk _ _ h)
 | _=>intro R a s κ K r _ h hk;cases h
end
end Go.Proofs.YtacnfjjkhpkloaaGreat.Am
namespace Go.Proofs.YtacnfjjkhpkloaaGreat.Am
open Go
def b3m:PTs->ATs->ATs
 | .nil,r=>r
 | .cons t ts,r=> .cons (.bx t) (b3m ts r)
 | .rcons u e ts,r=> .cons (.rx u e) (b3m ts r)
def spl:(p:PTs)->(r:ATs)->(b3m p r).den->p.den × r.den
 | .nil,_,x=>((),x)
 | .cons _ ts,r,x=>((x.1,(spl ts r x.2).1),(spl ts r x.2).2)
 | .rcons _ _ ts,r,x=>((x.1,(spl ts r x.2).1),(spl ts r x.2).2)
theorem b19:∀ (p:PTs) (r:ATs) (x:(b3m p r).den),(b3m p r).oas x=p.ocs (spl p r x).1 ++ r.oas (spl p r x).2
 | .nil,_,_=>rfl
 | .cons t ts,r,x=>by
  show AT.oa (.bx t) x.1 :: (b3m ts r).oas x.2=OA.bx (t.ocs x.1) :: (ts.ocs (spl ts r x.2).1 ++ r.oas (spl ts r x.2).2)
  rw [b19 ts r x.2];rfl
 | .rcons u e ts,r,x=>by
  show AT.oa (.rx u e) x.1 :: (b3m ts r).oas x.2=AT.oa (.rx u e) x.1 :: (ts.ocs (spl ts r x.2).1 ++ r.oas (spl ts r x.2).2)
  rw [b19 ts r x.2]
theorem b4R:∀ (p:PTs) (r:ATs),r.ok=true->(b3m p r).ok=true
 | .nil,_,h=>h
 | .cons _ ts,r,h=>by
  show(true && (b3m ts r).ok)=true
  rw [b4R ts r h];rfl
 | .rcons _ _ ts,r,h=>by
  show(true && (b3m ts r).ok)=true
  rw [b4R ts r h];rfl
def ATs.len:ATs->Nat
 | .nil=>0
 | .cons _ ts=>ts.len + 1
def PTs.len:PTs->Nat
 | .nil=>0
 | .cons _ ts=>ts.len + 1
 | .rcons _ _ ts=>ts.len + 1
theorem b9E:∀ (ts:ATs) (x:ts.den),(ts.oas x).length=ts.len
 | .nil,_=>rfl
 | .cons t ts,x=>by
  show(ts.oas x.2).length + 1=ts.len + 1
  rw [b9E ts]
theorem b2a:∀ (ts:PTs) (x:ts.den),(ts.ocs x).length=ts.len
 | .nil,_=>rfl
 | .cons t ts,x=>by
  show(ts.ocs x.2).length + 1=ts.len + 1
  rw [b2a ts]
 | .rcons _ _ ts,x=>by
  show(ts.ocs x.2).length + 1=ts.len + 1
  rw [b2a ts]
def b7r:ATs->List T1->List T1
 | .cons (.bx _) ts,v :: vs=>v :: b7r ts vs
 | .cons (.rx _ _) ts,v :: vs=>v :: b7r ts vs
 | .cons _ ts,_ :: vs=>b7r ts vs
 | _,_=>[]
theorem a6q:∀ (ts:ATs) (x:ts.den) (vs:List T1),R9 (ts.oas x) (vs.map T1.av)=(b7r ts vs).map T1.av
 | .nil,_,[]=>rfl
 | .nil,_,_ :: _=>rfl
 | .cons (.bx _) _ts,_x,[]=>rfl
 | .cons (.rx _ _) _ts,_x,[]=>rfl
 | .cons (.c _) _ts,_x,[]=>rfl
 | .cons (.agg _) _ts,_x,[]=>rfl
 | .cons (.bx _t) ts,x,v :: vs=>congrArg (v.av :: ·) (a6q ts x.2 vs)
 | .cons (.rx _ _) ts,x,v :: vs=>congrArg (v.av :: ·) (a6q ts x.2 vs)
 | .cons (.c _t) ts,x,_v :: vs=>a6q ts x.2 vs
 | .cons (.agg _t) ts,x,_v :: vs=>a6q ts x.2 vs
def tUT (g:Bool) (i:Nat):List T1->List a0l
 | []=>[]
 | v :: vs=> .t i ⟨g,.o v⟩ :: tUT g (i + 1) vs
theorem b9F (g:Bool):∀ (vs:List T1) (i:Nat),(tUT g i vs).map a0l.upd=tU g i (vs.map T1.av)
 | [],_=>rfl
 | v :: vs,i=>congrArg (Upd.t i ⟨g,v.av⟩ :: ·) (b9F g vs (i + 1))
def b3n (n:Nat):TSt:=⟨n,fun k=>⟨decide (k < n),.any⟩,fun _=>⟨0,none⟩,fun _=>⟨0,none⟩⟩
theorem b9G (n:Nat):(b3n n).st=a47 n [] [] []:=rfl
def b9H (n:Nat) (args:ATs) (k:c35):TSt:=(((b3n n).app k.us).app (tUT true 0 k.vs)).app (tUT false n (b7r args k.vs))
def c7E (T:TypeId->Option TI):List ResultVar->TQ (List TV)
 | []=> .ret []
 | .tmp t :: rs=>(tev (.tmp t)).bind fun v=>(c7E T rs).bind fun vs=> .ret (v :: vs)
 | .cell a t :: rs=>(ttq T t).bind fun i=>(tev (.tmp a)).bind fun p=>(c1A i p).bind fun v=>(c7E T rs).bind fun vs=> .ret (v :: vs)
theorem b2b (T:TypeId->Option TI):∀ (rs:List ResultVar),Sim (List.map TV.av) (c7E T rs) (c3G T rs)
 | []=>Sim.ret rfl
 | .tmp t :: rs=>Sim.bind (D9 (.tmp t)) fun _v=>Sim.bind (b2b T rs) fun _vs=>Sim.ret rfl
 | .cell a t :: rs=>Sim.bind (E6 T t) fun i=>Sim.bind (D9 (.tmp a)) fun p=>Sim.bind (b3b i p) fun _v=>Sim.bind (b2b T rs) fun _vs=>Sim.ret rfl
def c8c (n:Nat):Nat->TQ (List TV)
 | 0=> .ret []
 | m + 1=> .rdT n fun x=>(c8c (n + 1) m).bind fun vs=> .ret (x.x :: vs)
theorem b6k:∀ (m n:Nat),Sim (List.map TV.av) (c8c n m) (c5J n m)
 | 0,_=>Sim.ret rfl
 | m + 1,n=>Sim.rdT fun _x=>Sim.bind (b6k m (n + 1)) fun _vs=>Sim.ret rfl
def c49 (T:TypeId->Option TI) (n:Nat) (rs:List ResultVar) (S:TFn):TQ (S.posts.den × S.res.den):=
 (c8c n S.posts.len).bind fun ps=>(c7E T rs).bind fun vs=>(b1V (b3m S.posts S.res) (ps ++ vs)).bind fun k=>
 .req (b3h (k.tops ++ k.ids) && k.fz.all fun id=> !c46 (Sum.inr id) (k.tops ++ k.ids)) ((a3i k.fz).bind fun _=> .ret (spl S.posts S.res k.x))
theorem b9I {T:TypeId->Option TI} {n:Nat} {rs:List ResultVar} {S:TFn} (hr:S.res.ok=true) {fin:S.posts.den × S.res.den->S.R} (hfin:∀ x,S.out (fin x)=x) {s:TSt} {r:S.R} (h:((c49 T n rs S).run s [] fun x _=>some (fin x))=some r) :
  (c3H T n S.posts.len rs (b3m S.posts S.res).sh (S.posts.ocs (S.out r).1) (S.res.oas (S.out r).2)).wp s.st fun _=>True:=by
 have h1:=TQ.run_wpt h
 unfold c49 at h1
 rw [TQ.wpt_bind] at h1
 unfold c3H
 rw [Q.wp_bind]
 refine Q.wp_of_wpt (tr:=[]) (Q.wpt_mono (b6k S.posts.len n s [] _ h1) ?_)
 rintro ps rs1 ⟨tps,rfl,h2⟩
 rw [TQ.wpt_bind] at h2
 rw [Q.wp_bind]
 refine Q.wp_of_wpt (tr:=rs1) (Q.wpt_mono (b2b T rs s rs1 _ h2) ?_)
 rintro vs rs2 ⟨tvs,rfl,h3⟩
 rw [TQ.wpt_bind] at h3
 rw [Q.wp_bind,<-List.map_append]
 refine Q.wp_of_wpt (tr:=rs2) (Q.wpt_mono (a7a _ (b4R _ _ hr) (tps ++ tvs) s rs2 _ h3) ?_)
 rintro k rs3 ⟨tk,rfl,h4⟩
 obtain⟨h5,h6⟩:=h4
 rw [Bool.and_eq_true] at h5
 rw [TQ.wpt_bind] at h6
 have h7:=S0 tk.fz s rs3 _ h6
 obtain⟨us,rs4,tus,_,h8⟩:=Q.wpt_ex h7
 injection h8 with h8
 subst h8
 rw [hfin]
 refine⟨⟨b19 _ _ _,a9Y h5.1,fun id hid=>?_⟩,?_⟩
 ·have:=List.all_eq_true.1 h5.2 id hid
  exact b1X (by simpa using this)
 ·rw [Q.wp_bind]
  exact Q.wp_of_wpt (tr:=rs3) (Q.wpt_mono h7 fun _ _ _=>trivial)
def c29 (T:TypeId->Option TI) (n:Nat) (rs:List ResultVar) (S:TFn) (fin:S.posts.den × S.res.den->S.R) (ax:AX) (s:TSt):Option S.R:=match ax with
 | .exit _=>none
 | .normal=>chk (Nat.beq s.n n) ((c49 T n rs S).run s [] fun x _=>some (fin x))
 | .ret=>chk (Nat.beq s.n n) ((c49 T n rs S).run s [] fun x _=>some (fin x))
def c4e (T:TypeId->Option TI) (TU:TypeId->Option U) (Γ:List (Nat × TFn)) (n:Nat) (rs:List ResultVar) (S:TFn) (fin:S.posts.den × S.res.den->S.R) (an:An S.R) (c:Code) (a:S.args.den):Option S.R:=
 (b9q 1000 S.args a).run (b3n n) [] fun k _=>chk (Nat.beq (b7r S.args k.vs).length S.posts.len && Nat.ble S.args.len n) (b3l T TU (a5R T TU Γ) an c (b9H n S.args k) (c29 T n rs S fin))
structure FnT (P:Program) (f:FuncId) (S:TFn):Prop where
 args:S.args.ok=true
 res:S.res.ok=true
 ok:c1p P f S.spec
def gSp (sp:Sp):TFn:=⟨.nil,.nil,.nil,Unit,fun _=>none,fun _=>((),()),sp⟩
theorem b6l {P:Program} {f:FuncId} {fn:Func} {sp:Sp} {c:Code} (hf:P.funcs[f]?=some fn) (hb:fn.body=some c) (hname:(fn.name == "runtime.NumGoroutine")=false) (hsp:c4Y P f sp):FnT P f (gSp sp):=
 ⟨rfl,rfl,⟨hsp,⟨fn,hf,by rw [hb];rfl,hname⟩,fun _ _ _ _ _ _ _ _ _ hp=>by
  obtain⟨a,r,_,h⟩:=hp
  cases h⟩⟩
def D1 {α β:Type} (l:List (α × β)):List α:=List.map (fun p=>p.1) l
theorem C5 {P:Program}:∀ p ∈ ([]:List (Nat × TFn)),FnT P (p.1 % 1000000) p.2:=fun _ h=>by cases h
theorem A9 {P:Program} {f:FuncId} {S:TFn} {Γ:List (Nat × TFn)} (h:FnT P (f % 1000000) S) (k:∀ p ∈ Γ,FnT P (p.1 % 1000000) p.2):∀ p ∈ (f,S) :: Γ,FnT P (p.1 % 1000000) p.2:=fun p hp=>by
 cases hp with
 | head=>exact h
 | tail _ hp=>exact k p hp
theorem fnT {P:Program} {T:TypeId->Option TI} {TU:TypeId->Option U} {Γ:List (Nat × TFn)} {f:FuncId} {fn:Func} {c:Code} {S:TFn} (hT:∀ t i,T t=some i->TOk P t i) (hm:P.follows .mixedOrders=true) (hΓ:∀ p ∈ Γ,FnT P (p.1 % 1000000) p.2)
  (hf:P.funcs[f]?=some fn) (hb:fn.body=some c) (hname:(fn.name == "runtime.NumGoroutine")=false) (ha:S.args.ok=true) (hr:S.res.ok=true) (fin:S.posts.den × S.res.den->S.R) (hfin:∀ x,S.out (fin x)=x) (an:An S.R)
  (hok:an.ok T TU (a5R T TU Γ) c (c29 T fn.ntmps fn.results.toList S fin)) (hF:∀ a,S.G a=c4e T TU Γ fn.ntmps fn.results.toList S fin an c a) (hsp:S.sp= .none:=by rfl):FnT P f S:=by
 refine⟨ha,hr,c9h hT hf hb hname 1000 (fun xs hx=>?_) hsp⟩
 obtain⟨a,r,rfl,hFa⟩:=hx
 have h1:=hF a
 rw [hFa] at h1
 have h1:=h1.symm
 unfold c4e at h1
 have h2:=TQ.run_wpt h1
 have h3:=a7L S.args ha 1000 a _ _ _ h2
 rw [b9G] at h3
 have hlen:S.args.len<=fn.ntmps:=by
  obtain⟨_,_,k,_,hk⟩:=Q.wpt_ex h3
  have:=(X3 hk).1
  rw [Bool.and_eq_true] at this
  exact Nat.le_of_ble_eq_true this.2
 refine⟨by rw [b9E];exact hlen,(b3m S.posts S.res).sh,Q.wp_of_wpt (Q.wpt_mono h3 ?_)⟩
 rintro k rs ⟨tk,rfl,hk⟩
 obtain⟨hc,hk⟩:=X3 hk
 rw [Bool.and_eq_true] at hc
 have hst:(b9H fn.ntmps S.args tk).st=(((a47 fn.ntmps [] [] []).app (b0w tk).us).app (tU true 0 (b0w tk).avs)).app (tU false fn.ntmps (R9 (S.args.oas a) (b0w tk).avs)):=by
  unfold b9H
  rw [TSt.st_app,TSt.st_app,TSt.st_app,b9F,b9F]
  simp only [b0w]
  rw [a6q]
  rfl
 rw [<-hst]
 have hmm:(R9 (S.args.oas a) (b0w tk).avs).length=S.posts.len:=by
  simp only [b0w]
  rw [a6q,List.length_map]
  exact Nat.eq_of_beq_eq_true hc.1
 rw [hmm]
 have hcq:=b24 (P:=P) (T:=T) hT (Γ:=b9x Γ) (fun p hp=>by
  obtain⟨q,hq,rfl⟩:=List.mem_map.1 hp
  exact(hΓ q hq).ok)
 have fin':∀ s',chk (Nat.beq s'.n fn.ntmps) ((c49 T fn.ntmps fn.results.toList S).run s' [] fun x _=>some (fin x))=some r->
   s'.st.n=fn.ntmps/\(S.spec.post (S.args.oas a)).length=S.posts.len/\(c3H T fn.ntmps S.posts.len fn.results.toList (b3m S.posts S.res).sh (S.spec.post (S.args.oas a)) (S.spec.res (S.args.oas a))).wp s'.st fun _=>True:=fun s' h'=>by
  obtain⟨h5,h6⟩:=X3 h'
  rw [TFn.post_of ha hFa,TFn.res_of ha hFa]
  exact⟨Nat.eq_of_beq_eq_true h5,b2a _ _,b9I hr hfin h6⟩
 refine b4Q hT hcq (fun o c _=>a8k T TU Γ o c) hm c hok hk fun ax s' h'=>?_
 cases ax with
 | normal=>exact fin' s' h'
 | exit i=>cases h'
 | ret=>exact fin' s' h'
end Go.Proofs.YtacnfjjkhpkloaaGreat.Am
namespace Go.Proofs.YtacnfjjkhpkloaaGreat.Am
open Go
abbrev a1X:List Type->Type
 | []=>Unit
 | [A]=>A
 | A :: B :: r=>A × a1X (B :: r)
def a6z {A:Type}:(r:List Type)->A->a1X r->a1X (A :: r)
 | [],a,_=>a
 | _ :: _,a,x=>(a,x)
def fhd {A:Type}:(r:List Type)->a1X (A :: r)->A
 | [],a=>a
 | _ :: _,x=>x.1
def ftl {A:Type}:(r:List Type)->a1X (A :: r)->a1X r
 | [],_=>()
 | _ :: _,x=>x.2
theorem a1Y {A:Type}:∀ (r:List Type) (a:A) (x:a1X r),fhd r (a6z r a x)=a
 | [],_,_=>rfl
 | _ :: _,_,_=>rfl
theorem a1Z {A:Type}:∀ (r:List Type) (a:A) (x:a1X r),ftl r (a6z r a x)=x
 | [],_,_=>rfl
 | _ :: _,_,_=>rfl
abbrev a8V:List Sh->List Type->List Type
 | [],r=>r
 | .d u :: s,r=>u.den :: a8V s r
 | .clo _ u :: s,r=>u.den :: a8V s r
 | .e u :: s,r=>u.den :: a8V s r
 | .nil :: s,r=>a8V s r
 | .fn _ :: s,r=>a8V s r
 | .npt :: s,r=>a8V s r
 | .row _ :: s,r=>a8V s r
 | .ptr _ _ :: s,r=>a8V s r
def b4Z:(ss:List Sh)->(r:List Type)->a7b ss->a1X r->a1X (a8V ss r)
 | [],_,_,y=>y
 | .d _ :: s,r,x,y=>a6z (a8V s r) x.1 (b4Z s r x.2 y)
 | .clo _ _ :: s,r,x,y=>a6z (a8V s r) x.1 (b4Z s r x.2 y)
 | .e _ :: s,r,x,y=>a6z (a8V s r) x.1 (b4Z s r x.2 y)
 | .nil :: s,r,x,y=>b4Z s r x y
 | .fn _ :: s,r,x,y=>b4Z s r x y
 | .npt :: s,r,x,y=>b4Z s r x y
 | .row _ :: s,r,x,y=>b4Z s r x y
 | .ptr _ _ :: s,r,x,y=>b4Z s r x y
def b6s:(ss:List Sh)->(r:List Type)->a1X (a8V ss r)->a7b ss
 | [],_,_=>()
 | .d _ :: s,r,y=>(fhd (a8V s r) y,b6s s r (ftl (a8V s r) y))
 | .clo _ _ :: s,r,y=>(fhd (a8V s r) y,b6s s r (ftl (a8V s r) y))
 | .e _ :: s,r,y=>(fhd (a8V s r) y,b6s s r (ftl (a8V s r) y))
 | .nil :: s,r,y=>b6s s r y
 | .fn _ :: s,r,y=>b6s s r y
 | .npt :: s,r,y=>b6s s r y
 | .row _ :: s,r,y=>b6s s r y
 | .ptr _ _ :: s,r,y=>b6s s r y
def b3R:(ss:List Sh)->(r:List Type)->a1X (a8V ss r)->a1X r
 | [],_,y=>y
 | .d _ :: s,r,y=>b3R s r (ftl (a8V s r) y)
 | .clo _ _ :: s,r,y=>b3R s r (ftl (a8V s r) y)
 | .e _ :: s,r,y=>b3R s r (ftl (a8V s r) y)
 | .nil :: s,r,y=>b3R s r y
 | .fn _ :: s,r,y=>b3R s r y
 | .npt :: s,r,y=>b3R s r y
 | .row _ :: s,r,y=>b3R s r y
 | .ptr _ _ :: s,r,y=>b3R s r y
theorem b0z:∀ (ss:List Sh) (r:List Type) (x:a7b ss) (y:a1X r),b6s ss r (b4Z ss r x y)=x/\b3R ss r (b4Z ss r x y)=y
 | [],_,_,_=>⟨rfl,rfl⟩
 | .d _ :: s,r,x,y=>by
  obtain⟨h1,h2⟩:=b0z s r x.2 y
  unfold b4Z b6s b3R
  rw [a1Y,a1Z,h1,h2]
  exact⟨rfl,rfl⟩
 | .clo _ _ :: s,r,x,y=>by
  obtain⟨h1,h2⟩:=b0z s r x.2 y
  unfold b4Z b6s b3R
  rw [a1Y,a1Z,h1,h2]
  exact⟨rfl,rfl⟩
 | .e _ :: s,r,x,y=>by
  obtain⟨h1,h2⟩:=b0z s r x.2 y
  unfold b4Z b6s b3R
  rw [a1Y,a1Z,h1,h2]
  exact⟨rfl,rfl⟩
 | .nil :: s,r,x,y=>b0z s r x y
 | .fn _ :: s,r,x,y=>b0z s r x y
 | .npt :: s,r,x,y=>b0z s r x y
 | .row _ :: s,r,x,y=>b0z s r x y
 | .ptr _ _ :: s,r,x,y=>b0z s r x y
abbrev tTs:List (Nat × SSh)->List Type->List Type
 | [],r=>r
 | p :: l,r=>a8V p.2.list (tTs l r)
def tTo:(l:List (Nat × SSh))->(r:List Type)->c1Y l->a1X r->a1X (tTs l r)
 | [],_,_,y=>y
 | p :: l,r,x,y=>b4Z p.2.list (tTs l r) x.1 (tTo l r x.2 y)
def tOf:(l:List (Nat × SSh))->(r:List Type)->a1X (tTs l r)->c1Y l
 | [],_,_=>()
 | p :: l,r,y=>(b6s p.2.list (tTs l r) y,tOf l r (b3R p.2.list (tTs l r) y))
def tRe:(l:List (Nat × SSh))->(r:List Type)->a1X (tTs l r)->a1X r
 | [],_,y=>y
 | p :: l,r,y=>tRe l r (b3R p.2.list (tTs l r) y)
theorem c9W:∀ (l:List (Nat × SSh)) (r:List Type) (x:c1Y l) (y:a1X r),tOf l r (tTo l r x y)=x/\tRe l r (tTo l r x y)=y
 | [],_,_,_=>⟨rfl,rfl⟩
 | p :: l,r,x,y=>by
  obtain⟨h1,h2⟩:=c9W l r x.2 y
  obtain⟨h3,h4⟩:=b0z p.2.list (tTs l r) x.1 (tTo l r x.2 y)
  unfold tTo tOf tRe
  rw [h3,h4,h1,h2]
  exact⟨rfl,rfl⟩
abbrev bTs:List (Nat × List Sh)->List Type->List Type
 | [],r=>r
 | p :: l,r=>a8V p.2 (bTs l r)
def bTo:(l:List (Nat × List Sh))->(r:List Type)->c26 l->a1X r->a1X (bTs l r)
 | [],_,_,y=>y
 | p :: l,r,x,y=>b4Z p.2 (bTs l r) x.1 (bTo l r x.2 y)
def bOf:(l:List (Nat × List Sh))->(r:List Type)->a1X (bTs l r)->c26 l
 | [],_,_=>()
 | p :: l,r,y=>(b6s p.2 (bTs l r) y,bOf l r (b3R p.2 (bTs l r) y))
def bRe:(l:List (Nat × List Sh))->(r:List Type)->a1X (bTs l r)->a1X r
 | [],_,y=>y
 | p :: l,r,y=>bRe l r (b3R p.2 (bTs l r) y)
theorem c9X:∀ (l:List (Nat × List Sh)) (r:List Type) (x:c26 l) (y:a1X r),bOf l r (bTo l r x y)=x/\bRe l r (bTo l r x y)=y
 | [],_,_,_=>⟨rfl,rfl⟩
 | p :: l,r,x,y=>by
  obtain⟨h1,h2⟩:=c9X l r x.2 y
  obtain⟨h3,h4⟩:=b0z p.2 (bTs l r) x.1 (bTo l r x.2 y)
  unfold bTo bOf bRe
  rw [h3,h4,h1,h2]
  exact⟨rfl,rfl⟩
abbrev rTs:List (Nat × U × TypeId × Bool)->List Type
 | []=>[]
 | p :: l=>List p.2.1.den :: rTs l
def rTo:(l:List (Nat × U × TypeId × Bool))->c27 l->a1X (rTs l)
 | [],_=>()
 | _ :: l,x=>a6z (rTs l) x.1 (rTo l x.2)
def rOf:(l:List (Nat × U × TypeId × Bool))->a1X (rTs l)->c27 l
 | [],_=>()
 | _ :: l,y=>(fhd (rTs l) y,rOf l (ftl (rTs l) y))
theorem c9Y:∀ (l:List (Nat × U × TypeId × Bool)) (x:c27 l),rOf l (rTo l x)=x
 | [],_=>rfl
 | _ :: l,x=>by
  unfold rTo rOf
  rw [a1Y,a1Z,c9Y l x.2];rfl
abbrev Lay.fl (L:Lay):Type:=a1X (tTs L.t (bTs L.b (rTs L.r)))
def vw (L:Lay):Vw L L.fl:=
 ⟨fun x=>tTo L.t (bTs L.b (rTs L.r)) x.1 (bTo L.b (rTs L.r) x.2.1 (rTo L.r x.2.2)),
  fun y=>(tOf L.t (bTs L.b (rTs L.r)) y,bOf L.b (rTs L.r) (tRe L.t (bTs L.b (rTs L.r)) y),rOf L.r (bRe L.b (rTs L.r) (tRe L.t (bTs L.b (rTs L.r)) y))),
  fun x=>by
  obtain⟨h1,h2⟩:=c9W L.t (bTs L.b (rTs L.r)) x.1 (bTo L.b (rTs L.r) x.2.1 (rTo L.r x.2.2))
  obtain⟨h3,h4⟩:=c9X L.b (rTs L.r) x.2.1 (rTo L.r x.2.2)
  simp only [h1,h2,h3,h4,c9Y];rfl⟩
abbrev An.lp {R:Type} (L:Lay) (G:L.fl->Option (L.fl ⊕ R)) (a:An (L.fl ⊕ R)):An R:= .loop L (vw L) G a
abbrev An.ct {R:Type} (L:Lay) (F:L.fl->Option R) (a b:An R):An R:= .cut L (vw L) F a b
abbrev zd (k:Nat) (u:U):Nat × SSh:=(k,.one (.d u))
abbrev zi (k:Nat):Nat × SSh:=(k,.one (.d (.int .i64)))
abbrev zr (k j:Nat):Nat × SSh:=(k,.one (.row (1000000 + j)))
abbrev zp (k j o:Nat):Nat × SSh:=(k,.one (.ptr (1000000 + j) o))
mutual
def oT:OT->List Type->List Type
 | .d u,r=>u.den :: r
 | .fn _,r=>r
 | .npt,r=>r
 | .it _ u _,r=>u.den :: r
 | .clo _ u,r=>u.den :: r
 | .e u,r=>u.den :: r
 | .row u _,r=>List u.den :: r
 | .box ts,r=>oTs ts r
def oTs:OTs->List Type->List Type
 | .nil,r=>r
 | .cons t ts,r=>oT t (oTs ts r)
end
mutual
def oTo:(t:OT)->(r:List Type)->t.den->a1X r->a1X (oT t r)
 | .d _,r,x,y=>a6z r x y
 | .fn _,_,_,y=>y
 | .npt,_,_,y=>y
 | .it _ _ _,r,x,y=>a6z r x y
 | .clo _ _,r,x,y=>a6z r x y
 | .e _,r,x,y=>a6z r x y
 | .row _ _,r,x,y=>a6z r x y
 | .box ts,r,x,y=>b6t ts r x y
def b6t:(ts:OTs)->(r:List Type)->ts.den->a1X r->a1X (oTs ts r)
 | .nil,_,_,y=>y
 | .cons t ts,r,x,y=>oTo t (oTs ts r) x.1 (b6t ts r x.2 y)
end
mutual
def oOf:(t:OT)->(r:List Type)->a1X (oT t r)->t.den
 | .d _,r,y=>fhd r y
 | .fn _,_,_=>()
 | .npt,_,_=>()
 | .it _ _ _,r,y=>fhd r y
 | .clo _ _,r,y=>fhd r y
 | .e _,r,y=>fhd r y
 | .row _ _,r,y=>fhd r y
 | .box ts,r,y=>c3d ts r y
def c3d:(ts:OTs)->(r:List Type)->a1X (oTs ts r)->ts.den
 | .nil,_,_=>()
 | .cons t ts,r,y=>(oOf t (oTs ts r) y,c3d ts r (oRe t (oTs ts r) y))
def oRe:(t:OT)->(r:List Type)->a1X (oT t r)->a1X r
 | .d _,r,y=>ftl r y
 | .fn _,_,y=>y
 | .npt,_,y=>y
 | .it _ _ _,r,y=>ftl r y
 | .clo _ _,r,y=>ftl r y
 | .e _,r,y=>ftl r y
 | .row _ _,r,y=>ftl r y
 | .box ts,r,y=>c0U ts r y
def c0U:(ts:OTs)->(r:List Type)->a1X (oTs ts r)->a1X r
 | .nil,_,y=>y
 | .cons t ts,r,y=>c0U ts r (oRe t (oTs ts r) y)
end
mutual
theorem c64:∀ (t:OT) (r:List Type) (x:t.den) (y:a1X r),oOf t r (oTo t r x y)=x/\oRe t r (oTo t r x y)=y
 | .d _,r,x,y=>⟨a1Y r x y,a1Z r x y⟩
 | .fn _,_,_,_=>⟨rfl,rfl⟩
 | .npt,_,_,_=>⟨rfl,rfl⟩
 | .it _ _ _,r,x,y=>⟨a1Y r x y,a1Z r x y⟩
 | .clo _ _,r,x,y=>⟨a1Y r x y,a1Z r x y⟩
 | .e _,r,x,y=>⟨a1Y r x y,a1Z r x y⟩
 | .row _ _,r,x,y=>⟨a1Y r x y,a1Z r x y⟩
 | .box ts,r,x,y=>b3s ts r x y
theorem b3s:∀ (ts:OTs) (r:List Type) (x:ts.den) (y:a1X r),c3d ts r (b6t ts r x y)=x/\c0U ts r (b6t ts r x y)=y
 | .nil,_,_,_=>⟨rfl,rfl⟩
 | .cons t ts,r,x,y=>by
  obtain⟨h1,h2⟩:=b3s ts r x.2 y
  obtain⟨h3,h4⟩:=c64 t (oTs ts r) x.1 (b6t ts r x.2 y)
  show(oOf t (oTs ts r) (oTo t (oTs ts r) x.1 (b6t ts r x.2 y)),c3d ts r (oRe t (oTs ts r) (oTo t (oTs ts r) x.1 (b6t ts r x.2 y))))=x/\c0U ts r (oRe t (oTs ts r) (oTo t (oTs ts r) x.1 (b6t ts r x.2 y)))=y
  rw [h3,h4,h1,h2]
  exact⟨rfl,rfl⟩
end
def aT:AT->List Type->List Type
 | .c t,r=>oT t r
 | .agg ts,r=>oTs ts r
 | .bx ts,r=>oTs ts r
 | .rx u _,r=>List u.den :: r
def aTo:(t:AT)->(r:List Type)->t.den->a1X r->a1X (aT t r)
 | .c t,r,x,y=>oTo t r x y
 | .agg ts,r,x,y=>b6t ts r x y
 | .bx ts,r,x,y=>b6t ts r x y
 | .rx _ _,r,x,y=>a6z r x y
def aOf:(t:AT)->(r:List Type)->a1X (aT t r)->t.den
 | .c t,r,y=>oOf t r y
 | .agg ts,r,y=>c3d ts r y
 | .bx ts,r,y=>c3d ts r y
 | .rx _ _,r,y=>fhd r y
def aRe:(t:AT)->(r:List Type)->a1X (aT t r)->a1X r
 | .c t,r,y=>oRe t r y
 | .agg ts,r,y=>c0U ts r y
 | .bx ts,r,y=>c0U ts r y
 | .rx _ _,r,y=>ftl r y
theorem c8U (t:AT) (r:List Type) (x:t.den) (y:a1X r):aOf t r (aTo t r x y)=x/\aRe t r (aTo t r x y)=y:=by
 cases t with
 | c t=>exact c64 t r x y
 | agg ts=>exact b3s ts r x y
 | bx ts=>exact b3s ts r x y
 | rx u e=>exact⟨a1Y r x y,a1Z r x y⟩
def asT:ATs->List Type
 | .nil=>[]
 | .cons t ts=>aT t (asT ts)
def b92:(ts:ATs)->ts.den->a1X (asT ts)
 | .nil,_=>()
 | .cons t ts,x=>aTo t (asT ts) x.1 (b92 ts x.2)
def c65:(ts:ATs)->a1X (asT ts)->ts.den
 | .nil,_=>()
 | .cons t ts,y=>(aOf t (asT ts) y,c65 ts (aRe t (asT ts) y))
theorem c3e:∀ (ts:ATs) (x:ts.den),c65 ts (b92 ts x)=x
 | .nil,_=>rfl
 | .cons t ts,x=>by
  obtain⟨h3,h4⟩:=c8U t (asT ts) x.1 (b92 ts x.2)
  show(aOf t (asT ts) (aTo t (asT ts) x.1 (b92 ts x.2)),c65 ts (aRe t (asT ts) (aTo t (asT ts) x.1 (b92 ts x.2))))=x
  rw [h3,h4,c3e ts x.2];rfl
def pT:PTs->List Type->List Type
 | .nil,r=>r
 | .cons t ts,r=>oTs t (pT ts r)
 | .rcons u _ ts,r=>List u.den :: pT ts r
def pTo:(ts:PTs)->(r:List Type)->ts.den->a1X r->a1X (pT ts r)
 | .nil,_,_,y=>y
 | .cons t ts,r,x,y=>b6t t (pT ts r) x.1 (pTo ts r x.2 y)
 | .rcons _ _ ts,r,x,y=>a6z (pT ts r) x.1 (pTo ts r x.2 y)
def pOf:(ts:PTs)->(r:List Type)->a1X (pT ts r)->ts.den
 | .nil,_,_=>()
 | .cons t ts,r,y=>(c3d t (pT ts r) y,pOf ts r (c0U t (pT ts r) y))
 | .rcons _ _ ts,r,y=>(fhd (pT ts r) y,pOf ts r (ftl (pT ts r) y))
def pRe:(ts:PTs)->(r:List Type)->a1X (pT ts r)->a1X r
 | .nil,_,y=>y
 | .cons t ts,r,y=>pRe ts r (c0U t (pT ts r) y)
 | .rcons _ _ ts,r,y=>pRe ts r (ftl (pT ts r) y)
theorem c4t:∀ (ts:PTs) (r:List Type) (x:ts.den) (y:a1X r),pOf ts r (pTo ts r x y)=x/\pRe ts r (pTo ts r x y)=y
 | .nil,_,_,_=>⟨rfl,rfl⟩
 | .cons t ts,r,x,y=>by
  obtain⟨h1,h2⟩:=c4t ts r x.2 y
  obtain⟨h3,h4⟩:=b3s t (pT ts r) x.1 (pTo ts r x.2 y)
  show(c3d t (pT ts r) (b6t t (pT ts r) x.1 (pTo ts r x.2 y)),pOf ts r (c0U t (pT ts r) (b6t t (pT ts r) x.1 (pTo ts r x.2 y))))=x/\pRe ts r (c0U t (pT ts r) (b6t t (pT ts r) x.1 (pTo ts r x.2 y)))=y
  rw [h3,h4,h1,h2]
  exact⟨rfl,rfl⟩
 | .rcons _ _ ts,r,x,y=>by
  obtain⟨h1,h2⟩:=c4t ts r x.2 y
  show(fhd (pT ts r) (a6z (pT ts r) x.1 (pTo ts r x.2 y)),pOf ts r (ftl (pT ts r) (a6z (pT ts r) x.1 (pTo ts r x.2 y))))=x/\pRe ts r (ftl (pT ts r) (a6z (pT ts r) x.1 (pTo ts r x.2 y)))=y
  rw [a1Y,a1Z,h1,h2]
  exact⟨rfl,rfl⟩
theorem c66 (posts:PTs) (res:ATs) (x:posts.den × res.den):(pOf posts (asT res) (pTo posts (asT res) x.1 (b92 res x.2)),c65 res (pRe posts (asT res) (pTo posts (asT res) x.1 (b92 res x.2))))=x:=by
 obtain⟨h1,h2⟩:=c4t posts (asT res) x.1 (b92 res x.2)
 rw [h1,h2,c3e]
def mkT (args:ATs) (posts:PTs) (res:ATs) (G:args.den->Option (a1X (pT posts (asT res)))):TFn:=
 ⟨args,posts,res,a1X (pT posts (asT res)),G,fun y=>(pOf posts (asT res) y,c65 res (pRe posts (asT res) y)),.none⟩
theorem fnV {P:Program} {T:TypeId->Option TI} (TU:TypeId->Option U) (Γ:List (Nat × TFn)) {f:FuncId} {fn:Func} {c:Code} {args:ATs} {posts:PTs} {res:ATs} {G:args.den->Option (a1X (pT posts (asT res)))} (hT:∀ t i,T t=some i->TOk P t i) (hΓ:∀ p ∈ Γ,FnT P (p.1 % 1000000) p.2)
  (hf:P.funcs[f]?=some fn) (an:An (a1X (pT posts (asT res)))) (hm:P.follows .mixedOrders=true:=by rfl) (hb:fn.body=some c:=by rfl) (hname:(fn.name == "runtime.NumGoroutine")=false:=by rfl) (ha:args.ok=true:=by rfl) (hr:res.ok=true:=by rfl)
  (hok:an.ok T TU (a5R T TU Γ) c (c29 T fn.ntmps fn.results.toList (mkT args posts res G) fun x=>pTo posts (asT res) x.1 (b92 res x.2)):=by repeat' first | refine⟨?_,?_⟩ | (intro v;kernel_rfl) | exact True.intro)
  (hF:∀ a,G a=c4e T TU Γ fn.ntmps fn.results.toList (mkT args posts res G) (fun x=>pTo posts (asT res) x.1 (b92 res x.2)) an c a:=by intro a;kernel_rfl):FnT P f (mkT args posts res G):=
 fnT hT hm hΓ hf hb hname ha hr (fun x=>pTo posts (asT res) x.1 (b92 res x.2)) (fun x=>c66 posts res x) an hok hF
end Go.Proofs.YtacnfjjkhpkloaaGreat.Am
namespace Go.Proofs.YtacnfjjkhpkloaaGreat.Am
open Go
theorem b4Y {P:Program} {w:World} {t e:TypeId} (hu:P.underlying t=some (.slice e)) (m:Nat) (A:Option Addr) (n c:Nat):(Op.equalIn (m + 1) t (.slice A n c) (.slice none 0 0)).run P w= .ok A.isNone w:=by
 cases A <;> (simp only [Op.equalIn,Sem.run_bind,run_underlying hu,Result.andThen_ok];rfl)
theorem b7v {P:Program} {w:World} {t e:TypeId} (hu:P.underlying t=some (.slice e)) (A:Option Addr) (n c:Nat):(binOp .eql t (.slice A n c) (.slice none 0 0)).run P w= .ok (.bool A.isNone) w:=by
 have hr:(Op.equal t (.slice A n c) (.slice none 0 0)).run P w= .ok A.isNone w:=b4Y hu 9999 A n c
 simp only [binOp,Sem.run_bind,hr,Result.andThen_ok]
 rfl
theorem b91 {P:Program} {id:Nat} {o1 o2:Oper} {s:St} {K:AX->St->Prop} {t t' e:TypeId} {es:List (List DV)} (hu:P.underlying t=some (.slice e))
  (h1:o1.op= .move (.tmp 0)) (h1d:o1.dst=some 3) (h1g:o1.guard=none) (h2:o2.op= .binOp .eql t (.tmp 3) (.const (.slice none 0 0)) t') (h2d:o2.dst=some 4) (h2g:o2.guard=none) (hn:4 < s.n)
  (h0:s.t 0=⟨true,.c (.d (.sl es))⟩) (hk:∀ b,(b=true->es=[])->K .normal (s.app [.t 3 ⟨true,.c (.d (.sl es))⟩,.t 4 ⟨true,.c (.d (.v (.bool b)))⟩])):Tri P (.region id [o1,o2].toArray false) K s:=by
 intro W0 M a w hR
 refine wp_region_lit ?_
 have hT:∀ t i,(fun _=>none:TypeId->Option TI) t=some i->TOk P t i:=fun _ _ h=>by cases h
 have hcq:∀ (o:Oper) (c:Call),o.op= .call c->b75 P o ((fun _ _=> .fail:Oper->Call->Q (List Upd)) o c):=fun _ _ _ _ _ _ _ _ _ _ _ _ hq=>hq.elim
 refine wpList_step ?_
 intro K1 hK1
 have hw1:Region.wanted o1 (yielded [o1,o2].toArray a.tmps)=true:=by simp [Region.wanted,h1g]
 rw [if_pos hw1]
 have step1:=b8w (P:=P) hT hcq (l:=[o1,o2]) rfl (o:=o1) (K:=fun us=>us=[.t 3 ⟨true,.c (.d (.sl es))⟩]) (Q':=QK W0 M K) (fun d e=>by rw [h1d] at e;injection e with e;subst e;exact Nat.lt_of_succ_lt hn) hR (by
  unfold wpO opD
  rw [h1g]
  simp only
  unfold opQ
  rw [h1]
  simp only [ev,Q.bind,Q.wp,h0,one,h1d]
  exact⟨trivial,rfl⟩)
 rw [if_pos hw1] at step1
 refine Oper.wp_mono (fun a' w'=>?_) step1
 rintro⟨us,rfl,G,hr⟩
 refine hK1 _ _ ?_
 refine wpList_step ?_
 intro K2 hK2
 have hw2:Region.wanted o2 (yielded [o1,o2].toArray a'.tmps)=true:=by simp [Region.wanted,h2g]
 rw [if_pos hw2]
 have h3:=(hr.tm 3).1 (by simp [St.app,St.app1,St.setT,upd])
 simp only [St.app,St.app1,St.setT,upd,if_true,AVr,ACr,DVr] at h3
 obtain⟨A,c,z,xs,hv,hlc,_,_,_,hne,_⟩:=h3
 have hrun:(execOp a'.eval o2).run P w'= .ok (.value (.bool A.isNone)) w':=by
  have hev:a'.eval (.tmp 3)= .slice A es.length c:=hv
  have hec:a'.eval (.const (.slice none 0 0))= .slice none 0 0:=rfl
  unfold execOp
  rw [h2]
  simp only [hev,hec,Sem.run_bind,a0k .eql t (.tmp 3) (.const (.slice none 0 0)) (.slice A es.length c) (.slice none 0 0) rfl,Result.andThen_ok,b7v hu]
  rfl
 refine U7 hrun ?_
 refine hK2 _ _ (wpList_nil ?_)
 refine⟨_,⟨G,?_⟩,hk A.isNone (fun e=>?_)⟩
 ·rw [h2d]
  exact hr.put (d:=4) (show 4 < s.n from hn) ⟨fun _=>by simp only [AVr,ACr,DVr];exact⟨trivial,rfl⟩,fun e=>by cases e⟩
 ·cases A with
  | none=>
   cases es with
   | nil=>rfl
   | cons x es=>
    obtain⟨ad,h,_⟩:=hne (by simp)
    cases h
  | some ad=>cases e
def a5w {u:U} (by_:Nat) (l:List u.den):Option (List u.den):=chk (decide ((0 + l.length) * by_<=LIM/\0 + l.length<=LEN)) (some l)
def N6 (by_:Nat) (u:U) (e:TypeId):TFn:=⟨.cons (.c (.d (.sl u))) .nil,.nil,.cons (.c (.row u e)) .nil,List u.den,fun a=>a5w by_ a.1,fun r=>((),(r,())),.none⟩
def stC (n:Nat) (u:U) (l:List u.den) (b:Bool):TSt:=(((b3n n).app [.t 0 ⟨true,.o (.c (.ch (.sl u) l))⟩]).app [.t 2 ⟨true,.o (.c .nil)⟩]).app [.t 3 ⟨true,.o (.c (.ch (.sl u) l))⟩,.t 4 ⟨true,.o (.c (.ch .bool b))⟩]
def c4s {α:Type} (x:Unit × (α × Unit)):α:=x.2.1
theorem b0b {P:Program} {T:TypeId->Option TI} {TU:TypeId->Option U} {f:FuncId} {fn:Func} {cd rest:Code} {by_:Nat} {u:U} {e t t':TypeId} {i0 i1:Nat} {o0 o1 o2:Oper} (hT:∀ t i,T t=some i->TOk P t i) (hm:P.follows .mixedOrders=true) (hu:P.underlying t=some (.slice e))
  (hf:P.funcs[f]?=some fn) (hb:fn.body=some (.seq (.region i0 [o0].toArray false) (.seq (.seq (.region i1 [o1,o2].toArray false) cd) rest))) (hname:(fn.name == "runtime.NumGoroutine")=false) (hn:4 < fn.ntmps)
  (g0:o0.op= .assign (.const (.slice none 0 0))) (g0d:o0.dst=some 2) (g0g:o0.guard=none)
  (h1:o1.op= .move (.tmp 0)) (h1d:o1.dst=some 3) (h1g:o1.guard=none) (h2:o2.op= .binOp .eql t (.tmp 3) (.const (.slice none 0 0)) t') (h2d:o2.dst=some 4) (h2g:o2.guard=none)
  (hx1:b3l (R:=List u.den) T TU (a5R T TU []) .leaf (.seq cd rest) (stC fn.ntmps u [] true) (c29 T fn.ntmps fn.results.toList (N6 by_ u e) c4s)=some ([]:List u.den))
  (hx2:∀ l:List u.den,b3l (R:=List u.den) T TU (a5R T TU []) .leaf (.seq cd rest) (stC fn.ntmps u l false) (c29 T fn.ntmps fn.results.toList (N6 by_ u e) c4s)=a5w by_ l):FnT P f (N6 by_ u e):=by
 refine⟨rfl,rfl,c9h hT hf hb hname 1000 (fun xs hx=>?_) rfl⟩
 obtain⟨a,r,rfl,hFa⟩:=hx
 obtain⟨l,a2⟩:=a
 cases a2
 have hl:r=l:=by
  have:=(X3 hFa).2
  injection this with this
  exact this.symm
 subst hl
 refine⟨by show 1<=fn.ntmps;omega,(b3m .nil (N6 by_ u e).res).sh,?_⟩
 show Tri P _ (c9g T fn.ntmps 0 fn.results.toList (b3m .nil (N6 by_ u e).res).sh ((N6 by_ u e).spec.post ((N6 by_ u e).args.oas (r,()))) ((N6 by_ u e).spec.res ((N6 by_ u e).args.oas (r,()))))
  ((((a47 fn.ntmps [] [] []).app []).app (tU true 0 [.c (.d (.sl (List.map u.enc r)))])).app (tU false fn.ntmps []))
 have hst:(((a47 fn.ntmps [] [] []).app []).app (tU true 0 [.c (.d (.sl (List.map u.enc r)))])).app (tU false fn.ntmps [])=((b3n fn.ntmps).app [.t 0 ⟨true,.o (.c (.ch (.sl u) r))⟩]).st:=by
  rw [TSt.st_app];rfl
 rw [hst]
 have hcq0:∀ (o:Oper) (c:Call),o.op= .call c->b75 P o ((fun _ _=> .fail:Oper->Call->Q (List Upd)) o c):=fun _ _ _ _ _ _ _ _ _ _ _ _ hq=>hq.elim
 have happ:∀ (s:TSt) (us:List a0l),s.st.app (us.map a0l.upd)=(s.app us).st:=fun s us=>(TSt.st_app us s).symm
 refine b1y (b0P hT hcq0 (show([o0].all (b2Y fn.ntmps))=true by simp only [List.all_cons,List.all_nil,Bool.and_true,b2Y,g0d];exact decide_eq_true (by exact Nat.lt_trans (by decide:2 < 4) hn)) ?_)
 show wpO T _ [o0] o0 _ fun us=>c9e P _ _ .normal _
 unfold wpO opD
 rw [g0g]
 simp only
 unfold opQ
 rw [g0]
 simp only [ev,Q.bind,Q.wp,one,g0d,b3V]
 rw [show([Upd.t 2 ⟨true,a6J (.slice none 0 0)⟩]:List Upd)=([.t 2 ⟨true,.o (.c .nil)⟩]:List a0l).map a0l.upd from rfl,happ]
 show Tri P (.seq _ _) _ _
 refine b1y (b1y (b91 hu h1 h1d h1g h2 h2d h2g (show 4 < fn.ntmps from hn) (es:=List.map u.enc r) rfl fun b hbe=>?_))
 show Tri P cd _ _
 rw [show([Upd.t 3 ⟨true,.c (.d (.sl (List.map u.enc r)))⟩,Upd.t 4 ⟨true,.c (.d (.v (.bool b)))⟩]:List Upd)=([.t 3 ⟨true,.o (.c (.ch (.sl u) r))⟩,.t 4 ⟨true,.o (.c (.ch .bool b))⟩]:List a0l).map a0l.upd from rfl,happ]
 have hcq:=b24 (P:=P) (T:=T) hT (Γ:=b9x []) (fun p hp=>by cases hp)
 have fin':∀ s',chk (Nat.beq s'.n fn.ntmps) ((c49 T fn.ntmps fn.results.toList (N6 by_ u e)).run s' [] fun x _=>some (c4s x))=some r->
   s'.st.n=fn.ntmps/\((N6 by_ u e).spec.post ((N6 by_ u e).args.oas (r,()))).length=(N6 by_ u e).posts.len/\(c3H T fn.ntmps (N6 by_ u e).posts.len fn.results.toList (b3m (N6 by_ u e).posts (N6 by_ u e).res).sh ((N6 by_ u e).spec.post ((N6 by_ u e).args.oas (r,()))) ((N6 by_ u e).spec.res ((N6 by_ u e).args.oas (r,())))).wp s'.st fun _=>True:=fun s' h'=>by
  obtain⟨h5,h6⟩:=X3 h'
  rw [TFn.post_of (S:=N6 by_ u e) rfl hFa,TFn.res_of (S:=N6 by_ u e) rfl hFa]
  exact⟨Nat.eq_of_beq_eq_true h5,b2a _ _,b9I (S:=N6 by_ u e) rfl (fin:=c4s) (fun x=>rfl) h6⟩
 have hex:b3l (R:=List u.den) T TU (a5R T TU []) .leaf (.seq cd rest) (stC fn.ntmps u r b) (c29 T fn.ntmps fn.results.toList (N6 by_ u e) c4s)=some r:=by
  cases b with
  | true=>
   have:=List.map_eq_nil_iff.1 (hbe rfl)
   subst this
   exact hx1
  | false=>exact(hx2 r).trans hFa
 have hex':b3l (R:=List u.den) T TU (a5R T TU []) .leaf cd (stC fn.ntmps u r b) (c19 (fun s'=>b3l T TU (a5R T TU []) .leaf rest s' (c29 T fn.ntmps fn.results.toList (N6 by_ u e) c4s)) (c29 T fn.ntmps fn.results.toList (N6 by_ u e) c4s))=some r:=hex
 refine b4Q (R:=List u.den) hT hcq (fun o c _=>a8k T TU [] o c) hm cd (a:= .leaf) trivial hex' fun ax s' h'=>?_
 cases ax with
 | normal=>
  refine b4Q (R:=List u.den) hT hcq (fun o c _=>a8k T TU [] o c) hm rest (a:= .leaf) trivial (show b3l (R:=List u.den) T TU (a5R T TU []) .leaf rest s' _=some r from h') fun ax s' h'=>?_
  cases ax with
  | normal=>exact fin' s' h'
  | exit i=>cases h'
  | ret=>exact fin' s' h'
 | exit i=>cases h'
 | ret=>exact fin' s' h'
end Go.Proofs.YtacnfjjkhpkloaaGreat.Am
namespace Go.Proofs.YtacnfjjkhpkloaaGreat.Am
open Go
def U.flat:U->Bool
 | .sl _=>false
 | .pr a b=>a.flat && b.flat
 | .arr _ _=>false
 | _=>true
def U.encV:(u:U)->u.den->List Value
 | .int k,n=>[.int k n]
 | .byte,x=>[.int .u8 (UInt8.toNat x:Nat)]
 | .bool,b=>[.bool b]
 | .str,l=>[.string ⟨List.toArray l⟩]
 | .sl _,_=>[.bool false]
 | .pr a b,x=>a.encV x.1 ++ b.encV x.2
 | .arr n u,_=>List.replicate (n * u.size) (.bool false)
theorem U.encV_len:(u:U)->(x:u.den)->(u.encV x).length=u.size
 | .int _,_=>rfl
 | .byte,_=>rfl
 | .bool,_=>rfl
 | .str,_=>rfl
 | .sl _,_=>rfl
 | .pr a b,x=>by rw [U.encV,List.length_append,a.encV_len,b.encV_len];rfl
 | .arr n u,v=>by rw [U.encV,List.length_replicate];rfl
theorem U.encV_one:(u:U)->(x:u.den)->∀ v ∈ u.encV x,v.oneCell'=true
 | .int _,_,v,h=>by simp only [U.encV,List.mem_singleton] at h;subst h;rfl
 | .byte,_,v,h=>by simp only [U.encV,List.mem_singleton] at h;subst h;rfl
 | .bool,_,v,h=>by simp only [U.encV,List.mem_singleton] at h;subst h;rfl
 | .str,_,v,h=>by simp only [U.encV,List.mem_singleton] at h;subst h;rfl
 | .sl _,_,v,h=>by simp only [U.encV,List.mem_singleton] at h;subst h;rfl
 | .pr a b,x,v,h=>by
  rw [U.encV] at h
  rcases List.mem_append.1 h with h | h
  ·exact a.encV_one _ v h
  ·exact b.encV_one _ v h
 | .arr n u,_,v,h=>by rw [U.encV] at h;rw [List.eq_of_mem_replicate h];rfl
section
variable {I:Nat->Nat->Prop} {w:World}
theorem J4.split:∀ {ds es:List DV} {xs:List Value},J4 I w (ds ++ es) xs->∃ a b,xs=a ++ b/\J4 I w ds a/\J4 I w es b
 | [],_,xs,h=>⟨[],xs,rfl,by simp [J4],h⟩
 | d :: ds,es,xs,h=>by
  simp only [List.cons_append,J4] at h
  obtain⟨x,r,rfl,h2,h3⟩:=h
  obtain⟨a,b,rfl,h4,h5⟩:=J4.split h3
  exact⟨x :: a,b,rfl,by simp only [J4];exact⟨x,a,rfl,h2,h4⟩,h5⟩
theorem U.encV_of:(u:U)->u.flat=true->(x:u.den)->{vs:List Value}->J4 I w (u.enc x) vs->vs=u.encV x
 | .int _,_,x,vs,h=>by simp only [U.enc,J4,DVr] at h;obtain⟨y,r,rfl,⟨rfl,_⟩,rfl⟩:=h;rfl
 | .byte,_,x,vs,h=>by simp only [U.enc,J4,DVr] at h;obtain⟨y,r,rfl,⟨rfl,_⟩,rfl⟩:=h;rfl
 | .bool,_,x,vs,h=>by simp only [U.enc,J4,DVr] at h;obtain⟨y,r,rfl,⟨rfl,_⟩,rfl⟩:=h;rfl
 | .str,_,x,vs,h=>by simp only [U.enc,J4,DVr] at h;obtain⟨y,r,rfl,⟨rfl,_⟩,rfl⟩:=h;rfl
 | .sl _,hf,_,_,_=>by cases hf
 | .arr _ _,hf,_,_,_=>by cases hf
 | .pr a b,hf,x,vs,h=>by
  have hf':(a.flat && b.flat)=true:=hf
  rw [Bool.and_eq_true] at hf'
  rw [U.enc] at h
  obtain⟨p,q,rfl,h1,h2⟩:=J4.split h
  rw [U.encV,a.encV_of hf'.1 _ h1,b.encV_of hf'.2 _ h2]
theorem U.encV_to:(u:U)->u.flat=true->(x:u.den)->J4 I w (u.enc x) (u.encV x)
 | .int _,_,x=>by simp only [U.enc,U.encV,J4,DVr];exact⟨_,_,rfl,⟨rfl,rfl⟩,rfl⟩
 | .byte,_,x=>by simp only [U.enc,U.encV,J4,DVr];exact⟨_,_,rfl,⟨rfl,rfl⟩,rfl⟩
 | .bool,_,x=>by simp only [U.enc,U.encV,J4,DVr];exact⟨_,_,rfl,⟨rfl,rfl⟩,rfl⟩
 | .str,_,x=>by simp only [U.enc,U.encV,J4,DVr];exact⟨_,_,rfl,⟨rfl,rfl⟩,rfl⟩
 | .sl _,hf,_=>by cases hf
 | .arr _ _,hf,_=>by cases hf
 | .pr a b,hf,x=>by
  have hf':(a.flat && b.flat)=true:=hf
  rw [Bool.and_eq_true] at hf'
  rw [U.enc,U.encV]
  exact J4.app (a.encV_to hf'.1 _) (b.encV_to hf'.2 _)
theorem H6.of_get {z:Nat}:∀ {es:List (List DV)} {xs:List Value},xs.length=es.length * z->(∀ i e,es[i]?=some e->J4 I w e ((xs.drop (i * z)).take z))->H6 I w es xs
 | [],xs,hl,_=>by
  simp only [List.length_nil,Nat.zero_mul] at hl
  simp only [H6]
  exact List.eq_nil_of_length_eq_zero hl
 | e :: es,xs,hl,h=>by
  simp only [H6]
  have h0:=h 0 e rfl
  rw [Nat.zero_mul,List.drop_zero] at h0
  refine⟨xs.take z,xs.drop z,(List.take_append_drop z xs).symm,h0,H6.of_get (z:=z) ?_ fun i e' he=>?_⟩
  ·rw [List.length_drop,hl,List.length_cons,Nat.succ_mul];omega
  ·have:=h (i + 1) e' he
   rw [List.drop_drop]
   rwa [Nat.succ_mul,Nat.add_comm (i * z) z] at this
end
end Go.Proofs.YtacnfjjkhpkloaaGreat.Am
namespace Go.Proofs.YtacnfjjkhpkloaaGreat.Am
open Go
theorem J4.flat {I I':Nat->Nat->Prop} {w w':World} {u:U} (hu:u.flat=true) (x:u.den) {vs:List Value} (h:J4 I w (u.enc x) vs):J4 I' w' (u.enc x) vs:=by
 rw [U.encV_of u hu x h]
 exact U.encV_to u hu x
theorem H6.flat {I I':Nat->Nat->Prop} {w w':World} {u:U} (hu:u.flat=true):∀ (l:List u.den) {xs:List Value},H6 I w (l.map u.enc) xs->H6 I' w' (l.map u.enc) xs
 | [],_,h=>h
 | x :: l,xs,h=>by
  simp only [List.map_cons,H6] at h ⊢
  obtain⟨c,r,rfl,h2,h3⟩:=h
  exact⟨c,r,rfl,J4.flat hu x h2,H6.flat hu l h3⟩
theorem a0b.flat {I I':Nat->Nat->Prop} {w:World} {u:U} (hu:u.flat=true) {l:List u.den} {v:Value} {e:TypeId} (he:e < a0S) (h:a0b I w v ⟨l.map u.enc,u.size,e,false⟩):a0b I' w v ⟨l.map u.enc,u.size,e,false⟩:=by
 obtain⟨h1,h2,xs,ho,hd⟩:=h.sl he
 exact⟨h1,h2,.inl ⟨he,xs,ho,H6.flat hu l hd⟩⟩
def c0e {u:U} (by_:Nat) (l:List u.den):Option (List u.den × List u.den):=(a5w by_ l).bind fun r=>some (l,r)
def a5V (by_:Nat) (u:U) (e:TypeId):TFn:=⟨.cons (.rx u e) .nil,.rcons u e .nil,.cons (.c (.row u e)) .nil,List u.den × List u.den,fun a=>c0e by_ a.1,fun r=>((r.1,()),(r.2,())),.none⟩
theorem b7z {P:Program} {f:FuncId} {by_:Nat} {u:U} {e:TypeId} (hu:u.flat=true) (he:e < a0S) (h:FnT P f (N6 by_ u e)):FnT P f (a5V by_ u e):=
 ⟨rfl,rfl,⟨trivial,h.ok.isf,fun w I F args xs hIn hgl hargs hF hp=>by
  obtain⟨⟨l,u1⟩,r,rfl,hr⟩:=hp
  change List u.den at l
  replace hr:(a5w by_ l).bind (fun r=>some (l,r))=some r:=hr
  obtain⟨hc,hcl⟩:a5w by_ l=some l/\r=(l,l):=by
   unfold a5w at hr ⊢
   cases hd:decide ((0 + l.length) * by_<=LIM/\0 + l.length<=LEN) with
   | false=>rw [hd] at hr;cases hr
   | true=>rw [hd] at hr;injection hr with hr;exact⟨rfl,hr.symm⟩
  subst hcl
  replace hargs:OAs I w [.rx u.size e (l.map u.enc)] args.toList F:=hargs
  simp only [OAs,OAr,OCr] at hargs
  obtain⟨v,r1,F1,F2,e1,⟨ex,hrow,hF1,hI,_⟩,⟨rfl,rfl⟩,rfl⟩:=hargs
  rw [if_neg (I8 he),List.append_nil] at hF1
  subst hF1
  have ha:args= #[v]:=by cases args;simp only at e1;subst e1;rfl
  subst ha
  have epost:((a5V by_ u e).spec.post ((a5V by_ u e).args.oas (l,u1)))=[.rx u.size e (l.map u.enc)]:=by
   rw [TFn.post_of (S:=a5V by_ u e) (a:=(l,u1)) (r:=(l,l)) rfl hr];rfl
  have eres:((a5V by_ u e).spec.res ((a5V by_ u e).args.oas (l,u1)))=[.c (.row u.size e (l.map u.enc))]:=by
   rw [TFn.res_of (S:=a5V by_ u e) (a:=(l,u1)) (r:=(l,l)) rfl hr];rfl
  have epost1:((N6 by_ u e).spec.post ((N6 by_ u e).args.oas (l,u1)))=[]:=by
   rw [TFn.post_of (S:=N6 by_ u e) (a:=(l,u1)) (r:=l) rfl hc];rfl
  have eres1:((N6 by_ u e).spec.res ((N6 by_ u e).args.oas (l,u1)))=[.c (.row u.size e (l.map u.enc))]:=by
   rw [TFn.res_of (S:=N6 by_ u e) (a:=(l,u1)) (r:=l) rfl hc];rfl
  have hdv:DVr (fun b o=>I b o\/(obk v=some b/\o < l.length * u.size)) w (.sl (l.map u.enc)) v:=by
   obtain⟨hz,hes,xs,how,hd⟩:=hrow.sl he
   have hd':H6 (fun b o=>I b o\/(obk v=some b/\o < l.length * u.size)) w (l.map u.enc) xs:=H6.mono (fun _ _ h=> .inl h) (a2R.refl _ _) _ hd
   simp only [DVr]
   rcases how.2 with⟨hv,h0⟩ | ⟨g,cap,cur,hv,_,hg,h1,h2,_⟩
   ·have h0':(l.map u.enc).length=0:=h0
    exact⟨none,0,u.size,xs,by rw [hv,h0'],by omega,by simp [maxLen],hz,hes,fun h=>by omega,hd'⟩
   ·refine⟨some ⟨g,0,none⟩,cap,u.size,xs,hv,h1,h2,hz,hes,fun _=>⟨_,rfl,fun j x hj=>⟨how.cells (g:=g) (by rw [hv];rfl) j x hj,.inr ⟨by rw [hv];rfl,?_⟩⟩⟩,hd'⟩
    have:=(List.getElem?_eq_some_iff.1 hj).1
    rw [how.1,List.length_map] at this
    simpa using this
  have hcall:=h.ok.calls w (fun b o=>I b o\/(obk v=some b/\o < l.length * u.size)) [] #[v] ((N6 by_ u e).args.oas (l,u1)) (fun b o hb=>by
   rcases hb with hb | ⟨hb,_⟩
   ·exact hIn b o hb
   ·exact hrow.lt hb) (hgl.mono (fun _ _ h=> .inl h) (a2R.refl _ _)) (by
   show OAs _ w [.c (.d (.sl (l.map u.enc)))] [v] []
   simp only [OAs,OAr,OCr]
   exact⟨v,[],[],[],rfl,⟨rfl,hdv⟩,⟨rfl,rfl⟩,rfl⟩) List.nodup_nil ⟨(l,u1),l,rfl,hc⟩
  refine Calls.mono hcall fun o w' h1=>?_
  cases o <;> try exact h1.elim
  case returned v'=>
   obtain⟨I',vs,Fp,Fr',hv',H⟩:=h1
   have hF0:Fp=[]:=by
    have:=H.post
    rw [epost1] at this
    exact this.2
   subst hF0
   have hfr:Fr w (· ∈ ((obk v).toList ++ [])) w':=⟨H.fr.os,H.fr.tape,H.fr.output,H.fr.size,fun k hk _=>H.fr.block k hk (by simp)⟩
   have hgr:w.grownBy w' none:=⟨H.fr.os,H.fr.tape,H.fr.output,H.fr.size,fun k hk _=>H.fr.block k hk (by simp)⟩
   have hkeep:a2R I w w':=fun b o hi=>H.keep b o (.inl hi)
   refine⟨fun b o=>I' b o/\obk v ≠ some b,vs,(obk v).toList,Fr',hv',⟨hfr,fun b o hi=>⟨H.sub b o (.inl hi),fun e=>hI b o e hi⟩,hkeep,fun b o hi=>?_,fun b o hi=>H.lt b o hi.1,?_,?_,?_,fun b hb=>?_⟩⟩
   ·rcases H.new b o hi.1 with(h | ⟨h,_⟩) | h | h
    ·exact .inl h
    ·exact(hi.2 h).elim
    ·cases h
    ·exact .inr (.inr h)
   ·rw [epost]
    simp only [OAs,OAr,OCr]
    exact⟨v,[],(obk v).toList,[],rfl,⟨[],(ownsRow.kept' hrow hgr (fun _ _ h=>by cases h) hkeep).flat hu he,by rw [if_neg (I8 he),List.append_nil],fun g o hg hi=>hi.2 hg,fun h=>absurd h (I8 he)⟩,⟨rfl,rfl⟩,by simp⟩
   ·rw [eres]
    have hres:=H.res
    rw [eres1] at hres
    simp only [OAs,OAr,OCr] at hres ⊢
    obtain⟨x,r,G1,G2,rfl,⟨ex',q1,q2,q3,_⟩,⟨rfl,rfl⟩,q5⟩:=hres
    exact⟨x,[],G1,[],rfl,⟨[],q1.flat hu he,by rw [q2,if_neg (I8 he),if_neg (I8 he)],fun g o hg hi=>q3 g o hg hi.1,fun h=>absurd h (I8 he)⟩,⟨rfl,rfl⟩,q5⟩
   ·rw [List.nodup_append]
    refine⟨by cases obk v <;> simp,by simpa using H.nodup,fun a ha b hb hab=>?_⟩
    subst hab
    have h1:obk v=some a:=by simpa using ha
    rcases H.own a (by simpa using hb) with h | h
    ·cases h
    ·have:=hrow.lt h1;omega
   ·rcases List.mem_append.1 hb with hb | hb
    ·exact .inl (by simpa using hb)
    ·rcases H.own b (by simpa using hb) with h | h
     ·cases h
     ·exact .inr h⟩⟩
end Go.Proofs.YtacnfjjkhpkloaaGreat.Am
namespace Go.Proofs.YtacnfjjkhpkloaaGreat.Am
open Go
def C6 (n:Int):Int:=IntKind.wrap .i64 n
def wu8 (n:Int):Int:=IntKind.wrap .u8 n
def a96 (n:Int):Int:=IntKind.wrap .u32 n
def a3P (n:Int):Int:=IntKind.wrap .u64 n
end Go.Proofs.YtacnfjjkhpkloaaGreat.Am
namespace Go.Proofs.YtacnfjjkhpkloaaGreat.Am
open Go
def Ok {α:Type} (o:Option α) (p:α->Prop):Prop:=∃ r,o=some r/\p r
theorem Ok.mono {α:Type} {o:Option α} {p q:α->Prop} (h:Ok o p) (k:∀ r,p r->q r):Ok o q:=by
 obtain⟨r,h1,h2⟩:=h;exact⟨r,h1,k r h2⟩
theorem B9 {α:Type} (x:α) (p:α->Prop):Ok (some x) p ↔ p x:=⟨fun⟨r,h1,h2⟩=>by injection h1 with h1;rw [h1];exact h2,fun h=>⟨x,rfl,h⟩⟩
theorem F8 {α:Type} (b:Bool) (k:Option α) (p:α->Prop):Ok (chk b k) p ↔ b=true/\Ok k p:=by
 cases b
 ·exact⟨fun⟨r,h,_⟩=>(by cases h),fun h=>(by cases h.1)⟩
 ·exact⟨fun h=>⟨rfl,h⟩,fun h=>h.2⟩
theorem D2 {α:Type} (b:Bool) (x y:Option α) (p:α->Prop):Ok (sel b x y) p ↔ (b=true->Ok x p)/\(b=false->Ok y p):=by
 cases b
 ·exact⟨fun h=>⟨fun e=>(by cases e),fun _=>h⟩,fun h=>h.2 rfl⟩
 ·exact⟨fun h=>⟨fun _=>h,fun e=>(by cases e)⟩,fun h=>h.1 rfl⟩
theorem C2 {α β:Type} (o:Option α) (f:α->Option β) (p:β->Prop):Ok (o.bind f) p ↔ Ok o fun r=>Ok (f r) p:=by
 cases o with
 | none=>exact⟨fun⟨r,h,_⟩=>(by cases h),fun⟨r,h,_⟩=>(by cases h)⟩
 | some x=>rw [B9];exact Iff.rfl
theorem F0 {α β:Type} (o:Option α) (f:α->β) (p:β->Prop):Ok (o.map f) p ↔ Ok o fun r=>p (f r):=by
 cases o with
 | none=>exact⟨fun⟨r,h,_⟩=>(by cases h),fun⟨r,h,_⟩=>(by cases h)⟩
 | some x=>rw [B9,Option.map_some,B9]
theorem a1q {α:Type} {o:Option α} {x:α}:Ok o (· =x) ↔ o=some x:=⟨fun⟨r,h,e⟩=>by rw [h,e],fun h=>⟨x,h,rfl⟩⟩
def Nxt {S R:Type} (p:R->Prop) (q:S->Prop):S ⊕ R->Prop
 | .inl z=>q z
 | .inr r=>p r
theorem C9 {S R:Type} (p:R->Prop) (q:S->Prop) (z:S):Nxt p q (.inl z)=q z:=rfl
theorem D4 {S R:Type} (p:R->Prop) (q:S->Prop) (r:R):Nxt p q (.inr r)=p r:=rfl
theorem E4 {n:Int} (h0: -9223372036854775808<=n) (h1:n<=9223372036854775807):C6 n=n:=by
 rw [C6,IntKind.wrap_i64];omega
theorem a7n {n:Int} (h0:0<=n) (h1:n < 18446744073709551616):a3P n=n:=by
 rw [a3P,IntKind.wrap_u64];omega
theorem b0c (n:Int):0<=wu8 n/\wu8 n < 256:=by
 rw [wu8,IntKind.wrap_u8];omega
end Go.Proofs.YtacnfjjkhpkloaaGreat.Am
