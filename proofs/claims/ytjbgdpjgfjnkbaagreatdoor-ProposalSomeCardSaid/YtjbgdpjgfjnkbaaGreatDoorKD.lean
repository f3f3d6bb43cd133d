/- Texts laid together: TmCall, TmCall2, TmLay, TmExec, TmFn, TmVw, TmClone, TmFlat, TmPlain, TmAid. No conditions. -/
import Derived.Test.YtjbgdpjgfjnkbaaGreatDoorKC
import Derived.KernelRfl
namespace Go.Proofs.YtjbgdpjgfjnkbaaGreatDoor.Am
open Go
def TM {α:Type} (p:List DV->Option (α × List DV)):List (List DV)->Option (List α)
 | []=>some []
 | e :: es=>(p e).bind λa=>(TM p es).map (a.1 :: ·)
def ZY {α:Type} (p:List DV->Option (α × List DV)):(n:Nat)->List DV->Option (Vector α n × List DV)
 | 0,l=>some (#v[],l)
 | n + 1,l=>(ZY p n l).bind λa=>(p a.2).map λb=>(a.1.push b.1,b.2)
def U.dec:(u:U)->List DV->Option (u.den × List DV)
 | .int _,l=>match l with
  | .v (.int _ n) :: r=>some (n,r)
  | _=>none
 | .byte,l=>match l with
  | .v (.int _ n) :: r=>some (UInt8.ofNat n.toNat,r)
  | _=>none
 | .bool,l=>match l with
  | .v (.bool b) :: r=>some (b,r)
  | _=>none
 | .str,l=>match l with
  | .v (.string s) :: r=>some (s.data.toList,r)
  | _=>none
 | .sl u,l=>match l with
  | .sl es :: r=>(TM u.dec es).map λx=>(x,r)
  | _=>none
 | .pr a b,l=>(a.dec l).bind λx=>(b.dec x.2).map λy=>((x.1,y.1),y.2)
 | .arr n u,l=>ZY u.dec n l
theorem BD {α:Type} {p:List DV->Option (α × List DV)} {f:α->List DV} (h:∀ x r,p (f x ++ r)=some (x,r)):∀ (l:List α),TM p (l.map f)=some l
 | []=>rfl
 | x :: l=>by
  have:=h x [];rw [a3b] at this;rw [a3h,TM,this,a2X,BD h l];rfl
theorem MZ {α:Type} {p:List DV->Option (α × List DV)} {f:α->List DV} (h:∀ x r,p (f x ++ r)=some (x,r)):∀ (n:Nat) (v:Vector α n) (r:List DV),ZY p n (v.toList.flatMap f ++ r)=some (v,r)
 | 0,v,r=>by
  have:v= #v[]:=by ext i hi;omega
  subst this;rfl
 | n + 1,v,r=>by
  have e:v=v.pop.push v.back:=(Vector.push_pop_back v).symm;rw [e,a5p,a4F,a3c,ZY,MZ h n v.pop,a2X];simp only [a3C,List.flatMap_nil,a3b,h,a3s]
theorem Ra (x:UInt8) (r:List DV):some (UInt8.ofNat ((UInt8.toNat x:Nat):Int).toNat,r)=some (x,r):=by
 rw [a2T,UInt8.ofNat_toNat]
theorem U.dec_enc:∀ (u:U) (x:u.den) (r:List DV),u.dec (u.enc x ++ r)=some (x,r)
 | .int _,_,_=>rfl
 | .byte,x,r=>Ra x r
 | .bool,_,_=>rfl
 | .str,_,_=>rfl
 | .sl u,l,r=>by
  show(TM u.dec (List.map u.enc l)).map (λx=>(x,r))=some (l,r);rw [BD (U.dec_enc u) l];rfl
 | .pr a b,x,r=>by
  show(a.dec ((a.enc x.1 ++ b.enc x.2) ++ r)).bind (λy=>(b.dec y.2).map λz=>((y.1,z.1),z.2))=some (x,r);rw [a3c,U.dec_enc a,a2X,U.dec_enc b];rfl
 | .arr n u,v,r=>MZ (U.dec_enc u) n v r
mutual
inductive OT where
 | d (u:U)
 | npt
 | it (t:TypeId) (u:U) (h:u.size=1)
 | fn (f:FuncId)
 | clo (f:FuncId) (u:U)
 | e (u:U)
 | row (u:U) (e:TypeId)
 | box (ts:OTs)
inductive OTs where
 | nil
 | cons (t:OT) (ts:OTs)
end
mutual
def OT.den:OT->Type
 | .d u=>u.den
 | .fn _=>Unit
 | .npt=>Unit
 | .it _ u _=>u.den
 | .clo _ u=>u.den
 | .e u=>u.den
 | .row u _=>List u.den
 | .box ts=>ts.den
def OTs.den:OTs->Type
 | .nil=>Unit
 | .cons t ts=>t.den × ts.den
end
mutual
def OT.ocs:(t:OT)->t.den->List OC
 | .d u,x=>(u.enc x).map .d
 | .fn f,_=>[.d (.v (.func (.func f) #[] #[]))]
 | .npt,_=>[.d (.v (.pointer none))]
 | .it t u _,x=>[.d (.it t (Bs (u.enc x)))]
 | .clo f u,x=>[.d (.clo f (u.enc x))]
 | .e u,x=>[.e (u.enc x)]
 | .row u e,l=>[.row u.size e (List.map u.enc l)]
 | .box ts,x=>[.box (ts.ocs x)]
def OTs.ocs:(ts:OTs)->ts.den->List OC
 | .nil,_=>[]
 | .cons t ts,x=>t.ocs x.1 ++ ts.ocs x.2
end
mutual
def OT.sh:OT->List CSh
 | .d u=>List.replicate u.size .D
 | .fn _=>[.D]
 | .npt=>[.D]
 | .it _ _ _=>[.D]
 | .clo _ _=>[.D]
 | .e _=>[.E]
 | .row u e=>[.R u.size e]
 | .box ts=>[.B ts.sh]
def OTs.sh:OTs->List CSh
 | .nil=>[]
 | .cons t ts=>t.sh ++ ts.sh
end
def unD:List OC->Option (List DV)
 | []=>some []
 | .d x :: r=>(unD r).map (x :: ·)
 | _ :: _=>none
theorem TN:∀ (l:List DV),unD (l.map .d)=some l
 | []=>rfl
 | x :: l=>by rw [a3h,unD,TN l];rfl
mutual
def OT.dec:(t:OT)->List OC->Option (t.den × List OC)
 | .d u,l=>(unD (l.take u.size)).bind λds=>(u.dec ds).map λx=>(x.1,l.drop u.size)
 | .fn _,l=>some ((),l.drop 1)
 | .npt,l=>some ((),l.drop 1)
 | .it _ u _,l=>match l with
  | .d (.it _ d) :: r=>(u.dec [d]).map λy=>(y.1,r)
  | _=>none
 | .clo _ u,l=>match l with
  | .d (.clo _ ds) :: r=>(u.dec ds).map λy=>(y.1,r)
  | _=>none
 | .e u,l=>match l with
  | .e ds :: r=>(u.dec ds).map λy=>(y.1,r)
  | _=>none
 | .row u _,l=>match l with
  | .row _ _ es :: r=>(TM u.dec es).map λx=>(x,r)
  | _=>none
 | .box ts,l=>match l with
  | .box cs :: r=>(ts.dec cs).map λx=>(x.1,r)
  | _=>none
def OTs.dec:(ts:OTs)->List OC->Option (ts.den × List OC)
 | .nil,l=>some ((),l)
 | .cons t ts,l=>(t.dec l).bind λx=>(ts.dec x.2).map λy=>((x.1,y.1),y.2)
end
theorem a0C (u:U) (x:u.den) (r:List OC):(unD ((((u.enc x).map OC.d) ++ r).take u.size)).bind (λds=>(u.dec ds).map λy=>(y.1,(((u.enc x).map OC.d) ++ r).drop u.size))=some (x,r):=by
 have hl:((u.enc x).map OC.d).length=u.size:=by rw [a3d,U.enc_len]
 rw [<-hl,a3Q,a3F,TN,a2X];have:=U.dec_enc u x [];rw [a3b] at this;rw [this];rfl
theorem a0D (u:U) (x:u.den):((u.enc x).map OC.d).length=(List.replicate u.size CSh.D).length:=by
 rw [a3d,U.enc_len,a3W]
theorem Na (u:U) (x:u.den) (r:List OC):(u.dec (u.enc x)).map (λy=>(y.1,r))=some (x,r):=by
 have h1:=U.dec_enc u x [];rw [a3b] at h1;rw [h1];rfl
theorem XF (u:U) (h:u.size=1) (x:u.den) (r:List OC):(u.dec [Bs (u.enc x)]).map (λy=>(y.1,r))=some (x,r):=by
 have h1:=U.dec_enc u x [];rw [a3b] at h1;rw [HA (ds:=u.enc x) (by rw [U.enc_len,h]),h1];rfl
mutual
theorem OT.dec_ocs:∀ (t:OT) (x:t.den) (r:List OC),t.dec (t.ocs x ++ r)=some (x,r)
 | .d u,x,r=>a0C u x r
 | .fn _,_,_=>rfl
 | .npt,_,_=>rfl
 | .it t u h,x,r=>by
  exact XF u h x r
 | .clo f u,x,r=>Na u x r
 | .e u,x,r=>Na u x r
 | .row u _,l,r=>by
  show(TM u.dec (List.map u.enc l)).map (λx=>(x,r))=some (l,r);rw [BD (U.dec_enc u) l];rfl
 | .box ts,x,r=>by
  show(ts.dec (ts.ocs x)).map (λy=>(y.1,r))=some (x,r);have:=OTs.dec_ocs ts x [];rw [a3b] at this;rw [this];rfl
theorem OTs.dec_ocs:∀ (ts:OTs) (x:ts.den) (r:List OC),ts.dec (ts.ocs x ++ r)=some (x,r)
 | .nil,_,_=>rfl
 | .cons t ts,x,r=>by
  show(t.dec ((t.ocs x.1 ++ ts.ocs x.2) ++ r)).bind (λy=>(ts.dec y.2).map λz=>((y.1,z.1),z.2))=some (x,r);rw [a3c,OT.dec_ocs t,a2X,OTs.dec_ocs ts];rfl
end
def Kh:List OC->OC
 | [x]=>x
 | _=> .row 0 0 []
inductive AT where
 | c (t:OT)
 | agg (ts:OTs)
 | bx (ts:OTs)
 | rx (u:U) (e:TypeId)
def AT.den:AT->Type
 | .c t=>t.den
 | .agg ts=>ts.den
 | .bx ts=>ts.den
 | .rx u _=>List u.den
def AT.oa:(t:AT)->t.den->OA
 | .c t,x=> .c (Kh (t.ocs x))
 | .agg ts,x=> .agg (ts.ocs x)
 | .bx ts,x=> .bx (ts.ocs x)
 | .rx u e,l=> .rx u.size e (List.map u.enc l)
def AT.ok:AT->Bool
 | .c t=>Nat.beq t.sh.length 1
 | _=>true
def AT.ash:AT->ASh
 | .c t=> .c (t.sh.headD .D)
 | .agg ts=> .agg ts.sh
 | .bx ts=> .bx ts.sh
 | .rx u e=> .rx u.size e
def AT.dec:(t:AT)->OA->Option t.den
 | .c t,x=>match x with
  | .c y=>(t.dec [y]).map (·.1)
  | _=>none
 | .agg ts,x=>match x with
  | .agg ys=>(ts.dec ys).map (·.1)
  | _=>none
 | .bx ts,x=>match x with
  | .bx ys=>(ts.dec ys).map (·.1)
  | _=>none
 | .rx u _,x=>match x with
  | .rx _ _ es=>TM u.dec es
  | _=>none
mutual
theorem OT.len:∀ (t:OT) (x:t.den),(t.ocs x).length=t.sh.length
 | .d u,x=>a0D u x
 | .fn _,_=>rfl
 | .npt,_=>rfl
 | .it _ _ _,_=>rfl
 | .clo _ _,_=>rfl
 | .e _,_=>rfl
 | .row _ _,_=>rfl
 | .box _,_=>rfl
theorem OTs.len:∀ (ts:OTs) (x:ts.den),(ts.ocs x).length=ts.sh.length
 | .nil,_=>rfl
 | .cons t ts,x=>by
  show(t.ocs x.1 ++ ts.ocs x.2).length=(t.sh ++ ts.sh).length;rw [a2V,a2V,OT.len t,OTs.len ts]
end
theorem sy {l:List OC} (h:l.length=1):l=[Kh l]:=by
 match l,h with
 | [x],_=>rfl
theorem AT.dec_oa (t:AT) (hk:t.ok=true) (x:t.den):t.dec (t.oa x)=some x:=by
 cases t with
 | c t=>
  have h1:(t.ocs x).length=1:=by rw [OT.len t x];exact a22 hk
  have:=OT.dec_ocs t x [];rw [a3b,sy h1] at this;show(t.dec [Kh (t.ocs x)]).map (·.1)=some x;rw [this];rfl
 | agg ts=>
  have:=OTs.dec_ocs ts x [];rw [a3b] at this;show(ts.dec (ts.ocs x)).map (·.1)=some x;rw [this];rfl
 | bx ts=>
  have:=OTs.dec_ocs ts x [];rw [a3b] at this;show(ts.dec (ts.ocs x)).map (·.1)=some x;rw [this];rfl
 | rx u e=>exact BD (U.dec_enc u) x
inductive ATs where
 | nil
 | cons (t:AT) (ts:ATs)
def ATs.den:ATs->Type
 | .nil=>Unit
 | .cons t ts=>t.den × ts.den
def ATs.oas:(ts:ATs)->ts.den->List OA
 | .nil,_=>[]
 | .cons t ts,x=>t.oa x.1 :: ts.oas x.2
def ATs.ok:ATs->Bool
 | .nil=>true
 | .cons t ts=>t.ok && ts.ok
def ATs.sh:ATs->List ASh
 | .nil=>[]
 | .cons t ts=>t.ash :: ts.sh
def ATs.dec:(ts:ATs)->List OA->Option ts.den
 | .nil,_=>some ()
 | .cons t ts,l=>match l with
  | x :: r=>(t.dec x).bind λa=>(ts.dec r).map λb=>(a,b)
  | []=>none
theorem ATs.dec_oas:∀ (ts:ATs),ts.ok=true->∀ (x:ts.den),ts.dec (ts.oas x)=some x
 | .nil,_,_=>rfl
 | .cons t ts,h,x=>by
  simp only [ATs.ok,a24] at h;show(t.dec (t.oa x.1)).bind (λa=>(ts.dec (ts.oas x.2)).map λb=>(a,b))=some x;rw [AT.dec_oa t h.1,a2X,ATs.dec_oas ts h.2];rfl
inductive PTs where
 | nil
 | cons (t:OTs) (ts:PTs)
 | rcons (u:U) (e:TypeId) (ts:PTs)
def PTs.den:PTs->Type
 | .nil=>Unit
 | .cons t ts=>t.den × ts.den
 | .rcons u _ ts=>List u.den × ts.den
def PTs.ocs:(ts:PTs)->ts.den->List OA
 | .nil,_=>[]
 | .cons t ts,x=> .bx (t.ocs x.1) :: ts.ocs x.2
 | .rcons u e ts,x=> .rx u.size e (List.map u.enc x.1) :: ts.ocs x.2
structure TFn:Type 1 where
 args:ATs
 posts:PTs
 res:ATs
 R:Type
 G:args.den->Option R
 out:R->posts.den × res.den
 sp:Sp
def U.noSl:U->Bool
 | .sl _=>false
 | .pr a b=>a.noSl && b.noSl
 | .arr _ u=>u.noSl
 | _=>true
theorem U.noSl_ok:∀ (u:U),u.noSl=true->∀ (x:u.den),(List.map OC.d (u.enc x)).all wh=true
 | .int _,_,_=>rfl
 | .byte,_,_=>rfl
 | .bool,_,_=>rfl
 | .str,_,_=>rfl
 | .sl _,h,_=>by cases h
 | .pr a b,h,x=>by
  have h':(a.noSl && b.noSl)=true:=h;rw [a24] at h';rw [U.enc,a3g,List.all_append,a.noSl_ok h'.1,b.noSl_ok h'.2];rfl
 | .arr n u,h,v=>by
  have h':u.noSl=true:=h;rw [U.enc,a4f];intro c hc;obtain⟨d,hd,rfl⟩:=List.mem_map.1 hc;obtain⟨y,_,hy⟩:=List.mem_flatMap.1 hd;exact List.all_eq_true.1 (u.noSl_ok h' y) _ (List.mem_map.2 ⟨d,hy,rfl⟩)
def OT.flat:OT->Bool
 | .d u=>u.noSl
 | _=>false
theorem OT.flat_ok (t:OT) (h:t.flat=true) (x:t.den):(t.ocs x).all wh=true:=by
 cases t <;> first | cases h | skip
 case d u=>exact u.noSl_ok h x
def OTs.flat:OTs->Bool
 | .nil=>true
 | .cons t ts=>t.flat && ts.flat
theorem OTs.flat_ok:∀ (ts:OTs),ts.flat=true->∀ (x:ts.den),(ts.ocs x).all wh=true
 | .nil,_,_=>rfl
 | .cons t ts,h,x=>by
  have h':(t.flat && ts.flat)=true:=h;rw [a24] at h';rw [OTs.ocs,List.all_append,t.flat_ok h'.1,ts.flat_ok h'.2];rfl
def AT.flat:AT->Bool
 | .c t=>t.flat
 | .agg ts=>ts.flat
 | _=>false
def ATs.flat:ATs->Bool
 | .nil=>true
 | .cons t ts=>t.flat && ts.flat
def PTs.isNil:PTs->Bool
 | .nil=>true
 | _=>false
theorem PTs.isNil_ok (ts:PTs) (h:ts.isNil=true) (x:ts.den):ts.ocs x=[]:=by
 cases ts <;> first | rfl | cases h
def TFn.flat (S:TFn):Bool:=S.posts.isNil && S.res.flat
def TFn.val (S:TFn) (xs:List OA):Option S.R:=(S.args.dec xs).bind S.G
def TFn.spec (S:TFn):vH:=⟨S.args.sh,λxs=>∃ a r,xs=S.args.oas a/\S.G a=some r,
 λxs=>match S.val xs with | some r=>S.posts.ocs (S.out r).1 | none=>[],λxs=>match S.val xs with | some r=>S.res.oas (S.out r).2 | none=>[],S.sp,S.flat⟩
theorem TFn.val_of {S:TFn} (hk:S.args.ok=true) {a:S.args.den} {r:S.R} (h:S.G a=some r):S.val (S.args.oas a)=some r:=by
 unfold TFn.val;rw [ATs.dec_oas _ hk,a2X,h]
theorem TFn.post_of {S:TFn} (hk:S.args.ok=true) {a:S.args.den} {r:S.R} (h:S.G a=some r):S.spec.post (S.args.oas a)=S.posts.ocs (S.out r).1:=by
 show(match S.val (S.args.oas a) with | some r=>S.posts.ocs (S.out r).1 | none=>[])=_
 rw [S.val_of hk h]
theorem TFn.res_of {S:TFn} (hk:S.args.ok=true) {a:S.args.den} {r:S.R} (h:S.G a=some r):S.spec.res (S.args.oas a)=S.res.oas (S.out r).2:=by
 show(match S.val (S.args.oas a) with | some r=>S.res.oas (S.out r).2 | none=>[])=_
 rw [S.val_of hk h]
structure Tt (α:Type) where
 x:α
 rest:List TC
 fz:List Nat
 ids:List (Nat ⊕ Nat)
mutual
def yg:(t:OT)->List TC->TQ (Tt t.den)
 | .d u,ps=>(PK u ps).bind λp=> .ret ⟨p.x,p.rest,p.fz,[]⟩
 | .npt,ps=>match ps with
  | .npt :: rest=> .ret ⟨(),rest,[],[]⟩
  | _=> .fail
 | .it t u _,ps=>match ps with
  | .it t' v x :: rest=>match decEq t' t with
   | .isTrue _=>match decEq v u with
    | .isTrue hu=> .ret ⟨pq hu x,rest,[],[]⟩
    | .isFalse _=> .fail
   | .isFalse _=> .fail
  | _=> .fail
 | .clo f u,ps=>match ps with
  | .clo g v x :: rest=>match decEq g f with
   | .isTrue _=>match decEq v u with
    | .isTrue hu=> .ret ⟨pq hu x,rest,[],[]⟩
    | .isFalse _=> .fail
   | .isFalse _=> .fail
  | _=> .fail
 | .e u,ps=>match ps with
  | .ep v x off :: rest=>match decEq v u with
   | .isTrue hu=> .req (Nat.beq off 0) (.ret ⟨pq hu x,rest,[],[]⟩)
   | .isFalse _=> .fail
  | _=> .fail
 | .fn f,ps=>match ps with
  | .fn g :: rest=>match decEq g f with
   | .isTrue _=> .ret ⟨(),rest,[],[]⟩
   | .isFalse _=> .fail
  | _=> .fail
 | .row u e,ps=>match ps with
  | .row id ver :: rest=> .rdR id λr=>match r.c with
   | some R=>match decEq R.u u with
    | .isTrue h=> .req (Nat.beq ver r.ver && Nat.beq R.e e && !R.fr) (.ret ⟨(h ▸ R.l:List u.den),rest,[],[.inr id]⟩)
    | .isFalse _=> .fail
   | none=> .fail
  | .nil :: rest=> .req (decide (0 < u.size/\e < ja)) (.ret ⟨([]:List u.den),rest,[],[]⟩)
  | _=> .fail
 | .box ts,ps=>match ps with
  | .ptr id ver off :: rest=> .rdB id λb=>match b.c with
   | some qs=>(Af ts qs).bind λk=> .req (k.rest.isEmpty && Nat.beq ver b.ver && Nat.beq off 0) (.ret ⟨k.x,rest,k.fz,.inl id :: k.ids⟩)
   | none=> .fail
  | _=> .fail
def Af:(ts:OTs)->List TC->TQ (Tt ts.den)
 | .nil,ps=> .ret ⟨(),ps,[],[]⟩
 | .cons t ts,ps=>(yg t ps).bind λp=>(Af ts p.rest).bind λq=> .ret ⟨(p.x,q.x),q.rest,p.fz ++ q.fz,p.ids ++ q.ids⟩
end
theorem Ag {s:St} {K:Tks->List ao->Prop}:∀ (a b:List CSh) (x y:List AC) {tr:List ao},((fG a x).wpt s tr λk rs=>(fG b y).wpt s rs λm rs'=>K ⟨k.ocs ++ m.ocs,k.fz ++ m.fz,k.ids ++ m.ids⟩ rs')->(fG (a ++ b) (x ++ y)).wpt s tr K
 | [],b,[],y,tr,h=>by simpa only [fG,Q.wpt,a3E] using h
 | [],b,_ :: _,y,tr,h=>by simp only [fG,Q.wpt] at h
 | _ :: _,b,[],y,tr,h=>by simp only [fG,Q.wpt] at h
 | c :: a,b,x :: xs,y,tr,h=>by
  simp only [a3x,fG,Q.wpt_bind,Q.wpt] at h ⊢;refine Q.wpt_mono h λd rs h1=>?_;refine Ag a b xs y (Q.wpt_mono h1 λe rs' h2=>?_);refine Q.wpt_mono h2 λg rs'' h3=>?_;simpa only [a3x,a3c] using h3
theorem HP {s:St} {K:Tks->List ao->Prop}:∀ (xs:List AC) {tr:List ao},((tG xs).wpt s tr λd rs=>K ⟨d.1.map .d,d.2,[]⟩ rs)->(fG (List.replicate xs.length .D) xs).wpt s tr K
 | [],_,h=>h
 | x :: xs,tr,h=>by
  simp only [tG,Q.wpt_bind,Q.wpt] at h;simp only [a27,a4t,fG,xP,Q.wpt_bind,Q.wpt];refine Q.wpt_mono h λd rs h1=>?_;refine HP xs (Q.wpt_mono h1 λe rs' h2=>?_);simpa only [a3h,a3b] using h2
theorem HQ {s:St} {K:List DV × List Nat->List ao->Prop}:∀ (xs:List AC) {tr:List ao},(tG xs).wpt s tr K->(tG xs).wpt s tr λd rs=>d.1.length=xs.length/\K d rs
 | [],_,h=>⟨rfl,h⟩
 | x :: xs,tr,h=>by
  simp only [tG,Q.wpt_bind,Q.wpt] at h ⊢;refine Q.wpt_mono h λd rs h1=>?_;refine Q.wpt_mono (HQ xs h1) λe rs' h2=>?_;exact⟨by simp [h2.1],h2.2⟩
theorem Q.wpt_ex {α:Type} {q:Q α} {s:St} {K:α->List ao->Prop}:∀ {tr:List ao},q.wpt s tr K->∃ a rs,K a rs:=by
 induction q with
 | ret a=>exact λh=>⟨a,_,h⟩
 | rdT k g ih=>exact λh=>ih _ h
 | rdB k g ih=>exact λh=>ih _ h
 | rdR k g ih=>exact λh=>ih _ h
 | req p q ih=>exact λh=>ih h.2
 | fail=>exact λh=>h.elim
def a1D {α:Type} (f:α->List OC) (sh:List CSh) (p:List TC->TQ (Tt α)):Prop:=∀ (ps:List TC) (s:TSt) (tr:List ao) (K:Tt α->List ao->Prop),(p ps).wpt s tr K->
 ∃ pre k rs,C6 ps=pre ++ C6 k.rest/\K k rs/\(fG sh pre).wpt s.st tr λq rs'=>q=⟨f k.x,k.fz,k.ids⟩/\rs'=rs
mutual
theorem HR:∀ (t:OT),a1D t.ocs t.sh (yg t)
 | .d u,ps,s,tr,K,h=>by
  simp only [yg,TQ.wpt_bind] at h;obtain⟨pre,k,rs,e,h,d⟩:=xZ u ps s tr _ h;refine⟨pre,_,rs,e,h,?_⟩;have d2:=HQ pre d;obtain⟨x,rs',hl,hx,_⟩:=Q.wpt_ex d2;rw [hx,U.enc_len] at hl;show(fG (List.replicate u.size .D) pre).wpt _ _ _;rw [hl];refine HP pre (Q.wpt_mono d ?_);rintro d rs ⟨rfl,rfl⟩;exact⟨rfl,rfl⟩
 | .npt,ps,s,tr,K,h=>by
  unfold yg at h;split at h
  ·exact⟨[_],_,tr,rfl,h,show(fG [.D] [AC.d (.v (.pointer none))]).wpt _ _ _ from⟨rfl,rfl⟩⟩
  ·exact h.elim
 | .it t u hz,ps,s,tr,K,h=>by
  unfold yg at h;split at h
  ·split at h
   ·split at h
    ·rename_i e1 _ _ e2 _;subst e1;subst e2;exact⟨[_],_,tr,rfl,h,show(fG [.D] [AC.d (.it _ (Bs _))]).wpt _ _ _ from⟨rfl,rfl⟩⟩
    ·exact h.elim
   ·exact h.elim
  ·exact h.elim
 | .clo f u,ps,s,tr,K,h=>by
  unfold yg at h;split at h
  ·split at h
   ·split at h
    ·rename_i e1 _ _ e2 _;subst e1;subst e2;exact⟨[_],_,tr,rfl,h,show(fG [.D] [AC.d (.clo _ (U.enc _ _))]).wpt _ _ _ from⟨rfl,rfl⟩⟩
    ·exact h.elim
   ·exact h.elim
  ·exact h.elim
 | .e u,ps,s,tr,K,h=>by
  unfold yg at h;split at h
  ·split at h
   ·rename_i e2 _;subst e2;obtain⟨h0,h⟩:=h;rw [a22 h0];exact⟨[_],_,tr,rfl,h,show(fG [.E] [AC.eptr (U.enc _ _)]).wpt _ _ _ from⟨rfl,rfl⟩⟩
   ·exact h.elim
  ·exact h.elim
 | .fn f,ps,s,tr,K,h=>by
  unfold yg at h;split at h
  ·split at h
   ·rename_i hg _;subst hg;exact⟨[_],_,tr,rfl,h,show(fG [.D] [AC.d (.v (.func (.func _) #[] #[]))]).wpt _ _ _ from⟨rfl,rfl⟩⟩
   ·exact h.elim
  ·exact h.elim
 | .row u e,ps,s,tr,K,h=>by
  unfold yg at h;split at h
  ·rename_i id ver rest;simp only [TQ.wpt] at h;split at h
   ·rename_i R hR;split at h
    ·rename_i hu _;obtain⟨h1,h2⟩:=h;simp only [a24] at h1;refine⟨[.row id ver],_,_,rfl,h2,?_⟩;have hc:(s.st.r id).c=some R.row:=by show(s.r id).c.map wH.row=_;rw [hR];rfl
     simp only [OT.sh,fG,xP,Q.bind,Q.wpt];rw [hc];subst hu;refine⟨⟨a22 h1.1.1,rfl,a22 h1.1.2,by show R.fr=false;simpa using h1.2⟩,rfl,rfl⟩
    ·exact h.elim
   ·exact h.elim
  ·rename_i rest;obtain⟨h1,h2⟩:=h;exact⟨[.nil],_,tr,rfl,h2,a23 h1,rfl,rfl⟩
  ·exact h.elim
 | .box ts,ps,s,tr,K,h=>by
  unfold yg at h;split at h
  ·rename_i id ver off rest;simp only [TQ.wpt] at h;split at h
   ·rename_i qs hq;rw [TQ.wpt_bind] at h;obtain⟨pre,k,rs,e,h,d⟩:=uR ts qs s _ _ h;obtain⟨h1,h2⟩:=h;simp only [a24] at h1;have hr:=List.isEmpty_iff.1 h1.1.1;rw [hr] at e;have e:C6 qs=pre:=e.trans (a3b _);refine⟨[.ptr id ver off],_,_,rfl,h2,?_⟩;have hc:(s.st.b id).c=some (C6 qs):=by show(s.b id).c.map C6=_;rw [hq];rfl
    simp only [OT.sh,fG,xP,Q.wpt_bind,Q.wpt];rw [hc,e];simp only [Q.wpt_bind];refine Q.wpt_mono d ?_;rintro q rs' ⟨rfl,rfl⟩;exact⟨⟨a22 h1.1.2,a22 h1.2⟩,by simp only [a3b];rfl,rfl⟩
   ·exact h.elim
  ·exact h.elim
theorem uR:∀ (ts:OTs),a1D ts.ocs ts.sh (Af ts)
 | .nil,ps,s,tr,K,h=>⟨[],_,tr,rfl,h,rfl,rfl⟩
 | .cons t ts,ps,s,tr,K,h=>by
  simp only [Af,TQ.wpt_bind] at h;obtain⟨pre1,k1,rs1,e1,h,d1⟩:=HR t ps s tr _ h;obtain⟨pre2,k2,rs2,e2,h,d2⟩:=uR ts _ s rs1 _ h;refine⟨pre1 ++ pre2,_,rs2,by rw [e1,e2,a3c],h,Ag _ _ _ _ (Q.wpt_mono d1 ?_)⟩;rintro q rs ⟨rfl,rfl⟩;refine Q.wpt_mono d2 ?_;rintro q rs ⟨rfl,rfl⟩;exact⟨rfl,rfl⟩
end
structure Tta (α:Type) where
 x:α
 fz:List Nat
 ids:List (Nat ⊕ Nat)
 tops:List (Nat ⊕ Nat)
def Ah:(t:AT)->TV->TQ (Tta t.den)
 | .c t,v=>match v with
  | .o (.c x)=> .req (is1 x) ((yg t [x]).bind λk=> .req (k.rest.isEmpty) (.ret ⟨k.x,k.fz,k.ids,[]⟩))
  | _=> .fail
 | .agg ts,v=>match v with
  | .o (.agg ps)=>(Af ts ps).bind λk=> .req (k.rest.isEmpty) (.ret ⟨k.x,k.fz,k.ids,[]⟩)
  | _=> .fail
 | .bx ts,v=>match v with
  | .o (.c (.ptr id ver off))=> .rdB id λb=>match b.c with
   | some qs=>(Af ts qs).bind λk=> .req (k.rest.isEmpty && Nat.beq ver b.ver && Nat.beq off 0) (.ret ⟨k.x,k.fz,k.ids,[.inl id]⟩)
   | none=> .fail
  | _=> .fail
 | .rx u e,v=>match v with
  | .o (.c (.row id ver))=> .rdR id λr=>match r.c with
   | some R=>match decEq R.u u with
    | .isTrue h=> .req (Nat.beq ver r.ver && Nat.beq R.e e && !R.fr && Nat.blt e ja) (.ret ⟨(h ▸ R.l:List u.den),[],[],[.inr id]⟩)
    | .isFalse _=> .fail
   | none=> .fail
  | _=> .fail
theorem Ki (t:AT) (hk:t.ok=true) (v:TV):Sim (λk:Tta t.den=>(⟨t.oa k.x,k.fz,k.ids,k.tops⟩:Ta)) (Ah t v) (Qs t.ash v.av):=by
 cases t with
 | c t=>
  unfold Ah;simp only;split
  ·rename_i x;refine Sim.chk λh1 s tr K hK=>?_;rw [TQ.wpt_bind] at hK;obtain⟨pre,k,rs,e,hK,d⟩:=HR t _ s tr _ hK;obtain⟨h2,h3⟩:=hK;rw [List.isEmpty_iff.1 h2] at e;have e:C6 [x]=pre:=e.trans (a3b _);have e0:C6 [x]=[kR x.cells]:=(a3b _).trans (wl h1);rw [<-e,e0] at d;have hl:t.sh.length=1:=a22 hk
   match hs:t.sh,hl with
   | [c],_=>
    have hocs:t.ocs k.x=[Kh (t.ocs k.x)]:=sy (by rw [OT.len,hs];rfl);rw [hs] at d;simp only [fG,Q.wpt_bind,Q.wpt] at d;show((xP (t.sh.headD .D) (kR x.cells)).bind λk=>Q.ret (⟨.c k.oc,k.fz,k.ids,[]⟩:Ta)).wpt _ _ _;rw [hs,Q.wpt_bind];refine Q.wpt_mono d ?_;rintro q rs' ⟨hq,rfl⟩;rw [hocs] at hq;injection hq with q1 q2 q3;injection q1 with q1 _;refine⟨_,?_,h3⟩;simp only [a3b] at q2 q3;show(⟨.c q.oc,q.fz,q.ids,[]⟩:Ta)=⟨.c (Kh (t.ocs k.x)),k.fz,k.ids,[]⟩;rw [q1,q2,q3]
  ·exact Sim.fail
 | agg ts=>
  unfold Ah;simp only;split
  ·rename_i ps;intro s tr K hK;rw [TQ.wpt_bind] at hK;obtain⟨pre,k,rs,e,hK,d⟩:=uR ts _ s tr _ hK;obtain⟨h2,h3⟩:=hK;rw [List.isEmpty_iff.1 h2] at e;have e:C6 ps=pre:=e.trans (a3b _);rw [<-e] at d;show((fG ts.sh (C6 ps)).bind λk=>Q.ret (⟨.agg k.ocs,k.fz,k.ids,[]⟩:Ta)).wpt _ _ _;rw [Q.wpt_bind];refine Q.wpt_mono d ?_;rintro q rs' ⟨rfl,rfl⟩;exact⟨_,rfl,h3⟩
  ·exact Sim.fail
 | bx ts=>
  unfold Ah;simp only;split
  ·rename_i id ver off;refine Sim.rdB λb=>?_;obtain⟨bv,c⟩:=b;cases c with
   | none=>exact Sim.fail
   | some qs=>
    intro s tr K hK;simp only at hK;rw [TQ.wpt_bind] at hK;obtain⟨pre,k,rs,e,hK,d⟩:=uR ts _ s tr _ hK;obtain⟨h2,h3⟩:=hK;simp only [a24] at h2;rw [List.isEmpty_iff.1 h2.1.1] at e;have e:C6 qs=pre:=e.trans (a3b _);rw [<-e] at d;show((fG ts.sh (C6 qs)).bind λk=>Q.req (ver=bv/\off=0) (.ret (⟨.bx k.ocs,k.fz,k.ids,[.inl id]⟩:Ta))).wpt _ _ _;rw [Q.wpt_bind];refine Q.wpt_mono d ?_;rintro q rs' ⟨rfl,rfl⟩;exact⟨⟨a22 h2.1.2,a22 h2.2⟩,_,rfl,h3⟩
  ·exact Sim.fail
 | rx u e=>
  unfold Ah;simp only;split
  ·rename_i id ver;refine Sim.rdR λr=>?_;obtain⟨rv,c⟩:=r;cases c with
   | none=>exact Sim.fail
   | some R=>
    simp only;split
    ·rename_i hu _;subst hu;refine Sim.req (λh=>?_) λ_=>Sim.ret rfl;simp only [a24] at h;exact⟨a22 h.1.1.1,rfl,a22 h.1.1.2,by show R.fr=false;simpa using h.1.2,a3n h.2⟩
    ·exact Sim.fail
  ·exact Sim.fail
def BE:(ts:ATs)->List TV->TQ (Tta ts.den)
 | .nil,vs=>match vs with
  | []=> .ret ⟨(),[],[],[]⟩
  | _=> .fail
 | .cons t ts,vs=>match vs with
  | v :: vs=>(Ah t v).bind λk=>(BE ts vs).bind λks=> .ret ⟨(k.x,ks.x),k.fz ++ ks.fz,k.ids ++ ks.ids,k.tops ++ ks.tops⟩
  | []=> .fail
theorem tS:∀ (ts:ATs),ts.ok=true->∀ (vs:List TV),Sim (λk:Tta ts.den=>(⟨ts.oas k.x,k.fz,k.ids,k.tops⟩:Tas)) (BE ts vs) (xQ ts.sh (vs.map TV.av))
 | .nil,_,[]=>Sim.ret rfl
 | .nil,_,_ :: _=>Sim.fail
 | .cons _ _,_,[]=>Sim.fail
 | .cons t ts,h,v :: vs=>by
  simp only [ATs.ok,a24] at h;exact Sim.bind (Ki t h.1 v) λk=>Sim.bind (tS ts h.2 vs) λks=>Sim.ret rfl
def Rb:List (Nat ⊕ Nat)->TQ (List gQ)
 | []=> .ret []
 | .inl id :: ids=> .rdB id λb=>(Rb ids).bind λus=> .ret (.b id ⟨b.ver,none⟩ :: us)
 | .inr id :: ids=> .rdR id λb=>(Rb ids).bind λus=> .ret (.r id ⟨b.ver,none⟩ :: us)
theorem yh:∀ (ids:List (Nat ⊕ Nat)),Sim US (Rb ids) (EU ids)
 | []=>Sim.ret rfl
 | .inl _id :: ids=>Sim.rdB λ_b=>Sim.bind (yh ids) λ_us=>Sim.ret rfl
 | .inr _id :: ids=>Sim.rdR λ_b=>Sim.bind (yh ids) λ_us=>Sim.ret rfl
def Nb:Nat->List TC
 | 0=>[]
 | n + 1=> .junk :: Nb n
theorem HS {α:Type}:∀ (l:List α),C6 (Nb l.length)=l.map λ_=>AC.junk
 | []=>rfl
 | x :: l=>by rw [a27,Nb,C6,HS l];rfl
def Rc:List (Nat ⊕ Nat)->(ts:PTs)->ts.den->TQ (List gQ)
 | [],.nil,_=> .ret []
 | .inl id :: ids,.cons t ts,x=> .rdB id λb=>(Rc ids ts x.2).bind λus=> .ret (.b id ⟨b.ver,some (Nb t.sh.length)⟩ :: us)
 | .inr id :: ids,.rcons u e ts,x=> .req (Nat.blt e ja) (.rdR id λr=>(Rc ids ts x.2).bind λus=> .ret (.r id ⟨r.ver,some ⟨u,x.1,e,false⟩⟩ :: us))
 | _,_,_=> .fail
theorem yi:∀ (ids:List (Nat ⊕ Nat)) (ts:PTs) (x:ts.den),Sim US (Rc ids ts x) (ze ids (ts.ocs x))
 | [],.nil,_=>Sim.ret rfl
 | .inr id :: ids,.rcons u e ts,x=>Sim.req (λh=>a3n h) λ_=>Sim.rdR λr=>Sim.bind (yi ids ts x.2) λus=>Sim.ret rfl
 | .inl id :: ids,.cons t ts,x=>Sim.rdB λb=>Sim.bind (yi ids ts x.2) λus=>Sim.ret (by
   show Upd.b id ⟨b.ver,some ((t.ocs x.1).map λ_=>AC.junk)⟩ :: _=Upd.b id ⟨b.ver,some (C6 (Nb t.sh.length))⟩ :: _;rw [<-HS,OTs.len];rfl)
 | [],.cons _ _,_=>Sim.fail
 | [],.rcons _ _ _,_=>Sim.fail
 | .inl _ :: _,.nil,_=>Sim.fail
 | .inr _ :: _,.nil,_=>Sim.fail
 | .inl _ :: _,.rcons _ _ _,_=>Sim.fail
 | .inr _ :: _,.cons _ _,_=>Sim.fail
structure Tmk where
 ps:List TC
 us:List gQ
 m:Nat
mutual
def WI (n:Nat):(t:OT)->t.den->TQ Tmk
 | .d u,x=> .ret ⟨[.ch u x],[],n⟩
 | .fn f,_=> .ret ⟨[.fn f],[],n⟩
 | .npt,_=> .ret ⟨[.npt],[],n⟩
 | .it t u _,x=> .ret ⟨[.it t u x],[],n⟩
 | .clo f u,x=> .ret ⟨[.clo f u x],[],n⟩
 | .e u,x=> .ret ⟨[.ep u x 0],[],n⟩
 | .row u e,l=> .req (Nat.blt e pi) (.rdR n λr=> .ret ⟨[.row n (r.ver + 1)],[.r n ⟨r.ver + 1,some ⟨u,l,e,false⟩⟩],n + 1⟩)
 | .box ts,x=> .rdB n λb=>(FN (n + 1) ts x).bind λk=> .ret ⟨[.ptr n (b.ver + 1) 0],k.us ++ [.b n ⟨b.ver + 1,some k.ps⟩],k.m⟩
def FN (n:Nat):(ts:OTs)->ts.den->TQ Tmk
 | .nil,_=> .ret ⟨[],[],n⟩
 | .cons t ts,x=>(WI n t x.1).bind λk=>(FN k.m ts x.2).bind λks=> .ret ⟨k.ps ++ ks.ps,k.us ++ ks.us,ks.m⟩
end
def TO (k:Tmk):Mks:=⟨C6 k.ps,US k.us,k.m⟩
theorem HT {s:St} {K:Mks->List ao->Prop}:∀ (a b:List OC) {n:Nat} {tr:List ao},((zT n a).wpt s tr λk rs=>(zT k.m b).wpt s rs λq rs'=>K ⟨k.acs ++ q.acs,k.us ++ q.us,q.m⟩ rs')->(zT n (a ++ b)).wpt s tr K
 | [],b,n,tr,h=>by simpa only [zT,Q.wpt,a3E] using h
 | c :: a,b,n,tr,h=>by
  simp only [a3x,zT,Q.wpt_bind,Q.wpt] at h ⊢;refine Q.wpt_mono h λd rs h1=>?_;refine HT a b (Q.wpt_mono h1 λe rs' h2=>?_);refine Q.wpt_mono h2 λg rs'' h3=>?_;simpa only [a3x,a3c] using h3
theorem TP {s:St} {K:Mks->List ao->Prop} {n:Nat} {tr:List ao}:∀ (ds:List DV),K ⟨ds.map .d,[],n⟩ tr->(zT n (ds.map .d)).wpt s tr K
 | [],h=>h
 | d :: ds,h=>by
  simp only [a3h,zT,mkC,Q.wpt_bind,Q.wpt];exact TP (K:=λk rs=>K ⟨.d d :: k.acs,[] ++ k.us,k.m⟩ rs) ds h
theorem qi {s:St} {K:Mks->List ao->Prop} {n:Nat} {tr:List ao} {c:OC} (h:(mkC n c).wpt s tr λk rs=>K ⟨[k.ac],k.us,k.m⟩ rs):(zT n [c]).wpt s tr K:=by
 simp only [zT,Q.wpt_bind,Q.wpt];refine Q.wpt_mono h λk rs h1=>?_;simpa only [a3b] using h1
theorem a2u (u:U) (n:Nat) (x:u.den):(⟨(u.enc x).map .d,[],n⟩:Mks)=TO ⟨[.ch u x],[],n⟩:=by
 unfold TO;rw [hH];rfl
mutual
theorem HU:∀ (t:OT) (n:Nat) (x:t.den),Sim TO (WI n t x) (zT n (t.ocs x))
 | .d u,n,x=>λs tr K h=>TP _ ⟨_,a2u u n x,h⟩
 | .npt,n,x=>λs tr K h=>qi (c:= .d (.v (.pointer none))) ⟨_,rfl,h⟩
 | .it t u _,n,x=>λs tr K h=>qi (c:= .d (.it t (Bs (u.enc x)))) ⟨_,rfl,h⟩
 | .clo f u,n,x=>λs tr K h=>qi (c:= .d (.clo f (u.enc x))) ⟨_,rfl,h⟩
 | .e u,n,x=>λs tr K h=>qi (c:= .e (u.enc x)) ⟨_,rfl,h⟩
 | .fn f,n,x=>λs tr K h=>qi (c:= .d (.v (.func (.func f) #[] #[]))) ⟨_,rfl,h⟩
 | .row u e,n,l=>λs tr K h=>qi (c:= .row u.size e (List.map u.enc l)) ⟨a3n h.1,_,rfl,h.2⟩
 | .box ts,n,x=>λs tr K h=>qi (c:= .box (ts.ocs x)) (by
   have h:((FN (n + 1) ts x).bind λk=>TQ.ret (⟨[.ptr n ((s.b n).ver + 1) 0],k.us ++ [.b n ⟨(s.b n).ver + 1,some k.ps⟩],k.m⟩:Tmk)).wpt s (.b n :: tr) K:=h;rw [TQ.wpt_bind] at h;have h1:=uS ts (n + 1) x s _ _ h;show((zT (n + 1) (ts.ocs x)).bind λk=>Q.ret (⟨.ptr n ((s.b n).ver + 1) 0,k.us ++ [.b n ⟨(s.b n).ver + 1,some k.acs⟩],k.m⟩:Mk)).wpt s.st (.b n :: tr) _;rw [Q.wpt_bind];refine Q.wpt_mono h1 ?_;rintro b rs ⟨a,rfl,hk⟩;refine⟨_,?_,hk⟩;simp only [TO,US,a3g,a3h,a3K];rfl)
theorem uS:∀ (ts:OTs) (n:Nat) (x:ts.den),Sim TO (FN n ts x) (zT n (ts.ocs x))
 | .nil,n,x=>λs tr K h=>⟨_,rfl,h⟩
 | .cons t ts,n,x=>λs tr K h=>by
  simp only [FN,TQ.wpt_bind] at h;refine HT (t.ocs x.1) (ts.ocs x.2) (Q.wpt_mono (HU t n x.1 s tr _ h) ?_);rintro b rs ⟨a,rfl,hk⟩;refine Q.wpt_mono (uS ts a.m x.2 s rs _ hk) ?_;rintro b rs ⟨a',rfl,hk⟩;refine⟨_,?_,hk⟩;simp only [TO,US,a3g,hC]
end
structure a1E where
 us:List gQ
 m:Nat
def Rg (n:Nat):List (Nat ⊕ Nat)->(ts:PTs)->ts.den->TQ a1E
 | [],.nil,_=> .ret ⟨[],n⟩
 | .inl id :: ids,.cons t ts,x=>(FN n t x.1).bind λk=> .req ((.inl id :: ids).all λj=>Nat.blt (tid j) n || Nat.ble k.m (tid j)) (.rdB id λb=>(Rg k.m ids ts x.2).bind λp=> .ret ⟨k.us ++ (.b id ⟨b.ver,some k.ps⟩ :: p.us),p.m⟩)
 | .inr _ :: ids,.rcons _ _ ts,x=>Rg n ids ts x.2
 | _,_,_=> .fail
theorem yj:∀ (ids:List (Nat ⊕ Nat)) (ts:PTs) (n:Nat) (x:ts.den),Sim (λp:a1E=>(⟨US p.us,p.m⟩:Mps)) (Rg n ids ts x) (EV n ids (ts.ocs x))
 | [],.nil,n,_=>Sim.ret rfl
 | .inr _ :: ids,.rcons _ _ ts,n,x=>yj ids ts n x.2
 | .inl id :: ids,.cons t ts,n,x=>Sim.bind (uS t n x.1) λk=>Sim.req (λh j hj=>by
   have h1:=List.all_eq_true.1 h j hj;rw [a3Y] at h1;rcases h1 with h1 | h1
   ·exact .inl (a3n h1)
   ·exact .inr (a3n h1)) λ_=>Sim.rdB λb=>Sim.bind (yj ids ts k.m x.2) λp=>Sim.ret (by
   simp only [TO,US,a3g,a3h];rfl)
 | [],.cons _ _,_,_=>Sim.fail
 | [],.rcons _ _ _,_,_=>Sim.fail
 | .inl _ :: _,.nil,_,_=>Sim.fail
 | .inr _ :: _,.nil,_,_=>Sim.fail
 | .inl _ :: _,.rcons _ _ _,_,_=>Sim.fail
 | .inr _ :: _,.cons _ _,_,_=>Sim.fail
structure a1F where
 v:T1
 us:List gQ
 m:Nat
def a1G (n:Nat):(t:AT)->t.den->TQ a1F
 | .c t,x=>(WI n t x).bind λk=>match k.ps with
  | [p]=> .req (is1 p) (.ret ⟨.c p,k.us,k.m⟩)
  | _=> .fail
 | .agg ts,x=>(FN n ts x).bind λk=> .ret ⟨.agg k.ps,k.us,k.m⟩
 | .bx ts,x=>(WI n (.box ts) x).bind λk=>match k.ps with
  | [p]=> .req (is1 p) (.ret ⟨.c p,k.us,k.m⟩)
  | _=> .fail
 | .rx u e,x=>(WI n (.row u e) x).bind λk=>match k.ps with
  | [p]=> .req (is1 p) (.ret ⟨.c p,k.us,k.m⟩)
  | _=> .fail
def ZZ (k:a1F):Mka:=⟨k.v.av,US k.us,k.m⟩
theorem Nc {s:St} {K:Mks->List ao->Prop} {n:Nat} {tr:List ao} {c:OC} (h:(zT n [c]).wpt s tr K):(mkC n c).wpt s tr λk rs=>K ⟨[k.ac],k.us,k.m⟩ rs:=by
 simp only [zT,Q.wpt_bind,Q.wpt] at h;refine Q.wpt_mono h λk rs h1=>?_;simpa only [a3b] using h1
theorem BF (t:OT) (n:Nat) (x:t.den) (c:OC) (hc:t.ocs x=[c]):Sim ZZ ((WI n t x).bind λk=>match k.ps with
  | [p]=> .req (is1 p) (.ret ⟨.c p,k.us,k.m⟩)
  | _=> .fail) ((mkC n c).bind λk=> .ret ⟨.c k.ac,k.us,k.m⟩):=λs tr K h=>by
 rw [TQ.wpt_bind] at h;have h1:=HU t n x s tr _ h;rw [hc] at h1;rw [Q.wpt_bind];refine Q.wpt_mono (Nc h1) ?_;rintro k rs ⟨a,ha,hk⟩;split at hk
 ·rename_i p hp;obtain⟨h2,h3⟩:=hk;refine⟨_,?_,h3⟩;have e0:C6 [p]=[kR p.cells]:=(a3b _).trans (wl h2);simp only [TO,hp,e0] at ha;injection ha with a1 a2 a3;injection a1 with a1 _;simp only [ZZ,T1.av];rw [a1,a2,a3]
 ·exact hk.elim
theorem Rh (t:AT) (hk:t.ok=true) (n:Nat) (x:t.den):Sim ZZ (a1G n t x) (mkA n (t.oa x)):=by
 cases t with
 | c t=>
  have h1:(t.ocs x).length=1:=by rw [OT.len t x];exact a22 hk
  exact BF t n x _ (sy h1)
 | agg ts=>exact Sim.bind (uS ts n x) λk=>Sim.ret rfl
 | bx ts=>exact BF (.box ts) n x _ rfl
 | rx u e=>exact BF (.row u e) n x _ rfl
structure Vo where
 vs:List T1
 us:List gQ
 m:Nat
def Nd (n:Nat):(ts:ATs)->ts.den->TQ Vo
 | .nil,_=> .ret ⟨[],[],n⟩
 | .cons t ts,x=>(a1G n t x.1).bind λk=>(Nd k.m ts x.2).bind λks=> .ret ⟨k.v :: ks.vs,k.us ++ ks.us,ks.m⟩
def zg (k:Vo):a0s:=⟨k.vs.map T1.av,US k.us,k.m⟩
theorem uT:∀ (ts:ATs),ts.ok=true->∀ (n:Nat) (x:ts.den),Sim zg (Nd n ts x) (UP n (ts.oas x))
 | .nil,_,_,_=>Sim.ret rfl
 | .cons t ts,h,n,x=>by
  simp only [ATs.ok,a24] at h;exact Sim.bind (Rh t h.1 n x.1) λk=>Sim.bind (uT ts h.2 k.m x.2) λks=>Sim.ret (by simp only [ZZ,zg,US,a3g,a3h])
def Vp (vs:List T1):TV:=match vs with
 | [v]=> .o v
 | vs=> .tup vs
theorem HV (vs:List T1):WD (vs.map T1.av)=(Vp vs).av:=by
 match vs with
 | []=>rfl
 | [_]=>rfl
 | _ :: _ :: _=>rfl
def WJ (x:Nat ⊕ Nat):List (Nat ⊕ Nat)->Bool
 | []=>false
 | y :: r=>(match x,y with | .inl a,.inl b=>Nat.beq a b | .inr a,.inr b=>Nat.beq a b | _,_=>false) || WJ x r
theorem BG {x:Nat ⊕ Nat}:∀ {l:List (Nat ⊕ Nat)},WJ x l=false->x ∉ l
 | [],_,h=>by simp at h
 | y :: r,h,hm=>by
  simp only [WJ,a5d] at h;rcases List.mem_cons.1 hm with e | hm
  ·subst e;have h1:=h.1;cases x <;> simp at h1
  ·exact BG h.2 hm
def Dt:List (Nat ⊕ Nat)->Bool
 | []=>true
 | x :: r=> !WJ x r && Dt r
theorem yk:∀ {l:List (Nat ⊕ Nat)},Dt l=true->l.Nodup
 | [],_=>a4j
 | x :: r,h=>by
  simp only [Dt,a24,a20] at h;exact List.nodup_cons.2 ⟨BG h.1,yk h.2⟩
def Vq (S:TFn) (o:Oper) (c:Call) (ex:List TV:=[]):TQ (List gQ):=
 (Xv c.args.toList).bind λxs=>(BE S.args (xs ++ ex)).bind λk=>
 .req (Dt (k.tops ++ k.ids) && k.fz.all λid=> !WJ (Sum.inr id) (k.tops ++ k.ids))
 (.call (S.G k.x) λr=>match S.flat && k.tops.isEmpty && k.ids.isEmpty with
 | true=>(nV k.fz).bind λ_=>(Nd (wW o.dst) S.res (S.out r).2).bind λq=> .ret (q.us ++ a0v o.dst (Vp q.vs))
 | false=>(nV k.fz).bind λus1=>(Rb k.ids).bind λus2=>(Rc k.tops S.posts (S.out r).1).bind λus3=>(Rg (wW o.dst) k.tops S.posts (S.out r).1).bind λp=>(Nd p.m S.res (S.out r).2).bind λq=>
 .ret (us1 ++ us2 ++ us3 ++ p.us ++ q.us ++ a0v o.dst (Vp q.vs)))
theorem AT.flat_ok (t:AT) (h:t.flat=true) (hk:t.ok=true) (x:t.den):Db (t.oa x)=true:=by
 cases t with
 | c t=>
  have h1:(t.ocs x).length=1:=by rw [OT.len t x];exact a22 hk
  have h2:=sy h1;have h3:=t.flat_ok h x;rw [h2,a34,a24] at h3;exact h3.1
 | agg ts=>exact ts.flat_ok h x
 | bx ts=>cases h
 | rx u e=>cases h
theorem ATs.flat_ok:∀ (ts:ATs),ts.flat=true->ts.ok=true->∀ (x:ts.den),(ts.oas x).all Db=true
 | .nil,_,_,_=>rfl
 | .cons t ts,h,hk,x=>by
  have h':(t.flat && ts.flat)=true:=h;have hk':(t.ok && ts.ok)=true:=hk;rw [a24] at h' hk';rw [ATs.oas,a34,t.flat_ok h'.1 hk'.1,ts.flat_ok h'.2 hk'.2];rfl
theorem Sim.call {α β γ:Type} {f:α->β} {o:Option γ} {q':γ->TQ α} {q:Q β} (h:∀ r,o=some r->Sim f (q' r) q):Sim f (.call o q') q:=λs tr K hk=>by
 obtain⟨r,h1,h2⟩:=hk;exact h r h1 s tr K h2
theorem Nf (S:TFn) (ha:S.args.ok=true) (hr:S.res.ok=true) (o:Oper) (c:Call) (ex:List TV):Sim US (Vq S o c ex) (Ml S.spec o c (ex.map TV.av)):=by
 refine Sim.bind (wX _) λxs=>Sim.bind (show Sim _ _ (xQ S.spec.sh (xs.map TV.av ++ ex.map TV.av)) by rw [<-a3g];exact tS S.args ha (xs ++ ex)) λk=>Sim.chk λh=>Sim.call λr hF=>?_;rw [a24] at h;refine Sim.must ⟨yk h.1,λid hid=>?_,⟨k.x,r,rfl,hF⟩⟩ ?_
 ·have:=List.all_eq_true.1 h.2 id hid;exact BG (by simpa using this)
 ·simp only;rw [TFn.post_of ha hF,TFn.res_of ha hF];show Sim US _ (match S.flat && k.tops.isEmpty && k.ids.isEmpty with | true=>_ | false=>_)
  cases hfl:S.flat && k.tops.isEmpty && k.ids.isEmpty with
  | true=>
   rw [a24,a24] at hfl;have hf:(S.posts.isNil && S.res.flat)=true:=hfl.1.1;rw [a24] at hf;refine Sim.must ⟨S.posts.isNil_ok hf.1 _,S.res.flat_ok hf.2 hr _⟩ ?_;refine Sim.bind (eN k.fz) λ_=>Sim.bind (uT S.res hr _ (S.out r).2) λq=>Sim.ret ?_;simp only [zg];rw [HV];simp only [US,a3g];congr 1;cases o.dst <;> rfl
  | false=>
  refine Sim.bind (eN k.fz) λus1=>Sim.bind (yh k.ids) λus2=>Sim.bind (yi k.tops S.posts (S.out r).1) λus3=>Sim.bind (yj k.tops S.posts _ (S.out r).1) λp=>Sim.bind (uT S.res hr p.m (S.out r).2) λq=>Sim.ret ?_;simp only [zg];rw [HV];simp only [US,a3g];congr 1;cases o.dst <;> rfl
def TS (k:TK) (x:TV):TQ Nat:=match k with
 | .slice _=>a0A x
 | .str=>Fy x
 | .map _ _=>FG x
 | _=> .fail
def tmm (f:Int->Int->Int) (x y:TV):TQ TV:=match x,y with
 | .o (.c (.ch (.int k) a)),.o (.c (.ch (.int _) b))=> .ret (c1 (.int k) (f a b))
 | _,_=> .fail
def Ng (T:TypeId->Option TI) (TU:TypeId->Option U) (b:Builtin) (o:Oper) (c:Call):TQ (List gQ):=match b with
 | .len=>match c.args.toList,c.argTypes.toList with
  | [x],[t]=>(ttq T t).bind λi=>(tev x).bind λx=>(TS i.k x).bind λn=>ux o.dst (c1 (.int .i64) (n:Int))
  | _,_=> .fail
 | .append=>match c.args.toList,c.argTypes.toList with
  | [x,y],[t,t']=>(ttq T t).bind λi=>match i.k with
   | .slice e=>(ttq T e).bind λie=>(TQ.ofOpt o.dst).bind λd=>match TU e with
    | some u=> .req (Nat.beq t t' && decide (0 < ie.size) && Nat.beq u.size ie.size) ((tev x).bind λx=>(tev y).bind λy=>match x,y with
     | .o (.c x),.o (.c y)=>MY d e u ie.bytes x y
     | _,_=> .fail)
    | none=> .fail
   | _=> .fail
  | _,_=> .fail
 | .max=>match c.args.toList with
  | [x,y]=>(tev x).bind λx=>(tev y).bind λy=>(tmm max x y).bind (ux o.dst)
  | _=> .fail
 | .min=>match c.args.toList with
  | [x,y]=>(tev x).bind λx=>(tev y).bind λy=>(tmm min x y).bind (ux o.dst)
  | _=> .fail
 | _=> .fail
theorem Kj (k:TK) (x:TV):Sim id (TS k x) (Mq k x.av):=by
 cases k <;> first | exact QR x | exact Fz x | exact FH x | exact Sim.fail
theorem Nh (f:Int->Int->Int) (x y:TV):Sim TV.av (tmm f x y) (mmQ f x.av y.av):=by
 unfold tmm;split
 ·exact Sim.ret rfl
 ·exact Sim.fail
theorem Kk (T:TypeId->Option TI) (TU:TypeId->Option U) (b:Builtin) (o:Oper) (c:Call):Sim US (Ng T TU b o c) (Dd T b o c):=by
 unfold Ng Dd;cases b <;> try exact Sim.fail
 case len=>
  simp only;split
  ·rename_i x t hx ht;rw [hx,ht];exact Sim.bind (L9 T t) λi=>Sim.bind (K5 x) λx=>Sim.bind (Kj i.k x) λn=>N6 o.dst (c1 (.int .i64) (n:Int))
  ·exact Sim.fail
 case append=>
  simp only;split
  ·rename_i x y t t' hx ht;rw [hx,ht];refine Sim.bind (L9 T t) λi=>?_;simp only [id];cases i.k <;> try exact Sim.fail
   case slice e=>
    refine Sim.bind (L9 T e) λie=>Sim.bind (bZ o.dst) λd=>?_;cases TU e with
    | none=>exact Sim.fail
    | some u=>
     refine Sim.req (λh=>?_) λh=>?_
     ·simp only [a24] at h;exact⟨a22 h.1.1,a23 h.1.2⟩
     ·simp only [a24] at h;refine Sim.bind (K5 x) λx=>Sim.bind (K5 y) λy=>?_;split
      ·exact FM d e u ie.size ie.bytes (a22 h.2) _ _
      ·exact Sim.fail
  ·exact Sim.fail
 case max=>
  simp only;split
  ·rename_i x y hx;rw [hx];exact Sim.bind (K5 x) λx=>Sim.bind (K5 y) λy=>Sim.bind (Nh max x y) λv=>N6 o.dst v
  ·exact Sim.fail
 case min=>
  simp only;split
  ·rename_i x y hx;rw [hx];exact Sim.bind (K5 x) λx=>Sim.bind (K5 y) λy=>Sim.bind (Nh min x y) λv=>N6 o.dst v
  ·exact Sim.fail
def Ni:List (Nat × TFn)->Nat->Option TFn
 | [],_=>none
 | p :: l,j=>match Nat.beq j p.1 with
  | true=>some p.2
  | false=>Ni l j
def a0E:TV->TQ (Nat × List TV)
 | .o (.c (.fn f))=> .req true (.ret (f,[]))
 | .o (.c (.clo f u x))=> .ret (f,[.o (.c (.ep u x 0))])
 | _=> .fail
theorem Ri (x:TV):Sim (λp:Nat × List TV=>(p.1,p.2.map TV.av)) (a0E x) (fnQ x.av):=by
 unfold a0E;split
 ·exact Sim.req (λ_=>⟨rfl,rfl⟩) λ_=>Sim.ret rfl
 ·exact Sim.ret rfl
 ·exact Sim.fail
def XG:TV->Nat
 | .o (.c .npt)=>1
 | .o (.c (.it t _ _))=>2 + t
 | _=>0
def xd:List TV->Nat
 | []=>0
 | v :: vs=>XG v + 5000 * xd vs
theorem uU:∀ (u:U) (x:u.den),∀ d ∈ u.enc x,JR (.c (.d d))=0
 | .int _,_,d,h=>by cases h with | head=>rfl | tail _ h=>cases h
 | .byte,_,d,h=>by cases h with | head=>rfl | tail _ h=>cases h
 | .bool,_,d,h=>by cases h with | head=>rfl | tail _ h=>cases h
 | .str,_,d,h=>by cases h with | head=>rfl | tail _ h=>cases h
 | .sl _,_,d,h=>by cases h with | head=>rfl | tail _ h=>cases h
 | .pr a b,x,d,h=>by
  rcases List.mem_append.1 h with h | h
  ·exact uU a x.1 d h
  ·exact uU b x.2 d h
 | .arr _ u,v,d,h=>by
  obtain⟨y,_,hy⟩:=List.mem_flatMap.1 h;exact uU u y d hy
theorem Nj:∀ (l:List DV),(∀ d ∈ l,JR (.c (.d d))=0)->JR (.c (kR (l.map .d)))=0
 | [],_=>rfl
 | [d],h=>h d (by simp)
 | _ :: _ :: _,_=>rfl
theorem Rj (x:TV):JR x.av=XG x:=by
 cases x with
 | o x=>
  cases x with
  | c x=>cases x <;> first | rfl | exact Nj _ (uU _ _)
  | agg xs=>rfl
 | tup xs=>rfl
 | clo f id ver=>rfl
 | ent tup id pv K k=>rfl
 | nx b x y=>rfl
 | any=>rfl
theorem Ai:∀ (xs:List TV),Br (xs.map TV.av)=xd xs
 | []=>rfl
 | x :: xs=>by
  show JR x.av + 5000 * Br (xs.map TV.av)=_;rw [Rj,Ai xs];rfl
def Nk (f1:FuncId) (o:Oper):List TV->TQ (List gQ)
 | [.o (.c (.row id ver))]=>(TQ.ofOpt o.dst).bind λd=> .rdR id λr=>match r.c with
  | some R=> .req (Nat.beq ver r.ver && Nat.ble ja R.e && !(Nat.beq R.e qQ) && !(QX R.e)) (.rdB d λb=> .ret [.b d ⟨b.ver + 1,some [.row id ver]⟩,.t d ⟨true,.clo f1 d (b.ver + 1)⟩])
  | none=> .fail
 | _=> .fail
theorem Kl (f1:FuncId) (o:Oper) (xs:List TV):Sim US (Nk f1 o xs) (UU f1 o (xs.map TV.av)):=by
 unfold Nk;split
 ·refine Sim.bind (bZ o.dst) λd=>Sim.rdR λr=>?_;obtain⟨rv,c⟩:=r;cases c with
  | none=>exact Sim.fail
  | some R=>exact Sim.req (λh=>by simp only [a24] at h;exact⟨a22 h.1.1.1,a3n h.1.1.2,MR h.1.2,HM h.2⟩) λ_=>Sim.rdB λb=>Sim.ret rfl
 ·exact Sim.fail
def zh (x y:Int):Bool:=decide (x<=y)
def zj (x y:List UInt8):Bool:=decide (x<=y)
def WK {α:Type} (le:α->α->Bool) (x:α):List α->List α
 | []=>[x]
 | y :: l=>match le x y with
  | true=>x :: y :: l
  | false=>y :: WK le x l
def Km {α:Type} (le:α->α->Bool):List α->List α
 | []=>[]
 | x :: l=>WK le x (Km le l)
theorem yl {α:Type} (le:α->α->Bool) (x:α):∀ l:List α,(WK le x l).Perm (x :: l)
 | []=>List.Perm.refl _
 | y :: l=>by
  unfold WK;split
  ·exact List.Perm.refl _
  ·exact((yl le x l).cons y).trans (List.Perm.swap x y l)
theorem Aj {α:Type} (le:α->α->Bool):∀ l:List α,(Km le l).Perm l
 | []=>List.Perm.refl _
 | x :: l=>(yl le x _).trans ((Aj le l).cons x)
theorem ym {α:Type} {le:α->α->Bool} (tr:∀ a b c,le a b=true->le b c=true->le a c=true) (to:∀ a b,(le a b || le b a)=true) (x:α):∀ l:List α,l.Pairwise (λa b=>le a b=true)->(WK le x l).Pairwise (λa b=>le a b=true)
 | [],_=>List.pairwise_singleton _ _
 | y :: l,h=>by
  rw [a4I] at h;unfold WK;split
  ·rename_i hxy;refine List.pairwise_cons.2 ⟨λz hz=>?_,List.pairwise_cons.2 h⟩;rcases List.mem_cons.1 hz with rfl | hz
   ·exact hxy
   ·exact tr _ _ _ hxy (h.1 z hz)
  ·rename_i hxy;have hyx:le y x=true:=by have:=to x y;rw [hxy] at this;simpa using this
   refine List.pairwise_cons.2 ⟨λz hz=>?_,ym tr to x l h.2⟩;rcases List.mem_cons.1 ((yl le x l).mem_iff.1 hz) with rfl | hz
   ·exact hyx
   ·exact h.1 z hz
theorem wm {α:Type} {le:α->α->Bool} (tr:∀ a b c,le a b=true->le b c=true->le a c=true) (to:∀ a b,(le a b || le b a)=true):∀ l:List α,(Km le l).Pairwise (λa b=>le a b=true)
 | []=>List.Pairwise.nil
 | x :: l=>ym tr to x _ (wm tr to l)
theorem uV {α:Type} {le:α->α->Bool} (tr:∀ a b c,le a b=true->le b c=true->le a c=true) (to:∀ a b,(le a b || le b a)=true) (an:∀ a b,le a b=true->le b a=true->a=b) {l l':List α} (h:l'.Pairwise (λa b=>le a b=true)) (hp:l.Perm l'):Km le l=l':=
 List.Perm.eq_of_pairwise (le:=λa b=>le a b=true) (λa b _ _ h1 h2=>an a b h1 h2) (wm tr to l) h ((Aj le l).trans hp)
def BH (l:List Int):List Int:=Km zh l
def BI (l:List (List UInt8)):List (List UInt8):=Km zj l
theorem HW (a b c:Int) (h1:zh a b=true) (h2:zh b c=true):zh a c=true:=a2S (Int.le_trans (a23 h1) (a23 h2))
theorem HX (a b:Int):(zh a b || zh b a)=true:=by simp only [zh,a3Y,a2W];exact Int.le_total a b
theorem Rk (a b:Int) (h1:zh a b=true) (h2:zh b a=true):a=b:=Int.le_antisymm (a23 h1) (a23 h2)
theorem HY (a b c:List UInt8) (h1:zj a b=true) (h2:zj b c=true):zj a c=true:=a2S (List.le_trans (a23 h1) (a23 h2))
theorem HZ (a b:List UInt8):(zj a b || zj b a)=true:=by simp only [zj,a3Y,a2W];exact List.le_total a b
theorem Rl (a b:List UInt8) (h1:zj a b=true) (h2:zj b a=true):a=b:=List.le_antisymm (a23 h1) (a23 h2)
theorem FO (l:List Int):l.mergeSort (λx y=>decide (x<=y))=BH l:=by
 refine(uV HW HX Rk (List.pairwise_mergeSort HW HX l) ?_).symm;exact(List.mergeSort_perm l zh).symm
theorem FP (l:List (List UInt8)):l.mergeSort (λx y=>decide (x<=y))=BI l:=by
 refine(uV HY HZ Rl (List.pairwise_mergeSort HY HZ l) ?_).symm;exact(List.mergeSort_perm l zj).symm
def BJ (l:List Int):Bool:=decide (l.Nodup/\(∀ x ∈ l,-9223372036854775808<=x/\x<=9223372036854775807)/\l.length * 8<=LIM)
def BK (l:List (List UInt8)):Bool:=decide (l.Nodup/\(∀ x ∈ l,x.length<=4611686018427387904)/\l.length * 16<=LIM)
def XH (K:U):(u:U)->List u.den->Option (List K.den)
 | .pr K' _,l=>match decEq K' K with
  | .isTrue h=>some (List.map (λp=>pq h p.1) l)
  | .isFalse _=>none
 | _,_=>none
def Ia (K:U) (f1:FuncId) (e:TypeId) (good:List K.den->Bool) (srt:List K.den->List K.den) (o:Oper):List TV->TQ (List gQ)
 | [.clo f id ver]=>(TQ.ofOpt o.dst).bind λd=> .rdB id λb=>match b.c with
  | some [.row rid rver]=> .rdR rid λr=>match r.c with
   | some R=>match XH K R.u R.l with
    | some ks=> .req (Nat.beq f f1 && Nat.beq ver b.ver && Nat.beq rver r.ver && (Nat.beq R.e (mE true) || Nat.beq R.e (mE false)) && decide (e < ja)) (.req (good ks) (.rdR d λrd=> .ret [.r d ⟨rd.ver + 1,some ⟨K,srt ks,e,false⟩⟩,.t d ⟨true,.o (.c (.row d (rd.ver + 1)))⟩]))
    | none=> .fail
   | none=> .fail
  | _=> .fail
 | _=> .fail
theorem Ak {K:U} (hK:K.size=1) {f1:FuncId} {e:TypeId} {good:List K.den->Bool} {srt:List K.den->List K.den} {goodA:List (List DV)->Prop} {srtA:List (List DV)->List (List DV)}
  (h1:∀ (V:U) (l:List (K.den × V.den)),good (l.map (·.1))=true->goodA (l.map (U.pr K V).enc)) (h2:∀ (V:U) (l:List (K.den × V.den)),srtA (l.map (U.pr K V).enc)=(srt (l.map (·.1))).map K.enc) (o:Oper) (xs:List TV) :
  Sim US (Ia K f1 e good srt o xs) (Mp f1 e goodA srtA o (xs.map TV.av)):=by
 unfold Ia;split
 ·rename_i f id ver;refine Sim.bind (bZ o.dst) λd=>Sim.rdB λb=>?_;obtain⟨bv,c⟩:=b;simp only;split
  ·rename_i rid rver;refine Sim.rdR λr=>?_;obtain⟨rv,c⟩:=r;cases c with
   | none=>exact Sim.fail
   | some R=>
    obtain⟨ru,rl,re,rf⟩:=R;simp only;cases ru with
    | pr K' V=>
     unfold XH;simp only;split
     ·rename_i ks hks;split at hks
      ·rename_i hk _;subst hk;injection hks with hks;have hks:ks=List.map (λp=>p.1) rl:=hks.symm;subst hks;refine Sim.chk λhc=>Sim.req (λhg=>?_) λ_=>Sim.rdR λrd=>Sim.ret ?_
       ·simp only [a24,a3Y] at hc;obtain⟨⟨⟨⟨c1,c2⟩,c3⟩,c4⟩,c5⟩:=hc;have hE:∃ b,re=mE b:=by
         rcases c4 with c4 | c4
         ·exact⟨_,a22 c4⟩
         ·exact⟨_,a22 c4⟩
        obtain⟨b0,rfl⟩:=hE;obtain⟨m1,m2,_,m4,m5⟩:=Hn b0;exact⟨a22 c1,a22 c2,a22 c3,m4,m5,m1,m2,a23 c5,h1 V rl hg⟩
       ·show [Upd.r d ⟨rd.ver + 1,some ⟨srtA (rl.map (U.pr K' V).enc),1,e,false⟩⟩,_]=_;rw [h2 V rl,<-hK];rfl
      ·cases hks
     ·exact Sim.fail
    | _=>exact Sim.fail
  ·exact Sim.fail
 ·exact Sim.fail
theorem Ib {α β γ:Type} {f:α->β} {g:β->γ} {h:α->γ} (e:∀ x,g (f x)=h x) (l:List α):(l.map f).map g=l.map h:=by
 rw [a4z];exact a37 λx _=>e x
theorem BM {α β:Type} (f:α->β) (l:List α):(l.map f).length=l.length:=a3d f
theorem sA {a b c k:Nat} (h:a=b) (h2:b * k<=c):a * k<=c:=h ▸ h2
theorem FQ {n:Nat} (h:n * 8<=LIM):n<=maxLen:=by unfold LIM at h;simp only [maxLen];omega
theorem Du {n:Nat} (h:n * 16<=LIM):n<=maxLen:=by unfold LIM at h;simp only [maxLen];omega
theorem wo {α:Type} (f:α->Int) (l:List α) (h:BJ (l.map f)=true):l.length * 8<=LIM:=by
 have:=(a23 h).2.2
 rwa [a3d] at this
theorem wq {α:Type} (f:α->List UInt8) (l:List α) (h:BK (l.map f)=true):l.length * 16<=LIM:=by
 have:=(a23 h).2.2
 rwa [a3d] at this
theorem XI (V:U) (l:List ((U.int .i64).den × V.den)) (h:BJ (l.map (·.1))=true):Xq (l.map (U.pr (.int .i64) V).enc):=by
 obtain⟨a1,a2,_⟩:=a23 h;have e:(l.map (U.pr (.int .i64) V).enc).map Tv=l.map (·.1):=Ib (f:=(U.pr (.int .i64) V).enc) (λ_=>rfl) l;refine⟨λc hc=>?_,?_,?_,?_,?_⟩
 ·obtain⟨p,_,rfl⟩:=List.mem_map.1 hc;exact⟨p.1,V.enc p.2,rfl⟩
 ·rw [e];exact a1
 ·rw [e];intro x hx;have:=a2 x hx;have h2:IntKind.i64.min<=x/\x<=IntKind.i64.max:=this;simpa [Lit.wf] using h2
 ·exact FQ (sA (BM (U.pr (.int .i64) V).enc l) (wo (α:=(U.pr (.int .i64) V).den) (λp=>p.1) l h))
 ·exact sA (BM (U.pr (.int .i64) V).enc l) (wo (α:=(U.pr (.int .i64) V).den) (λp=>p.1) l h)
theorem XJ (V:U) (l:List (U.str.den × V.den)) (h:BK (l.map (·.1))=true):Xr (l.map (U.pr .str V).enc):=by
 obtain⟨a1,a2,_⟩:=a23 h;have e:(l.map (U.pr .str V).enc).map Tw=l.map (·.1):=Ib (f:=(U.pr .str V).enc) (λ_=>rfl) l;refine⟨λc hc=>?_,?_,?_,?_,?_⟩
 ·obtain⟨p,_,rfl⟩:=List.mem_map.1 hc;exact⟨p.1,V.enc p.2,rfl⟩
 ·rw [e];exact a1
 ·rw [e];intro x hx;exact a3w (a2 x hx) (by simp only [maxLen];omega)
 ·exact Du (sA (BM (U.pr .str V).enc l) (wq (α:=(U.pr .str V).den) (λp=>p.1) l h))
 ·exact sA (BM (U.pr .str V).enc l) (wq (α:=(U.pr .str V).den) (λp=>p.1) l h)
theorem XK (V:U) (l:List ((U.int .i64).den × V.den)):sortI (l.map (U.pr (.int .i64) V).enc)=(BH (l.map (·.1))).map (U.int .i64).enc:=by
 have e:(l.map (U.pr (.int .i64) V).enc).map Tv=l.map (·.1):=Ib (f:=(U.pr (.int .i64) V).enc) (λ_=>rfl) l;unfold sortI;rw [e];exact congrArg (List.map λx:Int=>[DV.v (.int .i64 x)]) (FO (l.map λp=>p.1))
theorem XL (V:U) (l:List (U.str.den × V.den)):sortS (l.map (U.pr .str V).enc)=(BI (l.map (·.1))).map U.str.enc:=by
 have e:(l.map (U.pr .str V).enc).map Tw=l.map (·.1):=Ib (f:=(U.pr .str V).enc) (λ_=>rfl) l;unfold sortS;rw [e];exact congrArg (List.map λx:List UInt8=>[DV.v (Qu x)]) (FP (l.map λp=>p.1))
def a0F (sp:Sp) (o:Oper) (c:Call):TQ (List gQ):=(Xv c.args.toList).bind λxs=>match sp with
 | .none=> .fail
 | .keys f1=>Nk f1 o xs
 | .sortI f1 e=>Ia (.int .i64) f1 e BJ BH o xs
 | .sortS f1 e=>Ia .str f1 e BK BI o xs
theorem BN (sp:Sp) (o:Oper) (c:Call):Sim US (a0F sp o c) (spQ sp o c):=by
 refine Sim.bind (wX _) λxs=>?_;cases sp with
 | none=>exact Sim.fail
 | keys f1=>exact Kl f1 o xs
 | sortI f1 e=>exact Ak rfl XI XK o xs
 | sortS f1 e=>exact Ak rfl XJ XL o xs
def qJ (T:TypeId->Option TI) (TU:TypeId->Option U) (Γ:List (Nat × TFn)) (o:Oper) (c:Call):TQ (List gQ):=match c.callee with
 | .value x=>(tev x).bind λv=>(a0E v).bind λf=>(Xv c.args.toList).bind λxs=> .req (Nat.blt f.1 1000000) (match Ni Γ (f.1 + xd xs * 1000000) with
  | some S=>match S.sp with
   | .none=> .req (S.args.ok && S.res.ok) (Vq S o c f.2)
   | sp=>match f.2 with
    | []=>a0F sp o c
    | _=> .fail
  | none=> .fail)
 | .builtin b=>Ng T TU b o c
 | _=> .fail
def Nl (Γ:List (Nat × TFn)):List (Nat × vH):=Γ.map λp=>(p.1,p.2.spec)
theorem Al:∀ (Γ:List (Nat × TFn)) (f:Nat),iw (Nl Γ) f=(Ni Γ f).map TFn.spec
 | [],_=>rfl
 | p :: Γ,f=>by
  show(if f=p.1 then some p.2.spec else iw (Nl Γ) f)=(match Nat.beq f p.1 with | true=>some p.2 | false=>Ni Γ f).map TFn.spec
  cases hb:Nat.beq f p.1 with
  | true=>rw [a28 (a22 hb)];rfl
  | false=>rw [a25 (λe=>by rw [e,Nat.beq_refl] at hb;cases hb),Al Γ f]
theorem vL (T:TypeId->Option TI) (TU:TypeId->Option U) (Γ:List (Nat × TFn)) (o:Oper) (c:Call):Sim US (qJ T TU Γ o c) (Hy T (Nl Γ) o c):=by
 unfold qJ Hy;split
 ·rename_i x hc;rw [hc];simp only;refine Sim.bind (K5 x) λv=>Sim.bind (Ri v) λf=>Sim.bind (wX _) λxs=>?_;simp only;rw [Al,Ai];refine Sim.req (λh=>a3n h) λ_=>?_;cases Ni Γ (f.1 + xd xs * 1000000) with
  | none=>exact Sim.fail
  | some S=>
   show Sim US (match S.sp with | .none=> .req (S.args.ok && S.res.ok) (Vq S o c f.2) | sp=>match f.2 with | []=>a0F sp o c | _=> .fail) (match S.sp with | .none=>Ml S.spec o c (f.2.map TV.av) | sp=>match f.2.map TV.av with | []=>spQ sp o c | _=> .fail)
   obtain⟨f0,ex⟩:=f;cases S.sp with
   | none=>
    refine Sim.chk λh=>?_;rw [a24] at h;exact Nf S h.1 h.2 o c ex
   | keys f1=>cases ex <;> first | exact BN _ o c | exact Sim.fail
   | sortI f1 e=>cases ex <;> first | exact BN _ o c | exact Sim.fail
   | sortS f1 e=>cases ex <;> first | exact BN _ o c | exact Sim.fail
 ·rename_i b hc;rw [hc];exact Kk T TU b o c
 ·exact Sim.fail
inductive Sh where
 | d (u:U)
 | nil
 | fn (f:FuncId)
 | npt
 | clo (f:FuncId) (u:U)
 | e (u:U)
 | row (j:Nat)
 | ptr (j off:Nat)
inductive SSh where
 | one (s:Sh)
 | agg (ss:List Sh)
def SSh.list:SSh->List Sh
 | .one s=>[s]
 | .agg ss=>ss
def tT:List Sh->Type
 | []=>Unit
 | .d u :: r=>u.den × tT r
 | .clo _ u :: r=>u.den × tT r
 | .e u :: r=>u.den × tT r
 | _ :: r=>tT r
def kl:(ss:List Sh)->tT ss->List TC
 | [],_=>[]
 | .d u :: r,x=> .ch u x.1 :: kl r x.2
 | .nil :: r,x=> .nil :: kl r x
 | .fn f :: r,x=> .fn f :: kl r x
 | .npt :: r,x=> .npt :: kl r x
 | .clo f u :: r,x=> .clo f u x.1 :: kl r x.2
 | .e u :: r,x=> .ep u x.1 0 :: kl r x.2
 | .row j :: r,x=> .row j 0 :: kl r x
 | .ptr j off :: r,x=> .ptr j 0 off :: kl r x
def shr:Nat->Nat->List TC->List TC
 | 0,_,ps=>ps
 | f + 1,z,ps=>match xY ps with
  | some c=>match Nat.blt z c.1.1.size with
   | true=>shr f z (uM c.1.1 c.1.2 ++ c.2)
   | false=>ps
  | none=>ps
theorem yn:∀ {f z:Nat} {ps:List TC},C6 (shr f z ps)=C6 ps
 | 0,_,_=>rfl
 | f + 1,z,ps=>by
  unfold shr;split
  ·rename_i c hc;split
   ·rw [yn,hC,qf,vI hc];rfl
   ·rfl
  ·rfl
def FR (u:U):List TC->Option (u.den × List TC)
 | .ch v x :: rest=>match decEq v u with
  | .isTrue h=>some (pq h x,rest)
  | .isFalse _=>none
 | _=>none
def Vr (u:U):List TC->Option (List u.den × List TC)
 | .ch (.sl v) x :: rest=>match decEq v u with
  | .isTrue h=>some ((h ▸ x:List u.den),rest)
  | .isFalse _=>none
 | .nil :: rest=>some ([],rest)
 | _=>none
def Vs {α:Type} (p:List TC->Option (α × List TC)):(n:Nat)->List TC->Option (Vector α n × List TC)
 | 0,ps=>some (#v[],ps)
 | n + 1,ps=>(Vs p n ps).bind λa=>(p a.2).map λb=>(a.1.push b.1,b.2)
def yo:(u:U)->List TC->Option (u.den × List TC)
 | .sl u,ps=>Vr u ps
 | .pr a b,ps=>match xY (shr FU (U.pr a b).size ps) with
  | some c=>match decEq c.1.1 (.pr a b) with
   | .isTrue h=>some (pq h c.1.2,c.2)
   | .isFalse _=>(yo a ps).bind λp=>(yo b p.2).map λq=>((p.1,q.1),q.2)
  | none=>(yo a ps).bind λp=>(yo b p.2).map λq=>((p.1,q.1),q.2)
 | .arr n u,ps=>match FR (.arr n u) (shr FU (U.arr n u).size ps) with
  | some q=>some q
  | none=>Vs (yo u) n ps
 | .int k,ps=>FR (.int k) (shr FU 1 ps)
 | .byte,ps=>FR .byte (shr FU 1 ps)
 | .bool,ps=>FR .bool (shr FU 1 ps)
 | .str,ps=>FR .str (shr FU 1 ps)
def DLe (xs ys:List AC):Prop:=∀ s b r,wG s b r xs ys
theorem yp {s:St} {b:List (Nat × Nat × List AC)} {r:List (Nat × Option Nat × Row)}:∀ {xs ys us vs:List AC},wG s b r xs ys->wG s b r us vs->wG s b r (xs ++ us) (ys ++ vs)
 | [],[],_,_,_,h=>h
 | _x :: _xs,_y :: _ys,_,_,h,k=>⟨h.1,yp h.2 k⟩
theorem DLe.app {xs ys us vs:List AC} (h:DLe xs ys) (k:DLe us vs):DLe (xs ++ us) (ys ++ vs):=λs b r=>yp (h s b r) (k s b r)
theorem DLe.refl:∀ (ds:List DV),DLe (ds.map .d) (ds.map .d)
 | []=>λ_ _ _=>trivial
 | _d :: ds=>λs b r=>⟨rfl,DLe.refl ds s b r⟩
theorem uW {u:U} {ps:List TC} {p:u.den × List TC} (h:FR u ps=some p):∃ pre,C6 ps=pre ++ C6 p.2/\DLe pre ((u.enc p.1).map .d):=by
 unfold FR at h;split at h
 ·split at h
  ·rename_i e _;injection h with h;subst h;refine⟨_,rfl,?_⟩;rw [sn];exact DLe.refl _
  ·cases h
 ·cases h
theorem Rm {u:U} {ps:List TC} {p:List u.den × List TC} (h:Vr u ps=some p):∃ pre,C6 ps=pre ++ C6 p.2/\DLe pre [.d (.sl (p.1.map u.enc))]:=by
 unfold Vr at h;split at h
 ·split at h
  ·rename_i e _;subst e;injection h with h;subst h;exact⟨_,rfl,λs b r=>⟨rfl,trivial⟩⟩
  ·cases h
 ·injection h with h;subst h;exact⟨[.nil],rfl,λs b r=>⟨rfl,trivial⟩⟩
 ·cases h
theorem Ic {α:Type} {f:α->List DV} {p:List TC->Option (α × List TC)} (hp:∀ {ps q},p ps=some q->∃ pre,C6 ps=pre ++ C6 q.2/\DLe pre ((f q.1).map .d)):∀ (n:Nat) {ps:List TC} {q:Vector α n × List TC},Vs p n ps=some q->∃ pre,C6 ps=pre ++ C6 q.2/\DLe pre ((q.1.toList.flatMap f).map .d)
 | 0,ps,q,h=>by
  injection h with h;subst h;exact⟨[],rfl,λ_ _ _=>trivial⟩
 | n + 1,ps,q,h=>by
  obtain⟨a,h1,h2⟩:=Option.bind_eq_some_iff.1 h;obtain⟨b,h3,rfl⟩:=Option.map_eq_some_iff.1 h2;obtain⟨pre1,e1,d1⟩:=Ic hp n h1;obtain⟨pre2,e2,d2⟩:=hp h3;refine⟨pre1 ++ pre2,by rw [e1,e2,a3c],?_⟩;simp only [a5p,a4F,a3C,List.flatMap_nil,a3b,a3g];exact d1.app d2
theorem xe:∀ {u:U} {ps:List TC} {p:u.den × List TC},yo u ps=some p->∃ pre,C6 ps=pre ++ C6 p.2/\DLe pre ((u.enc p.1).map .d)
 | .sl u,ps,p,h=>Rm h
 | .arr n u,ps,p,h=>by
  unfold yo at h;split at h
  ·rename_i q hq;injection h with h;subst h;rw [<-yn (f:=FU) (z:=(U.arr n u).size)];exact uW hq
  ·exact Ic xe n h
 | .int k,ps,p,h=>by rw [<-yn (f:=FU) (z:=1)];exact uW h
 | .byte,ps,p,h=>by rw [<-yn (f:=FU) (z:=1)];exact uW h
 | .bool,ps,p,h=>by rw [<-yn (f:=FU) (z:=1)];exact uW h
 | .str,ps,p,h=>by rw [<-yn (f:=FU) (z:=1)];exact uW h
 | .pr a b,ps,p,h=>by
  have two:((yo a ps).bind λp=>(yo b p.2).map λq=>(((p.1,q.1),q.2):(a.den × b.den) × List TC))=some p->∃ pre,C6 ps=pre ++ C6 p.2/\DLe pre (((U.pr a b).enc p.1).map .d):=λh=>by
   obtain⟨q,h1,h2⟩:=Option.bind_eq_some_iff.1 h;obtain⟨q2,h3,rfl⟩:=Option.map_eq_some_iff.1 h2;obtain⟨pre1,e1,d1⟩:=xe h1;obtain⟨pre2,e2,d2⟩:=xe h3;refine⟨pre1 ++ pre2,by rw [e1,e2,a3c],?_⟩;show DLe _ ((a.enc q.1 ++ b.enc q2.1).map .d);rw [a3g];exact d1.app d2
  unfold yo at h;split at h
  ·rename_i c hc;split at h
   ·rename_i e _;injection h with h;subst h;have:=congrArg C6 (vI hc);rw [yn] at this;refine⟨_,this,?_⟩;rw [sn];exact DLe.refl _
   ·exact two h
  ·exact two h
structure Rd (α:Type) where
 x:α
 rr:List (Nat × Option Nat)
 br:List (Nat × Nat)
def fit:(ss:List Sh)->TSt->List TC->Option (Rd (tT ss))
 | [],_,ps=>match ps with
  | []=>some ⟨(),[],[]⟩
  | _=>none
 | .d u :: r,s,ps=>(yo u ps).bind λp=>(fit r s p.2).map λq=>⟨(p.1,q.x),q.rr,q.br⟩
 | .fn f :: r,s,ps=>match ps with
  | .fn g :: rest=>match decEq g f with
   | .isTrue _=>fit r s rest
   | .isFalse _=>none
  | _=>none
 | .npt :: r,s,ps=>match ps with
  | .npt :: rest=>fit r s rest
  | _=>none
 | .clo f u :: r,s,ps=>match ps with
  | .clo g v x :: rest=>match decEq g f with
   | .isTrue _=>match decEq v u with
    | .isTrue h=>(fit r s rest).map λq=>⟨(pq h x,q.x),q.rr,q.br⟩
    | .isFalse _=>none
   | .isFalse _=>none
  | _=>none
 | .e u :: r,s,ps=>match ps with
  | .ep v x off :: rest=>match decEq v u with
   | .isTrue h=>match Nat.beq off 0 with
    | true=>(fit r s rest).map λq=>⟨(pq h x,q.x),q.rr,q.br⟩
    | false=>none
   | .isFalse _=>none
  | _=>none
 | .nil :: r,s,ps=>match ps with
  | .nil :: rest=>fit r s rest
  | _=>none
 | .row j :: r,s,ps=>match ps with
  | .nil :: rest=>(fit r s rest).map λq=>⟨q.x,(j,none) :: q.rr,q.br⟩
  | .row id ver :: rest=>match Nat.beq ver (s.r id).ver with
   | true=>(fit r s rest).map λq=>⟨q.x,(j,some id) :: q.rr,q.br⟩
   | false=>none
  | _=>none
 | .ptr j off :: r,s,ps=>match ps with
  | .ptr id ver off' :: rest=>match Nat.beq ver (s.b id).ver && Nat.beq off' off with
   | true=>(fit r s rest).map λq=>⟨q.x,q.rr,(j,id) :: q.br⟩
   | false=>none
  | _=>none
def tV (b:List (Nat × Nat × List AC)) (r:List (Nat × Option Nat × Row)) (rr:List (Nat × Option Nat)) (br:List (Nat × Nat)):Prop:=
 (∀ p ∈ rr,(iw r p.1).map (·.1)=some p.2)/\(∀ p ∈ br,(iw b p.1).map (·.1)=some p.2)
theorem tV.rr_tail {b:List (Nat × Nat × List AC)} {r:List (Nat × Option Nat × Row)} {p:Nat × Option Nat} {rr:List (Nat × Option Nat)} {br:List (Nat × Nat)} (h:tV b r (p :: rr) br):(iw r p.1).map (·.1)=some p.2/\tV b r rr br:=
 ⟨h.1 p (by simp),λq hq=>h.1 q (by simp [hq]),h.2⟩
theorem tV.br_tail {b:List (Nat × Nat × List AC)} {r:List (Nat × Option Nat × Row)} {p:Nat × Nat} {rr:List (Nat × Option Nat)} {br:List (Nat × Nat)} (h:tV b r rr (p :: br)):(iw b p.1).map (·.1)=some p.2/\tV b r rr br:=
 ⟨h.2 p (by simp),h.1,λq hq=>h.2 q (by simp [hq])⟩
theorem qK {b:List (Nat × Nat × List AC)} {r:List (Nat × Option Nat × Row)} {s:TSt}:∀ {ss:List Sh} {ps:List TC} {q:Rd (tT ss)},fit ss s ps=some q->tV b r q.rr q.br->wG s.st b r (C6 ps) (C6 (kl ss q.x))
 | [],[],q,h,_=>trivial
 | [],_ :: _,q,h,_=>by cases h
 | .d u :: ss,ps,q,h,hr=>by
  obtain⟨p,h1,h2⟩:=Option.bind_eq_some_iff.1 h;obtain⟨q2,h3,rfl⟩:=Option.map_eq_some_iff.1 h2;obtain⟨pre,e,d⟩:=xe h1;rw [e];exact yp (d _ _ _) (qK (q:=q2) h3 hr)
 | .fn f :: ss,ps,q,h,hr=>by
  unfold fit at h;split at h
  ·split at h
   ·rename_i e _;subst e;exact⟨rfl,qK (ss:=ss) (q:=q) h hr⟩
   ·cases h
  ·cases h
 | .clo f u :: ss,ps,q,h,hr=>by
  unfold fit at h;split at h
  ·split at h
   ·rename_i e1 _;subst e1;split at h
    ·rename_i e2 _;subst e2;obtain⟨q2,h2,rfl⟩:=Option.map_eq_some_iff.1 h;exact⟨rfl,qK (ss:=ss) (q:=q2) h2 hr⟩
    ·cases h
   ·cases h
  ·cases h
 | .e u :: ss,ps,q,h,hr=>by
  unfold fit at h;split at h
  ·split at h
   ·rename_i e2 _;subst e2;split at h
    ·rename_i h0;obtain⟨q2,h2,rfl⟩:=Option.map_eq_some_iff.1 h;rw [a22 h0];exact⟨rfl,qK (ss:=ss) (q:=q2) h2 hr⟩
    ·cases h
   ·cases h
  ·cases h
 | .npt :: ss,ps,q,h,hr=>by
  match ps,h with
  | .npt :: rest,h=>exact⟨rfl,qK (ss:=ss) (q:=q) h hr⟩
 | .nil :: ss,ps,q,h,hr=>by
  match ps,h with
  | .nil :: rest,h=>exact⟨trivial,qK (ss:=ss) (q:=q) h hr⟩
 | .row j :: ss,ps,q,h,hr=>by
  unfold fit at h;split at h
  ·obtain⟨q2,h2,rfl⟩:=Option.map_eq_some_iff.1 h;obtain⟨a1,a2⟩:=hr.rr_tail;exact⟨⟨rfl,a1⟩,qK (ss:=ss) (q:=q2) h2 a2⟩
  ·rename_i id ver rest;split at h
   ·rename_i hv;obtain⟨q2,h2,rfl⟩:=Option.map_eq_some_iff.1 h;obtain⟨a1,a2⟩:=hr.rr_tail;exact⟨⟨a22 hv,rfl,a1⟩,qK (ss:=ss) (q:=q2) h2 a2⟩
   ·cases h
  ·cases h
 | .ptr j off :: ss,ps,q,h,hr=>by
  unfold fit at h;split at h
  ·rename_i id ver off' rest;split at h
   ·rename_i hv;rw [a24] at hv;obtain⟨q2,h2,rfl⟩:=Option.map_eq_some_iff.1 h;obtain⟨a1,a2⟩:=hr.br_tail;exact⟨⟨a22 hv.1,rfl,a22 hv.2,a1⟩,qK (ss:=ss) (q:=q2) h2 a2⟩
   ·cases h
  ·cases h
structure Lay where
 n:Nat
 t:List (Nat × SSh)
 b:List (Nat × List Sh)
 r:List (Nat × U × TypeId × Bool)
def Rn:List (Nat × SSh)->Type
 | []=>Unit
 | p :: r=>tT p.2.list × Rn r
def TT:List (Nat × List Sh)->Type
 | []=>Unit
 | p :: r=>tT p.2 × TT r
def TW:List (Nat × U × TypeId × Bool)->Type
 | []=>Unit
 | p :: r=>List p.2.1.den × TW r
def Lay.den (L:Lay):Type:=Rn L.t × TT L.b × TW L.r
def a0G:(p:SSh)->tT p.list->TV
 | .one s,x=>match kl [s] x with
  | [c]=> .o (.c c)
  | _=> .any
 | .agg ss,x=> .o (.agg (kl ss x))
def Vt:(l:List (Nat × SSh))->Rn l->List (Nat × TV)
 | [],_=>[]
 | p :: r,x=>(p.1,a0G p.2 x.1) :: Vt r x.2
def Ro:(l:List (Nat × List Sh))->TT l->List (Nat × List TC)
 | [],_=>[]
 | p :: r,x=>(p.1,kl p.2 x.1) :: Ro r x.2
def Nm:(l:List (Nat × U × TypeId × Bool))->TW l->List (Nat × wH)
 | [],_=>[]
 | p :: r,x=>(p.1,⟨p.2.1,x.1,p.2.2.1,p.2.2.2⟩) :: Nm r x.2
def Lay.st (L:Lay) (x:L.den):TSt:=⟨L.n,λk=>⟨decide (k < L.n),(iw (Vt L.t x.1) k).getD .any⟩,λk=>⟨0,iw (Ro L.b x.2.1) k⟩,λk=>⟨0,iw (Nm L.r x.2.2) k⟩⟩
def Vu:(p:SSh)->TSt->TV->Option (Rd (tT p.list))
 | .one s',s,v=>match v with
  | .o (.c c)=>match is1 c with
   | true=>fit [s'] s [c]
   | false=>none
  | _=>none
 | .agg ss,s,v=>match v with
  | .o (.agg ps)=>fit ss s ps
  | _=>none
theorem Rp {b:List (Nat × Nat × List AC)} {r:List (Nat × Option Nat × Row)} {s:TSt} {p:SSh} {v:TV} {q:Rd (tT p.list)} (h:Vu p s v=some q) (hr:tV b r q.rr q.br):Xg s.st b r v.av (a0G p q.x).av:=by
 cases p with
 | one s'=>
  unfold Vu at h;simp only at h;split at h
  ·rename_i c;split at h
   ·rename_i hc;have h1:=qK h hr;have e0:C6 [c]=[kR c.cells]:=(a3b _).trans (wl hc);rw [e0] at h1;unfold a0G;simp only;split
    ·rename_i c' hc';rw [hc'] at h1;show Xf s.st b r (kR c.cells) (kR c'.cells);have h1:wG s.st b r [kR c.cells] (c'.cells ++ []):=h1;rw [a3b] at h1
     match hl:c'.cells,h1 with
     | [y],h1=>exact h1.1
    ·cases hx:(TV.o (T1.c c)).av <;> trivial
   ·cases h
  ·cases h
 | agg ss=>
  match v,h with
  | .o (.agg ps),h=>exact qK (ss:=ss) (q:=q) h hr
def uX (s:TSt):(l:List (Nat × SSh))->Option (Rd (Rn l))
 | []=>some ⟨(),[],[]⟩
 | p :: r=>match Nat.ble s.n p.1 || (s.t p.1).g with
  | true=>(Vu p.2 s (s.t p.1).x).bind λq=>(uX s r).map λq2=>⟨(q.x,q2.x),q.rr ++ q2.rr,q.br ++ q2.br⟩
  | false=>none
def tA (l:List (Nat × SSh)) (x:Rn l):List (Nat × AV):=(Vt l x).map λp=>(p.1,p.2.av)
theorem tV.split {b:List (Nat × Nat × List AC)} {r:List (Nat × Option Nat × Row)} {rr rr2:List (Nat × Option Nat)} {br br2:List (Nat × Nat)} (h:tV b r (rr ++ rr2) (br ++ br2)):tV b r rr br/\tV b r rr2 br2:=
 ⟨⟨λp hp=>h.1 p (by simp [hp]),λp hp=>h.2 p (by simp [hp])⟩,⟨λp hp=>h.1 p (by simp [hp]),λp hp=>h.2 p (by simp [hp])⟩⟩
theorem wr {b:List (Nat × Nat × List AC)} {r:List (Nat × Option Nat × Row)} {s:TSt}:∀ {l:List (Nat × SSh)} {q:Rd (Rn l)},uX s l=some q->tV b r q.rr q.br->ro s.st b r (tA l q.x)
 | [],_,_,_=>trivial
 | p :: l,q,h,hr=>by
  unfold uX at h;split at h
  ·rename_i hg;obtain⟨q1,h1,h2⟩:=Option.bind_eq_some_iff.1 h;obtain⟨q2,h3,rfl⟩:=Option.map_eq_some_iff.1 h2;obtain⟨r1,r2⟩:=hr.split;refine⟨⟨λhlt=>?_,Rp h1 r1⟩,wr (q:=q2) h3 r2⟩;rw [a3Y] at hg;rcases hg with hg | hg
   ·have:=a3n hg;have:p.1 < s.n:=hlt;omega
   ·exact hg
  ·cases h
structure RdB (α:Type) where
 x:α
 rr:List (Nat × Option Nat)
 br:List (Nat × Nat)
 L:List (Nat × Nat × List AC)
def uY (s:TSt):List (Nat × Nat)->(l:List (Nat × List Sh))->Option (RdB (TT l))
 | _,[]=>some ⟨(),[],[],[]⟩
 | br,p :: r=>match iw br p.1 with
  | none=>none
  | some id=>match(s.b id).c with
   | none=>none
   | some ps=>(fit p.2 s ps).bind λq=>(uY s (br ++ q.br) r).map λq2=>⟨(q.x,q2.x),q.rr ++ q2.rr,q.br ++ q2.br,(p.1,id,C6 (kl p.2 q.x)) :: q2.L⟩
theorem ws {b:List (Nat × Nat × List AC)} {r:List (Nat × Option Nat × Row)} {s:TSt}:∀ {l:List (Nat × List Sh)} {br:List (Nat × Nat)} {q:RdB (TT l)},uY s br l=some q->tV b r q.rr q.br->tL s.st b r q.L/\∀ k,(iw q.L k).map (·.2)=(iw (Ro l q.x) k).map C6
 | [],_,q,h,_=>by injection h with h;subst h;exact⟨trivial,λ_=>rfl⟩
 | p :: l,br,q,h,hr=>by
  unfold uY at h;split at h
  ·cases h
  ·rename_i id hid;split at h
   ·cases h
   ·rename_i ps hps;obtain⟨q1,h1,h2⟩:=Option.bind_eq_some_iff.1 h;obtain⟨q2,h3,rfl⟩:=Option.map_eq_some_iff.1 h2;obtain⟨r1,r2⟩:=hr.split;obtain⟨k1,k2⟩:=ws (q:=q2) h3 r2;refine⟨⟨?_,k1⟩,λk=>?_⟩
    ·have hc:(s.st.b id).c=some (C6 ps):=by show(s.b id).c.map C6=_;rw [hps];rfl
     unfold UM;rw [hc];exact qK h1 r1
    ·show(iw ((p.1,id,C6 (kl p.2 q1.x)) :: q2.L) k).map (·.2)=(iw ((p.1,kl p.2 q1.x) :: Ro l q2.x) k).map C6;simp only [iw];split
     ·rfl
     ·exact k2 k
structure RdR (α:Type) where
 x:α
 L:List (Nat × Option Nat × Row)
def uZ (s:TSt) (rr:List (Nat × Option Nat)):(l:List (Nat × U × TypeId × Bool))->Option (RdR (TW l))
 | []=>some ⟨(),[]⟩
 | p :: r=>match iw rr p.1 with
  | none=>none
  | some none=>match Nat.blt 0 p.2.1.size && Nat.blt p.2.2.1 ja with
   | true=>(uZ s rr r).map λq2=>⟨(([]:List p.2.1.den),q2.x),(p.1,none,(⟨p.2.1,[],p.2.2.1,p.2.2.2⟩:wH).row) :: q2.L⟩
   | false=>none
  | some (some id)=>match(s.r id).c with
   | none=>none
   | some R=>match decEq R.u p.2.1 with
    | .isTrue h=>match Nat.beq R.e p.2.2.1 && (!R.fr || p.2.2.2) with
     | true=>(uZ s rr r).map λq2=>⟨((h ▸ R.l:List p.2.1.den),q2.x),(p.1,some id,(⟨p.2.1,(h ▸ R.l:List p.2.1.den),p.2.2.1,p.2.2.2⟩:wH).row) :: q2.L⟩
     | false=>none
    | .isFalse _=>none
theorem row_cast {R:wH} {u:U} (h:R.u=u) (e:TypeId) (fr:Bool):(⟨u,(h ▸ R.l:List u.den),e,fr⟩:wH).row.es=R.row.es/\(⟨u,(h ▸ R.l:List u.den),e,fr⟩:wH).row.sz=R.row.sz:=by
 subst h;exact⟨rfl,rfl⟩
theorem tW {s:TSt} {rr:List (Nat × Option Nat)}:∀ {l:List (Nat × U × TypeId × Bool)} {q:RdR (TW l)},uZ s rr l=some q->rowsLe s.st q.L/\∀ k,(iw q.L k).map (·.2)=(iw (Nm l q.x) k).map wH.row
 | [],q,h=>by injection h with h;subst h;exact⟨trivial,λ_=>rfl⟩
 | p :: l,q,h=>by
  unfold uZ at h;split at h
  ·cases h
  ·split at h
   ·rename_i hz;obtain⟨q2,h3,rfl⟩:=Option.map_eq_some_iff.1 h;obtain⟨k1,k2⟩:=tW (q:=q2) h3;rw [a24] at hz;refine⟨⟨⟨rfl,a3n hz.1,a3n hz.2⟩,k1⟩,λk=>?_⟩;show(iw ((p.1,none,(⟨p.2.1,[],p.2.2.1,p.2.2.2⟩:wH).row) :: q2.L) k).map (·.2)=(iw ((p.1,(⟨p.2.1,[],p.2.2.1,p.2.2.2⟩:wH)) :: Nm l q2.x) k).map wH.row;simp only [iw];split
    ·rfl
    ·exact k2 k
   ·cases h
  ·rename_i id hid;split at h
   ·cases h
   ·rename_i R hR;split at h
    ·rename_i hu _;split at h
     ·rename_i hc;rw [a24] at hc;obtain⟨q2,h3,rfl⟩:=Option.map_eq_some_iff.1 h;obtain⟨k1,k2⟩:=tW (q:=q2) h3;obtain⟨c1,c2⟩:=row_cast hu p.2.2.1 p.2.2.2;refine⟨⟨?_,k1⟩,λk=>?_⟩
      ·have hcr:(s.st.r id).c=some R.row:=by show(s.r id).c.map wH.row=_;rw [hR];rfl
       unfold rowSrc;simp only;rw [hcr];refine⟨c1.symm,c2.symm,a22 hc.1,λhf=>?_⟩;have hf:R.fr=true:=hf;have h2:=hc.2;rw [hf] at h2;exact h2
      ·show(iw ((p.1,some id,(⟨p.2.1,(hu ▸ R.l:List p.2.1.den),p.2.2.1,p.2.2.2⟩:wH).row) :: q2.L) k).map (·.2)=(iw ((p.1,(⟨p.2.1,(hu ▸ R.l:List p.2.1.den),p.2.2.1,p.2.2.2⟩:wH)) :: Nm l q2.x) k).map wH.row;simp only [iw];split
       ·rfl
       ·exact k2 k
     ·cases h
    ·cases h
def Rq (x:Nat):List Nat->Bool
 | []=>false
 | y :: r=>Nat.beq x y || Rq x r
def Dv:List Nat->Bool
 | []=>true
 | x :: r=> !Rq x r && Dv r
theorem Id {x:Nat}:∀ {l:List Nat},Rq x l=false->x ∉ l
 | [],_,h=>by simp at h
 | y :: r,h,hm=>by
  simp only [Rq,a5d] at h;rcases List.mem_cons.1 hm with e | hm
  ·subst e;have:=h.1;simp at this
  ·exact Id h.2 hm
theorem yq:∀ {l:List Nat},Dv l=true->l.Nodup
 | [],_=>a4j
 | x :: r,h=>by
  simp only [Dv,a24,a20] at h;exact List.nodup_cons.2 ⟨Id h.1,yq h.2⟩
def FT (rL:List (Nat × Option Nat × Row)) (p:Nat × Option Nat):Bool:=match iw rL p.1,p.2 with
 | some q,some id=>match q.1 with
  | some id'=>Nat.beq id' id
  | none=>false
 | some q,none=>match q.1 with
  | some _=>false
  | none=>true
 | none,_=>false
def FV (bL:List (Nat × Nat × List AC)) (p:Nat × Nat):Bool:=match iw bL p.1 with
 | some q=>Nat.beq q.1 p.2
 | none=>false
theorem Kn {rL:List (Nat × Option Nat × Row)} {p:Nat × Option Nat} (h:FT rL p=true):(iw rL p.1).map (·.1)=some p.2:=by
 unfold FT at h;split at h
 ·rename_i q id hq hp;split at h
  ·rename_i id' hi;rw [hq,hp,a3s,hi,a22 h]
  ·cases h
 ·rename_i q hq hp;split at h
  ·cases h
  ·rename_i hi;rw [hq,hp,a3s,hi]
 ·cases h
theorem Ko {bL:List (Nat × Nat × List AC)} {p:Nat × Nat} (h:FV bL p=true):(iw bL p.1).map (·.1)=some p.2:=by
 unfold FV at h;split at h
 ·rename_i q hq;rw [hq,a3s,a22 h]
 ·cases h
def Lay.read0 (L:Lay) (s:TSt):Option L.den:=match Nat.beq s.n L.n with
 | true=>(uX s L.t).bind λa=>(uY s a.br L.b).bind λc=>(uZ s (a.rr ++ c.rr) L.r).bind λd=>
  match(a.rr ++ c.rr).all (FT d.L) && (a.br ++ c.br).all (FV c.L) && Dv (c.L.map (·.2.1)) && Dv (d.L.filterMap (·.2.1)) with
  | true=>some (a.x,c.x,d.x)
  | false=>none
 | false=>none
theorem Nn (l:List (Nat × TV)) (k:Nat):((iw l k).getD .any).av=(iw (l.map λp=>(p.1,p.2.av)) k).getD .any:=by
 rw [<-Hz TV.av];cases iw l k <;> rfl
theorem Lay.read0_le {L:Lay} {s:TSt} {x:L.den} (h:L.read0 s=some x):Le s.st (L.st x).st:=by
 unfold Lay.read0 at h;split at h
 ·rename_i hn;obtain⟨a,h1,h2⟩:=Option.bind_eq_some_iff.1 h;obtain⟨c,h3,h4⟩:=Option.bind_eq_some_iff.1 h2;obtain⟨d,h5,h6⟩:=Option.bind_eq_some_iff.1 h4;clear h h2 h4;split at h6
  ·rename_i hc;injection h6 with h6;subst h6;simp only [a24,a4f] at hc;obtain⟨⟨⟨c1,c2⟩,c3⟩,c4⟩:=hc;have hr:tV c.L d.L (a.rr ++ c.rr) (a.br ++ c.br):=⟨λp hp=>Kn (c1 p hp),λp hp=>Ko (c2 p hp)⟩;obtain⟨r1,r2⟩:=hr.split;obtain⟨b1,b2⟩:=ws h3 r2;obtain⟨w1,w2⟩:=tW h5;have e:(L.st (a.x,c.x,d.x)).st=pY L.n (tA L.t a.x) c.L d.L:=by
    unfold pY TSt.st Lay.st;congr 1
    ·funext k;exact congrArg (GV.mk _) (Nn _ k)
    ·funext k;exact congrArg (BS.mk 0) (b2 k).symm
    ·funext k;exact congrArg (RS.mk 0) (w2 k).symm
   rw [e];exact a0n (a22 hn) (wr h1 r1) b1 w1 (yq c3) (yq c4)
  ·cases h6
 ·cases h
def a0a (p:Nat × SSh) (s:TSt):TSt:=match p.2 with
 | .one (.d (.sl _))=>match(s.t p.1).g,(s.t p.1).x with
  | true,.o (.c (.row id ver))=>match(s.r id).c with
   | some R=>match Nat.beq ver (s.r id).ver && Nat.blt p.1 s.n && Nat.blt R.e ja with
    | true=>(s.app [.r id ⟨(s.r id).ver,some ⟨R.u,R.l,R.e,true⟩⟩]).app [.t p.1 ⟨true,.o (.c (.ch (.sl R.u) R.l))⟩]
    | false=>s
   | none=>s
  | _,_=>s
 | _=>s
def a0H:List (Nat × SSh)->TSt->TSt
 | [],s=>s
 | p :: r,s=>a0H r (a0a p s)
theorem Vv (p:Nat × SSh) (s:TSt):Le s.st (a0a p s).st:=by
 unfold a0a;split
 ·split
  ·rename_i id ver hg hx;split
   ·rename_i R hR;split
    ·rename_i hc;simp only [a24] at hc;obtain⟨⟨c1,c2⟩,c3⟩:=hc;have c1:=a22 c1;rw [TSt.st_app,TSt.st_app];refine Xh (R:=R.row) (a3n c2) (by exact hg) ?_ ?_ (a3n c3)
     ·exact(congrArg TV.av hx).trans (by rw [c1];rfl)
     ·show(s.r id).c.map wH.row=_;rw [hR];rfl
    ·exact Le.refl _
   ·exact Le.refl _
  ·exact Le.refl _
 ·exact Le.refl _
theorem No:∀ (l:List (Nat × SSh)) (s:TSt),Le s.st (a0H l s).st
 | [],_s=>Le.refl _
 | p :: l,s=>(Vv p s).trans (No l (a0a p s))
def Lay.read (L:Lay) (s:TSt):Option L.den:=L.read0 (a0H L.t s)
theorem Lay.read_le {L:Lay} {s:TSt} {x:L.den} (h:L.read s=some x):Le s.st (L.st x).st:=(No L.t s).trans (Lay.read0_le h)
def gQ.part:gQ->ao
 | .t k _=> .t k
 | .b k _=> .b k
 | .r k _=> .r k
theorem Ie (us:List gQ):(us.map gQ.upd).map Upd.part=us.map gQ.part:=by
 rw [a4z];exact a37 λu _=>by cases u <;> rfl
def sel {α:Type} (b:Bool) (x y:α):α:=match b with
 | true=>x
 | false=>y
def yr (d:Option Nat):List gQ:=match d with
 | some d=>[.t d ⟨false,.any⟩]
 | none=>[]
theorem Rr (d:Option Nat):US (yr d)=AZ d:=by cases d <;> rfl
section
variable (T:TypeId->Option TI) (TU:TypeId->Option U) (tcq:Oper->Call->TQ (List gQ))
def nj {R:Type} (draw:Bool) (l:List Oper):List Oper->TSt->List (List ao × List ao)->(TSt->Option R)->Option R
 | [],s,tr,κ=>match draw with
  | true=>chk (xN l tr) (κ s)
  | false=>κ s
 | o :: rest,s,tr,κ=>match o.guard with
  | none=>(WH T TU tcq o).run s [] λus rs=>nj draw l rest (s.app us) (tr ++ [(rs,us.map gQ.part)]) κ
  | some (j,want)=>match(l[j]?).bind (·.dst) with
   | none=>none
   | some d=>match(s.t d).g,(s.t d).x with
    | false,_=>nj draw l rest (s.app (yr o.dst)) (tr ++ [([.t d],(yr o.dst).map gQ.part)]) κ
    | true,.o (.c (.ch .bool b))=>sel b
     (match want with
      | true=>(WH T TU tcq o).run (s.app1 (.t d ⟨true,c1 .bool true⟩)) [.t d] λus rs=>nj draw l rest ((s.app1 (.t d ⟨true,c1 .bool true⟩)).app us) (tr ++ [(rs,us.map gQ.part)]) κ
      | false=>nj draw l rest ((s.app1 (.t d ⟨true,c1 .bool true⟩)).app (yr o.dst)) (tr ++ [([.t d],(yr o.dst).map gQ.part)]) κ)
     (match want with
      | false=>(WH T TU tcq o).run (s.app1 (.t d ⟨true,c1 .bool false⟩)) [.t d] λus rs=>nj draw l rest ((s.app1 (.t d ⟨true,c1 .bool false⟩)).app us) (tr ++ [(rs,us.map gQ.part)]) κ
      | true=>nj draw l rest ((s.app1 (.t d ⟨true,c1 .bool false⟩)).app (yr o.dst)) (tr ++ [([.t d],(yr o.dst).map gQ.part)]) κ)
    | _,_=>none
end
theorem If {α:Type} {b:Bool} {x y:Option α} {r:α} (h:sel b x y=some r):(b=true/\x=some r)\/(b=false/\y=some r):=by
 cases b
 ·exact .inr ⟨rfl,h⟩
 ·exact .inl ⟨rfl,h⟩
theorem Dw {s:TSt} {d:Nat} {x:TGV} (h:s.t d=x):s.app1 (.t d x)=s:=by
 show(⟨s.n,Am.upd s.t d x,s.b,s.r⟩:TSt)=s;have:Am.upd s.t d x=s.t:=by
  funext j;unfold Am.upd;split
  ·rename_i e;rw [e,h]
  ·rfl
 rw [this]
section
variable {P:Program} {T:TypeId->Option TI} {TU:TypeId->Option U} {cq:Oper->Call->Q (List Upd)} {tcq:Oper->Call->TQ (List gQ)}
theorem vM {R:Type} (hc:∀ o c,o.op= .call c->Sim US (tcq o c) (cq o c)) {draw:Bool} {l:List Oper} {κ:TSt->Option R} {r:R}:∀ {rest:List Oper} {s:TSt} {tr:List (List ao × List ao)},nj T TU tcq draw l rest s tr κ=some r->
  wpD T cq l rest s.st tr λs' tr'=>(draw=true->xN l tr'=true)/\∃ ts,s'=ts.st/\κ ts=some r
 | [],s,tr,h=>by
  unfold nj at h;cases draw with
  | true=>exact⟨λ_=>(je h).1,s,rfl,(je h).2⟩
  | false=>exact⟨λe=>(by cases e),s,rfl,h⟩
 | o :: rest,s,tr,h=>by
  have run:∀ {s:TSt} {t0:List ao},((WH T TU tcq o).run s t0 λus rs=>nj T TU tcq draw l rest (s.app us) (tr ++ [(rs,us.map gQ.part)]) κ)=some r->
    (opQ T cq o).wpt s.st t0 λus rs=>wpD T cq l rest (s.st.app us) (tr ++ [(rs,us.map Upd.part)]) λs' tr'=>(draw=true->xN l tr'=true)/\∃ ts,s'=ts.st/\κ ts=some r:=fun {s t0} h=>by
   have h1:=QZ (T:=T) (TU:=TU) hc o s t0 _ (TQ.run_wpt h);refine Q.wpt_mono h1 ?_;rintro us rs ⟨tus,rfl,h2⟩;have h3:=vM hc h2;rw [TSt.st_app] at h3;have e:tus.map gQ.part=(US tus).map Upd.part:=(Ie tus).symm;rw [e] at h3;exact h3
  have skip:∀ {s:TSt} {t0:List ao},nj T TU tcq draw l rest (s.app (yr o.dst)) (tr ++ [(t0,(yr o.dst).map gQ.part)]) κ=some r->
    wpD T cq l rest (s.st.app (AZ o.dst)) (tr ++ [(t0,(AZ o.dst).map Upd.part)]) λs' tr'=>(draw=true->xN l tr'=true)/\∃ ts,s'=ts.st/\κ ts=some r:=fun {s t0} h=>by
   have h3:=vM hc h;rw [TSt.st_app] at h3;have e1:(yr o.dst).map gQ.upd=AZ o.dst:=Rr o.dst;have e:(yr o.dst).map gQ.part=(AZ o.dst).map Upd.part:=by rw [<-Ie,e1]
   rw [e,e1] at h3;exact h3
  show(opD T cq l o).wpt s.st [] λus rs=>wpD T cq l rest (s.st.app us) (tr ++ [(rs,us.map Upd.part)]) λs' tr'=>(draw=true->xN l tr'=true)/\∃ ts,s'=ts.st/\κ ts=some r;unfold nj at h;unfold opD;split at h
  ·rename_i hg;rw [hg];exact run h
  ·rename_i j want hg;rw [hg];simp only;split at h
   ·cases h
   ·rename_i d hd;rw [hd];simp only [Q.wpt];have hst:s.st.t d=(s.t d).gv:=rfl;rw [hst];split at h
    ·rename_i hgf;have e:(s.t d).gv.g=false:=hgf;rw [e];exact skip h
    ·rename_i b hgt hxb;have e:(s.t d).gv.g=true:=hgt;have ex:(s.t d).gv.x= .c (.d (.v (.bool b))):=congrArg TV.av hxb;rw [e];simp only;rw [ex];have hsd:s.t d=⟨true,c1 .bool b⟩:=by
      have:s.t d=⟨(s.t d).g,(s.t d).x⟩:=rfl;rw [this,hgt,hxb];rfl
     rcases If h with⟨hb,h⟩ | ⟨hb,h⟩
     ·subst hb;rw [Dw hsd] at h;cases want with
      | true=>exact run h
      | false=>exact skip h
     ·subst hb;rw [Dw hsd] at h;cases want with
      | true=>exact skip h
      | false=>exact run h
    ·cases h
theorem Ao {l:List Oper} {K:St->Prop}:∀ {rest:List Oper} {s:St} {tr:List (List ao × List ao)},(wpD T cq l rest s tr λs' _=>K s')->wpR T cq l rest s K
 | [],_,_,h=>h
 | o :: rest,s,tr,h=>by
  have h:(opD T cq l o).wpt s [] λus rs=>wpD T cq l rest (s.app us) (tr ++ [(rs,us.map Upd.part)]) λs' _=>K s':=h;show(opD T cq l o).wp s λus=>wpR T cq l rest (s.app us) K;exact Q.wp_of_wpt (Q.wpt_mono h λus rs h1=>Ao h1)
theorem BO {l:List Oper} {K K':St->List (List ao × List ao)->Prop} (hk:∀ s tr,K s tr->K' s tr):∀ {rest:List Oper} {s:St} {tr:List (List ao × List ao)},wpD T cq l rest s tr K->wpD T cq l rest s tr K'
 | [],_,_,h=>hk _ _ h
 | o :: rest,s,tr,h=>by
  have h:(opD T cq l o).wpt s [] λus rs=>wpD T cq l rest (s.app us) (tr ++ [(rs,us.map Upd.part)]) K:=h;show(opD T cq l o).wpt s [] λus rs=>wpD T cq l rest (s.app us) (tr ++ [(rs,us.map Upd.part)]) K';exact Q.wpt_mono h λus rs h1=>BO hk h1
end
def Kp {S R:Type}:Nat->(S->Option (S ⊕ R))->S->Option R
 | 0,_,_=>none
 | n + 1,G,x=>match G x with
  | none=>none
  | some (.inl y)=>Kp n G y
  | some (.inr r)=>some r
theorem Np:(True/\True)=True:=propext ⟨λ_=>trivial,λ_=>⟨trivial,trivial⟩⟩
def EH:Nat:= @Eq.rec Prop (True/\True) (λ_ _=>Nat) 1180591620717411303424 True Np
theorem Nq {p q:Prop} (h:p=q) (n:Nat): @Eq.rec Prop p (λ_ _=>Nat) n q h=n:=by cases h;rfl
theorem vN:EH=1180591620717411303424:=Nq Np _
class Fu where
 n:Nat
instance fu0:Fu:=⟨EH⟩
def F8 [Fu] {S R:Type} (G:S->Option (S ⊕ R)) (x:S):Option R:=Kp Fu.n G x
def Rs {α β:Type} (o:Option α) (f:α->Option β):Option β:=
 let _h:= @F8 fu0 Unit Unit
 match o with
 | none=>none
 | some x=>f x
theorem Ig {α β:Type} (o:Option α) (f:α->Option β):Rs o f=o.bind f:=by cases o <;> rfl
structure Vw (L:Lay) (S:Type) where
 to:L.den->S
 of:S->L.den
 ok:∀ x,of (to x)=x
inductive An:Type->Type 1 where
 | leaf {R:Type}:An R
 | two {R:Type} (a b:An R):An R
 | one {R:Type} (a:An R):An R
 | cut {R S:Type} (L:Lay) (V:Vw L S) (F:S->Option R) (a b:An R):An R
 | loop {R S:Type} (L:Lay) (V:Vw L S) (G:S->Option (S ⊕ R)) (a:An (S ⊕ R)):An R
section
variable (T:TypeId->Option TI) (TU:TypeId->Option U) (tcq:Oper->Call->TQ (List gQ))
def An.fst {R:Type}:An R->An R
 | .two a _=>a
 | .cut _ _ _ a _=>a
 | .one a=>a
 | _=> .leaf
def An.snd {R:Type}:An R->An R
 | .two _ b=>b
 | .cut _ _ _ _ b=>b
 | _=> .leaf
def Nr {R:Type} (id:Nat) (κ:AX->TSt->Option R) (ax:AX) (s:TSt):Option R:=match ax with
 | .normal=>κ .normal s
 | .exit i=>match Nat.beq i id with
  | true=>κ .normal s
  | false=>κ (.exit i) s
 | .ret=>κ .ret s
def a0I {R S:Type} (L:Lay) (V:Vw L S) (F:S->Option R) (κ:AX->TSt->Option R) (ax:AX) (s:TSt):Option R:=match ax with
 | .normal=>Rs (L.read s) λx=>F (V.to x)
 | .exit i=>κ (.exit i) s
 | .ret=>κ .ret s
def Ru {R:Type} (F:TSt->Option R) (κ:AX->TSt->Option R) (ax:AX) (s:TSt):Option R:=match ax with
 | .normal=>F s
 | .exit i=>κ (.exit i) s
 | .ret=>κ .ret s
def TX {R S:Type} (L:Lay) (V:Vw L S) (κ:AX->TSt->Option R) (ax:AX) (s:TSt):Option (S ⊕ R):=match ax with
 | .normal=>(L.read s).map λx=> .inl (V.to x)
 | .exit i=>(κ (.exit i) s).map .inr
 | .ret=>(κ .ret s).map .inr
def An.next {R:Type} (a:An R) (F:TSt->Option R) (κ:AX->TSt->Option R):AX->TSt->Option R:=match a with
 | .cut L V G _ _=>a0I L V G κ
 | _=>Ru F κ
def Dx {R:Type}:An R->Code->TSt->(AX->TSt->Option R)->Option R
 | _,.skip,s,κ=>κ .normal s
 | a,.seq x y,s,κ=>Dx a.fst x s (a.next (λs'=>Dx a.snd y s' κ) κ)
 | _,.region _ ops draw,s,κ=>chk (ops.toList.all (CY s.n)) (nj T TU tcq draw ops.toList ops.toList s [] λs'=>κ .normal s')
 | a,.cond c x y,s,κ=>((tev c).bind QD).run s [] λb _=>sel b (Dx a.fst x s κ) (Dx a.snd y s κ)
 | a,.block id c,s,κ=>Dx a.fst c s (Nr id κ)
 | a,.loop _,s,_=>match a with
  | .loop L V G _=>Rs (L.read s) λx=>F8 G (V.to x)
  | _=>none
 | _,.exit i,s,κ=>κ (.exit i) s
 | _,.ret,s,κ=>κ .ret s
 | _,_,_,_=>none
def An.ok:{R:Type}->An R->Code->(AX->TSt->Option R)->Prop
 | _,.leaf,_,_=>True
 | _,.two a b,.seq x y,κ=>a.ok x (Ru (λs'=>Dx T TU tcq b y s' κ) κ)/\b.ok y κ
 | _,.cut L V F a b,.seq x y,κ=>a.ok x (a0I L V F κ)/\b.ok y κ/\∀ v,F v=Dx T TU tcq b y (L.st (V.of v)) κ
 | _,.two a b,.cond _ x y,κ=>a.ok x κ/\b.ok y κ
 | _,.one a,.block id c,κ=>a.ok c (Nr id κ)
 | _,.loop L V G a,.loop c,κ=>a.ok c (TX L V κ)/\∀ v,G v=Dx T TU tcq a c (L.st (V.of v)) (TX L V κ)
 | _,_,_,_=>False
end
section
variable {P:Program} {T:TypeId->Option TI} {TU:TypeId->Option U} {cq:Oper->Call->Q (List Upd)} {tcq:Oper->Call->TQ (List gQ)}
theorem FW (hT:∀ t i,T t=some i->TOk P t i) (hcq:∀ o c,o.op= .call c->LA P o (cq o c)) (hc:∀ o c,o.op= .call c->Sim US (tcq o c) (cq o c)) (hm:P.follows .mixedOrders=true) :
  ∀ (c:Code) {R:Type} {a:An R} {s:TSt} {κ:AX->TSt->Option R} {K:AX->St->Prop} {r:R},a.ok T TU tcq c κ->Dx T TU tcq a c s κ=some r->(∀ ax s',κ ax s'=some r->K ax s'.st)->Tri P c K s.st:=by
 intro c
 induction c with
 | skip=>intro R a s κ K r _ h hk;exact Ql (hk _ _ h)
 | seq x y ihx ihy=>
  intro R a s κ K r ho h hk;refine Bi ?_;cases a with
  | leaf=>
   refine ihx (a:= .leaf) (κ:=Ru (λs'=>Dx T TU tcq .leaf y s' κ) κ) trivial h λax s' h'=>?_;cases ax with
   | normal=>exact ihy (a:= .leaf) (κ:=κ) trivial h' hk
   | exit i=>exact hk _ _ h'
   | ret=>exact hk _ _ h'
  | two a b=>
   refine ihx ho.1 h λax s' h'=>?_;cases ax with
   | normal=>exact ihy ho.2 h' hk
   | exit i=>exact hk _ _ h'
   | ret=>exact hk _ _ h'
  | cut L V F a b=>
   refine ihx ho.1 h λax s' h'=>?_;cases ax with
   | normal=>
    rw [a0I,Ig] at h';obtain⟨v,h1,h2⟩:=Option.bind_eq_some_iff.1 h';rw [ho.2.2 (V.to v),V.ok] at h2;exact Xe (Lay.read_le h1) (ihy ho.2.1 h2 hk)
   | exit i=>exact hk _ _ h'
   | ret=>exact hk _ _ h'
  | one a=>exact ho.elim
  | loop L V G a=>exact ho.elim
 | region id ops draw=>
  intro R a s κ K r _ h hk;obtain⟨hd,h⟩:=je h;have h1:=vM (T:=T) (TU:=TU) hc h;have e:ops=ops.toList.toArray:=(Array.toArray_toList ..).symm;rw [e];cases draw with
  | true=>exact JL hT hcq hm hd (BO (λs' tr h2=>by obtain⟨h3,ts,rfl,h4⟩:=h2;exact⟨h3 rfl,hk _ _ h4⟩) h1)
  | false=>exact zR hT hcq hd (Ao (tr:=[]) (BO (λs' tr h2=>by obtain⟨_,ts,rfl,h4⟩:=h2;exact hk _ _ h4) h1))
 | cond cc x y ihx ihy=>
  intro R a s κ K r ho h hk;have h0:a.fst.ok T TU tcq x κ/\a.snd.ok T TU tcq y κ:=by
   cases a with
   | leaf=>exact⟨trivial,trivial⟩
   | two a b=>exact ho
   | cut L V F a b=>exact ho.elim
   | one a=>exact ho.elim
   | loop L V G a=>exact ho.elim
  have h1:=(Sim.bind (K5 cc) λv=>Dj v) s [] _ (TQ.run_wpt h);refine Qn (Q.wp_of_wpt (Q.wpt_mono h1 ?_));rintro b rs ⟨b',rfl,h2⟩;rcases If h2 with⟨rfl,h3⟩ | ⟨rfl,h3⟩
  ·exact⟨λ_=>ihx h0.1 h3 hk,λe=>(by cases e)⟩
  ·exact⟨λe=>(by cases e),λ_=>ihy h0.2 h3 hk⟩
 | block id c ih=>
  intro R a s κ K r ho h hk;have h0:a.fst.ok T TU tcq c (Nr id κ):=by
   cases a with
   | leaf=>exact trivial
   | two a b=>exact ho.elim
   | cut L V F a b=>exact ho.elim
   | one a=>exact ho
   | loop L V G a=>exact ho.elim
  refine Mf (ih h0 h λax s' h'=>?_);cases ax with
  | normal=>exact hk _ _ h'
  | exit i=>
   show if i=id then K .normal s'.st else K (.exit i) s'.st
   have h':(match Nat.beq i id with | true=>κ .normal s' | false=>κ (.exit i) s')=some r:=h'
   split at h'
   ·rename_i hb;rw [a28 (a22 hb)];exact hk _ _ h'
   ·rename_i hb;rw [a25 (λe=>by subst e;rw [Nat.beq_refl] at hb;cases hb)];exact hk _ _ h'
  | ret=>exact hk _ _ h'
 | loop c ih=>
  intro R a s κ K r ho h hk;cases a with
  | loop L V G a=>
   obtain⟨ho1,ho2⟩:=ho;have h:Rs (L.read s) (λx=>F8 G (V.to x))=some r:=h;rw [Ig] at h;obtain⟨v,h1,h2⟩:=Option.bind_eq_some_iff.1 h;refine Qo (λn st=>∃ x,st=(L.st (V.of x)).st/\Kp n G x=some r) (n0:=EH) (s0:=(L.st (V.of (V.to v))).st) (by rw [V.ok];exact Lay.read_le h1) ⟨V.to v,rfl,h2⟩ ?_;rintro n st ⟨x,rfl,hx⟩;cases n with
   | zero=>cases hx
   | succ n=>
    unfold Kp at hx;split at hx
    ·cases hx
    ·rename_i y hy;rw [ho2 x] at hy;refine ih ho1 hy λax s' h'=>?_;cases ax with
     | normal=>
      obtain⟨z,h3,h4⟩:=Option.map_eq_some_iff.1 h';injection h4 with h4;subst h4;exact⟨n,_,a4o n,by rw [V.ok];exact Lay.read_le h3,V.to z,rfl,hx⟩
     | exit i=>obtain⟨z,_,h4⟩:=Option.map_eq_some_iff.1 h';cases h4
     | ret=>obtain⟨z,_,h4⟩:=Option.map_eq_some_iff.1 h';cases h4
    ·rename_i r' hy;injection hx with hx;subst hx;rw [ho2 x] at hy;refine ih ho1 hy λax s' h'=>?_;cases ax with
     | normal=>obtain⟨z,_,h4⟩:=Option.map_eq_some_iff.1 h';cases h4
     | exit i=>
      obtain⟨z,h3,h4⟩:=Option.map_eq_some_iff.1 h';injection h4 with h4;subst h4;exact hk _ _ h3
     | ret=>
      obtain⟨z,h3,h4⟩:=Option.map_eq_some_iff.1 h';injection h4 with h4;subst h4;exact hk _ _ h3
  | leaf=>cases h
  | two a b=>exact ho.elim
  | cut L V F a b=>exact ho.elim
  | one a=>exact ho.elim
 | exit i=>intro R a s κ K r _ h hk;exact Qm (hk _ _ h)
 | ret=>intro R a s κ K r _ h hk;exact UL (hk _ _ h)
 | _=>intro R a s κ K r _ h hk;cases h
end
def Dy:PTs->ATs->ATs
 | .nil,r=>r
 | .cons t ts,r=> .cons (.bx t) (Dy ts r)
 | .rcons u e ts,r=> .cons (.rx u e) (Dy ts r)
def spl:(p:PTs)->(r:ATs)->(Dy p r).den->p.den × r.den
 | .nil,_,x=>((),x)
 | .cons _ ts,r,x=>((x.1,(spl ts r x.2).1),(spl ts r x.2).2)
 | .rcons _ _ ts,r,x=>((x.1,(spl ts r x.2).1),(spl ts r x.2).2)
theorem BP:∀ (p:PTs) (r:ATs) (x:(Dy p r).den),(Dy p r).oas x=p.ocs (spl p r x).1 ++ r.oas (spl p r x).2
 | .nil,_,_=>rfl
 | .cons t ts,r,x=>by
  show AT.oa (.bx t) x.1 :: (Dy ts r).oas x.2=OA.bx (t.ocs x.1) :: (ts.ocs (spl ts r x.2).1 ++ r.oas (spl ts r x.2).2);rw [BP ts r x.2];rfl
 | .rcons u e ts,r,x=>by
  show AT.oa (.rx u e) x.1 :: (Dy ts r).oas x.2=AT.oa (.rx u e) x.1 :: (ts.ocs (spl ts r x.2).1 ++ r.oas (spl ts r x.2).2);rw [BP ts r x.2]
theorem FX:∀ (p:PTs) (r:ATs),r.ok=true->(Dy p r).ok=true
 | .nil,_,h=>h
 | .cons _ ts,r,h=>by
  show(true && (Dy ts r).ok)=true;rw [FX ts r h];rfl
 | .rcons _ _ ts,r,h=>by
  show(true && (Dy ts r).ok)=true;rw [FX ts r h];rfl
def ATs.len:ATs->Nat
 | .nil=>0
 | .cons _ ts=>ts.len + 1
def PTs.len:PTs->Nat
 | .nil=>0
 | .cons _ ts=>ts.len + 1
 | .rcons _ _ ts=>ts.len + 1
theorem Ns:∀ (ts:ATs) (x:ts.den),(ts.oas x).length=ts.len
 | .nil,_=>rfl
 | .cons t ts,x=>by
  show(ts.oas x.2).length + 1=ts.len + 1;rw [Ns ts]
theorem BQ:∀ (ts:PTs) (x:ts.den),(ts.ocs x).length=ts.len
 | .nil,_=>rfl
 | .cons t ts,x=>by
  show(ts.ocs x.2).length + 1=ts.len + 1;rw [BQ ts]
 | .rcons _ _ ts,x=>by
  show(ts.ocs x.2).length + 1=ts.len + 1;rw [BQ ts]
def Kq:ATs->List T1->List T1
 | .cons (.bx _) ts,v :: vs=>v :: Kq ts vs
 | .cons (.rx _ _) ts,v :: vs=>v :: Kq ts vs
 | .cons _ ts,_ :: vs=>Kq ts vs
 | _,_=>[]
theorem sB:∀ (ts:ATs) (x:ts.den) (vs:List T1),cR (ts.oas x) (vs.map T1.av)=(Kq ts vs).map T1.av
 | .nil,_,[]=>rfl
 | .nil,_,_ :: _=>rfl
 | .cons (.bx _) _ts,_x,[]=>rfl
 | .cons (.rx _ _) _ts,_x,[]=>rfl
 | .cons (.c _) _ts,_x,[]=>rfl
 | .cons (.agg _) _ts,_x,[]=>rfl
 | .cons (.bx _t) ts,x,v :: vs=>congrArg (v.av :: ·) (sB ts x.2 vs)
 | .cons (.rx _ _) ts,x,v :: vs=>congrArg (v.av :: ·) (sB ts x.2 vs)
 | .cons (.c _t) ts,x,_v :: vs=>sB ts x.2 vs
 | .cons (.agg _t) ts,x,_v :: vs=>sB ts x.2 vs
def tUT (g:Bool) (i:Nat):List T1->List gQ
 | []=>[]
 | v :: vs=> .t i ⟨g,.o v⟩ :: tUT g (i + 1) vs
theorem Nt (g:Bool):∀ (vs:List T1) (i:Nat),(tUT g i vs).map gQ.upd=tU g i (vs.map T1.av)
 | [],_=>rfl
 | v :: vs,i=>congrArg (Upd.t i ⟨g,v.av⟩ :: ·) (Nt g vs (i + 1))
def Dz (n:Nat):TSt:=⟨n,λk=>⟨decide (k < n),.any⟩,λ_=>⟨0,none⟩,λ_=>⟨0,none⟩⟩
theorem Nu (n:Nat):(Dz n).st=pY n [] [] []:=rfl
def Nv (n:Nat) (args:ATs) (k:Vo):TSt:=(((Dz n).app k.us).app (tUT true 0 k.vs)).app (tUT false n (Kq args k.vs))
def a0b (T:TypeId->Option TI):List ResultVar->TQ (List TV)
 | []=> .ret []
 | .tmp t :: rs=>(tev (.tmp t)).bind λv=>(a0b T rs).bind λvs=> .ret (v :: vs)
 | .cell a t :: rs=>(ttq T t).bind λi=>(tev (.tmp a)).bind λp=>(QH i p).bind λv=>(a0b T rs).bind λvs=> .ret (v :: vs)
theorem BR (T:TypeId->Option TI):∀ (rs:List ResultVar),Sim (List.map TV.av) (a0b T rs) (UR T rs)
 | []=>Sim.ret rfl
 | .tmp t :: rs=>Sim.bind (K5 (.tmp t)) λ_v=>Sim.bind (BR T rs) λ_vs=>Sim.ret rfl
 | .cell a t :: rs=>Sim.bind (L9 T t) λi=>Sim.bind (K5 (.tmp a)) λp=>Sim.bind (Dn i p) λ_v=>Sim.bind (BR T rs) λ_vs=>Sim.ret rfl
def a0J (n:Nat):Nat->TQ (List TV)
 | 0=> .ret []
 | m + 1=> .rdT n λx=>(a0J (n + 1) m).bind λvs=> .ret (x.x :: vs)
theorem Ih:∀ (m n:Nat),Sim (List.map TV.av) (a0J n m) (Xp n m)
 | 0,_=>Sim.ret rfl
 | m + 1,n=>Sim.rdT λ_x=>Sim.bind (Ih m (n + 1)) λ_vs=>Sim.ret rfl
def WL (T:TypeId->Option TI) (n:Nat) (rs:List ResultVar) (S:TFn):TQ (S.posts.den × S.res.den):=
 (a0J n S.posts.len).bind λps=>(a0b T rs).bind λvs=>(BE (Dy S.posts S.res) (ps ++ vs)).bind λk=>
 .req (Dt (k.tops ++ k.ids) && k.fz.all λid=> !WJ (Sum.inr id) (k.tops ++ k.ids)) ((nV k.fz).bind λ_=> .ret (spl S.posts S.res k.x))
theorem Nw {T:TypeId->Option TI} {n:Nat} {rs:List ResultVar} {S:TFn} (hr:S.res.ok=true) {fin:S.posts.den × S.res.den->S.R} (hfin:∀ x,S.out (fin x)=x) {s:TSt} {r:S.R} (h:((WL T n rs S).run s [] λx _=>some (fin x))=some r) :
  (UT T n S.posts.len rs (Dy S.posts S.res).sh (S.posts.ocs (S.out r).1) (S.res.oas (S.out r).2)).wp s.st λ_=>True:=by
 have h1:=TQ.run_wpt h;unfold WL at h1;rw [TQ.wpt_bind] at h1;unfold UT;rw [Q.wp_bind];refine Q.wp_of_wpt (tr:=[]) (Q.wpt_mono (Ih S.posts.len n s [] _ h1) ?_);rintro ps rs1 ⟨tps,rfl,h2⟩;rw [TQ.wpt_bind] at h2;rw [Q.wp_bind];refine Q.wp_of_wpt (tr:=rs1) (Q.wpt_mono (BR T rs s rs1 _ h2) ?_);rintro vs rs2 ⟨tvs,rfl,h3⟩;rw [TQ.wpt_bind] at h3;rw [Q.wp_bind,<-a3g];refine Q.wp_of_wpt (tr:=rs2) (Q.wpt_mono (tS _ (FX _ _ hr) (tps ++ tvs) s rs2 _ h3) ?_);rintro k rs3 ⟨tk,rfl,h4⟩;obtain⟨h5,h6⟩:=h4;rw [a24] at h5;rw [TQ.wpt_bind] at h6;have h7:=eN tk.fz s rs3 _ h6;obtain⟨us,rs4,tus,_,h8⟩:=Q.wpt_ex h7;injection h8 with h8;subst h8;rw [hfin];refine⟨⟨BP _ _ _,yk h5.1,λid hid=>?_⟩,?_⟩
 ·have:=List.all_eq_true.1 h5.2 id hid;exact BG (by simpa using this)
 ·rw [Q.wp_bind];exact Q.wp_of_wpt (tr:=rs3) (Q.wpt_mono h7 λ_ _ _=>trivial)
def Rv (T:TypeId->Option TI) (n:Nat) (rs:List ResultVar) (S:TFn) (fin:S.posts.den × S.res.den->S.R) (ax:AX) (s:TSt):Option S.R:=match ax with
 | .exit _=>none
 | .normal=>chk (Nat.beq s.n n) ((WL T n rs S).run s [] λx _=>some (fin x))
 | .ret=>chk (Nat.beq s.n n) ((WL T n rs S).run s [] λx _=>some (fin x))
def Rw (T:TypeId->Option TI) (TU:TypeId->Option U) (Γ:List (Nat × TFn)) (n:Nat) (rs:List ResultVar) (S:TFn) (fin:S.posts.den × S.res.den->S.R) (an:An S.R) (c:Code) (a:S.args.den):Option S.R:=
 (Nd 1000 S.args a).run (Dz n) [] λk _=>chk (Nat.beq (Kq S.args k.vs).length S.posts.len && Nat.ble S.args.len n) (Dx T TU (qJ T TU Γ) an c (Nv n S.args k) (Rv T n rs S fin))
structure FnT (P:Program) (f:FuncId) (S:TFn):Prop where
 args:S.args.ok=true
 res:S.res.ok=true
 ok:Qv P f S.spec
theorem Ii {P:Program} {f:FuncId} {fn:Func} {c:Code} {S:TFn} (hf:P.funcs[f]?=some fn) (hb:fn.body=some c) (hname:(fn.name == "runtime.NumGoroutine")=false) (ha:S.args.ok=true) (hr:S.res.ok=true) (hG:∀ a,S.G a=none) (hsp:S.sp= .none:=by rfl):FnT P f S:=
 ⟨ha,hr,⟨by show a1v P f S.sp;rw [hsp];trivial,⟨fn,hf,by rw [hb];rfl,hname⟩,λ_ _ _ _ _ _ _ _ _ hp=>by
  obtain⟨a,r,_,h⟩:=hp;rw [hG] at h;cases h⟩⟩
def ry {α β:Type} (l:List (α × β)):List α:=List.map (λp=>p.1) l
theorem fnT {P:Program} {T:TypeId->Option TI} {TU:TypeId->Option U} {Γ:List (Nat × TFn)} {f:FuncId} {fn:Func} {c:Code} {S:TFn} (hT:∀ t i,T t=some i->TOk P t i) (hm:P.follows .mixedOrders=true) (hΓ:∀ p ∈ Γ,FnT P (p.1 % 1000000) p.2)
  (hf:P.funcs[f]?=some fn) (hb:fn.body=some c) (hname:(fn.name == "runtime.NumGoroutine")=false) (ha:S.args.ok=true) (hr:S.res.ok=true) (fin:S.posts.den × S.res.den->S.R) (hfin:∀ x,S.out (fin x)=x) (an:An S.R)
  (hok:an.ok T TU (qJ T TU Γ) c (Rv T fn.ntmps fn.results.toList S fin)) (hF:∀ a,S.G a=Rw T TU Γ fn.ntmps fn.results.toList S fin an c a) (hsp:S.sp= .none:=by rfl):FnT P f S:=by
 refine⟨ha,hr,a1x hT hf hb hname 1000 (λxs hx=>?_) hsp⟩;obtain⟨a,r,rfl,hFa⟩:=hx;have h1:=hF a;rw [hFa] at h1;have h1:=h1.symm;unfold Rw at h1;have h2:=TQ.run_wpt h1;have h3:=uT S.args ha 1000 a _ _ _ h2;rw [Nu] at h3;have hlen:S.args.len<=fn.ntmps:=by
  obtain⟨_,_,k,_,hk⟩:=Q.wpt_ex h3;have:=(je hk).1;rw [a24] at this;exact a3n this.2
 refine⟨by rw [Ns];exact hlen,(Dy S.posts S.res).sh,Q.wp_of_wpt (Q.wpt_mono h3 ?_)⟩;rintro k rs ⟨tk,rfl,hk⟩;obtain⟨hc,hk⟩:=je hk;rw [a24] at hc;have hst:(Nv fn.ntmps S.args tk).st=(((pY fn.ntmps [] [] []).app (zg tk).us).app (tU true 0 (zg tk).avs)).app (tU false fn.ntmps (cR (S.args.oas a) (zg tk).avs)):=by
  unfold Nv;rw [TSt.st_app,TSt.st_app,TSt.st_app,Nt,Nt];simp only [zg];rw [sB];rfl
 rw [<-hst];have hmm:(cR (S.args.oas a) (zg tk).avs).length=S.posts.len:=by
  simp only [zg];rw [sB,a3d];exact a22 hc.1
 rw [hmm];have hcq:=De (P:=P) (T:=T) hT (Γ:=Nl Γ) (λp hp=>by
  obtain⟨q,hq,rfl⟩:=List.mem_map.1 hp;exact(hΓ q hq).ok)
 have fin':∀ s',chk (Nat.beq s'.n fn.ntmps) ((WL T fn.ntmps fn.results.toList S).run s' [] λx _=>some (fin x))=some r->
   s'.st.n=fn.ntmps/\(S.spec.post (S.args.oas a)).length=S.posts.len/\(UT T fn.ntmps S.posts.len fn.results.toList (Dy S.posts S.res).sh (S.spec.post (S.args.oas a)) (S.spec.res (S.args.oas a))).wp s'.st λ_=>True:=λs' h'=>by
  obtain⟨h5,h6⟩:=je h';rw [TFn.post_of ha hFa,TFn.res_of ha hFa];exact⟨a22 h5,BQ _ _,Nw hr hfin h6⟩
 refine FW hT hcq (λo c _=>vL T TU Γ o c) hm c hok hk λax s' h'=>?_;cases ax with
 | normal=>exact fin' s' h'
 | exit i=>cases h'
 | ret=>exact fin' s' h'
abbrev ko:List Type->Type
 | []=>Unit
 | [A]=>A
 | A :: B :: r=>A × ko (B :: r)
def sM {A:Type}:(r:List Type)->A->ko r->ko (A :: r)
 | [],a,_=>a
 | _ :: _,a,x=>(a,x)
def fhd {A:Type}:(r:List Type)->ko (A :: r)->A
 | [],a=>a
 | _ :: _,x=>x.1
def ftl {A:Type}:(r:List Type)->ko (A :: r)->ko r
 | [],_=>()
 | _ :: _,x=>x.2
theorem lv {A:Type}:∀ (r:List Type) (a:A) (x:ko r),fhd r (sM r a x)=a
 | [],_,_=>rfl
 | _ :: _,_,_=>rfl
theorem lw {A:Type}:∀ (r:List Type) (a:A) (x:ko r),ftl r (sM r a x)=x
 | [],_,_=>rfl
 | _ :: _,_,_=>rfl
abbrev wI:List Sh->List Type->List Type
 | [],r=>r
 | .d u :: s,r=>u.den :: wI s r
 | .clo _ u :: s,r=>u.den :: wI s r
 | .e u :: s,r=>u.den :: wI s r
 | .nil :: s,r=>wI s r
 | .fn _ :: s,r=>wI s r
 | .npt :: s,r=>wI s r
 | .row _ :: s,r=>wI s r
 | .ptr _ _ :: s,r=>wI s r
def FZ:(ss:List Sh)->(r:List Type)->tT ss->ko r->ko (wI ss r)
 | [],_,_,y=>y
 | .d _ :: s,r,x,y=>sM (wI s r) x.1 (FZ s r x.2 y)
 | .clo _ _ :: s,r,x,y=>sM (wI s r) x.1 (FZ s r x.2 y)
 | .e _ :: s,r,x,y=>sM (wI s r) x.1 (FZ s r x.2 y)
 | .nil :: s,r,x,y=>FZ s r x y
 | .fn _ :: s,r,x,y=>FZ s r x y
 | .npt :: s,r,x,y=>FZ s r x y
 | .row _ :: s,r,x,y=>FZ s r x y
 | .ptr _ _ :: s,r,x,y=>FZ s r x y
def Ik:(ss:List Sh)->(r:List Type)->ko (wI ss r)->tT ss
 | [],_,_=>()
 | .d _ :: s,r,y=>(fhd (wI s r) y,Ik s r (ftl (wI s r) y))
 | .clo _ _ :: s,r,y=>(fhd (wI s r) y,Ik s r (ftl (wI s r) y))
 | .e _ :: s,r,y=>(fhd (wI s r) y,Ik s r (ftl (wI s r) y))
 | .nil :: s,r,y=>Ik s r y
 | .fn _ :: s,r,y=>Ik s r y
 | .npt :: s,r,y=>Ik s r y
 | .row _ :: s,r,y=>Ik s r y
 | .ptr _ _ :: s,r,y=>Ik s r y
def EI:(ss:List Sh)->(r:List Type)->ko (wI ss r)->ko r
 | [],_,y=>y
 | .d _ :: s,r,y=>EI s r (ftl (wI s r) y)
 | .clo _ _ :: s,r,y=>EI s r (ftl (wI s r) y)
 | .e _ :: s,r,y=>EI s r (ftl (wI s r) y)
 | .nil :: s,r,y=>EI s r y
 | .fn _ :: s,r,y=>EI s r y
 | .npt :: s,r,y=>EI s r y
 | .row _ :: s,r,y=>EI s r y
 | .ptr _ _ :: s,r,y=>EI s r y
theorem zk:∀ (ss:List Sh) (r:List Type) (x:tT ss) (y:ko r),Ik ss r (FZ ss r x y)=x/\EI ss r (FZ ss r x y)=y
 | [],_,_,_=>⟨rfl,rfl⟩
 | .d _ :: s,r,x,y=>by
  obtain⟨h1,h2⟩:=zk s r x.2 y;unfold FZ Ik EI;rw [lv,lw,h1,h2];exact⟨rfl,rfl⟩
 | .clo _ _ :: s,r,x,y=>by
  obtain⟨h1,h2⟩:=zk s r x.2 y;unfold FZ Ik EI;rw [lv,lw,h1,h2];exact⟨rfl,rfl⟩
 | .e _ :: s,r,x,y=>by
  obtain⟨h1,h2⟩:=zk s r x.2 y;unfold FZ Ik EI;rw [lv,lw,h1,h2];exact⟨rfl,rfl⟩
 | .nil :: s,r,x,y=>zk s r x y
 | .fn _ :: s,r,x,y=>zk s r x y
 | .npt :: s,r,x,y=>zk s r x y
 | .row _ :: s,r,x,y=>zk s r x y
 | .ptr _ _ :: s,r,x,y=>zk s r x y
abbrev tTs:List (Nat × SSh)->List Type->List Type
 | [],r=>r
 | p :: l,r=>wI p.2.list (tTs l r)
def tTo:(l:List (Nat × SSh))->(r:List Type)->Rn l->ko r->ko (tTs l r)
 | [],_,_,y=>y
 | p :: l,r,x,y=>FZ p.2.list (tTs l r) x.1 (tTo l r x.2 y)
def tOf:(l:List (Nat × SSh))->(r:List Type)->ko (tTs l r)->Rn l
 | [],_,_=>()
 | p :: l,r,y=>(Ik p.2.list (tTs l r) y,tOf l r (EI p.2.list (tTs l r) y))
def tRe:(l:List (Nat × SSh))->(r:List Type)->ko (tTs l r)->ko r
 | [],_,y=>y
 | p :: l,r,y=>tRe l r (EI p.2.list (tTs l r) y)
theorem a2e:∀ (l:List (Nat × SSh)) (r:List Type) (x:Rn l) (y:ko r),tOf l r (tTo l r x y)=x/\tRe l r (tTo l r x y)=y
 | [],_,_,_=>⟨rfl,rfl⟩
 | p :: l,r,x,y=>by
  obtain⟨h1,h2⟩:=a2e l r x.2 y;obtain⟨h3,h4⟩:=zk p.2.list (tTs l r) x.1 (tTo l r x.2 y);unfold tTo tOf tRe;rw [h3,h4,h1,h2];exact⟨rfl,rfl⟩
abbrev bTs:List (Nat × List Sh)->List Type->List Type
 | [],r=>r
 | p :: l,r=>wI p.2 (bTs l r)
def bTo:(l:List (Nat × List Sh))->(r:List Type)->TT l->ko r->ko (bTs l r)
 | [],_,_,y=>y
 | p :: l,r,x,y=>FZ p.2 (bTs l r) x.1 (bTo l r x.2 y)
def bOf:(l:List (Nat × List Sh))->(r:List Type)->ko (bTs l r)->TT l
 | [],_,_=>()
 | p :: l,r,y=>(Ik p.2 (bTs l r) y,bOf l r (EI p.2 (bTs l r) y))
def bRe:(l:List (Nat × List Sh))->(r:List Type)->ko (bTs l r)->ko r
 | [],_,y=>y
 | p :: l,r,y=>bRe l r (EI p.2 (bTs l r) y)
theorem a2f:∀ (l:List (Nat × List Sh)) (r:List Type) (x:TT l) (y:ko r),bOf l r (bTo l r x y)=x/\bRe l r (bTo l r x y)=y
 | [],_,_,_=>⟨rfl,rfl⟩
 | p :: l,r,x,y=>by
  obtain⟨h1,h2⟩:=a2f l r x.2 y;obtain⟨h3,h4⟩:=zk p.2 (bTs l r) x.1 (bTo l r x.2 y);unfold bTo bOf bRe;rw [h3,h4,h1,h2];exact⟨rfl,rfl⟩
abbrev rTs:List (Nat × U × TypeId × Bool)->List Type
 | []=>[]
 | p :: l=>List p.2.1.den :: rTs l
def rTo:(l:List (Nat × U × TypeId × Bool))->TW l->ko (rTs l)
 | [],_=>()
 | _ :: l,x=>sM (rTs l) x.1 (rTo l x.2)
def rOf:(l:List (Nat × U × TypeId × Bool))->ko (rTs l)->TW l
 | [],_=>()
 | _ :: l,y=>(fhd (rTs l) y,rOf l (ftl (rTs l) y))
theorem a2g:∀ (l:List (Nat × U × TypeId × Bool)) (x:TW l),rOf l (rTo l x)=x
 | [],_=>rfl
 | _ :: l,x=>by
  unfold rTo rOf;rw [lv,lw,a2g l x.2];rfl
abbrev Lay.fl (L:Lay):Type:=ko (tTs L.t (bTs L.b (rTs L.r)))
def vw (L:Lay):Vw L L.fl:=
 ⟨λx=>tTo L.t (bTs L.b (rTs L.r)) x.1 (bTo L.b (rTs L.r) x.2.1 (rTo L.r x.2.2)),
  λy=>(tOf L.t (bTs L.b (rTs L.r)) y,bOf L.b (rTs L.r) (tRe L.t (bTs L.b (rTs L.r)) y),rOf L.r (bRe L.b (rTs L.r) (tRe L.t (bTs L.b (rTs L.r)) y))),
  λx=>by
  obtain⟨h1,h2⟩:=a2e L.t (bTs L.b (rTs L.r)) x.1 (bTo L.b (rTs L.r) x.2.1 (rTo L.r x.2.2));obtain⟨h3,h4⟩:=a2f L.b (rTs L.r) x.2.1 (rTo L.r x.2.2);simp only [h1,h2,h3,h4,a2g];rfl⟩
abbrev zd (k:Nat) (u:U):Nat × SSh:=(k,.one (.d u))
abbrev zi (k:Nat):Nat × SSh:=(k,.one (.d (.int .i64)))
abbrev zr (k j:Nat):Nat × SSh:=(k,.one (.row (1000000 + j)))
abbrev zp (k j o:Nat):Nat × SSh:=(k,.one (.ptr (1000000 + j) o))
mutual
def oT:OT->List Type->List Type
 | .d u,r=>u.den :: r
 | .fn _,r=>r
 | .npt,r=>r
 | .it _ u _,r=>u.den :: r
 | .clo _ u,r=>u.den :: r
 | .e u,r=>u.den :: r
 | .row u _,r=>List u.den :: r
 | .box ts,r=>oTs ts r
def oTs:OTs->List Type->List Type
 | .nil,r=>r
 | .cons t ts,r=>oT t (oTs ts r)
end
mutual
def oTo:(t:OT)->(r:List Type)->t.den->ko r->ko (oT t r)
 | .d _,r,x,y=>sM r x y
 | .fn _,_,_,y=>y
 | .npt,_,_,y=>y
 | .it _ _ _,r,x,y=>sM r x y
 | .clo _ _,r,x,y=>sM r x y
 | .e _,r,x,y=>sM r x y
 | .row _ _,r,x,y=>sM r x y
 | .box ts,r,x,y=>Il ts r x y
def Il:(ts:OTs)->(r:List Type)->ts.den->ko r->ko (oTs ts r)
 | .nil,_,_,y=>y
 | .cons t ts,r,x,y=>oTo t (oTs ts r) x.1 (Il ts r x.2 y)
end
mutual
def oOf:(t:OT)->(r:List Type)->ko (oT t r)->t.den
 | .d _,r,y=>fhd r y
 | .fn _,_,_=>()
 | .npt,_,_=>()
 | .it _ _ _,r,y=>fhd r y
 | .clo _ _,r,y=>fhd r y
 | .e _,r,y=>fhd r y
 | .row _ _,r,y=>fhd r y
 | .box ts,r,y=>TZ ts r y
def TZ:(ts:OTs)->(r:List Type)->ko (oTs ts r)->ts.den
 | .nil,_,_=>()
 | .cons t ts,r,y=>(oOf t (oTs ts r) y,TZ ts r (oRe t (oTs ts r) y))
def oRe:(t:OT)->(r:List Type)->ko (oT t r)->ko r
 | .d _,r,y=>ftl r y
 | .fn _,_,y=>y
 | .npt,_,y=>y
 | .it _ _ _,r,y=>ftl r y
 | .clo _ _,r,y=>ftl r y
 | .e _,r,y=>ftl r y
 | .row _ _,r,y=>ftl r y
 | .box ts,r,y=>PL ts r y
def PL:(ts:OTs)->(r:List Type)->ko (oTs ts r)->ko r
 | .nil,_,y=>y
 | .cons t ts,r,y=>PL ts r (oRe t (oTs ts r) y)
end
mutual
theorem YT:∀ (t:OT) (r:List Type) (x:t.den) (y:ko r),oOf t r (oTo t r x y)=x/\oRe t r (oTo t r x y)=y
 | .d _,r,x,y=>⟨lv r x y,lw r x y⟩
 | .fn _,_,_,_=>⟨rfl,rfl⟩
 | .npt,_,_,_=>⟨rfl,rfl⟩
 | .it _ _ _,r,x,y=>⟨lv r x y,lw r x y⟩
 | .clo _ _,r,x,y=>⟨lv r x y,lw r x y⟩
 | .e _,r,x,y=>⟨lv r x y,lw r x y⟩
 | .row _ _,r,x,y=>⟨lv r x y,lw r x y⟩
 | .box ts,r,x,y=>DC ts r x y
theorem DC:∀ (ts:OTs) (r:List Type) (x:ts.den) (y:ko r),TZ ts r (Il ts r x y)=x/\PL ts r (Il ts r x y)=y
 | .nil,_,_,_=>⟨rfl,rfl⟩
 | .cons t ts,r,x,y=>by
  obtain⟨h1,h2⟩:=DC ts r x.2 y;obtain⟨h3,h4⟩:=YT t (oTs ts r) x.1 (Il ts r x.2 y);show(oOf t (oTs ts r) (oTo t (oTs ts r) x.1 (Il ts r x.2 y)),TZ ts r (oRe t (oTs ts r) (oTo t (oTs ts r) x.1 (Il ts r x.2 y))))=x/\PL ts r (oRe t (oTs ts r) (oTo t (oTs ts r) x.1 (Il ts r x.2 y)))=y;rw [h3,h4,h1,h2];exact⟨rfl,rfl⟩
end
def aT:AT->List Type->List Type
 | .c t,r=>oT t r
 | .agg ts,r=>oTs ts r
 | .bx ts,r=>oTs ts r
 | .rx u _,r=>List u.den :: r
def aTo:(t:AT)->(r:List Type)->t.den->ko r->ko (aT t r)
 | .c t,r,x,y=>oTo t r x y
 | .agg ts,r,x,y=>Il ts r x y
 | .bx ts,r,x,y=>Il ts r x y
 | .rx _ _,r,x,y=>sM r x y
def aOf:(t:AT)->(r:List Type)->ko (aT t r)->t.den
 | .c t,r,y=>oOf t r y
 | .agg ts,r,y=>TZ ts r y
 | .bx ts,r,y=>TZ ts r y
 | .rx _ _,r,y=>fhd r y
def aRe:(t:AT)->(r:List Type)->ko (aT t r)->ko r
 | .c t,r,y=>oRe t r y
 | .agg ts,r,y=>PL ts r y
 | .bx ts,r,y=>PL ts r y
 | .rx _ _,r,y=>ftl r y
theorem a1b (t:AT) (r:List Type) (x:t.den) (y:ko r):aOf t r (aTo t r x y)=x/\aRe t r (aTo t r x y)=y:=by
 cases t with
 | c t=>exact YT t r x y
 | agg ts=>exact DC ts r x y
 | bx ts=>exact DC ts r x y
 | rx u e=>exact⟨lv r x y,lw r x y⟩
def asT:ATs->List Type
 | .nil=>[]
 | .cons t ts=>aT t (asT ts)
def Ga:(ts:ATs)->ts.den->ko (asT ts)
 | .nil,_=>()
 | .cons t ts,x=>aTo t (asT ts) x.1 (Ga ts x.2)
def YU:(ts:ATs)->ko (asT ts)->ts.den
 | .nil,_=>()
 | .cons t ts,y=>(aOf t (asT ts) y,YU ts (aRe t (asT ts) y))
theorem Ua:∀ (ts:ATs) (x:ts.den),YU ts (Ga ts x)=x
 | .nil,_=>rfl
 | .cons t ts,x=>by
  obtain⟨h3,h4⟩:=a1b t (asT ts) x.1 (Ga ts x.2);show(aOf t (asT ts) (aTo t (asT ts) x.1 (Ga ts x.2)),YU ts (aRe t (asT ts) (aTo t (asT ts) x.1 (Ga ts x.2))))=x;rw [h3,h4,Ua ts x.2];rfl
def pT:PTs->List Type->List Type
 | .nil,r=>r
 | .cons t ts,r=>oTs t (pT ts r)
 | .rcons u _ ts,r=>List u.den :: pT ts r
def pTo:(ts:PTs)->(r:List Type)->ts.den->ko r->ko (pT ts r)
 | .nil,_,_,y=>y
 | .cons t ts,r,x,y=>Il t (pT ts r) x.1 (pTo ts r x.2 y)
 | .rcons _ _ ts,r,x,y=>sM (pT ts r) x.1 (pTo ts r x.2 y)
def pOf:(ts:PTs)->(r:List Type)->ko (pT ts r)->ts.den
 | .nil,_,_=>()
 | .cons t ts,r,y=>(TZ t (pT ts r) y,pOf ts r (PL t (pT ts r) y))
 | .rcons _ _ ts,r,y=>(fhd (pT ts r) y,pOf ts r (ftl (pT ts r) y))
def pRe:(ts:PTs)->(r:List Type)->ko (pT ts r)->ko r
 | .nil,_,y=>y
 | .cons t ts,r,y=>pRe ts r (PL t (pT ts r) y)
 | .rcons _ _ ts,r,y=>pRe ts r (ftl (pT ts r) y)
theorem Vz:∀ (ts:PTs) (r:List Type) (x:ts.den) (y:ko r),pOf ts r (pTo ts r x y)=x/\pRe ts r (pTo ts r x y)=y
 | .nil,_,_,_=>⟨rfl,rfl⟩
 | .cons t ts,r,x,y=>by
  obtain⟨h1,h2⟩:=Vz ts r x.2 y;obtain⟨h3,h4⟩:=DC t (pT ts r) x.1 (pTo ts r x.2 y);show(TZ t (pT ts r) (Il t (pT ts r) x.1 (pTo ts r x.2 y)),pOf ts r (PL t (pT ts r) (Il t (pT ts r) x.1 (pTo ts r x.2 y))))=x/\pRe ts r (PL t (pT ts r) (Il t (pT ts r) x.1 (pTo ts r x.2 y)))=y;rw [h3,h4,h1,h2];exact⟨rfl,rfl⟩
 | .rcons _ _ ts,r,x,y=>by
  obtain⟨h1,h2⟩:=Vz ts r x.2 y;show(fhd (pT ts r) (sM (pT ts r) x.1 (pTo ts r x.2 y)),pOf ts r (ftl (pT ts r) (sM (pT ts r) x.1 (pTo ts r x.2 y))))=x/\pRe ts r (ftl (pT ts r) (sM (pT ts r) x.1 (pTo ts r x.2 y)))=y;rw [lv,lw,h1,h2];exact⟨rfl,rfl⟩
theorem YV (posts:PTs) (res:ATs) (x:posts.den × res.den):(pOf posts (asT res) (pTo posts (asT res) x.1 (Ga res x.2)),YU res (pRe posts (asT res) (pTo posts (asT res) x.1 (Ga res x.2))))=x:=by
 obtain⟨h1,h2⟩:=Vz posts (asT res) x.1 (Ga res x.2);rw [h1,h2,Ua]
def mkT (args:ATs) (posts:PTs) (res:ATs) (G:args.den->Option (ko (pT posts (asT res)))):TFn:=
 ⟨args,posts,res,ko (pT posts (asT res)),G,λy=>(pOf posts (asT res) y,YU res (pRe posts (asT res) y)),.none⟩
theorem fnV {P:Program} {T:TypeId->Option TI} (TU:TypeId->Option U) (Γ:List (Nat × TFn)) {f:FuncId} {fn:Func} {c:Code} {args:ATs} {posts:PTs} {res:ATs} {G:args.den->Option (ko (pT posts (asT res)))} (hT:∀ t i,T t=some i->TOk P t i) (hΓ:∀ p ∈ Γ,FnT P (p.1 % 1000000) p.2)
  (hf:P.funcs[f]?=some fn) (an:An (ko (pT posts (asT res)))) (hm:P.follows .mixedOrders=true:=by rfl) (hb:fn.body=some c:=by rfl) (hname:(fn.name == "runtime.NumGoroutine")=false:=by rfl) (ha:args.ok=true:=by rfl) (hr:res.ok=true:=by rfl)
  (hok:an.ok T TU (qJ T TU Γ) c (Rv T fn.ntmps fn.results.toList (mkT args posts res G) λx=>pTo posts (asT res) x.1 (Ga res x.2)):=by repeat' first | refine⟨?_,?_⟩ | (intro v;kernel_rfl) | exact True.intro)
  (hF:∀ a,G a=Rw T TU Γ fn.ntmps fn.results.toList (mkT args posts res G) (λx=>pTo posts (asT res) x.1 (Ga res x.2)) an c a:=by intro a;kernel_rfl):FnT P f (mkT args posts res G):=
 fnT hT hm hΓ hf hb hname ha hr (λx=>pTo posts (asT res) x.1 (Ga res x.2)) (λx=>YV posts res x) an hok hF
abbrev Cur:List Type->Type->Type
 | [],R=>R
 | [A],R=>A->R
 | A :: B :: r,R=>A->Cur (B :: r) R
abbrev uc {R:Type}:(l:List Type)->Cur l R->ko l->R
 | [],f,_=>f
 | [_],f,x=>f x
 | _ :: B :: r,f,x=>uc (B :: r) (f x.1) x.2
abbrev Lay.ts (L:Lay):List Type:=tTs L.t (bTs L.b (rTs L.r))
abbrev An.lq {R:Type} (L:Lay) (F:Cur L.ts (Option (L.fl ⊕ R))) (a:An (L.fl ⊕ R)):An R:= .loop L (vw L) (uc L.ts F) a
abbrev An.cq {R:Type} (L:Lay) (F:Cur L.ts (Option R)) (a b:An R):An R:= .cut L (vw L) (uc L.ts F) a b
abbrev An.tk {R:Type}:Nat->An R->An R
 | 0,a=>a
 | n + 1,a=> .two .leaf (An.tk n a)
abbrev ATs.of:List AT->ATs
 | []=> .nil
 | a :: l=> .cons a (ATs.of l)
abbrev ad (u:U):AT:= .c (.d u)
abbrev ar (u:U) (e:TypeId):AT:= .c (.row u e)
abbrev ag (u:U):AT:= .agg (.cons (.d u) .nil)
abbrev i_6:U:= .int .i64
abbrev u_6:U:= .int .u64
def mkF (as:List AT) (posts:PTs) (rs:List AT) (F:Cur (asT (ATs.of as)) (Option (ko (pT posts (asT (ATs.of rs)))))):TFn:=mkT (ATs.of as) posts (ATs.of rs) λa=>uc (asT (ATs.of as)) F (Ga (ATs.of as) a)
structure Pf (P:Program) where
 n:Nat
 t:TFn
 h:FnT P (n % 1000000) t
def pf {P:Program} {n:Nat} {t:TFn} (h:FnT P n t) (e:n % 1000000=n:=by rfl):Pf P:=⟨n,t,by rw [e];exact h⟩
theorem YW {P:Program} (l:List (Pf P)):∀ p ∈ l.map (λx=>(x.n,x.t)),FnT P (p.1 % 1000000) p.2:=λp hp=>by
 obtain⟨x,_,rfl⟩:=List.mem_map.1 hp;exact x.h
theorem fnW {P:Program} {T:TypeId->Option TI} (TU:TypeId->Option U) (hT:∀ t i,T t=some i->TOk P t i) (l:List (Pf P)) {f:FuncId} {fn:Func} {c:Code} {as rs:List AT} {posts:PTs} {F:Cur (asT (ATs.of as)) (Option (ko (pT posts (asT (ATs.of rs)))))}
  (hf:P.funcs[f]?=some fn) (an:An (ko (pT posts (asT (ATs.of rs))))) (hm:P.follows .mixedOrders=true:=by rfl) (hb:fn.body=some c:=by rfl) (hname:(fn.name == "runtime.NumGoroutine")=false:=by rfl) (ha:(ATs.of as).ok=true:=by rfl) (hr:(ATs.of rs).ok=true:=by rfl)
  (hok:an.ok T TU (qJ T TU (l.map λx=>(x.n,x.t))) c (Rv T fn.ntmps fn.results.toList (mkF as posts rs F) λx=>pTo posts (asT (ATs.of rs)) x.1 (Ga (ATs.of rs) x.2)):=by repeat' first | refine⟨?_,?_⟩ | (intro v;kernel_rfl) | exact True.intro)
  (hF:∀ a,uc (asT (ATs.of as)) F (Ga (ATs.of as) a)=Rw T TU (l.map λx=>(x.n,x.t)) fn.ntmps fn.results.toList (mkF as posts rs F) (λx=>pTo posts (asT (ATs.of rs)) x.1 (Ga (ATs.of rs) x.2)) an c a:=by intro a;kernel_rfl):FnT P f (mkF as posts rs F):=
 fnV TU (l.map λx=>(x.n,x.t)) hT (YW l) hf an hm hb hname ha hr hok hF
theorem FY {P:Program} {w:World} {t e:TypeId} (hu:P.underlying t=some (.slice e)) (m:Nat) (A:Option Addr) (n c:Nat):(Op.equalIn (m + 1) t (.slice A n c) (.slice none 0 0)).run P w= .ok A.isNone w:=by
 cases A <;> (simp only [Op.equalIn,Sem.run_bind,run_underlying hu,Result.andThen_ok];rfl)
theorem Kt {P:Program} {w:World} {t e:TypeId} (hu:P.underlying t=some (.slice e)) (A:Option Addr) (n c:Nat):(binOp .eql t (.slice A n c) (.slice none 0 0)).run P w= .ok (.bool A.isNone) w:=by
 have hr:(Op.equal t (.slice A n c) (.slice none 0 0)).run P w= .ok A.isNone w:=FY hu 9999 A n c;simp only [binOp,Sem.run_bind,hr,Result.andThen_ok];rfl
theorem NE {P:Program} {id:Nat} {o1 o2:Oper} {s:St} {K:AX->St->Prop} {t t' e:TypeId} {es:List (List DV)} (hu:P.underlying t=some (.slice e))
  (h1:o1.op= .move (.tmp 0)) (h1d:o1.dst=some 3) (h1g:o1.guard=none) (h2:o2.op= .binOp .eql t (.tmp 3) (.const (.slice none 0 0)) t') (h2d:o2.dst=some 4) (h2g:o2.guard=none) (hn:4 < s.n)
  (h0:s.t 0=⟨true,.c (.d (.sl es))⟩) (hk:∀ b,(b=true->es=[])->K .normal (s.app [.t 3 ⟨true,.c (.d (.sl es))⟩,.t 4 ⟨true,.c (.d (.v (.bool b)))⟩])):Tri P (.region id [o1,o2].toArray false) K s:=by
 intro W0 M a w hR;refine wp_region_lit ?_;have hT:∀ t i,(λ_=>none:TypeId->Option TI) t=some i->TOk P t i:=λ_ _ h=>by cases h
 have hcq:∀ (o:Oper) (c:Call),o.op= .call c->LA P o ((λ_ _=> .fail:Oper->Call->Q (List Upd)) o c):=λ_ _ _ _ _ _ _ _ _ _ _ _ hq=>hq.elim;refine wpList_step ?_;intro K1 hK1;have hw1:Region.wanted o1 (yielded [o1,o2].toArray a.tmps)=true:=by simp [Region.wanted,h1g]
 rw [a28 hw1];have step1:=Mc (P:=P) hT hcq (l:=[o1,o2]) rfl (o:=o1) (K:=λus=>us=[.t 3 ⟨true,.c (.d (.sl es))⟩]) (Q':=QK W0 M K) (λd e=>by rw [h1d] at e;injection e with e;subst e;exact Nat.lt_of_succ_lt hn) hR (by
  unfold wpO opD;rw [h1g];simp only;unfold opQ;rw [h1];simp only [ev,Q.bind,Q.wp,h0,one,h1d];exact⟨trivial,rfl⟩)
 rw [a28 hw1] at step1;refine Oper.wp_mono (λa' w'=>?_) step1;rintro⟨us,rfl,G,hr⟩;refine hK1 _ _ ?_;refine wpList_step ?_;intro K2 hK2;have hw2:Region.wanted o2 (yielded [o1,o2].toArray a'.tmps)=true:=by simp [Region.wanted,h2g]
 rw [a28 hw2];have h3:=(hr.tm 3).1 (by simp [St.app,St.app1,St.setT,upd]);simp only [St.app,St.app1,St.setT,upd,a3H,AVr,ACr,DVr] at h3;obtain⟨A,c,z,xs,hv,hlc,_,_,_,hne,_⟩:=h3;have hrun:(execOp a'.eval o2).run P w'= .ok (.value (.bool A.isNone)) w':=by
  have hev:a'.eval (.tmp 3)= .slice A es.length c:=hv;have hec:a'.eval (.const (.slice none 0 0))= .slice none 0 0:=rfl;unfold execOp;rw [h2];simp only [hev,hec,Sem.run_bind,gZ .eql t (.tmp 3) (.const (.slice none 0 0)) (.slice A es.length c) (.slice none 0 0) rfl,Result.andThen_ok,Kt hu];rfl
 refine jc hrun ?_;refine hK2 _ _ (wpList_nil ?_);refine⟨_,⟨G,?_⟩,hk A.isNone (λe=>?_)⟩
 ·rw [h2d];exact hr.put (d:=4) (show 4 < s.n from hn) ⟨λ_=>by simp only [AVr,ACr,DVr];exact⟨trivial,rfl⟩,λe=>by cases e⟩
 ·cases A with
  | none=>
   cases es with
   | nil=>rfl
   | cons x es=>
    obtain⟨ad,h,_⟩:=hne (by simp);cases h
  | some ad=>cases e
def wt {u:U} (by_:Nat) (l:List u.den):Option (List u.den):=chk (decide ((0 + l.length) * by_<=LIM/\0 + l.length<=LEN)) (some l)
def dM (by_:Nat) (u:U) (e:TypeId):TFn:=⟨.cons (.c (.d (.sl u))) .nil,.nil,.cons (.c (.row u e)) .nil,List u.den,λa=>wt by_ a.1,λr=>((),(r,())),.none⟩
def stC (n:Nat) (u:U) (l:List u.den) (b:Bool):TSt:=(((Dz n).app [.t 0 ⟨true,.o (.c (.ch (.sl u) l))⟩]).app [.t 2 ⟨true,.o (.c .nil)⟩]).app [.t 3 ⟨true,.o (.c (.ch (.sl u) l))⟩,.t 4 ⟨true,.o (.c (.ch .bool b))⟩]
def Vy {α:Type} (x:Unit × (α × Unit)):α:=x.2.1
theorem yx {P:Program} {T:TypeId->Option TI} {TU:TypeId->Option U} {f:FuncId} {fn:Func} {cd rest:Code} {by_:Nat} {u:U} {e t t':TypeId} {i0 i1:Nat} {o0 o1 o2:Oper} (hT:∀ t i,T t=some i->TOk P t i) (hm:P.follows .mixedOrders=true) (hu:P.underlying t=some (.slice e))
  (hf:P.funcs[f]?=some fn) (hb:fn.body=some (.seq (.region i0 [o0].toArray false) (.seq (.seq (.region i1 [o1,o2].toArray false) cd) rest))) (hname:(fn.name == "runtime.NumGoroutine")=false) (hn:4 < fn.ntmps)
  (g0:o0.op= .assign (.const (.slice none 0 0))) (g0d:o0.dst=some 2) (g0g:o0.guard=none)
  (h1:o1.op= .move (.tmp 0)) (h1d:o1.dst=some 3) (h1g:o1.guard=none) (h2:o2.op= .binOp .eql t (.tmp 3) (.const (.slice none 0 0)) t') (h2d:o2.dst=some 4) (h2g:o2.guard=none)
  (hx1:Dx (R:=List u.den) T TU (qJ T TU []) .leaf (.seq cd rest) (stC fn.ntmps u [] true) (Rv T fn.ntmps fn.results.toList (dM by_ u e) Vy)=some ([]:List u.den))
  (hx2:∀ l:List u.den,Dx (R:=List u.den) T TU (qJ T TU []) .leaf (.seq cd rest) (stC fn.ntmps u l false) (Rv T fn.ntmps fn.results.toList (dM by_ u e) Vy)=wt by_ l):FnT P f (dM by_ u e):=by
 refine⟨rfl,rfl,a1x hT hf hb hname 1000 (λxs hx=>?_) rfl⟩;obtain⟨a,r,rfl,hFa⟩:=hx;obtain⟨l,a2⟩:=a;cases a2;have hl:r=l:=by
  have:=(je hFa).2;injection this with this;exact this.symm
 subst hl;refine⟨by show 1<=fn.ntmps;omega,(Dy .nil (dM by_ u e).res).sh,?_⟩;show Tri P _ (a1w T fn.ntmps 0 fn.results.toList (Dy .nil (dM by_ u e).res).sh ((dM by_ u e).spec.post ((dM by_ u e).args.oas (r,()))) ((dM by_ u e).spec.res ((dM by_ u e).args.oas (r,()))))
  ((((pY fn.ntmps [] [] []).app []).app (tU true 0 [.c (.d (.sl (List.map u.enc r)))])).app (tU false fn.ntmps []))
 have hst:(((pY fn.ntmps [] [] []).app []).app (tU true 0 [.c (.d (.sl (List.map u.enc r)))])).app (tU false fn.ntmps [])=((Dz fn.ntmps).app [.t 0 ⟨true,.o (.c (.ch (.sl u) r))⟩]).st:=by
  rw [TSt.st_app];rfl
 rw [hst];have hcq0:∀ (o:Oper) (c:Call),o.op= .call c->LA P o ((λ_ _=> .fail:Oper->Call->Q (List Upd)) o c):=λ_ _ _ _ _ _ _ _ _ _ _ _ hq=>hq.elim;have happ:∀ (s:TSt) (us:List gQ),s.st.app (us.map gQ.upd)=(s.app us).st:=λs us=>(TSt.st_app us s).symm;refine Bi (zR hT hcq0 (show([o0].all (CY fn.ntmps))=true by simp only [a34,List.all_nil,a4i,CY,g0d];exact a2S (by exact a43 (by decide:2 < 4) hn)) ?_);show wpO T _ [o0] o0 _ λus=>a1t P _ _ .normal _;unfold wpO opD;rw [g0g];simp only;unfold opQ;rw [g0];simp only [ev,Q.bind,Q.wp,one,g0d,He];rw [show([Upd.t 2 ⟨true,tv (.slice none 0 0)⟩]:List Upd)=([.t 2 ⟨true,.o (.c .nil)⟩]:List gQ).map gQ.upd from rfl,happ];show Tri P (.seq _ _) _ _;refine Bi (Bi (NE hu h1 h1d h1g h2 h2d h2g (show 4 < fn.ntmps from hn) (es:=List.map u.enc r) rfl λb hbe=>?_));show Tri P cd _ _;rw [show([Upd.t 3 ⟨true,.c (.d (.sl (List.map u.enc r)))⟩,Upd.t 4 ⟨true,.c (.d (.v (.bool b)))⟩]:List Upd)=([.t 3 ⟨true,.o (.c (.ch (.sl u) r))⟩,.t 4 ⟨true,.o (.c (.ch .bool b))⟩]:List gQ).map gQ.upd from rfl,happ];have hcq:=De (P:=P) (T:=T) hT (Γ:=Nl []) (λp hp=>by cases hp);have fin':∀ s',chk (Nat.beq s'.n fn.ntmps) ((WL T fn.ntmps fn.results.toList (dM by_ u e)).run s' [] λx _=>some (Vy x))=some r->
   s'.st.n=fn.ntmps/\((dM by_ u e).spec.post ((dM by_ u e).args.oas (r,()))).length=(dM by_ u e).posts.len/\(UT T fn.ntmps (dM by_ u e).posts.len fn.results.toList (Dy (dM by_ u e).posts (dM by_ u e).res).sh ((dM by_ u e).spec.post ((dM by_ u e).args.oas (r,()))) ((dM by_ u e).spec.res ((dM by_ u e).args.oas (r,())))).wp s'.st λ_=>True:=λs' h'=>by
  obtain⟨h5,h6⟩:=je h';rw [TFn.post_of (S:=dM by_ u e) rfl hFa,TFn.res_of (S:=dM by_ u e) rfl hFa];exact⟨a22 h5,BQ _ _,Nw (S:=dM by_ u e) rfl (fin:=Vy) (λx=>rfl) h6⟩
 have hex:Dx (R:=List u.den) T TU (qJ T TU []) .leaf (.seq cd rest) (stC fn.ntmps u r b) (Rv T fn.ntmps fn.results.toList (dM by_ u e) Vy)=some r:=by
  cases b with
  | true=>
   have:=List.map_eq_nil_iff.1 (hbe rfl);subst this;exact hx1
  | false=>exact(hx2 r).trans hFa
 have hex':Dx (R:=List u.den) T TU (qJ T TU []) .leaf cd (stC fn.ntmps u r b) (Ru (λs'=>Dx T TU (qJ T TU []) .leaf rest s' (Rv T fn.ntmps fn.results.toList (dM by_ u e) Vy)) (Rv T fn.ntmps fn.results.toList (dM by_ u e) Vy))=some r:=hex;refine FW (R:=List u.den) hT hcq (λo c _=>vL T TU [] o c) hm cd (a:= .leaf) trivial hex' λax s' h'=>?_;cases ax with
 | normal=>
  refine FW (R:=List u.den) hT hcq (λo c _=>vL T TU [] o c) hm rest (a:= .leaf) trivial (show Dx (R:=List u.den) T TU (qJ T TU []) .leaf rest s' _=some r from h') λax s' h'=>?_;cases ax with
  | normal=>exact fin' s' h'
  | exit i=>cases h'
  | ret=>exact fin' s' h'
 | exit i=>cases h'
 | ret=>exact fin' s' h'
def U.flat:U->Bool
 | .sl _=>false
 | .pr a b=>a.flat && b.flat
 | .arr _ _=>false
 | _=>true
def U.encV:(u:U)->u.den->List Value
 | .int k,n=>[.int k n]
 | .byte,x=>[.int .u8 (UInt8.toNat x:Nat)]
 | .bool,b=>[.bool b]
 | .str,l=>[.string ⟨List.toArray l⟩]
 | .sl _,_=>[.bool false]
 | .pr a b,x=>a.encV x.1 ++ b.encV x.2
 | .arr n u,_=>List.replicate (n * u.size) (.bool false)
theorem U.encV_len:(u:U)->(x:u.den)->(u.encV x).length=u.size
 | .int _,_=>rfl
 | .byte,_=>rfl
 | .bool,_=>rfl
 | .str,_=>rfl
 | .sl _,_=>rfl
 | .pr a b,x=>by rw [U.encV,a2V,a.encV_len,b.encV_len];rfl
 | .arr n u,v=>by rw [U.encV,a3W];rfl
theorem U.encV_one:(u:U)->(x:u.den)->∀ v ∈ u.encV x,v.oneCell'=true
 | .int _,_,v,h=>by simp only [U.encV,a3o] at h;subst h;rfl
 | .byte,_,v,h=>by simp only [U.encV,a3o] at h;subst h;rfl
 | .bool,_,v,h=>by simp only [U.encV,a3o] at h;subst h;rfl
 | .str,_,v,h=>by simp only [U.encV,a3o] at h;subst h;rfl
 | .sl _,_,v,h=>by simp only [U.encV,a3o] at h;subst h;rfl
 | .pr a b,x,v,h=>by
  rw [U.encV] at h;rcases List.mem_append.1 h with h | h
  ·exact a.encV_one _ v h
  ·exact b.encV_one _ v h
 | .arr n u,_,v,h=>by rw [U.encV] at h;rw [a39 h];rfl
section
variable {I:Nat->Nat->Prop} {w:World}
theorem aU.split:∀ {ds es:List DV} {xs:List Value},aU I w (ds ++ es) xs->∃ a b,xs=a ++ b/\aU I w ds a/\aU I w es b
 | [],_,xs,h=>⟨[],xs,rfl,by simp [aU],h⟩
 | d :: ds,es,xs,h=>by
  simp only [a3x,aU] at h;obtain⟨x,r,rfl,h2,h3⟩:=h;obtain⟨a,b,rfl,h4,h5⟩:=aU.split h3;exact⟨x :: a,b,rfl,by simp only [aU];exact⟨x,a,rfl,h2,h4⟩,h5⟩
theorem U.encV_of:(u:U)->u.flat=true->(x:u.den)->{vs:List Value}->aU I w (u.enc x) vs->vs=u.encV x
 | .int _,_,x,vs,h=>by simp only [U.enc,aU,DVr] at h;obtain⟨y,r,rfl,⟨rfl,_⟩,rfl⟩:=h;rfl
 | .byte,_,x,vs,h=>by simp only [U.enc,aU,DVr] at h;obtain⟨y,r,rfl,⟨rfl,_⟩,rfl⟩:=h;rfl
 | .bool,_,x,vs,h=>by simp only [U.enc,aU,DVr] at h;obtain⟨y,r,rfl,⟨rfl,_⟩,rfl⟩:=h;rfl
 | .str,_,x,vs,h=>by simp only [U.enc,aU,DVr] at h;obtain⟨y,r,rfl,⟨rfl,_⟩,rfl⟩:=h;rfl
 | .sl _,hf,_,_,_=>by cases hf
 | .arr _ _,hf,_,_,_=>by cases hf
 | .pr a b,hf,x,vs,h=>by
  have hf':(a.flat && b.flat)=true:=hf;rw [a24] at hf';rw [U.enc] at h;obtain⟨p,q,rfl,h1,h2⟩:=aU.split h;rw [U.encV,a.encV_of hf'.1 _ h1,b.encV_of hf'.2 _ h2]
theorem U.encV_to:(u:U)->u.flat=true->(x:u.den)->aU I w (u.enc x) (u.encV x)
 | .int _,_,x=>by simp only [U.enc,U.encV,aU,DVr];exact⟨_,_,rfl,⟨rfl,rfl⟩,rfl⟩
 | .byte,_,x=>by simp only [U.enc,U.encV,aU,DVr];exact⟨_,_,rfl,⟨rfl,rfl⟩,rfl⟩
 | .bool,_,x=>by simp only [U.enc,U.encV,aU,DVr];exact⟨_,_,rfl,⟨rfl,rfl⟩,rfl⟩
 | .str,_,x=>by simp only [U.enc,U.encV,aU,DVr];exact⟨_,_,rfl,⟨rfl,rfl⟩,rfl⟩
 | .sl _,hf,_=>by cases hf
 | .arr _ _,hf,_=>by cases hf
 | .pr a b,hf,x=>by
  have hf':(a.flat && b.flat)=true:=hf;rw [a24] at hf';rw [U.enc,U.encV];exact aU.app (a.encV_to hf'.1 _) (b.encV_to hf'.2 _)
end
def A9 (n:Int):Int:=IntKind.wrap .i64 n
def wu8 (n:Int):Int:=IntKind.wrap .u8 n
def yt (n:Int):Int:=IntKind.wrap .u32 n
def D7 (n:Int):Int:=IntKind.wrap .u64 n
def Ok {α:Type} (o:Option α) (p:α->Prop):Prop:=∃ r,o=some r/\p r
theorem Ok.mono {α:Type} {o:Option α} {p q:α->Prop} (h:Ok o p) (k:∀ r,p r->q r):Ok o q:=by
 obtain⟨r,h1,h2⟩:=h;exact⟨r,h1,k r h2⟩
theorem A4 {α:Type} (x:α) (p:α->Prop):Ok (some x) p ↔ p x:=⟨λ⟨r,h1,h2⟩=>by injection h1 with h1;rw [h1];exact h2,λh=>⟨x,rfl,h⟩⟩
theorem D4 {α:Type} (b:Bool) (k:Option α) (p:α->Prop):Ok (chk b k) p ↔ b=true/\Ok k p:=by
 cases b
 ·exact⟨λ⟨r,h,_⟩=>(by cases h),λh=>(by cases h.1)⟩
 ·exact⟨λh=>⟨rfl,h⟩,λh=>h.2⟩
theorem A7 {α:Type} (b:Bool) (x y:Option α) (p:α->Prop):Ok (sel b x y) p ↔ (b=true->Ok x p)/\(b=false->Ok y p):=by
 cases b
 ·exact⟨λh=>⟨λe=>(by cases e),λ_=>h⟩,λh=>h.2 rfl⟩
 ·exact⟨λh=>⟨λ_=>h,λe=>(by cases e)⟩,λh=>h.1 rfl⟩
theorem A5 {α β:Type} (o:Option α) (f:α->Option β) (p:β->Prop):Ok (o.bind f) p ↔ Ok o λr=>Ok (f r) p:=by
 cases o with
 | none=>exact⟨λ⟨r,h,_⟩=>(by cases h),λ⟨r,h,_⟩=>(by cases h)⟩
 | some x=>rw [A4];exact Iff.rfl
theorem C9 {α β:Type} (o:Option α) (f:α->β) (p:β->Prop):Ok (o.map f) p ↔ Ok o λr=>p (f r):=by
 cases o with
 | none=>exact⟨λ⟨r,h,_⟩=>(by cases h),λ⟨r,h,_⟩=>(by cases h)⟩
 | some x=>rw [A4,a3s,A4]
theorem J3 {α:Type} {o:Option α} {x:α}:Ok o (· =x) ↔ o=some x:=⟨λ⟨r,h,e⟩=>by rw [h,e],λh=>⟨x,h,rfl⟩⟩
def Nxt {S R:Type} (p:R->Prop) (q:S->Prop):S ⊕ R->Prop
 | .inl z=>q z
 | .inr r=>p r
theorem B5 {S R:Type} (p:R->Prop) (q:S->Prop) (z:S):Nxt p q (.inl z)=q z:=rfl
theorem B8 {S R:Type} (p:R->Prop) (q:S->Prop) (r:R):Nxt p q (.inr r)=p r:=rfl
theorem eX {S R:Type} {G:S->Option (S ⊕ R)} {p:R->Prop} (inv:S->Prop) (m:S->Nat) (step:∀ x,inv x->Ok (G x) (Nxt p λz=>inv z/\m z < m x)) :
  ∀ {x:S},inv x->m x < 1180591620717411303424->Ok (F8 G x) p:=by
 have key:∀ (n:Nat) (x:S),inv x->m x < n->Ok (Kp n G x) p:=by
  intro n
  induction n with
  | zero=>intro x _ h;omega
  | succ n ih=>
   intro x hi hm;obtain⟨y,hy,h⟩:=step x hi;unfold Kp;rw [hy];cases y with
   | inl z=>exact ih z h.1 (by have:=h.2;omega)
   | inr r=>exact⟨r,rfl,h⟩
 intro x hi hm;show Ok (Kp EH G x) p;rw [vN];exact key _ x hi hm
theorem C8 {n:Int} (h0: -9223372036854775808<=n) (h1:n<=9223372036854775807):A9 n=n:=by
 rw [A9,IntKind.wrap_i64];omega
theorem J4 {n:Int} (h0:0<=n) (h1:n < 18446744073709551616):D7 n=n:=by
 rw [D7,IntKind.wrap_u64];omega
theorem YX {n:Int} (h0:0<=n) (h1:n < 256):wu8 n=n:=by
 rw [wu8,IntKind.wrap_u8];omega
theorem V9 (n:Int):0<=D7 n/\D7 n < 18446744073709551616:=by
 rw [D7,IntKind.wrap_u64];omega
theorem fZ (n:Int):0<=wu8 n/\wu8 n < 256:=by
 rw [wu8,IntKind.wrap_u8];omega
theorem Im (x:UInt8):(0:Int)<=((UInt8.toNat x:Nat):Int)/\((UInt8.toNat x:Nat):Int) < 256:=by
 have:=x.toNat_lt;omega
end Go.Proofs.YtjbgdpjgfjnkbaaGreatDoor.Am
