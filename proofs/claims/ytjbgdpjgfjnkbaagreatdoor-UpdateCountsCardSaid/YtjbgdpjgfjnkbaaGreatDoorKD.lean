/- Texts laid together: TmCall, TmCall2, TmLay, TmExec, TmFn, TmVw, TmClone, TmFlat, TmPlain, TmAid. No conditions. -/
import Derived.Test.YtjbgdpjgfjnkbaaGreatDoorKC
import Derived.KernelRfl
namespace Go.Proofs.YtjbgdpjgfjnkbaaGreatDoor.Am
open Go
def WH{α:Type}(p:List DV->Option (α×List DV)):List (List DV)->Option (List α)
 |[]=>some []
 |e::es=>(p e).bind λa=>(WH p es).map (a.1 :: ·)
def a2Y{α:Type}(p:List DV->Option (α×List DV)):(n:Nat)->List DV->Option (Vector α n×List DV)
 |0,l=>some (#v[],l)
 |n+1,l=>(a2Y p n l).bind λa=>(p a.2).map λb=>(a.1.push b.1,b.2)
def U.dec:(u:U)->List DV->Option (u.den×List DV)
 |.int _,l=>match l with
  |.v (.int _ n)::r=>some (n,r)
  |_=>none
 |.byte,l=>match l with
  |.v (.int _ n)::r=>some (UInt8.ofNat n.toNat,r)
  |_=>none
 |.bool,l=>match l with
  |.v (.bool b)::r=>some (b,r)
  |_=>none
 |.str,l=>match l with
  |.v (.string s)::r=>some (s.data.toList,r)
  |_=>none
 |.sl u,l=>match l with
  |.sl es::r=>(WH u.dec es).map λx=>(x,r)
  |_=>none
 |.pr a b,l=>(a.dec l).bind λx=>(b.dec x.2).map λy=>((x.1,y.1),y.2)
 |.arr n u,l=>a2Y u.dec n l
theorem DE{α:Type}{p:List DV->Option (α×List DV)}{f:α->List DV}(h:∀x r,p (f x++r)=some (x,r)):∀(l:List α),WH p (l.map f)=some l
 |[]=>rfl
 |x::l=>by
  have:=h x [];rw[a5Z]at this;rw[a55,WH,this,a5I,DE h l];rfl
theorem PG{α:Type}{p:List DV->Option (α×List DV)}{f:α->List DV}(h:∀x r,p (f x++r)=some (x,r)):∀(n:Nat) (v:Vector α n) (r:List DV),a2Y p n (v.toList.flatMap f++r)=some (v,r)
 |0,v,r=>by
  have:v= #v[]:=by ext i hi;omega
  subst this;rfl
 |n+1,v,r=>by
  have e:v=v.pop.push v.back:=(Vector.push_pop_back v).symm;rw[e,a8g,a7y,a50,a2Y,PG h n v.pop,a5I];simp only[a6q,List.flatMap_nil,a5Z,h,a6e]
theorem Uc(x:UInt8) (r:List DV):some (UInt8.ofNat ((UInt8.toNat x:Nat):Int).toNat,r)=some (x,r):=by
 rw[a5J,UInt8.ofNat_toNat]
theorem U.dec_enc:∀(u:U) (x:u.den) (r:List DV),u.dec (u.enc x++r)=some (x,r)
 |.int _,_,_=>rfl
 |.byte,x,r=>Uc x r
 |.bool,_,_=>rfl
 |.str,_,_=>rfl
 |.sl u,l,r=>by
  show(WH u.dec (List.map u.enc l)).map (λx=>(x,r))=some (l,r);rw[DE (U.dec_enc u) l];rfl
 |.pr a b,x,r=>by
  show(a.dec ((a.enc x.1++b.enc x.2)++r)).bind (λy=>(b.dec y.2).map λz=>((y.1,z.1),z.2))=some (x,r);rw[a50,U.dec_enc a,a5I,U.dec_enc b];rfl
 |.arr n u,v,r=>PG (U.dec_enc u) n v r
mutual
inductive OT where
 |d (u:U)
 |npt
 |it (t:TypeId) (u:U) (h:u.size=1)
 |fn (f:FuncId)
 |clo (f:FuncId) (u:U)
 |e (u:U)
 |row (u:U) (e:TypeId)
 |box (ts:OTs)
inductive OTs where
 |nil
 |cons (t:OT) (ts:OTs)
end
mutual
def OT.den:OT->Type
 |.d u=>u.den
 |.fn _=>Unit
 |.npt=>Unit
 |.it _ u _=>u.den
 |.clo _ u=>u.den
 |.e u=>u.den
 |.row u _=>List u.den
 |.box ts=>ts.den
def OTs.den:OTs->Type
 |.nil=>Unit
 |.cons t ts=>t.den×ts.den
end
mutual
def OT.ocs:(t:OT)->t.den->List OC
 |.d u,x=>(u.enc x).map .d
 |.fn f,_=>[.d (.v (.func (.func f) #[] #[]))]
 |.npt,_=>[.d (.v (.pointer none))]
 |.it t u _,x=>[.d (.it t (Dt (u.enc x)))]
 |.clo f u,x=>[.d (.clo f (u.enc x))]
 |.e u,x=>[.e (u.enc x)]
 |.row u e,l=>[.row u.size e (List.map u.enc l)]
 |.box ts,x=>[.box (ts.ocs x)]
def OTs.ocs:(ts:OTs)->ts.den->List OC
 |.nil,_=>[]
 |.cons t ts,x=>t.ocs x.1++ts.ocs x.2
end
mutual
def OT.sh:OT->List CSh
 |.d u=>List.replicate u.size .D
 |.fn _=>[.D]
 |.npt=>[.D]
 |.it _ _ _=>[.D]
 |.clo _ _=>[.D]
 |.e _=>[.E]
 |.row u e=>[.R u.size e]
 |.box ts=>[.B ts.sh]
def OTs.sh:OTs->List CSh
 |.nil=>[]
 |.cons t ts=>t.sh++ts.sh
end
def unD:List OC->Option (List DV)
 |[]=>some []
 |.d x::r=>(unD r).map (x :: ·)
 |_::_=>none
theorem WI:∀(l:List DV),unD (l.map .d)=some l
 |[]=>rfl
 |x::l=>by rw[a55,unD,WI l];rfl
mutual
def OT.dec:(t:OT)->List OC->Option (t.den×List OC)
 |.d u,l=>(unD (l.take u.size)).bind λds=>(u.dec ds).map λx=>(x.1,l.drop u.size)
 |.fn _,l=>some ((),l.drop 1)
 |.npt,l=>some ((),l.drop 1)
 |.it _ u _,l=>match l with
  |.d (.it _ d)::r=>(u.dec [d]).map λy=>(y.1,r)
  |_=>none
 |.clo _ u,l=>match l with
  |.d (.clo _ ds)::r=>(u.dec ds).map λy=>(y.1,r)
  |_=>none
 |.e u,l=>match l with
  |.e ds::r=>(u.dec ds).map λy=>(y.1,r)
  |_=>none
 |.row u _,l=>match l with
  |.row _ _ es::r=>(WH u.dec es).map λx=>(x,r)
  |_=>none
 |.box ts,l=>match l with
  |.box cs::r=>(ts.dec cs).map λx=>(x.1,r)
  |_=>none
def OTs.dec:(ts:OTs)->List OC->Option (ts.den×List OC)
 |.nil,l=>some ((),l)
 |.cons t ts,l=>(t.dec l).bind λx=>(ts.dec x.2).map λy=>((x.1,y.1),y.2)
end
theorem a3s(u:U) (x:u.den) (r:List OC):(unD ((((u.enc x).map OC.d)++r).take u.size)).bind (λds=>(u.dec ds).map λy=>(y.1,(((u.enc x).map OC.d)++r).drop u.size))=some (x,r):=by
 have hl:((u.enc x).map OC.d).length=u.size:=by rw[a5X,U.enc_len]
 rw[<-hl,a6H,a6s,WI,a5I];have:=U.dec_enc u x [];rw[a5Z]at this;rw[this];rfl
theorem a3t(u:U) (x:u.den):((u.enc x).map OC.d).length=(List.replicate u.size CSh.D).length:=by
 rw[a5X,U.enc_len,a6t]
theorem PH(u:U) (x:u.den) (r:List OC):(u.dec (u.enc x)).map (λy=>(y.1,r))=some (x,r):=by
 have h1:=U.dec_enc u x [];rw[a5Z]at h1;rw[h1];rfl
theorem a0F(u:U) (h:u.size=1) (x:u.den) (r:List OC):(u.dec [Dt (u.enc x)]).map (λy=>(y.1,r))=some (x,r):=by
 have h1:=U.dec_enc u x [];rw[a5Z]at h1;rw[Ka (ds:=u.enc x) (by rw[U.enc_len,h]),h1];rfl
mutual
theorem OT.dec_ocs:∀(t:OT) (x:t.den) (r:List OC),t.dec (t.ocs x++r)=some (x,r)
 |.d u,x,r=>a3s u x r
 |.fn _,_,_=>rfl
 |.npt,_,_=>rfl
 |.it t u h,x,r=>by
  exact a0F u h x r
 |.clo f u,x,r=>PH u x r
 |.e u,x,r=>PH u x r
 |.row u _,l,r=>by
  show(WH u.dec (List.map u.enc l)).map (λx=>(x,r))=some (l,r);rw[DE (U.dec_enc u) l];rfl
 |.box ts,x,r=>by
  show(ts.dec (ts.ocs x)).map (λy=>(y.1,r))=some (x,r);have:=OTs.dec_ocs ts x [];rw[a5Z]at this;rw[this];rfl
theorem OTs.dec_ocs:∀(ts:OTs) (x:ts.den) (r:List OC),ts.dec (ts.ocs x++r)=some (x,r)
 |.nil,_,_=>rfl
 |.cons t ts,x,r=>by
  show(t.dec ((t.ocs x.1++ts.ocs x.2)++r)).bind (λy=>(ts.dec y.2).map λz=>((y.1,z.1),z.2))=some (x,r);rw[a50,OT.dec_ocs t,a5I,OTs.dec_ocs ts];rfl
end
def MF:List OC->OC
 |[x]=>x
 |_=>.row 0 0 []
inductive AT where
 |c (t:OT)
 |agg (ts:OTs)
 |bx (ts:OTs)
 |rx (u:U) (e:TypeId)
def AT.den:AT->Type
 |.c t=>t.den
 |.agg ts=>ts.den
 |.bx ts=>ts.den
 |.rx u _=>List u.den
def AT.oa:(t:AT)->t.den->OA
 |.c t,x=>.c (MF (t.ocs x))
 |.agg ts,x=>.agg (ts.ocs x)
 |.bx ts,x=>.bx (ts.ocs x)
 |.rx u e,l=>.rx u.size e (List.map u.enc l)
def AT.ok:AT->Bool
 |.c t=>Nat.beq t.sh.length 1
 |_=>true
def AT.ash:AT->ASh
 |.c t=>.c (t.sh.headD .D)
 |.agg ts=>.agg ts.sh
 |.bx ts=>.bx ts.sh
 |.rx u e=>.rx u.size e
def AT.dec:(t:AT)->OA->Option t.den
 |.c t,x=>match x with
  |.c y=>(t.dec [y]).map (·.1)
  |_=>none
 |.agg ts,x=>match x with
  |.agg ys=>(ts.dec ys).map (·.1)
  |_=>none
 |.bx ts,x=>match x with
  |.bx ys=>(ts.dec ys).map (·.1)
  |_=>none
 |.rx u _,x=>match x with
  |.rx _ _ es=>WH u.dec es
  |_=>none
mutual
theorem OT.len:∀(t:OT) (x:t.den),(t.ocs x).length=t.sh.length
 |.d u,x=>a3t u x
 |.fn _,_=>rfl
 |.npt,_=>rfl
 |.it _ _ _,_=>rfl
 |.clo _ _,_=>rfl
 |.e _,_=>rfl
 |.row _ _,_=>rfl
 |.box _,_=>rfl
theorem OTs.len:∀(ts:OTs) (x:ts.den),(ts.ocs x).length=ts.sh.length
 |.nil,_=>rfl
 |.cons t ts,x=>by
  show(t.ocs x.1++ts.ocs x.2).length=(t.sh++ts.sh).length;rw[a5K,a5K,OT.len t,OTs.len ts]
end
theorem ua{l:List OC}(h:l.length=1):l=[MF l]:=by
 match l,h with
 |[x],_=>rfl
theorem AT.dec_oa(t:AT) (hk:t.ok=true) (x:t.den):t.dec (t.oa x)=some x:=by
 cases t with
 |c t=>
  have h1:(t.ocs x).length=1:=by rw[OT.len t x];exact a5O hk
  have:=OT.dec_ocs t x [];rw[a5Z,ua h1]at this;show(t.dec [MF (t.ocs x)]).map (·.1)=some x;rw[this];rfl
 |agg ts=>
  have:=OTs.dec_ocs ts x [];rw[a5Z]at this;show(ts.dec (ts.ocs x)).map (·.1)=some x;rw[this];rfl
 |bx ts=>
  have:=OTs.dec_ocs ts x [];rw[a5Z]at this;show(ts.dec (ts.ocs x)).map (·.1)=some x;rw[this];rfl
 |rx u e=>exact DE (U.dec_enc u) x
inductive ATs where
 |nil
 |cons (t:AT) (ts:ATs)
def ATs.den:ATs->Type
 |.nil=>Unit
 |.cons t ts=>t.den×ts.den
def ATs.oas:(ts:ATs)->ts.den->List OA
 |.nil,_=>[]
 |.cons t ts,x=>t.oa x.1::ts.oas x.2
def ATs.ok:ATs->Bool
 |.nil=>true
 |.cons t ts=>t.ok&&ts.ok
def ATs.sh:ATs->List ASh
 |.nil=>[]
 |.cons t ts=>t.ash::ts.sh
def ATs.dec:(ts:ATs)->List OA->Option ts.den
 |.nil,_=>some ()
 |.cons t ts,l=>match l with
  |x::r=>(t.dec x).bind λa=>(ts.dec r).map λb=>(a,b)
  |[]=>none
theorem ATs.dec_oas:∀(ts:ATs),ts.ok=true->∀(x:ts.den),ts.dec (ts.oas x)=some x
 |.nil,_,_=>rfl
 |.cons t ts,h,x=>by
  simp only[ATs.ok,a5S]at h;show(t.dec (t.oa x.1)).bind (λa=>(ts.dec (ts.oas x.2)).map λb=>(a,b))=some x;rw[AT.dec_oa t h.1,a5I,ATs.dec_oas ts h.2];rfl
inductive PTs where
 |nil
 |cons (t:OTs) (ts:PTs)
 |rcons (u:U) (e:TypeId) (ts:PTs)
def PTs.den:PTs->Type
 |.nil=>Unit
 |.cons t ts=>t.den×ts.den
 |.rcons u _ ts=>List u.den×ts.den
def PTs.ocs:(ts:PTs)->ts.den->List OA
 |.nil,_=>[]
 |.cons t ts,x=>.bx (t.ocs x.1)::ts.ocs x.2
 |.rcons u e ts,x=>.rx u.size e (List.map u.enc x.1)::ts.ocs x.2
structure TFn:Type 1 where
 args:ATs
 posts:PTs
 res:ATs
 R:Type
 G:args.den->Option R
 out:R->posts.den×res.den
 sp:Sp
def U.noSl:U->Bool
 |.sl _=>false
 |.pr a b=>a.noSl&&b.noSl
 |.arr _ u=>u.noSl
 |_=>true
theorem U.noSl_ok:∀(u:U),u.noSl=true->∀(x:u.den),(List.map OC.d (u.enc x)).all yh=true
 |.int _,_,_=>rfl
 |.byte,_,_=>rfl
 |.bool,_,_=>rfl
 |.str,_,_=>rfl
 |.sl _,h,_=>by cases h
 |.pr a b,h,x=>by
  have h':(a.noSl&&b.noSl)=true:=h;rw[a5S]at h';rw[U.enc,a53,List.all_append,a.noSl_ok h'.1,b.noSl_ok h'.2];rfl
 |.arr n u,h,v=>by
  have h':u.noSl=true:=h;rw[U.enc,a7a];intro c hc;obtain⟨d,hd,rfl⟩:=List.mem_map.1 hc;obtain⟨y,_,hy⟩:=List.mem_flatMap.1 hd;exact List.all_eq_true.1 (u.noSl_ok h' y) _ (List.mem_map.2 ⟨d,hy,rfl⟩)
def OT.flat:OT->Bool
 |.d u=>u.noSl
 |_=>false
theorem OT.flat_ok(t:OT) (h:t.flat=true) (x:t.den):(t.ocs x).all yh=true:=by
 cases t <;> first | cases h | skip
 case d u=>exact u.noSl_ok h x
def OTs.flat:OTs->Bool
 |.nil=>true
 |.cons t ts=>t.flat&&ts.flat
theorem OTs.flat_ok:∀(ts:OTs),ts.flat=true->∀(x:ts.den),(ts.ocs x).all yh=true
 |.nil,_,_=>rfl
 |.cons t ts,h,x=>by
  have h':(t.flat&&ts.flat)=true:=h;rw[a5S]at h';rw[OTs.ocs,List.all_append,t.flat_ok h'.1,ts.flat_ok h'.2];rfl
def AT.flat:AT->Bool
 |.c t=>t.flat
 |.agg ts=>ts.flat
 |_=>false
def ATs.flat:ATs->Bool
 |.nil=>true
 |.cons t ts=>t.flat&&ts.flat
def PTs.isNil:PTs->Bool
 |.nil=>true
 |_=>false
theorem PTs.isNil_ok(ts:PTs) (h:ts.isNil=true) (x:ts.den):ts.ocs x=[]:=by
 cases ts <;> first | rfl | cases h
def TFn.flat(S:TFn):Bool:=S.posts.isNil&&S.res.flat
def TFn.val(S:TFn) (xs:List OA):Option S.R:=(S.args.dec xs).bind S.G
def TFn.spec(S:TFn):xr:=⟨S.args.sh,λxs=>∃a r,xs=S.args.oas a/\S.G a=some r,
 λxs=>match S.val xs with | some r=>S.posts.ocs (S.out r).1 | none=>[],λxs=>match S.val xs with | some r=>S.res.oas (S.out r).2 | none=>[],S.sp,S.flat⟩
theorem TFn.val_of{S:TFn}(hk:S.args.ok=true){a:S.args.den}{r:S.R}(h:S.G a=some r):S.val (S.args.oas a)=some r:=by
 unfold TFn.val;rw[ATs.dec_oas _ hk,a5I,h]
theorem TFn.post_of{S:TFn}(hk:S.args.ok=true){a:S.args.den}{r:S.R}(h:S.G a=some r):S.spec.post (S.args.oas a)=S.posts.ocs (S.out r).1:=by
 show(match S.val (S.args.oas a)with | some r=>S.posts.ocs (S.out r).1 | none=>[])=_
 rw[S.val_of hk h]
theorem TFn.res_of{S:TFn}(hk:S.args.ok=true){a:S.args.den}{r:S.R}(h:S.G a=some r):S.spec.res (S.args.oas a)=S.res.oas (S.out r).2:=by
 show(match S.val (S.args.oas a)with | some r=>S.res.oas (S.out r).2 | none=>[])=_
 rw[S.val_of hk h]
structure Tt (α:Type) where
 x:α
 rest:List TC
 fz:List Nat
 ids:List (Nat⊕Nat)
mutual
def Ah:(t:OT)->List TC->TQ (Tt t.den)
 |.d u,ps=>(SB u ps).bind λp=>.ret ⟨p.x,p.rest,p.fz,[]⟩
 |.npt,ps=>match ps with
  |.npt::rest=>.ret ⟨(),rest,[],[]⟩
  |_=>.fail
 |.it t u _,ps=>match ps with
  |.it t' v x::rest=>match decEq t' t with
   |.isTrue _=>match decEq v u with
    |.isTrue hu=>.ret ⟨qK hu x,rest,[],[]⟩
    |.isFalse _=>.fail
   |.isFalse _=>.fail
  |_=>.fail
 |.clo f u,ps=>match ps with
  |.clo g v x::rest=>match decEq g f with
   |.isTrue _=>match decEq v u with
    |.isTrue hu=>.ret ⟨qK hu x,rest,[],[]⟩
    |.isFalse _=>.fail
   |.isFalse _=>.fail
  |_=>.fail
 |.e u,ps=>match ps with
  |.ep v x off::rest=>match decEq v u with
   |.isTrue hu=>.req (Nat.beq off 0) (.ret ⟨qK hu x,rest,[],[]⟩)
   |.isFalse _=>.fail
  |_=>.fail
 |.fn f,ps=>match ps with
  |.fn g::rest=>match decEq g f with
   |.isTrue _=>.ret ⟨(),rest,[],[]⟩
   |.isFalse _=>.fail
  |_=>.fail
 |.row u e,ps=>match ps with
  |.row id ver::rest=>.rdR id λr=>match r.c with
   |some R=>match decEq R.u u with
    |.isTrue h=>.req (Nat.beq ver r.ver&&Nat.beq R.e e && !R.fr) (.ret ⟨(h▸R.l:List u.den),rest,[],[.inr id]⟩)
    |.isFalse _=>.fail
   |none=>.fail
  |.nil::rest=>.req (decide (0<u.size/\e<jn)) (.ret ⟨([]:List u.den),rest,[],[]⟩)
  |_=>.fail
 |.box ts,ps=>match ps with
  |.ptr id ver off::rest=>.rdB id λb=>match b.c with
   |some qs=>(Cl ts qs).bind λk=>.req (k.rest.isEmpty&&Nat.beq ver b.ver&&Nat.beq off 0) (.ret ⟨k.x,rest,k.fz,.inl id::k.ids⟩)
   |none=>.fail
  |_=>.fail
def Cl:(ts:OTs)->List TC->TQ (Tt ts.den)
 |.nil,ps=>.ret ⟨(),ps,[],[]⟩
 |.cons t ts,ps=>(Ah t ps).bind λp=>(Cl ts p.rest).bind λq=>.ret ⟨(p.x,q.x),q.rest,p.fz++q.fz,p.ids++q.ids⟩
end
theorem Cm{s:St}{K:Tks->List aQ->Prop}:∀(a b:List CSh) (x y:List AC){tr:List aQ},((gn a x).wpt s tr λk rs=>(gn b y).wpt s rs λm rs'=>K ⟨k.ocs++m.ocs,k.fz++m.fz,k.ids++m.ids⟩ rs')->(gn (a++b) (x++y)).wpt s tr K
 |[],b,[],y,tr,h=>by simpa only[gn,Q.wpt,a6w]using h
 |[],b,_::_,y,tr,h=>by simp only[gn,Q.wpt]at h
 |_::_,b,[],y,tr,h=>by simp only[gn,Q.wpt]at h
 |c::a,b,x::xs,y,tr,h=>by
  simp only[a6l,gn,Q.wpt_bind,Q.wpt]at h⊢;refine Q.wpt_mono h λd rs h1=>?_;refine Cm a b xs y (Q.wpt_mono h1 λe rs' h2=>?_);refine Q.wpt_mono h2 λg rs'' h3=>?_;simpa only[a6l,a50]using h3
theorem Kp{s:St}{K:Tks->List aQ->Prop}:∀(xs:List AC){tr:List aQ},((ur xs).wpt s tr λd rs=>K ⟨d.1.map .d,d.2,[]⟩ rs)->(gn (List.replicate xs.length .D) xs).wpt s tr K
 |[],_,h=>h
 |x::xs,tr,h=>by
  simp only[ur,Q.wpt_bind,Q.wpt]at h;simp only[a54,a7c,gn,zR,Q.wpt_bind,Q.wpt];refine Q.wpt_mono h λd rs h1=>?_;refine Kp xs (Q.wpt_mono h1 λe rs' h2=>?_);simpa only[a55,a5Z]using h2
theorem Kq{s:St}{K:List DV×List Nat->List aQ->Prop}:∀(xs:List AC){tr:List aQ},(ur xs).wpt s tr K->(ur xs).wpt s tr λd rs=>d.1.length=xs.length/\K d rs
 |[],_,h=>⟨rfl,h⟩
 |x::xs,tr,h=>by
  simp only[ur,Q.wpt_bind,Q.wpt]at h⊢;refine Q.wpt_mono h λd rs h1=>?_;refine Q.wpt_mono (Kq xs h1) λe rs' h2=>?_;exact⟨by simp[h2.1],h2.2⟩
theorem Q.wpt_ex{α:Type}{q:Q α}{s:St}{K:α->List aQ->Prop}:∀{tr:List aQ},q.wpt s tr K->∃a rs,K a rs:=by
 induction q with
 |ret a=>exact λh=>⟨a,_,h⟩
 |rdT k g ih=>exact λh=>ih _ h
 |rdB k g ih=>exact λh=>ih _ h
 |rdR k g ih=>exact λh=>ih _ h
 |req p q ih=>exact λh=>ih h.2
 |fail=>exact λh=>h.elim
def a4s{α:Type}(f:α->List OC) (sh:List CSh) (p:List TC->TQ (Tt α)):Prop:=∀(ps:List TC) (s:TSt) (tr:List aQ) (K:Tt α->List aQ->Prop),(p ps).wpt s tr K->
 ∃pre k rs,C3 ps=pre++C3 k.rest/\K k rs/\(gn sh pre).wpt s.st tr λq rs'=>q=⟨f k.x,k.fz,k.ids⟩/\rs'=rs
mutual
theorem Kr:∀(t:OT),a4s t.ocs t.sh (Ah t)
 |.d u,ps,s,tr,K,h=>by
  simp only[Ah,TQ.wpt_bind]at h;obtain⟨pre,k,rs,e,h,d⟩:=Ab u ps s tr _ h;refine⟨pre,_,rs,e,h,?_⟩;have d2:=Kq pre d;obtain⟨x,rs',hl,hx,_⟩:=Q.wpt_ex d2;rw[hx,U.enc_len]at hl;show(gn (List.replicate u.size .D) pre).wpt _ _ _;rw[hl];refine Kp pre (Q.wpt_mono d ?_);rintro d rs ⟨rfl,rfl⟩;exact⟨rfl,rfl⟩
 |.npt,ps,s,tr,K,h=>by
  unfold Ah at h;split at h
  ·exact⟨[_],_,tr,rfl,h,show(gn [.D] [AC.d (.v (.pointer none))]).wpt _ _ _ from⟨rfl,rfl⟩⟩
  ·exact h.elim
 |.it t u hz,ps,s,tr,K,h=>by
  unfold Ah at h;split at h
  ·split at h
   ·split at h
    ·rename_i e1 _ _ e2 _;subst e1;subst e2;exact⟨[_],_,tr,rfl,h,show(gn [.D] [AC.d (.it _ (Dt _))]).wpt _ _ _ from⟨rfl,rfl⟩⟩
    ·exact h.elim
   ·exact h.elim
  ·exact h.elim
 |.clo f u,ps,s,tr,K,h=>by
  unfold Ah at h;split at h
  ·split at h
   ·split at h
    ·rename_i e1 _ _ e2 _;subst e1;subst e2;exact⟨[_],_,tr,rfl,h,show(gn [.D] [AC.d (.clo _ (U.enc _ _))]).wpt _ _ _ from⟨rfl,rfl⟩⟩
    ·exact h.elim
   ·exact h.elim
  ·exact h.elim
 |.e u,ps,s,tr,K,h=>by
  unfold Ah at h;split at h
  ·split at h
   ·rename_i e2 _;subst e2;obtain⟨h0,h⟩:=h;rw[a5O h0];exact⟨[_],_,tr,rfl,h,show(gn [.E] [AC.eptr (U.enc _ _)]).wpt _ _ _ from⟨rfl,rfl⟩⟩
   ·exact h.elim
  ·exact h.elim
 |.fn f,ps,s,tr,K,h=>by
  unfold Ah at h;split at h
  ·split at h
   ·rename_i hg _;subst hg;exact⟨[_],_,tr,rfl,h,show(gn [.D] [AC.d (.v (.func (.func _) #[] #[]))]).wpt _ _ _ from⟨rfl,rfl⟩⟩
   ·exact h.elim
  ·exact h.elim
 |.row u e,ps,s,tr,K,h=>by
  unfold Ah at h;split at h
  ·rename_i id ver rest;simp only[TQ.wpt]at h;split at h
   ·rename_i R hR;split at h
    ·rename_i hu _;obtain⟨h1,h2⟩:=h;simp only[a5S]at h1;refine⟨[.row id ver],_,_,rfl,h2,?_⟩;have hc:(s.st.r id).c=some R.row:=by show(s.r id).c.map yF.row=_;rw[hR];rfl
     simp only[OT.sh,gn,zR,Q.bind,Q.wpt];rw[hc];subst hu;refine⟨⟨a5O h1.1.1,rfl,a5O h1.1.2,by show R.fr=false;simpa using h1.2⟩,rfl,rfl⟩
    ·exact h.elim
   ·exact h.elim
  ·rename_i rest;obtain⟨h1,h2⟩:=h;exact⟨[.nil],_,tr,rfl,h2,a5P h1,rfl,rfl⟩
  ·exact h.elim
 |.box ts,ps,s,tr,K,h=>by
  unfold Ah at h;split at h
  ·rename_i id ver off rest;simp only[TQ.wpt]at h;split at h
   ·rename_i qs hq;rw[TQ.wpt_bind]at h;obtain⟨pre,k,rs,e,h,d⟩:=wu ts qs s _ _ h;obtain⟨h1,h2⟩:=h;simp only[a5S]at h1;have hr:=List.isEmpty_iff.1 h1.1.1;rw[hr]at e;have e:C3 qs=pre:=e.trans (a5Z _);refine⟨[.ptr id ver off],_,_,rfl,h2,?_⟩;have hc:(s.st.b id).c=some (C3 qs):=by show(s.b id).c.map C3=_;rw[hq];rfl
    simp only[OT.sh,gn,zR,Q.wpt_bind,Q.wpt];rw[hc,e];simp only[Q.wpt_bind];refine Q.wpt_mono d ?_;rintro q rs' ⟨rfl,rfl⟩;exact⟨⟨a5O h1.1.2,a5O h1.2⟩,by simp only[a5Z];rfl,rfl⟩
   ·exact h.elim
  ·exact h.elim
theorem wu:∀(ts:OTs),a4s ts.ocs ts.sh (Cl ts)
 |.nil,ps,s,tr,K,h=>⟨[],_,tr,rfl,h,rfl,rfl⟩
 |.cons t ts,ps,s,tr,K,h=>by
  simp only[Cl,TQ.wpt_bind]at h;obtain⟨pre1,k1,rs1,e1,h,d1⟩:=Kr t ps s tr _ h;obtain⟨pre2,k2,rs2,e2,h,d2⟩:=wu ts _ s rs1 _ h;refine⟨pre1++pre2,_,rs2,by rw[e1,e2,a50],h,Cm _ _ _ _ (Q.wpt_mono d1 ?_)⟩;rintro q rs ⟨rfl,rfl⟩;refine Q.wpt_mono d2 ?_;rintro q rs ⟨rfl,rfl⟩;exact⟨rfl,rfl⟩
end
structure Tta (α:Type) where
 x:α
 fz:List Nat
 ids:List (Nat⊕Nat)
 tops:List (Nat⊕Nat)
def Cn:(t:AT)->TV->TQ (Tta t.den)
 |.c t,v=>match v with
  |.o (.c x)=>.req (is1 x) ((Ah t [x]).bind λk=>.req (k.rest.isEmpty) (.ret ⟨k.x,k.fz,k.ids,[]⟩))
  |_=>.fail
 |.agg ts,v=>match v with
  |.o (.agg ps)=>(Cl ts ps).bind λk=>.req (k.rest.isEmpty) (.ret ⟨k.x,k.fz,k.ids,[]⟩)
  |_=>.fail
 |.bx ts,v=>match v with
  |.o (.c (.ptr id ver off))=>.rdB id λb=>match b.c with
   |some qs=>(Cl ts qs).bind λk=>.req (k.rest.isEmpty&&Nat.beq ver b.ver&&Nat.beq off 0) (.ret ⟨k.x,k.fz,k.ids,[.inl id]⟩)
   |none=>.fail
  |_=>.fail
 |.rx u e,v=>match v with
  |.o (.c (.row id ver))=>.rdR id λr=>match r.c with
   |some R=>match decEq R.u u with
    |.isTrue h=>.req (Nat.beq ver r.ver&&Nat.beq R.e e && !R.fr&&Nat.blt e jn) (.ret ⟨(h▸R.l:List u.den),[],[],[.inr id]⟩)
    |.isFalse _=>.fail
   |none=>.fail
  |_=>.fail
theorem MG(t:AT) (hk:t.ok=true) (v:TV):Sim (λk:Tta t.den=>(⟨t.oa k.x,k.fz,k.ids,k.tops⟩:Ta)) (Cn t v) (Tm t.ash v.av):=by
 cases t with
 |c t=>
  unfold Cn;simp only;split
  ·rename_i x;refine Sim.chk λh1 s tr K hK=>?_;rw[TQ.wpt_bind]at hK;obtain⟨pre,k,rs,e,hK,d⟩:=Kr t _ s tr _ hK;obtain⟨h2,h3⟩:=hK;rw[List.isEmpty_iff.1 h2]at e;have e:C3 [x]=pre:=e.trans (a5Z _);have e0:C3 [x]=[lf x.cells]:=(a5Z _).trans (yl h1);rw[<-e,e0]at d;have hl:t.sh.length=1:=a5O hk
   match hs:t.sh,hl with
   |[c],_=>
    have hocs:t.ocs k.x=[MF (t.ocs k.x)]:=ua (by rw[OT.len,hs];rfl);rw[hs]at d;simp only[gn,Q.wpt_bind,Q.wpt]at d;show((zR (t.sh.headD .D) (lf x.cells)).bind λk=>Q.ret (⟨.c k.oc,k.fz,k.ids,[]⟩:Ta)).wpt _ _ _;rw[hs,Q.wpt_bind];refine Q.wpt_mono d ?_;rintro q rs' ⟨hq,rfl⟩;rw[hocs]at hq;injection hq with q1 q2 q3;injection q1 with q1 _;refine⟨_,?_,h3⟩;simp only[a5Z]at q2 q3;show(⟨.c q.oc,q.fz,q.ids,[]⟩:Ta)=⟨.c (MF (t.ocs k.x)),k.fz,k.ids,[]⟩;rw[q1,q2,q3]
  ·exact Sim.fail
 |agg ts=>
  unfold Cn;simp only;split
  ·rename_i ps;intro s tr K hK;rw[TQ.wpt_bind]at hK;obtain⟨pre,k,rs,e,hK,d⟩:=wu ts _ s tr _ hK;obtain⟨h2,h3⟩:=hK;rw[List.isEmpty_iff.1 h2]at e;have e:C3 ps=pre:=e.trans (a5Z _);rw[<-e]at d;show((gn ts.sh (C3 ps)).bind λk=>Q.ret (⟨.agg k.ocs,k.fz,k.ids,[]⟩:Ta)).wpt _ _ _;rw[Q.wpt_bind];refine Q.wpt_mono d ?_;rintro q rs' ⟨rfl,rfl⟩;exact⟨_,rfl,h3⟩
  ·exact Sim.fail
 |bx ts=>
  unfold Cn;simp only;split
  ·rename_i id ver off;refine Sim.rdB λb=>?_;obtain⟨bv,c⟩:=b;cases c with
   |none=>exact Sim.fail
   |some qs=>
    intro s tr K hK;simp only at hK;rw[TQ.wpt_bind]at hK;obtain⟨pre,k,rs,e,hK,d⟩:=wu ts _ s tr _ hK;obtain⟨h2,h3⟩:=hK;simp only[a5S]at h2;rw[List.isEmpty_iff.1 h2.1.1]at e;have e:C3 qs=pre:=e.trans (a5Z _);rw[<-e]at d;show((gn ts.sh (C3 qs)).bind λk=>Q.req (ver=bv/\off=0) (.ret (⟨.bx k.ocs,k.fz,k.ids,[.inl id]⟩:Ta))).wpt _ _ _;rw[Q.wpt_bind];refine Q.wpt_mono d ?_;rintro q rs' ⟨rfl,rfl⟩;exact⟨⟨a5O h2.1.2,a5O h2.2⟩,_,rfl,h3⟩
  ·exact Sim.fail
 |rx u e=>
  unfold Cn;simp only;split
  ·rename_i id ver;refine Sim.rdR λr=>?_;obtain⟨rv,c⟩:=r;cases c with
   |none=>exact Sim.fail
   |some R=>
    simp only;split
    ·rename_i hu _;subst hu;refine Sim.req (λh=>?_) λ_=>Sim.ret rfl;simp only[a5S]at h;exact⟨a5O h.1.1.1,rfl,a5O h.1.1.2,by show R.fr=false;simpa using h.1.2,a58 h.2⟩
    ·exact Sim.fail
  ·exact Sim.fail
def DF:(ts:ATs)->List TV->TQ (Tta ts.den)
 |.nil,vs=>match vs with
  |[]=>.ret ⟨(),[],[],[]⟩
  |_=>.fail
 |.cons t ts,vs=>match vs with
  |v::vs=>(Cn t v).bind λk=>(DF ts vs).bind λks=>.ret ⟨(k.x,ks.x),k.fz++ks.fz,k.ids++ks.ids,k.tops++ks.tops⟩
  |[]=>.fail
theorem vl:∀(ts:ATs),ts.ok=true->∀(vs:List TV),Sim (λk:Tta ts.den=>(⟨ts.oas k.x,k.fz,k.ids,k.tops⟩:Tas)) (DF ts vs) (zS ts.sh (vs.map TV.av))
 |.nil,_,[]=>Sim.ret rfl
 |.nil,_,_::_=>Sim.fail
 |.cons _ _,_,[]=>Sim.fail
 |.cons t ts,h,v::vs=>by
  simp only[ATs.ok,a5S]at h;exact Sim.bind (MG t h.1 v) λk=>Sim.bind (vl ts h.2 vs) λks=>Sim.ret rfl
def Ud:List (Nat⊕Nat)->TQ (List gT)
 |[]=>.ret []
 |.inl id::ids=>.rdB id λb=>(Ud ids).bind λus=>.ret (.b id ⟨b.ver,none⟩::us)
 |.inr id::ids=>.rdR id λb=>(Ud ids).bind λus=>.ret (.r id ⟨b.ver,none⟩::us)
theorem Ai:∀(ids:List (Nat⊕Nat)),Sim US (Ud ids) (HE ids)
 |[]=>Sim.ret rfl
 |.inl _id::ids=>Sim.rdB λ_b=>Sim.bind (Ai ids) λ_us=>Sim.ret rfl
 |.inr _id::ids=>Sim.rdR λ_b=>Sim.bind (Ai ids) λ_us=>Sim.ret rfl
def PI:Nat->List TC
 |0=>[]
 |n+1=>.junk::PI n
theorem Ks{α:Type}:∀(l:List α),C3 (PI l.length)=l.map λ_=>AC.junk
 |[]=>rfl
 |x::l=>by rw[a54,PI,C3,Ks l];rfl
def Ue:List (Nat⊕Nat)->(ts:PTs)->ts.den->TQ (List gT)
 |[],.nil,_=>.ret []
 |.inl id::ids,.cons t ts,x=>.rdB id λb=>(Ue ids ts x.2).bind λus=>.ret (.b id ⟨b.ver,some (PI t.sh.length)⟩::us)
 |.inr id::ids,.rcons u e ts,x=>.req (Nat.blt e jn) (.rdR id λr=>(Ue ids ts x.2).bind λus=>.ret (.r id ⟨r.ver,some ⟨u,x.1,e,false⟩⟩::us))
 |_,_,_=>.fail
theorem Aj:∀(ids:List (Nat⊕Nat)) (ts:PTs) (x:ts.den),Sim US (Ue ids ts x) (Bn ids (ts.ocs x))
 |[],.nil,_=>Sim.ret rfl
 |.inr id::ids,.rcons u e ts,x=>Sim.req (λh=>a58 h) λ_=>Sim.rdR λr=>Sim.bind (Aj ids ts x.2) λus=>Sim.ret rfl
 |.inl id::ids,.cons t ts,x=>Sim.rdB λb=>Sim.bind (Aj ids ts x.2) λus=>Sim.ret (by
   show Upd.b id ⟨b.ver,some ((t.ocs x.1).map λ_=>AC.junk)⟩::_=Upd.b id ⟨b.ver,some (C3 (PI t.sh.length))⟩::_;rw[<-Ks,OTs.len];rfl)
 |[],.cons _ _,_=>Sim.fail
 |[],.rcons _ _ _,_=>Sim.fail
 |.inl _::_,.nil,_=>Sim.fail
 |.inr _::_,.nil,_=>Sim.fail
 |.inl _::_,.rcons _ _ _,_=>Sim.fail
 |.inr _::_,.cons _ _,_=>Sim.fail
structure Tmk where
 ps:List TC
 us:List gT
 m:Nat
mutual
def ZH(n:Nat):(t:OT)->t.den->TQ Tmk
 |.d u,x=>.ret ⟨[.ch u x],[],n⟩
 |.fn f,_=>.ret ⟨[.fn f],[],n⟩
 |.npt,_=>.ret ⟨[.npt],[],n⟩
 |.it t u _,x=>.ret ⟨[.it t u x],[],n⟩
 |.clo f u,x=>.ret ⟨[.clo f u x],[],n⟩
 |.e u,x=>.ret ⟨[.ep u x 0],[],n⟩
 |.row u e,l=>.req (Nat.blt e qD) (.rdR n λr=>.ret ⟨[.row n (r.ver+1)],[.r n ⟨r.ver+1,some ⟨u,l,e,false⟩⟩],n+1⟩)
 |.box ts,x=>.rdB n λb=>(Iw (n+1) ts x).bind λk=>.ret ⟨[.ptr n (b.ver+1) 0],k.us++[.b n ⟨b.ver+1,some k.ps⟩],k.m⟩
def Iw(n:Nat):(ts:OTs)->ts.den->TQ Tmk
 |.nil,_=>.ret ⟨[],[],n⟩
 |.cons t ts,x=>(ZH n t x.1).bind λk=>(Iw k.m ts x.2).bind λks=>.ret ⟨k.ps++ks.ps,k.us++ks.us,ks.m⟩
end
def WJ(k:Tmk):Mks:=⟨C3 k.ps,US k.us,k.m⟩
theorem Kt{s:St}{K:Mks->List aQ->Prop}:∀(a b:List OC){n:Nat}{tr:List aQ},((Cb n a).wpt s tr λk rs=>(Cb k.m b).wpt s rs λq rs'=>K ⟨k.acs++q.acs,k.us++q.us,q.m⟩ rs')->(Cb n (a++b)).wpt s tr K
 |[],b,n,tr,h=>by simpa only[Cb,Q.wpt,a6w]using h
 |c::a,b,n,tr,h=>by
  simp only[a6l,Cb,Q.wpt_bind,Q.wpt]at h⊢;refine Q.wpt_mono h λd rs h1=>?_;refine Kt a b (Q.wpt_mono h1 λe rs' h2=>?_);refine Q.wpt_mono h2 λg rs'' h3=>?_;simpa only[a6l,a50]using h3
theorem WK{s:St}{K:Mks->List aQ->Prop}{n:Nat}{tr:List aQ}:∀(ds:List DV),K ⟨ds.map .d,[],n⟩ tr->(Cb n (ds.map .d)).wpt s tr K
 |[],h=>h
 |d::ds,h=>by
  simp only[a55,Cb,mkC,Q.wpt_bind,Q.wpt];exact WK (K:=λk rs=>K ⟨.d d::k.acs,[]++k.us,k.m⟩ rs) ds h
theorem rF{s:St}{K:Mks->List aQ->Prop}{n:Nat}{tr:List aQ}{c:OC}(h:(mkC n c).wpt s tr λk rs=>K ⟨[k.ac],k.us,k.m⟩ rs):(Cb n [c]).wpt s tr K:=by
 simp only[Cb,Q.wpt_bind,Q.wpt];refine Q.wpt_mono h λk rs h1=>?_;simpa only[a5Z]using h1
theorem a5i(u:U) (n:Nat) (x:u.den):(⟨(u.enc x).map .d,[],n⟩:Mks)=WJ ⟨[.ch u x],[],n⟩:=by
 unfold WJ;rw[iP];rfl
mutual
theorem Ku:∀(t:OT) (n:Nat) (x:t.den),Sim WJ (ZH n t x) (Cb n (t.ocs x))
 |.d u,n,x=>λs tr K h=>WK _ ⟨_,a5i u n x,h⟩
 |.npt,n,x=>λs tr K h=>rF (c:=.d (.v (.pointer none))) ⟨_,rfl,h⟩
 |.it t u _,n,x=>λs tr K h=>rF (c:=.d (.it t (Dt (u.enc x)))) ⟨_,rfl,h⟩
 |.clo f u,n,x=>λs tr K h=>rF (c:=.d (.clo f (u.enc x))) ⟨_,rfl,h⟩
 |.e u,n,x=>λs tr K h=>rF (c:=.e (u.enc x)) ⟨_,rfl,h⟩
 |.fn f,n,x=>λs tr K h=>rF (c:=.d (.v (.func (.func f) #[] #[]))) ⟨_,rfl,h⟩
 |.row u e,n,l=>λs tr K h=>rF (c:=.row u.size e (List.map u.enc l)) ⟨a58 h.1,_,rfl,h.2⟩
 |.box ts,n,x=>λs tr K h=>rF (c:=.box (ts.ocs x)) (by
   have h:((Iw (n+1) ts x).bind λk=>TQ.ret (⟨[.ptr n ((s.b n).ver+1) 0],k.us++[.b n ⟨(s.b n).ver+1,some k.ps⟩],k.m⟩:Tmk)).wpt s (.b n::tr) K:=h;rw[TQ.wpt_bind]at h;have h1:=wv ts (n+1) x s _ _ h;show((Cb (n+1) (ts.ocs x)).bind λk=>Q.ret (⟨.ptr n ((s.b n).ver+1) 0,k.us++[.b n ⟨(s.b n).ver+1,some k.acs⟩],k.m⟩:Mk)).wpt s.st (.b n::tr) _;rw[Q.wpt_bind];refine Q.wpt_mono h1 ?_;rintro b rs ⟨a,rfl,hk⟩;refine⟨_,?_,hk⟩;simp only[WJ,US,a53,a55,a6B];rfl)
theorem wv:∀(ts:OTs) (n:Nat) (x:ts.den),Sim WJ (Iw n ts x) (Cb n (ts.ocs x))
 |.nil,n,x=>λs tr K h=>⟨_,rfl,h⟩
 |.cons t ts,n,x=>λs tr K h=>by
  simp only[Iw,TQ.wpt_bind]at h;refine Kt (t.ocs x.1) (ts.ocs x.2) (Q.wpt_mono (Ku t n x.1 s tr _ h) ?_);rintro b rs ⟨a,rfl,hk⟩;refine Q.wpt_mono (wv ts a.m x.2 s rs _ hk) ?_;rintro b rs ⟨a',rfl,hk⟩;refine⟨_,?_,hk⟩;simp only[WJ,US,a53,iO]
end
structure a4t where
 us:List gT
 m:Nat
def Uf(n:Nat):List (Nat⊕Nat)->(ts:PTs)->ts.den->TQ a4t
 |[],.nil,_=>.ret ⟨[],n⟩
 |.inl id::ids,.cons t ts,x=>(Iw n t x.1).bind λk=>.req ((.inl id::ids).all λj=>Nat.blt (tid j) n||Nat.ble k.m (tid j)) (.rdB id λb=>(Uf k.m ids ts x.2).bind λp=>.ret ⟨k.us++(.b id ⟨b.ver,some k.ps⟩::p.us),p.m⟩)
 |.inr _::ids,.rcons _ _ ts,x=>Uf n ids ts x.2
 |_,_,_=>.fail
theorem Ak:∀(ids:List (Nat⊕Nat)) (ts:PTs) (n:Nat) (x:ts.den),Sim (λp:a4t=>(⟨US p.us,p.m⟩:Mps)) (Uf n ids ts x) (HF n ids (ts.ocs x))
 |[],.nil,n,_=>Sim.ret rfl
 |.inr _::ids,.rcons _ _ ts,n,x=>Ak ids ts n x.2
 |.inl id::ids,.cons t ts,n,x=>Sim.bind (wv t n x.1) λk=>Sim.req (λh j hj=>by
   have h1:=List.all_eq_true.1 h j hj;rw[a60]at h1;rcases h1 with h1|h1
   ·exact .inl (a58 h1)
   ·exact .inr (a58 h1)) λ_=>Sim.rdB λb=>Sim.bind (Ak ids ts k.m x.2) λp=>Sim.ret (by
   simp only[WJ,US,a53,a55];rfl)
 |[],.cons _ _,_,_=>Sim.fail
 |[],.rcons _ _ _,_,_=>Sim.fail
 |.inl _::_,.nil,_,_=>Sim.fail
 |.inr _::_,.nil,_,_=>Sim.fail
 |.inl _::_,.rcons _ _ _,_,_=>Sim.fail
 |.inr _::_,.cons _ _,_,_=>Sim.fail
structure a4u where
 v:T1
 us:List gT
 m:Nat
def a4v(n:Nat):(t:AT)->t.den->TQ a4u
 |.c t,x=>(ZH n t x).bind λk=>match k.ps with
  |[p]=>.req (is1 p) (.ret ⟨.c p,k.us,k.m⟩)
  |_=>.fail
 |.agg ts,x=>(Iw n ts x).bind λk=>.ret ⟨.agg k.ps,k.us,k.m⟩
 |.bx ts,x=>(ZH n (.box ts) x).bind λk=>match k.ps with
  |[p]=>.req (is1 p) (.ret ⟨.c p,k.us,k.m⟩)
  |_=>.fail
 |.rx u e,x=>(ZH n (.row u e) x).bind λk=>match k.ps with
  |[p]=>.req (is1 p) (.ret ⟨.c p,k.us,k.m⟩)
  |_=>.fail
def a2Z(k:a4u):Mka:=⟨k.v.av,US k.us,k.m⟩
theorem PJ{s:St}{K:Mks->List aQ->Prop}{n:Nat}{tr:List aQ}{c:OC}(h:(Cb n [c]).wpt s tr K):(mkC n c).wpt s tr λk rs=>K ⟨[k.ac],k.us,k.m⟩ rs:=by
 simp only[Cb,Q.wpt_bind,Q.wpt]at h;refine Q.wpt_mono h λk rs h1=>?_;simpa only[a5Z]using h1
theorem DH(t:OT) (n:Nat) (x:t.den) (c:OC) (hc:t.ocs x=[c]):Sim a2Z ((ZH n t x).bind λk=>match k.ps with
  |[p]=>.req (is1 p) (.ret ⟨.c p,k.us,k.m⟩)
  |_=>.fail) ((mkC n c).bind λk=>.ret ⟨.c k.ac,k.us,k.m⟩):=λs tr K h=>by
 rw[TQ.wpt_bind]at h;have h1:=Ku t n x s tr _ h;rw[hc]at h1;rw[Q.wpt_bind];refine Q.wpt_mono (PJ h1) ?_;rintro k rs ⟨a,ha,hk⟩;split at hk
 ·rename_i p hp;obtain⟨h2,h3⟩:=hk;refine⟨_,?_,h3⟩;have e0:C3 [p]=[lf p.cells]:=(a5Z _).trans (yl h2);simp only[WJ,hp,e0]at ha;injection ha with a1 a2 a3;injection a1 with a1 _;simp only[a2Z,T1.av];rw[a1,a2,a3]
 ·exact hk.elim
theorem Ug(t:AT) (hk:t.ok=true) (n:Nat) (x:t.den):Sim a2Z (a4v n t x) (mkA n (t.oa x)):=by
 cases t with
 |c t=>
  have h1:(t.ocs x).length=1:=by rw[OT.len t x];exact a5O hk
  exact DH t n x _ (ua h1)
 |agg ts=>exact Sim.bind (wv ts n x) λk=>Sim.ret rfl
 |bx ts=>exact DH (.box ts) n x _ rfl
 |rx u e=>exact DH (.row u e) n x _ rfl
structure Yn where
 vs:List T1
 us:List gT
 m:Nat
def PK(n:Nat):(ts:ATs)->ts.den->TQ Yn
 |.nil,_=>.ret ⟨[],[],n⟩
 |.cons t ts,x=>(a4v n t x.1).bind λk=>(PK k.m ts x.2).bind λks=>.ret ⟨k.v::ks.vs,k.us++ks.us,ks.m⟩
def Bp(k:Yn):a3i:=⟨k.vs.map T1.av,US k.us,k.m⟩
theorem ww:∀(ts:ATs),ts.ok=true->∀(n:Nat) (x:ts.den),Sim Bp (PK n ts x) (XO n (ts.oas x))
 |.nil,_,_,_=>Sim.ret rfl
 |.cons t ts,h,n,x=>by
  simp only[ATs.ok,a5S]at h;exact Sim.bind (Ug t h.1 n x.1) λk=>Sim.bind (ww ts h.2 k.m x.2) λks=>Sim.ret (by simp only[a2Z,Bp,US,a53,a55])
def Yo(vs:List T1):TV:=match vs with
 |[v]=>.o v
 |vs=>.tup vs
theorem Kv(vs:List T1):ZC (vs.map T1.av)=(Yo vs).av:=by
 match vs with
 |[]=>rfl
 |[_]=>rfl
 |_::_::_=>rfl
def ZI(x:Nat⊕Nat):List (Nat⊕Nat)->Bool
 |[]=>false
 |y::r=>(match x,y with|.inl a,.inl b=>Nat.beq a b|.inr a,.inr b=>Nat.beq a b|_,_=>false)||ZI x r
theorem DI{x:Nat⊕Nat}:∀{l:List (Nat⊕Nat)},ZI x l=false->x∉l
 |[],_,h=>by simp at h
 |y::r,h,hm=>by
  simp only[ZI,a76]at h;rcases List.mem_cons.1 hm with e|hm
  ·subst e;have h1:=h.1;cases x <;> simp at h1
  ·exact DI h.2 hm
def FG:List (Nat⊕Nat)->Bool
 |[]=>true
 |x::r=> !ZI x r&&FG r
theorem Al:∀{l:List (Nat⊕Nat)},FG l=true->l.Nodup
 |[],_=>a6T
 |x::r,h=>by
  simp only[FG,a5S,a5R]at h;exact List.nodup_cons.2 ⟨DI h.1,Al h.2⟩
def Yp(S:TFn) (o:Oper) (c:Call) (ex:List TV:=[]):TQ (List gT):=
 (a0w c.args.toList).bind λxs=>(DF S.args (xs++ex)).bind λk=>
 .req (FG (k.tops++k.ids)&&k.fz.all λid=> !ZI (Sum.inr id) (k.tops++k.ids))
 (.call (S.G k.x) λr=>match S.flat&&k.tops.isEmpty&&k.ids.isEmpty with
 |true=>(pj k.fz).bind λ_=>(PK (yZ o.dst) S.res (S.out r).2).bind λq=>.ret (q.us++a2W o.dst (Yo q.vs))
 |false=>(pj k.fz).bind λus1=>(Ud k.ids).bind λus2=>(Ue k.tops S.posts (S.out r).1).bind λus3=>(Uf (yZ o.dst) k.tops S.posts (S.out r).1).bind λp=>(PK p.m S.res (S.out r).2).bind λq=>
 .ret (us1++us2++us3++p.us++q.us++a2W o.dst (Yo q.vs)))
theorem AT.flat_ok(t:AT) (h:t.flat=true) (hk:t.ok=true) (x:t.den):Fj (t.oa x)=true:=by
 cases t with
 |c t=>
  have h1:(t.ocs x).length=1:=by rw[OT.len t x];exact a5O hk
  have h2:=ua h1;have h3:=t.flat_ok h x;rw[h2,a61,a5S]at h3;exact h3.1
 |agg ts=>exact ts.flat_ok h x
 |bx ts=>cases h
 |rx u e=>cases h
theorem ATs.flat_ok:∀(ts:ATs),ts.flat=true->ts.ok=true->∀(x:ts.den),(ts.oas x).all Fj=true
 |.nil,_,_,_=>rfl
 |.cons t ts,h,hk,x=>by
  have h':(t.flat&&ts.flat)=true:=h;have hk':(t.ok&&ts.ok)=true:=hk;rw[a5S]at h' hk';rw[ATs.oas,a61,t.flat_ok h'.1 hk'.1,ts.flat_ok h'.2 hk'.2];rfl
theorem Sim.call{α β γ:Type}{f:α->β}{o:Option γ}{q':γ->TQ α}{q:Q β}(h:∀r,o=some r->Sim f (q' r) q):Sim f (.call o q') q:=λs tr K hk=>by
 obtain⟨r,h1,h2⟩:=hk;exact h r h1 s tr K h2
theorem PL(S:TFn) (ha:S.args.ok=true) (hr:S.res.ok=true) (o:Oper) (c:Call) (ex:List TV):Sim US (Yp S o c ex) (OM S.spec o c (ex.map TV.av)):=by
 refine Sim.bind (za _) λxs=>Sim.bind (show Sim _ _ (zS S.spec.sh (xs.map TV.av++ex.map TV.av)) by rw[<-a53];exact vl S.args ha (xs++ex)) λk=>Sim.chk λh=>Sim.call λr hF=>?_;rw[a5S]at h;refine Sim.must ⟨Al h.1,λid hid=>?_,⟨k.x,r,rfl,hF⟩⟩ ?_
 ·have:=List.all_eq_true.1 h.2 id hid;exact DI (by simpa using this)
 ·simp only;rw[TFn.post_of ha hF,TFn.res_of ha hF];show Sim US _ (match S.flat&&k.tops.isEmpty&&k.ids.isEmpty with | true=>_ | false=>_)
  cases hfl:S.flat&&k.tops.isEmpty&&k.ids.isEmpty with
  |true=>
   rw[a5S,a5S]at hfl;have hf:(S.posts.isNil&&S.res.flat)=true:=hfl.1.1;rw[a5S]at hf;refine Sim.must ⟨S.posts.isNil_ok hf.1 _,S.res.flat_ok hf.2 hr _⟩ ?_;refine Sim.bind (fF k.fz) λ_=>Sim.bind (ww S.res hr _ (S.out r).2) λq=>Sim.ret ?_;simp only[Bp];rw[Kv];simp only[US,a53];congr 1;cases o.dst <;> rfl
  |false=>
  refine Sim.bind (fF k.fz) λus1=>Sim.bind (Ai k.ids) λus2=>Sim.bind (Aj k.tops S.posts (S.out r).1) λus3=>Sim.bind (Ak k.tops S.posts _ (S.out r).1) λp=>Sim.bind (ww S.res hr p.m (S.out r).2) λq=>Sim.ret ?_;simp only[Bp];rw[Kv];simp only[US,a53];congr 1;cases o.dst <;> rfl
def WL(k:TK) (x:TV):TQ Nat:=match k with
 |.slice _=>a3p x
 |.str=>If x
 |.map _ _=>Ip x
 |_=>.fail
def tmm(f:Int->Int->Int) (x y:TV):TQ TV:=match x,y with
 |.o (.c (.ch (.int k) a)),.o (.c (.ch (.int _) b))=>.ret (c1 (.int k) (f a b))
 |_,_=>.fail
def PM(T:TypeId->Option TI) (TU:TypeId->Option U) (b:Builtin) (o:Oper) (c:Call):TQ (List gT):=match b with
 |.len=>match c.args.toList,c.argTypes.toList with
  |[x],[t]=>(ttq T t).bind λi=>(tev x).bind λx=>(WL i.k x).bind λn=>vg o.dst (c1 (.int .i64) (n:Int))
  |_,_=>.fail
 |.append=>match c.args.toList,c.argTypes.toList with
  |[x,y],[t,t']=>(ttq T t).bind λi=>match i.k with
   |.slice e=>(ttq T e).bind λie=>(TQ.ofOpt o.dst).bind λd=>match TU e with
    |some u=>.req (Nat.beq t t'&&decide (0<ie.size)&&Nat.beq u.size ie.size) ((tev x).bind λx=>(tev y).bind λy=>match x,y with
     |.o (.c x),.o (.c y)=>PF d e u ie.bytes x y
     |_,_=>.fail)
    |none=>.fail
   |_=>.fail
  |_,_=>.fail
 |.clear=>match c.args.toList,c.argTypes.toList with
  |[x],[t]=>(ttq T t).bind λi=>match i.k with
   |.slice e=>(ttq T e).bind λie=>(tev x).bind λx=>match TU e with
    |some u=>(a3q u ie x).bind λus=>.ret (us++a2W o.dst .any)
    |none=>.fail
   |_=>.fail
  |_,_=>.fail
 |.max=>match c.args.toList with
  |[x,y]=>(tev x).bind λx=>(tev y).bind λy=>(tmm max x y).bind (vg o.dst)
  |_=>.fail
 |.min=>match c.args.toList with
  |[x,y]=>(tev x).bind λx=>(tev y).bind λy=>(tmm min x y).bind (vg o.dst)
  |_=>.fail
 |_=>.fail
theorem MH(k:TK) (x:TV):Sim id (WL k x) (OR k x.av):=by
 cases k <;> first | exact TO x | exact Ig x | exact Iq x | exact Sim.fail
theorem PN(f:Int->Int->Int) (x y:TV):Sim TV.av (tmm f x y) (mmQ f x.av y.av):=by
 unfold tmm;split
 ·exact Sim.ret rfl
 ·exact Sim.fail
theorem MI(T:TypeId->Option TI) (TU:TypeId->Option U) (b:Builtin) (o:Oper) (c:Call):Sim US (PM T TU b o c) (Fl T b o c):=by
 unfold PM Fl;cases b <;> try exact Sim.fail
 case len=>
  simp only;split
  ·rename_i x t hx ht;rw[hx,ht];exact Sim.bind (M3 T t) λi=>Sim.bind (K4 x) λx=>Sim.bind (MH i.k x) λn=>O0 o.dst (c1 (.int .i64) (n:Int))
  ·exact Sim.fail
 case append=>
  simp only;split
  ·rename_i x y t t' hx ht;rw[hx,ht];refine Sim.bind (M3 T t) λi=>?_;simp only[id];cases i.k <;> try exact Sim.fail
   case slice e=>
    refine Sim.bind (M3 T e) λie=>Sim.bind (bz o.dst) λd=>?_;cases TU e with
    |none=>exact Sim.fail
    |some u=>
     refine Sim.req (λh=>?_) λh=>?_
     ·simp only[a5S]at h;exact⟨a5O h.1.1,a5P h.1.2⟩
     ·simp only[a5S]at h;refine Sim.bind (K4 x) λx=>Sim.bind (K4 y) λy=>?_;split
      ·exact Iv d e u ie.size ie.bytes (a5O h.2) _ _
      ·exact Sim.fail
  ·exact Sim.fail
 case clear=>
  simp only;split
  ·rename_i x t hx ht;rw[hx,ht];refine Sim.bind (M3 T t) λi=>?_;simp only[id];cases i.k <;> try exact Sim.fail
   case slice e=>
    refine Sim.bind (M3 T e) λie=>Sim.bind (K4 x) λx=>?_;cases TU e with
    |none=>exact Sim.fail
    |some u=>
     refine Sim.bind (TZ u ie x) λus=>Sim.ret ?_;simp only[US,a53];congr 1;cases o.dst <;> rfl
  ·exact Sim.fail
 case max=>
  simp only;split
  ·rename_i x y hx;rw[hx];exact Sim.bind (K4 x) λx=>Sim.bind (K4 y) λy=>Sim.bind (PN max x y) λv=>O0 o.dst v
  ·exact Sim.fail
 case min=>
  simp only;split
  ·rename_i x y hx;rw[hx];exact Sim.bind (K4 x) λx=>Sim.bind (K4 y) λy=>Sim.bind (PN min x y) λv=>O0 o.dst v
  ·exact Sim.fail
def PO:List (Nat×TFn)->Nat->Option TFn
 |[],_=>none
 |p::l,j=>match Nat.beq j p.1 with
  |true=>some p.2
  |false=>PO l j
def a3u:TV->TQ (Nat×List TV)
 |.o (.c (.fn f))=>.req true (.ret (f,[]))
 |.o (.c (.clo f u x))=>.ret (f,[.o (.c (.ep u x 0))])
 |_=>.fail
theorem Uh(x:TV):Sim (λp:Nat×List TV=>(p.1,p.2.map TV.av)) (a3u x) (fnQ x.av):=by
 unfold a3u;split
 ·exact Sim.req (λ_=>⟨rfl,rfl⟩) λ_=>Sim.ret rfl
 ·exact Sim.ret rfl
 ·exact Sim.fail
def a0G:TV->Nat
 |.o (.c .npt)=>1
 |.o (.c (.it t _ _))=>2+t
 |_=>0
def zg:List TV->Nat
 |[]=>0
 |v::vs=>a0G v+5000*zg vs
theorem wx:∀(u:U) (x:u.den),∀d∈u.enc x,Mp (.c (.d d))=0
 |.int _,_,d,h=>by cases h with|head=>rfl|tail _ h=>cases h
 |.byte,_,d,h=>by cases h with|head=>rfl|tail _ h=>cases h
 |.bool,_,d,h=>by cases h with|head=>rfl|tail _ h=>cases h
 |.str,_,d,h=>by cases h with|head=>rfl|tail _ h=>cases h
 |.sl _,_,d,h=>by cases h with|head=>rfl|tail _ h=>cases h
 |.pr a b,x,d,h=>by
  rcases List.mem_append.1 h with h|h
  ·exact wx a x.1 d h
  ·exact wx b x.2 d h
 |.arr _ u,v,d,h=>by
  obtain⟨y,_,hy⟩:=List.mem_flatMap.1 h;exact wx u y d hy
theorem PP:∀(l:List DV),(∀d∈l,Mp (.c (.d d))=0)->Mp (.c (lf (l.map .d)))=0
 |[],_=>rfl
 |[d],h=>h d (by simp)
 |_::_::_,_=>rfl
theorem Ui(x:TV):Mp x.av=a0G x:=by
 cases x with
 |o x=>
  cases x with
  |c x=>cases x <;> first|rfl|exact PP _ (wx _ _)
  |agg xs=>rfl
 |tup xs=>rfl
 |clo f id ver=>rfl
 |ent tup id pv K k=>rfl
 |rtl id ver i z=>rfl
 |nx b x y=>rfl
 |any=>rfl
theorem Co:∀(xs:List TV),Ds (xs.map TV.av)=zg xs
 |[]=>rfl
 |x::xs=>by
  show Mp x.av+5000*Ds (xs.map TV.av)=_;rw[Ui,Co xs];rfl
def PQ(f1:FuncId) (o:Oper):List TV->TQ (List gT)
 |[.o (.c (.row id ver))]=>(TQ.ofOpt o.dst).bind λd=>.rdR id λr=>match r.c with
  |some R=>.req (Nat.beq ver r.ver&&Nat.ble jn R.e && !(Nat.beq R.e sw) && !(TY R.e)) (.rdB d λb=>.ret [.b d ⟨b.ver+1,some [.row id ver]⟩,.t d ⟨true,.clo f1 d (b.ver+1)⟩])
  |none=>.fail
 |_=>.fail
theorem MJ(f1:FuncId) (o:Oper) (xs:List TV):Sim US (PQ f1 o xs) (XS f1 o (xs.map TV.av)):=by
 unfold PQ;split
 ·refine Sim.bind (bz o.dst) λd=>Sim.rdR λr=>?_;obtain⟨rv,c⟩:=r;cases c with
  |none=>exact Sim.fail
  |some R=>exact Sim.req (λh=>by simp only[a5S]at h;exact⟨a5O h.1.1.1,a58 h.1.1.2,Py h.1.2,Km h.2⟩) λ_=>Sim.rdB λb=>Sim.ret rfl
 ·exact Sim.fail
def Bq(x y:Int):Bool:=decide (x<=y)
def Br(x y:List UInt8):Bool:=decide (x<=y)
def ZJ{α:Type}(le:α->α->Bool) (x:α):List α->List α
 |[]=>[x]
 |y::l=>match le x y with
  |true=>x::y::l
  |false=>y::ZJ le x l
def MK{α:Type}(le:α->α->Bool):List α->List α
 |[]=>[]
 |x::l=>ZJ le x (MK le l)
theorem Ao{α:Type}(le:α->α->Bool) (x:α):∀l:List α,(ZJ le x l).Perm (x::l)
 |[]=>List.Perm.refl _
 |y::l=>by
  unfold ZJ;split
  ·exact List.Perm.refl _
  ·exact((Ao le x l).cons y).trans (List.Perm.swap x y l)
theorem Cp{α:Type}(le:α->α->Bool):∀l:List α,(MK le l).Perm l
 |[]=>List.Perm.refl _
 |x::l=>(Ao le x _).trans ((Cp le l).cons x)
theorem Ap{α:Type}{le:α->α->Bool}(tr:∀a b c,le a b=true->le b c=true->le a c=true) (to:∀a b,(le a b||le b a)=true) (x:α):∀l:List α,l.Pairwise (λa b=>le a b=true)->(ZJ le x l).Pairwise (λa b=>le a b=true)
 |[],_=>List.pairwise_singleton _ _
 |y::l,h=>by
  rw[List.pairwise_cons]at h;unfold ZJ;split
  ·rename_i hxy;refine List.pairwise_cons.2 ⟨λz hz=>?_,List.pairwise_cons.2 h⟩;rcases List.mem_cons.1 hz with rfl|hz
   ·exact hxy
   ·exact tr _ _ _ hxy (h.1 z hz)
  ·rename_i hxy;have hyx:le y x=true:=by have:=to x y;rw[hxy]at this;simpa using this
   refine List.pairwise_cons.2 ⟨λz hz=>?_,Ap tr to x l h.2⟩;rcases List.mem_cons.1 ((Ao le x l).mem_iff.1 hz)with rfl|hz
   ·exact hyx
   ·exact h.1 z hz
theorem ym{α:Type}{le:α->α->Bool}(tr:∀a b c,le a b=true->le b c=true->le a c=true) (to:∀a b,(le a b||le b a)=true):∀l:List α,(MK le l).Pairwise (λa b=>le a b=true)
 |[]=>List.Pairwise.nil
 |x::l=>Ap tr to x _ (ym tr to l)
theorem wy{α:Type}{le:α->α->Bool}(tr:∀a b c,le a b=true->le b c=true->le a c=true) (to:∀a b,(le a b||le b a)=true) (an:∀a b,le a b=true->le b a=true->a=b){l l':List α}(h:l'.Pairwise (λa b=>le a b=true)) (hp:l.Perm l'):MK le l=l':=
 List.Perm.eq_of_pairwise (le:=λa b=>le a b=true) (λa b _ _ h1 h2=>an a b h1 h2) (ym tr to l) h ((Cp le l).trans hp)
def DJ(l:List Int):List Int:=MK Bq l
def DK(l:List (List UInt8)):List (List UInt8):=MK Br l
theorem Kw(a b c:Int) (h1:Bq a b=true) (h2:Bq b c=true):Bq a c=true:=a5H (Int.le_trans (a5P h1) (a5P h2))
theorem Kx(a b:Int):(Bq a b||Bq b a)=true:=by simp only[Bq,a60,a5M];exact Int.le_total a b
theorem Uj(a b:Int) (h1:Bq a b=true) (h2:Bq b a=true):a=b:=Int.le_antisymm (a5P h1) (a5P h2)
theorem Ky(a b c:List UInt8) (h1:Br a b=true) (h2:Br b c=true):Br a c=true:=a5H (List.le_trans (a5P h1) (a5P h2))
theorem Kz(a b:List UInt8):(Br a b||Br b a)=true:=by simp only[Br,a60,a5M];exact List.le_total a b
theorem Uk(a b:List UInt8) (h1:Br a b=true) (h2:Br b a=true):a=b:=List.le_antisymm (a5P h1) (a5P h2)
theorem Ix(l:List Int):l.mergeSort (λx y=>decide (x<=y))=DJ l:=by
 refine(wy Kw Kx Uj (List.pairwise_mergeSort Kw Kx l) ?_).symm;exact(List.mergeSort_perm l Bq).symm
theorem Iy(l:List (List UInt8)):l.mergeSort (λx y=>decide (x<=y))=DK l:=by
 refine(wy Ky Kz Uk (List.pairwise_mergeSort Ky Kz l) ?_).symm;exact(List.mergeSort_perm l Br).symm
def DL(l:List Int):Bool:=decide (l.Nodup/\(∀x∈l,-9223372036854775808<=x/\x<=9223372036854775807)/\l.length*8<=LIM)
def DM(l:List (List UInt8)):Bool:=decide (l.Nodup/\(∀x∈l,x.length<=4611686018427387904)/\l.length*16<=LIM)
def a0H(K:U):(u:U)->List u.den->Option (List K.den)
 |.pr K' _,l=>match decEq K' K with
  |.isTrue h=>some (List.map (λp=>qK h p.1) l)
  |.isFalse _=>none
 |_,_=>none
def KB(K:U) (f1:FuncId) (e:TypeId) (good:List K.den->Bool) (srt:List K.den->List K.den) (o:Oper):List TV->TQ (List gT)
 |[.clo f id ver]=>(TQ.ofOpt o.dst).bind λd=>.rdB id λb=>match b.c with
  |some [.row rid rver]=>.rdR rid λr=>match r.c with
   |some R=>match a0H K R.u R.l with
    |some ks=>.req (Nat.beq f f1&&Nat.beq ver b.ver&&Nat.beq rver r.ver&&(Nat.beq R.e (mE true)||Nat.beq R.e (mE false))&&decide (e<jn)) (.req (good ks) (.rdR d λrd=>.ret [.r d ⟨rd.ver+1,some ⟨K,srt ks,e,false⟩⟩,.t d ⟨true,.o (.c (.row d (rd.ver+1)))⟩]))
    |none=>.fail
   |none=>.fail
  |_=>.fail
 |_=>.fail
theorem Cq{K:U}(hK:K.size=1){f1:FuncId}{e:TypeId}{good:List K.den->Bool}{srt:List K.den->List K.den}{goodA:List (List DV)->Prop}{srtA:List (List DV)->List (List DV)}
  (h1:∀(V:U) (l:List (K.den×V.den)),good (l.map (·.1))=true->goodA (l.map (U.pr K V).enc)) (h2:∀(V:U) (l:List (K.den×V.den)),srtA (l.map (U.pr K V).enc)=(srt (l.map (·.1))).map K.enc) (o:Oper) (xs:List TV) :
  Sim US (KB K f1 e good srt o xs) (OQ f1 e goodA srtA o (xs.map TV.av)):=by
 unfold KB;split
 ·rename_i f id ver;refine Sim.bind (bz o.dst) λd=>Sim.rdB λb=>?_;obtain⟨bv,c⟩:=b;simp only;split
  ·rename_i rid rver;refine Sim.rdR λr=>?_;obtain⟨rv,c⟩:=r;cases c with
   |none=>exact Sim.fail
   |some R=>
    obtain⟨ru,rl,re,rf⟩:=R;simp only;cases ru with
    |pr K' V=>
     unfold a0H;simp only;split
     ·rename_i ks hks;split at hks
      ·rename_i hk _;subst hk;injection hks with hks;have hks:ks=List.map (λp=>p.1) rl:=hks.symm;subst hks;refine Sim.chk λhc=>Sim.req (λhg=>?_) λ_=>Sim.rdR λrd=>Sim.ret ?_
       ·simp only[a5S,a60]at hc;obtain⟨⟨⟨⟨c1,c2⟩,c3⟩,c4⟩,c5⟩:=hc;have hE:∃b,re=mE b:=by
         rcases c4 with c4|c4
         ·exact⟨_,a5O c4⟩
         ·exact⟨_,a5O c4⟩
        obtain⟨b0,rfl⟩:=hE;obtain⟨m1,m2,_,m4,m5⟩:=JO b0;exact⟨a5O c1,a5O c2,a5O c3,m4,m5,m1,m2,a5P c5,h1 V rl hg⟩
       ·show [Upd.r d ⟨rd.ver+1,some ⟨srtA (rl.map (U.pr K' V).enc),1,e,false⟩⟩,_]=_;rw[h2 V rl,<-hK];rfl
      ·cases hks
     ·exact Sim.fail
    |_=>exact Sim.fail
  ·exact Sim.fail
 ·exact Sim.fail
theorem KC{α β γ:Type}{f:α->β}{g:β->γ}{h:α->γ}(e:∀x,g (f x)=h x) (l:List α):(l.map f).map g=l.map h:=by
 rw[a7v];exact a7d λx _=>e x
theorem DN{α β:Type}(f:α->β) (l:List α):(l.map f).length=l.length:=a5X f
theorem ub{a b c k:Nat}(h:a=b) (h2:b*k<=c):a*k<=c:=h▸h2
theorem Iz{n:Nat}(h:n*8<=LIM):n<=maxLen:=by unfold LIM at h;simp only[maxLen];omega
theorem FH{n:Nat}(h:n*16<=LIM):n<=maxLen:=by unfold LIM at h;simp only[maxLen];omega
theorem yn{α:Type}(f:α->Int) (l:List α) (h:DL (l.map f)=true):l.length*8<=LIM:=by
 have:=(a5P h).2.2
 rwa [a5X]at this
theorem yo{α:Type}(f:α->List UInt8) (l:List α) (h:DM (l.map f)=true):l.length*16<=LIM:=by
 have:=(a5P h).2.2
 rwa [a5X]at this
theorem a0I(V:U) (l:List ((U.int .i64).den×V.den)) (h:DL (l.map (·.1))=true):a0r (l.map (U.pr (.int .i64) V).enc):=by
 obtain⟨a1,a2,_⟩:=a5P h;have e:(l.map (U.pr (.int .i64) V).enc).map Ws=l.map (·.1):=KC (f:=(U.pr (.int .i64) V).enc) (λ_=>rfl) l;refine⟨λc hc=>?_,?_,?_,?_,?_⟩
 ·obtain⟨p,_,rfl⟩:=List.mem_map.1 hc;exact⟨p.1,V.enc p.2,rfl⟩
 ·rw[e];exact a1
 ·rw[e];intro x hx;have:=a2 x hx;have h2:IntKind.i64.min<=x/\x<=IntKind.i64.max:=this;simpa [Lit.wf]using h2
 ·exact Iz (ub (DN (U.pr (.int .i64) V).enc l) (yn (α:=(U.pr (.int .i64) V).den) (λp=>p.1) l h))
 ·exact ub (DN (U.pr (.int .i64) V).enc l) (yn (α:=(U.pr (.int .i64) V).den) (λp=>p.1) l h)
theorem a0J(V:U) (l:List (U.str.den×V.den)) (h:DM (l.map (·.1))=true):a0s (l.map (U.pr .str V).enc):=by
 obtain⟨a1,a2,_⟩:=a5P h;have e:(l.map (U.pr .str V).enc).map Wt=l.map (·.1):=KC (f:=(U.pr .str V).enc) (λ_=>rfl) l;refine⟨λc hc=>?_,?_,?_,?_,?_⟩
 ·obtain⟨p,_,rfl⟩:=List.mem_map.1 hc;exact⟨p.1,V.enc p.2,rfl⟩
 ·rw[e];exact a1
 ·rw[e];intro x hx;exact a6c (a2 x hx) (by simp only[maxLen];omega)
 ·exact FH (ub (DN (U.pr .str V).enc l) (yo (α:=(U.pr .str V).den) (λp=>p.1) l h))
 ·exact ub (DN (U.pr .str V).enc l) (yo (α:=(U.pr .str V).den) (λp=>p.1) l h)
theorem a0K(V:U) (l:List ((U.int .i64).den×V.den)):sortI (l.map (U.pr (.int .i64) V).enc)=(DJ (l.map (·.1))).map (U.int .i64).enc:=by
 have e:(l.map (U.pr (.int .i64) V).enc).map Ws=l.map (·.1):=KC (f:=(U.pr (.int .i64) V).enc) (λ_=>rfl) l;unfold sortI;rw[e];exact congrArg (List.map λx:Int=>[DV.v (.int .i64 x)]) (Ix (l.map λp=>p.1))
theorem a0L(V:U) (l:List (U.str.den×V.den)):sortS (l.map (U.pr .str V).enc)=(DK (l.map (·.1))).map U.str.enc:=by
 have e:(l.map (U.pr .str V).enc).map Wt=l.map (·.1):=KC (f:=(U.pr .str V).enc) (λ_=>rfl) l;unfold sortS;rw[e];exact congrArg (List.map λx:List UInt8=>[DV.v (To x)]) (Iy (l.map λp=>p.1))
def a3v(sp:Sp) (o:Oper) (c:Call):TQ (List gT):=(a0w c.args.toList).bind λxs=>match sp with
 |.none=>.fail
 |.keys f1=>PQ f1 o xs
 |.sortI f1 e=>KB (.int .i64) f1 e DL DJ o xs
 |.sortS f1 e=>KB .str f1 e DM DK o xs
theorem DO(sp:Sp) (o:Oper) (c:Call):Sim US (a3v sp o c) (spQ sp o c):=by
 refine Sim.bind (za _) λxs=>?_;cases sp with
 |none=>exact Sim.fail
 |keys f1=>exact MJ f1 o xs
 |sortI f1 e=>exact Cq rfl a0I a0K o xs
 |sortS f1 e=>exact Cq rfl a0J a0L o xs
def sj(T:TypeId->Option TI) (TU:TypeId->Option U) (Γ:List (Nat×TFn)) (o:Oper) (c:Call):TQ (List gT):=match c.callee with
 |.value x=>(tev x).bind λv=>(a3u v).bind λf=>(a0w c.args.toList).bind λxs=>.req (Nat.blt f.1 1000000) (match PO Γ (f.1+zg xs*1000000) with
  |some S=>match S.sp with
   |.none=>.req (S.args.ok&&S.res.ok) (Yp S o c f.2)
   |sp=>match f.2 with
    |[]=>a3v sp o c
    |_=>.fail
  |none=>.fail)
 |.builtin b=>PM T TU b o c
 |_=>.fail
def PR(Γ:List (Nat×TFn)):List (Nat×xr):=Γ.map λp=>(p.1,p.2.spec)
theorem Cr:∀(Γ:List (Nat×TFn)) (f:Nat),jb (PR Γ) f=(PO Γ f).map TFn.spec
 |[],_=>rfl
 |p::Γ,f=>by
  show(if f=p.1 then some p.2.spec else jb (PR Γ) f)=(match Nat.beq f p.1 with | true=>some p.2 | false=>PO Γ f).map TFn.spec
  cases hb:Nat.beq f p.1 with
  |true=>rw[a5W (a5O hb)];rfl
  |false=>rw[a5U (λe=>by rw[e,a8G]at hb;cases hb),Cr Γ f]
theorem xy(T:TypeId->Option TI) (TU:TypeId->Option U) (Γ:List (Nat×TFn)) (o:Oper) (c:Call):Sim US (sj T TU Γ o c) (JY T (PR Γ) o c):=by
 unfold sj JY;split
 ·rename_i x hc;rw[hc];simp only;refine Sim.bind (K4 x) λv=>Sim.bind (Uh v) λf=>Sim.bind (za _) λxs=>?_;simp only;rw[Cr,Co];refine Sim.req (λh=>a58 h) λ_=>?_;cases PO Γ (f.1+zg xs*1000000) with
  |none=>exact Sim.fail
  |some S=>
   show Sim US (match S.sp with | .none=>.req (S.args.ok&&S.res.ok) (Yp S o c f.2) | sp=>match f.2 with | []=>a3v sp o c | _=>.fail) (match S.sp with | .none=>OM S.spec o c (f.2.map TV.av) | sp=>match f.2.map TV.av with | []=>spQ sp o c | _=>.fail)
   obtain⟨f0,ex⟩:=f;cases S.sp with
   |none=>
    refine Sim.chk λh=>?_;rw[a5S]at h;exact PL S h.1 h.2 o c ex
   |keys f1=>cases ex <;> first|exact DO _ o c|exact Sim.fail
   |sortI f1 e=>cases ex <;> first|exact DO _ o c|exact Sim.fail
   |sortS f1 e=>cases ex <;> first|exact DO _ o c|exact Sim.fail
 ·rename_i b hc;rw[hc];exact MI T TU b o c
 ·exact Sim.fail
inductive Sh where
 |d (u:U)
 |nil
 |fn (f:FuncId)
 |npt
 |clo (f:FuncId) (u:U)
 |e (u:U)
 |row (j:Nat)
 |ptr (j off:Nat)
inductive SSh where
 |one (s:Sh)
 |agg (ss:List Sh)
def SSh.list:SSh->List Sh
 |.one s=>[s]
 |.agg ss=>ss
def vm:List Sh->Type
 |[]=>Unit
 |.d u::r=>u.den×vm r
 |.clo _ u::r=>u.den×vm r
 |.e u::r=>u.den×vm r
 |_::r=>vm r
def lh:(ss:List Sh)->vm ss->List TC
 |[],_=>[]
 |.d u::r,x=>.ch u x.1::lh r x.2
 |.nil::r,x=>.nil::lh r x
 |.fn f::r,x=>.fn f::lh r x
 |.npt::r,x=>.npt::lh r x
 |.clo f u::r,x=>.clo f u x.1::lh r x.2
 |.e u::r,x=>.ep u x.1 0::lh r x.2
 |.row j::r,x=>.row j 0::lh r x
 |.ptr j off::r,x=>.ptr j 0 off::lh r x
def shr:Nat->Nat->List TC->List TC
 |0,_,ps=>ps
 |f+1,z,ps=>match Aa ps with
  |some c=>match Nat.blt z c.1.1.size with
   |true=>shr f z (wm c.1.1 c.1.2++c.2)
   |false=>ps
  |none=>ps
theorem Aq:∀{f z:Nat}{ps:List TC},C3 (shr f z ps)=C3 ps
 |0,_,_=>rfl
 |f+1,z,ps=>by
  unfold shr;split
  ·rename_i c hc;split
   ·rw[Aq,iO,rC,xu hc];rfl
   ·rfl
  ·rfl
def IA(u:U):List TC->Option (u.den×List TC)
 |.ch v x::rest=>match decEq v u with
  |.isTrue h=>some (qK h x,rest)
  |.isFalse _=>none
 |_=>none
def Yq(u:U):List TC->Option (List u.den×List TC)
 |.ch (.sl v) x::rest=>match decEq v u with
  |.isTrue h=>some ((h▸x:List u.den),rest)
  |.isFalse _=>none
 |.nil::rest=>some ([],rest)
 |_=>none
def Yr{α:Type}(p:List TC->Option (α×List TC)):(n:Nat)->List TC->Option (Vector α n×List TC)
 |0,ps=>some (#v[],ps)
 |n+1,ps=>(Yr p n ps).bind λa=>(p a.2).map λb=>(a.1.push b.1,b.2)
def Ar:(u:U)->List TC->Option (u.den×List TC)
 |.sl u,ps=>Yq u ps
 |.pr a b,ps=>match Aa (shr FU (U.pr a b).size ps) with
  |some c=>match decEq c.1.1 (.pr a b) with
   |.isTrue h=>some (qK h c.1.2,c.2)
   |.isFalse _=>(Ar a ps).bind λp=>(Ar b p.2).map λq=>((p.1,q.1),q.2)
  |none=>(Ar a ps).bind λp=>(Ar b p.2).map λq=>((p.1,q.1),q.2)
 |.arr n u,ps=>match IA (.arr n u) (shr FU (U.arr n u).size ps) with
  |some q=>some q
  |none=>Yr (Ar u) n ps
 |.int k,ps=>IA (.int k) (shr FU 1 ps)
 |.byte,ps=>IA .byte (shr FU 1 ps)
 |.bool,ps=>IA .bool (shr FU 1 ps)
 |.str,ps=>IA .str (shr FU 1 ps)
def DLe(xs ys:List AC):Prop:=∀s b r,yE s b r xs ys
theorem As{s:St}{b:List (Nat×Nat×List AC)}{r:List (Nat×Option Nat×Row)}:∀{xs ys us vs:List AC},yE s b r xs ys->yE s b r us vs->yE s b r (xs++us) (ys++vs)
 |[],[],_,_,_,h=>h
 |_x::_xs,_y::_ys,_,_,h,k=>⟨h.1,As h.2 k⟩
theorem DLe.app{xs ys us vs:List AC}(h:DLe xs ys) (k:DLe us vs):DLe (xs++us) (ys++vs):=λs b r=>As (h s b r) (k s b r)
theorem DLe.refl:∀(ds:List DV),DLe (ds.map .d) (ds.map .d)
 |[]=>λ_ _ _=>trivial
 |_d::ds=>λs b r=>⟨rfl,DLe.refl ds s b r⟩
theorem wz{u:U}{ps:List TC}{p:u.den×List TC}(h:IA u ps=some p):∃pre,C3 ps=pre++C3 p.2/\DLe pre ((u.enc p.1).map .d):=by
 unfold IA at h;split at h
 ·split at h
  ·rename_i e _;injection h with h;subst h;refine⟨_,rfl,?_⟩;rw[tT];exact DLe.refl _
  ·cases h
 ·cases h
theorem Ul{u:U}{ps:List TC}{p:List u.den×List TC}(h:Yq u ps=some p):∃pre,C3 ps=pre++C3 p.2/\DLe pre [.d (.sl (p.1.map u.enc))]:=by
 unfold Yq at h;split at h
 ·split at h
  ·rename_i e _;subst e;injection h with h;subst h;exact⟨_,rfl,λs b r=>⟨rfl,trivial⟩⟩
  ·cases h
 ·injection h with h;subst h;exact⟨[.nil],rfl,λs b r=>⟨rfl,trivial⟩⟩
 ·cases h
theorem KE{α:Type}{f:α->List DV}{p:List TC->Option (α×List TC)}(hp:∀{ps q},p ps=some q->∃pre,C3 ps=pre++C3 q.2/\DLe pre ((f q.1).map .d)):∀(n:Nat){ps:List TC}{q:Vector α n×List TC},Yr p n ps=some q->∃pre,C3 ps=pre++C3 q.2/\DLe pre ((q.1.toList.flatMap f).map .d)
 |0,ps,q,h=>by
  injection h with h;subst h;exact⟨[],rfl,λ_ _ _=>trivial⟩
 |n+1,ps,q,h=>by
  obtain⟨a,h1,h2⟩:=Option.bind_eq_some_iff.1 h;obtain⟨b,h3,rfl⟩:=Option.map_eq_some_iff.1 h2;obtain⟨pre1,e1,d1⟩:=KE hp n h1;obtain⟨pre2,e2,d2⟩:=hp h3;refine⟨pre1++pre2,by rw[e1,e2,a50],?_⟩;simp only[a8g,a7y,a6q,List.flatMap_nil,a5Z,a53];exact d1.app d2
theorem zh:∀{u:U}{ps:List TC}{p:u.den×List TC},Ar u ps=some p->∃pre,C3 ps=pre++C3 p.2/\DLe pre ((u.enc p.1).map .d)
 |.sl u,ps,p,h=>Ul h
 |.arr n u,ps,p,h=>by
  unfold Ar at h;split at h
  ·rename_i q hq;injection h with h;subst h;rw[<-Aq (f:=FU) (z:=(U.arr n u).size)];exact wz hq
  ·exact KE zh n h
 |.int k,ps,p,h=>by rw[<-Aq (f:=FU) (z:=1)];exact wz h
 |.byte,ps,p,h=>by rw[<-Aq (f:=FU) (z:=1)];exact wz h
 |.bool,ps,p,h=>by rw[<-Aq (f:=FU) (z:=1)];exact wz h
 |.str,ps,p,h=>by rw[<-Aq (f:=FU) (z:=1)];exact wz h
 |.pr a b,ps,p,h=>by
  have two:((Ar a ps).bind λp=>(Ar b p.2).map λq=>(((p.1,q.1),q.2):(a.den×b.den)×List TC))=some p->∃pre,C3 ps=pre++C3 p.2/\DLe pre (((U.pr a b).enc p.1).map .d):=λh=>by
   obtain⟨q,h1,h2⟩:=Option.bind_eq_some_iff.1 h;obtain⟨q2,h3,rfl⟩:=Option.map_eq_some_iff.1 h2;obtain⟨pre1,e1,d1⟩:=zh h1;obtain⟨pre2,e2,d2⟩:=zh h3;refine⟨pre1++pre2,by rw[e1,e2,a50],?_⟩;show DLe _ ((a.enc q.1++b.enc q2.1).map .d);rw[a53];exact d1.app d2
  unfold Ar at h;split at h
  ·rename_i c hc;split at h
   ·rename_i e _;injection h with h;subst h;have:=congrArg C3 (xu hc);rw[Aq]at this;refine⟨_,this,?_⟩;rw[tT];exact DLe.refl _
   ·exact two h
  ·exact two h
structure Rd (α:Type) where
 x:α
 rr:List (Nat×Option Nat)
 br:List (Nat×Nat)
def fit:(ss:List Sh)->TSt->List TC->Option (Rd (vm ss))
 |[],_,ps=>match ps with
  |[]=>some ⟨(),[],[]⟩
  |_=>none
 |.d u::r,s,ps=>(Ar u ps).bind λp=>(fit r s p.2).map λq=>⟨(p.1,q.x),q.rr,q.br⟩
 |.fn f::r,s,ps=>match ps with
  |.fn g::rest=>match decEq g f with
   |.isTrue _=>fit r s rest
   |.isFalse _=>none
  |_=>none
 |.npt::r,s,ps=>match ps with
  |.npt::rest=>fit r s rest
  |_=>none
 |.clo f u::r,s,ps=>match ps with
  |.clo g v x::rest=>match decEq g f with
   |.isTrue _=>match decEq v u with
    |.isTrue h=>(fit r s rest).map λq=>⟨(qK h x,q.x),q.rr,q.br⟩
    |.isFalse _=>none
   |.isFalse _=>none
  |_=>none
 |.e u::r,s,ps=>match ps with
  |.ep v x off::rest=>match decEq v u with
   |.isTrue h=>match Nat.beq off 0 with
    |true=>(fit r s rest).map λq=>⟨(qK h x,q.x),q.rr,q.br⟩
    |false=>none
   |.isFalse _=>none
  |_=>none
 |.nil::r,s,ps=>match ps with
  |.nil::rest=>fit r s rest
  |_=>none
 |.row j::r,s,ps=>match ps with
  |.nil::rest=>(fit r s rest).map λq=>⟨q.x,(j,none)::q.rr,q.br⟩
  |.row id ver::rest=>match Nat.beq ver (s.r id).ver with
   |true=>(fit r s rest).map λq=>⟨q.x,(j,some id)::q.rr,q.br⟩
   |false=>none
  |_=>none
 |.ptr j off::r,s,ps=>match ps with
  |.ptr id ver off'::rest=>match Nat.beq ver (s.b id).ver&&Nat.beq off' off with
   |true=>(fit r s rest).map λq=>⟨q.x,q.rr,(j,id)::q.br⟩
   |false=>none
  |_=>none
def vn(b:List (Nat×Nat×List AC)) (r:List (Nat×Option Nat×Row)) (rr:List (Nat×Option Nat)) (br:List (Nat×Nat)):Prop:=
 (∀p∈rr,(jb r p.1).map (·.1)=some p.2)/\(∀p∈br,(jb b p.1).map (·.1)=some p.2)
theorem vn.rr_tail{b:List (Nat×Nat×List AC)}{r:List (Nat×Option Nat×Row)}{p:Nat×Option Nat}{rr:List (Nat×Option Nat)}{br:List (Nat×Nat)}(h:vn b r (p::rr) br):(jb r p.1).map (·.1)=some p.2/\vn b r rr br:=
 ⟨h.1 p (by simp),λq hq=>h.1 q (by simp[hq]),h.2⟩
theorem vn.br_tail{b:List (Nat×Nat×List AC)}{r:List (Nat×Option Nat×Row)}{p:Nat×Nat}{rr:List (Nat×Option Nat)}{br:List (Nat×Nat)}(h:vn b r rr (p::br)):(jb b p.1).map (·.1)=some p.2/\vn b r rr br:=
 ⟨h.2 p (by simp),h.1,λq hq=>h.2 q (by simp[hq])⟩
theorem sk{b:List (Nat×Nat×List AC)}{r:List (Nat×Option Nat×Row)}{s:TSt}:∀{ss:List Sh}{ps:List TC}{q:Rd (vm ss)},fit ss s ps=some q->vn b r q.rr q.br->yE s.st b r (C3 ps) (C3 (lh ss q.x))
 |[],[],q,h,_=>trivial
 |[],_::_,q,h,_=>by cases h
 |.d u::ss,ps,q,h,hr=>by
  obtain⟨p,h1,h2⟩:=Option.bind_eq_some_iff.1 h;obtain⟨q2,h3,rfl⟩:=Option.map_eq_some_iff.1 h2;obtain⟨pre,e,d⟩:=zh h1;rw[e];exact As (d _ _ _) (sk (q:=q2) h3 hr)
 |.fn f::ss,ps,q,h,hr=>by
  unfold fit at h;split at h
  ·split at h
   ·rename_i e _;subst e;exact⟨rfl,sk (ss:=ss) (q:=q) h hr⟩
   ·cases h
  ·cases h
 |.clo f u::ss,ps,q,h,hr=>by
  unfold fit at h;split at h
  ·split at h
   ·rename_i e1 _;subst e1;split at h
    ·rename_i e2 _;subst e2;obtain⟨q2,h2,rfl⟩:=Option.map_eq_some_iff.1 h;exact⟨rfl,sk (ss:=ss) (q:=q2) h2 hr⟩
    ·cases h
   ·cases h
  ·cases h
 |.e u::ss,ps,q,h,hr=>by
  unfold fit at h;split at h
  ·split at h
   ·rename_i e2 _;subst e2;split at h
    ·rename_i h0;obtain⟨q2,h2,rfl⟩:=Option.map_eq_some_iff.1 h;rw[a5O h0];exact⟨rfl,sk (ss:=ss) (q:=q2) h2 hr⟩
    ·cases h
   ·cases h
  ·cases h
 |.npt::ss,ps,q,h,hr=>by
  match ps,h with
  |.npt::rest,h=>exact⟨rfl,sk (ss:=ss) (q:=q) h hr⟩
 |.nil::ss,ps,q,h,hr=>by
  match ps,h with
  |.nil::rest,h=>exact⟨trivial,sk (ss:=ss) (q:=q) h hr⟩
 |.row j::ss,ps,q,h,hr=>by
  unfold fit at h;split at h
  ·obtain⟨q2,h2,rfl⟩:=Option.map_eq_some_iff.1 h;obtain⟨a1,a2⟩:=hr.rr_tail;exact⟨⟨rfl,a1⟩,sk (ss:=ss) (q:=q2) h2 a2⟩
  ·rename_i id ver rest;split at h
   ·rename_i hv;obtain⟨q2,h2,rfl⟩:=Option.map_eq_some_iff.1 h;obtain⟨a1,a2⟩:=hr.rr_tail;exact⟨⟨a5O hv,rfl,a1⟩,sk (ss:=ss) (q:=q2) h2 a2⟩
   ·cases h
  ·cases h
 |.ptr j off::ss,ps,q,h,hr=>by
  unfold fit at h;split at h
  ·rename_i id ver off' rest;split at h
   ·rename_i hv;rw[a5S]at hv;obtain⟨q2,h2,rfl⟩:=Option.map_eq_some_iff.1 h;obtain⟨a1,a2⟩:=hr.br_tail;exact⟨⟨a5O hv.1,rfl,a5O hv.2,a1⟩,sk (ss:=ss) (q:=q2) h2 a2⟩
   ·cases h
  ·cases h
structure Lay where
 n:Nat
 t:List (Nat×SSh)
 b:List (Nat×List Sh)
 r:List (Nat×U×TypeId×Bool)
def Um:List (Nat×SSh)->Type
 |[]=>Unit
 |p::r=>vm p.2.list×Um r
def WM:List (Nat×List Sh)->Type
 |[]=>Unit
 |p::r=>vm p.2×WM r
def WN:List (Nat×U×TypeId×Bool)->Type
 |[]=>Unit
 |p::r=>List p.2.1.den×WN r
def Lay.den(L:Lay):Type:=Um L.t×WM L.b×WN L.r
def a3w:(p:SSh)->vm p.list->TV
 |.one s,x=>match lh [s] x with
  |[c]=>.o (.c c)
  |_=>.any
 |.agg ss,x=>.o (.agg (lh ss x))
def Ys:(l:List (Nat×SSh))->Um l->List (Nat×TV)
 |[],_=>[]
 |p::r,x=>(p.1,a3w p.2 x.1)::Ys r x.2
def Un:(l:List (Nat×List Sh))->WM l->List (Nat×List TC)
 |[],_=>[]
 |p::r,x=>(p.1,lh p.2 x.1)::Un r x.2
def PS:(l:List (Nat×U×TypeId×Bool))->WN l->List (Nat×yF)
 |[],_=>[]
 |p::r,x=>(p.1,⟨p.2.1,x.1,p.2.2.1,p.2.2.2⟩)::PS r x.2
def Lay.st(L:Lay) (x:L.den):TSt:=⟨L.n,λk=>⟨decide (k<L.n),(jb (Ys L.t x.1) k).getD .any⟩,λk=>⟨0,jb (Un L.b x.2.1) k⟩,λk=>⟨0,jb (PS L.r x.2.2) k⟩⟩
def Yt:(p:SSh)->TSt->TV->Option (Rd (vm p.list))
 |.one s',s,v=>match v with
  |.o (.c c)=>match is1 c with
   |true=>fit [s'] s [c]
   |false=>none
  |_=>none
 |.agg ss,s,v=>match v with
  |.o (.agg ps)=>fit ss s ps
  |_=>none
theorem Uo{b:List (Nat×Nat×List AC)}{r:List (Nat×Option Nat×Row)}{s:TSt}{p:SSh}{v:TV}{q:Rd (vm p.list)}(h:Yt p s v=some q) (hr:vn b r q.rr q.br):a0g s.st b r v.av (a3w p q.x).av:=by
 cases p with
 |one s'=>
  unfold Yt at h;simp only at h;split at h
  ·rename_i c;split at h
   ·rename_i hc;have h1:=sk h hr;have e0:C3 [c]=[lf c.cells]:=(a5Z _).trans (yl hc);rw[e0]at h1;unfold a3w;simp only;split
    ·rename_i c' hc';rw[hc']at h1;show a0f s.st b r (lf c.cells) (lf c'.cells);have h1:yE s.st b r [lf c.cells] (c'.cells++[]):=h1;rw[a5Z]at h1
     match hl:c'.cells,h1 with
     |[y],h1=>exact h1.1
    ·cases hx:(TV.o (T1.c c)).av <;> trivial
   ·cases h
  ·cases h
 |agg ss=>
  match v,h with
  |.o (.agg ps),h=>exact sk (ss:=ss) (q:=q) h hr
def wA(s:TSt):(l:List (Nat×SSh))->Option (Rd (Um l))
 |[]=>some ⟨(),[],[]⟩
 |p::r=>match Nat.ble s.n p.1||(s.t p.1).g with
  |true=>(Yt p.2 s (s.t p.1).x).bind λq=>(wA s r).map λq2=>⟨(q.x,q2.x),q.rr++q2.rr,q.br++q2.br⟩
  |false=>none
def tA(l:List (Nat×SSh)) (x:Um l):List (Nat×AV):=(Ys l x).map λp=>(p.1,p.2.av)
theorem vn.split{b:List (Nat×Nat×List AC)}{r:List (Nat×Option Nat×Row)}{rr rr2:List (Nat×Option Nat)}{br br2:List (Nat×Nat)}(h:vn b r (rr++rr2) (br++br2)):vn b r rr br/\vn b r rr2 br2:=
 ⟨⟨λp hp=>h.1 p (by simp[hp]),λp hp=>h.2 p (by simp[hp])⟩,⟨λp hp=>h.1 p (by simp[hp]),λp hp=>h.2 p (by simp[hp])⟩⟩
theorem yp{b:List (Nat×Nat×List AC)}{r:List (Nat×Option Nat×Row)}{s:TSt}:∀{l:List (Nat×SSh)}{q:Rd (Um l)},wA s l=some q->vn b r q.rr q.br->sP s.st b r (tA l q.x)
 |[],_,_,_=>trivial
 |p::l,q,h,hr=>by
  unfold wA at h;split at h
  ·rename_i hg;obtain⟨q1,h1,h2⟩:=Option.bind_eq_some_iff.1 h;obtain⟨q2,h3,rfl⟩:=Option.map_eq_some_iff.1 h2;obtain⟨r1,r2⟩:=hr.split;refine⟨⟨λhlt=>?_,Uo h1 r1⟩,yp (q:=q2) h3 r2⟩;rw[a60]at hg;rcases hg with hg|hg
   ·have:=a58 hg;have:p.1<s.n:=hlt;omega
   ·exact hg
  ·cases h
structure RdB (α:Type) where
 x:α
 rr:List (Nat×Option Nat)
 br:List (Nat×Nat)
 L:List (Nat×Nat×List AC)
def wB(s:TSt):List (Nat×Nat)->(l:List (Nat×List Sh))->Option (RdB (WM l))
 |_,[]=>some ⟨(),[],[],[]⟩
 |br,p::r=>match jb br p.1 with
  |none=>none
  |some id=>match(s.b id).c with
   |none=>none
   |some ps=>(fit p.2 s ps).bind λq=>(wB s (br++q.br) r).map λq2=>⟨(q.x,q2.x),q.rr++q2.rr,q.br++q2.br,(p.1,id,C3 (lh p.2 q.x))::q2.L⟩
theorem yq{b:List (Nat×Nat×List AC)}{r:List (Nat×Option Nat×Row)}{s:TSt}:∀{l:List (Nat×List Sh)}{br:List (Nat×Nat)}{q:RdB (WM l)},wB s br l=some q->vn b r q.rr q.br->vd s.st b r q.L/\∀k,(jb q.L k).map (·.2)=(jb (Un l q.x) k).map C3
 |[],_,q,h,_=>by injection h with h;subst h;exact⟨trivial,λ_=>rfl⟩
 |p::l,br,q,h,hr=>by
  unfold wB at h;split at h
  ·cases h
  ·rename_i id hid;split at h
   ·cases h
   ·rename_i ps hps;obtain⟨q1,h1,h2⟩:=Option.bind_eq_some_iff.1 h;obtain⟨q2,h3,rfl⟩:=Option.map_eq_some_iff.1 h2;obtain⟨r1,r2⟩:=hr.split;obtain⟨k1,k2⟩:=yq (q:=q2) h3 r2;refine⟨⟨?_,k1⟩,λk=>?_⟩
    ·have hc:(s.st.b id).c=some (C3 ps):=by show(s.b id).c.map C3=_;rw[hps];rfl
     unfold XL;rw[hc];exact sk h1 r1
    ·show(jb ((p.1,id,C3 (lh p.2 q1.x))::q2.L) k).map (·.2)=(jb ((p.1,lh p.2 q1.x)::Un l q2.x) k).map C3;simp only[jb];split
     ·rfl
     ·exact k2 k
structure RdR (α:Type) where
 x:α
 L:List (Nat×Option Nat×Row)
def wC(s:TSt) (rr:List (Nat×Option Nat)):(l:List (Nat×U×TypeId×Bool))->Option (RdR (WN l))
 |[]=>some ⟨(),[]⟩
 |p::r=>match jb rr p.1 with
  |none=>none
  |some none=>match Nat.blt 0 p.2.1.size&&Nat.blt p.2.2.1 jn with
   |true=>(wC s rr r).map λq2=>⟨(([]:List p.2.1.den),q2.x),(p.1,none,(⟨p.2.1,[],p.2.2.1,p.2.2.2⟩:yF).row)::q2.L⟩
   |false=>none
  |some (some id)=>match(s.r id).c with
   |none=>none
   |some R=>match decEq R.u p.2.1 with
    |.isTrue h=>match Nat.beq R.e p.2.2.1&&(!R.fr||p.2.2.2) with
     |true=>(wC s rr r).map λq2=>⟨((h▸R.l:List p.2.1.den),q2.x),(p.1,some id,(⟨p.2.1,(h▸R.l:List p.2.1.den),p.2.2.1,p.2.2.2⟩:yF).row)::q2.L⟩
     |false=>none
    |.isFalse _=>none
theorem row_cast{R:yF}{u:U}(h:R.u=u) (e:TypeId) (fr:Bool):(⟨u,(h▸R.l:List u.den),e,fr⟩:yF).row.es=R.row.es/\(⟨u,(h▸R.l:List u.den),e,fr⟩:yF).row.sz=R.row.sz:=by
 subst h;exact⟨rfl,rfl⟩
theorem vo{s:TSt}{rr:List (Nat×Option Nat)}:∀{l:List (Nat×U×TypeId×Bool)}{q:RdR (WN l)},wC s rr l=some q->rowsLe s.st q.L/\∀k,(jb q.L k).map (·.2)=(jb (PS l q.x) k).map yF.row
 |[],q,h=>by injection h with h;subst h;exact⟨trivial,λ_=>rfl⟩
 |p::l,q,h=>by
  unfold wC at h;split at h
  ·cases h
  ·split at h
   ·rename_i hz;obtain⟨q2,h3,rfl⟩:=Option.map_eq_some_iff.1 h;obtain⟨k1,k2⟩:=vo (q:=q2) h3;rw[a5S]at hz;refine⟨⟨⟨rfl,a58 hz.1,a58 hz.2⟩,k1⟩,λk=>?_⟩;show(jb ((p.1,none,(⟨p.2.1,[],p.2.2.1,p.2.2.2⟩:yF).row)::q2.L) k).map (·.2)=(jb ((p.1,(⟨p.2.1,[],p.2.2.1,p.2.2.2⟩:yF))::PS l q2.x) k).map yF.row;simp only[jb];split
    ·rfl
    ·exact k2 k
   ·cases h
  ·rename_i id hid;split at h
   ·cases h
   ·rename_i R hR;split at h
    ·rename_i hu _;split at h
     ·rename_i hc;rw[a5S]at hc;obtain⟨q2,h3,rfl⟩:=Option.map_eq_some_iff.1 h;obtain⟨k1,k2⟩:=vo (q:=q2) h3;obtain⟨c1,c2⟩:=row_cast hu p.2.2.1 p.2.2.2;refine⟨⟨?_,k1⟩,λk=>?_⟩
      ·have hcr:(s.st.r id).c=some R.row:=by show(s.r id).c.map yF.row=_;rw[hR];rfl
       unfold rowSrc;simp only;rw[hcr];refine⟨c1.symm,c2.symm,a5O hc.1,λhf=>?_⟩;have hf:R.fr=true:=hf;have h2:=hc.2;rw[hf]at h2;exact h2
      ·show(jb ((p.1,some id,(⟨p.2.1,(hu▸R.l:List p.2.1.den),p.2.2.1,p.2.2.2⟩:yF).row)::q2.L) k).map (·.2)=(jb ((p.1,(⟨p.2.1,(hu▸R.l:List p.2.1.den),p.2.2.1,p.2.2.2⟩:yF))::PS l q2.x) k).map yF.row;simp only[jb];split
       ·rfl
       ·exact k2 k
     ·cases h
    ·cases h
def Up(x:Nat):List Nat->Bool
 |[]=>false
 |y::r=>Nat.beq x y||Up x r
def FI:List Nat->Bool
 |[]=>true
 |x::r=> !Up x r&&FI r
theorem KF{x:Nat}:∀{l:List Nat},Up x l=false->x∉l
 |[],_,h=>by simp at h
 |y::r,h,hm=>by
  simp only[Up,a76]at h;rcases List.mem_cons.1 hm with e|hm
  ·subst e;have:=h.1;simp at this
  ·exact KF h.2 hm
theorem Au:∀{l:List Nat},FI l=true->l.Nodup
 |[],_=>a6T
 |x::r,h=>by
  simp only[FI,a5S,a5R]at h;exact List.nodup_cons.2 ⟨KF h.1,Au h.2⟩
def IB(rL:List (Nat×Option Nat×Row)) (p:Nat×Option Nat):Bool:=match jb rL p.1,p.2 with
 |some q,some id=>match q.1 with
  |some id'=>Nat.beq id' id
  |none=>false
 |some q,none=>match q.1 with
  |some _=>false
  |none=>true
 |none,_=>false
def IC(bL:List (Nat×Nat×List AC)) (p:Nat×Nat):Bool:=match jb bL p.1 with
 |some q=>Nat.beq q.1 p.2
 |none=>false
theorem ML{rL:List (Nat×Option Nat×Row)}{p:Nat×Option Nat}(h:IB rL p=true):(jb rL p.1).map (·.1)=some p.2:=by
 unfold IB at h;split at h
 ·rename_i q id hq hp;split at h
  ·rename_i id' hi;rw[hq,hp,a6e,hi,a5O h]
  ·cases h
 ·rename_i q hq hp;split at h
  ·cases h
  ·rename_i hi;rw[hq,hp,a6e,hi]
 ·cases h
theorem MM{bL:List (Nat×Nat×List AC)}{p:Nat×Nat}(h:IC bL p=true):(jb bL p.1).map (·.1)=some p.2:=by
 unfold IC at h;split at h
 ·rename_i q hq;rw[hq,a6e,a5O h]
 ·cases h
def Lay.read0(L:Lay) (s:TSt):Option L.den:=match Nat.beq s.n L.n with
 |true=>(wA s L.t).bind λa=>(wB s a.br L.b).bind λc=>(wC s (a.rr++c.rr) L.r).bind λd=>
  match(a.rr++c.rr).all (IB d.L)&&(a.br++c.br).all (IC c.L)&&FI (c.L.map (·.2.1))&&FI (d.L.filterMap (·.2.1)) with
  |true=>some (a.x,c.x,d.x)
  |false=>none
 |false=>none
theorem PT(l:List (Nat×TV)) (k:Nat):((jb l k).getD .any).av=(jb (l.map λp=>(p.1,p.2.av)) k).getD .any:=by
 rw[<-JZ TV.av];cases jb l k <;> rfl
theorem Lay.read0_le{L:Lay}{s:TSt}{x:L.den}(h:L.read0 s=some x):Le s.st (L.st x).st:=by
 unfold Lay.read0 at h;split at h
 ·rename_i hn;obtain⟨a,h1,h2⟩:=Option.bind_eq_some_iff.1 h;obtain⟨c,h3,h4⟩:=Option.bind_eq_some_iff.1 h2;obtain⟨d,h5,h6⟩:=Option.bind_eq_some_iff.1 h4;clear h h2 h4;split at h6
  ·rename_i hc;injection h6 with h6;subst h6;simp only[a5S,a7a]at hc;obtain⟨⟨⟨c1,c2⟩,c3⟩,c4⟩:=hc;have hr:vn c.L d.L (a.rr++c.rr) (a.br++c.br):=⟨λp hp=>ML (c1 p hp),λp hp=>MM (c2 p hp)⟩;obtain⟨r1,r2⟩:=hr.split;obtain⟨b1,b2⟩:=yq h3 r2;obtain⟨w1,w2⟩:=vo h5;have e:(L.st (a.x,c.x,d.x)).st=rt L.n (tA L.t a.x) c.L d.L:=by
    unfold rt TSt.st Lay.st;congr 1
    ·funext k;exact congrArg (GV.mk _) (PT _ k)
    ·funext k;exact congrArg (BS.mk 0) (b2 k).symm
    ·funext k;exact congrArg (RS.mk 0) (w2 k).symm
   rw[e];exact a3d (a5O hn) (yp h1 r1) b1 w1 (Au c3) (Au c4)
  ·cases h6
 ·cases h
def a20(p:Nat×SSh) (s:TSt):TSt:=match p.2 with
 |.one (.d (.sl _))=>match(s.t p.1).g,(s.t p.1).x with
  |true,.o (.c (.row id ver))=>match(s.r id).c with
   |some R=>match Nat.beq ver (s.r id).ver&&Nat.blt p.1 s.n&&Nat.blt R.e jn with
    |true=>(s.app [.r id ⟨(s.r id).ver,some ⟨R.u,R.l,R.e,true⟩⟩]).app [.t p.1 ⟨true,.o (.c (.ch (.sl R.u) R.l))⟩]
    |false=>s
   |none=>s
  |_,_=>s
 |_=>s
def a3x:List (Nat×SSh)->TSt->TSt
 |[],s=>s
 |p::r,s=>a3x r (a20 p s)
theorem Yu(p:Nat×SSh) (s:TSt):Le s.st (a20 p s).st:=by
 unfold a20;split
 ·split
  ·rename_i id ver hg hx;split
   ·rename_i R hR;split
    ·rename_i hc;simp only[a5S]at hc;obtain⟨⟨c1,c2⟩,c3⟩:=hc;have c1:=a5O c1;rw[TSt.st_app,TSt.st_app];refine a0h (R:=R.row) (a58 c2) (by exact hg) ?_ ?_ (a58 c3)
     ·exact(congrArg TV.av hx).trans (by rw[c1];rfl)
     ·show(s.r id).c.map yF.row=_;rw[hR];rfl
    ·exact Le.refl _
   ·exact Le.refl _
  ·exact Le.refl _
 ·exact Le.refl _
theorem PU:∀(l:List (Nat×SSh)) (s:TSt),Le s.st (a3x l s).st
 |[],_s=>Le.refl _
 |p::l,s=>(Yu p s).trans (PU l (a20 p s))
def Lay.read(L:Lay) (s:TSt):Option L.den:=L.read0 (a3x L.t s)
theorem Lay.read_le{L:Lay}{s:TSt}{x:L.den}(h:L.read s=some x):Le s.st (L.st x).st:=(PU L.t s).trans (Lay.read0_le h)
def gT.part:gT->aQ
 |.t k _=>.t k
 |.b k _=>.b k
 |.r k _=>.r k
theorem KG(us:List gT):(us.map gT.upd).map Upd.part=us.map gT.part:=by
 rw[a7v];exact a7d λu _=>by cases u <;> rfl
def sel{α:Type}(b:Bool) (x y:α):α:=match b with
 |true=>x
 |false=>y
def Av(d:Option Nat):List gT:=match d with
 |some d=>[.t d ⟨false,.any⟩]
 |none=>[]
theorem Uq(d:Option Nat):US (Av d)=Db d:=by cases d <;> rfl
section
variable (T:TypeId->Option TI) (TU:TypeId->Option U) (tcq:Oper->Call->TQ (List gT))
def oh{R:Type}(draw:Bool) (l:List Oper):List Oper->TSt->List (List aQ×List aQ)->(TSt->Option R)->Option R
 |[],s,tr,κ=>match draw with
  |true=>chk (zP l tr) (κ s)
  |false=>κ s
 |o::rest,s,tr,κ=>match o.guard with
  |none=>(ZG T TU tcq o).run s [] λus rs=>oh draw l rest (s.app us) (tr++[(rs,us.map gT.part)]) κ
  |some (j,want)=>match(l[j]?).bind (·.dst) with
   |none=>none
   |some d=>match(s.t d).g,(s.t d).x with
    |false,_=>oh draw l rest (s.app (Av o.dst)) (tr++[([.t d],(Av o.dst).map gT.part)]) κ
    |true,.o (.c (.ch .bool b))=>sel b
     (match want with
      |true=>(ZG T TU tcq o).run (s.app1 (.t d ⟨true,c1 .bool true⟩)) [.t d] λus rs=>oh draw l rest ((s.app1 (.t d ⟨true,c1 .bool true⟩)).app us) (tr++[(rs,us.map gT.part)]) κ
      |false=>oh draw l rest ((s.app1 (.t d ⟨true,c1 .bool true⟩)).app (Av o.dst)) (tr++[([.t d],(Av o.dst).map gT.part)]) κ)
     (match want with
      |false=>(ZG T TU tcq o).run (s.app1 (.t d ⟨true,c1 .bool false⟩)) [.t d] λus rs=>oh draw l rest ((s.app1 (.t d ⟨true,c1 .bool false⟩)).app us) (tr++[(rs,us.map gT.part)]) κ
      |true=>oh draw l rest ((s.app1 (.t d ⟨true,c1 .bool false⟩)).app (Av o.dst)) (tr++[([.t d],(Av o.dst).map gT.part)]) κ)
    |_,_=>none
end
theorem KH{α:Type}{b:Bool}{x y:Option α}{r:α}(h:sel b x y=some r):(b=true/\x=some r)\/(b=false/\y=some r):=by
 cases b
 ·exact .inr ⟨rfl,h⟩
 ·exact .inl ⟨rfl,h⟩
theorem FJ{s:TSt}{d:Nat}{x:TGV}(h:s.t d=x):s.app1 (.t d x)=s:=by
 show(⟨s.n,Am.upd s.t d x,s.b,s.r⟩:TSt)=s;have:Am.upd s.t d x=s.t:=by
  funext j;unfold Am.upd;split
  ·rename_i e;rw[e,h]
  ·rfl
 rw[this]
section
variable {P:Program}{T:TypeId->Option TI}{TU:TypeId->Option U}{cq:Oper->Call->Q (List Upd)}{tcq:Oper->Call->TQ (List gT)}
theorem xz{R:Type}(hc:∀o c,o.op= .call c->Sim US (tcq o c) (cq o c)){draw:Bool}{l:List Oper}{κ:TSt->Option R}{r:R}:∀{rest:List Oper}{s:TSt}{tr:List (List aQ×List aQ)},oh T TU tcq draw l rest s tr κ=some r->
  wpD T cq l rest s.st tr λs' tr'=>(draw=true->zP l tr'=true)/\∃ts,s'=ts.st/\κ ts=some r
 |[],s,tr,h=>by
  unfold oh at h;cases draw with
  |true=>exact⟨λ_=>(jL h).1,s,rfl,(jL h).2⟩
  |false=>exact⟨λe=>(by cases e),s,rfl,h⟩
 |o::rest,s,tr,h=>by
  have run:∀{s:TSt} {t0:List aQ},((ZG T TU tcq o).run s t0 λus rs=>oh T TU tcq draw l rest (s.app us) (tr++[(rs,us.map gT.part)]) κ)=some r->
    (opQ T cq o).wpt s.st t0 λus rs=>wpD T cq l rest (s.st.app us) (tr++[(rs,us.map Upd.part)]) λs' tr'=>(draw=true->zP l tr'=true)/\∃ts,s'=ts.st/\κ ts=some r:=fun {s t0} h=>by
   have h1:=Ub (T:=T) (TU:=TU) hc o s t0 _ (TQ.run_wpt h);refine Q.wpt_mono h1 ?_;rintro us rs ⟨tus,rfl,h2⟩;have h3:=xz hc h2;rw[TSt.st_app]at h3;have e:tus.map gT.part=(US tus).map Upd.part:=(KG tus).symm;rw[e]at h3;exact h3
  have skip:∀{s:TSt} {t0:List aQ},oh T TU tcq draw l rest (s.app (Av o.dst)) (tr++[(t0,(Av o.dst).map gT.part)]) κ=some r->
    wpD T cq l rest (s.st.app (Db o.dst)) (tr++[(t0,(Db o.dst).map Upd.part)]) λs' tr'=>(draw=true->zP l tr'=true)/\∃ts,s'=ts.st/\κ ts=some r:=fun {s t0} h=>by
   have h3:=xz hc h;rw[TSt.st_app]at h3;have e1:(Av o.dst).map gT.upd=Db o.dst:=Uq o.dst;have e:(Av o.dst).map gT.part=(Db o.dst).map Upd.part:=by rw[<-KG,e1]
   rw[e,e1]at h3;exact h3
  show(opD T cq l o).wpt s.st [] λus rs=>wpD T cq l rest (s.st.app us) (tr++[(rs,us.map Upd.part)]) λs' tr'=>(draw=true->zP l tr'=true)/\∃ts,s'=ts.st/\κ ts=some r;unfold oh at h;unfold opD;split at h
  ·rename_i hg;rw[hg];exact run h
  ·rename_i j want hg;rw[hg];simp only;split at h
   ·cases h
   ·rename_i d hd;rw[hd];simp only[Q.wpt];have hst:s.st.t d=(s.t d).gv:=rfl;rw[hst];split at h
    ·rename_i hgf;have e:(s.t d).gv.g=false:=hgf;rw[e];exact skip h
    ·rename_i b hgt hxb;have e:(s.t d).gv.g=true:=hgt;have ex:(s.t d).gv.x= .c (.d (.v (.bool b))):=congrArg TV.av hxb;rw[e];simp only;rw[ex];have hsd:s.t d=⟨true,c1 .bool b⟩:=by
      have:s.t d=⟨(s.t d).g,(s.t d).x⟩:=rfl;rw[this,hgt,hxb];rfl
     rcases KH h with⟨hb,h⟩|⟨hb,h⟩
     ·subst hb;rw[FJ hsd]at h;cases want with
      |true=>exact run h
      |false=>exact skip h
     ·subst hb;rw[FJ hsd]at h;cases want with
      |true=>exact skip h
      |false=>exact run h
    ·cases h
theorem Cs{l:List Oper}{K:St->Prop}:∀{rest:List Oper}{s:St}{tr:List (List aQ×List aQ)},(wpD T cq l rest s tr λs' _=>K s')->wpR T cq l rest s K
 |[],_,_,h=>h
 |o::rest,s,tr,h=>by
  have h:(opD T cq l o).wpt s [] λus rs=>wpD T cq l rest (s.app us) (tr++[(rs,us.map Upd.part)]) λs' _=>K s':=h;show(opD T cq l o).wp s λus=>wpR T cq l rest (s.app us) K;exact Q.wp_of_wpt (Q.wpt_mono h λus rs h1=>Cs h1)
theorem DP{l:List Oper}{K K':St->List (List aQ×List aQ)->Prop}(hk:∀s tr,K s tr->K' s tr):∀{rest:List Oper}{s:St}{tr:List (List aQ×List aQ)},wpD T cq l rest s tr K->wpD T cq l rest s tr K'
 |[],_,_,h=>hk _ _ h
 |o::rest,s,tr,h=>by
  have h:(opD T cq l o).wpt s [] λus rs=>wpD T cq l rest (s.app us) (tr++[(rs,us.map Upd.part)]) K:=h;show(opD T cq l o).wpt s [] λus rs=>wpD T cq l rest (s.app us) (tr++[(rs,us.map Upd.part)]) K';exact Q.wpt_mono h λus rs h1=>DP hk h1
end
def Hn{S R:Type}:Nat->(S->Option (S⊕R))->S->Option R
 |0,_,_=>none
 |n+1,G,x=>match G x with
  |none=>none
  |some (.inl y)=>Hn n G y
  |some (.inr r)=>some r
theorem PV:(True/\True)=True:=propext ⟨λ_=>trivial,λ_=>⟨trivial,trivial⟩⟩
def PW:Nat:= @Eq.rec Prop (True/\True) (λ_ _=>Nat) 1180591620717411303424 True PV
theorem PX{p q:Prop}(h:p=q) (n:Nat): @Eq.rec Prop p (λ_ _=>Nat) n q h=n:=by cases h;rfl
theorem DQ:PW=1180591620717411303424:=PX PV _
class Fu where
 n:Nat
instance fu0:Fu:=⟨PW⟩
def F8[Fu] {S R:Type}(G:S->Option (S⊕R)) (x:S):Option R:=Hn Fu.n G x
def Ur{α β:Type}(o:Option α) (f:α->Option β):Option β:=
 let _h:= @F8 fu0 Unit Unit
 match o with
 |none=>none
 |some x=>f x
theorem KI{α β:Type}(o:Option α) (f:α->Option β):Ur o f=o.bind f:=by cases o <;> rfl
structure Vw (L:Lay) (S:Type) where
 to:L.den->S
 of:S->L.den
 ok:∀x,of (to x)=x
inductive An:Type->Type 1 where
 |leaf {R:Type}:An R
 |two {R:Type} (a b:An R):An R
 |one {R:Type} (a:An R):An R
 |cut {R S:Type} (L:Lay) (V:Vw L S) (F:S->Option R) (a b:An R):An R
 |loop {R S:Type} (L:Lay) (V:Vw L S) (G:S->Option (S⊕R)) (a:An (S⊕R)):An R
section
variable (T:TypeId->Option TI) (TU:TypeId->Option U) (tcq:Oper->Call->TQ (List gT))
def An.fst{R:Type}:An R->An R
 |.two a _=>a
 |.cut _ _ _ a _=>a
 |.one a=>a
 |_=>.leaf
def An.snd{R:Type}:An R->An R
 |.two _ b=>b
 |.cut _ _ _ _ b=>b
 |_=>.leaf
def PY{R:Type}(id:Nat) (κ:AX->TSt->Option R) (ax:AX) (s:TSt):Option R:=match ax with
 |.normal=>κ .normal s
 |.exit i=>match Nat.beq i id with
  |true=>κ .normal s
  |false=>κ (.exit i) s
 |.ret=>κ .ret s
def a3y{R S:Type}(L:Lay) (V:Vw L S) (F:S->Option R) (κ:AX->TSt->Option R) (ax:AX) (s:TSt):Option R:=match ax with
 |.normal=>Ur (L.read s) λx=>F (V.to x)
 |.exit i=>κ (.exit i) s
 |.ret=>κ .ret s
def Us{R:Type}(F:TSt->Option R) (κ:AX->TSt->Option R) (ax:AX) (s:TSt):Option R:=match ax with
 |.normal=>F s
 |.exit i=>κ (.exit i) s
 |.ret=>κ .ret s
def WO{R S:Type}(L:Lay) (V:Vw L S) (κ:AX->TSt->Option R) (ax:AX) (s:TSt):Option (S⊕R):=match ax with
 |.normal=>(L.read s).map λx=>.inl (V.to x)
 |.exit i=>(κ (.exit i) s).map .inr
 |.ret=>(κ .ret s).map .inr
def An.next{R:Type}(a:An R) (F:TSt->Option R) (κ:AX->TSt->Option R):AX->TSt->Option R:=match a with
 |.cut L V G _ _=>a3y L V G κ
 |_=>Us F κ
def FK{R:Type}:An R->Code->TSt->(AX->TSt->Option R)->Option R
 |_,.skip,s,κ=>κ .normal s
 |a,.seq x y,s,κ=>FK a.fst x s (a.next (λs'=>FK a.snd y s' κ) κ)
 |_,.region _ ops draw,s,κ=>chk (ops.toList.all (Fg s.n)) (oh T TU tcq draw ops.toList ops.toList s [] λs'=>κ .normal s')
 |a,.cond c x y,s,κ=>((tev c).bind Ty).run s [] λb _=>sel b (FK a.fst x s κ) (FK a.snd y s κ)
 |a,.block id c,s,κ=>FK a.fst c s (PY id κ)
 |a,.loop _,s,_=>match a with
  |.loop L V G _=>Ur (L.read s) λx=>F8 G (V.to x)
  |_=>none
 |_,.exit i,s,κ=>κ (.exit i) s
 |_,.ret,s,κ=>κ .ret s
 |_,_,_,_=>none
def An.ok:{R:Type}->An R->Code->(AX->TSt->Option R)->Prop
 |_,.leaf,_,_=>True
 |_,.two a b,.seq x y,κ=>a.ok x (Us (λs'=>FK T TU tcq b y s' κ) κ)/\b.ok y κ
 |_,.cut L V F a b,.seq x y,κ=>a.ok x (a3y L V F κ)/\b.ok y κ/\∀v,F v=FK T TU tcq b y (L.st (V.of v)) κ
 |_,.two a b,.cond _ x y,κ=>a.ok x κ/\b.ok y κ
 |_,.one a,.block id c,κ=>a.ok c (PY id κ)
 |_,.loop L V G a,.loop c,κ=>a.ok c (WO L V κ)/\∀v,G v=FK T TU tcq a c (L.st (V.of v)) (WO L V κ)
 |_,_,_,_=>False
end
section
variable {P:Program}{T:TypeId->Option TI}{TU:TypeId->Option U}{cq:Oper->Call->Q (List Upd)}{tcq:Oper->Call->TQ (List gT)}
theorem ID(hT:∀t i,T t=some i->TOk P t i) (hcq:∀o c,o.op= .call c->NW P o (cq o c)) (hc:∀o c,o.op= .call c->Sim US (tcq o c) (cq o c)) (hm:P.follows .mixedOrders=true) :
  ∀(c:Code) {R:Type} {a:An R} {s:TSt} {κ:AX->TSt->Option R} {K:AX->St->Prop} {r:R},a.ok T TU tcq c κ->FK T TU tcq a c s κ=some r->(∀ax s',κ ax s'=some r->K ax s'.st)->Tri P c K s.st:=by
 intro c
 induction c with
 |skip=>intro R a s κ K r _ h hk;exact Te (hk _ _ h)
 |seq x y ihx ihy=>
  intro R a s κ K r ho h hk;refine Dj ?_;cases a with
  |leaf=>
   refine ihx (a:=.leaf) (κ:=Us (λs'=>FK T TU tcq .leaf y s' κ) κ) trivial h λax s' h'=>?_;cases ax with
   |normal=>exact ihy (a:=.leaf) (κ:=κ) trivial h' hk
   |exit i=>exact hk _ _ h'
   |ret=>exact hk _ _ h'
  |two a b=>
   refine ihx ho.1 h λax s' h'=>?_;cases ax with
   |normal=>exact ihy ho.2 h' hk
   |exit i=>exact hk _ _ h'
   |ret=>exact hk _ _ h'
  |cut L V F a b=>
   refine ihx ho.1 h λax s' h'=>?_;cases ax with
   |normal=>
    rw[a3y,KI]at h';obtain⟨v,h1,h2⟩:=Option.bind_eq_some_iff.1 h';rw[ho.2.2 (V.to v),V.ok]at h2;exact a0e (Lay.read_le h1) (ihy ho.2.1 h2 hk)
   |exit i=>exact hk _ _ h'
   |ret=>exact hk _ _ h'
  |one a=>exact ho.elim
  |loop L V G a=>exact ho.elim
 |region id ops draw=>
  intro R a s κ K r _ h hk;obtain⟨hd,h⟩:=jL h;have h1:=xz (T:=T) (TU:=TU) hc h;have e:ops=ops.toList.toArray:=(Array.toArray_toList ..).symm;rw[e];cases draw with
  |true=>exact Mi hT hcq hm hd (DP (λs' tr h2=>by obtain⟨h3,ts,rfl,h4⟩:=h2;exact⟨h3 rfl,hk _ _ h4⟩) h1)
  |false=>exact BZ hT hcq hd (Cs (tr:=[]) (DP (λs' tr h2=>by obtain⟨_,ts,rfl,h4⟩:=h2;exact hk _ _ h4) h1))
 |cond cc x y ihx ihy=>
  intro R a s κ K r ho h hk;have h0:a.fst.ok T TU tcq x κ/\a.snd.ok T TU tcq y κ:=by
   cases a with
   |leaf=>exact⟨trivial,trivial⟩
   |two a b=>exact ho
   |cut L V F a b=>exact ho.elim
   |one a=>exact ho.elim
   |loop L V G a=>exact ho.elim
  have h1:=(Sim.bind (K4 cc) λv=>Fw v) s [] _ (TQ.run_wpt h);refine Tg (Q.wp_of_wpt (Q.wpt_mono h1 ?_));rintro b rs ⟨b',rfl,h2⟩;rcases KH h2 with⟨rfl,h3⟩|⟨rfl,h3⟩
  ·exact⟨λ_=>ihx h0.1 h3 hk,λe=>(by cases e)⟩
  ·exact⟨λe=>(by cases e),λ_=>ihy h0.2 h3 hk⟩
 |block id c ih=>
  intro R a s κ K r ho h hk;have h0:a.fst.ok T TU tcq c (PY id κ):=by
   cases a with
   |leaf=>exact trivial
   |two a b=>exact ho.elim
   |cut L V F a b=>exact ho.elim
   |one a=>exact ho
   |loop L V G a=>exact ho.elim
  refine OH (ih h0 h λax s' h'=>?_);cases ax with
  |normal=>exact hk _ _ h'
  |exit i=>
   show if i=id then K .normal s'.st else K (.exit i) s'.st
   have h':(match Nat.beq i id with | true=>κ .normal s' | false=>κ (.exit i) s')=some r:=h'
   split at h'
   ·rename_i hb;rw[a5W (a5O hb)];exact hk _ _ h'
   ·rename_i hb;rw[a5U (λe=>by subst e;rw[a8G]at hb;cases hb)];exact hk _ _ h'
  |ret=>exact hk _ _ h'
 |loop c ih=>
  intro R a s κ K r ho h hk;cases a with
  |loop L V G a=>
   obtain⟨ho1,ho2⟩:=ho;have h:Ur (L.read s) (λx=>F8 G (V.to x))=some r:=h;rw[KI]at h;obtain⟨v,h1,h2⟩:=Option.bind_eq_some_iff.1 h;refine Th (λn st=>∃x,st=(L.st (V.of x)).st/\Hn n G x=some r) (n0:=PW) (s0:=(L.st (V.of (V.to v))).st) (by rw[V.ok];exact Lay.read_le h1) ⟨V.to v,rfl,h2⟩ ?_;rintro n st ⟨x,rfl,hx⟩;cases n with
   |zero=>cases hx
   |succ n=>
    unfold Hn at hx;split at hx
    ·cases hx
    ·rename_i y hy;rw[ho2 x]at hy;refine ih ho1 hy λax s' h'=>?_;cases ax with
     |normal=>
      obtain⟨z,h3,h4⟩:=Option.map_eq_some_iff.1 h';injection h4 with h4;subst h4;exact⟨n,_,a7i n,by rw[V.ok];exact Lay.read_le h3,V.to z,rfl,hx⟩
     |exit i=>obtain⟨z,_,h4⟩:=Option.map_eq_some_iff.1 h';cases h4
     |ret=>obtain⟨z,_,h4⟩:=Option.map_eq_some_iff.1 h';cases h4
    ·rename_i r' hy;injection hx with hx;subst hx;rw[ho2 x]at hy;refine ih ho1 hy λax s' h'=>?_;cases ax with
     |normal=>obtain⟨z,_,h4⟩:=Option.map_eq_some_iff.1 h';cases h4
     |exit i=>
      obtain⟨z,h3,h4⟩:=Option.map_eq_some_iff.1 h';injection h4 with h4;subst h4;exact hk _ _ h3
     |ret=>
      obtain⟨z,h3,h4⟩:=Option.map_eq_some_iff.1 h';injection h4 with h4;subst h4;exact hk _ _ h3
  |leaf=>cases h
  |two a b=>exact ho.elim
  |cut L V F a b=>exact ho.elim
  |one a=>exact ho.elim
 |exit i=>intro R a s κ K r _ h hk;exact Tf (hk _ _ h)
 |ret=>intro R a s κ K r _ h hk;exact XK (hk _ _ h)
 |_=>intro R a s κ K r _ h hk;cases h
end
def FL:PTs->ATs->ATs
 |.nil,r=>r
 |.cons t ts,r=>.cons (.bx t) (FL ts r)
 |.rcons u e ts,r=>.cons (.rx u e) (FL ts r)
def spl:(p:PTs)->(r:ATs)->(FL p r).den->p.den×r.den
 |.nil,_,x=>((),x)
 |.cons _ ts,r,x=>((x.1,(spl ts r x.2).1),(spl ts r x.2).2)
 |.rcons _ _ ts,r,x=>((x.1,(spl ts r x.2).1),(spl ts r x.2).2)
theorem DR:∀(p:PTs) (r:ATs) (x:(FL p r).den),(FL p r).oas x=p.ocs (spl p r x).1++r.oas (spl p r x).2
 |.nil,_,_=>rfl
 |.cons t ts,r,x=>by
  show AT.oa (.bx t) x.1::(FL ts r).oas x.2=OA.bx (t.ocs x.1)::(ts.ocs (spl ts r x.2).1++r.oas (spl ts r x.2).2);rw[DR ts r x.2];rfl
 |.rcons u e ts,r,x=>by
  show AT.oa (.rx u e) x.1::(FL ts r).oas x.2=AT.oa (.rx u e) x.1::(ts.ocs (spl ts r x.2).1++r.oas (spl ts r x.2).2);rw[DR ts r x.2]
theorem IE:∀(p:PTs) (r:ATs),r.ok=true->(FL p r).ok=true
 |.nil,_,h=>h
 |.cons _ ts,r,h=>by
  show(true&&(FL ts r).ok)=true;rw[IE ts r h];rfl
 |.rcons _ _ ts,r,h=>by
  show(true&&(FL ts r).ok)=true;rw[IE ts r h];rfl
def ATs.len:ATs->Nat
 |.nil=>0
 |.cons _ ts=>ts.len+1
def PTs.len:PTs->Nat
 |.nil=>0
 |.cons _ ts=>ts.len+1
 |.rcons _ _ ts=>ts.len+1
theorem PZ:∀(ts:ATs) (x:ts.den),(ts.oas x).length=ts.len
 |.nil,_=>rfl
 |.cons t ts,x=>by
  show(ts.oas x.2).length+1=ts.len+1;rw[PZ ts]
theorem DS:∀(ts:PTs) (x:ts.den),(ts.ocs x).length=ts.len
 |.nil,_=>rfl
 |.cons t ts,x=>by
  show(ts.ocs x.2).length+1=ts.len+1;rw[DS ts]
 |.rcons _ _ ts,x=>by
  show(ts.ocs x.2).length+1=ts.len+1;rw[DS ts]
def MN:ATs->List T1->List T1
 |.cons (.bx _) ts,v::vs=>v::MN ts vs
 |.cons (.rx _ _) ts,v::vs=>v::MN ts vs
 |.cons _ ts,_::vs=>MN ts vs
 |_,_=>[]
theorem ud:∀(ts:ATs) (x:ts.den) (vs:List T1),dw (ts.oas x) (vs.map T1.av)=(MN ts vs).map T1.av
 |.nil,_,[]=>rfl
 |.nil,_,_::_=>rfl
 |.cons (.bx _) _ts,_x,[]=>rfl
 |.cons (.rx _ _) _ts,_x,[]=>rfl
 |.cons (.c _) _ts,_x,[]=>rfl
 |.cons (.agg _) _ts,_x,[]=>rfl
 |.cons (.bx _t) ts,x,v::vs=>congrArg (v.av :: ·) (ud ts x.2 vs)
 |.cons (.rx _ _) ts,x,v::vs=>congrArg (v.av :: ·) (ud ts x.2 vs)
 |.cons (.c _t) ts,x,_v::vs=>ud ts x.2 vs
 |.cons (.agg _t) ts,x,_v::vs=>ud ts x.2 vs
def tUT(g:Bool) (i:Nat):List T1->List gT
 |[]=>[]
 |v::vs=>.t i ⟨g,.o v⟩::tUT g (i+1) vs
theorem Qa(g:Bool):∀(vs:List T1) (i:Nat),(tUT g i vs).map gT.upd=tU g i (vs.map T1.av)
 |[],_=>rfl
 |v::vs,i=>congrArg (Upd.t i ⟨g,v.av⟩ :: ·) (Qa g vs (i+1))
def FM(n:Nat):TSt:=⟨n,λk=>⟨decide (k<n),.any⟩,λ_=>⟨0,none⟩,λ_=>⟨0,none⟩⟩
theorem Qb(n:Nat):(FM n).st=rt n [] [] []:=rfl
def Qc(n:Nat) (args:ATs) (k:Yn):TSt:=(((FM n).app k.us).app (tUT true 0 k.vs)).app (tUT false n (MN args k.vs))
def a22(T:TypeId->Option TI):List ResultVar->TQ (List TV)
 |[]=>.ret []
 |.tmp t::rs=>(tev (.tmp t)).bind λv=>(a22 T rs).bind λvs=>.ret (v::vs)
 |.cell a t::rs=>(ttq T t).bind λi=>(tev (.tmp a)).bind λp=>(TD i p).bind λv=>(a22 T rs).bind λvs=>.ret (v::vs)
theorem DT(T:TypeId->Option TI):∀(rs:List ResultVar),Sim (List.map TV.av) (a22 T rs) (XQ T rs)
 |[]=>Sim.ret rfl
 |.tmp t::rs=>Sim.bind (K4 (.tmp t)) λ_v=>Sim.bind (DT T rs) λ_vs=>Sim.ret rfl
 |.cell a t::rs=>Sim.bind (M3 T t) λi=>Sim.bind (K4 (.tmp a)) λp=>Sim.bind (FA i p) λ_v=>Sim.bind (DT T rs) λ_vs=>Sim.ret rfl
def a3z(n:Nat):Nat->TQ (List TV)
 |0=>.ret []
 |m+1=>.rdT n λx=>(a3z (n+1) m).bind λvs=>.ret (x.x::vs)
theorem KJ:∀(m n:Nat),Sim (List.map TV.av) (a3z n m) (a0p n m)
 |0,_=>Sim.ret rfl
 |m+1,n=>Sim.rdT λ_x=>Sim.bind (KJ m (n+1)) λ_vs=>Sim.ret rfl
def ZK(T:TypeId->Option TI) (n:Nat) (rs:List ResultVar) (S:TFn):TQ (S.posts.den×S.res.den):=
 (a3z n S.posts.len).bind λps=>(a22 T rs).bind λvs=>(DF (FL S.posts S.res) (ps++vs)).bind λk=>
 .req (FG (k.tops++k.ids)&&k.fz.all λid=> !ZI (Sum.inr id) (k.tops++k.ids)) ((pj k.fz).bind λ_=>.ret (spl S.posts S.res k.x))
theorem Qd{T:TypeId->Option TI}{n:Nat}{rs:List ResultVar}{S:TFn}(hr:S.res.ok=true){fin:S.posts.den×S.res.den->S.R}(hfin:∀x,S.out (fin x)=x){s:TSt}{r:S.R}(h:((ZK T n rs S).run s [] λx _=>some (fin x))=some r) :
  (XR T n S.posts.len rs (FL S.posts S.res).sh (S.posts.ocs (S.out r).1) (S.res.oas (S.out r).2)).wp s.st λ_=>True:=by
 have h1:=TQ.run_wpt h;unfold ZK at h1;rw[TQ.wpt_bind]at h1;unfold XR;rw[Q.wp_bind];refine Q.wp_of_wpt (tr:=[]) (Q.wpt_mono (KJ S.posts.len n s [] _ h1) ?_);rintro ps rs1 ⟨tps,rfl,h2⟩;rw[TQ.wpt_bind]at h2;rw[Q.wp_bind];refine Q.wp_of_wpt (tr:=rs1) (Q.wpt_mono (DT T rs s rs1 _ h2) ?_);rintro vs rs2 ⟨tvs,rfl,h3⟩;rw[TQ.wpt_bind]at h3;rw[Q.wp_bind,<-a53];refine Q.wp_of_wpt (tr:=rs2) (Q.wpt_mono (vl _ (IE _ _ hr) (tps++tvs) s rs2 _ h3) ?_);rintro k rs3 ⟨tk,rfl,h4⟩;obtain⟨h5,h6⟩:=h4;rw[a5S]at h5;rw[TQ.wpt_bind]at h6;have h7:=fF tk.fz s rs3 _ h6;obtain⟨us,rs4,tus,_,h8⟩:=Q.wpt_ex h7;injection h8 with h8;subst h8;rw[hfin];refine⟨⟨DR _ _ _,Al h5.1,λid hid=>?_⟩,?_⟩
 ·have:=List.all_eq_true.1 h5.2 id hid;exact DI (by simpa using this)
 ·rw[Q.wp_bind];exact Q.wp_of_wpt (tr:=rs3) (Q.wpt_mono h7 λ_ _ _=>trivial)
def Ut(T:TypeId->Option TI) (n:Nat) (rs:List ResultVar) (S:TFn) (fin:S.posts.den×S.res.den->S.R) (ax:AX) (s:TSt):Option S.R:=match ax with
 |.exit _=>none
 |.normal=>chk (Nat.beq s.n n) ((ZK T n rs S).run s [] λx _=>some (fin x))
 |.ret=>chk (Nat.beq s.n n) ((ZK T n rs S).run s [] λx _=>some (fin x))
def Uu(T:TypeId->Option TI) (TU:TypeId->Option U) (Γ:List (Nat×TFn)) (n:Nat) (rs:List ResultVar) (S:TFn) (fin:S.posts.den×S.res.den->S.R) (an:An S.R) (c:Code) (a:S.args.den):Option S.R:=
 (PK 1000 S.args a).run (FM n) [] λk _=>chk (Nat.beq (MN S.args k.vs).length S.posts.len&&Nat.ble S.args.len n) (FK T TU (sj T TU Γ) an c (Qc n S.args k) (Ut T n rs S fin))
structure FnT (P:Program) (f:FuncId) (S:TFn):Prop where
 args:S.args.ok=true
 res:S.res.ok=true
 ok:Tp P f S.spec
theorem KM{P:Program}{f:FuncId}{fn:Func}{c:Code}{S:TFn}(hf:P.funcs[f]?=some fn) (hb:fn.body=some c) (hname:(fn.name== "runtime.NumGoroutine")=false) (ha:S.args.ok=true) (hr:S.res.ok=true) (hG:∀a,S.G a=none) (hsp:S.sp= .none:=by rfl):FnT P f S:=
 ⟨ha,hr,⟨by show a4j P f S.sp;rw[hsp];trivial,⟨fn,hf,by rw[hb];rfl,hname⟩,λ_ _ _ _ _ _ _ _ _ hp=>by
  obtain⟨a,r,_,h⟩:=hp;rw[hG]at h;cases h⟩⟩
def sS{α β:Type}(l:List (α×β)):List α:=List.map (λp=>p.1) l
theorem fnT{P:Program}{T:TypeId->Option TI}{TU:TypeId->Option U}{Γ:List (Nat×TFn)}{f:FuncId}{fn:Func}{c:Code}{S:TFn}(hT:∀t i,T t=some i->TOk P t i) (hm:P.follows .mixedOrders=true) (hΓ:∀p∈Γ,FnT P (p.1%1000000) p.2)
  (hf:P.funcs[f]?=some fn) (hb:fn.body=some c) (hname:(fn.name== "runtime.NumGoroutine")=false) (ha:S.args.ok=true) (hr:S.res.ok=true) (fin:S.posts.den×S.res.den->S.R) (hfin:∀x,S.out (fin x)=x) (an:An S.R)
  (hok:an.ok T TU (sj T TU Γ) c (Ut T fn.ntmps fn.results.toList S fin)) (hF:∀a,S.G a=Uu T TU Γ fn.ntmps fn.results.toList S fin an c a) (hsp:S.sp= .none:=by rfl):FnT P f S:=by
 refine⟨ha,hr,a4l hT hf hb hname 1000 (λxs hx=>?_) hsp⟩;obtain⟨a,r,rfl,hFa⟩:=hx;have h1:=hF a;rw[hFa]at h1;have h1:=h1.symm;unfold Uu at h1;have h2:=TQ.run_wpt h1;have h3:=ww S.args ha 1000 a _ _ _ h2;rw[Qb]at h3;have hlen:S.args.len<=fn.ntmps:=by
  obtain⟨_,_,k,_,hk⟩:=Q.wpt_ex h3;have:=(jL hk).1;rw[a5S]at this;exact a58 this.2
 refine⟨by rw[PZ];exact hlen,(FL S.posts S.res).sh,Q.wp_of_wpt (Q.wpt_mono h3 ?_)⟩;rintro k rs ⟨tk,rfl,hk⟩;obtain⟨hc,hk⟩:=jL hk;rw[a5S]at hc;have hst:(Qc fn.ntmps S.args tk).st=(((rt fn.ntmps [] [] []).app (Bp tk).us).app (tU true 0 (Bp tk).avs)).app (tU false fn.ntmps (dw (S.args.oas a) (Bp tk).avs)):=by
  unfold Qc;rw[TSt.st_app,TSt.st_app,TSt.st_app,Qa,Qa];simp only[Bp];rw[ud];rfl
 rw[<-hst];have hmm:(dw (S.args.oas a) (Bp tk).avs).length=S.posts.len:=by
  simp only[Bp];rw[ud,a5X];exact a5O hc.1
 rw[hmm];have hcq:=Fm (P:=P) (T:=T) hT (Γ:=PR Γ) (λp hp=>by
  obtain⟨q,hq,rfl⟩:=List.mem_map.1 hp;exact(hΓ q hq).ok)
 have fin':∀s',chk (Nat.beq s'.n fn.ntmps) ((ZK T fn.ntmps fn.results.toList S).run s' [] λx _=>some (fin x))=some r->
   s'.st.n=fn.ntmps/\(S.spec.post (S.args.oas a)).length=S.posts.len/\(XR T fn.ntmps S.posts.len fn.results.toList (FL S.posts S.res).sh (S.spec.post (S.args.oas a)) (S.spec.res (S.args.oas a))).wp s'.st λ_=>True:=λs' h'=>by
  obtain⟨h5,h6⟩:=jL h';rw[TFn.post_of ha hFa,TFn.res_of ha hFa];exact⟨a5O h5,DS _ _,Qd hr hfin h6⟩
 refine ID hT hcq (λo c _=>xy T TU Γ o c) hm c hok hk λax s' h'=>?_;cases ax with
 |normal=>exact fin' s' h'
 |exit i=>cases h'
 |ret=>exact fin' s' h'
abbrev ls:List Type->Type
 |[]=>Unit
 |[A]=>A
 |A::B::r=>A×ls (B::r)
def ut{A:Type}:(r:List Type)->A->ls r->ls (A::r)
 |[],a,_=>a
 |_::_,a,x=>(a,x)
def fhd{A:Type}:(r:List Type)->ls (A::r)->A
 |[],a=>a
 |_::_,x=>x.1
def ftl{A:Type}:(r:List Type)->ls (A::r)->ls r
 |[],_=>()
 |_::_,x=>x.2
theorem mA{A:Type}:∀(r:List Type) (a:A) (x:ls r),fhd r (ut r a x)=a
 |[],_,_=>rfl
 |_::_,_,_=>rfl
theorem mB{A:Type}:∀(r:List Type) (a:A) (x:ls r),ftl r (ut r a x)=x
 |[],_,_=>rfl
 |_::_,_,_=>rfl
abbrev yH:List Sh->List Type->List Type
 |[],r=>r
 |.d u::s,r=>u.den::yH s r
 |.clo _ u::s,r=>u.den::yH s r
 |.e u::s,r=>u.den::yH s r
 |.nil::s,r=>yH s r
 |.fn _::s,r=>yH s r
 |.npt::s,r=>yH s r
 |.row _::s,r=>yH s r
 |.ptr _ _::s,r=>yH s r
def IG:(ss:List Sh)->(r:List Type)->vm ss->ls r->ls (yH ss r)
 |[],_,_,y=>y
 |.d _::s,r,x,y=>ut (yH s r) x.1 (IG s r x.2 y)
 |.clo _ _::s,r,x,y=>ut (yH s r) x.1 (IG s r x.2 y)
 |.e _::s,r,x,y=>ut (yH s r) x.1 (IG s r x.2 y)
 |.nil::s,r,x,y=>IG s r x y
 |.fn _::s,r,x,y=>IG s r x y
 |.npt::s,r,x,y=>IG s r x y
 |.row _::s,r,x,y=>IG s r x y
 |.ptr _ _::s,r,x,y=>IG s r x y
def KO:(ss:List Sh)->(r:List Type)->ls (yH ss r)->vm ss
 |[],_,_=>()
 |.d _::s,r,y=>(fhd (yH s r) y,KO s r (ftl (yH s r) y))
 |.clo _ _::s,r,y=>(fhd (yH s r) y,KO s r (ftl (yH s r) y))
 |.e _::s,r,y=>(fhd (yH s r) y,KO s r (ftl (yH s r) y))
 |.nil::s,r,y=>KO s r y
 |.fn _::s,r,y=>KO s r y
 |.npt::s,r,y=>KO s r y
 |.row _::s,r,y=>KO s r y
 |.ptr _ _::s,r,y=>KO s r y
def Ho:(ss:List Sh)->(r:List Type)->ls (yH ss r)->ls r
 |[],_,y=>y
 |.d _::s,r,y=>Ho s r (ftl (yH s r) y)
 |.clo _ _::s,r,y=>Ho s r (ftl (yH s r) y)
 |.e _::s,r,y=>Ho s r (ftl (yH s r) y)
 |.nil::s,r,y=>Ho s r y
 |.fn _::s,r,y=>Ho s r y
 |.npt::s,r,y=>Ho s r y
 |.row _::s,r,y=>Ho s r y
 |.ptr _ _::s,r,y=>Ho s r y
theorem Bs:∀(ss:List Sh) (r:List Type) (x:vm ss) (y:ls r),KO ss r (IG ss r x y)=x/\Ho ss r (IG ss r x y)=y
 |[],_,_,_=>⟨rfl,rfl⟩
 |.d _::s,r,x,y=>by
  obtain⟨h1,h2⟩:=Bs s r x.2 y;unfold IG KO Ho;rw[mA,mB,h1,h2];exact⟨rfl,rfl⟩
 |.clo _ _::s,r,x,y=>by
  obtain⟨h1,h2⟩:=Bs s r x.2 y;unfold IG KO Ho;rw[mA,mB,h1,h2];exact⟨rfl,rfl⟩
 |.e _::s,r,x,y=>by
  obtain⟨h1,h2⟩:=Bs s r x.2 y;unfold IG KO Ho;rw[mA,mB,h1,h2];exact⟨rfl,rfl⟩
 |.nil::s,r,x,y=>Bs s r x y
 |.fn _::s,r,x,y=>Bs s r x y
 |.npt::s,r,x,y=>Bs s r x y
 |.row _::s,r,x,y=>Bs s r x y
 |.ptr _ _::s,r,x,y=>Bs s r x y
abbrev tTs:List (Nat×SSh)->List Type->List Type
 |[],r=>r
 |p::l,r=>yH p.2.list (tTs l r)
def tTo:(l:List (Nat×SSh))->(r:List Type)->Um l->ls r->ls (tTs l r)
 |[],_,_,y=>y
 |p::l,r,x,y=>IG p.2.list (tTs l r) x.1 (tTo l r x.2 y)
def tOf:(l:List (Nat×SSh))->(r:List Type)->ls (tTs l r)->Um l
 |[],_,_=>()
 |p::l,r,y=>(KO p.2.list (tTs l r) y,tOf l r (Ho p.2.list (tTs l r) y))
def tRe:(l:List (Nat×SSh))->(r:List Type)->ls (tTs l r)->ls r
 |[],_,y=>y
 |p::l,r,y=>tRe l r (Ho p.2.list (tTs l r) y)
theorem a44:∀(l:List (Nat×SSh)) (r:List Type) (x:Um l) (y:ls r),tOf l r (tTo l r x y)=x/\tRe l r (tTo l r x y)=y
 |[],_,_,_=>⟨rfl,rfl⟩
 |p::l,r,x,y=>by
  obtain⟨h1,h2⟩:=a44 l r x.2 y;obtain⟨h3,h4⟩:=Bs p.2.list (tTs l r) x.1 (tTo l r x.2 y);unfold tTo tOf tRe;rw[h3,h4,h1,h2];exact⟨rfl,rfl⟩
abbrev bTs:List (Nat×List Sh)->List Type->List Type
 |[],r=>r
 |p::l,r=>yH p.2 (bTs l r)
def bTo:(l:List (Nat×List Sh))->(r:List Type)->WM l->ls r->ls (bTs l r)
 |[],_,_,y=>y
 |p::l,r,x,y=>IG p.2 (bTs l r) x.1 (bTo l r x.2 y)
def bOf:(l:List (Nat×List Sh))->(r:List Type)->ls (bTs l r)->WM l
 |[],_,_=>()
 |p::l,r,y=>(KO p.2 (bTs l r) y,bOf l r (Ho p.2 (bTs l r) y))
def bRe:(l:List (Nat×List Sh))->(r:List Type)->ls (bTs l r)->ls r
 |[],_,y=>y
 |p::l,r,y=>bRe l r (Ho p.2 (bTs l r) y)
theorem a45:∀(l:List (Nat×List Sh)) (r:List Type) (x:WM l) (y:ls r),bOf l r (bTo l r x y)=x/\bRe l r (bTo l r x y)=y
 |[],_,_,_=>⟨rfl,rfl⟩
 |p::l,r,x,y=>by
  obtain⟨h1,h2⟩:=a45 l r x.2 y;obtain⟨h3,h4⟩:=Bs p.2 (bTs l r) x.1 (bTo l r x.2 y);unfold bTo bOf bRe;rw[h3,h4,h1,h2];exact⟨rfl,rfl⟩
abbrev rTs:List (Nat×U×TypeId×Bool)->List Type
 |[]=>[]
 |p::l=>List p.2.1.den::rTs l
def rTo:(l:List (Nat×U×TypeId×Bool))->WN l->ls (rTs l)
 |[],_=>()
 |_::l,x=>ut (rTs l) x.1 (rTo l x.2)
def rOf:(l:List (Nat×U×TypeId×Bool))->ls (rTs l)->WN l
 |[],_=>()
 |_::l,y=>(fhd (rTs l) y,rOf l (ftl (rTs l) y))
theorem a47:∀(l:List (Nat×U×TypeId×Bool)) (x:WN l),rOf l (rTo l x)=x
 |[],_=>rfl
 |_::l,x=>by
  unfold rTo rOf;rw[mA,mB,a47 l x.2];rfl
abbrev Lay.fl(L:Lay):Type:=ls (tTs L.t (bTs L.b (rTs L.r)))
def vw(L:Lay):Vw L L.fl:=
 ⟨λx=>tTo L.t (bTs L.b (rTs L.r)) x.1 (bTo L.b (rTs L.r) x.2.1 (rTo L.r x.2.2)),
  λy=>(tOf L.t (bTs L.b (rTs L.r)) y,bOf L.b (rTs L.r) (tRe L.t (bTs L.b (rTs L.r)) y),rOf L.r (bRe L.b (rTs L.r) (tRe L.t (bTs L.b (rTs L.r)) y))),
  λx=>by
  obtain⟨h1,h2⟩:=a44 L.t (bTs L.b (rTs L.r)) x.1 (bTo L.b (rTs L.r) x.2.1 (rTo L.r x.2.2));obtain⟨h3,h4⟩:=a45 L.b (rTs L.r) x.2.1 (rTo L.r x.2.2);simp only[h1,h2,h3,h4,a47];rfl⟩
abbrev zd(k:Nat) (u:U):Nat×SSh:=(k,.one (.d u))
abbrev zi(k:Nat):Nat×SSh:=(k,.one (.d (.int .i64)))
abbrev zr(k j:Nat):Nat×SSh:=(k,.one (.row (1000000+j)))
abbrev zp(k j o:Nat):Nat×SSh:=(k,.one (.ptr (1000000+j) o))
mutual
def oT:OT->List Type->List Type
 |.d u,r=>u.den::r
 |.fn _,r=>r
 |.npt,r=>r
 |.it _ u _,r=>u.den::r
 |.clo _ u,r=>u.den::r
 |.e u,r=>u.den::r
 |.row u _,r=>List u.den::r
 |.box ts,r=>oTs ts r
def oTs:OTs->List Type->List Type
 |.nil,r=>r
 |.cons t ts,r=>oT t (oTs ts r)
end
mutual
def oTo:(t:OT)->(r:List Type)->t.den->ls r->ls (oT t r)
 |.d _,r,x,y=>ut r x y
 |.fn _,_,_,y=>y
 |.npt,_,_,y=>y
 |.it _ _ _,r,x,y=>ut r x y
 |.clo _ _,r,x,y=>ut r x y
 |.e _,r,x,y=>ut r x y
 |.row _ _,r,x,y=>ut r x y
 |.box ts,r,x,y=>KP ts r x y
def KP:(ts:OTs)->(r:List Type)->ts.den->ls r->ls (oTs ts r)
 |.nil,_,_,y=>y
 |.cons t ts,r,x,y=>oTo t (oTs ts r) x.1 (KP ts r x.2 y)
end
mutual
def oOf:(t:OT)->(r:List Type)->ls (oT t r)->t.den
 |.d _,r,y=>fhd r y
 |.fn _,_,_=>()
 |.npt,_,_=>()
 |.it _ _ _,r,y=>fhd r y
 |.clo _ _,r,y=>fhd r y
 |.e _,r,y=>fhd r y
 |.row _ _,r,y=>fhd r y
 |.box ts,r,y=>WQ ts r y
def WQ:(ts:OTs)->(r:List Type)->ls (oTs ts r)->ts.den
 |.nil,_,_=>()
 |.cons t ts,r,y=>(oOf t (oTs ts r) y,WQ ts r (oRe t (oTs ts r) y))
def oRe:(t:OT)->(r:List Type)->ls (oT t r)->ls r
 |.d _,r,y=>ftl r y
 |.fn _,_,y=>y
 |.npt,_,y=>y
 |.it _ _ _,r,y=>ftl r y
 |.clo _ _,r,y=>ftl r y
 |.e _,r,y=>ftl r y
 |.row _ _,r,y=>ftl r y
 |.box ts,r,y=>SC ts r y
def SC:(ts:OTs)->(r:List Type)->ls (oTs ts r)->ls r
 |.nil,_,y=>y
 |.cons t ts,r,y=>SC ts r (oRe t (oTs ts r) y)
end
mutual
theorem a1W:∀(t:OT) (r:List Type) (x:t.den) (y:ls r),oOf t r (oTo t r x y)=x/\oRe t r (oTo t r x y)=y
 |.d _,r,x,y=>⟨mA r x y,mB r x y⟩
 |.fn _,_,_,_=>⟨rfl,rfl⟩
 |.npt,_,_,_=>⟨rfl,rfl⟩
 |.it _ _ _,r,x,y=>⟨mA r x y,mB r x y⟩
 |.clo _ _,r,x,y=>⟨mA r x y,mB r x y⟩
 |.e _,r,x,y=>⟨mA r x y,mB r x y⟩
 |.row _ _,r,x,y=>⟨mA r x y,mB r x y⟩
 |.box ts,r,x,y=>FP ts r x y
theorem FP:∀(ts:OTs) (r:List Type) (x:ts.den) (y:ls r),WQ ts r (KP ts r x y)=x/\SC ts r (KP ts r x y)=y
 |.nil,_,_,_=>⟨rfl,rfl⟩
 |.cons t ts,r,x,y=>by
  obtain⟨h1,h2⟩:=FP ts r x.2 y;obtain⟨h3,h4⟩:=a1W t (oTs ts r) x.1 (KP ts r x.2 y);show(oOf t (oTs ts r) (oTo t (oTs ts r) x.1 (KP ts r x.2 y)),WQ ts r (oRe t (oTs ts r) (oTo t (oTs ts r) x.1 (KP ts r x.2 y))))=x/\SC ts r (oRe t (oTs ts r) (oTo t (oTs ts r) x.1 (KP ts r x.2 y)))=y;rw[h3,h4,h1,h2];exact⟨rfl,rfl⟩
end
def aT:AT->List Type->List Type
 |.c t,r=>oT t r
 |.agg ts,r=>oTs ts r
 |.bx ts,r=>oTs ts r
 |.rx u _,r=>List u.den::r
def aTo:(t:AT)->(r:List Type)->t.den->ls r->ls (aT t r)
 |.c t,r,x,y=>oTo t r x y
 |.agg ts,r,x,y=>KP ts r x y
 |.bx ts,r,x,y=>KP ts r x y
 |.rx _ _,r,x,y=>ut r x y
def aOf:(t:AT)->(r:List Type)->ls (aT t r)->t.den
 |.c t,r,y=>oOf t r y
 |.agg ts,r,y=>WQ ts r y
 |.bx ts,r,y=>WQ ts r y
 |.rx _ _,r,y=>fhd r y
def aRe:(t:AT)->(r:List Type)->ls (aT t r)->ls r
 |.c t,r,y=>oRe t r y
 |.agg ts,r,y=>SC ts r y
 |.bx ts,r,y=>SC ts r y
 |.rx _ _,r,y=>ftl r y
theorem a3Z(t:AT) (r:List Type) (x:t.den) (y:ls r):aOf t r (aTo t r x y)=x/\aRe t r (aTo t r x y)=y:=by
 cases t with
 |c t=>exact a1W t r x y
 |agg ts=>exact FP ts r x y
 |bx ts=>exact FP ts r x y
 |rx u e=>exact⟨mA r x y,mB r x y⟩
def asT:ATs->List Type
 |.nil=>[]
 |.cons t ts=>aT t (asT ts)
def II:(ts:ATs)->ts.den->ls (asT ts)
 |.nil,_=>()
 |.cons t ts,x=>aTo t (asT ts) x.1 (II ts x.2)
def a1X:(ts:ATs)->ls (asT ts)->ts.den
 |.nil,_=>()
 |.cons t ts,y=>(aOf t (asT ts) y,a1X ts (aRe t (asT ts) y))
theorem WR:∀(ts:ATs) (x:ts.den),a1X ts (II ts x)=x
 |.nil,_=>rfl
 |.cons t ts,x=>by
  obtain⟨h3,h4⟩:=a3Z t (asT ts) x.1 (II ts x.2);show(aOf t (asT ts) (aTo t (asT ts) x.1 (II ts x.2)),a1X ts (aRe t (asT ts) (aTo t (asT ts) x.1 (II ts x.2))))=x;rw[h3,h4,WR ts x.2];rfl
def pT:PTs->List Type->List Type
 |.nil,r=>r
 |.cons t ts,r=>oTs t (pT ts r)
 |.rcons u _ ts,r=>List u.den::pT ts r
def pTo:(ts:PTs)->(r:List Type)->ts.den->ls r->ls (pT ts r)
 |.nil,_,_,y=>y
 |.cons t ts,r,x,y=>KP t (pT ts r) x.1 (pTo ts r x.2 y)
 |.rcons _ _ ts,r,x,y=>ut (pT ts r) x.1 (pTo ts r x.2 y)
def pOf:(ts:PTs)->(r:List Type)->ls (pT ts r)->ts.den
 |.nil,_,_=>()
 |.cons t ts,r,y=>(WQ t (pT ts r) y,pOf ts r (SC t (pT ts r) y))
 |.rcons _ _ ts,r,y=>(fhd (pT ts r) y,pOf ts r (ftl (pT ts r) y))
def pRe:(ts:PTs)->(r:List Type)->ls (pT ts r)->ls r
 |.nil,_,y=>y
 |.cons t ts,r,y=>pRe ts r (SC t (pT ts r) y)
 |.rcons _ _ ts,r,y=>pRe ts r (ftl (pT ts r) y)
theorem Yx:∀(ts:PTs) (r:List Type) (x:ts.den) (y:ls r),pOf ts r (pTo ts r x y)=x/\pRe ts r (pTo ts r x y)=y
 |.nil,_,_,_=>⟨rfl,rfl⟩
 |.cons t ts,r,x,y=>by
  obtain⟨h1,h2⟩:=Yx ts r x.2 y;obtain⟨h3,h4⟩:=FP t (pT ts r) x.1 (pTo ts r x.2 y);show(WQ t (pT ts r) (KP t (pT ts r) x.1 (pTo ts r x.2 y)),pOf ts r (SC t (pT ts r) (KP t (pT ts r) x.1 (pTo ts r x.2 y))))=x/\pRe ts r (SC t (pT ts r) (KP t (pT ts r) x.1 (pTo ts r x.2 y)))=y;rw[h3,h4,h1,h2];exact⟨rfl,rfl⟩
 |.rcons _ _ ts,r,x,y=>by
  obtain⟨h1,h2⟩:=Yx ts r x.2 y;show(fhd (pT ts r) (ut (pT ts r) x.1 (pTo ts r x.2 y)),pOf ts r (ftl (pT ts r) (ut (pT ts r) x.1 (pTo ts r x.2 y))))=x/\pRe ts r (ftl (pT ts r) (ut (pT ts r) x.1 (pTo ts r x.2 y)))=y;rw[mA,mB,h1,h2];exact⟨rfl,rfl⟩
theorem a1Y(posts:PTs) (res:ATs) (x:posts.den×res.den):(pOf posts (asT res) (pTo posts (asT res) x.1 (II res x.2)),a1X res (pRe posts (asT res) (pTo posts (asT res) x.1 (II res x.2))))=x:=by
 obtain⟨h1,h2⟩:=Yx posts (asT res) x.1 (II res x.2);rw[h1,h2,WR]
def mkT(args:ATs) (posts:PTs) (res:ATs) (G:args.den->Option (ls (pT posts (asT res)))):TFn:=
 ⟨args,posts,res,ls (pT posts (asT res)),G,λy=>(pOf posts (asT res) y,a1X res (pRe posts (asT res) y)),.none⟩
theorem fnV{P:Program}{T:TypeId->Option TI}(TU:TypeId->Option U) (Γ:List (Nat×TFn)){f:FuncId}{fn:Func}{c:Code}{args:ATs}{posts:PTs}{res:ATs}{G:args.den->Option (ls (pT posts (asT res)))}(hT:∀t i,T t=some i->TOk P t i) (hΓ:∀p∈Γ,FnT P (p.1%1000000) p.2)
  (hf:P.funcs[f]?=some fn) (an:An (ls (pT posts (asT res)))) (hm:P.follows .mixedOrders=true:=by rfl) (hb:fn.body=some c:=by rfl) (hname:(fn.name== "runtime.NumGoroutine")=false:=by rfl) (ha:args.ok=true:=by rfl) (hr:res.ok=true:=by rfl)
  (hok:an.ok T TU (sj T TU Γ) c (Ut T fn.ntmps fn.results.toList (mkT args posts res G) λx=>pTo posts (asT res) x.1 (II res x.2)):=by repeat' first | refine⟨?_,?_⟩ | (intro v;kernel_rfl) | exact True.intro)
  (hF:∀a,G a=Uu T TU Γ fn.ntmps fn.results.toList (mkT args posts res G) (λx=>pTo posts (asT res) x.1 (II res x.2)) an c a:=by intro a;kernel_rfl):FnT P f (mkT args posts res G):=
 fnT hT hm hΓ hf hb hname ha hr (λx=>pTo posts (asT res) x.1 (II res x.2)) (λx=>a1Y posts res x) an hok hF
abbrev Cur:List Type->Type->Type
 |[],R=>R
 |[A],R=>A->R
 |A::B::r,R=>A->Cur (B::r) R
abbrev uc{R:Type}:(l:List Type)->Cur l R->ls l->R
 |[],f,_=>f
 |[_],f,x=>f x
 |_::B::r,f,x=>uc (B::r) (f x.1) x.2
abbrev Lay.ts(L:Lay):List Type:=tTs L.t (bTs L.b (rTs L.r))
abbrev An.lq{R:Type}(L:Lay) (F:Cur L.ts (Option (L.fl⊕R))) (a:An (L.fl⊕R)):An R:=.loop L (vw L) (uc L.ts F) a
abbrev An.cq{R:Type}(L:Lay) (F:Cur L.ts (Option R)) (a b:An R):An R:=.cut L (vw L) (uc L.ts F) a b
abbrev An.tk{R:Type}:Nat->An R->An R
 |0,a=>a
 |n+1,a=>.two .leaf (An.tk n a)
abbrev ATs.of:List AT->ATs
 |[]=>.nil
 |a::l=>.cons a (ATs.of l)
abbrev ad(u:U):AT:=.c (.d u)
abbrev ar(u:U) (e:TypeId):AT:=.c (.row u e)
abbrev ag(u:U):AT:=.agg (.cons (.d u) .nil)
abbrev i_6:U:=.int .i64
abbrev u_6:U:=.int .u64
def mkF(as:List AT) (posts:PTs) (rs:List AT) (F:Cur (asT (ATs.of as)) (Option (ls (pT posts (asT (ATs.of rs)))))):TFn:=mkT (ATs.of as) posts (ATs.of rs) λa=>uc (asT (ATs.of as)) F (II (ATs.of as) a)
structure Pf (P:Program) where
 n:Nat
 t:TFn
 h:FnT P (n%1000000) t
def pf{P:Program}{n:Nat}{t:TFn}(h:FnT P n t) (e:n%1000000=n:=by rfl):Pf P:=⟨n,t,by rw[e];exact h⟩
theorem a1Z{P:Program}(l:List (Pf P)):∀p∈l.map (λx=>(x.n,x.t)),FnT P (p.1%1000000) p.2:=λp hp=>by
 obtain⟨x,_,rfl⟩:=List.mem_map.1 hp;exact x.h
theorem fnW{P:Program}{T:TypeId->Option TI}(TU:TypeId->Option U) (hT:∀t i,T t=some i->TOk P t i) (l:List (Pf P)){f:FuncId}{fn:Func}{c:Code}{as rs:List AT}{posts:PTs}{F:Cur (asT (ATs.of as)) (Option (ls (pT posts (asT (ATs.of rs)))))}
  (hf:P.funcs[f]?=some fn) (an:An (ls (pT posts (asT (ATs.of rs))))) (hm:P.follows .mixedOrders=true:=by rfl) (hb:fn.body=some c:=by rfl) (hname:(fn.name== "runtime.NumGoroutine")=false:=by rfl) (ha:(ATs.of as).ok=true:=by rfl) (hr:(ATs.of rs).ok=true:=by rfl)
  (hok:an.ok T TU (sj T TU (l.map λx=>(x.n,x.t))) c (Ut T fn.ntmps fn.results.toList (mkF as posts rs F) λx=>pTo posts (asT (ATs.of rs)) x.1 (II (ATs.of rs) x.2)):=by repeat' first | refine⟨?_,?_⟩ | (intro v;kernel_rfl) | exact True.intro)
  (hF:∀a,uc (asT (ATs.of as)) F (II (ATs.of as) a)=Uu T TU (l.map λx=>(x.n,x.t)) fn.ntmps fn.results.toList (mkF as posts rs F) (λx=>pTo posts (asT (ATs.of rs)) x.1 (II (ATs.of rs) x.2)) an c a:=by intro a;kernel_rfl):FnT P f (mkF as posts rs F):=
 fnV TU (l.map λx=>(x.n,x.t)) hT (a1Z l) hf an hm hb hname ha hr hok hF
theorem IF{P:Program}{w:World}{t e:TypeId}(hu:P.underlying t=some (.slice e)) (m:Nat) (A:Option Addr) (n c:Nat):(Op.equalIn (m+1) t (.slice A n c) (.slice none 0 0)).run P w= .ok A.isNone w:=by
 cases A <;> (simp only[Op.equalIn,Sem.run_bind,run_underlying hu,Result.andThen_ok];rfl)
theorem MQ{P:Program}{w:World}{t e:TypeId}(hu:P.underlying t=some (.slice e)) (A:Option Addr) (n c:Nat):(binOp .eql t (.slice A n c) (.slice none 0 0)).run P w= .ok (.bool A.isNone) w:=by
 have hr:(Op.equal t (.slice A n c) (.slice none 0 0)).run P w= .ok A.isNone w:=IF hu 9999 A n c;simp only[binOp,Sem.run_bind,hr,Result.andThen_ok];rfl
theorem Ql{P:Program}{id:Nat}{o1 o2:Oper}{s:St}{K:AX->St->Prop}{t t' e:TypeId}{es:List (List DV)}(hu:P.underlying t=some (.slice e))
  (h1:o1.op= .move (.tmp 0)) (h1d:o1.dst=some 3) (h1g:o1.guard=none) (h2:o2.op= .binOp .eql t (.tmp 3) (.const (.slice none 0 0)) t') (h2d:o2.dst=some 4) (h2g:o2.guard=none) (hn:4<s.n)
  (h0:s.t 0=⟨true,.c (.d (.sl es))⟩) (hk:∀b,(b=true->es=[])->K .normal (s.app [.t 3 ⟨true,.c (.d (.sl es))⟩,.t 4 ⟨true,.c (.d (.v (.bool b)))⟩])):Tri P (.region id [o1,o2].toArray false) K s:=by
 intro W0 M a w hR;refine wp_region_lit ?_;have hT:∀t i,(λ_=>none:TypeId->Option TI) t=some i->TOk P t i:=λ_ _ h=>by cases h
 have hcq:∀(o:Oper) (c:Call),o.op= .call c->NW P o ((λ_ _=>.fail:Oper->Call->Q (List Upd)) o c):=λ_ _ _ _ _ _ _ _ _ _ _ _ hq=>hq.elim;refine wpList_step ?_;intro K1 hK1;have hw1:Region.wanted o1 (yielded [o1,o2].toArray a.tmps)=true:=by simp[Region.wanted,h1g]
 rw[a5W hw1];have step1:=OE (P:=P) hT hcq (l:=[o1,o2]) rfl (o:=o1) (K:=λus=>us=[.t 3 ⟨true,.c (.d (.sl es))⟩]) (Q':=QK W0 M K) (λd e=>by rw[h1d]at e;injection e with e;subst e;exact Nat.lt_of_succ_lt hn) hR (by
  unfold wpO opD;rw[h1g];simp only;unfold opQ;rw[h1];simp only[ev,Q.bind,Q.wp,h0,one,h1d];exact⟨trivial,rfl⟩)
 rw[a5W hw1]at step1;refine Oper.wp_mono (λa' w'=>?_) step1;rintro⟨us,rfl,G,hr⟩;refine hK1 _ _ ?_;refine wpList_step ?_;intro K2 hK2;have hw2:Region.wanted o2 (yielded [o1,o2].toArray a'.tmps)=true:=by simp[Region.wanted,h2g]
 rw[a5W hw2];have h3:=(hr.tm 3).1 (by simp[St.app,St.app1,St.setT,upd]);simp only[St.app,St.app1,St.setT,upd,a6x,AVr,ACr,DVr]at h3;obtain⟨A,c,z,xs,hv,hlc,_,_,_,hne,_⟩:=h3;have hrun:(execOp a'.eval o2).run P w'= .ok (.value (.bool A.isNone)) w':=by
  have hev:a'.eval (.tmp 3)= .slice A es.length c:=hv;have hec:a'.eval (.const (.slice none 0 0))= .slice none 0 0:=rfl;unfold execOp;rw[h2];simp only[hev,hec,Sem.run_bind,iN .eql t (.tmp 3) (.const (.slice none 0 0)) (.slice A es.length c) (.slice none 0 0) rfl,Result.andThen_ok,MQ hu];rfl
 refine eV hrun ?_;refine hK2 _ _ (wpList_nil ?_);refine⟨_,⟨G,?_⟩,hk A.isNone (λe=>?_)⟩
 ·rw[h2d];exact hr.put (d:=4) (show 4<s.n from hn) ⟨λ_=>by simp only[AVr,ACr,DVr];exact⟨trivial,rfl⟩,λe=>by cases e⟩
 ·cases A with
  |none=>
   cases es with
   |nil=>rfl
   |cons x es=>
    obtain⟨ad,h,_⟩:=hne (by simp);cases h
  |some ad=>cases e
def wD{u:U}(by_:Nat) (l:List u.den):Option (List u.den):=chk (decide ((0+l.length)*by_<=LIM/\0+l.length<=LEN)) (some l)
def eN(by_:Nat) (u:U) (e:TypeId):TFn:=⟨.cons (.c (.d (.sl u))) .nil,.nil,.cons (.c (.row u e)) .nil,List u.den,λa=>wD by_ a.1,λr=>((),(r,())),.none⟩
def stC(n:Nat) (u:U) (l:List u.den) (b:Bool):TSt:=(((FM n).app [.t 0 ⟨true,.o (.c (.ch (.sl u) l))⟩]).app [.t 2 ⟨true,.o (.c .nil)⟩]).app [.t 3 ⟨true,.o (.c (.ch (.sl u) l))⟩,.t 4 ⟨true,.o (.c (.ch .bool b))⟩]
def Yw{α:Type}(x:Unit×(α×Unit)):α:=x.2.1
theorem wE{P:Program}{T:TypeId->Option TI}{TU:TypeId->Option U}{f:FuncId}{fn:Func}{cd rest:Code}{by_:Nat}{u:U}{e t t':TypeId}{i0 i1:Nat}{o0 o1 o2:Oper}(hT:∀t i,T t=some i->TOk P t i) (hm:P.follows .mixedOrders=true) (hu:P.underlying t=some (.slice e))
  (hf:P.funcs[f]?=some fn) (hb:fn.body=some (.seq (.region i0 [o0].toArray false) (.seq (.seq (.region i1 [o1,o2].toArray false) cd) rest))) (hname:(fn.name== "runtime.NumGoroutine")=false) (hn:4<fn.ntmps)
  (g0:o0.op= .assign (.const (.slice none 0 0))) (g0d:o0.dst=some 2) (g0g:o0.guard=none)
  (h1:o1.op= .move (.tmp 0)) (h1d:o1.dst=some 3) (h1g:o1.guard=none) (h2:o2.op= .binOp .eql t (.tmp 3) (.const (.slice none 0 0)) t') (h2d:o2.dst=some 4) (h2g:o2.guard=none)
  (hx1:FK (R:=List u.den) T TU (sj T TU []) .leaf (.seq cd rest) (stC fn.ntmps u [] true) (Ut T fn.ntmps fn.results.toList (eN by_ u e) Yw)=some ([]:List u.den))
  (hx2:∀l:List u.den,FK (R:=List u.den) T TU (sj T TU []) .leaf (.seq cd rest) (stC fn.ntmps u l false) (Ut T fn.ntmps fn.results.toList (eN by_ u e) Yw)=wD by_ l):FnT P f (eN by_ u e):=by
 refine⟨rfl,rfl,a4l hT hf hb hname 1000 (λxs hx=>?_) rfl⟩;obtain⟨a,r,rfl,hFa⟩:=hx;obtain⟨l,a2⟩:=a;cases a2;have hl:r=l:=by
  have:=(jL hFa).2;injection this with this;exact this.symm
 subst hl;refine⟨by show 1<=fn.ntmps;omega,(FL .nil (eN by_ u e).res).sh,?_⟩;show Tri P _ (a4k T fn.ntmps 0 fn.results.toList (FL .nil (eN by_ u e).res).sh ((eN by_ u e).spec.post ((eN by_ u e).args.oas (r,()))) ((eN by_ u e).spec.res ((eN by_ u e).args.oas (r,()))))
  ((((rt fn.ntmps [] [] []).app []).app (tU true 0 [.c (.d (.sl (List.map u.enc r)))])).app (tU false fn.ntmps []))
 have hst:(((rt fn.ntmps [] [] []).app []).app (tU true 0 [.c (.d (.sl (List.map u.enc r)))])).app (tU false fn.ntmps [])=((FM fn.ntmps).app [.t 0 ⟨true,.o (.c (.ch (.sl u) r))⟩]).st:=by
  rw[TSt.st_app];rfl
 rw[hst];have hcq0:∀(o:Oper) (c:Call),o.op= .call c->NW P o ((λ_ _=>.fail:Oper->Call->Q (List Upd)) o c):=λ_ _ _ _ _ _ _ _ _ _ _ _ hq=>hq.elim;have happ:∀(s:TSt) (us:List gT),s.st.app (us.map gT.upd)=(s.app us).st:=λs us=>(TSt.st_app us s).symm;refine Dj (BZ hT hcq0 (show([o0].all (Fg fn.ntmps))=true by simp only[a61,List.all_nil,a7e,Fg,g0d];exact a5H (by exact a7W (by decide:2<4) hn)) ?_);show wpO T _ [o0] o0 _ λus=>a4h P _ _ .normal _;unfold wpO opD;rw[g0g];simp only;unfold opQ;rw[g0];simp only[ev,Q.bind,Q.wp,one,g0d,Hr];rw[show([Upd.t 2 ⟨true,uO (.slice none 0 0)⟩]:List Upd)=([.t 2 ⟨true,.o (.c .nil)⟩]:List gT).map gT.upd from rfl,happ];show Tri P (.seq _ _) _ _;refine Dj (Dj (Ql hu h1 h1d h1g h2 h2d h2g (show 4<fn.ntmps from hn) (es:=List.map u.enc r) rfl λb hbe=>?_));show Tri P cd _ _;rw[show([Upd.t 3 ⟨true,.c (.d (.sl (List.map u.enc r)))⟩,Upd.t 4 ⟨true,.c (.d (.v (.bool b)))⟩]:List Upd)=([.t 3 ⟨true,.o (.c (.ch (.sl u) r))⟩,.t 4 ⟨true,.o (.c (.ch .bool b))⟩]:List gT).map gT.upd from rfl,happ];have hcq:=Fm (P:=P) (T:=T) hT (Γ:=PR []) (λp hp=>by cases hp);have fin':∀s',chk (Nat.beq s'.n fn.ntmps) ((ZK T fn.ntmps fn.results.toList (eN by_ u e)).run s' [] λx _=>some (Yw x))=some r->
   s'.st.n=fn.ntmps/\((eN by_ u e).spec.post ((eN by_ u e).args.oas (r,()))).length=(eN by_ u e).posts.len/\(XR T fn.ntmps (eN by_ u e).posts.len fn.results.toList (FL (eN by_ u e).posts (eN by_ u e).res).sh ((eN by_ u e).spec.post ((eN by_ u e).args.oas (r,()))) ((eN by_ u e).spec.res ((eN by_ u e).args.oas (r,())))).wp s'.st λ_=>True:=λs' h'=>by
  obtain⟨h5,h6⟩:=jL h';rw[TFn.post_of (S:=eN by_ u e) rfl hFa,TFn.res_of (S:=eN by_ u e) rfl hFa];exact⟨a5O h5,DS _ _,Qd (S:=eN by_ u e) rfl (fin:=Yw) (λx=>rfl) h6⟩
 have hex:FK (R:=List u.den) T TU (sj T TU []) .leaf (.seq cd rest) (stC fn.ntmps u r b) (Ut T fn.ntmps fn.results.toList (eN by_ u e) Yw)=some r:=by
  cases b with
  |true=>
   have:=List.map_eq_nil_iff.1 (hbe rfl);subst this;exact hx1
  |false=>exact(hx2 r).trans hFa
 have hex':FK (R:=List u.den) T TU (sj T TU []) .leaf cd (stC fn.ntmps u r b) (Us (λs'=>FK T TU (sj T TU []) .leaf rest s' (Ut T fn.ntmps fn.results.toList (eN by_ u e) Yw)) (Ut T fn.ntmps fn.results.toList (eN by_ u e) Yw))=some r:=hex;refine ID (R:=List u.den) hT hcq (λo c _=>xy T TU [] o c) hm cd (a:=.leaf) trivial hex' λax s' h'=>?_;cases ax with
 |normal=>
  refine ID (R:=List u.den) hT hcq (λo c _=>xy T TU [] o c) hm rest (a:=.leaf) trivial (show FK (R:=List u.den) T TU (sj T TU []) .leaf rest s' _=some r from h') λax s' h'=>?_;cases ax with
  |normal=>exact fin' s' h'
  |exit i=>cases h'
  |ret=>exact fin' s' h'
 |exit i=>cases h'
 |ret=>exact fin' s' h'
def U.flat:U->Bool
 |.sl _=>false
 |.pr a b=>a.flat&&b.flat
 |.arr _ _=>false
 |_=>true
def U.encV:(u:U)->u.den->List Value
 |.int k,n=>[.int k n]
 |.byte,x=>[.int .u8 (UInt8.toNat x:Nat)]
 |.bool,b=>[.bool b]
 |.str,l=>[.string ⟨List.toArray l⟩]
 |.sl _,_=>[.bool false]
 |.pr a b,x=>a.encV x.1++b.encV x.2
 |.arr n u,_=>List.replicate (n*u.size) (.bool false)
theorem U.encV_len:(u:U)->(x:u.den)->(u.encV x).length=u.size
 |.int _,_=>rfl
 |.byte,_=>rfl
 |.bool,_=>rfl
 |.str,_=>rfl
 |.sl _,_=>rfl
 |.pr a b,x=>by rw[U.encV,a5K,a.encV_len,b.encV_len];rfl
 |.arr n u,v=>by rw[U.encV,a6t];rfl
theorem U.encV_one:(u:U)->(x:u.den)->∀v∈u.encV x,v.oneCell'=true
 |.int _,_,v,h=>by simp only[U.encV,a6b]at h;subst h;rfl
 |.byte,_,v,h=>by simp only[U.encV,a6b]at h;subst h;rfl
 |.bool,_,v,h=>by simp only[U.encV,a6b]at h;subst h;rfl
 |.str,_,v,h=>by simp only[U.encV,a6b]at h;subst h;rfl
 |.sl _,_,v,h=>by simp only[U.encV,a6b]at h;subst h;rfl
 |.pr a b,x,v,h=>by
  rw[U.encV]at h;rcases List.mem_append.1 h with h|h
  ·exact a.encV_one _ v h
  ·exact b.encV_one _ v h
 |.arr n u,_,v,h=>by rw[U.encV]at h;rw[a6Q h];rfl
section
variable {I:Nat->Nat->Prop}{w:World}
theorem bo.split:∀{ds es:List DV}{xs:List Value},bo I w (ds++es) xs->∃a b,xs=a++b/\bo I w ds a/\bo I w es b
 |[],_,xs,h=>⟨[],xs,rfl,by simp[bo],h⟩
 |d::ds,es,xs,h=>by
  simp only[a6l,bo]at h;obtain⟨x,r,rfl,h2,h3⟩:=h;obtain⟨a,b,rfl,h4,h5⟩:=bo.split h3;exact⟨x::a,b,rfl,by simp only[bo];exact⟨x,a,rfl,h2,h4⟩,h5⟩
theorem U.encV_of:(u:U)->u.flat=true->(x:u.den)->{vs:List Value}->bo I w (u.enc x) vs->vs=u.encV x
 |.int _,_,x,vs,h=>by simp only[U.enc,bo,DVr]at h;obtain⟨y,r,rfl,⟨rfl,_⟩,rfl⟩:=h;rfl
 |.byte,_,x,vs,h=>by simp only[U.enc,bo,DVr]at h;obtain⟨y,r,rfl,⟨rfl,_⟩,rfl⟩:=h;rfl
 |.bool,_,x,vs,h=>by simp only[U.enc,bo,DVr]at h;obtain⟨y,r,rfl,⟨rfl,_⟩,rfl⟩:=h;rfl
 |.str,_,x,vs,h=>by simp only[U.enc,bo,DVr]at h;obtain⟨y,r,rfl,⟨rfl,_⟩,rfl⟩:=h;rfl
 |.sl _,hf,_,_,_=>by cases hf
 |.arr _ _,hf,_,_,_=>by cases hf
 |.pr a b,hf,x,vs,h=>by
  have hf':(a.flat&&b.flat)=true:=hf;rw[a5S]at hf';rw[U.enc]at h;obtain⟨p,q,rfl,h1,h2⟩:=bo.split h;rw[U.encV,a.encV_of hf'.1 _ h1,b.encV_of hf'.2 _ h2]
theorem U.encV_to:(u:U)->u.flat=true->(x:u.den)->bo I w (u.enc x) (u.encV x)
 |.int _,_,x=>by simp only[U.enc,U.encV,bo,DVr];exact⟨_,_,rfl,⟨rfl,rfl⟩,rfl⟩
 |.byte,_,x=>by simp only[U.enc,U.encV,bo,DVr];exact⟨_,_,rfl,⟨rfl,rfl⟩,rfl⟩
 |.bool,_,x=>by simp only[U.enc,U.encV,bo,DVr];exact⟨_,_,rfl,⟨rfl,rfl⟩,rfl⟩
 |.str,_,x=>by simp only[U.enc,U.encV,bo,DVr];exact⟨_,_,rfl,⟨rfl,rfl⟩,rfl⟩
 |.sl _,hf,_=>by cases hf
 |.arr _ _,hf,_=>by cases hf
 |.pr a b,hf,x=>by
  have hf':(a.flat&&b.flat)=true:=hf;rw[a5S]at hf';rw[U.enc,U.encV];exact bo.app (a.encV_to hf'.1 _) (b.encV_to hf'.2 _)
end
def B3(n:Int):Int:=IntKind.wrap .i64 n
def wu8(n:Int):Int:=IntKind.wrap .u8 n
def li(n:Int):Int:=IntKind.wrap .u32 n
def D4(n:Int):Int:=IntKind.wrap .u64 n
def Ok{α:Type}(o:Option α) (p:α->Prop):Prop:=∃r,o=some r/\p r
theorem Ok.mono{α:Type}{o:Option α}{p q:α->Prop}(h:Ok o p) (k:∀r,p r->q r):Ok o q:=by
 obtain⟨r,h1,h2⟩:=h;exact⟨r,h1,k r h2⟩
theorem A1{α:Type}(x:α) (p:α->Prop):Ok (some x) p↔p x:=⟨λ⟨r,h1,h2⟩=>by injection h1 with h1;rw[h1];exact h2,λh=>⟨x,rfl,h⟩⟩
theorem D8{α:Type}(b:Bool) (k:Option α) (p:α->Prop):Ok (chk b k) p↔b=true/\Ok k p:=by
 cases b
 ·exact⟨λ⟨r,h,_⟩=>(by cases h),λh=>(by cases h.1)⟩
 ·exact⟨λh=>⟨rfl,h⟩,λh=>h.2⟩
theorem A5{α:Type}(b:Bool) (x y:Option α) (p:α->Prop):Ok (sel b x y) p↔(b=true->Ok x p)/\(b=false->Ok y p):=by
 cases b
 ·exact⟨λh=>⟨λe=>(by cases e),λ_=>h⟩,λh=>h.2 rfl⟩
 ·exact⟨λh=>⟨λ_=>h,λe=>(by cases e)⟩,λh=>h.1 rfl⟩
theorem A4{α β:Type}(o:Option α) (f:α->Option β) (p:β->Prop):Ok (o.bind f) p↔Ok o λr=>Ok (f r) p:=by
 cases o with
 |none=>exact⟨λ⟨r,h,_⟩=>(by cases h),λ⟨r,h,_⟩=>(by cases h)⟩
 |some x=>rw[A1];exact Iff.rfl
theorem C4{α β:Type}(o:Option α) (f:α->β) (p:β->Prop):Ok (o.map f) p↔Ok o λr=>p (f r):=by
 cases o with
 |none=>exact⟨λ⟨r,h,_⟩=>(by cases h),λ⟨r,h,_⟩=>(by cases h)⟩
 |some x=>rw[A1,a6e,A1]
theorem J1{α:Type}{o:Option α}{x:α}:Ok o (· =x)↔o=some x:=⟨λ⟨r,h,e⟩=>by rw[h,e],λh=>⟨x,h,rfl⟩⟩
def Nxt{S R:Type}(p:R->Prop) (q:S->Prop):S⊕R->Prop
 |.inl z=>q z
 |.inr r=>p r
theorem A8{S R:Type}(p:R->Prop) (q:S->Prop) (z:S):Nxt p q (.inl z)=q z:=rfl
theorem B5{S R:Type}(p:R->Prop) (q:S->Prop) (r:R):Nxt p q (.inr r)=p r:=rfl
theorem sb{S R:Type}{G:S->Option (S⊕R)}{p:R->Prop}(inv:S->Prop) (m:S->Nat) (step:∀x,inv x->Ok (G x) (Nxt p λz=>inv z/\m z<m x)) :
  ∀{x:S},inv x->m x<1180591620717411303424->Ok (F8 G x) p:=by
 have key:∀(n:Nat) (x:S),inv x->m x<n->Ok (Hn n G x) p:=by
  intro n
  induction n with
  |zero=>intro x _ h;omega
  |succ n ih=>
   intro x hi hm;obtain⟨y,hy,h⟩:=step x hi;unfold Hn;rw[hy];cases y with
   |inl z=>exact ih z h.1 (by have:=h.2;omega)
   |inr r=>exact⟨r,rfl,h⟩
 intro x hi hm;show Ok (Hn PW G x) p;rw[DQ];exact key _ x hi hm
theorem D9{n:Int}(h0: -9223372036854775808<=n) (h1:n<=9223372036854775807):B3 n=n:=by
 rw[B3,IntKind.wrap_i64];omega
theorem Q0{n:Int}(h0:0<=n) (h1:n<18446744073709551616):D4 n=n:=by
 rw[D4,IntKind.wrap_u64];omega
theorem a10{n:Int}(h0:0<=n) (h1:n<256):wu8 n=n:=by
 rw[wu8,IntKind.wrap_u8];omega
theorem Y2(n:Int):0<=D4 n/\D4 n<18446744073709551616:=by
 rw[D4,IntKind.wrap_u64];omega
theorem aJ(n:Int):0<=wu8 n/\wu8 n<256:=by
 rw[wu8,IntKind.wrap_u8];omega
theorem KQ(x:UInt8):(0:Int)<=((UInt8.toNat x:Nat):Int)/\((UInt8.toNat x:Nat):Int)<256:=by
 have:=x.toNat_lt;omega
end Go.Proofs.YtjbgdpjgfjnkbaaGreatDoor.Am
