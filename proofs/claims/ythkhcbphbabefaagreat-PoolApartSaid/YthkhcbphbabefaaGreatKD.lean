/- Texts laid together: TmCall, TmCall2, TmLay, TmExec, TmFn, TmVw, TmClone, TmFlat, TmCloneX, TmPlain, TmAid. No conditions. -/
import Derived.Test.YthkhcbphbabefaaGreatKC
import Derived.KernelRfl
namespace Go.Proofs.YthkhcbphbabefaaGreat.Am
open Go
def xR{α:Type}(p:List DV->Option (α×List DV)):List (List DV)->Option (List α)
 |[]=>some []
 |e::es=>(p e).bind λa=>(xR p es).map (a.1 :: ·)
def Lt{α:Type}(p:List DV->Option (α×List DV)):(n:Nat)->List DV->Option (Vector α n×List DV)
 |0,l=>some (#v[],l)
 |n+1,l=>(Lt p n l).bind λa=>(p a.2).map λb=>(a.1.push b.1,b.2)
def U.dec:(u:U)->List DV->Option (u.den×List DV)
 |.int _,l=>match l with
  |.v (.int _ n)::r=>some (n,r)
  |_=>none
 |.byte,l=>match l with
  |.v (.int _ n)::r=>some (UInt8.ofNat n.toNat,r)
  |_=>none
 |.bool,l=>match l with
  |.v (.bool b)::r=>some (b,r)
  |_=>none
 |.kv u,l=>match l with
  |.v y::r=>if h:opV y=true then some ((⟨y,h⟩,[]),r)else none
  |.kv y es::r=>if h:opV y=true then(xR u.dec es).map λx=>((⟨y,h⟩,x),r)else none
  |_=>none
 |.op,l=>match l with
  |.v y::r=>if h:opV y=true then some (⟨y,h⟩,r)else none
  |_=>none
 |.str,l=>match l with
  |.v (.string s)::r=>some (s.data.toList,r)
  |_=>none
 |.sl u,l=>match l with
  |.sl es::r=>(xR u.dec es).map λx=>(x,r)
  |_=>none
 |.ln u,l=>match l with
  |.sl []::r=>some ([],r)
  |.ln es::r=>(xR u.dec es).map λx=>(x,r)
  |_=>none
 |.pr a b,l=>(a.dec l).bind λx=>(b.dec x.2).map λy=>((x.1,y.1),y.2)
 |.arr n u,l=>Lt u.dec n l
theorem jx{α:Type}{p:List DV->Option (α×List DV)}{f:α->List DV}(h:∀x r,p (f x++r)=some (x,r)):∀(l:List α),xR p (l.map f)=some l
 |[]=>rfl
 |x::l=>by
  have:=h x [];rw[PO]at this;rw[PQ,xR,this,PS,jx h l];rfl
theorem zL{α:Type}{p:List DV->Option (α×List DV)}{f:α->List DV}(h:∀x r,p (f x++r)=some (x,r)):∀(n:Nat) (v:Vector α n) (r:List DV),Lt p n (v.toList.flatMap f++r)=some (v,r)
 |0,v,r=>by
  have:v= #v[]:=by ext i hi;omega
  subst this;rfl
 |n+1,v,r=>by
  have e:v=v.pop.push v.back:=(Vector.push_pop_back v).symm;rw[e,SU,RV,Qe,Lt,zL h n v.pop,PS];simp only[QB,List.flatMap_nil,PO,h,Qm]
theorem Dj(x:UInt8) (r:List DV):some (UInt8.ofNat ((UInt8.toNat x:Nat):Int).toNat,r)=some (x,r):=by
 rw[PY,UInt8.ofNat_toNat]
theorem U.dec_enc:∀(u:U) (x:u.den) (r:List DV),u.dec (u.enc x++r)=some (x,r)
 |.int _,_,_=>rfl
 |.byte,x,r=>Dj x r
 |.bool,_,_=>rfl
 |.op,x,r=>dif_pos x.2
 |.kv u,(v,l),r=>by
  cases l with
  |nil=>exact dif_pos v.2
  |cons x l=>
   show(if h:opV v.1=true then(xR u.dec (List.map u.enc (x::l))).map (λz=>((⟨v.1,h⟩,z),r))else none)=some ((v,x::l),r)
   rw[dif_pos v.2,jx (U.dec_enc u) (x::l)];rfl
 |.str,_,_=>rfl
 |.sl u,l,r=>by
  show(xR u.dec (List.map u.enc l)).map (λx=>(x,r))=some (l,r);rw[jx (U.dec_enc u) l];rfl
 |.ln u,l,r=>by
  cases l with
  |nil=>rfl
  |cons x l=>
   show(xR u.dec (List.map u.enc (x::l))).map (λx=>(x,r))=some (x::l,r);rw[jx (U.dec_enc u) (x::l)];rfl
 |.pr a b,x,r=>by
  show(a.dec ((a.enc x.1++b.enc x.2)++r)).bind (λy=>(b.dec y.2).map λz=>((y.1,z.1),z.2))=some (x,r);rw[Qe,U.dec_enc a,PS,U.dec_enc b];rfl
 |.arr n u,v,r=>zL (U.dec_enc u) n v r
mutual
inductive OT where
 |d (u:U)
 |npt
 |it (t:TypeId) (u:U) (h:u.size=1)
 |fn (f:FuncId)
 |clo (f:FuncId) (u:U)
 |e (u:U)
 |row (u:U) (e:TypeId)
 |box (ts:OTs)
inductive OTs where
 |nil
 |cons (t:OT) (ts:OTs)
end
mutual
def OT.den:OT->Type
 |.d u=>u.den
 |.fn _=>Unit
 |.npt=>Unit
 |.it _ u _=>u.den
 |.clo _ u=>u.den
 |.e u=>u.den
 |.row u _=>List u.den
 |.box ts=>ts.den
def OTs.den:OTs->Type
 |.nil=>Unit
 |.cons t ts=>t.den×ts.den
end
mutual
def OT.ocs:(t:OT)->t.den->List OC
 |.d u,x=>(u.enc x).map .d
 |.fn f,_=>[.d (.v (.func (.func f) #[] #[]))]
 |.npt,_=>[.d (.v (.pointer none))]
 |.it t u _,x=>[.d (.it t (oL (u.enc x)))]
 |.clo f u,x=>[.d (.clo f (u.enc x))]
 |.e u,x=>[.e (u.enc x)]
 |.row u e,l=>[.row u.size e (List.map u.enc l)]
 |.box ts,x=>[.box (ts.ocs x)]
def OTs.ocs:(ts:OTs)->ts.den->List OC
 |.nil,_=>[]
 |.cons t ts,x=>t.ocs x.1++ts.ocs x.2
end
mutual
def OT.sh:OT->List CSh
 |.d u=>List.replicate u.size .D
 |.fn _=>[.D]
 |.npt=>[.D]
 |.it _ _ _=>[.D]
 |.clo _ _=>[.D]
 |.e _=>[.E]
 |.row u e=>[.R u.size e]
 |.box ts=>[.B ts.sh]
def OTs.sh:OTs->List CSh
 |.nil=>[]
 |.cons t ts=>t.sh++ts.sh
end
def unD:List OC->Option (List DV)
 |[]=>some []
 |.d x::r=>(unD r).map (x :: ·)
 |_::_=>none
theorem EY:∀(l:List DV),unD (l.map .d)=some l
 |[]=>rfl
 |x::l=>by rw[PQ,unD,EY l];rfl
mutual
def OT.dec:(t:OT)->List OC->Option (t.den×List OC)
 |.d u,l=>(unD (l.take u.size)).bind λds=>(u.dec ds).map λx=>(x.1,l.drop u.size)
 |.fn _,l=>some ((),l.drop 1)
 |.npt,l=>some ((),l.drop 1)
 |.it _ u _,l=>match l with
  |.d (.it _ d)::r=>(u.dec [d]).map λy=>(y.1,r)
  |_=>none
 |.clo _ u,l=>match l with
  |.d (.clo _ ds)::r=>(u.dec ds).map λy=>(y.1,r)
  |_=>none
 |.e u,l=>match l with
  |.e ds::r=>(u.dec ds).map λy=>(y.1,r)
  |_=>none
 |.row u _,l=>match l with
  |.row _ _ es::r=>(xR u.dec es).map λx=>(x,r)
  |_=>none
 |.box ts,l=>match l with
  |.box cs::r=>(ts.dec cs).map λx=>(x.1,r)
  |_=>none
def OTs.dec:(ts:OTs)->List OC->Option (ts.den×List OC)
 |.nil,l=>some ((),l)
 |.cons t ts,l=>(t.dec l).bind λx=>(ts.dec x.2).map λy=>((x.1,y.1),y.2)
end
theorem Me(u:U) (x:u.den) (r:List OC):(unD ((((u.enc x).map OC.d)++r).take u.size)).bind (λds=>(u.dec ds).map λy=>(y.1,(((u.enc x).map OC.d)++r).drop u.size))=some (x,r):=by
 have hl:((u.enc x).map OC.d).length=u.size:=by rw[PR,U.enc_len]
 rw[<-hl,QU,QR,EY,PS];have:=U.dec_enc u x [];rw[PO]at this;rw[this];rfl
theorem Mf(u:U) (x:u.den):((u.enc x).map OC.d).length=(List.replicate u.size CSh.D).length:=by
 rw[PR,U.enc_len,QL]
theorem zM(u:U) (x:u.den) (r:List OC):(u.dec (u.enc x)).map (λy=>(y.1,r))=some (x,r):=by
 have h1:=U.dec_enc u x [];rw[PO]at h1;rw[h1];rfl
theorem Jq(u:U) (h:u.size=1) (x:u.den) (r:List OC):(u.dec [oL (u.enc x)]).map (λy=>(y.1,r))=some (x,r):=by
 have h1:=U.dec_enc u x [];rw[PO]at h1;rw[uS (ds:=u.enc x) (by rw[U.enc_len,h]),h1];rfl
mutual
theorem OT.dec_ocs:∀(t:OT) (x:t.den) (r:List OC),t.dec (t.ocs x++r)=some (x,r)
 |.d u,x,r=>Me u x r
 |.fn _,_,_=>rfl
 |.npt,_,_=>rfl
 |.it t u h,x,r=>by
  exact Jq u h x r
 |.clo f u,x,r=>zM u x r
 |.e u,x,r=>zM u x r
 |.row u _,l,r=>by
  show(xR u.dec (List.map u.enc l)).map (λx=>(x,r))=some (l,r);rw[jx (U.dec_enc u) l];rfl
 |.box ts,x,r=>by
  show(ts.dec (ts.ocs x)).map (λy=>(y.1,r))=some (x,r);have:=OTs.dec_ocs ts x [];rw[PO]at this;rw[this];rfl
theorem OTs.dec_ocs:∀(ts:OTs) (x:ts.den) (r:List OC),ts.dec (ts.ocs x++r)=some (x,r)
 |.nil,_,_=>rfl
 |.cons t ts,x,r=>by
  show(t.dec ((t.ocs x.1++ts.ocs x.2)++r)).bind (λy=>(ts.dec y.2).map λz=>((y.1,z.1),z.2))=some (x,r);rw[Qe,OT.dec_ocs t,PS,OTs.dec_ocs ts];rfl
end
def xe:List OC->OC
 |[x]=>x
 |_=>.row 0 0 []
inductive AT where
 |c (t:OT)
 |agg (ts:OTs)
 |bx (ts:OTs)
 |rx (u:U) (e:TypeId)
def AT.den:AT->Type
 |.c t=>t.den
 |.agg ts=>ts.den
 |.bx ts=>ts.den
 |.rx u _=>List u.den
def AT.oa:(t:AT)->t.den->OA
 |.c t,x=>.c (xe (t.ocs x))
 |.agg ts,x=>.agg (ts.ocs x)
 |.bx ts,x=>.bx (ts.ocs x)
 |.rx u e,l=>.rx u.size e (List.map u.enc l)
def AT.ok:AT->Bool
 |.c t=>Nat.beq t.sh.length 1
 |_=>true
def AT.ash:AT->ASh
 |.c t=>.c (t.sh.headD .D)
 |.agg ts=>.agg ts.sh
 |.bx ts=>.bx ts.sh
 |.rx u e=>.rx u.size e
def AT.dec:(t:AT)->OA->Option t.den
 |.c t,x=>match x with
  |.c y=>(t.dec [y]).map (·.1)
  |_=>none
 |.agg ts,x=>match x with
  |.agg ys=>(ts.dec ys).map (·.1)
  |_=>none
 |.bx ts,x=>match x with
  |.bx ys=>(ts.dec ys).map (·.1)
  |_=>none
 |.rx u _,x=>match x with
  |.rx _ _ es=>xR u.dec es
  |_=>none
mutual
theorem OT.len:∀(t:OT) (x:t.den),(t.ocs x).length=t.sh.length
 |.d u,x=>Mf u x
 |.fn _,_=>rfl
 |.npt,_=>rfl
 |.it _ _ _,_=>rfl
 |.clo _ _,_=>rfl
 |.e _,_=>rfl
 |.row _ _,_=>rfl
 |.box _,_=>rfl
theorem OTs.len:∀(ts:OTs) (x:ts.den),(ts.ocs x).length=ts.sh.length
 |.nil,_=>rfl
 |.cons t ts,x=>by
  show(t.ocs x.1++ts.ocs x.2).length=(t.sh++ts.sh).length;rw[PU,PU,OT.len t,OTs.len ts]
end
theorem fN{l:List OC}(h:l.length=1):l=[xe l]:=by
 match l,h with
 |[x],_=>rfl
theorem AT.dec_oa(t:AT) (hk:t.ok=true) (x:t.den):t.dec (t.oa x)=some x:=by
 cases t with
 |c t=>
  have h1:(t.ocs x).length=1:=by rw[OT.len t x];exact PL hk
  have:=OT.dec_ocs t x [];rw[PO,fN h1]at this;show(t.dec [xe (t.ocs x)]).map (·.1)=some x;rw[this];rfl
 |agg ts=>
  have:=OTs.dec_ocs ts x [];rw[PO]at this;show(ts.dec (ts.ocs x)).map (·.1)=some x;rw[this];rfl
 |bx ts=>
  have:=OTs.dec_ocs ts x [];rw[PO]at this;show(ts.dec (ts.ocs x)).map (·.1)=some x;rw[this];rfl
 |rx u e=>exact jx (U.dec_enc u) x
inductive ATs where
 |nil
 |cons (t:AT) (ts:ATs)
def ATs.den:ATs->Type
 |.nil=>Unit
 |.cons t ts=>t.den×ts.den
def ATs.oas:(ts:ATs)->ts.den->List OA
 |.nil,_=>[]
 |.cons t ts,x=>t.oa x.1::ts.oas x.2
def ATs.ok:ATs->Bool
 |.nil=>true
 |.cons t ts=>t.ok&&ts.ok
def ATs.sh:ATs->List ASh
 |.nil=>[]
 |.cons t ts=>t.ash::ts.sh
def ATs.dec:(ts:ATs)->List OA->Option ts.den
 |.nil,_=>some ()
 |.cons t ts,l=>match l with
  |x::r=>(t.dec x).bind λa=>(ts.dec r).map λb=>(a,b)
  |[]=>none
theorem ATs.dec_oas:∀(ts:ATs),ts.ok=true->∀(x:ts.den),ts.dec (ts.oas x)=some x
 |.nil,_,_=>rfl
 |.cons t ts,h,x=>by
  simp only[ATs.ok,PM]at h;show(t.dec (t.oa x.1)).bind (λa=>(ts.dec (ts.oas x.2)).map λb=>(a,b))=some x;rw[AT.dec_oa t h.1,PS,ATs.dec_oas ts h.2];rfl
inductive PTs where
 |nil
 |cons (t:OTs) (ts:PTs)
 |rcons (u:U) (e:TypeId) (ts:PTs)
def PTs.den:PTs->Type
 |.nil=>Unit
 |.cons t ts=>t.den×ts.den
 |.rcons u _ ts=>List u.den×ts.den
def PTs.ocs:(ts:PTs)->ts.den->List OA
 |.nil,_=>[]
 |.cons t ts,x=>.bx (t.ocs x.1)::ts.ocs x.2
 |.rcons u e ts,x=>.rx u.size e (List.map u.enc x.1)::ts.ocs x.2
structure TFn:Type 1 where
 args:ATs
 posts:PTs
 res:ATs
 R:Type
 G:args.den->Option R
 out:R->posts.den×res.den
 sp:Sp
def U.noSl:U->Bool
 |.sl _=>false
 |.kv _=>false
 |.ln _=>false
 |.pr a b=>a.noSl&&b.noSl
 |.arr _ u=>u.noSl
 |_=>true
theorem U.noSl_ok:∀(u:U),u.noSl=true->∀(x:u.den),(List.map OC.d (u.enc x)).all jR=true
 |.int _,_,_=>rfl
 |.byte,_,_=>rfl
 |.bool,_,_=>rfl
 |.op,_,_=>rfl
 |.str,_,_=>rfl
 |.sl _,h,_=>by cases h
 |.kv _,h,_=>by cases h
 |.ln _,h,_=>by cases h
 |.pr a b,h,x=>by
  have h':(a.noSl&&b.noSl)=true:=h;rw[PM]at h';rw[U.enc,PV,Tr,a.noSl_ok h'.1,b.noSl_ok h'.2];rfl
 |.arr n u,h,v=>by
  have h':u.noSl=true:=h;rw[U.enc,Sg];intro c hc;obtain⟨d,hd,rfl⟩:=List.mem_map.1 hc;obtain⟨y,_,hy⟩:=List.mem_flatMap.1 hd;exact List.all_eq_true.1 (u.noSl_ok h' y) _ (List.mem_map.2 ⟨d,hy,rfl⟩)
def OT.flat:OT->Bool
 |.d u=>u.noSl
 |_=>false
theorem OT.flat_ok(t:OT) (h:t.flat=true) (x:t.den):(t.ocs x).all jR=true:=by
 cases t <;> first | cases h | skip
 case d u=>exact u.noSl_ok h x
def OTs.flat:OTs->Bool
 |.nil=>true
 |.cons t ts=>t.flat&&ts.flat
theorem OTs.flat_ok:∀(ts:OTs),ts.flat=true->∀(x:ts.den),(ts.ocs x).all jR=true
 |.nil,_,_=>rfl
 |.cons t ts,h,x=>by
  have h':(t.flat&&ts.flat)=true:=h;rw[PM]at h';rw[OTs.ocs,Tr,t.flat_ok h'.1,ts.flat_ok h'.2];rfl
def AT.flat:AT->Bool
 |.c t=>t.flat
 |.agg ts=>ts.flat
 |_=>false
def ATs.flat:ATs->Bool
 |.nil=>true
 |.cons t ts=>t.flat&&ts.flat
def PTs.isNil:PTs->Bool
 |.nil=>true
 |_=>false
theorem PTs.isNil_ok(ts:PTs) (h:ts.isNil=true) (x:ts.den):ts.ocs x=[]:=by
 cases ts <;> first | rfl | cases h
def TFn.flat(S:TFn):Bool:=S.posts.isNil&&S.res.flat
def TFn.val(S:TFn) (xs:List OA):Option S.R:=(S.args.dec xs).bind S.G
def TFn.spec(S:TFn):fg:=⟨S.args.sh,λxs=>∃a r,xs=S.args.oas a/\S.G a=some r,
 λxs=>match S.val xs with | some r=>S.posts.ocs (S.out r).1 | none=>[],λxs=>match S.val xs with | some r=>S.res.oas (S.out r).2 | none=>[],S.sp,S.flat⟩
theorem TFn.val_of{S:TFn}(hk:S.args.ok=true){a:S.args.den}{r:S.R}(h:S.G a=some r):S.val (S.args.oas a)=some r:=by
 unfold TFn.val;rw[ATs.dec_oas _ hk,PS,h]
theorem TFn.post_of{S:TFn}(hk:S.args.ok=true){a:S.args.den}{r:S.R}(h:S.G a=some r):S.spec.post (S.args.oas a)=S.posts.ocs (S.out r).1:=by
 show(match S.val (S.args.oas a)with | some r=>S.posts.ocs (S.out r).1 | none=>[])=_
 rw[S.val_of hk h]
theorem TFn.res_of{S:TFn}(hk:S.args.ok=true){a:S.args.den}{r:S.R}(h:S.G a=some r):S.spec.res (S.args.oas a)=S.res.oas (S.out r).2:=by
 show(match S.val (S.args.oas a)with | some r=>S.res.oas (S.out r).2 | none=>[])=_
 rw[S.val_of hk h]
structure Tt (α:Type) where
 x:α
 rest:List TC
 fz:List Nat
 ids:List (Nat⊕Nat)
mutual
def lM:(t:OT)->List TC->TQ (Tt t.den)
 |.d u,ps=>(wO u ps).bind λp=>.ret ⟨p.x,p.rest,p.fz,[]⟩
 |.npt,ps=>match ps with
  |.npt::rest=>.ret ⟨(),rest,[],[]⟩
  |_=>.fail
 |.it t u _,ps=>match ps with
  |.it t' v x::rest=>match decEq t' t with
   |.isTrue _=>match decEq v u with
    |.isTrue hu=>.ret ⟨de hu x,rest,[],[]⟩
    |.isFalse _=>.fail
   |.isFalse _=>.fail
  |_=>.fail
 |.clo f u,ps=>match ps with
  |.clo g v x::rest=>match decEq g f with
   |.isTrue _=>match decEq v u with
    |.isTrue hu=>.ret ⟨de hu x,rest,[],[]⟩
    |.isFalse _=>.fail
   |.isFalse _=>.fail
  |_=>.fail
 |.e u,ps=>match ps with
  |.ep v x off::rest=>match decEq v u with
   |.isTrue hu=>.req (Nat.beq off 0) (.ret ⟨de hu x,rest,[],[]⟩)
   |.isFalse _=>.fail
  |_=>.fail
 |.fn f,ps=>match ps with
  |.fn g::rest=>match decEq g f with
   |.isTrue _=>.ret ⟨(),rest,[],[]⟩
   |.isFalse _=>.fail
  |_=>.fail
 |.row u e,ps=>match ps with
  |.row id ver::rest=>.rdR id λr=>match r.c with
   |some R=>match decEq R.u u with
    |.isTrue h=>.req (Nat.beq ver r.ver&&Nat.beq R.e e && !R.fr) (.ret ⟨(h▸R.l:List u.den),rest,[],[.inr id]⟩)
    |.isFalse _=>.fail
   |none=>.fail
  |.nil::rest=>.req (decide (0<u.size/\e<Q7)) (.ret ⟨([]:List u.den),rest,[],[]⟩)
  |_=>.fail
 |.box ts,ps=>match ps with
  |.ptr id ver off::rest=>.rdB id λb=>match b.c with
   |some qs=>(nG ts qs).bind λk=>.req (k.rest.isEmpty&&Nat.beq ver b.ver&&Nat.beq off 0) (.ret ⟨k.x,rest,k.fz,.inl id::k.ids⟩)
   |none=>.fail
  |_=>.fail
def nG:(ts:OTs)->List TC->TQ (Tt ts.den)
 |.nil,ps=>.ret ⟨(),ps,[],[]⟩
 |.cons t ts,ps=>(lM t ps).bind λp=>(nG ts p.rest).bind λq=>.ret ⟨(p.x,q.x),q.rest,p.fz++q.fz,p.ids++q.ids⟩
end
theorem nH{s:St}{K:Tks->List J5->Prop}:∀(a b:List CSh) (x y:List AC){tr:List J5},((P9 a x).wpt s tr λk rs=>(P9 b y).wpt s rs λm rs'=>K ⟨k.ocs++m.ocs,k.fz++m.fz,k.ids++m.ids⟩ rs')->(P9 (a++b) (x++y)).wpt s tr K
 |[],b,[],y,tr,h=>by simpa only[P9,Q.wpt,QT]using h
 |[],b,_::_,y,tr,h=>by simp only[P9,Q.wpt]at h
 |_::_,b,[],y,tr,h=>by simp only[P9,Q.wpt]at h
 |c::a,b,x::xs,y,tr,h=>by
  simp only[Qu,P9,Q.wpt_bind,Q.wpt]at h⊢;refine Q.wpt_mono h λd rs h1=>?_;refine nH a b xs y (Q.wpt_mono h1 λe rs' h2=>?_);refine Q.wpt_mono h2 λg rs'' h3=>?_;simpa only[Qu,Qe]using h3
theorem vn{s:St}{K:Tks->List J5->Prop}:∀(xs:List AC){tr:List J5},((fC xs).wpt s tr λd rs=>K ⟨d.1.map .d,d.2,[]⟩ rs)->(P9 (List.replicate xs.length .D) xs).wpt s tr K
 |[],_,h=>h
 |x::xs,tr,h=>by
  simp only[fC,Q.wpt_bind,Q.wpt]at h;simp only[Qg,RG,P9,lr,Q.wpt_bind,Q.wpt];refine Q.wpt_mono h λd rs h1=>?_;refine vn xs (Q.wpt_mono h1 λe rs' h2=>?_);simpa only[PQ,PO]using h2
theorem vo{s:St}{K:List DV×List Nat->List J5->Prop}:∀(xs:List AC){tr:List J5},(fC xs).wpt s tr K->(fC xs).wpt s tr λd rs=>d.1.length=xs.length/\K d rs
 |[],_,h=>⟨rfl,h⟩
 |x::xs,tr,h=>by
  simp only[fC,Q.wpt_bind,Q.wpt]at h⊢;refine Q.wpt_mono h λd rs h1=>?_;refine Q.wpt_mono (vo xs h1) λe rs' h2=>?_;exact⟨by simp[h2.1],h2.2⟩
theorem Q.wpt_ex{α:Type}{q:Q α}{s:St}{K:α->List J5->Prop}:∀{tr:List J5},q.wpt s tr K->∃a rs,K a rs:=by
 induction q with
 |ret a=>exact λh=>⟨a,_,h⟩
 |rdT k g ih=>exact λh=>ih _ h
 |rdB k g ih=>exact λh=>ih _ h
 |rdR k g ih=>exact λh=>ih _ h
 |req p q ih=>exact λh=>ih h.2
 |fail=>exact λh=>h.elim
def NW{α:Type}(f:α->List OC) (sh:List CSh) (p:List TC->TQ (Tt α)):Prop:=∀(ps:List TC) (s:TSt) (tr:List J5) (K:Tt α->List J5->Prop),(p ps).wpt s tr K->
 ∃pre k rs,A6 ps=pre++A6 k.rest/\K k rs/\(P9 sh pre).wpt s.st tr λq rs'=>q=⟨f k.x,k.fz,k.ids⟩/\rs'=rs
mutual
theorem vq:∀(t:OT),NW t.ocs t.sh (lM t)
 |.d u,ps,s,tr,K,h=>by
  simp only[lM,TQ.wpt_bind]at h;obtain⟨pre,k,rs,e,h,d⟩:=lD u ps s tr _ h;refine⟨pre,_,rs,e,h,?_⟩;have d2:=vo pre d;obtain⟨x,rs',hl,hx,_⟩:=Q.wpt_ex d2;rw[hx,U.enc_len]at hl;show(P9 (List.replicate u.size .D) pre).wpt _ _ _;rw[hl];refine vn pre (Q.wpt_mono d ?_);rintro d rs ⟨rfl,rfl⟩;exact⟨rfl,rfl⟩
 |.npt,ps,s,tr,K,h=>by
  unfold lM at h;split at h
  ·exact⟨[_],_,tr,rfl,h,show(P9 [.D] [AC.d (.v (.pointer none))]).wpt _ _ _ from⟨rfl,rfl⟩⟩
  ·exact h.elim
 |.it t u hz,ps,s,tr,K,h=>by
  unfold lM at h;split at h
  ·split at h
   ·split at h
    ·rename_i e1 _ _ e2 _;subst e1;subst e2;exact⟨[_],_,tr,rfl,h,show(P9 [.D] [AC.d (.it _ (oL _))]).wpt _ _ _ from⟨rfl,rfl⟩⟩
    ·exact h.elim
   ·exact h.elim
  ·exact h.elim
 |.clo f u,ps,s,tr,K,h=>by
  unfold lM at h;split at h
  ·split at h
   ·split at h
    ·rename_i e1 _ _ e2 _;subst e1;subst e2;exact⟨[_],_,tr,rfl,h,show(P9 [.D] [AC.d (.clo _ (U.enc _ _))]).wpt _ _ _ from⟨rfl,rfl⟩⟩
    ·exact h.elim
   ·exact h.elim
  ·exact h.elim
 |.e u,ps,s,tr,K,h=>by
  unfold lM at h;split at h
  ·split at h
   ·rename_i e2 _;subst e2;obtain⟨h0,h⟩:=h;rw[PL h0];exact⟨[_],_,tr,rfl,h,show(P9 [.E] [AC.eptr (U.enc _ _)]).wpt _ _ _ from⟨rfl,rfl⟩⟩
   ·exact h.elim
  ·exact h.elim
 |.fn f,ps,s,tr,K,h=>by
  unfold lM at h;split at h
  ·split at h
   ·rename_i hg _;subst hg;exact⟨[_],_,tr,rfl,h,show(P9 [.D] [AC.d (.v (.func (.func _) #[] #[]))]).wpt _ _ _ from⟨rfl,rfl⟩⟩
   ·exact h.elim
  ·exact h.elim
 |.row u e,ps,s,tr,K,h=>by
  unfold lM at h;split at h
  ·rename_i id ver rest;simp only[TQ.wpt]at h;split at h
   ·rename_i R hR;split at h
    ·rename_i hu _;obtain⟨h1,h2⟩:=h;simp only[PM]at h1;refine⟨[.row id ver],_,_,rfl,h2,?_⟩;have hc:(s.st.r id).c=some R.row:=by show(s.r id).c.map kn.row=_;rw[hR];rfl
     simp only[OT.sh,P9,lr,Q.bind,Q.wpt];rw[hc];subst hu;refine⟨⟨PL h1.1.1,rfl,PL h1.1.2,by show R.fr=false;simpa using h1.2⟩,rfl,rfl⟩
    ·exact h.elim
   ·exact h.elim
  ·rename_i rest;obtain⟨h1,h2⟩:=h;exact⟨[.nil],_,tr,rfl,h2,PN h1,rfl,rfl⟩
  ·exact h.elim
 |.box ts,ps,s,tr,K,h=>by
  unfold lM at h;split at h
  ·rename_i id ver off rest;simp only[TQ.wpt]at h;split at h
   ·rename_i qs hq;rw[TQ.wpt_bind]at h;obtain⟨pre,k,rs,e,h,d⟩:=iL ts qs s _ _ h;obtain⟨h1,h2⟩:=h;simp only[PM]at h1;have hr:=List.isEmpty_iff.1 h1.1.1;rw[hr]at e;have e:A6 qs=pre:=e.trans (PO _);refine⟨[.ptr id ver off],_,_,rfl,h2,?_⟩;have hc:(s.st.b id).c=some (A6 qs):=by show(s.b id).c.map A6=_;rw[hq];rfl
    simp only[OT.sh,P9,lr,Q.wpt_bind,Q.wpt];rw[hc,e];simp only[Q.wpt_bind];refine Q.wpt_mono d ?_;rintro q rs' ⟨rfl,rfl⟩;exact⟨⟨PL h1.1.2,PL h1.2⟩,by simp only[PO];rfl,rfl⟩
   ·exact h.elim
  ·exact h.elim
theorem iL:∀(ts:OTs),NW ts.ocs ts.sh (nG ts)
 |.nil,ps,s,tr,K,h=>⟨[],_,tr,rfl,h,rfl,rfl⟩
 |.cons t ts,ps,s,tr,K,h=>by
  simp only[nG,TQ.wpt_bind]at h;obtain⟨pre1,k1,rs1,e1,h,d1⟩:=vq t ps s tr _ h;obtain⟨pre2,k2,rs2,e2,h,d2⟩:=iL ts _ s rs1 _ h;refine⟨pre1++pre2,_,rs2,by rw[e1,e2,Qe],h,nH _ _ _ _ (Q.wpt_mono d1 ?_)⟩;rintro q rs ⟨rfl,rfl⟩;refine Q.wpt_mono d2 ?_;rintro q rs ⟨rfl,rfl⟩;exact⟨rfl,rfl⟩
end
structure Tta (α:Type) where
 x:α
 fz:List Nat
 ids:List (Nat⊕Nat)
 tops:List (Nat⊕Nat)
def nI:(t:AT)->TV->TQ (Tta t.den)
 |.c t,v=>match v with
  |.o (.c x)=>.req (is1 x) ((lM t [x]).bind λk=>.req (k.rest.isEmpty) (.ret ⟨k.x,k.fz,k.ids,[]⟩))
  |_=>.fail
 |.agg ts,v=>match v with
  |.o (.agg ps)=>(nG ts ps).bind λk=>.req (k.rest.isEmpty) (.ret ⟨k.x,k.fz,k.ids,[]⟩)
  |_=>.fail
 |.bx ts,v=>match v with
  |.o (.c (.ptr id ver off))=>.rdB id λb=>match b.c with
   |some qs=>(nG ts qs).bind λk=>.req (k.rest.isEmpty&&Nat.beq ver b.ver&&Nat.beq off 0) (.ret ⟨k.x,k.fz,k.ids,[.inl id]⟩)
   |none=>.fail
  |_=>.fail
 |.rx u e,v=>match v with
  |.o (.c (.row id ver))=>.rdR id λr=>match r.c with
   |some R=>match decEq R.u u with
    |.isTrue h=>.req (Nat.beq ver r.ver&&Nat.beq R.e e && !R.fr&&Nat.blt e Q7) (.ret ⟨(h▸R.l:List u.den),[],[],[.inr id]⟩)
    |.isFalse _=>.fail
   |none=>.fail
  |_=>.fail
theorem xf(t:AT) (hk:t.ok=true) (v:TV):Sim (λk:Tta t.den=>(⟨t.oa k.x,k.fz,k.ids,k.tops⟩:Ta)) (nI t v) (CE t.ash v.av):=by
 cases t with
 |c t=>
  unfold nI;simp only;split
  ·rename_i x;refine Sim.chk λh1 s tr K hK=>?_;rw[TQ.wpt_bind]at hK;obtain⟨pre,k,rs,e,hK,d⟩:=vq t _ s tr _ hK;obtain⟨h2,h3⟩:=hK;rw[List.isEmpty_iff.1 h2]at e;have e:A6 [x]=pre:=e.trans (PO _);have e0:A6 [x]=[aa x.cells]:=(PO _).trans (jU h1);rw[<-e,e0]at d;have hl:t.sh.length=1:=PL hk
   match hs:t.sh,hl with
   |[c],_=>
    have hocs:t.ocs k.x=[xe (t.ocs k.x)]:=fN (by rw[OT.len,hs];rfl);rw[hs]at d;simp only[P9,Q.wpt_bind,Q.wpt]at d;show((lr (t.sh.headD .D) (aa x.cells)).bind λk=>Q.ret (⟨.c k.oc,k.fz,k.ids,[]⟩:Ta)).wpt _ _ _;rw[hs,Q.wpt_bind];refine Q.wpt_mono d ?_;rintro q rs' ⟨hq,rfl⟩;rw[hocs]at hq;injection hq with q1 q2 q3;injection q1 with q1 _;refine⟨_,?_,h3⟩;simp only[PO]at q2 q3;show(⟨.c q.oc,q.fz,q.ids,[]⟩:Ta)=⟨.c (xe (t.ocs k.x)),k.fz,k.ids,[]⟩;rw[q1,q2,q3]
  ·exact Sim.fail
 |agg ts=>
  unfold nI;simp only;split
  ·rename_i ps;intro s tr K hK;rw[TQ.wpt_bind]at hK;obtain⟨pre,k,rs,e,hK,d⟩:=iL ts _ s tr _ hK;obtain⟨h2,h3⟩:=hK;rw[List.isEmpty_iff.1 h2]at e;have e:A6 ps=pre:=e.trans (PO _);rw[<-e]at d;show((P9 ts.sh (A6 ps)).bind λk=>Q.ret (⟨.agg k.ocs,k.fz,k.ids,[]⟩:Ta)).wpt _ _ _;rw[Q.wpt_bind];refine Q.wpt_mono d ?_;rintro q rs' ⟨rfl,rfl⟩;exact⟨_,rfl,h3⟩
  ·exact Sim.fail
 |bx ts=>
  unfold nI;simp only;split
  ·rename_i id ver off;refine Sim.rdB λb=>?_;obtain⟨bv,c⟩:=b;cases c with
   |none=>exact Sim.fail
   |some qs=>
    intro s tr K hK;simp only at hK;rw[TQ.wpt_bind]at hK;obtain⟨pre,k,rs,e,hK,d⟩:=iL ts _ s tr _ hK;obtain⟨h2,h3⟩:=hK;simp only[PM]at h2;rw[List.isEmpty_iff.1 h2.1.1]at e;have e:A6 qs=pre:=e.trans (PO _);rw[<-e]at d;show((P9 ts.sh (A6 qs)).bind λk=>Q.req (ver=bv/\off=0) (.ret (⟨.bx k.ocs,k.fz,k.ids,[.inl id]⟩:Ta))).wpt _ _ _;rw[Q.wpt_bind];refine Q.wpt_mono d ?_;rintro q rs' ⟨rfl,rfl⟩;exact⟨⟨PL h2.1.2,PL h2.2⟩,_,rfl,h3⟩
  ·exact Sim.fail
 |rx u e=>
  unfold nI;simp only;split
  ·rename_i id ver;refine Sim.rdR λr=>?_;obtain⟨rv,c⟩:=r;cases c with
   |none=>exact Sim.fail
   |some R=>
    simp only;split
    ·rename_i hu _;subst hu;refine Sim.req (λh=>?_) λ_=>Sim.ret rfl;simp only[PM]at h;exact⟨PL h.1.1.1,rfl,PL h.1.1.2,by show R.fr=false;simpa using h.1.2,Qh h.2⟩
    ·exact Sim.fail
  ·exact Sim.fail
def ph:(ts:ATs)->List TV->TQ (Tta ts.den)
 |.nil,vs=>match vs with
  |[]=>.ret ⟨(),[],[],[]⟩
  |_=>.fail
 |.cons t ts,vs=>match vs with
  |v::vs=>(nI t v).bind λk=>(ph ts vs).bind λks=>.ret ⟨(k.x,ks.x),k.fz++ks.fz,k.ids++ks.ids,k.tops++ks.tops⟩
  |[]=>.fail
theorem gN:∀(ts:ATs),ts.ok=true->∀(vs:List TV),Sim (λk:Tta ts.den=>(⟨ts.oas k.x,k.fz,k.ids,k.tops⟩:Tas)) (ph ts vs) (ls ts.sh (vs.map TV.av))
 |.nil,_,[]=>Sim.ret rfl
 |.nil,_,_::_=>Sim.fail
 |.cons _ _,_,[]=>Sim.fail
 |.cons t ts,h,v::vs=>by
  simp only[ATs.ok,PM]at h;exact Sim.bind (xf t h.1 v) λk=>Sim.bind (gN ts h.2 vs) λks=>Sim.ret rfl
def Dk:List (Nat⊕Nat)->TQ (List P3)
 |[]=>.ret []
 |.inl id::ids=>.rdB id λb=>(Dk ids).bind λus=>.ret (.b id ⟨b.ver,none⟩::us)
 |.inr id::ids=>.rdR id λb=>(Dk ids).bind λus=>.ret (.r id ⟨b.ver,none⟩::us)
theorem lN:∀(ids:List (Nat⊕Nat)),Sim US (Dk ids) (sj ids)
 |[]=>Sim.ret rfl
 |.inl _id::ids=>Sim.rdB λ_b=>Sim.bind (lN ids) λ_us=>Sim.ret rfl
 |.inr _id::ids=>Sim.rdR λ_b=>Sim.bind (lN ids) λ_us=>Sim.ret rfl
def zN:Nat->List TC
 |0=>[]
 |n+1=>.junk::zN n
theorem vr{α:Type}:∀(l:List α),A6 (zN l.length)=l.map λ_=>AC.junk
 |[]=>rfl
 |x::l=>by rw[Qg,zN,A6,vr l];rfl
def Dl:List (Nat⊕Nat)->(ts:PTs)->ts.den->TQ (List P3)
 |[],.nil,_=>.ret []
 |.inl id::ids,.cons t ts,x=>.rdB id λb=>(Dl ids ts x.2).bind λus=>.ret (.b id ⟨b.ver,some (zN t.sh.length)⟩::us)
 |.inr id::ids,.rcons u e ts,x=>.req (Nat.blt e Q7) (.rdR id λr=>(Dl ids ts x.2).bind λus=>.ret (.r id ⟨r.ver,some ⟨u,x.1,e,false⟩⟩::us))
 |_,_,_=>.fail
theorem lO:∀(ids:List (Nat⊕Nat)) (ts:PTs) (x:ts.den),Sim US (Dl ids ts x) (mL ids (ts.ocs x))
 |[],.nil,_=>Sim.ret rfl
 |.inr id::ids,.rcons u e ts,x=>Sim.req (λh=>Qh h) λ_=>Sim.rdR λr=>Sim.bind (lO ids ts x.2) λus=>Sim.ret rfl
 |.inl id::ids,.cons t ts,x=>Sim.rdB λb=>Sim.bind (lO ids ts x.2) λus=>Sim.ret (by
   show Upd.b id ⟨b.ver,some ((t.ocs x.1).map λ_=>AC.junk)⟩::_=Upd.b id ⟨b.ver,some (A6 (zN t.sh.length))⟩::_;rw[<-vr,OTs.len];rfl)
 |[],.cons _ _,_=>Sim.fail
 |[],.rcons _ _ _,_=>Sim.fail
 |.inl _::_,.nil,_=>Sim.fail
 |.inr _::_,.nil,_=>Sim.fail
 |.inl _::_,.rcons _ _ _,_=>Sim.fail
 |.inr _::_,.cons _ _,_=>Sim.fail
structure Tmk where
 ps:List TC
 us:List P3
 m:Nat
mutual
def Ig(n:Nat):(t:OT)->t.den->TQ Tmk
 |.d u,x=>.ret ⟨[.ch u x],[],n⟩
 |.fn f,_=>.ret ⟨[.fn f],[],n⟩
 |.npt,_=>.ret ⟨[.npt],[],n⟩
 |.it t u _,x=>.ret ⟨[.it t u x],[],n⟩
 |.clo f u,x=>.ret ⟨[.clo f u x],[],n⟩
 |.e u,x=>.ret ⟨[.ep u x 0],[],n⟩
 |.row u e,l=>.req (Nat.blt e M2) (.rdR n λr=>.ret ⟨[.row n (r.ver+1)],[.r n ⟨r.ver+1,some ⟨u,l,e,false⟩⟩],n+1⟩)
 |.box ts,x=>.rdB n λb=>(tw (n+1) ts x).bind λk=>.ret ⟨[.ptr n (b.ver+1) 0],k.us++[.b n ⟨b.ver+1,some k.ps⟩],k.m⟩
def tw(n:Nat):(ts:OTs)->ts.den->TQ Tmk
 |.nil,_=>.ret ⟨[],[],n⟩
 |.cons t ts,x=>(Ig n t x.1).bind λk=>(tw k.m ts x.2).bind λks=>.ret ⟨k.ps++ks.ps,k.us++ks.us,ks.m⟩
end
def EZ(k:Tmk):Mks:=⟨A6 k.ps,US k.us,k.m⟩
theorem vu{s:St}{K:Mks->List J5->Prop}:∀(a b:List OC){n:Nat}{tr:List J5},((nv n a).wpt s tr λk rs=>(nv k.m b).wpt s rs λq rs'=>K ⟨k.acs++q.acs,k.us++q.us,q.m⟩ rs')->(nv n (a++b)).wpt s tr K
 |[],b,n,tr,h=>by simpa only[nv,Q.wpt,QT]using h
 |c::a,b,n,tr,h=>by
  simp only[Qu,nv,Q.wpt_bind,Q.wpt]at h⊢;refine Q.wpt_mono h λd rs h1=>?_;refine vu a b (Q.wpt_mono h1 λe rs' h2=>?_);refine Q.wpt_mono h2 λg rs'' h3=>?_;simpa only[Qu,Qe]using h3
theorem Fa{s:St}{K:Mks->List J5->Prop}{n:Nat}{tr:List J5}:∀(ds:List DV),K ⟨ds.map .d,[],n⟩ tr->(nv n (ds.map .d)).wpt s tr K
 |[],h=>h
 |d::ds,h=>by
  simp only[PQ,nv,mkC,Q.wpt_bind,Q.wpt];exact Fa (K:=λk rs=>K ⟨.d d::k.acs,[]++k.us,k.m⟩ rs) ds h
theorem er{s:St}{K:Mks->List J5->Prop}{n:Nat}{tr:List J5}{c:OC}(h:(mkC n c).wpt s tr λk rs=>K ⟨[k.ac],k.us,k.m⟩ rs):(nv n [c]).wpt s tr K:=by
 simp only[nv,Q.wpt_bind,Q.wpt];refine Q.wpt_mono h λk rs h1=>?_;simpa only[PO]using h1
theorem OX(u:U) (n:Nat) (x:u.den):(⟨(u.enc x).map .d,[],n⟩:Mks)=EZ ⟨[.ch u x],[],n⟩:=by
 unfold EZ;rw[Q0];rfl
mutual
theorem vv:∀(t:OT) (n:Nat) (x:t.den),Sim EZ (Ig n t x) (nv n (t.ocs x))
 |.d u,n,x=>λs tr K h=>Fa _ ⟨_,OX u n x,h⟩
 |.npt,n,x=>λs tr K h=>er (c:=.d (.v (.pointer none))) ⟨_,rfl,h⟩
 |.it t u _,n,x=>λs tr K h=>er (c:=.d (.it t (oL (u.enc x)))) ⟨_,rfl,h⟩
 |.clo f u,n,x=>λs tr K h=>er (c:=.d (.clo f (u.enc x))) ⟨_,rfl,h⟩
 |.e u,n,x=>λs tr K h=>er (c:=.e (u.enc x)) ⟨_,rfl,h⟩
 |.fn f,n,x=>λs tr K h=>er (c:=.d (.v (.func (.func f) #[] #[]))) ⟨_,rfl,h⟩
 |.row u e,n,l=>λs tr K h=>er (c:=.row u.size e (List.map u.enc l)) ⟨Qh h.1,_,rfl,h.2⟩
 |.box ts,n,x=>λs tr K h=>er (c:=.box (ts.ocs x)) (by
   have h:((tw (n+1) ts x).bind λk=>TQ.ret (⟨[.ptr n ((s.b n).ver+1) 0],k.us++[.b n ⟨(s.b n).ver+1,some k.ps⟩],k.m⟩:Tmk)).wpt s (.b n::tr) K:=h;rw[TQ.wpt_bind]at h;have h1:=iM ts (n+1) x s _ _ h;show((nv (n+1) (ts.ocs x)).bind λk=>Q.ret (⟨.ptr n ((s.b n).ver+1) 0,k.us++[.b n ⟨(s.b n).ver+1,some k.acs⟩],k.m⟩:Mk)).wpt s.st (.b n::tr) _;rw[Q.wpt_bind];refine Q.wpt_mono h1 ?_;rintro b rs ⟨a,rfl,hk⟩;refine⟨_,?_,hk⟩;simp only[EZ,US,PV,PQ,Qs];rfl)
theorem iM:∀(ts:OTs) (n:Nat) (x:ts.den),Sim EZ (tw n ts x) (nv n (ts.ocs x))
 |.nil,n,x=>λs tr K h=>⟨_,rfl,h⟩
 |.cons t ts,n,x=>λs tr K h=>by
  simp only[tw,TQ.wpt_bind]at h;refine vu (t.ocs x.1) (ts.ocs x.2) (Q.wpt_mono (vv t n x.1 s tr _ h) ?_);rintro b rs ⟨a,rfl,hk⟩;refine Q.wpt_mono (iM ts a.m x.2 s rs _ hk) ?_;rintro b rs ⟨a',rfl,hk⟩;refine⟨_,?_,hk⟩;simp only[EZ,US,PV,S8]
end
structure NX where
 us:List P3
 m:Nat
def Dm(n:Nat):List (Nat⊕Nat)->(ts:PTs)->ts.den->TQ NX
 |[],.nil,_=>.ret ⟨[],n⟩
 |.inl id::ids,.cons t ts,x=>(tw n t x.1).bind λk=>.req ((.inl id::ids).all λj=>Nat.blt (tid j) n||Nat.ble k.m (tid j)) (.rdB id λb=>(Dm k.m ids ts x.2).bind λp=>.ret ⟨k.us++(.b id ⟨b.ver,some k.ps⟩::p.us),p.m⟩)
 |.inr _::ids,.rcons _ _ ts,x=>Dm n ids ts x.2
 |_,_,_=>.fail
theorem lP:∀(ids:List (Nat⊕Nat)) (ts:PTs) (n:Nat) (x:ts.den),Sim (λp:NX=>(⟨US p.us,p.m⟩:Mps)) (Dm n ids ts x) (sk n ids (ts.ocs x))
 |[],.nil,n,_=>Sim.ret rfl
 |.inr _::ids,.rcons _ _ ts,n,x=>lP ids ts n x.2
 |.inl id::ids,.cons t ts,n,x=>Sim.bind (iM t n x.1) λk=>Sim.req (λh j hj=>by
   have h1:=List.all_eq_true.1 h j hj;rw[RI]at h1;rcases h1 with h1|h1
   ·exact .inl (Qh h1)
   ·exact .inr (Qh h1)) λ_=>Sim.rdB λb=>Sim.bind (lP ids ts k.m x.2) λp=>Sim.ret (by
   simp only[EZ,US,PV,PQ];rfl)
 |[],.cons _ _,_,_=>Sim.fail
 |[],.rcons _ _ _,_,_=>Sim.fail
 |.inl _::_,.nil,_,_=>Sim.fail
 |.inr _::_,.nil,_,_=>Sim.fail
 |.inl _::_,.rcons _ _ _,_,_=>Sim.fail
 |.inr _::_,.cons _ _,_,_=>Sim.fail
structure NY where
 v:T1
 us:List P3
 m:Nat
def NZ(n:Nat):(t:AT)->t.den->TQ NY
 |.c t,x=>(Ig n t x).bind λk=>match k.ps with
  |[p]=>.req (is1 p) (.ret ⟨.c p,k.us,k.m⟩)
  |_=>.fail
 |.agg ts,x=>(tw n ts x).bind λk=>.ret ⟨.agg k.ps,k.us,k.m⟩
 |.bx ts,x=>(Ig n (.box ts) x).bind λk=>match k.ps with
  |[p]=>.req (is1 p) (.ret ⟨.c p,k.us,k.m⟩)
  |_=>.fail
 |.rx u e,x=>(Ig n (.row u e) x).bind λk=>match k.ps with
  |[p]=>.req (is1 p) (.ret ⟨.c p,k.us,k.m⟩)
  |_=>.fail
def Lu(k:NY):Mka:=⟨k.v.av,US k.us,k.m⟩
theorem zO{s:St}{K:Mks->List J5->Prop}{n:Nat}{tr:List J5}{c:OC}(h:(nv n [c]).wpt s tr K):(mkC n c).wpt s tr λk rs=>K ⟨[k.ac],k.us,k.m⟩ rs:=by
 simp only[nv,Q.wpt_bind,Q.wpt]at h;refine Q.wpt_mono h λk rs h1=>?_;simpa only[PO]using h1
theorem pi(t:OT) (n:Nat) (x:t.den) (c:OC) (hc:t.ocs x=[c]):Sim Lu ((Ig n t x).bind λk=>match k.ps with
  |[p]=>.req (is1 p) (.ret ⟨.c p,k.us,k.m⟩)
  |_=>.fail) ((mkC n c).bind λk=>.ret ⟨.c k.ac,k.us,k.m⟩):=λs tr K h=>by
 rw[TQ.wpt_bind]at h;have h1:=vv t n x s tr _ h;rw[hc]at h1;rw[Q.wpt_bind];refine Q.wpt_mono (zO h1) ?_;rintro k rs ⟨a,ha,hk⟩;split at hk
 ·rename_i p hp;obtain⟨h2,h3⟩:=hk;refine⟨_,?_,h3⟩;have e0:A6 [p]=[aa p.cells]:=(PO _).trans (jU h2);simp only[EZ,hp,e0]at ha;injection ha with a1 a2 a3;injection a1 with a1 _;simp only[Lu,T1.av];rw[a1,a2,a3]
 ·exact hk.elim
theorem Dn(t:AT) (hk:t.ok=true) (n:Nat) (x:t.den):Sim Lu (NZ n t x) (mkA n (t.oa x)):=by
 cases t with
 |c t=>
  have h1:(t.ocs x).length=1:=by rw[OT.len t x];exact PL hk
  exact pi t n x _ (fN h1)
 |agg ts=>exact Sim.bind (iM ts n x) λk=>Sim.ret rfl
 |bx ts=>exact pi (.box ts) n x _ rfl
 |rx u e=>exact pi (.row u e) n x _ rfl
structure Do where
 vs:List T1
 us:List P3
 m:Nat
def xg(n:Nat):(ts:ATs)->ts.den->TQ Do
 |.nil,_=>.ret ⟨[],[],n⟩
 |.cons t ts,x=>(NZ n t x.1).bind λk=>(xg k.m ts x.2).bind λks=>.ret ⟨k.v::ks.vs,k.us++ks.us,ks.m⟩
def gb(k:Do):LQ:=⟨k.vs.map T1.av,US k.us,k.m⟩
theorem fh:∀(ts:ATs),ts.ok=true->∀(n:Nat) (x:ts.den),Sim gb (xg n ts x) (EI n (ts.oas x))
 |.nil,_,_,_=>Sim.ret rfl
 |.cons t ts,h,n,x=>by
  simp only[ATs.ok,PM]at h;exact Sim.bind (Dn t h.1 n x.1) λk=>Sim.bind (fh ts h.2 k.m x.2) λks=>Sim.ret (by simp only[Lu,gb,US,PV,PQ])
def GF(vs:List T1):TV:=match vs with
 |[v]=>.o v
 |vs=>.tup vs
theorem vz(vs:List T1):Ic (vs.map T1.av)=(GF vs).av:=by
 match vs with
 |[]=>rfl
 |[_]=>rfl
 |_::_::_=>rfl
def Ih(x:Nat⊕Nat):List (Nat⊕Nat)->Bool
 |[]=>false
 |y::r=>(match x,y with|.inl a,.inl b=>Nat.beq a b|.inr a,.inr b=>Nat.beq a b|_,_=>false)||Ih x r
theorem pj{x:Nat⊕Nat}:∀{l:List (Nat⊕Nat)},Ih x l=false->x∉l
 |[],_,h=>by simp at h
 |y::r,h,hm=>by
  simp only[Ih,SL]at h;rcases List.mem_cons.1 hm with e|hm
  ·subst e;have h1:=h.1;cases x <;> simp at h1
  ·exact pj h.2 hm
def qP:List (Nat⊕Nat)->Bool
 |[]=>true
 |x::r=> !Ih x r&&qP r
theorem lQ:∀{l:List (Nat⊕Nat)},qP l=true->l.Nodup
 |[],_=>QM
 |x::r,h=>by
  simp only[qP,PM,Qf]at h;exact List.nodup_cons.2 ⟨pj h.1,lQ h.2⟩
def GG(S:TFn) (o:Oper) (c:Call) (ex:List TV:=[]):TQ (List P3):=
 (Jh c.args.toList).bind λxs=>(ph S.args (xs++ex)).bind λk=>
 .req (qP (k.tops++k.ids)&&k.fz.all λid=> !Ih (Sum.inr id) (k.tops++k.ids))
 (.call (S.G k.x) λr=>match S.flat&&k.tops.isEmpty&&k.ids.isEmpty with
 |true=>(bJ k.fz).bind λ_=>(xg (kI o.dst) S.res (S.out r).2).bind λq=>.ret (q.us++Jg o.dst (GF q.vs))
 |false=>(bJ k.fz).bind λus1=>(Dk k.ids).bind λus2=>(Dl k.tops S.posts (S.out r).1).bind λus3=>(Dm (kI o.dst) k.tops S.posts (S.out r).1).bind λp=>(xg p.m S.res (S.out r).2).bind λq=>
 .ret (us1++us2++us3++p.us++q.us++Jg o.dst (GF q.vs)))
theorem AT.flat_ok(t:AT) (h:t.flat=true) (hk:t.ok=true) (x:t.den):nw (t.oa x)=true:=by
 cases t with
 |c t=>
  have h1:(t.ocs x).length=1:=by rw[OT.len t x];exact PL hk
  have h2:=fN h1;have h3:=t.flat_ok h x;rw[h2,Rc,PM]at h3;exact h3.1
 |agg ts=>exact ts.flat_ok h x
 |bx ts=>cases h
 |rx u e=>cases h
theorem ATs.flat_ok:∀(ts:ATs),ts.flat=true->ts.ok=true->∀(x:ts.den),(ts.oas x).all nw=true
 |.nil,_,_,_=>rfl
 |.cons t ts,h,hk,x=>by
  have h':(t.flat&&ts.flat)=true:=h;have hk':(t.ok&&ts.ok)=true:=hk;rw[PM]at h' hk';rw[ATs.oas,Rc,t.flat_ok h'.1 hk'.1,ts.flat_ok h'.2 hk'.2];rfl
theorem Sim.call{α β γ:Type}{f:α->β}{o:Option γ}{q':γ->TQ α}{q:Q β}(h:∀r,o=some r->Sim f (q' r) q):Sim f (.call o q') q:=λs tr K hk=>by
 obtain⟨r,h1,h2⟩:=hk;exact h r h1 s tr K h2
theorem zP(S:TFn) (ha:S.args.ok=true) (hr:S.res.ok=true) (o:Oper) (c:Call) (ex:List TV):Sim US (GG S o c ex) (yO S.spec o c (ex.map TV.av)):=by
 refine Sim.bind (kK _) λxs=>Sim.bind (show Sim _ _ (ls S.spec.sh (xs.map TV.av++ex.map TV.av)) by rw[<-PV];exact gN S.args ha (xs++ex)) λk=>Sim.chk λh=>Sim.call λr hF=>?_;rw[PM]at h;refine Sim.must ⟨lQ h.1,λid hid=>?_,⟨k.x,r,rfl,hF⟩⟩ ?_
 ·have:=List.all_eq_true.1 h.2 id hid;exact pj (by simpa using this)
 ·simp only;rw[TFn.post_of ha hF,TFn.res_of ha hF];show Sim US _ (match S.flat&&k.tops.isEmpty&&k.ids.isEmpty with | true=>_ | false=>_)
  cases hfl:S.flat&&k.tops.isEmpty&&k.ids.isEmpty with
  |true=>
   rw[PM,PM]at hfl;have hf:(S.posts.isNil&&S.res.flat)=true:=hfl.1.1;rw[PM]at hf;refine Sim.must ⟨S.posts.isNil_ok hf.1 _,S.res.flat_ok hf.2 hr _⟩ ?_;refine Sim.bind (M5 k.fz) λ_=>Sim.bind (fh S.res hr _ (S.out r).2) λq=>Sim.ret ?_;simp only[gb];rw[vz];simp only[US,PV];congr 1;cases o.dst <;> rfl
  |false=>
  refine Sim.bind (M5 k.fz) λus1=>Sim.bind (lN k.ids) λus2=>Sim.bind (lO k.tops S.posts (S.out r).1) λus3=>Sim.bind (lP k.tops S.posts _ (S.out r).1) λp=>Sim.bind (fh S.res hr p.m (S.out r).2) λq=>Sim.ret ?_;simp only[gb];rw[vz];simp only[US,PV];congr 1;cases o.dst <;> rfl
def Fb(k:TK) (x:TV):TQ Nat:=match k with
 |.slice _=>LZ x
 |.str=>tc x
 |.map _ _=>tj x
 |_=>.fail
def tmm(f:Int->Int->Int) (x y:TV):TQ TV:=match x,y with
 |.o (.c (.ch (.int k) a)),.o (.c (.ch (.int _) b))=>.ret (c1 (.int k) (f a b))
 |_,_=>.fail
def zQ(T:TypeId->Option TI) (TU:TypeId->Option U) (b:Builtin) (o:Oper) (c:Call):TQ (List P3):=match b with
 |.len=>match c.args.toList,c.argTypes.toList with
  |[x],[t]=>(ttq T t).bind λi=>(tev x).bind λx=>(Fb i.k x).bind λn=>gz o.dst (c1 (.int .i64) (n:Int))
  |_,_=>.fail
 |.append=>match c.args.toList,c.argTypes.toList with
  |[x,y],[t,t']=>(ttq T t).bind λi=>match i.k with
   |.slice e=>(ttq T e).bind λie=>(TQ.ofOpt o.dst).bind λd=>match TU e with
    |some u=>.req (Nat.beq t t'&&decide (0<ie.size)&&Nat.beq u.size ie.size) ((tev x).bind λx=>(tev y).bind λy=>match x,y with
     |.o (.c x),.o (.c y)=>zK d e u ie.bytes x y
     |_,_=>.fail)
    |none=>.fail
   |_=>.fail
  |_,_=>.fail
 |.delete=>match c.args.toList,c.argTypes.toList with
  |[x,y],t::_=>(ttq T t).bind λi=>match i.k with
   |.map kt vt=>(ttq T kt).bind λik=>(ttq T vt).bind λiv=>(tev x).bind λm=>(tev y).bind λk=>match TU kt,TU vt with
    |some K,some V=>.req (isKey (kU K)&&kOk ik.k (kU K)) ((xb T ik (kU K) k).bind λk=>(GA (kU K) V ik iv k m).bind λus=>.ret (us++Jg o.dst .any))
    |_,_=>.fail
   |_=>.fail
  |_,_=>.fail
 |.clear=>match c.args.toList,c.argTypes.toList with
  |[x],[t]=>(ttq T t).bind λi=>match i.k with
   |.slice e=>(ttq T e).bind λie=>(tev x).bind λx=>match TU e with
    |some u=>(Ma u ie x).bind λus=>.ret (us++Jg o.dst .any)
    |none=>.fail
   |_=>.fail
  |_,_=>.fail
 |.max=>match c.args.toList with
  |[x,y]=>(tev x).bind λx=>(tev y).bind λy=>(tmm max x y).bind (gz o.dst)
  |_=>.fail
 |.min=>match c.args.toList with
  |[x,y]=>(tev x).bind λx=>(tev y).bind λy=>(tmm min x y).bind (gz o.dst)
  |_=>.fail
 |_=>.fail
theorem xh(k:TK) (x:TV):Sim id (Fb k x) (yS k x.av):=by
 cases k <;> first | exact Db x | exact td x | exact tl x | exact Sim.fail
theorem zR(f:Int->Int->Int) (x y:TV):Sim TV.av (tmm f x y) (mmQ f x.av y.av):=by
 unfold tmm;split
 ·exact Sim.ret rfl
 ·exact Sim.fail
theorem xi(T:TypeId->Option TI) (TU:TypeId->Option U) (b:Builtin) (o:Oper) (c:Call):Sim US (zQ T TU b o c) (qz T b o c):=by
 unfold zQ qz;cases b <;> try exact Sim.fail
 case len=>
  simp only;split
  ·rename_i x t hx ht;rw[hx,ht];exact Sim.bind (C7 T t) λi=>Sim.bind (C5 x) λx=>Sim.bind (xh i.k x) λn=>E0 o.dst (c1 (.int .i64) (n:Int))
  ·exact Sim.fail
 case append=>
  simp only;split
  ·rename_i x y t t' hx ht;rw[hx,ht];refine Sim.bind (C7 T t) λi=>?_;simp only[id];cases i.k <;> try exact Sim.fail
   case slice e=>
    refine Sim.bind (C7 T e) λie=>Sim.bind (J7 o.dst) λd=>?_;cases TU e with
    |none=>exact Sim.fail
    |some u=>
     refine Sim.req (λh=>?_) λh=>?_
     ·simp only[PM]at h;exact⟨PL h.1.1,PN h.1.2⟩
     ·simp only[PM]at h;refine Sim.bind (C5 x) λx=>Sim.bind (C5 y) λy=>?_;split
      ·exact tv d e u ie.size ie.bytes (PL h.2) _ _
      ·exact Sim.fail
  ·exact Sim.fail
 case delete=>
  simp only;split
  ·rename_i x y t ts hx ht;rw[hx,ht];refine Sim.bind (C7 T t) λi=>?_;simp only[id];cases i.k <;> try exact Sim.fail
   case map kt vt=>
    refine Sim.bind (C7 T kt) λik=>Sim.bind (C7 T vt) λiv=>Sim.bind (C5 x) λm=>Sim.bind (C5 y) λk=>?_;cases TU kt with
    |none=>exact Sim.fail
    |some K=>
     cases TU vt with
     |none=>exact Sim.fail
     |some V=>
      refine Sim.chk λh=>?_;simp only[PM]at h;refine Sim.bind (kP h.1 k) λk=>Sim.bind (zA h.1 h.2 k m) λus=>Sim.ret ?_;simp only[US,PV];congr 1;cases o.dst <;> rfl
  ·exact Sim.fail
 case clear=>
  simp only;split
  ·rename_i x t hx ht;rw[hx,ht];refine Sim.bind (C7 T t) λi=>?_;simp only[id];cases i.k <;> try exact Sim.fail
   case slice e=>
    refine Sim.bind (C7 T e) λie=>Sim.bind (C5 x) λx=>?_;cases TU e with
    |none=>exact Sim.fail
    |some u=>
     refine Sim.bind (Dg u ie x) λus=>Sim.ret ?_;simp only[US,PV];congr 1;cases o.dst <;> rfl
  ·exact Sim.fail
 case max=>
  simp only;split
  ·rename_i x y hx;rw[hx];exact Sim.bind (C5 x) λx=>Sim.bind (C5 y) λy=>Sim.bind (zR max x y) λv=>E0 o.dst v
  ·exact Sim.fail
 case min=>
  simp only;split
  ·rename_i x y hx;rw[hx];exact Sim.bind (C5 x) λx=>Sim.bind (C5 y) λy=>Sim.bind (zR min x y) λv=>E0 o.dst v
  ·exact Sim.fail
def zS:List (Nat×TFn)->Nat->Option TFn
 |[],_=>none
 |p::l,j=>match Nat.beq j p.1 with
  |true=>some p.2
  |false=>zS l j
def Mg:TV->TQ (Nat×List TV)
 |.o (.c (.fn f))=>.req true (.ret (f,[]))
 |.o (.c (.clo f u x))=>.ret (f,[.o (.c (.ep u x 0))])
 |_=>.fail
theorem Dp(x:TV):Sim (λp:Nat×List TV=>(p.1,p.2.map TV.av)) (Mg x) (fnQ x.av):=by
 unfold Mg;split
 ·exact Sim.req (λ_=>⟨rfl,rfl⟩) λ_=>Sim.ret rfl
 ·exact Sim.ret rfl
 ·exact Sim.fail
def Jr:TV->Nat
 |.o (.c .npt)=>1
 |.o (.c (.it t _ _))=>2+t
 |_=>0
def kQ:List TV->Nat
 |[]=>0
 |v::vs=>Jr v+5000*kQ vs
theorem iN:∀(u:U) (x:u.den),∀d∈u.enc x,qA (.c (.d d))=0
 |.int _,_,d,h=>by cases h with|head=>rfl|tail _ h=>cases h
 |.byte,_,d,h=>by cases h with|head=>rfl|tail _ h=>cases h
 |.bool,_,d,h=>by cases h with|head=>rfl|tail _ h=>cases h
 |.op,x,d,h=>by cases h with|head=>exact uR x.2|tail _ h=>cases h
 |.kv _,(v,l),d,h=>by cases l <;> (cases h with|head=>(first|exact uR v.2|rfl)|tail _ h=>cases h)
 |.str,_,d,h=>by cases h with|head=>rfl|tail _ h=>cases h
 |.sl _,_,d,h=>by cases h with|head=>rfl|tail _ h=>cases h
 |.ln _,l,d,h=>by cases l <;> (cases h with|head=>rfl|tail _ h=>cases h)
 |.pr a b,x,d,h=>by
  rcases List.mem_append.1 h with h|h
  ·exact iN a x.1 d h
  ·exact iN b x.2 d h
 |.arr _ u,v,d,h=>by
  obtain⟨y,_,hy⟩:=List.mem_flatMap.1 h;exact iN u y d hy
theorem zT:∀(l:List DV),(∀d∈l,qA (.c (.d d))=0)->qA (.c (aa (l.map .d)))=0
 |[],_=>rfl
 |[d],h=>h d (by simp)
 |_::_::_,_=>rfl
theorem Dq(x:TV):qA x.av=Jr x:=by
 cases x with
 |o x=>
  cases x with
  |c x=>cases x <;> first|rfl|exact zT _ (iN _ _)
  |agg xs=>rfl
 |tup xs=>rfl
 |clo f id ver=>rfl
 |ent tup id pv K k=>rfl
 |rtl id ver i z=>rfl
 |nx b x y=>rfl
 |any=>rfl
theorem nJ:∀(xs:List TV),oK (xs.map TV.av)=kQ xs
 |[]=>rfl
 |x::xs=>by
  show qA x.av+5000*oK (xs.map TV.av)=_;rw[Dq,nJ xs];rfl
def zU(f1:FuncId) (o:Oper):List TV->TQ (List P3)
 |[.o (.c (.row id ver))]=>(TQ.ofOpt o.dst).bind λd=>.rdR id λr=>match r.c with
  |some R=>.req (Nat.beq ver r.ver&&Nat.ble Q7 R.e && !(Nat.beq R.e dx) && !(De R.e)) (.rdB d λb=>.ret [.b d ⟨b.ver+1,some [.row id ver]⟩,.t d ⟨true,.clo f1 d (b.ver+1)⟩])
  |none=>.fail
 |_=>.fail
theorem xj(f1:FuncId) (o:Oper) (xs:List TV):Sim US (zU f1 o xs) (Gg f1 o (xs.map TV.av)):=by
 unfold zU;split
 ·refine Sim.bind (J7 o.dst) λd=>Sim.rdR λr=>?_;obtain⟨rv,c⟩:=r;cases c with
  |none=>exact Sim.fail
  |some R=>exact Sim.req (λh=>by simp only[PM]at h;exact⟨PL h.1.1.1,Qh h.1.1.2,zB h.1.2,vj h.2⟩) λ_=>Sim.rdB λb=>Sim.ret rfl
 ·exact Sim.fail
def mM(x y:Int):Bool:=decide (x<=y)
def mN(x y:List UInt8):Bool:=decide (x<=y)
def Ii{α:Type}(le:α->α->Bool) (x:α):List α->List α
 |[]=>[x]
 |y::l=>match le x y with
  |true=>x::y::l
  |false=>y::Ii le x l
def xk{α:Type}(le:α->α->Bool):List α->List α
 |[]=>[]
 |x::l=>Ii le x (xk le l)
theorem lR{α:Type}(le:α->α->Bool) (x:α):∀l:List α,(Ii le x l).Perm (x::l)
 |[]=>List.Perm.refl _
 |y::l=>by
  unfold Ii;split
  ·exact List.Perm.refl _
  ·exact((lR le x l).cons y).trans (List.Perm.swap x y l)
theorem nK{α:Type}(le:α->α->Bool):∀l:List α,(xk le l).Perm l
 |[]=>List.Perm.refl _
 |x::l=>(lR le x _).trans ((nK le l).cons x)
theorem lS{α:Type}{le:α->α->Bool}(tr:∀a b c,le a b=true->le b c=true->le a c=true) (to:∀a b,(le a b||le b a)=true) (x:α):∀l:List α,l.Pairwise (λa b=>le a b=true)->(Ii le x l).Pairwise (λa b=>le a b=true)
 |[],_=>List.pairwise_singleton _ _
 |y::l,h=>by
  rw[QZ]at h;unfold Ii;split
  ·rename_i hxy;refine List.pairwise_cons.2 ⟨λz hz=>?_,List.pairwise_cons.2 h⟩;rcases List.mem_cons.1 hz with rfl|hz
   ·exact hxy
   ·exact tr _ _ _ hxy (h.1 z hz)
  ·rename_i hxy;have hyx:le y x=true:=by have:=to x y;rw[hxy]at this;simpa using this
   refine List.pairwise_cons.2 ⟨λz hz=>?_,lS tr to x l h.2⟩;rcases List.mem_cons.1 ((lR le x l).mem_iff.1 hz)with rfl|hz
   ·exact hyx
   ·exact h.1 z hz
theorem jW{α:Type}{le:α->α->Bool}(tr:∀a b c,le a b=true->le b c=true->le a c=true) (to:∀a b,(le a b||le b a)=true):∀l:List α,(xk le l).Pairwise (λa b=>le a b=true)
 |[]=>List.Pairwise.nil
 |x::l=>lS tr to x _ (jW tr to l)
theorem bW{α:Type}{le:α->α->Bool}(tr:∀a b c,le a b=true->le b c=true->le a c=true) (to:∀a b,(le a b||le b a)=true) (an:∀a b,le a b=true->le b a=true->a=b){l l':List α}(h:l'.Pairwise (λa b=>le a b=true)) (hp:l.Perm l'):xk le l=l':=
 List.Perm.eq_of_pairwise (le:=λa b=>le a b=true) (λa b _ _ h1 h2=>an a b h1 h2) (jW tr to l) h ((nK le l).trans hp)
def bX(l:List Int):List Int:=xk mM l
def pk(l:List (List UInt8)):List (List UInt8):=xk mN l
theorem kR(a b c:Int) (h1:mM a b=true) (h2:mM b c=true):mM a c=true:=PT (Int.le_trans (PN h1) (PN h2))
theorem kS(a b:Int):(mM a b||mM b a)=true:=by simp only[mM,RI,PX];exact Int.le_total a b
theorem pm(a b:Int) (h1:mM a b=true) (h2:mM b a=true):a=b:=Int.le_antisymm (PN h1) (PN h2)
theorem vA(a b c:List UInt8) (h1:mN a b=true) (h2:mN b c=true):mN a c=true:=PT (List.le_trans (PN h1) (PN h2))
theorem vB(a b:List UInt8):(mN a b||mN b a)=true:=by simp only[mN,RI,PX];exact List.le_total a b
theorem Dr(a b:List UInt8) (h1:mN a b=true) (h2:mN b a=true):a=b:=List.le_antisymm (PN h1) (PN h2)
theorem tx(l:List Int):l.mergeSort (λx y=>decide (x<=y))=bX l:=by
 refine(bW kR kS pm (List.pairwise_mergeSort kR kS l) ?_).symm;exact(List.mergeSort_perm l mM).symm
theorem tz(l:List (List UInt8)):l.mergeSort (λx y=>decide (x<=y))=pk l:=by
 refine(bW vA vB Dr (List.pairwise_mergeSort vA vB l) ?_).symm;exact(List.mergeSort_perm l mN).symm
def cR(l:List Int):Bool:=decide (l.Nodup/\(∀x∈l,-9223372036854775808<=x/\x<=9223372036854775807)/\l.length*8<=LIM)
def pn(l:List (List UInt8)):Bool:=decide (l.Nodup/\(∀x∈l,x.length<=4611686018427387904)/\l.length*16<=LIM)
def Js(K:U):(u:U)->List u.den->Option (List K.den)
 |.pr K' _,l=>match decEq K' K with
  |.isTrue h=>some (List.map (λp=>de h p.1) l)
  |.isFalse _=>none
 |_,_=>none
def vC(K:U) (f1:FuncId) (e:TypeId) (good:List K.den->Bool) (srt:List K.den->List K.den) (o:Oper):List TV->TQ (List P3)
 |[.clo f id ver]=>(TQ.ofOpt o.dst).bind λd=>.rdB id λb=>match b.c with
  |some [.row rid rver]=>.rdR rid λr=>match r.c with
   |some R=>match Js K R.u R.l with
    |some ks=>.req (Nat.beq f f1&&Nat.beq ver b.ver&&Nat.beq rver r.ver&&(Nat.beq R.e (mE true)||Nat.beq R.e (mE false))&&decide (e<Q7)) (.req (good ks) (.rdR d λrd=>.ret [.r d ⟨rd.ver+1,some ⟨K,srt ks,e,false⟩⟩,.t d ⟨true,.o (.c (.row d (rd.ver+1)))⟩]))
    |none=>.fail
   |none=>.fail
  |_=>.fail
 |_=>.fail
theorem nL{K:U}(hK:K.size=1){f1:FuncId}{e:TypeId}{good:List K.den->Bool}{srt:List K.den->List K.den}{goodA:List (List DV)->Prop}{srtA:List (List DV)->List (List DV)}
  (h1:∀(V:U) (l:List (K.den×V.den)),good (l.map (·.1))=true->goodA (l.map (U.pr K V).enc)) (h2:∀(V:U) (l:List (K.den×V.den)),srtA (l.map (U.pr K V).enc)=(srt (l.map (·.1))).map K.enc) (o:Oper) (xs:List TV) :
  Sim US (vC K f1 e good srt o xs) (yR f1 e goodA srtA o (xs.map TV.av)):=by
 unfold vC;split
 ·rename_i f id ver;refine Sim.bind (J7 o.dst) λd=>Sim.rdB λb=>?_;obtain⟨bv,c⟩:=b;simp only;split
  ·rename_i rid rver;refine Sim.rdR λr=>?_;obtain⟨rv,c⟩:=r;cases c with
   |none=>exact Sim.fail
   |some R=>
    obtain⟨ru,rl,re,rf⟩:=R;simp only;cases ru with
    |pr K' V=>
     unfold Js;simp only;split
     ·rename_i ks hks;split at hks
      ·rename_i hk _;subst hk;injection hks with hks;have hks:ks=List.map (λp=>p.1) rl:=hks.symm;subst hks;refine Sim.chk λhc=>Sim.req (λhg=>?_) λ_=>Sim.rdR λrd=>Sim.ret ?_
       ·simp only[PM,RI]at hc;obtain⟨⟨⟨⟨c1,c2⟩,c3⟩,c4⟩,c5⟩:=hc;have hE:∃b,re=mE b:=by
         rcases c4 with c4|c4
         ·exact⟨_,PL c4⟩
         ·exact⟨_,PL c4⟩
        obtain⟨b0,rfl⟩:=hE;obtain⟨m1,m2,_,m4,m5⟩:=iu b0;exact⟨PL c1,PL c2,PL c3,m4,m5,m1,m2,PN c5,h1 V rl hg⟩
       ·show [Upd.r d ⟨rd.ver+1,some ⟨srtA (rl.map (U.pr K' V).enc),1,e,false⟩⟩,_]=_;rw[h2 V rl,<-hK];rfl
      ·cases hks
     ·exact Sim.fail
    |_=>exact Sim.fail
  ·exact Sim.fail
 ·exact Sim.fail
theorem vD{α β γ:Type}{f:α->β}{g:β->γ}{h:α->γ}(e:∀x,g (f x)=h x) (l:List α):(l.map f).map g=l.map h:=by
 rw[QN];exact Rh λx _=>e x
theorem po{α β:Type}(f:α->β) (l:List α):(l.map f).length=l.length:=PR f
theorem fO{a b c k:Nat}(h:a=b) (h2:b*k<=c):a*k<=c:=h▸h2
theorem tB{n:Nat}(h:n*8<=LIM):n<=maxLen:=by unfold LIM at h;simp only[maxLen];omega
theorem qQ{n:Nat}(h:n*16<=LIM):n<=maxLen:=by unfold LIM at h;simp only[maxLen];omega
theorem jX{α:Type}(f:α->Int) (l:List α) (h:cR (l.map f)=true):l.length*8<=LIM:=by
 have:=(PN h).2.2
 rwa [PR]at this
theorem jY{α:Type}(f:α->List UInt8) (l:List α) (h:pn (l.map f)=true):l.length*16<=LIM:=by
 have:=(PN h).2.2
 rwa [PR]at this
theorem Jt(V:U) (l:List ((U.int .i64).den×V.den)) (h:cR (l.map (·.1))=true):Jb (l.map (U.pr (.int .i64) V).enc):=by
 obtain⟨a1,a2,_⟩:=PN h;have e:(l.map (U.pr (.int .i64) V).enc).map EK=l.map (·.1):=vD (f:=(U.pr (.int .i64) V).enc) (λ_=>rfl) l;refine⟨λc hc=>?_,?_,?_,?_,?_⟩
 ·obtain⟨p,_,rfl⟩:=List.mem_map.1 hc;exact⟨p.1,V.enc p.2,rfl⟩
 ·rw[e];exact a1
 ·rw[e];intro x hx;have:=a2 x hx;have h2:IntKind.i64.min<=x/\x<=IntKind.i64.max:=this;simpa [Lit.wf]using h2
 ·exact tB (fO (po (U.pr (.int .i64) V).enc l) (jX (α:=(U.pr (.int .i64) V).den) (λp=>p.1) l h))
 ·exact fO (po (U.pr (.int .i64) V).enc l) (jX (α:=(U.pr (.int .i64) V).den) (λp=>p.1) l h)
theorem Ju(V:U) (l:List (U.str.den×V.den)) (h:pn (l.map (·.1))=true):Jc (l.map (U.pr .str V).enc):=by
 obtain⟨a1,a2,_⟩:=PN h;have e:(l.map (U.pr .str V).enc).map EL=l.map (·.1):=vD (f:=(U.pr .str V).enc) (λ_=>rfl) l;refine⟨λc hc=>?_,?_,?_,?_,?_⟩
 ·obtain⟨p,_,rfl⟩:=List.mem_map.1 hc;exact⟨p.1,V.enc p.2,rfl⟩
 ·rw[e];exact a1
 ·rw[e];intro x hx;exact Qt (a2 x hx) (by simp only[maxLen];omega)
 ·exact qQ (fO (po (U.pr .str V).enc l) (jY (α:=(U.pr .str V).den) (λp=>p.1) l h))
 ·exact fO (po (U.pr .str V).enc l) (jY (α:=(U.pr .str V).den) (λp=>p.1) l h)
theorem Jv(V:U) (l:List ((U.int .i64).den×V.den)):sortI (l.map (U.pr (.int .i64) V).enc)=(bX (l.map (·.1))).map (U.int .i64).enc:=by
 have e:(l.map (U.pr (.int .i64) V).enc).map EK=l.map (·.1):=vD (f:=(U.pr (.int .i64) V).enc) (λ_=>rfl) l;unfold sortI;rw[e];exact congrArg (List.map λx:Int=>[DV.v (.int .i64 x)]) (tx (l.map λp=>p.1))
theorem Jw(V:U) (l:List (U.str.den×V.den)):sortS (l.map (U.pr .str V).enc)=(pk (l.map (·.1))).map U.str.enc:=by
 have e:(l.map (U.pr .str V).enc).map EL=l.map (·.1):=vD (f:=(U.pr .str V).enc) (λ_=>rfl) l;unfold sortS;rw[e];exact congrArg (List.map λx:List UInt8=>[DV.v (CG x)]) (tz (l.map λp=>p.1))
def Mh(sp:Sp) (o:Oper) (c:Call):TQ (List P3):=(Jh c.args.toList).bind λxs=>match sp with
 |.none=>.fail
 |.keys f1=>zU f1 o xs
 |.sortI f1 e=>vC (.int .i64) f1 e cR bX o xs
 |.sortS f1 e=>vC .str f1 e pn pk o xs
theorem pp(sp:Sp) (o:Oper) (c:Call):Sim US (Mh sp o c) (spQ sp o c):=by
 refine Sim.bind (kK _) λxs=>?_;cases sp with
 |none=>exact Sim.fail
 |keys f1=>exact xj f1 o xs
 |sortI f1 e=>exact nL rfl Jt Jv o xs
 |sortS f1 e=>exact nL rfl Ju Jw o xs
def dI(T:TypeId->Option TI) (TU:TypeId->Option U) (Γ:List (Nat×TFn)) (o:Oper) (c:Call):TQ (List P3):=match c.callee with
 |.value x=>(tev x).bind λv=>(Mg v).bind λf=>(Jh c.args.toList).bind λxs=>.req (Nat.blt f.1 1000000) (match zS Γ (f.1+kQ xs*1000000) with
  |some S=>match S.sp with
   |.none=>.req (S.args.ok&&S.res.ok) (GG S o c f.2)
   |sp=>match f.2 with
    |[]=>Mh sp o c
    |_=>.fail
  |none=>.fail)
 |.builtin b=>zQ T TU b o c
 |_=>.fail
def xl(Γ:List (Nat×TFn)):List (Nat×fg):=Γ.map λp=>(p.1,p.2.spec)
theorem nM:∀(Γ:List (Nat×TFn)) (f:Nat),U6 (xl Γ) f=(zS Γ f).map TFn.spec
 |[],_=>rfl
 |p::Γ,f=>by
  show(if f=p.1 then some p.2.spec else U6 (xl Γ) f)=(match Nat.beq f p.1 with | true=>some p.2 | false=>zS Γ f).map TFn.spec
  cases hb:Nat.beq f p.1 with
  |true=>rw[Qx (PL hb)];rfl
  |false=>rw[Ql (λe=>by rw[e,Tp]at hb;cases hb),nM Γ f]
theorem fP(T:TypeId->Option TI) (TU:TypeId->Option U) (Γ:List (Nat×TFn)) (o:Oper) (c:Call):Sim US (dI T TU Γ o c) (uO T (xl Γ) o c):=by
 unfold dI uO;split
 ·rename_i x hc;rw[hc];simp only;refine Sim.bind (C5 x) λv=>Sim.bind (Dp v) λf=>Sim.bind (kK _) λxs=>?_;simp only;rw[nM,nJ];refine Sim.req (λh=>Qh h) λ_=>?_;cases zS Γ (f.1+kQ xs*1000000) with
  |none=>exact Sim.fail
  |some S=>
   show Sim US (match S.sp with | .none=>.req (S.args.ok&&S.res.ok) (GG S o c f.2) | sp=>match f.2 with | []=>Mh sp o c | _=>.fail) (match S.sp with | .none=>yO S.spec o c (f.2.map TV.av) | sp=>match f.2.map TV.av with | []=>spQ sp o c | _=>.fail)
   obtain⟨f0,ex⟩:=f;cases S.sp with
   |none=>
    refine Sim.chk λh=>?_;rw[PM]at h;exact zP S h.1 h.2 o c ex
   |keys f1=>cases ex <;> first|exact pp _ o c|exact Sim.fail
   |sortI f1 e=>cases ex <;> first|exact pp _ o c|exact Sim.fail
   |sortS f1 e=>cases ex <;> first|exact pp _ o c|exact Sim.fail
 ·rename_i b hc;rw[hc];exact xi T TU b o c
 ·exact Sim.fail
inductive Sh where
 |d (u:U)
 |nil
 |fn (f:FuncId)
 |npt
 |clo (f:FuncId) (u:U)
 |e (u:U)
 |row (j:Nat)
 |ptr (j off:Nat)
inductive SSh where
 |one (s:Sh)
 |agg (ss:List Sh)
def SSh.list:SSh->List Sh
 |.one s=>[s]
 |.agg ss=>ss
def gO:List Sh->Type
 |[]=>Unit
 |.d u::r=>u.den×gO r
 |.clo _ u::r=>u.den×gO r
 |.e u::r=>u.den×gO r
 |_::r=>gO r
def ab:(ss:List Sh)->gO ss->List TC
 |[],_=>[]
 |.d u::r,x=>.ch u x.1::ab r x.2
 |.nil::r,x=>.nil::ab r x
 |.fn f::r,x=>.fn f::ab r x
 |.npt::r,x=>.npt::ab r x
 |.clo f u::r,x=>.clo f u x.1::ab r x.2
 |.e u::r,x=>.ep u x.1 0::ab r x.2
 |.row j::r,x=>.row j 0::ab r x
 |.ptr j off::r,x=>.ptr j 0 off::ab r x
def shr:Nat->Nat->List TC->List TC
 |0,_,ps=>ps
 |f+1,z,ps=>match lC ps with
  |some c=>match Nat.blt z c.1.1.size with
   |true=>shr f z (eS c.1.1 c.1.2++c.2)
   |false=>ps
  |none=>ps
theorem gA:∀{f z:Nat}{ps:List TC},A6 (shr f z ps)=A6 ps
 |0,_,_=>rfl
 |f+1,z,ps=>by
  unfold shr;split
  ·rename_i c hc;split
   ·rw[gA,S8,ef,jt hc];rfl
   ·rfl
  ·rfl
def mO(u:U):List TC->Option (u.den×List TC)
 |.ch v x::rest=>match decEq v u with
  |.isTrue h=>some (de h x,rest)
  |.isFalse _=>none
 |_=>none
def GH(u:U):List TC->Option (List u.den×List TC)
 |.ch (.sl v) x::rest=>match decEq v u with
  |.isTrue h=>some ((h▸x:List u.den),rest)
  |.isFalse _=>none
 |.nil::rest=>some ([],rest)
 |_=>none
def GI{α:Type}(p:List TC->Option (α×List TC)):(n:Nat)->List TC->Option (Vector α n×List TC)
 |0,ps=>some (#v[],ps)
 |n+1,ps=>(GI p n ps).bind λa=>(p a.2).map λb=>(a.1.push b.1,b.2)
def lT:(u:U)->List TC->Option (u.den×List TC)
 |.sl u,ps=>GH u ps
 |.ln u,ps=>mO (.ln u) (shr FU 1 ps)
 |.pr a b,ps=>match lC (shr FU (U.pr a b).size ps) with
  |some c=>match decEq c.1.1 (.pr a b) with
   |.isTrue h=>some (de h c.1.2,c.2)
   |.isFalse _=>(lT a ps).bind λp=>(lT b p.2).map λq=>((p.1,q.1),q.2)
  |none=>(lT a ps).bind λp=>(lT b p.2).map λq=>((p.1,q.1),q.2)
 |.arr n u,ps=>match mO (.arr n u) (shr FU (U.arr n u).size ps) with
  |some q=>some q
  |none=>GI (lT u) n ps
 |.int k,ps=>mO (.int k) (shr FU 1 ps)
 |.byte,ps=>mO .byte (shr FU 1 ps)
 |.bool,ps=>mO .bool (shr FU 1 ps)
 |.op,ps=>mO .op (shr FU 1 ps)
 |.kv u,ps=>mO (.kv u) (shr FU 1 ps)
 |.str,ps=>mO .str (shr FU 1 ps)
def DLe(xs ys:List AC):Prop:=∀s b r,km s b r xs ys
theorem lU{s:St}{b:List (Nat×Nat×List AC)}{r:List (Nat×Option Nat×Row)}:∀{xs ys us vs:List AC},km s b r xs ys->km s b r us vs->km s b r (xs++us) (ys++vs)
 |[],[],_,_,_,h=>h
 |_x::_xs,_y::_ys,_,_,h,k=>⟨h.1,lU h.2 k⟩
theorem DLe.app{xs ys us vs:List AC}(h:DLe xs ys) (k:DLe us vs):DLe (xs++us) (ys++vs):=λs b r=>lU (h s b r) (k s b r)
theorem DLe.refl:∀(ds:List DV),DLe (ds.map .d) (ds.map .d)
 |[]=>λ_ _ _=>trivial
 |_d::ds=>λs b r=>⟨rfl,DLe.refl ds s b r⟩
theorem cT{u:U}{ps:List TC}{p:u.den×List TC}(h:mO u ps=some p):∃pre,A6 ps=pre++A6 p.2/\DLe pre ((u.enc p.1).map .d):=by
 unfold mO at h;split at h
 ·split at h
  ·rename_i e _;injection h with h;subst h;refine⟨_,rfl,?_⟩;rw[fI];exact DLe.refl _
  ·cases h
 ·cases h
theorem Ds{u:U}{ps:List TC}{p:List u.den×List TC}(h:GH u ps=some p):∃pre,A6 ps=pre++A6 p.2/\DLe pre [.d (.sl (p.1.map u.enc))]:=by
 unfold GH at h;split at h
 ·split at h
  ·rename_i e _;subst e;injection h with h;subst h;exact⟨_,rfl,λs b r=>⟨rfl,trivial⟩⟩
  ·cases h
 ·injection h with h;subst h;exact⟨[.nil],rfl,λs b r=>⟨rfl,trivial⟩⟩
 ·cases h
theorem vE{α:Type}{f:α->List DV}{p:List TC->Option (α×List TC)}(hp:∀{ps q},p ps=some q->∃pre,A6 ps=pre++A6 q.2/\DLe pre ((f q.1).map .d)):∀(n:Nat){ps:List TC}{q:Vector α n×List TC},GI p n ps=some q->∃pre,A6 ps=pre++A6 q.2/\DLe pre ((q.1.toList.flatMap f).map .d)
 |0,ps,q,h=>by
  injection h with h;subst h;exact⟨[],rfl,λ_ _ _=>trivial⟩
 |n+1,ps,q,h=>by
  obtain⟨a,h1,h2⟩:=Option.bind_eq_some_iff.1 h;obtain⟨b,h3,rfl⟩:=Option.map_eq_some_iff.1 h2;obtain⟨pre1,e1,d1⟩:=vE hp n h1;obtain⟨pre2,e2,d2⟩:=hp h3;refine⟨pre1++pre2,by rw[e1,e2,Qe],?_⟩;simp only[SU,RV,QB,List.flatMap_nil,PO,PV];exact d1.app d2
theorem kT:∀{u:U}{ps:List TC}{p:u.den×List TC},lT u ps=some p->∃pre,A6 ps=pre++A6 p.2/\DLe pre ((u.enc p.1).map .d)
 |.sl u,ps,p,h=>Ds h
 |.ln u,ps,p,h=>by rw[<-gA (f:=FU) (z:=1)];exact cT h
 |.arr n u,ps,p,h=>by
  unfold lT at h;split at h
  ·rename_i q hq;injection h with h;subst h;rw[<-gA (f:=FU) (z:=(U.arr n u).size)];exact cT hq
  ·exact vE kT n h
 |.int k,ps,p,h=>by rw[<-gA (f:=FU) (z:=1)];exact cT h
 |.byte,ps,p,h=>by rw[<-gA (f:=FU) (z:=1)];exact cT h
 |.bool,ps,p,h=>by rw[<-gA (f:=FU) (z:=1)];exact cT h
 |.op,ps,p,h=>by rw[<-gA (f:=FU) (z:=1)];exact cT h
 |.kv u,ps,p,h=>by rw[<-gA (f:=FU) (z:=1)];exact cT h
 |.str,ps,p,h=>by rw[<-gA (f:=FU) (z:=1)];exact cT h
 |.pr a b,ps,p,h=>by
  have two:((lT a ps).bind λp=>(lT b p.2).map λq=>(((p.1,q.1),q.2):(a.den×b.den)×List TC))=some p->∃pre,A6 ps=pre++A6 p.2/\DLe pre (((U.pr a b).enc p.1).map .d):=λh=>by
   obtain⟨q,h1,h2⟩:=Option.bind_eq_some_iff.1 h;obtain⟨q2,h3,rfl⟩:=Option.map_eq_some_iff.1 h2;obtain⟨pre1,e1,d1⟩:=kT h1;obtain⟨pre2,e2,d2⟩:=kT h3;refine⟨pre1++pre2,by rw[e1,e2,Qe],?_⟩;show DLe _ ((a.enc q.1++b.enc q2.1).map .d);rw[PV];exact d1.app d2
  unfold lT at h;split at h
  ·rename_i c hc;split at h
   ·rename_i e _;injection h with h;subst h;have:=congrArg A6 (jt hc);rw[gA]at this;refine⟨_,this,?_⟩;rw[fI];exact DLe.refl _
   ·exact two h
  ·exact two h
structure Rd (α:Type) where
 x:α
 rr:List (Nat×Option Nat)
 br:List (Nat×Nat)
def fit:(ss:List Sh)->TSt->List TC->Option (Rd (gO ss))
 |[],_,ps=>match ps with
  |[]=>some ⟨(),[],[]⟩
  |_=>none
 |.d u::r,s,ps=>(lT u ps).bind λp=>(fit r s p.2).map λq=>⟨(p.1,q.x),q.rr,q.br⟩
 |.fn f::r,s,ps=>match ps with
  |.fn g::rest=>match decEq g f with
   |.isTrue _=>fit r s rest
   |.isFalse _=>none
  |_=>none
 |.npt::r,s,ps=>match ps with
  |.npt::rest=>fit r s rest
  |_=>none
 |.clo f u::r,s,ps=>match ps with
  |.clo g v x::rest=>match decEq g f with
   |.isTrue _=>match decEq v u with
    |.isTrue h=>(fit r s rest).map λq=>⟨(de h x,q.x),q.rr,q.br⟩
    |.isFalse _=>none
   |.isFalse _=>none
  |_=>none
 |.e u::r,s,ps=>match ps with
  |.ep v x off::rest=>match decEq v u with
   |.isTrue h=>match Nat.beq off 0 with
    |true=>(fit r s rest).map λq=>⟨(de h x,q.x),q.rr,q.br⟩
    |false=>none
   |.isFalse _=>none
  |_=>none
 |.nil::r,s,ps=>match ps with
  |.nil::rest=>fit r s rest
  |_=>none
 |.row j::r,s,ps=>match ps with
  |.nil::rest=>(fit r s rest).map λq=>⟨q.x,(j,none)::q.rr,q.br⟩
  |.row id ver::rest=>match Nat.beq ver (s.r id).ver with
   |true=>(fit r s rest).map λq=>⟨q.x,(j,some id)::q.rr,q.br⟩
   |false=>none
  |_=>none
 |.ptr j off::r,s,ps=>match ps with
  |.ptr id ver off'::rest=>match Nat.beq ver (s.b id).ver&&Nat.beq off' off with
   |true=>(fit r s rest).map λq=>⟨q.x,q.rr,(j,id)::q.br⟩
   |false=>none
  |_=>none
def gP(b:List (Nat×Nat×List AC)) (r:List (Nat×Option Nat×Row)) (rr:List (Nat×Option Nat)) (br:List (Nat×Nat)):Prop:=
 (∀p∈rr,(U6 r p.1).map (·.1)=some p.2)/\(∀p∈br,(U6 b p.1).map (·.1)=some p.2)
theorem gP.rr_tail{b:List (Nat×Nat×List AC)}{r:List (Nat×Option Nat×Row)}{p:Nat×Option Nat}{rr:List (Nat×Option Nat)}{br:List (Nat×Nat)}(h:gP b r (p::rr) br):(U6 r p.1).map (·.1)=some p.2/\gP b r rr br:=
 ⟨h.1 p (by simp),λq hq=>h.1 q (by simp[hq]),h.2⟩
theorem gP.br_tail{b:List (Nat×Nat×List AC)}{r:List (Nat×Option Nat×Row)}{p:Nat×Nat}{rr:List (Nat×Option Nat)}{br:List (Nat×Nat)}(h:gP b r rr (p::br)):(U6 b p.1).map (·.1)=some p.2/\gP b r rr br:=
 ⟨h.2 p (by simp),h.1,λq hq=>h.2 q (by simp[hq])⟩
theorem eU{b:List (Nat×Nat×List AC)}{r:List (Nat×Option Nat×Row)}{s:TSt}:∀{ss:List Sh}{ps:List TC}{q:Rd (gO ss)},fit ss s ps=some q->gP b r q.rr q.br->km s.st b r (A6 ps) (A6 (ab ss q.x))
 |[],[],q,h,_=>trivial
 |[],_::_,q,h,_=>by cases h
 |.d u::ss,ps,q,h,hr=>by
  obtain⟨p,h1,h2⟩:=Option.bind_eq_some_iff.1 h;obtain⟨q2,h3,rfl⟩:=Option.map_eq_some_iff.1 h2;obtain⟨pre,e,d⟩:=kT h1;rw[e];exact lU (d _ _ _) (eU (q:=q2) h3 hr)
 |.fn f::ss,ps,q,h,hr=>by
  unfold fit at h;split at h
  ·split at h
   ·rename_i e _;subst e;exact⟨rfl,eU (ss:=ss) (q:=q) h hr⟩
   ·cases h
  ·cases h
 |.clo f u::ss,ps,q,h,hr=>by
  unfold fit at h;split at h
  ·split at h
   ·rename_i e1 _;subst e1;split at h
    ·rename_i e2 _;subst e2;obtain⟨q2,h2,rfl⟩:=Option.map_eq_some_iff.1 h;exact⟨rfl,eU (ss:=ss) (q:=q2) h2 hr⟩
    ·cases h
   ·cases h
  ·cases h
 |.e u::ss,ps,q,h,hr=>by
  unfold fit at h;split at h
  ·split at h
   ·rename_i e2 _;subst e2;split at h
    ·rename_i h0;obtain⟨q2,h2,rfl⟩:=Option.map_eq_some_iff.1 h;rw[PL h0];exact⟨rfl,eU (ss:=ss) (q:=q2) h2 hr⟩
    ·cases h
   ·cases h
  ·cases h
 |.npt::ss,ps,q,h,hr=>by
  match ps,h with
  |.npt::rest,h=>exact⟨rfl,eU (ss:=ss) (q:=q) h hr⟩
 |.nil::ss,ps,q,h,hr=>by
  match ps,h with
  |.nil::rest,h=>exact⟨trivial,eU (ss:=ss) (q:=q) h hr⟩
 |.row j::ss,ps,q,h,hr=>by
  unfold fit at h;split at h
  ·obtain⟨q2,h2,rfl⟩:=Option.map_eq_some_iff.1 h;obtain⟨a1,a2⟩:=hr.rr_tail;exact⟨⟨rfl,a1⟩,eU (ss:=ss) (q:=q2) h2 a2⟩
  ·rename_i id ver rest;split at h
   ·rename_i hv;obtain⟨q2,h2,rfl⟩:=Option.map_eq_some_iff.1 h;obtain⟨a1,a2⟩:=hr.rr_tail;exact⟨⟨PL hv,rfl,a1⟩,eU (ss:=ss) (q:=q2) h2 a2⟩
   ·cases h
  ·cases h
 |.ptr j off::ss,ps,q,h,hr=>by
  unfold fit at h;split at h
  ·rename_i id ver off' rest;split at h
   ·rename_i hv;rw[PM]at hv;obtain⟨q2,h2,rfl⟩:=Option.map_eq_some_iff.1 h;obtain⟨a1,a2⟩:=hr.br_tail;exact⟨⟨PL hv.1,rfl,PL hv.2,a1⟩,eU (ss:=ss) (q:=q2) h2 a2⟩
   ·cases h
  ·cases h
structure Lay where
 n:Nat
 t:List (Nat×SSh)
 b:List (Nat×List Sh)
 r:List (Nat×U×TypeId×Bool)
def Dt:List (Nat×SSh)->Type
 |[]=>Unit
 |p::r=>gO p.2.list×Dt r
def Fc:List (Nat×List Sh)->Type
 |[]=>Unit
 |p::r=>gO p.2×Fc r
def Fd:List (Nat×U×TypeId×Bool)->Type
 |[]=>Unit
 |p::r=>List p.2.1.den×Fd r
def Lay.den(L:Lay):Type:=Dt L.t×Fc L.b×Fd L.r
def Mi:(p:SSh)->gO p.list->TV
 |.one s,x=>match ab [s] x with
  |[c]=>.o (.c c)
  |_=>.any
 |.agg ss,x=>.o (.agg (ab ss x))
def GJ:(l:List (Nat×SSh))->Dt l->List (Nat×TV)
 |[],_=>[]
 |p::r,x=>(p.1,Mi p.2 x.1)::GJ r x.2
def Du:(l:List (Nat×List Sh))->Fc l->List (Nat×List TC)
 |[],_=>[]
 |p::r,x=>(p.1,ab p.2 x.1)::Du r x.2
def zV:(l:List (Nat×U×TypeId×Bool))->Fd l->List (Nat×kn)
 |[],_=>[]
 |p::r,x=>(p.1,⟨p.2.1,x.1,p.2.2.1,p.2.2.2⟩)::zV r x.2
def Lay.st(L:Lay) (x:L.den):TSt:=⟨L.n,λk=>⟨decide (k<L.n),(U6 (GJ L.t x.1) k).getD .any⟩,λk=>⟨0,U6 (Du L.b x.2.1) k⟩,λk=>⟨0,U6 (zV L.r x.2.2) k⟩⟩
def GK:(p:SSh)->TSt->TV->Option (Rd (gO p.list))
 |.one s',s,v=>match v with
  |.o (.c c)=>match is1 c with
   |true=>fit [s'] s [c]
   |false=>none
  |_=>none
 |.agg ss,s,v=>match v with
  |.o (.agg ps)=>fit ss s ps
  |_=>none
theorem Dv{b:List (Nat×Nat×List AC)}{r:List (Nat×Option Nat×Row)}{s:TSt}{p:SSh}{v:TV}{q:Rd (gO p.list)}(h:GK p s v=some q) (hr:gP b r q.rr q.br):IM s.st b r v.av (Mi p q.x).av:=by
 cases p with
 |one s'=>
  unfold GK at h;simp only at h;split at h
  ·rename_i c;split at h
   ·rename_i hc;have h1:=eU h hr;have e0:A6 [c]=[aa c.cells]:=(PO _).trans (jU hc);rw[e0]at h1;unfold Mi;simp only;split
    ·rename_i c' hc';rw[hc']at h1;show IL s.st b r (aa c.cells) (aa c'.cells);have h1:km s.st b r [aa c.cells] (c'.cells++[]):=h1;rw[PO]at h1
     match hl:c'.cells,h1 with
     |[y],h1=>exact h1.1
    ·cases hx:(TV.o (T1.c c)).av <;> trivial
   ·cases h
  ·cases h
 |agg ss=>
  match v,h with
  |.o (.agg ps),h=>exact eU (ss:=ss) (q:=q) h hr
def iO(s:TSt):(l:List (Nat×SSh))->Option (Rd (Dt l))
 |[]=>some ⟨(),[],[]⟩
 |p::r=>match Nat.ble s.n p.1||(s.t p.1).g with
  |true=>(GK p.2 s (s.t p.1).x).bind λq=>(iO s r).map λq2=>⟨(q.x,q2.x),q.rr++q2.rr,q.br++q2.br⟩
  |false=>none
def tA(l:List (Nat×SSh)) (x:Dt l):List (Nat×AV):=(GJ l x).map λp=>(p.1,p.2.av)
theorem gP.split{b:List (Nat×Nat×List AC)}{r:List (Nat×Option Nat×Row)}{rr rr2:List (Nat×Option Nat)}{br br2:List (Nat×Nat)}(h:gP b r (rr++rr2) (br++br2)):gP b r rr br/\gP b r rr2 br2:=
 ⟨⟨λp hp=>h.1 p (by simp[hp]),λp hp=>h.2 p (by simp[hp])⟩,⟨λp hp=>h.1 p (by simp[hp]),λp hp=>h.2 p (by simp[hp])⟩⟩
theorem jZ{b:List (Nat×Nat×List AC)}{r:List (Nat×Option Nat×Row)}{s:TSt}:∀{l:List (Nat×SSh)}{q:Rd (Dt l)},iO s l=some q->gP b r q.rr q.br->fe s.st b r (tA l q.x)
 |[],_,_,_=>trivial
 |p::l,q,h,hr=>by
  unfold iO at h;split at h
  ·rename_i hg;obtain⟨q1,h1,h2⟩:=Option.bind_eq_some_iff.1 h;obtain⟨q2,h3,rfl⟩:=Option.map_eq_some_iff.1 h2;obtain⟨r1,r2⟩:=hr.split;refine⟨⟨λhlt=>?_,Dv h1 r1⟩,jZ (q:=q2) h3 r2⟩;rw[RI]at hg;rcases hg with hg|hg
   ·have:=Qh hg;have:p.1<s.n:=hlt;omega
   ·exact hg
  ·cases h
structure RdB (α:Type) where
 x:α
 rr:List (Nat×Option Nat)
 br:List (Nat×Nat)
 L:List (Nat×Nat×List AC)
def iP(s:TSt):List (Nat×Nat)->(l:List (Nat×List Sh))->Option (RdB (Fc l))
 |_,[]=>some ⟨(),[],[],[]⟩
 |br,p::r=>match U6 br p.1 with
  |none=>none
  |some id=>match(s.b id).c with
   |none=>none
   |some ps=>(fit p.2 s ps).bind λq=>(iP s (br++q.br) r).map λq2=>⟨(q.x,q2.x),q.rr++q2.rr,q.br++q2.br,(p.1,id,A6 (ab p.2 q.x))::q2.L⟩
theorem ka{b:List (Nat×Nat×List AC)}{r:List (Nat×Option Nat×Row)}{s:TSt}:∀{l:List (Nat×List Sh)}{br:List (Nat×Nat)}{q:RdB (Fc l)},iP s br l=some q->gP b r q.rr q.br->gH s.st b r q.L/\∀k,(U6 q.L k).map (·.2)=(U6 (Du l q.x) k).map A6
 |[],_,q,h,_=>by injection h with h;subst h;exact⟨trivial,λ_=>rfl⟩
 |p::l,br,q,h,hr=>by
  unfold iP at h;split at h
  ·cases h
  ·rename_i id hid;split at h
   ·cases h
   ·rename_i ps hps;obtain⟨q1,h1,h2⟩:=Option.bind_eq_some_iff.1 h;obtain⟨q2,h3,rfl⟩:=Option.map_eq_some_iff.1 h2;obtain⟨r1,r2⟩:=hr.split;obtain⟨k1,k2⟩:=ka (q:=q2) h3 r2;refine⟨⟨?_,k1⟩,λk=>?_⟩
    ·have hc:(s.st.b id).c=some (A6 ps):=by show(s.b id).c.map A6=_;rw[hps];rfl
     unfold Ga;rw[hc];exact eU h1 r1
    ·show(U6 ((p.1,id,A6 (ab p.2 q1.x))::q2.L) k).map (·.2)=(U6 ((p.1,ab p.2 q1.x)::Du l q2.x) k).map A6;simp only[U6];split
     ·rfl
     ·exact k2 k
structure RdR (α:Type) where
 x:α
 L:List (Nat×Option Nat×Row)
def iQ(s:TSt) (rr:List (Nat×Option Nat)):(l:List (Nat×U×TypeId×Bool))->Option (RdR (Fd l))
 |[]=>some ⟨(),[]⟩
 |p::r=>match U6 rr p.1 with
  |none=>none
  |some none=>match Nat.blt 0 p.2.1.size&&Nat.blt p.2.2.1 Q7 with
   |true=>(iQ s rr r).map λq2=>⟨(([]:List p.2.1.den),q2.x),(p.1,none,(⟨p.2.1,[],p.2.2.1,p.2.2.2⟩:kn).row)::q2.L⟩
   |false=>none
  |some (some id)=>match(s.r id).c with
   |none=>none
   |some R=>match decEq R.u p.2.1 with
    |.isTrue h=>match Nat.beq R.e p.2.2.1&&(!R.fr||p.2.2.2) with
     |true=>(iQ s rr r).map λq2=>⟨((h▸R.l:List p.2.1.den),q2.x),(p.1,some id,(⟨p.2.1,(h▸R.l:List p.2.1.den),p.2.2.1,p.2.2.2⟩:kn).row)::q2.L⟩
     |false=>none
    |.isFalse _=>none
theorem row_cast{R:kn}{u:U}(h:R.u=u) (e:TypeId) (fr:Bool):(⟨u,(h▸R.l:List u.den),e,fr⟩:kn).row.es=R.row.es/\(⟨u,(h▸R.l:List u.den),e,fr⟩:kn).row.sz=R.row.sz:=by
 subst h;exact⟨rfl,rfl⟩
theorem gQ{s:TSt}{rr:List (Nat×Option Nat)}:∀{l:List (Nat×U×TypeId×Bool)}{q:RdR (Fd l)},iQ s rr l=some q->rowsLe s.st q.L/\∀k,(U6 q.L k).map (·.2)=(U6 (zV l q.x) k).map kn.row
 |[],q,h=>by injection h with h;subst h;exact⟨trivial,λ_=>rfl⟩
 |p::l,q,h=>by
  unfold iQ at h;split at h
  ·cases h
  ·split at h
   ·rename_i hz;obtain⟨q2,h3,rfl⟩:=Option.map_eq_some_iff.1 h;obtain⟨k1,k2⟩:=gQ (q:=q2) h3;rw[PM]at hz;refine⟨⟨⟨rfl,Qh hz.1,Qh hz.2⟩,k1⟩,λk=>?_⟩;show(U6 ((p.1,none,(⟨p.2.1,[],p.2.2.1,p.2.2.2⟩:kn).row)::q2.L) k).map (·.2)=(U6 ((p.1,(⟨p.2.1,[],p.2.2.1,p.2.2.2⟩:kn))::zV l q2.x) k).map kn.row;simp only[U6];split
    ·rfl
    ·exact k2 k
   ·cases h
  ·rename_i id hid;split at h
   ·cases h
   ·rename_i R hR;split at h
    ·rename_i hu _;split at h
     ·rename_i hc;rw[PM]at hc;obtain⟨q2,h3,rfl⟩:=Option.map_eq_some_iff.1 h;obtain⟨k1,k2⟩:=gQ (q:=q2) h3;obtain⟨c1,c2⟩:=row_cast hu p.2.2.1 p.2.2.2;refine⟨⟨?_,k1⟩,λk=>?_⟩
      ·have hcr:(s.st.r id).c=some R.row:=by show(s.r id).c.map kn.row=_;rw[hR];rfl
       unfold rowSrc;simp only;rw[hcr];refine⟨c1.symm,c2.symm,PL hc.1,λhf=>?_⟩;have hf:R.fr=true:=hf;have h2:=hc.2;rw[hf]at h2;exact h2
      ·show(U6 ((p.1,some id,(⟨p.2.1,(hu▸R.l:List p.2.1.den),p.2.2.1,p.2.2.2⟩:kn).row)::q2.L) k).map (·.2)=(U6 ((p.1,(⟨p.2.1,(hu▸R.l:List p.2.1.den),p.2.2.1,p.2.2.2⟩:kn))::zV l q2.x) k).map kn.row;simp only[U6];split
       ·rfl
       ·exact k2 k
     ·cases h
    ·cases h
def Dw(x:Nat):List Nat->Bool
 |[]=>false
 |y::r=>Nat.beq x y||Dw x r
def qR:List Nat->Bool
 |[]=>true
 |x::r=> !Dw x r&&qR r
theorem vF{x:Nat}:∀{l:List Nat},Dw x l=false->x∉l
 |[],_,h=>by simp at h
 |y::r,h,hm=>by
  simp only[Dw,SL]at h;rcases List.mem_cons.1 hm with e|hm
  ·subst e;have:=h.1;simp at this
  ·exact vF h.2 hm
theorem lV:∀{l:List Nat},qR l=true->l.Nodup
 |[],_=>QM
 |x::r,h=>by
  simp only[qR,PM,Qf]at h;exact List.nodup_cons.2 ⟨vF h.1,lV h.2⟩
def tC(rL:List (Nat×Option Nat×Row)) (p:Nat×Option Nat):Bool:=match U6 rL p.1,p.2 with
 |some q,some id=>match q.1 with
  |some id'=>Nat.beq id' id
  |none=>false
 |some q,none=>match q.1 with
  |some _=>false
  |none=>true
 |none,_=>false
def tD(bL:List (Nat×Nat×List AC)) (p:Nat×Nat):Bool:=match U6 bL p.1 with
 |some q=>Nat.beq q.1 p.2
 |none=>false
theorem xm{rL:List (Nat×Option Nat×Row)}{p:Nat×Option Nat}(h:tC rL p=true):(U6 rL p.1).map (·.1)=some p.2:=by
 unfold tC at h;split at h
 ·rename_i q id hq hp;split at h
  ·rename_i id' hi;rw[hq,hp,Qm,hi,PL h]
  ·cases h
 ·rename_i q hq hp;split at h
  ·cases h
  ·rename_i hi;rw[hq,hp,Qm,hi]
 ·cases h
theorem xn{bL:List (Nat×Nat×List AC)}{p:Nat×Nat}(h:tD bL p=true):(U6 bL p.1).map (·.1)=some p.2:=by
 unfold tD at h;split at h
 ·rename_i q hq;rw[hq,Qm,PL h]
 ·cases h
def Lay.read0(L:Lay) (s:TSt):Option L.den:=match Nat.beq s.n L.n with
 |true=>(iO s L.t).bind λa=>(iP s a.br L.b).bind λc=>(iQ s (a.rr++c.rr) L.r).bind λd=>
  match(a.rr++c.rr).all (tC d.L)&&(a.br++c.br).all (tD c.L)&&qR (c.L.map (·.2.1))&&qR (d.L.filterMap (·.2.1)) with
  |true=>some (a.x,c.x,d.x)
  |false=>none
 |false=>none
theorem zW(l:List (Nat×TV)) (k:Nat):((U6 l k).getD .any).av=(U6 (l.map λp=>(p.1,p.2.av)) k).getD .any:=by
 rw[<-uQ TV.av];cases U6 l k <;> rfl
theorem Lay.read0_le{L:Lay}{s:TSt}{x:L.den}(h:L.read0 s=some x):Le s.st (L.st x).st:=by
 unfold Lay.read0 at h;split at h
 ·rename_i hn;obtain⟨a,h1,h2⟩:=Option.bind_eq_some_iff.1 h;obtain⟨c,h3,h4⟩:=Option.bind_eq_some_iff.1 h2;obtain⟨d,h5,h6⟩:=Option.bind_eq_some_iff.1 h4;clear h h2 h4;split at h6
  ·rename_i hc;injection h6 with h6;subst h6;simp only[PM,Sg]at hc;obtain⟨⟨⟨c1,c2⟩,c3⟩,c4⟩:=hc;have hr:gP c.L d.L (a.rr++c.rr) (a.br++c.br):=⟨λp hp=>xm (c1 p hp),λp hp=>xn (c2 p hp)⟩;obtain⟨r1,r2⟩:=hr.split;obtain⟨b1,b2⟩:=ka h3 r2;obtain⟨w1,w2⟩:=gQ h5;have e:(L.st (a.x,c.x,d.x)).st=Z9 L.n (tA L.t a.x) c.L d.L:=by
    unfold Z9 TSt.st Lay.st;congr 1
    ·funext k;exact congrArg (GV.mk _) (zW _ k)
    ·funext k;exact congrArg (BS.mk 0) (b2 k).symm
    ·funext k;exact congrArg (RS.mk 0) (w2 k).symm
   rw[e];exact LL (PL hn) (jZ h1 r1) b1 w1 (lV c3) (lV c4)
  ·cases h6
 ·cases h
def Lv(p:Nat×SSh) (s:TSt):TSt:=match p.2 with
 |.one (.d (.sl _))=>match(s.t p.1).g,(s.t p.1).x with
  |true,.o (.c (.row id ver))=>match(s.r id).c with
   |some R=>match Nat.beq ver (s.r id).ver&&Nat.blt p.1 s.n&&Nat.blt R.e Q7 with
    |true=>(s.app [.r id ⟨(s.r id).ver,some ⟨R.u,R.l,R.e,true⟩⟩]).app [.t p.1 ⟨true,.o (.c (.ch (.sl R.u) R.l))⟩]
    |false=>s
   |none=>s
  |_,_=>s
 |_=>s
def Mj:List (Nat×SSh)->TSt->TSt
 |[],s=>s
 |p::r,s=>Mj r (Lv p s)
theorem GL(p:Nat×SSh) (s:TSt):Le s.st (Lv p s).st:=by
 unfold Lv;split
 ·split
  ·rename_i id ver hg hx;split
   ·rename_i R hR;split
    ·rename_i hc;simp only[PM]at hc;obtain⟨⟨c1,c2⟩,c3⟩:=hc;have c1:=PL c1;rw[TSt.st_app,TSt.st_app];refine IN (R:=R.row) (Qh c2) (by exact hg) ?_ ?_ (Qh c3)
     ·exact(congrArg TV.av hx).trans (by rw[c1];rfl)
     ·show(s.r id).c.map kn.row=_;rw[hR];rfl
    ·exact Le.refl _
   ·exact Le.refl _
  ·exact Le.refl _
 ·exact Le.refl _
theorem zX:∀(l:List (Nat×SSh)) (s:TSt),Le s.st (Mj l s).st
 |[],_s=>Le.refl _
 |p::l,s=>(GL p s).trans (zX l (Lv p s))
def Lay.read(L:Lay) (s:TSt):Option L.den:=L.read0 (Mj L.t s)
theorem Lay.read_le{L:Lay}{s:TSt}{x:L.den}(h:L.read s=some x):Le s.st (L.st x).st:=(zX L.t s).trans (Lay.read0_le h)
def P3.part:P3->J5
 |.t k _=>.t k
 |.b k _=>.b k
 |.r k _=>.r k
theorem vG(us:List P3):(us.map P3.upd).map Upd.part=us.map P3.part:=by
 rw[QN];exact Rh λu _=>by cases u <;> rfl
def sel{α:Type}(b:Bool) (x y:α):α:=match b with
 |true=>x
 |false=>y
def lW(d:Option Nat):List P3:=match d with
 |some d=>[.t d ⟨false,.any⟩]
 |none=>[]
theorem Dx(d:Option Nat):US (lW d)=ol d:=by cases d <;> rfl
section
variable (T:TypeId->Option TI) (TU:TypeId->Option U) (tcq:Oper->Call->TQ (List P3))
def bK{R:Type}(draw:Bool) (l:List Oper):List Oper->TSt->List (List J5×List J5)->(TSt->Option R)->Option R
 |[],s,tr,κ=>match draw with
  |true=>chk (lm l tr) (κ s)
  |false=>κ s
 |o::rest,s,tr,κ=>match o.guard with
  |none=>(If T TU tcq o).run s [] λus rs=>bK draw l rest (s.app us) (tr++[(rs,us.map P3.part)]) κ
  |some (j,want)=>match(l[j]?).bind (·.dst) with
   |none=>none
   |some d=>match(s.t d).g,(s.t d).x with
    |false,_=>bK draw l rest (s.app (lW o.dst)) (tr++[([.t d],(lW o.dst).map P3.part)]) κ
    |true,.o (.c (.ch .bool b))=>sel b
     (match want with
      |true=>(If T TU tcq o).run (s.app1 (.t d ⟨true,c1 .bool true⟩)) [.t d] λus rs=>bK draw l rest ((s.app1 (.t d ⟨true,c1 .bool true⟩)).app us) (tr++[(rs,us.map P3.part)]) κ
      |false=>bK draw l rest ((s.app1 (.t d ⟨true,c1 .bool true⟩)).app (lW o.dst)) (tr++[([.t d],(lW o.dst).map P3.part)]) κ)
     (match want with
      |false=>(If T TU tcq o).run (s.app1 (.t d ⟨true,c1 .bool false⟩)) [.t d] λus rs=>bK draw l rest ((s.app1 (.t d ⟨true,c1 .bool false⟩)).app us) (tr++[(rs,us.map P3.part)]) κ
      |true=>bK draw l rest ((s.app1 (.t d ⟨true,c1 .bool false⟩)).app (lW o.dst)) (tr++[([.t d],(lW o.dst).map P3.part)]) κ)
    |_,_=>none
end
theorem vH{α:Type}{b:Bool}{x y:Option α}{r:α}(h:sel b x y=some r):(b=true/\x=some r)\/(b=false/\y=some r):=by
 cases b
 ·exact .inr ⟨rfl,h⟩
 ·exact .inl ⟨rfl,h⟩
theorem qS{s:TSt}{d:Nat}{x:TGV}(h:s.t d=x):s.app1 (.t d x)=s:=by
 show(⟨s.n,Am.upd s.t d x,s.b,s.r⟩:TSt)=s;have:Am.upd s.t d x=s.t:=by
  funext j;unfold Am.upd;split
  ·rename_i e;rw[e,h]
  ·rfl
 rw[this]
section
variable {P:Program}{T:TypeId->Option TI}{TU:TypeId->Option U}{cq:Oper->Call->Q (List Upd)}{tcq:Oper->Call->TQ (List P3)}
theorem jy{R:Type}(hc:∀o c,o.op= .call c->Sim US (tcq o c) (cq o c)){draw:Bool}{l:List Oper}{κ:TSt->Option R}{r:R}:∀{rest:List Oper}{s:TSt}{tr:List (List J5×List J5)},bK T TU tcq draw l rest s tr κ=some r->
  wpD T cq l rest s.st tr λs' tr'=>(draw=true->lm l tr'=true)/\∃ts,s'=ts.st/\κ ts=some r
 |[],s,tr,h=>by
  unfold bK at h;cases draw with
  |true=>exact⟨λ_=>(L9 h).1,s,rfl,(L9 h).2⟩
  |false=>exact⟨λe=>(by cases e),s,rfl,h⟩
 |o::rest,s,tr,h=>by
  have run:∀{s:TSt} {t0:List J5},((If T TU tcq o).run s t0 λus rs=>bK T TU tcq draw l rest (s.app us) (tr++[(rs,us.map P3.part)]) κ)=some r->
    (opQ T cq o).wpt s.st t0 λus rs=>wpD T cq l rest (s.st.app us) (tr++[(rs,us.map Upd.part)]) λs' tr'=>(draw=true->lm l tr'=true)/\∃ts,s'=ts.st/\κ ts=some r:=fun {s t0} h=>by
   have h1:=Di (T:=T) (TU:=TU) hc o s t0 _ (TQ.run_wpt h);refine Q.wpt_mono h1 ?_;rintro us rs ⟨tus,rfl,h2⟩;have h3:=jy hc h2;rw[TSt.st_app]at h3;have e:tus.map P3.part=(US tus).map Upd.part:=(vG tus).symm;rw[e]at h3;exact h3
  have skip:∀{s:TSt} {t0:List J5},bK T TU tcq draw l rest (s.app (lW o.dst)) (tr++[(t0,(lW o.dst).map P3.part)]) κ=some r->
    wpD T cq l rest (s.st.app (ol o.dst)) (tr++[(t0,(ol o.dst).map Upd.part)]) λs' tr'=>(draw=true->lm l tr'=true)/\∃ts,s'=ts.st/\κ ts=some r:=fun {s t0} h=>by
   have h3:=jy hc h;rw[TSt.st_app]at h3;have e1:(lW o.dst).map P3.upd=ol o.dst:=Dx o.dst;have e:(lW o.dst).map P3.part=(ol o.dst).map Upd.part:=by rw[<-vG,e1]
   rw[e,e1]at h3;exact h3
  show(opD T cq l o).wpt s.st [] λus rs=>wpD T cq l rest (s.st.app us) (tr++[(rs,us.map Upd.part)]) λs' tr'=>(draw=true->lm l tr'=true)/\∃ts,s'=ts.st/\κ ts=some r;unfold bK at h;unfold opD;split at h
  ·rename_i hg;rw[hg];exact run h
  ·rename_i j want hg;rw[hg];simp only;split at h
   ·cases h
   ·rename_i d hd;rw[hd];simp only[Q.wpt];have hst:s.st.t d=(s.t d).gv:=rfl;rw[hst];split at h
    ·rename_i hgf;have e:(s.t d).gv.g=false:=hgf;rw[e];exact skip h
    ·rename_i b hgt hxb;have e:(s.t d).gv.g=true:=hgt;have ex:(s.t d).gv.x= .c (.d (.v (.bool b))):=congrArg TV.av hxb;rw[e];simp only;rw[ex];have hsd:s.t d=⟨true,c1 .bool b⟩:=by
      have:s.t d=⟨(s.t d).g,(s.t d).x⟩:=rfl;rw[this,hgt,hxb];rfl
     rcases vH h with⟨hb,h⟩|⟨hb,h⟩
     ·subst hb;rw[qS hsd]at h;cases want with
      |true=>exact run h
      |false=>exact skip h
     ·subst hb;rw[qS hsd]at h;cases want with
      |true=>exact skip h
      |false=>exact run h
    ·cases h
theorem nN{l:List Oper}{K:St->Prop}:∀{rest:List Oper}{s:St}{tr:List (List J5×List J5)},(wpD T cq l rest s tr λs' _=>K s')->wpR T cq l rest s K
 |[],_,_,h=>h
 |o::rest,s,tr,h=>by
  have h:(opD T cq l o).wpt s [] λus rs=>wpD T cq l rest (s.app us) (tr++[(rs,us.map Upd.part)]) λs' _=>K s':=h;show(opD T cq l o).wp s λus=>wpR T cq l rest (s.app us) K;exact Q.wp_of_wpt (Q.wpt_mono h λus rs h1=>nN h1)
theorem pq{l:List Oper}{K K':St->List (List J5×List J5)->Prop}(hk:∀s tr,K s tr->K' s tr):∀{rest:List Oper}{s:St}{tr:List (List J5×List J5)},wpD T cq l rest s tr K->wpD T cq l rest s tr K'
 |[],_,_,h=>hk _ _ h
 |o::rest,s,tr,h=>by
  have h:(opD T cq l o).wpt s [] λus rs=>wpD T cq l rest (s.app us) (tr++[(rs,us.map Upd.part)]) K:=h;show(opD T cq l o).wpt s [] λus rs=>wpD T cq l rest (s.app us) (tr++[(rs,us.map Upd.part)]) K';exact Q.wpt_mono h λus rs h1=>pq hk h1
end
def GM{S R:Type}:Nat->(S->Option (S⊕R))->S->Option R
 |0,_,_=>none
 |n+1,G,x=>match G x with
  |none=>none
  |some (.inl y)=>GM n G y
  |some (.inr r)=>some r
theorem zY:(True/\True)=True:=propext ⟨λ_=>trivial,λ_=>⟨trivial,trivial⟩⟩
def Lw:Nat:= @Eq.rec Prop (True/\True) (λ_ _=>Nat) 1180591620717411303424 True zY
theorem zZ{p q:Prop}(h:p=q) (n:Nat): @Eq.rec Prop p (λ_ _=>Nat) n q h=n:=by cases h;rfl
theorem GN:Lw=1180591620717411303424:=zZ zY _
class Fu where
 n:Nat
instance fu0:Fu:=⟨Lw⟩
def aH[Fu] {S R:Type}(G:S->Option (S⊕R)) (x:S):Option R:=GM Fu.n G x
def Dy{α β:Type}(o:Option α) (f:α->Option β):Option β:=
 let _h:= @aH fu0 Unit Unit
 match o with
 |none=>none
 |some x=>f x
theorem vI{α β:Type}(o:Option α) (f:α->Option β):Dy o f=o.bind f:=by cases o <;> rfl
structure Vw (L:Lay) (S:Type) where
 to:L.den->S
 of:S->L.den
 ok:∀x,of (to x)=x
inductive An:Type->Type 1 where
 |leaf {R:Type}:An R
 |two {R:Type} (a b:An R):An R
 |one {R:Type} (a:An R):An R
 |cut {R S:Type} (L:Lay) (V:Vw L S) (F:S->Option R) (a b:An R):An R
 |loop {R S:Type} (L:Lay) (V:Vw L S) (G:S->Option (S⊕R)) (a:An (S⊕R)):An R
section
variable (T:TypeId->Option TI) (TU:TypeId->Option U) (tcq:Oper->Call->TQ (List P3))
def An.fst{R:Type}:An R->An R
 |.two a _=>a
 |.cut _ _ _ a _=>a
 |.one a=>a
 |_=>.leaf
def An.snd{R:Type}:An R->An R
 |.two _ b=>b
 |.cut _ _ _ _ b=>b
 |_=>.leaf
def Aa{R:Type}(id:Nat) (κ:AX->TSt->Option R) (ax:AX) (s:TSt):Option R:=match ax with
 |.normal=>κ .normal s
 |.exit i=>match Nat.beq i id with
  |true=>κ .normal s
  |false=>κ (.exit i) s
 |.ret=>κ .ret s
def Ml{R S:Type}(L:Lay) (V:Vw L S) (F:S->Option R) (κ:AX->TSt->Option R) (ax:AX) (s:TSt):Option R:=match ax with
 |.normal=>Dy (L.read s) λx=>F (V.to x)
 |.exit i=>κ (.exit i) s
 |.ret=>κ .ret s
def Ab{R:Type}(F:TSt->Option R) (κ:AX->TSt->Option R) (ax:AX) (s:TSt):Option R:=match ax with
 |.normal=>F s
 |.exit i=>κ (.exit i) s
 |.ret=>κ .ret s
def Fe{R S:Type}(L:Lay) (V:Vw L S) (κ:AX->TSt->Option R) (ax:AX) (s:TSt):Option (S⊕R):=match ax with
 |.normal=>(L.read s).map λx=>.inl (V.to x)
 |.exit i=>(κ (.exit i) s).map .inr
 |.ret=>(κ .ret s).map .inr
def An.next{R:Type}(a:An R) (F:TSt->Option R) (κ:AX->TSt->Option R):AX->TSt->Option R:=match a with
 |.cut L V G _ _=>Ml L V G κ
 |_=>Ab F κ
def mP{R:Type}:An R->Code->TSt->(AX->TSt->Option R)->Option R
 |_,.skip,s,κ=>κ .normal s
 |a,.seq x y,s,κ=>mP a.fst x s (a.next (λs'=>mP a.snd y s' κ) κ)
 |_,.region _ ops draw,s,κ=>chk (ops.toList.all (qv s.n)) (bK T TU tcq draw ops.toList ops.toList s [] λs'=>κ .normal s')
 |a,.cond c x y,s,κ=>((tev c).bind CP).run s [] λb _=>sel b (mP a.fst x s κ) (mP a.snd y s κ)
 |a,.block id c,s,κ=>mP a.fst c s (Aa id κ)
 |a,.loop _,s,_=>match a with
  |.loop L V G _=>Dy (L.read s) λx=>aH G (V.to x)
  |_=>none
 |_,.exit i,s,κ=>κ (.exit i) s
 |_,.ret,s,κ=>κ .ret s
 |_,_,_,_=>none
def An.ok:{R:Type}->An R->Code->(AX->TSt->Option R)->Prop
 |_,.leaf,_,_=>True
 |_,.two a b,.seq x y,κ=>a.ok x (Ab (λs'=>mP T TU tcq b y s' κ) κ)/\b.ok y κ
 |_,.cut L V F a b,.seq x y,κ=>a.ok x (Ml L V F κ)/\b.ok y κ/\∀v,F v=mP T TU tcq b y (L.st (V.of v)) κ
 |_,.two a b,.cond _ x y,κ=>a.ok x κ/\b.ok y κ
 |_,.one a,.block id c,κ=>a.ok c (Aa id κ)
 |_,.loop L V G a,.loop c,κ=>a.ok c (Fe L V κ)/\∀v,G v=mP T TU tcq a c (L.st (V.of v)) (Fe L V κ)
 |_,_,_,_=>False
end
section
variable {P:Program}{T:TypeId->Option TI}{TU:TypeId->Option U}{cq:Oper->Call->Q (List Upd)}{tcq:Oper->Call->TQ (List P3)}
theorem lX(hT:∀t i,T t=some i->TOk P t i) (hcq:∀o c,o.op= .call c->xO P o (cq o c)) (hc:∀o c,o.op= .call c->Sim US (tcq o c) (cq o c)) (hm:P.follows .mixedOrders=true) :
  ∀(c:Code) {R:Type} {a:An R} {s:TSt} {κ:AX->TSt->Option R} {K:AX->St->Prop} {r:R},a.ok T TU tcq c κ->mP T TU tcq a c s κ=some r->(∀ax s',κ ax s'=some r->K ax s'.st)->Tri P c K s.st:=by
 intro c
 induction c with
 |skip=>intro R a s κ K r _ h hk;exact Cx (hk _ _ h)
 |seq x y ihx ihy=>
  intro R a s κ K r ho h hk;refine oz ?_;cases a with
  |leaf=>
   refine ihx (a:=.leaf) (κ:=Ab (λs'=>mP T TU tcq .leaf y s' κ) κ) trivial h λax s' h'=>?_;cases ax with
   |normal=>exact ihy (a:=.leaf) (κ:=κ) trivial h' hk
   |exit i=>exact hk _ _ h'
   |ret=>exact hk _ _ h'
  |two a b=>
   refine ihx ho.1 h λax s' h'=>?_;cases ax with
   |normal=>exact ihy ho.2 h' hk
   |exit i=>exact hk _ _ h'
   |ret=>exact hk _ _ h'
  |cut L V F a b=>
   refine ihx ho.1 h λax s' h'=>?_;cases ax with
   |normal=>
    rw[Ml,vI]at h';obtain⟨v,h1,h2⟩:=Option.bind_eq_some_iff.1 h';rw[ho.2.2 (V.to v),V.ok]at h2;exact IK (Lay.read_le h1) (ihy ho.2.1 h2 hk)
   |exit i=>exact hk _ _ h'
   |ret=>exact hk _ _ h'
  |one a=>exact ho.elim
  |loop L V G a=>exact ho.elim
 |region id ops draw=>
  intro R a s κ K r _ h hk;obtain⟨hd,h⟩:=L9 h;have h1:=jy (T:=T) (TU:=TU) hc h;have e:ops=ops.toList.toArray:=(Sd ..).symm;rw[e];cases draw with
  |true=>exact wH hT hcq hm hd (pq (λs' tr h2=>by obtain⟨h3,ts,rfl,h4⟩:=h2;exact⟨h3 rfl,hk _ _ h4⟩) h1)
  |false=>exact nt hT hcq hd (nN (tr:=[]) (pq (λs' tr h2=>by obtain⟨_,ts,rfl,h4⟩:=h2;exact hk _ _ h4) h1))
 |cond cc x y ihx ihy=>
  intro R a s κ K r ho h hk;have h0:a.fst.ok T TU tcq x κ/\a.snd.ok T TU tcq y κ:=by
   cases a with
   |leaf=>exact⟨trivial,trivial⟩
   |two a b=>exact ho
   |cut L V F a b=>exact ho.elim
   |one a=>exact ho.elim
   |loop L V G a=>exact ho.elim
  have h1:=(Sim.bind (C5 cc) λv=>qF v) s [] _ (TQ.run_wpt h);refine Cz (Q.wp_of_wpt (Q.wpt_mono h1 ?_));rintro b rs ⟨b',rfl,h2⟩;rcases vH h2 with⟨rfl,h3⟩|⟨rfl,h3⟩
  ·exact⟨λ_=>ihx h0.1 h3 hk,λe=>(by cases e)⟩
  ·exact⟨λe=>(by cases e),λ_=>ihy h0.2 h3 hk⟩
 |block id c ih=>
  intro R a s κ K r ho h hk;have h0:a.fst.ok T TU tcq c (Aa id κ):=by
   cases a with
   |leaf=>exact trivial
   |two a b=>exact ho.elim
   |cut L V F a b=>exact ho.elim
   |one a=>exact ho
   |loop L V G a=>exact ho.elim
  refine yK (ih h0 h λax s' h'=>?_);cases ax with
  |normal=>exact hk _ _ h'
  |exit i=>
   show if i=id then K .normal s'.st else K (.exit i) s'.st
   have h':(match Nat.beq i id with | true=>κ .normal s' | false=>κ (.exit i) s')=some r:=h'
   split at h'
   ·rename_i hb;rw[Qx (PL hb)];exact hk _ _ h'
   ·rename_i hb;rw[Ql (λe=>by subst e;rw[Tp]at hb;cases hb)];exact hk _ _ h'
  |ret=>exact hk _ _ h'
 |loop c ih=>
  intro R a s κ K r ho h hk;cases a with
  |loop L V G a=>
   obtain⟨ho1,ho2⟩:=ho;have h:Dy (L.read s) (λx=>aH G (V.to x))=some r:=h;rw[vI]at h;obtain⟨v,h1,h2⟩:=Option.bind_eq_some_iff.1 h;refine CA (λn st=>∃x,st=(L.st (V.of x)).st/\GM n G x=some r) (n0:=Lw) (s0:=(L.st (V.of (V.to v))).st) (by rw[V.ok];exact Lay.read_le h1) ⟨V.to v,rfl,h2⟩ ?_;rintro n st ⟨x,rfl,hx⟩;cases n with
   |zero=>cases hx
   |succ n=>
    unfold GM at hx;split at hx
    ·cases hx
    ·rename_i y hy;rw[ho2 x]at hy;refine ih ho1 hy λax s' h'=>?_;cases ax with
     |normal=>
      obtain⟨z,h3,h4⟩:=Option.map_eq_some_iff.1 h';injection h4 with h4;subst h4;exact⟨n,_,Rn n,by rw[V.ok];exact Lay.read_le h3,V.to z,rfl,hx⟩
     |exit i=>obtain⟨z,_,h4⟩:=Option.map_eq_some_iff.1 h';cases h4
     |ret=>obtain⟨z,_,h4⟩:=Option.map_eq_some_iff.1 h';cases h4
    ·rename_i r' hy;injection hx with hx;subst hx;rw[ho2 x]at hy;refine ih ho1 hy λax s' h'=>?_;cases ax with
     |normal=>obtain⟨z,_,h4⟩:=Option.map_eq_some_iff.1 h';cases h4
     |exit i=>
      obtain⟨z,h3,h4⟩:=Option.map_eq_some_iff.1 h';injection h4 with h4;subst h4;exact hk _ _ h3
     |ret=>
      obtain⟨z,h3,h4⟩:=Option.map_eq_some_iff.1 h';injection h4 with h4;subst h4;exact hk _ _ h3
  |leaf=>cases h
  |two a b=>exact ho.elim
  |cut L V F a b=>exact ho.elim
  |one a=>exact ho.elim
 |exit i=>intro R a s κ K r _ h hk;exact Cy (hk _ _ h)
 |ret=>intro R a s κ K r _ h hk;exact FZ (hk _ _ h)
 |_=>intro R a s κ K r _ h hk;cases h
end
def qd:PTs->ATs->ATs
 |.nil,r=>r
 |.cons t ts,r=>.cons (.bx t) (qd ts r)
 |.rcons u e ts,r=>.cons (.rx u e) (qd ts r)
def spl:(p:PTs)->(r:ATs)->(qd p r).den->p.den×r.den
 |.nil,_,x=>((),x)
 |.cons _ ts,r,x=>((x.1,(spl ts r x.2).1),(spl ts r x.2).2)
 |.rcons _ _ ts,r,x=>((x.1,(spl ts r x.2).1),(spl ts r x.2).2)
theorem pt:∀(p:PTs) (r:ATs) (x:(qd p r).den),(qd p r).oas x=p.ocs (spl p r x).1++r.oas (spl p r x).2
 |.nil,_,_=>rfl
 |.cons t ts,r,x=>by
  show AT.oa (.bx t) x.1::(qd ts r).oas x.2=OA.bx (t.ocs x.1)::(ts.ocs (spl ts r x.2).1++r.oas (spl ts r x.2).2);rw[pt ts r x.2];rfl
 |.rcons u e ts,r,x=>by
  show AT.oa (.rx u e) x.1::(qd ts r).oas x.2=AT.oa (.rx u e) x.1::(ts.ocs (spl ts r x.2).1++r.oas (spl ts r x.2).2);rw[pt ts r x.2]
theorem tE:∀(p:PTs) (r:ATs),r.ok=true->(qd p r).ok=true
 |.nil,_,h=>h
 |.cons _ ts,r,h=>by
  show(true&&(qd ts r).ok)=true;rw[tE ts r h];rfl
 |.rcons _ _ ts,r,h=>by
  show(true&&(qd ts r).ok)=true;rw[tE ts r h];rfl
def ATs.len:ATs->Nat
 |.nil=>0
 |.cons _ ts=>ts.len+1
def PTs.len:PTs->Nat
 |.nil=>0
 |.cons _ ts=>ts.len+1
 |.rcons _ _ ts=>ts.len+1
theorem tF:∀(ts:ATs) (x:ts.den),(ts.oas x).length=ts.len
 |.nil,_=>rfl
 |.cons t ts,x=>by
  show(ts.oas x.2).length+1=ts.len+1;rw[tF ts]
theorem lY:∀(ts:PTs) (x:ts.den),(ts.ocs x).length=ts.len
 |.nil,_=>rfl
 |.cons t ts,x=>by
  show(ts.ocs x.2).length+1=ts.len+1;rw[lY ts]
 |.rcons _ _ ts,x=>by
  show(ts.ocs x.2).length+1=ts.len+1;rw[lY ts]
def qT:ATs->List T1->List T1
 |.cons (.bx _) ts,v::vs=>v::qT ts vs
 |.cons (.rx _ _) ts,v::vs=>v::qT ts vs
 |.cons _ ts,_::vs=>qT ts vs
 |_,_=>[]
theorem cU:∀(ts:ATs) (x:ts.den) (vs:List T1),E9 (ts.oas x) (vs.map T1.av)=(qT ts vs).map T1.av
 |.nil,_,[]=>rfl
 |.nil,_,_::_=>rfl
 |.cons (.bx _) _ts,_x,[]=>rfl
 |.cons (.rx _ _) _ts,_x,[]=>rfl
 |.cons (.c _) _ts,_x,[]=>rfl
 |.cons (.agg _) _ts,_x,[]=>rfl
 |.cons (.bx _t) ts,x,v::vs=>congrArg (v.av :: ·) (cU ts x.2 vs)
 |.cons (.rx _ _) ts,x,v::vs=>congrArg (v.av :: ·) (cU ts x.2 vs)
 |.cons (.c _t) ts,x,_v::vs=>cU ts x.2 vs
 |.cons (.agg _t) ts,x,_v::vs=>cU ts x.2 vs
def tUT(g:Bool) (i:Nat):List T1->List P3
 |[]=>[]
 |v::vs=>.t i ⟨g,.o v⟩::tUT g (i+1) vs
theorem vJ(g:Bool):∀(vs:List T1) (i:Nat),(tUT g i vs).map P3.upd=tU g i (vs.map T1.av)
 |[],_=>rfl
 |v::vs,i=>congrArg (Upd.t i ⟨g,v.av⟩ :: ·) (vJ g vs (i+1))
def lZ(n:Nat):TSt:=⟨n,λk=>⟨decide (k<n),.any⟩,λ_=>⟨0,none⟩,λ_=>⟨0,none⟩⟩
theorem qU(n:Nat):(lZ n).st=Z9 n [] [] []:=rfl
def Ac(n:Nat) (args:ATs) (k:Do):TSt:=(((lZ n).app k.us).app (tUT true 0 k.vs)).app (tUT false n (qT args k.vs))
def Lx(T:TypeId->Option TI):List ResultVar->TQ (List TV)
 |[]=>.ret []
 |.tmp t::rs=>(tev (.tmp t)).bind λv=>(Lx T rs).bind λvs=>.ret (v::vs)
 |.cell a t::rs=>(ttq T t).bind λi=>(tev (.tmp a)).bind λp=>(CS i p).bind λv=>(Lx T rs).bind λvs=>.ret (v::vs)
theorem pw(T:TypeId->Option TI):∀(rs:List ResultVar),Sim (List.map TV.av) (Lx T rs) (Gf T rs)
 |[]=>Sim.ret rfl
 |.tmp t::rs=>Sim.bind (C5 (.tmp t)) λ_v=>Sim.bind (pw T rs) λ_vs=>Sim.ret rfl
 |.cell a t::rs=>Sim.bind (C7 T t) λi=>Sim.bind (C5 (.tmp a)) λp=>Sim.bind (qJ i p) λ_v=>Sim.bind (pw T rs) λ_vs=>Sim.ret rfl
def Mm(n:Nat):Nat->TQ (List TV)
 |0=>.ret []
 |m+1=>.rdT n λx=>(Mm (n+1) m).bind λvs=>.ret (x.x::vs)
theorem vK:∀(m n:Nat),Sim (List.map TV.av) (Mm n m) (IY n m)
 |0,_=>Sim.ret rfl
 |m+1,n=>Sim.rdT λ_x=>Sim.bind (vK m (n+1)) λ_vs=>Sim.ret rfl
def GO(T:TypeId->Option TI) (n:Nat) (rs:List ResultVar) (S:TFn):TQ (S.posts.den×S.res.den):=
 (Mm n S.posts.len).bind λps=>(Lx T rs).bind λvs=>(ph (qd S.posts S.res) (ps++vs)).bind λk=>
 .req (qP (k.tops++k.ids)&&k.fz.all λid=> !Ih (Sum.inr id) (k.tops++k.ids)) ((bJ k.fz).bind λ_=>.ret (spl S.posts S.res k.x))
theorem tG{T:TypeId->Option TI}{n:Nat}{rs:List ResultVar}{S:TFn}(hr:S.res.ok=true){fin:S.posts.den×S.res.den->S.R}(hfin:∀x,S.out (fin x)=x){s:TSt}{r:S.R}(h:((GO T n rs S).run s [] λx _=>some (fin x))=some r) :
  (CJ T n S.posts.len rs (qd S.posts S.res).sh (S.posts.ocs (S.out r).1) (S.res.oas (S.out r).2)).wp s.st λ_=>True:=by
 have h1:=TQ.run_wpt h;unfold GO at h1;rw[TQ.wpt_bind]at h1;unfold CJ;rw[Q.wp_bind];refine Q.wp_of_wpt (tr:=[]) (Q.wpt_mono (vK S.posts.len n s [] _ h1) ?_);rintro ps rs1 ⟨tps,rfl,h2⟩;rw[TQ.wpt_bind]at h2;rw[Q.wp_bind];refine Q.wp_of_wpt (tr:=rs1) (Q.wpt_mono (pw T rs s rs1 _ h2) ?_);rintro vs rs2 ⟨tvs,rfl,h3⟩;rw[TQ.wpt_bind]at h3;rw[Q.wp_bind,<-PV];refine Q.wp_of_wpt (tr:=rs2) (Q.wpt_mono (gN _ (tE _ _ hr) (tps++tvs) s rs2 _ h3) ?_);rintro k rs3 ⟨tk,rfl,h4⟩;obtain⟨h5,h6⟩:=h4;rw[PM]at h5;rw[TQ.wpt_bind]at h6;have h7:=M5 tk.fz s rs3 _ h6;obtain⟨us,rs4,tus,_,h8⟩:=Q.wpt_ex h7;injection h8 with h8;subst h8;rw[hfin];refine⟨⟨pt _ _ _,lQ h5.1,λid hid=>?_⟩,?_⟩
 ·have:=List.all_eq_true.1 h5.2 id hid;exact pj (by simpa using this)
 ·rw[Q.wp_bind];exact Q.wp_of_wpt (tr:=rs3) (Q.wpt_mono h7 λ_ _ _=>trivial)
def Dz(T:TypeId->Option TI) (n:Nat) (rs:List ResultVar) (S:TFn) (fin:S.posts.den×S.res.den->S.R) (ax:AX) (s:TSt):Option S.R:=match ax with
 |.exit _=>none
 |.normal=>chk (Nat.beq s.n n) ((GO T n rs S).run s [] λx _=>some (fin x))
 |.ret=>chk (Nat.beq s.n n) ((GO T n rs S).run s [] λx _=>some (fin x))
def DA(T:TypeId->Option TI) (TU:TypeId->Option U) (Γ:List (Nat×TFn)) (n:Nat) (rs:List ResultVar) (S:TFn) (fin:S.posts.den×S.res.den->S.R) (an:An S.R) (c:Code) (a:S.args.den):Option S.R:=
 (xg 1000 S.args a).run (lZ n) [] λk _=>chk (Nat.beq (qT S.args k.vs).length S.posts.len&&Nat.ble S.args.len n) (mP T TU (dI T TU Γ) an c (Ac n S.args k) (Dz T n rs S fin))
structure FnT (P:Program) (f:FuncId) (S:TFn):Prop where
 args:S.args.ok=true
 res:S.res.ok=true
 ok:CH P f S.spec
def gSp(sp:Sp):TFn:=⟨.nil,.nil,.nil,Unit,λ_=>none,λ_=>((),()),sp⟩
theorem vL{P:Program}{f:FuncId}{fn:Func}{sp:Sp}{c:Code}(hf:P.funcs[f]?=some fn) (hb:fn.body=some c) (hname:(fn.name== "runtime.NumGoroutine")=false) (hsp:Gd P f sp):FnT P f (gSp sp):=
 ⟨rfl,rfl,⟨hsp,⟨fn,hf,by rw[hb];rfl,hname⟩,λ_ _ _ _ _ _ _ _ _ hp=>by
  obtain⟨a,r,_,h⟩:=hp;cases h⟩⟩
def B9{α β:Type}(l:List (α×β)):List α:=List.map (λp=>p.1) l
theorem fnT{P:Program}{T:TypeId->Option TI}{TU:TypeId->Option U}{Γ:List (Nat×TFn)}{f:FuncId}{fn:Func}{c:Code}{S:TFn}(hT:∀t i,T t=some i->TOk P t i) (hm:P.follows .mixedOrders=true) (hΓ:∀p∈Γ,FnT P (p.1%1000000) p.2)
  (hf:P.funcs[f]?=some fn) (hb:fn.body=some c) (hname:(fn.name== "runtime.NumGoroutine")=false) (ha:S.args.ok=true) (hr:S.res.ok=true) (fin:S.posts.den×S.res.den->S.R) (hfin:∀x,S.out (fin x)=x) (an:An S.R)
  (hok:an.ok T TU (dI T TU Γ) c (Dz T fn.ntmps fn.results.toList S fin)) (hF:∀a,S.G a=DA T TU Γ fn.ntmps fn.results.toList S fin an c a) (hsp:S.sp= .none:=by rfl):FnT P f S:=by
 refine⟨ha,hr,NP hT hf hb hname 1000 (λxs hx=>?_) hsp⟩;obtain⟨a,r,rfl,hFa⟩:=hx;have h1:=hF a;rw[hFa]at h1;have h1:=h1.symm;unfold DA at h1;have h2:=TQ.run_wpt h1;have h3:=fh S.args ha 1000 a _ _ _ h2;rw[qU]at h3;have hlen:S.args.len<=fn.ntmps:=by
  obtain⟨_,_,k,_,hk⟩:=Q.wpt_ex h3;have:=(L9 hk).1;rw[PM]at this;exact Qh this.2
 refine⟨by rw[tF];exact hlen,(qd S.posts S.res).sh,Q.wp_of_wpt (Q.wpt_mono h3 ?_)⟩;rintro k rs ⟨tk,rfl,hk⟩;obtain⟨hc,hk⟩:=L9 hk;rw[PM]at hc;have hst:(Ac fn.ntmps S.args tk).st=(((Z9 fn.ntmps [] [] []).app (gb tk).us).app (tU true 0 (gb tk).avs)).app (tU false fn.ntmps (E9 (S.args.oas a) (gb tk).avs)):=by
  unfold Ac;rw[TSt.st_app,TSt.st_app,TSt.st_app,vJ,vJ];simp only[gb];rw[cU];rfl
 rw[<-hst];have hmm:(E9 (S.args.oas a) (gb tk).avs).length=S.posts.len:=by
  simp only[gb];rw[cU,PR];exact PL hc.1
 rw[hmm];have hcq:=lB (P:=P) (T:=T) hT (Γ:=xl Γ) (λp hp=>by
  obtain⟨q,hq,rfl⟩:=List.mem_map.1 hp;exact(hΓ q hq).ok)
 have fin':∀s',chk (Nat.beq s'.n fn.ntmps) ((GO T fn.ntmps fn.results.toList S).run s' [] λx _=>some (fin x))=some r->
   s'.st.n=fn.ntmps/\(S.spec.post (S.args.oas a)).length=S.posts.len/\(CJ T fn.ntmps S.posts.len fn.results.toList (qd S.posts S.res).sh (S.spec.post (S.args.oas a)) (S.spec.res (S.args.oas a))).wp s'.st λ_=>True:=λs' h'=>by
  obtain⟨h5,h6⟩:=L9 h';rw[TFn.post_of ha hFa,TFn.res_of ha hFa];exact⟨PL h5,lY _ _,tG hr hfin h6⟩
 refine lX hT hcq (λo c _=>fP T TU Γ o c) hm c hok hk λax s' h'=>?_;cases ax with
 |normal=>exact fin' s' h'
 |exit i=>cases h'
 |ret=>exact fin' s' h'
abbrev Z1:List Type->Type
 |[]=>Unit
 |[A]=>A
 |A::B::r=>A×Z1 (B::r)
def gc{A:Type}:(r:List Type)->A->Z1 r->Z1 (A::r)
 |[],a,_=>a
 |_::_,a,x=>(a,x)
def fhd{A:Type}:(r:List Type)->Z1 (A::r)->A
 |[],a=>a
 |_::_,x=>x.1
def ftl{A:Type}:(r:List Type)->Z1 (A::r)->Z1 r
 |[],_=>()
 |_::_,x=>x.2
theorem aI{A:Type}:∀(r:List Type) (a:A) (x:Z1 r),fhd r (gc r a x)=a
 |[],_,_=>rfl
 |_::_,_,_=>rfl
theorem aJ{A:Type}:∀(r:List Type) (a:A) (x:Z1 r),ftl r (gc r a x)=x
 |[],_,_=>rfl
 |_::_,_,_=>rfl
abbrev ko:List Sh->List Type->List Type
 |[],r=>r
 |.d u::s,r=>u.den::ko s r
 |.clo _ u::s,r=>u.den::ko s r
 |.e u::s,r=>u.den::ko s r
 |.nil::s,r=>ko s r
 |.fn _::s,r=>ko s r
 |.npt::s,r=>ko s r
 |.row _::s,r=>ko s r
 |.ptr _ _::s,r=>ko s r
def tJ:(ss:List Sh)->(r:List Type)->gO ss->Z1 r->Z1 (ko ss r)
 |[],_,_,y=>y
 |.d _::s,r,x,y=>gc (ko s r) x.1 (tJ s r x.2 y)
 |.clo _ _::s,r,x,y=>gc (ko s r) x.1 (tJ s r x.2 y)
 |.e _::s,r,x,y=>gc (ko s r) x.1 (tJ s r x.2 y)
 |.nil::s,r,x,y=>tJ s r x y
 |.fn _::s,r,x,y=>tJ s r x y
 |.npt::s,r,x,y=>tJ s r x y
 |.row _::s,r,x,y=>tJ s r x y
 |.ptr _ _::s,r,x,y=>tJ s r x y
def vP:(ss:List Sh)->(r:List Type)->Z1 (ko ss r)->gO ss
 |[],_,_=>()
 |.d _::s,r,y=>(fhd (ko s r) y,vP s r (ftl (ko s r) y))
 |.clo _ _::s,r,y=>(fhd (ko s r) y,vP s r (ftl (ko s r) y))
 |.e _::s,r,y=>(fhd (ko s r) y,vP s r (ftl (ko s r) y))
 |.nil::s,r,y=>vP s r y
 |.fn _::s,r,y=>vP s r y
 |.npt::s,r,y=>vP s r y
 |.row _::s,r,y=>vP s r y
 |.ptr _ _::s,r,y=>vP s r y
def rP:(ss:List Sh)->(r:List Type)->Z1 (ko ss r)->Z1 r
 |[],_,y=>y
 |.d _::s,r,y=>rP s r (ftl (ko s r) y)
 |.clo _ _::s,r,y=>rP s r (ftl (ko s r) y)
 |.e _::s,r,y=>rP s r (ftl (ko s r) y)
 |.nil::s,r,y=>rP s r y
 |.fn _::s,r,y=>rP s r y
 |.npt::s,r,y=>rP s r y
 |.row _::s,r,y=>rP s r y
 |.ptr _ _::s,r,y=>rP s r y
theorem mR:∀(ss:List Sh) (r:List Type) (x:gO ss) (y:Z1 r),vP ss r (tJ ss r x y)=x/\rP ss r (tJ ss r x y)=y
 |[],_,_,_=>⟨rfl,rfl⟩
 |.d _::s,r,x,y=>by
  obtain⟨h1,h2⟩:=mR s r x.2 y;unfold tJ vP rP;rw[aI,aJ,h1,h2];exact⟨rfl,rfl⟩
 |.clo _ _::s,r,x,y=>by
  obtain⟨h1,h2⟩:=mR s r x.2 y;unfold tJ vP rP;rw[aI,aJ,h1,h2];exact⟨rfl,rfl⟩
 |.e _::s,r,x,y=>by
  obtain⟨h1,h2⟩:=mR s r x.2 y;unfold tJ vP rP;rw[aI,aJ,h1,h2];exact⟨rfl,rfl⟩
 |.nil::s,r,x,y=>mR s r x y
 |.fn _::s,r,x,y=>mR s r x y
 |.npt::s,r,x,y=>mR s r x y
 |.row _::s,r,x,y=>mR s r x y
 |.ptr _ _::s,r,x,y=>mR s r x y
abbrev tTs:List (Nat×SSh)->List Type->List Type
 |[],r=>r
 |p::l,r=>ko p.2.list (tTs l r)
def tTo:(l:List (Nat×SSh))->(r:List Type)->Dt l->Z1 r->Z1 (tTs l r)
 |[],_,_,y=>y
 |p::l,r,x,y=>tJ p.2.list (tTs l r) x.1 (tTo l r x.2 y)
def tOf:(l:List (Nat×SSh))->(r:List Type)->Z1 (tTs l r)->Dt l
 |[],_,_=>()
 |p::l,r,y=>(vP p.2.list (tTs l r) y,tOf l r (rP p.2.list (tTs l r) y))
def tRe:(l:List (Nat×SSh))->(r:List Type)->Z1 (tTs l r)->Z1 r
 |[],_,y=>y
 |p::l,r,y=>tRe l r (rP p.2.list (tTs l r) y)
theorem Oa:∀(l:List (Nat×SSh)) (r:List Type) (x:Dt l) (y:Z1 r),tOf l r (tTo l r x y)=x/\tRe l r (tTo l r x y)=y
 |[],_,_,_=>⟨rfl,rfl⟩
 |p::l,r,x,y=>by
  obtain⟨h1,h2⟩:=Oa l r x.2 y;obtain⟨h3,h4⟩:=mR p.2.list (tTs l r) x.1 (tTo l r x.2 y);unfold tTo tOf tRe;rw[h3,h4,h1,h2];exact⟨rfl,rfl⟩
abbrev bTs:List (Nat×List Sh)->List Type->List Type
 |[],r=>r
 |p::l,r=>ko p.2 (bTs l r)
def bTo:(l:List (Nat×List Sh))->(r:List Type)->Fc l->Z1 r->Z1 (bTs l r)
 |[],_,_,y=>y
 |p::l,r,x,y=>tJ p.2 (bTs l r) x.1 (bTo l r x.2 y)
def bOf:(l:List (Nat×List Sh))->(r:List Type)->Z1 (bTs l r)->Fc l
 |[],_,_=>()
 |p::l,r,y=>(vP p.2 (bTs l r) y,bOf l r (rP p.2 (bTs l r) y))
def bRe:(l:List (Nat×List Sh))->(r:List Type)->Z1 (bTs l r)->Z1 r
 |[],_,y=>y
 |p::l,r,y=>bRe l r (rP p.2 (bTs l r) y)
theorem Ob:∀(l:List (Nat×List Sh)) (r:List Type) (x:Fc l) (y:Z1 r),bOf l r (bTo l r x y)=x/\bRe l r (bTo l r x y)=y
 |[],_,_,_=>⟨rfl,rfl⟩
 |p::l,r,x,y=>by
  obtain⟨h1,h2⟩:=Ob l r x.2 y;obtain⟨h3,h4⟩:=mR p.2 (bTs l r) x.1 (bTo l r x.2 y);unfold bTo bOf bRe;rw[h3,h4,h1,h2];exact⟨rfl,rfl⟩
abbrev rTs:List (Nat×U×TypeId×Bool)->List Type
 |[]=>[]
 |p::l=>List p.2.1.den::rTs l
def rTo:(l:List (Nat×U×TypeId×Bool))->Fd l->Z1 (rTs l)
 |[],_=>()
 |_::l,x=>gc (rTs l) x.1 (rTo l x.2)
def rOf:(l:List (Nat×U×TypeId×Bool))->Z1 (rTs l)->Fd l
 |[],_=>()
 |_::l,y=>(fhd (rTs l) y,rOf l (ftl (rTs l) y))
theorem Oc:∀(l:List (Nat×U×TypeId×Bool)) (x:Fd l),rOf l (rTo l x)=x
 |[],_=>rfl
 |_::l,x=>by
  unfold rTo rOf;rw[aI,aJ,Oc l x.2];rfl
abbrev Lay.fl(L:Lay):Type:=Z1 (tTs L.t (bTs L.b (rTs L.r)))
def vw(L:Lay):Vw L L.fl:=
 ⟨λx=>tTo L.t (bTs L.b (rTs L.r)) x.1 (bTo L.b (rTs L.r) x.2.1 (rTo L.r x.2.2)),
  λy=>(tOf L.t (bTs L.b (rTs L.r)) y,bOf L.b (rTs L.r) (tRe L.t (bTs L.b (rTs L.r)) y),rOf L.r (bRe L.b (rTs L.r) (tRe L.t (bTs L.b (rTs L.r)) y))),
  λx=>by
  obtain⟨h1,h2⟩:=Oa L.t (bTs L.b (rTs L.r)) x.1 (bTo L.b (rTs L.r) x.2.1 (rTo L.r x.2.2));obtain⟨h3,h4⟩:=Ob L.b (rTs L.r) x.2.1 (rTo L.r x.2.2);simp only[h1,h2,h3,h4,Oc];rfl⟩
abbrev zd(k:Nat) (u:U):Nat×SSh:=(k,.one (.d u))
abbrev zi(k:Nat):Nat×SSh:=(k,.one (.d (.int .i64)))
abbrev zr(k j:Nat):Nat×SSh:=(k,.one (.row (1000000+j)))
abbrev zp(k j o:Nat):Nat×SSh:=(k,.one (.ptr (1000000+j) o))
mutual
def oT:OT->List Type->List Type
 |.d u,r=>u.den::r
 |.fn _,r=>r
 |.npt,r=>r
 |.it _ u _,r=>u.den::r
 |.clo _ u,r=>u.den::r
 |.e u,r=>u.den::r
 |.row u _,r=>List u.den::r
 |.box ts,r=>oTs ts r
def oTs:OTs->List Type->List Type
 |.nil,r=>r
 |.cons t ts,r=>oT t (oTs ts r)
end
mutual
def oTo:(t:OT)->(r:List Type)->t.den->Z1 r->Z1 (oT t r)
 |.d _,r,x,y=>gc r x y
 |.fn _,_,_,y=>y
 |.npt,_,_,y=>y
 |.it _ _ _,r,x,y=>gc r x y
 |.clo _ _,r,x,y=>gc r x y
 |.e _,r,x,y=>gc r x y
 |.row _ _,r,x,y=>gc r x y
 |.box ts,r,x,y=>vQ ts r x y
def vQ:(ts:OTs)->(r:List Type)->ts.den->Z1 r->Z1 (oTs ts r)
 |.nil,_,_,y=>y
 |.cons t ts,r,x,y=>oTo t (oTs ts r) x.1 (vQ ts r x.2 y)
end
mutual
def oOf:(t:OT)->(r:List Type)->Z1 (oT t r)->t.den
 |.d _,r,y=>fhd r y
 |.fn _,_,_=>()
 |.npt,_,_=>()
 |.it _ _ _,r,y=>fhd r y
 |.clo _ _,r,y=>fhd r y
 |.e _,r,y=>fhd r y
 |.row _ _,r,y=>fhd r y
 |.box ts,r,y=>Fm ts r y
def Fm:(ts:OTs)->(r:List Type)->Z1 (oTs ts r)->ts.den
 |.nil,_,_=>()
 |.cons t ts,r,y=>(oOf t (oTs ts r) y,Fm ts r (oRe t (oTs ts r) y))
def oRe:(t:OT)->(r:List Type)->Z1 (oT t r)->Z1 r
 |.d _,r,y=>ftl r y
 |.fn _,_,y=>y
 |.npt,_,y=>y
 |.it _ _ _,r,y=>ftl r y
 |.clo _ _,r,y=>ftl r y
 |.e _,r,y=>ftl r y
 |.row _ _,r,y=>ftl r y
 |.box ts,r,y=>BX ts r y
def BX:(ts:OTs)->(r:List Type)->Z1 (oTs ts r)->Z1 r
 |.nil,_,y=>y
 |.cons t ts,r,y=>BX ts r (oRe t (oTs ts r) y)
end
mutual
theorem Jy:∀(t:OT) (r:List Type) (x:t.den) (y:Z1 r),oOf t r (oTo t r x y)=x/\oRe t r (oTo t r x y)=y
 |.d _,r,x,y=>⟨aI r x y,aJ r x y⟩
 |.fn _,_,_,_=>⟨rfl,rfl⟩
 |.npt,_,_,_=>⟨rfl,rfl⟩
 |.it _ _ _,r,x,y=>⟨aI r x y,aJ r x y⟩
 |.clo _ _,r,x,y=>⟨aI r x y,aJ r x y⟩
 |.e _,r,x,y=>⟨aI r x y,aJ r x y⟩
 |.row _ _,r,x,y=>⟨aI r x y,aJ r x y⟩
 |.box ts,r,x,y=>qY ts r x y
theorem qY:∀(ts:OTs) (r:List Type) (x:ts.den) (y:Z1 r),Fm ts r (vQ ts r x y)=x/\BX ts r (vQ ts r x y)=y
 |.nil,_,_,_=>⟨rfl,rfl⟩
 |.cons t ts,r,x,y=>by
  obtain⟨h1,h2⟩:=qY ts r x.2 y;obtain⟨h3,h4⟩:=Jy t (oTs ts r) x.1 (vQ ts r x.2 y);show(oOf t (oTs ts r) (oTo t (oTs ts r) x.1 (vQ ts r x.2 y)),Fm ts r (oRe t (oTs ts r) (oTo t (oTs ts r) x.1 (vQ ts r x.2 y))))=x/\BX ts r (oRe t (oTs ts r) (oTo t (oTs ts r) x.1 (vQ ts r x.2 y)))=y;rw[h3,h4,h1,h2];exact⟨rfl,rfl⟩
end
def aT:AT->List Type->List Type
 |.c t,r=>oT t r
 |.agg ts,r=>oTs ts r
 |.bx ts,r=>oTs ts r
 |.rx u _,r=>List u.den::r
def aTo:(t:AT)->(r:List Type)->t.den->Z1 r->Z1 (aT t r)
 |.c t,r,x,y=>oTo t r x y
 |.agg ts,r,x,y=>vQ ts r x y
 |.bx ts,r,x,y=>vQ ts r x y
 |.rx _ _,r,x,y=>gc r x y
def aOf:(t:AT)->(r:List Type)->Z1 (aT t r)->t.den
 |.c t,r,y=>oOf t r y
 |.agg ts,r,y=>Fm ts r y
 |.bx ts,r,y=>Fm ts r y
 |.rx _ _,r,y=>fhd r y
def aRe:(t:AT)->(r:List Type)->Z1 (aT t r)->Z1 r
 |.c t,r,y=>oRe t r y
 |.agg ts,r,y=>BX ts r y
 |.bx ts,r,y=>BX ts r y
 |.rx _ _,r,y=>ftl r y
theorem Mo(t:AT) (r:List Type) (x:t.den) (y:Z1 r):aOf t r (aTo t r x y)=x/\aRe t r (aTo t r x y)=y:=by
 cases t with
 |c t=>exact Jy t r x y
 |agg ts=>exact qY ts r x y
 |bx ts=>exact qY ts r x y
 |rx u e=>exact⟨aI r x y,aJ r x y⟩
def asT:ATs->List Type
 |.nil=>[]
 |.cons t ts=>aT t (asT ts)
def qe:(ts:ATs)->ts.den->Z1 (asT ts)
 |.nil,_=>()
 |.cons t ts,x=>aTo t (asT ts) x.1 (qe ts x.2)
def Jz:(ts:ATs)->Z1 (asT ts)->ts.den
 |.nil,_=>()
 |.cons t ts,y=>(aOf t (asT ts) y,Jz ts (aRe t (asT ts) y))
theorem Fo:∀(ts:ATs) (x:ts.den),Jz ts (qe ts x)=x
 |.nil,_=>rfl
 |.cons t ts,x=>by
  obtain⟨h3,h4⟩:=Mo t (asT ts) x.1 (qe ts x.2);show(aOf t (asT ts) (aTo t (asT ts) x.1 (qe ts x.2)),Jz ts (aRe t (asT ts) (aTo t (asT ts) x.1 (qe ts x.2))))=x;rw[h3,h4,Fo ts x.2];rfl
def pT:PTs->List Type->List Type
 |.nil,r=>r
 |.cons t ts,r=>oTs t (pT ts r)
 |.rcons u _ ts,r=>List u.den::pT ts r
def pTo:(ts:PTs)->(r:List Type)->ts.den->Z1 r->Z1 (pT ts r)
 |.nil,_,_,y=>y
 |.cons t ts,r,x,y=>vQ t (pT ts r) x.1 (pTo ts r x.2 y)
 |.rcons _ _ ts,r,x,y=>gc (pT ts r) x.1 (pTo ts r x.2 y)
def pOf:(ts:PTs)->(r:List Type)->Z1 (pT ts r)->ts.den
 |.nil,_,_=>()
 |.cons t ts,r,y=>(Fm t (pT ts r) y,pOf ts r (BX t (pT ts r) y))
 |.rcons _ _ ts,r,y=>(fhd (pT ts r) y,pOf ts r (ftl (pT ts r) y))
def pRe:(ts:PTs)->(r:List Type)->Z1 (pT ts r)->Z1 r
 |.nil,_,y=>y
 |.cons t ts,r,y=>pRe ts r (BX t (pT ts r) y)
 |.rcons _ _ ts,r,y=>pRe ts r (ftl (pT ts r) y)
theorem GU:∀(ts:PTs) (r:List Type) (x:ts.den) (y:Z1 r),pOf ts r (pTo ts r x y)=x/\pRe ts r (pTo ts r x y)=y
 |.nil,_,_,_=>⟨rfl,rfl⟩
 |.cons t ts,r,x,y=>by
  obtain⟨h1,h2⟩:=GU ts r x.2 y;obtain⟨h3,h4⟩:=qY t (pT ts r) x.1 (pTo ts r x.2 y);show(Fm t (pT ts r) (vQ t (pT ts r) x.1 (pTo ts r x.2 y)),pOf ts r (BX t (pT ts r) (vQ t (pT ts r) x.1 (pTo ts r x.2 y))))=x/\pRe ts r (BX t (pT ts r) (vQ t (pT ts r) x.1 (pTo ts r x.2 y)))=y;rw[h3,h4,h1,h2];exact⟨rfl,rfl⟩
 |.rcons _ _ ts,r,x,y=>by
  obtain⟨h1,h2⟩:=GU ts r x.2 y;show(fhd (pT ts r) (gc (pT ts r) x.1 (pTo ts r x.2 y)),pOf ts r (ftl (pT ts r) (gc (pT ts r) x.1 (pTo ts r x.2 y))))=x/\pRe ts r (ftl (pT ts r) (gc (pT ts r) x.1 (pTo ts r x.2 y)))=y;rw[aI,aJ,h1,h2];exact⟨rfl,rfl⟩
theorem Fq(posts:PTs) (res:ATs) (x:posts.den×res.den):(pOf posts (asT res) (pTo posts (asT res) x.1 (qe res x.2)),Jz res (pRe posts (asT res) (pTo posts (asT res) x.1 (qe res x.2))))=x:=by
 obtain⟨h1,h2⟩:=GU posts (asT res) x.1 (qe res x.2);rw[h1,h2,Fo]
def mkT(args:ATs) (posts:PTs) (res:ATs) (G:args.den->Option (Z1 (pT posts (asT res)))):TFn:=
 ⟨args,posts,res,Z1 (pT posts (asT res)),G,λy=>(pOf posts (asT res) y,Jz res (pRe posts (asT res) y)),.none⟩
theorem fnV{P:Program}{T:TypeId->Option TI}(TU:TypeId->Option U) (Γ:List (Nat×TFn)){f:FuncId}{fn:Func}{c:Code}{args:ATs}{posts:PTs}{res:ATs}{G:args.den->Option (Z1 (pT posts (asT res)))}(hT:∀t i,T t=some i->TOk P t i) (hΓ:∀p∈Γ,FnT P (p.1%1000000) p.2)
  (hf:P.funcs[f]?=some fn) (an:An (Z1 (pT posts (asT res)))) (hm:P.follows .mixedOrders=true:=by rfl) (hb:fn.body=some c:=by rfl) (hname:(fn.name== "runtime.NumGoroutine")=false:=by rfl) (ha:args.ok=true:=by rfl) (hr:res.ok=true:=by rfl)
  (hok:an.ok T TU (dI T TU Γ) c (Dz T fn.ntmps fn.results.toList (mkT args posts res G) λx=>pTo posts (asT res) x.1 (qe res x.2)):=by repeat' first | refine⟨?_,?_⟩ | (intro v;kernel_rfl) | exact True.intro)
  (hF:∀a,G a=DA T TU Γ fn.ntmps fn.results.toList (mkT args posts res G) (λx=>pTo posts (asT res) x.1 (qe res x.2)) an c a:=by intro a;kernel_rfl):FnT P f (mkT args posts res G):=
 fnT hT hm hΓ hf hb hname ha hr (λx=>pTo posts (asT res) x.1 (qe res x.2)) (λx=>Fq posts res x) an hok hF
abbrev Cur:List Type->Type->Type
 |[],R=>R
 |[A],R=>A->R
 |A::B::r,R=>A->Cur (B::r) R
abbrev uc{R:Type}:(l:List Type)->Cur l R->Z1 l->R
 |[],f,_=>f
 |[_],f,x=>f x
 |_::B::r,f,x=>uc (B::r) (f x.1) x.2
abbrev Lay.ts(L:Lay):List Type:=tTs L.t (bTs L.b (rTs L.r))
abbrev An.lq{R:Type}(L:Lay) (F:Cur L.ts (Option (L.fl⊕R))) (a:An (L.fl⊕R)):An R:=.loop L (vw L) (uc L.ts F) a
abbrev An.cq{R:Type}(L:Lay) (F:Cur L.ts (Option R)) (a b:An R):An R:=.cut L (vw L) (uc L.ts F) a b
abbrev An.tk{R:Type}:Nat->An R->An R
 |0,a=>a
 |n+1,a=>.two .leaf (An.tk n a)
abbrev ATs.of:List AT->ATs
 |[]=>.nil
 |a::l=>.cons a (ATs.of l)
abbrev ad(u:U):AT:=.c (.d u)
abbrev ar(u:U) (e:TypeId):AT:=.c (.row u e)
abbrev ag(u:U):AT:=.agg (.cons (.d u) .nil)
abbrev i_6:U:=.int .i64
abbrev u_6:U:=.int .u64
def mkF(as:List AT) (posts:PTs) (rs:List AT) (F:Cur (asT (ATs.of as)) (Option (Z1 (pT posts (asT (ATs.of rs)))))):TFn:=mkT (ATs.of as) posts (ATs.of rs) λa=>uc (asT (ATs.of as)) F (qe (ATs.of as) a)
structure Pf (P:Program) where
 n:Nat
 t:TFn
 h:FnT P (n%1000000) t
def pf{P:Program}{n:Nat}{t:TFn}(h:FnT P n t) (e:n%1000000=n:=by rfl):Pf P:=⟨n,t,by rw[e];exact h⟩
theorem Ft{P:Program}(l:List (Pf P)):∀p∈l.map (λx=>(x.n,x.t)),FnT P (p.1%1000000) p.2:=λp hp=>by
 obtain⟨x,_,rfl⟩:=List.mem_map.1 hp;exact x.h
theorem fnW{P:Program}{T:TypeId->Option TI}(TU:TypeId->Option U) (hT:∀t i,T t=some i->TOk P t i) (l:List (Pf P)){f:FuncId}{fn:Func}{c:Code}{as rs:List AT}{posts:PTs}{F:Cur (asT (ATs.of as)) (Option (Z1 (pT posts (asT (ATs.of rs)))))}
  (hf:P.funcs[f]?=some fn) (an:An (Z1 (pT posts (asT (ATs.of rs))))) (hm:P.follows .mixedOrders=true:=by rfl) (hb:fn.body=some c:=by rfl) (hname:(fn.name== "runtime.NumGoroutine")=false:=by rfl) (ha:(ATs.of as).ok=true:=by rfl) (hr:(ATs.of rs).ok=true:=by rfl)
  (hok:an.ok T TU (dI T TU (l.map λx=>(x.n,x.t))) c (Dz T fn.ntmps fn.results.toList (mkF as posts rs F) λx=>pTo posts (asT (ATs.of rs)) x.1 (qe (ATs.of rs) x.2)):=by repeat' first | refine⟨?_,?_⟩ | (intro v;kernel_rfl) | exact True.intro)
  (hF:∀a,uc (asT (ATs.of as)) F (qe (ATs.of as) a)=DA T TU (l.map λx=>(x.n,x.t)) fn.ntmps fn.results.toList (mkF as posts rs F) (λx=>pTo posts (asT (ATs.of rs)) x.1 (qe (ATs.of rs) x.2)) an c a:=by intro a;kernel_rfl):FnT P f (mkF as posts rs F):=
 fnV TU (l.map λx=>(x.n,x.t)) hT (Ft l) hf an hm hb hname ha hr hok hF
theorem tH{P:Program}{w:World}{t e:TypeId}(hu:P.underlying t=some (.slice e)) (m:Nat) (A:Option Addr) (n c:Nat):(Op.equalIn (m+1) t (.slice A n c) (.slice none 0 0)).run P w= .ok A.isNone w:=by
 cases A <;> (simp only[Op.equalIn,Sem.run_bind,run_underlying hu,Result.andThen_ok];rfl)
theorem xp{P:Program}{w:World}{t e:TypeId}(hu:P.underlying t=some (.slice e)) (A:Option Addr) (n c:Nat):(binOp .eql t (.slice A n c) (.slice none 0 0)).run P w= .ok (.bool A.isNone) w:=by
 have hr:(Op.equal t (.slice A n c) (.slice none 0 0)).run P w= .ok A.isNone w:=tH hu 9999 A n c;simp only[binOp,Sem.run_bind,hr,Result.andThen_ok];rfl
theorem Ag{P:Program}{id:Nat}{o1 o2:Oper}{s:St}{K:AX->St->Prop}{t t' e:TypeId}{es:List (List DV)}(hu:P.underlying t=some (.slice e))
  (h1:o1.op= .move (.tmp 0)) (h1d:o1.dst=some 3) (h1g:o1.guard=none) (h2:o2.op= .binOp .eql t (.tmp 3) (.const (.slice none 0 0)) t') (h2d:o2.dst=some 4) (h2g:o2.guard=none) (hn:4<s.n)
  (h0:s.t 0=⟨true,.c (.d (.sl es))⟩) (hk:∀b,(b=true->es=[])->K .normal (s.app [.t 3 ⟨true,.c (.d (.sl es))⟩,.t 4 ⟨true,.c (.d (.v (.bool b)))⟩])):Tri P (.region id [o1,o2].toArray false) K s:=by
 intro W0 M a w hR;refine wp_region_lit ?_;have hT:∀t i,(λ_=>none:TypeId->Option TI) t=some i->TOk P t i:=λ_ _ h=>by cases h
 have hcq:∀(o:Oper) (c:Call),o.op= .call c->xO P o ((λ_ _=>.fail:Oper->Call->Q (List Upd)) o c):=λ_ _ _ _ _ _ _ _ _ _ _ _ hq=>hq.elim;refine wpList_step ?_;intro K1 hK1;have hw1:Region.wanted o1 (yielded [o1,o2].toArray a.tmps)=true:=by simp[Region.wanted,h1g]
 rw[Qx hw1];have step1:=yH (P:=P) hT hcq (l:=[o1,o2]) rfl (o:=o1) (K:=λus=>us=[.t 3 ⟨true,.c (.d (.sl es))⟩]) (Q':=QK W0 M K) (λd e=>by rw[h1d]at e;injection e with e;subst e;exact Nat.lt_of_succ_lt hn) hR (by
  unfold wpO opD;rw[h1g];simp only;unfold opQ;rw[h1];simp only[ev,Q.bind,Q.wp,h0,one,h1d];exact⟨trivial,rfl⟩)
 rw[Qx hw1]at step1;refine Oper.wp_mono (λa' w'=>?_) step1;rintro⟨us,rfl,G,hr⟩;refine hK1 _ _ ?_;refine wpList_step ?_;intro K2 hK2;have hw2:Region.wanted o2 (yielded [o1,o2].toArray a'.tmps)=true:=by simp[Region.wanted,h2g]
 rw[Qx hw2];have h3:=(hr.tm 3).1 (by simp[St.app,St.app1,St.setT,upd]);simp only[St.app,St.app1,St.setT,upd,Qy,AVr,ACr,DVr]at h3;obtain⟨A,c,z,xs,hv,hlc,_,_,_,hne,_⟩:=h3;have hrun:(execOp a'.eval o2).run P w'= .ok (.value (.bool A.isNone)) w':=by
  have hev:a'.eval (.tmp 3)= .slice A es.length c:=hv;have hec:a'.eval (.const (.slice none 0 0))= .slice none 0 0:=rfl;unfold execOp;rw[h2];simp only[hev,hec,Sem.run_bind,S7 .eql t (.tmp 3) (.const (.slice none 0 0)) (.slice A es.length c) (.slice none 0 0) rfl,Result.andThen_ok,xp hu];rfl
 refine J6 hrun ?_;refine hK2 _ _ (wpList_nil ?_);refine⟨_,⟨G,?_⟩,hk A.isNone (λe=>?_)⟩
 ·rw[h2d];exact hr.put (d:=4) (show 4<s.n from hn) ⟨λ_=>by simp only[AVr,ACr,DVr];exact⟨trivial,rfl⟩,λe=>by cases e⟩
 ·cases A with
  |none=>
   cases es with
   |nil=>rfl
   |cons x es=>
    obtain⟨ad,h,_⟩:=hne (by simp);cases h
  |some ad=>cases e
def bP{u:U}(by_:Nat) (l:List u.den):Option (List u.den):=chk (decide ((0+l.length)*by_<=LIM/\0+l.length<=LEN)) (some l)
def H3(by_:Nat) (u:U) (e:TypeId):TFn:=⟨.cons (.c (.d (.sl u))) .nil,.nil,.cons (.c (.row u e)) .nil,List u.den,λa=>bP by_ a.1,λr=>((),(r,())),.none⟩
def stC(n:Nat) (u:U) (l:List u.den) (b:Bool):TSt:=(((lZ n).app [.t 0 ⟨true,.o (.c (.ch (.sl u) l))⟩]).app [.t 2 ⟨true,.o (.c .nil)⟩]).app [.t 3 ⟨true,.o (.c (.ch (.sl u) l))⟩,.t 4 ⟨true,.o (.c (.ch .bool b))⟩]
def GR{α:Type}(x:Unit×(α×Unit)):α:=x.2.1
theorem fj{P:Program}{T:TypeId->Option TI}{TU:TypeId->Option U}{f:FuncId}{fn:Func}{cd rest:Code}{by_:Nat}{u:U}{e t t':TypeId}{i0 i1:Nat}{o0 o1 o2:Oper}(hT:∀t i,T t=some i->TOk P t i) (hm:P.follows .mixedOrders=true) (hu:P.underlying t=some (.slice e))
  (hf:P.funcs[f]?=some fn) (hb:fn.body=some (.seq (.region i0 [o0].toArray false) (.seq (.seq (.region i1 [o1,o2].toArray false) cd) rest))) (hname:(fn.name== "runtime.NumGoroutine")=false) (hn:4<fn.ntmps)
  (g0:o0.op= .assign (.const (.slice none 0 0))) (g0d:o0.dst=some 2) (g0g:o0.guard=none)
  (h1:o1.op= .move (.tmp 0)) (h1d:o1.dst=some 3) (h1g:o1.guard=none) (h2:o2.op= .binOp .eql t (.tmp 3) (.const (.slice none 0 0)) t') (h2d:o2.dst=some 4) (h2g:o2.guard=none)
  (hx1:mP (R:=List u.den) T TU (dI T TU []) .leaf (.seq cd rest) (stC fn.ntmps u [] true) (Dz T fn.ntmps fn.results.toList (H3 by_ u e) GR)=some ([]:List u.den))
  (hx2:∀l:List u.den,mP (R:=List u.den) T TU (dI T TU []) .leaf (.seq cd rest) (stC fn.ntmps u l false) (Dz T fn.ntmps fn.results.toList (H3 by_ u e) GR)=bP by_ l):FnT P f (H3 by_ u e):=by
 refine⟨rfl,rfl,NP hT hf hb hname 1000 (λxs hx=>?_) rfl⟩;obtain⟨a,r,rfl,hFa⟩:=hx;obtain⟨l,a2⟩:=a;cases a2;have hl:r=l:=by
  have:=(L9 hFa).2;injection this with this;exact this.symm
 subst hl;refine⟨by show 1<=fn.ntmps;omega,(qd .nil (H3 by_ u e).res).sh,?_⟩;show Tri P _ (NO T fn.ntmps 0 fn.results.toList (qd .nil (H3 by_ u e).res).sh ((H3 by_ u e).spec.post ((H3 by_ u e).args.oas (r,()))) ((H3 by_ u e).spec.res ((H3 by_ u e).args.oas (r,()))))
  ((((Z9 fn.ntmps [] [] []).app []).app (tU true 0 [.c (.d (.sl (List.map u.enc r)))])).app (tU false fn.ntmps []))
 have hst:(((Z9 fn.ntmps [] [] []).app []).app (tU true 0 [.c (.d (.sl (List.map u.enc r)))])).app (tU false fn.ntmps [])=((lZ fn.ntmps).app [.t 0 ⟨true,.o (.c (.ch (.sl u) r))⟩]).st:=by
  rw[TSt.st_app];rfl
 rw[hst];have hcq0:∀(o:Oper) (c:Call),o.op= .call c->xO P o ((λ_ _=>.fail:Oper->Call->Q (List Upd)) o c):=λ_ _ _ _ _ _ _ _ _ _ _ _ hq=>hq.elim;have happ:∀(s:TSt) (us:List P3),s.st.app (us.map P3.upd)=(s.app us).st:=λs us=>(TSt.st_app us s).symm;refine oz (nt hT hcq0 (show([o0].all (qv fn.ntmps))=true by simp only[Rc,List.all_nil,Rg,qv,g0d];exact PT (by exact SA (by decide:2<4) hn)) ?_);show wpO T _ [o0] o0 _ λus=>NM P _ _ .normal _;unfold wpO opD;rw[g0g];simp only;unfold opQ;rw[g0];simp only[ev,Q.bind,Q.wp,one,g0d,rO];rw[show([Upd.t 2 ⟨true,gu (.slice none 0 0)⟩]:List Upd)=([.t 2 ⟨true,.o (.c .nil)⟩]:List P3).map P3.upd from rfl,happ];show Tri P (.seq _ _) _ _;refine oz (oz (Ag hu h1 h1d h1g h2 h2d h2g (show 4<fn.ntmps from hn) (es:=List.map u.enc r) rfl λb hbe=>?_));show Tri P cd _ _;rw[show([Upd.t 3 ⟨true,.c (.d (.sl (List.map u.enc r)))⟩,Upd.t 4 ⟨true,.c (.d (.v (.bool b)))⟩]:List Upd)=([.t 3 ⟨true,.o (.c (.ch (.sl u) r))⟩,.t 4 ⟨true,.o (.c (.ch .bool b))⟩]:List P3).map P3.upd from rfl,happ];have hcq:=lB (P:=P) (T:=T) hT (Γ:=xl []) (λp hp=>by cases hp);have fin':∀s',chk (Nat.beq s'.n fn.ntmps) ((GO T fn.ntmps fn.results.toList (H3 by_ u e)).run s' [] λx _=>some (GR x))=some r->
   s'.st.n=fn.ntmps/\((H3 by_ u e).spec.post ((H3 by_ u e).args.oas (r,()))).length=(H3 by_ u e).posts.len/\(CJ T fn.ntmps (H3 by_ u e).posts.len fn.results.toList (qd (H3 by_ u e).posts (H3 by_ u e).res).sh ((H3 by_ u e).spec.post ((H3 by_ u e).args.oas (r,()))) ((H3 by_ u e).spec.res ((H3 by_ u e).args.oas (r,())))).wp s'.st λ_=>True:=λs' h'=>by
  obtain⟨h5,h6⟩:=L9 h';rw[TFn.post_of (S:=H3 by_ u e) rfl hFa,TFn.res_of (S:=H3 by_ u e) rfl hFa];exact⟨PL h5,lY _ _,tG (S:=H3 by_ u e) rfl (fin:=GR) (λx=>rfl) h6⟩
 have hex:mP (R:=List u.den) T TU (dI T TU []) .leaf (.seq cd rest) (stC fn.ntmps u r b) (Dz T fn.ntmps fn.results.toList (H3 by_ u e) GR)=some r:=by
  cases b with
  |true=>
   have:=List.map_eq_nil_iff.1 (hbe rfl);subst this;exact hx1
  |false=>exact(hx2 r).trans hFa
 have hex':mP (R:=List u.den) T TU (dI T TU []) .leaf cd (stC fn.ntmps u r b) (Ab (λs'=>mP T TU (dI T TU []) .leaf rest s' (Dz T fn.ntmps fn.results.toList (H3 by_ u e) GR)) (Dz T fn.ntmps fn.results.toList (H3 by_ u e) GR))=some r:=hex;refine lX (R:=List u.den) hT hcq (λo c _=>fP T TU [] o c) hm cd (a:=.leaf) trivial hex' λax s' h'=>?_;cases ax with
 |normal=>
  refine lX (R:=List u.den) hT hcq (λo c _=>fP T TU [] o c) hm rest (a:=.leaf) trivial (show mP (R:=List u.den) T TU (dI T TU []) .leaf rest s' _=some r from h') λax s' h'=>?_;cases ax with
  |normal=>exact fin' s' h'
  |exit i=>cases h'
  |ret=>exact fin' s' h'
 |exit i=>cases h'
 |ret=>exact fin' s' h'
def U.flat:U->Bool
 |.sl _=>false
 |.op=>false
 |.ln _=>false
 |.kv _=>false
 |.pr a b=>a.flat&&b.flat
 |.arr _ _=>false
 |_=>true
def U.encV:(u:U)->u.den->List Value
 |.int k,n=>[.int k n]
 |.byte,x=>[.int .u8 (UInt8.toNat x:Nat)]
 |.bool,b=>[.bool b]
 |.str,l=>[.string ⟨List.toArray l⟩]
 |.sl _,_=>[.bool false]
 |.op,_=>[.bool false]
 |.ln _,_=>[.bool false]
 |.kv _,_=>[.bool false]
 |.pr a b,x=>a.encV x.1++b.encV x.2
 |.arr n u,_=>List.replicate (n*u.size) (.bool false)
theorem U.encV_len:(u:U)->(x:u.den)->(u.encV x).length=u.size
 |.int _,_=>rfl
 |.byte,_=>rfl
 |.bool,_=>rfl
 |.op,_=>rfl
 |.str,_=>rfl
 |.sl _,_=>rfl
 |.ln _,_=>rfl
 |.kv _,_=>rfl
 |.pr a b,x=>by rw[U.encV,PU,a.encV_len,b.encV_len];rfl
 |.arr n u,v=>by rw[U.encV,QL];rfl
theorem U.encV_one:(u:U)->(x:u.den)->∀v∈u.encV x,v.oneCell'=true
 |.int _,_,v,h=>by simp only[U.encV,Qp]at h;subst h;rfl
 |.byte,_,v,h=>by simp only[U.encV,Qp]at h;subst h;rfl
 |.bool,_,v,h=>by simp only[U.encV,Qp]at h;subst h;rfl
 |.op,_,v,h=>by simp only[U.encV,Qp]at h;subst h;rfl
 |.str,_,v,h=>by simp only[U.encV,Qp]at h;subst h;rfl
 |.sl _,_,v,h=>by simp only[U.encV,Qp]at h;subst h;rfl
 |.ln _,_,v,h=>by simp only[U.encV,Qp]at h;subst h;rfl
 |.kv _,_,v,h=>by simp only[U.encV,Qp]at h;subst h;rfl
 |.pr a b,x,v,h=>by
  rw[U.encV]at h;rcases List.mem_append.1 h with h|h
  ·exact a.encV_one _ v h
  ·exact b.encV_one _ v h
 |.arr n u,_,v,h=>by rw[U.encV]at h;rw[RA h];rfl
section
variable {I:Nat->Nat->Prop}{w:World}
theorem E4.split:∀{ds es:List DV}{xs:List Value},E4 I w (ds++es) xs->∃a b,xs=a++b/\E4 I w ds a/\E4 I w es b
 |[],_,xs,h=>⟨[],xs,rfl,by simp[E4],h⟩
 |d::ds,es,xs,h=>by
  simp only[Qu,E4]at h;obtain⟨x,r,rfl,h2,h3⟩:=h;obtain⟨a,b,rfl,h4,h5⟩:=E4.split h3;exact⟨x::a,b,rfl,by simp only[E4];exact⟨x,a,rfl,h2,h4⟩,h5⟩
theorem U.encV_of:(u:U)->u.flat=true->(x:u.den)->{vs:List Value}->E4 I w (u.enc x) vs->vs=u.encV x
 |.int _,_,x,vs,h=>by simp only[U.enc,E4,DVr]at h;obtain⟨y,r,rfl,⟨rfl,_⟩,rfl⟩:=h;rfl
 |.byte,_,x,vs,h=>by simp only[U.enc,E4,DVr]at h;obtain⟨y,r,rfl,⟨rfl,_⟩,rfl⟩:=h;rfl
 |.bool,_,x,vs,h=>by simp only[U.enc,E4,DVr]at h;obtain⟨y,r,rfl,⟨rfl,_⟩,rfl⟩:=h;rfl
 |.str,_,x,vs,h=>by simp only[U.enc,E4,DVr]at h;obtain⟨y,r,rfl,⟨rfl,_⟩,rfl⟩:=h;rfl
 |.sl _,hf,_,_,_=>by cases hf
 |.op,hf,_,_,_=>by cases hf
 |.ln _,hf,_,_,_=>by cases hf
 |.kv _,hf,_,_,_=>by cases hf
 |.arr _ _,hf,_,_,_=>by cases hf
 |.pr a b,hf,x,vs,h=>by
  have hf':(a.flat&&b.flat)=true:=hf;rw[PM]at hf';rw[U.enc]at h;obtain⟨p,q,rfl,h1,h2⟩:=E4.split h;rw[U.encV,a.encV_of hf'.1 _ h1,b.encV_of hf'.2 _ h2]
theorem U.encV_to:(u:U)->u.flat=true->(x:u.den)->E4 I w (u.enc x) (u.encV x)
 |.int _,_,x=>by simp only[U.enc,U.encV,E4,DVr];exact⟨_,_,rfl,⟨rfl,rfl⟩,rfl⟩
 |.byte,_,x=>by simp only[U.enc,U.encV,E4,DVr];exact⟨_,_,rfl,⟨rfl,rfl⟩,rfl⟩
 |.bool,_,x=>by simp only[U.enc,U.encV,E4,DVr];exact⟨_,_,rfl,⟨rfl,rfl⟩,rfl⟩
 |.str,_,x=>by simp only[U.enc,U.encV,E4,DVr];exact⟨_,_,rfl,⟨rfl,rfl⟩,rfl⟩
 |.sl _,hf,_=>by cases hf
 |.op,hf,_=>by cases hf
 |.ln _,hf,_=>by cases hf
 |.kv _,hf,_=>by cases hf
 |.arr _ _,hf,_=>by cases hf
 |.pr a b,hf,x=>by
  have hf':(a.flat&&b.flat)=true:=hf;rw[PM]at hf';rw[U.enc,U.encV];exact E4.app (a.encV_to hf'.1 _) (b.encV_to hf'.2 _)
theorem D2.of_get{z:Nat}:∀{es:List (List DV)}{xs:List Value},xs.length=es.length*z->(∀i e,es[i]?=some e->E4 I w e ((xs.drop (i*z)).take z))->D2 I w es xs
 |[],xs,hl,_=>by
  simp only[QF,Sz]at hl;simp only[D2];exact Qd hl
 |e::es,xs,hl,h=>by
  simp only[D2];have h0:=h 0 e rfl;rw[Sz,Sw]at h0;refine⟨xs.take z,xs.drop z,(Qv z xs).symm,h0,D2.of_get (z:=z) ?_ λi e' he=>?_⟩
  ·rw[Qk,hl,Qg,QD];omega
  ·have:=h (i+1) e' he;rw[QQ]
   rwa [QD,QV (i*z) z]at this
end
theorem E4.flat{I I':Nat->Nat->Prop}{w w':World}{u:U}(hu:u.flat=true) (x:u.den){vs:List Value}(h:E4 I w (u.enc x) vs):E4 I' w' (u.enc x) vs:=by
 rw[U.encV_of u hu x h];exact U.encV_to u hu x
theorem D2.flat{I I':Nat->Nat->Prop}{w w':World}{u:U}(hu:u.flat=true):∀(l:List u.den){xs:List Value},D2 I w (l.map u.enc) xs->D2 I' w' (l.map u.enc) xs
 |[],_,h=>h
 |x::l,xs,h=>by
  simp only[PQ,D2]at h⊢;obtain⟨c,r,rfl,h2,h3⟩:=h;exact⟨c,r,rfl,E4.flat hu x h2,D2.flat hu l h3⟩
theorem M4.flat{I I':Nat->Nat->Prop}{w:World}{u:U}(hu:u.flat=true){l:List u.den}{v:Value}{e:TypeId}(he:e<Q7) (h:M4 I w v ⟨l.map u.enc,u.size,e,false⟩):M4 I' w v ⟨l.map u.enc,u.size,e,false⟩:=by
 obtain⟨h1,h2,xs,ho,hd⟩:=h.sl he;exact⟨h1,h2,.inl ⟨he,xs,ho,D2.flat hu l hd⟩⟩
def Ah{u:U}(by_:Nat) (l:List u.den):Option (List u.den×List u.den):=(bP by_ l).bind λr=>some (l,r)
def fk(by_:Nat) (u:U) (e:TypeId):TFn:=⟨.cons (.rx u e) .nil,.rcons u e .nil,.cons (.c (.row u e)) .nil,List u.den×List u.den,λa=>Ah by_ a.1,λr=>((r.1,()),(r.2,())),.none⟩
theorem xq{P:Program}{f:FuncId}{by_:Nat}{u:U}{e:TypeId}(hu:u.flat=true) (he:e<Q7) (h:FnT P f (H3 by_ u e)):FnT P f (fk by_ u e):=
 ⟨rfl,rfl,⟨trivial,h.ok.isf,λw I F args xs hIn hgl hargs hF hp=>by
  obtain⟨⟨l,u1⟩,r,rfl,hr⟩:=hp;change List u.den at l
  replace hr:(bP by_ l).bind (λr=>some (l,r))=some r:=hr
  obtain⟨hc,hcl⟩:bP by_ l=some l/\r=(l,l):=by
   unfold bP at hr⊢;cases hd:decide ((0+l.length)*by_<=LIM/\0+l.length<=LEN) with
   |false=>rw[hd]at hr;cases hr
   |true=>rw[hd]at hr;injection hr with hr;exact⟨rfl,hr.symm⟩
  subst hcl
  replace hargs:OAs I w [.rx u.size e (l.map u.enc)] args.toList F:=hargs
  simp only[OAs,OAr,OCr]at hargs;obtain⟨v,r1,F1,F2,e1,⟨ex,hrow,hF1,hI,_⟩,⟨rfl,rfl⟩,rfl⟩:=hargs;rw[Ql (D3 he),PO]at hF1;subst hF1;have ha:args= #[v]:=by cases args;simp only at e1;subst e1;rfl
  subst ha;have epost:((fk by_ u e).spec.post ((fk by_ u e).args.oas (l,u1)))=[.rx u.size e (l.map u.enc)]:=by
   rw[TFn.post_of (S:=fk by_ u e) (a:=(l,u1)) (r:=(l,l)) rfl hr];rfl
  have eres:((fk by_ u e).spec.res ((fk by_ u e).args.oas (l,u1)))=[.c (.row u.size e (l.map u.enc))]:=by
   rw[TFn.res_of (S:=fk by_ u e) (a:=(l,u1)) (r:=(l,l)) rfl hr];rfl
  have epost1:((H3 by_ u e).spec.post ((H3 by_ u e).args.oas (l,u1)))=[]:=by
   rw[TFn.post_of (S:=H3 by_ u e) (a:=(l,u1)) (r:=l) rfl hc];rfl
  have eres1:((H3 by_ u e).spec.res ((H3 by_ u e).args.oas (l,u1)))=[.c (.row u.size e (l.map u.enc))]:=by
   rw[TFn.res_of (S:=H3 by_ u e) (a:=(l,u1)) (r:=l) rfl hc];rfl
  have hdv:DVr (λb o=>I b o\/(obk v=some b/\o<2*(l.length*u.size)/\o%2=0)) w (.sl (l.map u.enc)) v:=by
   obtain⟨hz,hes,xs,how,hd⟩:=hrow.sl he;have hd':D2 (λb o=>I b o\/(obk v=some b/\o<2*(l.length*u.size)/\o%2=0)) w (l.map u.enc) xs:=D2.mono (λ_ _ h=>.inl h) (U9.refl _ _) _ hd;simp only[DVr];rcases how.2 with⟨hv,h0⟩|⟨g,cap,cur,hv,_,hg,h1,h2,_⟩
   ·have h0':(l.map u.enc).length=0:=h0;exact⟨none,0,u.size,xs,by rw[hv,h0'],by omega,by simp[maxLen],hz,hes,λh=>by omega,hd'⟩
   ·refine⟨some ⟨g,0,none⟩,cap,u.size,xs,hv,h1,h2,hz,hes,λ_=>⟨_,rfl,λj x hj=>⟨how.cells (g:=g) (by rw[hv];rfl) j x hj,.inr ⟨by rw[hv];rfl,?_⟩⟩⟩,hd'⟩;have:=(List.getElem?_eq_some_iff.1 hj).1;rw[how.1,PR]at this;have h5:j<l.length*u.size:=by simpa using this
    show 2*(0+j)<2*(l.length*u.size)/\2*(0+j)%2=0;rw[Qo];exact⟨(Nat.mul_lt_mul_left Nat.two_pos).2 h5,Nat.mul_mod_right 2 j⟩
  have hcall:=h.ok.calls w (λb o=>I b o\/(obk v=some b/\o<2*(l.length*u.size)/\o%2=0)) [] #[v] ((H3 by_ u e).args.oas (l,u1)) (λb o hb=>by
   rcases hb with hb|⟨hb,_⟩
   ·exact hIn b o hb
   ·exact hrow.lt hb) (hgl.mono (λ_ _ h=>.inl h) (U9.refl _ _)) (by
   show OAs _ w [.c (.d (.sl (l.map u.enc)))] [v] [];simp only[OAs,OAr,OCr];exact⟨v,[],[],[],rfl,⟨rfl,hdv⟩,⟨rfl,rfl⟩,rfl⟩) QM ⟨(l,u1),l,rfl,hc⟩
  refine Calls.mono hcall λo w' h1=>?_;cases o <;> try exact h1.elim
  case returned v'=>
   obtain⟨I',vs,Fp,Fr',hv',H⟩:=h1;have hF0:Fp=[]:=by
    have:=H.post;rw[epost1]at this;exact this.2
   subst hF0;have hfr:Fr w (· ∈ ((obk v).toList++[])) w':=⟨H.fr.os,H.fr.tape,H.fr.output,H.fr.size,λk hk _=>H.fr.block k hk (by simp)⟩;have hgr:w.grownBy w' none:=⟨H.fr.os,H.fr.tape,H.fr.output,H.fr.size,λk hk _=>H.fr.block k hk (by simp)⟩;have hkeep:U9 I w w':=λb o hi=>H.keep b o (.inl hi);refine⟨λb o=>I' b o/\obk v≠some b,vs,(obk v).toList,Fr',hv',⟨hfr,λb o hi=>⟨H.sub b o (.inl hi),λe=>hI b o e hi⟩,hkeep,λb o hi=>?_,λb o hi=>H.lt b o hi.1,?_,?_,?_,λb hb=>?_,λb o hi h0=>by
    rcases H.odd b o hi.1 h0 with h|⟨_,_,h⟩
    ·exact h
    ·omega,λb o hi h0 hn=>by
    refine H.soft b o hi.1 h0 λhm=>?_;rcases hm with hm|⟨hm,_⟩
    ·exact hn hm
    ·exact hi.2 hm⟩⟩
   ·rcases H.new b o hi.1 with(h|⟨h,_⟩)|h|h
    ·exact .inl h
    ·exact(hi.2 h).elim
    ·cases h
    ·exact .inr (.inr h)
   ·rw[epost];simp only[OAs,OAr,OCr];exact⟨v,[],(obk v).toList,[],rfl,⟨[],(ownsRow.kept' hrow hgr (λ_ _ h=>by cases h) hkeep).flat hu he,by rw[Ql (D3 he),PO],λg o hg hi=>hi.2 hg,λh=>absurd h (D3 he)⟩,⟨rfl,rfl⟩,by simp⟩
   ·rw[eres];have hres:=H.res;rw[eres1]at hres;simp only[OAs,OAr,OCr]at hres⊢;obtain⟨x,r,G1,G2,rfl,⟨ex',q1,q2,q3,_⟩,⟨rfl,rfl⟩,q5⟩:=hres;exact⟨x,[],G1,[],rfl,⟨[],q1.flat hu he,by rw[q2,Ql (D3 he),Ql (D3 he)],λg o hg hi=>q3 g o hg hi.1,λh=>absurd h (D3 he)⟩,⟨rfl,rfl⟩,q5⟩
   ·rw[QP];refine⟨by cases obk v <;> simp,by simpa using H.nodup,λa ha b hb hab=>?_⟩;subst hab;have h1:obk v=some a:=by simpa using ha
    rcases H.own a (by simpa using hb)with h|h
    ·cases h
    ·have:=hrow.lt h1;omega
   ·rcases List.mem_append.1 hb with hb|hb
    ·exact .inl (by simpa using hb)
    ·rcases H.own b (by simpa using hb)with h|h
     ·cases h
     ·exact .inr h⟩⟩
def D1(n:Int):Int:=IntKind.wrap .i64 n
def wu8(n:Int):Int:=IntKind.wrap .u8 n
def ma(n:Int):Int:=IntKind.wrap .u32 n
def dX(n:Int):Int:=IntKind.wrap .u64 n
def Ok{α:Type}(o:Option α) (p:α->Prop):Prop:=∃r,o=some r/\p r
theorem Ok.mono{α:Type}{o:Option α}{p q:α->Prop}(h:Ok o p) (k:∀r,p r->q r):Ok o q:=by
 obtain⟨r,h1,h2⟩:=h;exact⟨r,h1,k r h2⟩
theorem C6{α:Type}(x:α) (p:α->Prop):Ok (some x) p↔p x:=⟨λ⟨r,h1,h2⟩=>by injection h1 with h1;rw[h1];exact h2,λh=>⟨x,rfl,h⟩⟩
theorem M1{α:Type}(b:Bool) (k:Option α) (p:α->Prop):Ok (chk b k) p↔b=true/\Ok k p:=by
 cases b
 ·exact⟨λ⟨r,h,_⟩=>(by cases h),λh=>(by cases h.1)⟩
 ·exact⟨λh=>⟨rfl,h⟩,λh=>h.2⟩
theorem K6{α:Type}(b:Bool) (x y:Option α) (p:α->Prop):Ok (sel b x y) p↔(b=true->Ok x p)/\(b=false->Ok y p):=by
 cases b
 ·exact⟨λh=>⟨λe=>(by cases e),λ_=>h⟩,λh=>h.2 rfl⟩
 ·exact⟨λh=>⟨λ_=>h,λe=>(by cases e)⟩,λh=>h.1 rfl⟩
theorem D6{α β:Type}(o:Option α) (f:α->Option β) (p:β->Prop):Ok (o.bind f) p↔Ok o λr=>Ok (f r) p:=by
 cases o with
 |none=>exact⟨λ⟨r,h,_⟩=>(by cases h),λ⟨r,h,_⟩=>(by cases h)⟩
 |some x=>rw[C6];exact Iff.rfl
theorem N4{α β:Type}(o:Option α) (f:α->β) (p:β->Prop):Ok (o.map f) p↔Ok o λr=>p (f r):=by
 cases o with
 |none=>exact⟨λ⟨r,h,_⟩=>(by cases h),λ⟨r,h,_⟩=>(by cases h)⟩
 |some x=>rw[C6,Qm,C6]
theorem iZ{α:Type}{o:Option α}{x:α}:Ok o (· =x)↔o=some x:=⟨λ⟨r,h,e⟩=>by rw[h,e],λh=>⟨x,h,rfl⟩⟩
def Nxt{S R:Type}(p:R->Prop) (q:S->Prop):S⊕R->Prop
 |.inl z=>q z
 |.inr r=>p r
theorem F9{S R:Type}(p:R->Prop) (q:S->Prop) (z:S):Nxt p q (.inl z)=q z:=rfl
theorem E5{S R:Type}(p:R->Prop) (q:S->Prop) (r:R):Nxt p q (.inr r)=p r:=rfl
theorem I4{n:Int}(h0: -9223372036854775808<=n) (h1:n<=9223372036854775807):D1 n=n:=by
 rw[D1,IntKind.wrap_i64];omega
theorem jG{n:Int}(h0:0<=n) (h1:n<18446744073709551616):dX n=n:=by
 rw[dX,IntKind.wrap_u64];omega
theorem ml(n:Int):0<=wu8 n/\wu8 n<256:=by
 rw[wu8,IntKind.wrap_u8];omega
end Go.Proofs.YthkhcbphbabefaaGreat.Am
