/- Texts laid together: TmDefs, TmQ, TmOps, TmOps2, TmEq, TmOps3, TmMaps, TmEnt, TmStr, TmOps4, TmOps5. No conditions. -/
import Derived.Test.YthkhcbphbabefaaGreatKB
namespace Go.Proofs.YthkhcbphbabefaaGreat.Am
open Go
inductive U where
 |int (k:IntKind)
 |byte
 |bool
 |str
 |sl (u:U)
 |ln (u:U)
 |op
 |kv (u:U)
 |pr (a b:U)
 |arr (n:Nat) (u:U)
 deriving DecidableEq
def opV:Value->Bool
 |.pointer none=>false
 |v=>v.oneCell'
theorem su:∀{v:Value},opV v=true->v.oneCell'=true:=fun {v} h=>by
 unfold opV at h;split at h
 ·cases h
 ·exact h
theorem uR:∀{v:Value},opV v=true->qA (.c (.d (.v v)))=0:=fun {v} h=>by
 unfold opV at h;split at h
 ·cases h
 ·rename_i hn;unfold qA;split
  ·rename_i e;cases e;exact(hn rfl).elim
  ·rename_i e;cases e
  ·rfl
def U.den:U->Type
 |.int _=>Int
 |.byte=>UInt8
 |.bool=>Bool
 |.op=>{v:Value // opV v=true}
 |.kv u=>{v:Value // opV v=true}×List u.den
 |.str=>List UInt8
 |.sl u=>List u.den
 |.ln u=>List u.den
 |.pr a b=>a.den×b.den
 |.arr n u=>Vector u.den n
def U.size:U->Nat
 |.pr a b=>a.size+b.size
 |.arr n u=>n*u.size
 |_=>1
def U.dflt:(u:U)->u.den
 |.int _=>(0:Int)
 |.byte=>(0:UInt8)
 |.bool=>false
 |.op=>⟨.bool false,rfl⟩
 |.kv _=>(⟨.bool false,rfl⟩,[])
 |.str=>([]:List UInt8)
 |.sl _=>[]
 |.ln _=>[]
 |.pr a b=>(a.dflt,b.dflt)
 |.arr n u=>Vector.replicate n u.dflt
def kvD(v:Value):List (List DV)->DV
 |[]=>.v v
 |e::es=>.kv v (e::es)
def lnD:List (List DV)->DV
 |[]=>.sl []
 |e::es=>.ln (e::es)
def U.enc:(u:U)->u.den->List DV
 |.int k,n=>[.v (.int k n)]
 |.byte,x=>[.v (.int .u8 (UInt8.toNat x:Nat))]
 |.bool,b=>[.v (.bool b)]
 |.op,x=>[.v x.1]
 |.kv u,x=>[kvD x.1.1 (List.map u.enc x.2)]
 |.str,l=>[.v (.string ⟨List.toArray l⟩)]
 |.sl u,l=>[.sl (List.map u.enc l)]
 |.ln u,l=>[lnD (List.map u.enc l)]
 |.pr a b,x=>a.enc x.1++b.enc x.2
 |.arr _ u,v=>(Vector.toList v).flatMap u.enc
theorem gJ{α β:Type}(f:α->List β) (z:Nat):∀(l:List α),(∀x∈l,(f x).length=z)->(l.flatMap f).length=l.length*z
 |[],_=>by simp
 |x::l,h=>by
  rw[QB,PU,h x (by simp),gJ f z l (λy hy=>h y (by simp[hy])),Qg,QD,QV]
theorem U.enc_len:(u:U)->(x:u.den)->(u.enc x).length=u.size
 |.int _,_=>rfl
 |.byte,_=>rfl
 |.bool,_=>rfl
 |.op,_=>rfl
 |.kv _,_=>rfl
 |.str,_=>rfl
 |.sl _,_=>rfl
 |.ln _,_=>rfl
 |.pr a b,x=>by rw[U.enc,PU,a.enc_len,b.enc_len];rfl
 |.arr n u,v=>by
  have h:=gJ u.enc u.size (Vector.toList v) (λx _=>u.enc_len x);exact h.trans (congrArg (· * u.size) (RD (xs:=v)))
def oL(ds:List DV):DV:=ds.headD (.v undef)
theorem uS{ds:List DV}(h:ds.length=1):[oL ds]=ds:=by
 match ds,h with
 |[x],_=>rfl
inductive TC where
 |ch (u:U) (x:u.den)
 |nil
 |npt
 |nmap
 |fn (f:FuncId)
 |it (t:TypeId) (u:U) (x:u.den)
 |clo (f:FuncId) (u:U) (x:u.den)
 |row (id ver:Nat)
 |ptr (id ver off:Nat)
 |pa (id ver off:Nat) (z:Nat) (k:Nat)
 |pb (id ver off z k z2 j:Nat)
 |ep (u:U) (x:u.den) (off:Nat)
 |ex (u:U) (x:u.den) (off z k:Nat)
 |rp (id ver:Nat) (i off sz:Nat)
 |junk
def TC.cells:TC->List AC
 |.ch u x=>(u.enc x).map .d
 |.nil=>[.nil]
 |.npt=>[.d (.v (.pointer none))]
 |.nmap=>[.d (.v (.map none))]
 |.fn f=>[.d (.v (.func (.func f) #[] #[]))]
 |.it t u x=>[.d (.it t (oL (u.enc x)))]
 |.clo f u x=>[.d (.clo f (u.enc x))]
 |.row id ver=>[.row id ver]
 |.ptr id ver off=>[.ptr id ver off]
 |.pa id ver off z k=>[.ptr id ver (off+k*z)]
 |.pb id ver off z k z2 j=>[.ptr id ver (off+k*z+j*z2)]
 |.ep u x off=>[.eptr ((u.enc x).drop off)]
 |.ex u x off z k=>[.eptr ((u.enc x).drop (off+k*z))]
 |.rp id ver i off sz=>[.rptr id ver i off sz]
 |.junk=>[.junk]
def TC.size:TC->Nat
 |.ch u _=>u.size
 |_=>1
theorem TC.cells_len(c:TC):c.cells.length=c.size:=by
 cases c <;> simp only[TC.cells,TC.size,PR,Qg,QF];exact U.enc_len _ _
def A6:List TC->List AC
 |[]=>[]
 |c::cs=>c.cells++A6 cs
theorem S8:∀(a b:List TC),A6 (a++b)=A6 a++A6 b
 |[],b=>rfl
 |c::a,b=>by rw[Qu,A6,S8 a b,A6,Qe]
def aa:List AC->AC
 |[x]=>x
 |_=>.junk
inductive T1 where
 |c (x:TC)
 |agg (xs:List TC)
def cx:(K:U)->K.den->Value
 |.int k,n=>.int k n
 |.str,l=>.string ⟨List.toArray l⟩
 |_,_=>undef
inductive TV where
 |o (x:T1)
 |ent (tup:Bool) (id pv:Nat) (K:U) (k:K.den)
 |rtl (id ver i z:Nat)
 |tup (xs:List T1)
 |clo (f id ver:Nat)
 |nx (b:Bool) (x y:TC)
 |any
def T1.av:T1->AV
 |.c x=>.c (aa x.cells)
 |.agg xs=>.agg (A6 xs)
def TV.av:TV->AV
 |.o x=>x.av
 |.tup xs=>.tup (xs.map T1.av)
 |.clo f id ver=>.clo f id ver
 |.ent b id pv K k=>.ent b id pv (cx K k)
 |.rtl id ver i z=>.rtl id ver i z
 |.nx b x y=>.nx b (aa x.cells) (aa y.cells)
 |.any=>.any
structure TGV where
 g:Bool
 x:TV
def TGV.gv(x:TGV):GV:=⟨x.g,x.x.av⟩
structure kn where
 u:U
 l:List u.den
 e:TypeId
 fr:Bool
def kn.row(r:kn):Row:=⟨r.l.map r.u.enc,r.u.size,r.e,r.fr⟩
structure TBS where
 ver:Nat
 c:Option (List TC)
structure TRS where
 ver:Nat
 c:Option kn
def TBS.bs(x:TBS):BS:=⟨x.ver,x.c.map A6⟩
def TRS.rs(x:TRS):RS:=⟨x.ver,x.c.map kn.row⟩
structure TSt where
 n:Nat
 t:Nat->TGV
 b:Nat->TBS
 r:Nat->TRS
def TSt.st(s:TSt):St:=⟨s.n,λk=>(s.t k).gv,λk=>(s.b k).bs,λk=>(s.r k).rs⟩
inductive P3 where
 |t (k:Nat) (x:TGV)
 |b (k:Nat) (x:TBS)
 |r (k:Nat) (x:TRS)
def P3.upd:P3->Upd
 |.t k x=>.t k x.gv
 |.b k x=>.b k x.bs
 |.r k x=>.r k x.rs
def TSt.app1(s:TSt):P3->TSt
 |.t k x=>⟨s.n,Am.upd s.t k x,s.b,s.r⟩
 |.b k x=>⟨s.n,s.t,Am.upd s.b k x,s.r⟩
 |.r k x=>⟨s.n,s.t,s.b,Am.upd s.r k x⟩
def TSt.app(s:TSt):List P3->TSt
 |[]=>s
 |u::us=>(s.app1 u).app us
theorem sv{α β:Type}(f:α->β) (g:Nat->α) (k:Nat) (x:α):(λj=>f (Am.upd g k x j))=Am.upd (λj=>f (g j)) k (f x):=by
 funext j;simp only[Am.upd];split <;> rfl
theorem TSt.st_app1(s:TSt) (u:P3):(s.app1 u).st=s.st.app1 u.upd:=by
 cases u <;> simp only[TSt.app1,TSt.st,P3.upd,St.app1,St.setT,St.setB,St.setR]
 ·rw[sv TGV.gv]
 ·rw[sv TBS.bs]
 ·rw[sv TRS.rs]
theorem TSt.st_app:∀(us:List P3) (s:TSt),(s.app us).st=s.st.app (us.map P3.upd)
 |[],s=>rfl
 |u::us,s=>by rw[TSt.app,TSt.st_app us,TSt.st_app1];rfl
inductive TQ (α:Type):Type 1 where
 |ret (a:α)
 |rdT (k:Nat) (f:TGV->TQ α)
 |rdB (k:Nat) (f:TBS->TQ α)
 |rdR (k:Nat) (f:TRS->TQ α)
 |req (b:Bool) (q:TQ α)
 |call {β:Type} (o:Option β) (f:β->TQ α)
 |fail
def TQ.bind{α β:Type}:TQ α->(α->TQ β)->TQ β
 |.ret a,f=>f a
 |.rdT k g,f=>.rdT k λx=>(g x).bind f
 |.rdB k g,f=>.rdB k λx=>(g x).bind f
 |.rdR k g,f=>.rdR k λx=>(g x).bind f
 |.req p q,f=>.req p (q.bind f)
 |.call o g,f=>.call o λx=>(g x).bind f
 |.fail,_=>.fail
def TQ.wpt{α:Type}:TQ α->TSt->List J5->(α->List J5->Prop)->Prop
 |.ret a,_,tr,K=>K a tr
 |.rdT k f,s,tr,K=>(f (s.t k)).wpt s (.t k::tr) K
 |.rdB k f,s,tr,K=>(f (s.b k)).wpt s (.b k::tr) K
 |.rdR k f,s,tr,K=>(f (s.r k)).wpt s (.r k::tr) K
 |.req b q,s,tr,K=>b=true/\q.wpt s tr K
 |.call o f,s,tr,K=>∃x,o=some x/\(f x).wpt s tr K
 |.fail,_,_,_=>False
theorem TQ.wpt_bind{α β:Type}(q:TQ α) (f:α->TQ β) (s:TSt) (tr:List J5) (K:β->List J5->Prop):(q.bind f).wpt s tr K↔q.wpt s tr λa rs=>(f a).wpt s rs K:=by
 induction q generalizing tr with
 |ret a=>rfl
 |rdT k g ih=>exact ih _ _
 |rdB k g ih=>exact ih _ _
 |rdR k g ih=>exact ih _ _
 |req p q ih=>exact and_congr Iff.rfl (ih _)
 |call o g ih=>exact exists_congr λx=>and_congr Iff.rfl (ih x _)
 |fail=>rfl
theorem Q.wpt_bind{α β:Type}(q:Q α) (f:α->Q β) (s:St) (tr:List J5) (K:β->List J5->Prop):(q.bind f).wpt s tr K↔q.wpt s tr λa rs=>(f a).wpt s rs K:=by
 induction q generalizing tr with
 |ret a=>rfl
 |rdT k g ih=>exact ih _ _
 |rdB k g ih=>exact ih _ _
 |rdR k g ih=>exact ih _ _
 |req p q ih=>exact and_congr Iff.rfl (ih _)
 |fail=>rfl
theorem Q.wpt_mono{α:Type}{q:Q α}{s:St}{K K':α->List J5->Prop}:∀{tr:List J5},q.wpt s tr K->(∀a rs,K a rs->K' a rs)->q.wpt s tr K':=by
 induction q with
 |ret a=>exact λh hk=>hk _ _ h
 |rdT k g ih=>exact λh hk=>ih _ h hk
 |rdB k g ih=>exact λh hk=>ih _ h hk
 |rdR k g ih=>exact λh hk=>ih _ h hk
 |req p q ih=>exact λh hk=>⟨h.1,ih h.2 hk⟩
 |fail=>exact λh hk=>h.elim
theorem Q.wp_of_wpt{α:Type}{q:Q α}{s:St}{K:α->Prop}:∀{tr:List J5},(q.wpt s tr λa _=>K a)->q.wp s K:=by
 induction q with
 |ret a=>exact λh=>h
 |rdT k g ih=>exact λh=>ih _ h
 |rdB k g ih=>exact λh=>ih _ h
 |rdR k g ih=>exact λh=>ih _ h
 |req p q ih=>exact λh=>⟨h.1,ih h.2⟩
 |fail=>exact λh=>h
def Sim{α β:Type}(f:α->β) (q':TQ α) (q:Q β):Prop:=∀(s:TSt) (tr:List J5) (K:α->List J5->Prop),q'.wpt s tr K->q.wpt s.st tr λb rs=>∃a,b=f a/\K a rs
section
variable {α β γ δ:Type}{f:α->β}{g:γ->δ}
theorem Sim.ret{a:α}{b:β}(h:b=f a):Sim f (.ret a) (.ret b):=λ_ _ _ hk=>⟨a,h,hk⟩
theorem Sim.rdT{k:Nat}{q':TGV->TQ α}{q:GV->Q β}(h:∀x,Sim f (q' x) (q x.gv)):Sim f (.rdT k q') (.rdT k q):=λs _ _ hk=>h (s.t k) s _ _ hk
theorem Sim.rdB{k:Nat}{q':TBS->TQ α}{q:BS->Q β}(h:∀x,Sim f (q' x) (q x.bs)):Sim f (.rdB k q') (.rdB k q):=λs _ _ hk=>h (s.b k) s _ _ hk
theorem Sim.rdR{k:Nat}{q':TRS->TQ α}{q:RS->Q β}(h:∀x,Sim f (q' x) (q x.rs)):Sim f (.rdR k q') (.rdR k q):=λs _ _ hk=>h (s.r k) s _ _ hk
theorem Sim.req{b:Bool}{p:Prop}{q':TQ α}{q:Q β}(hp:b=true->p) (h:b=true->Sim f q' q):Sim f (.req b q') (.req p q):=λs tr K hk=>⟨hp hk.1,h hk.1 s tr K hk.2⟩
theorem Sim.chk{b:Bool}{q':TQ α}{q:Q β}(h:b=true->Sim f q' q):Sim f (.req b q') q:=λs tr K hk=>h hk.1 s tr K hk.2
theorem Sim.must{p:Prop}{q':TQ α}{q:Q β}(hp:p) (h:Sim f q' q):Sim f q' (.req p q):=λs tr K hk=>⟨hp,h s tr K hk⟩
theorem Sim.fail{q:Q β}:Sim f .fail q:=λ_ _ _ hk=>hk.elim
theorem Sim.bind{q':TQ α}{q:Q β}{k':α->TQ γ}{k:β->Q δ}(h:Sim f q' q) (hk:∀a,Sim g (k' a) (k (f a))):Sim g (q'.bind k') (q.bind k):=λs tr K hK=>by
 rw[TQ.wpt_bind]at hK;rw[Q.wpt_bind];refine Q.wpt_mono (h s tr _ hK) ?_;rintro b rs ⟨a,rfl,h1⟩;exact hk a s rs K h1
end
def chk{α:Type}(b:Bool) (k:Option α):Option α:=match b with
 |true=>k
 |false=>none
def TQ.run{α R:Type}:TQ α->TSt->List J5->(α->List J5->Option R)->Option R
 |.ret a,_,tr,K=>K a tr
 |.rdT k f,s,tr,K=>(f (s.t k)).run s (.t k::tr) K
 |.rdB k f,s,tr,K=>(f (s.b k)).run s (.b k::tr) K
 |.rdR k f,s,tr,K=>(f (s.r k)).run s (.r k::tr) K
 |.req b q,s,tr,K=>Am.chk b (q.run s tr K)
 |.call o f,s,tr,K=>o.bind λx=>(f x).run s tr K
 |.fail,_,_,_=>none
theorem L9{α:Type}{b:Bool}{k:Option α}{r:α}(h:chk b k=some r):b=true/\k=some r:=by
 cases b
 ·cases h
 ·exact⟨rfl,h⟩
theorem TQ.run_wpt{α R:Type}{r:R}{s:TSt}{K:α->List J5->Option R}{q:TQ α}:∀{tr:List J5},q.run s tr K=some r->q.wpt s tr λa rs=>K a rs=some r:=by
 induction q with
 |ret a=>exact λh=>h
 |rdT k f ih=>exact λh=>ih _ h
 |rdB k f ih=>exact λh=>ih _ h
 |rdR k f ih=>exact λh=>ih _ h
 |req b q ih=>exact λh=>⟨(L9 h).1,ih (L9 h).2⟩
 |call o f ih=>
  intro tr h;simp only[TQ.run,RF]at h;obtain⟨x,h1,h2⟩:=h;exact⟨x,h1,ih x h2⟩
 |fail=>intro tr h;cases h
def de{u v:U}(h:u=v) (x:u.den):v.den:=h▸x
theorem fI{u v:U}(h:u=v) (x:u.den):v.enc (de h x)=u.enc x:=by subst h;rfl
def K9{α:Type}{n:Nat}(v:Vector α n) (i:Nat) (d:α):α:=v.toList.getD i d
theorem yU{α:Type}{n:Nat}(v:Vector α n) (d:α):(List.range n).map (λi=>K9 v i d)=v.toList:=by
 refine List.ext_getElem (by simp) λi h1 h2=>?_;have:i<n:=by simpa using h1
 simp[this,K9]
def LT{n:Nat}{u:U}(v:Vector u.den n) (i:Nat):TC:=.ch u (K9 v i u.dflt)
def iE:(u:U)->u.den->List TC
 |.pr a b,x=>.ch a x.1::iE b x.2
 |.arr n u,x=>[.ch (.arr n u) x]
 |.int k,x=>[.ch (.int k) x]
 |.byte,x=>[.ch .byte x]
 |.bool,x=>[.ch .bool x]
 |.op,x=>[.ch .op x]
 |.str,x=>[.ch .str x]
 |.sl u,x=>[.ch (.sl u) x]
 |.ln u,x=>[.ch (.ln u) x]
 |.kv u,x=>[.ch (.kv u) x]
def eS:(u:U)->u.den->List TC
 |.pr a b,x=>.ch a x.1::iE b x.2
 |.arr n _,v=>(List.range n).map λi=>LT v i
 |.int k,x=>[.ch (.int k) x]
 |.byte,x=>[.ch .byte x]
 |.bool,x=>[.ch .bool x]
 |.op,x=>[.ch .op x]
 |.str,x=>[.ch .str x]
 |.sl u,x=>[.ch (.sl u) x]
 |.ln u,x=>[.ch (.ln u) x]
 |.kv u,x=>[.ch (.kv u) x]
theorem iF(u:U):∀(l:List u.den),A6 (l.map (TC.ch u))=(l.flatMap u.enc).map .d
 |[]=>rfl
 |x::l=>by rw[PQ,A6,iF u l,QB,PV];rfl
theorem jS:∀(u:U) (x:u.den),A6 (iE u x)=(u.enc x).map .d
 |.pr a b,x=>by
  show TC.cells (.ch a x.1)++A6 (iE b x.2)=((a.enc x.1)++b.enc x.2).map .d;rw[jS b,PV];rfl
 |.arr _ _,_=>by simp only[iE,A6,TC.cells,PO]
 |.int _,_=>by simp only[iE,A6,TC.cells,PO]
 |.byte,_=>by simp only[iE,A6,TC.cells,PO]
 |.bool,_=>by simp only[iE,A6,TC.cells,PO]
 |.op,_=>by simp only[iE,A6,TC.cells,PO]
 |.str,_=>by simp only[iE,A6,TC.cells,PO]
 |.sl _,_=>by simp only[iE,A6,TC.cells,PO]
 |.ln _,_=>by simp only[iE,A6,TC.cells,PO]
 |.kv _,_=>by simp only[iE,A6,TC.cells,PO]
theorem ef:∀(u:U) (x:u.den),A6 (eS u x)=(u.enc x).map .d
 |.pr a b,x=>by
  show TC.cells (.ch a x.1)++A6 (iE b x.2)=((a.enc x.1)++b.enc x.2).map .d;rw[jS b,PV];rfl
 |.arr n u,v=>by
  have h:(List.range n).map (λi=>LT (u:=u) v i)=(Vector.toList v).map (TC.ch u):=by
   have:=congrArg (List.map (TC.ch u)) (yU (n:=n) (α:=u.den) v u.dflt);rw[QN]at this;exact this
  show A6 ((List.range n).map (λi=>LT (u:=u) v i))=_;rw[h,iF];rfl
 |.int _,_=>by simp only[eS,A6,TC.cells,PO]
 |.byte,_=>by simp only[eS,A6,TC.cells,PO]
 |.bool,_=>by simp only[eS,A6,TC.cells,PO]
 |.op,_=>by simp only[eS,A6,TC.cells,PO]
 |.str,_=>by simp only[eS,A6,TC.cells,PO]
 |.sl _,_=>by simp only[eS,A6,TC.cells,PO]
 |.ln _,_=>by simp only[eS,A6,TC.cells,PO]
 |.kv _,_=>by simp only[eS,A6,TC.cells,PO]
def big:U->Bool
 |.pr _ _=>true
 |.arr _ _=>true
 |_=>false
def sy:Nat->Nat->List TC->Option (List TC)
 |0,_,_=>none
 |f+1,k,ps=>match k,ps with
  |0,ps=>some ps
  |_+1,[]=>none
  |k+1,p::ps=>match Nat.ble p.size (k+1) with
   |true=>sy f (k+1-p.size) ps
   |false=>match p with
    |.ch u x=>match big u with
     |true=>sy f (k+1) (eS u x++ps)
     |false=>none
    |_=>none
def sD:Nat->Nat->List TC->Option (List TC)
 |0,_,_=>none
 |f+1,k,ps=>match k,ps with
  |0,_=>some []
  |_+1,[]=>none
  |k+1,p::ps=>match Nat.ble p.size (k+1) with
   |true=>(sD f (k+1-p.size) ps).map (p :: ·)
   |false=>match p with
    |.ch u x=>match big u with
     |true=>sD f (k+1) (eS u x++ps)
     |false=>none
    |_=>none
theorem iG:∀{f k:Nat}{ps qs:List TC},sy f k ps=some qs->A6 qs=(A6 ps).drop k/\k<=(A6 ps).length
 |0,_,_,_,h=>by cases h
 |f+1,k,ps,qs,h=>by
  unfold sy at h;split at h
  ·injection h with h;subst h;simp
  ·cases h
  ·rename_i k p ps;split at h
   ·rename_i hb;have hb':=Qh hb;obtain⟨h1,h2⟩:=iG h;have hp:=TC.cells_len p;rw[A6,h1,SD,Rr (as:=p.cells) (by rw[hp];exact hb'),hp];refine⟨rfl,?_⟩;rw[PU,hp];omega
   ·split at h
    ·rename_i u x _;split at h
     ·obtain⟨h1,h2⟩:=iG h;rw[S8,ef]at h1 h2;exact⟨h1,h2⟩
     ·cases h
    ·cases h
theorem iH:∀{f k:Nat}{ps qs:List TC},sD f k ps=some qs->A6 qs=(A6 ps).take k/\(A6 qs).length=k
 |0,_,_,_,h=>by cases h
 |f+1,k,ps,qs,h=>by
  unfold sD at h;split at h
  ·injection h with h;subst h;simp[A6]
  ·cases h
  ·rename_i k p ps;split at h
   ·rename_i hb;have hb':=Qh hb;rw[Ra]at h;obtain⟨q,h0,rfl⟩:=h;obtain⟨h1,h2⟩:=iH h0;have hp:=TC.cells_len p;rw[A6,A6,h1,RB,Rq (l:=p.cells) (by rw[hp];exact hb'),hp];refine⟨rfl,?_⟩;rw[<-h1,PU,hp,h2];omega
   ·split at h
    ·rename_i u x _;split at h
     ·obtain⟨h1,h2⟩:=iH h;rw[S8,ef]at h1;exact⟨h1,h2⟩
     ·cases h
    ·cases h
def FU:Nat:=1000
def EQ(k n:Nat) (ps:List TC):Option (List TC):=(sy FU k ps).bind λqs=>sD FU n qs
theorem yV{k n:Nat}{ps qs:List TC}(h:EQ k n ps=some qs):A6 qs=((A6 ps).drop k).take n/\k+n<=(A6 ps).length:=by
 unfold EQ at h;rw[RF]at h;obtain⟨q,h1,h2⟩:=h;obtain⟨a1,a2⟩:=iG h1;obtain⟨b1,b2⟩:=iH h2;rw[a1]at b1;refine⟨b1,?_⟩;rw[b1,Qb,Qk]at b2;omega
def yW:List TC->Nat
 |[]=>0
 |p::ps=>p.size+yW ps
theorem iI:∀(ps:List TC),(A6 ps).length=yW ps
 |[]=>rfl
 |p::ps=>by rw[A6,PU,TC.cells_len,iI ps];rfl
def Id(ps:List TC) (k:Nat) (xs:List TC):Option (List TC):=(sD FU k ps).bind λa=>(sy FU (k+yW xs) ps).map λb=>a++xs++b
theorem yX{ps qs xs:List TC}{k:Nat}(h:Id ps k xs=some qs):A6 qs=setAt (A6 ps) k (A6 xs)/\k+(A6 xs).length<=(A6 ps).length:=by
 unfold Id at h;simp only[RF,Ra]at h;obtain⟨a,h1,b,h2,rfl⟩:=h;obtain⟨a1,a2⟩:=iH h1;obtain⟨b1,b2⟩:=iG h2;rw[S8,S8,a1,b1,iI];refine⟨?_,b2⟩;unfold setAt;rw[iI]
structure Pk (α:Type) where
 x:α
 rest:List TC
 fz:List Nat
def TQ.ofOpt{α:Type}:Option α->TQ α
 |some a=>.ret a
 |none=>.fail
def CN{α:Type}(p:List TC->TQ (Pk α)):(n:Nat)->List TC->TQ (Pk (Vector α n))
 |0,ps=>.ret ⟨#v[],ps,[]⟩
 |n+1,ps=>(CN p n ps).bind λa=>(p a.rest).bind λb=>.ret ⟨a.x.push b.x,b.rest,a.fz++b.fz⟩
def Gj(n:Int) (rest:List TC):TQ (Pk UInt8):=.req (decide (0<=n/\n<256)) (.ret ⟨UInt8.ofNat n.toNat,rest,[]⟩)
def Gk:(u:U)->u.den->List TC->TQ (Pk UInt8)
 |.byte,x,rest=>.ret ⟨x,rest,[]⟩
 |.int k,n,rest=>match decEq k IntKind.u8 with
  |.isTrue _=>Gj n rest
  |.isFalse _=>.fail
 |_,_,_=>.fail
def lC:List TC->Option (Sigma U.den×List TC)
 |.ch u x::rest=>match big u with
  |true=>some (⟨u,x⟩,rest)
  |false=>none
 |_=>none
theorem jt{ps rest:List TC}{c:Sigma U.den}(h:lC ps=some (c,rest)):ps= .ch c.1 c.2::rest:=by
 unfold lC at h;split at h
 ·split at h
  ·injection h with h;injection h with h1 h2;subst h1;subst h2;rfl
  ·cases h
 ·cases h
def uT(u:U) (ps:List TC) (q:TQ (Pk u.den)):TQ (Pk u.den):=match lC ps with
 |some c=>match decEq c.1.1 u with
  |.isTrue h=>.ret ⟨de h c.1.2,c.2,[]⟩
  |.isFalse _=>q
 |none=>q
def wO:(u:U)->List TC->TQ (Pk u.den)
 |.int k,ps=>match ps with
  |.ch (.int k') n::rest=>match decEq k' k with
   |.isTrue _=>.ret ⟨n,rest,[]⟩
   |.isFalse _=>.fail
  |.ch .byte x::rest=>match decEq IntKind.u8 k with
   |.isTrue _=>.ret ⟨((UInt8.toNat x:Nat):Int),rest,[]⟩
   |.isFalse _=>.fail
  |_=>.fail
 |.byte,ps=>match ps with
  |.ch u x::rest=>Gk u x rest
  |_=>.fail
 |.bool,ps=>match ps with
  |.ch .bool x::rest=>.ret ⟨x,rest,[]⟩
  |_=>.fail
 |.kv u,ps=>match ps with
  |.ch (.kv v) x::rest=>match decEq v u with
   |.isTrue h=>.ret ⟨(h▸x:{y:Value // opV y=true}×List u.den),rest,[]⟩
   |.isFalse _=>.fail
  |_=>.fail
 |.op,ps=>match ps with
  |.ch .op x::rest=>.ret ⟨x,rest,[]⟩
  |_=>.fail
 |.str,ps=>match ps with
  |.ch .str x::rest=>.ret ⟨x,rest,[]⟩
  |_=>.fail
 |.sl u,ps=>match ps with
  |.ch (.sl v) x::rest=>match decEq v u with
   |.isTrue h=>.ret ⟨(h▸x:List u.den),rest,[]⟩
   |.isFalse _=>.fail
  |.nil::rest=>.ret ⟨([]:List u.den),rest,[]⟩
  |.row id ver::rest=>.rdR id λr=>match r.c with
   |some R=>match decEq R.u u with
    |.isTrue h=>.req (decide (ver=r.ver/\R.e<Q7)) (.ret ⟨(h▸R.l:List u.den),rest,[id]⟩)
    |.isFalse _=>.fail
   |none=>.fail
  |_=>.fail
 |.ln u,ps=>match ps with
  |.ch (.ln v) x::rest=>match decEq v u with
   |.isTrue h=>.ret ⟨(h▸x:List u.den),rest,[]⟩
   |.isFalse _=>.fail
  |_=>.fail
 |.pr a b,ps=>uT (.pr a b) ps <| (wO a ps).bind λp=>(wO b p.rest).bind λq=>.ret ⟨(p.x,q.x),q.rest,p.fz++q.fz⟩
 |.arr n u,ps=>uT (.arr n u) ps (CN (wO u) n ps)
theorem oN{s:St}{K:List DV×List Nat->List J5->Prop}:∀(a b:List AC){tr:List J5},((fC a).wpt s tr λd rs=>(fC b).wpt s rs λe rs'=>K (d.1++e.1,d.2++e.2) rs')->(fC (a++b)).wpt s tr K
 |[],b,tr,h=>by
  simpa only[fC,Q.wpt,QT]using h
 |x::a,b,tr,h=>by
  simp only[Qu,fC,Q.wpt_bind,Q.wpt]at h⊢;refine Q.wpt_mono h λd rs h1=>?_;refine oN a b (Q.wpt_mono h1 λe rs' h2=>?_);refine Q.wpt_mono h2 λg rs'' h3=>?_;simpa only[Qu,Qe]using h3
theorem sF(s:St){tr:List J5}{K:List DV×List Nat->List J5->Prop}:∀{ds:List DV},K (ds,[]) tr->(fC (ds.map .d)).wpt s tr K
 |[],h=>h
 |d::ds,h=>by
  simp only[PQ,fC,Q.wpt_bind,Q.wpt,toD];exact sF s (ds:=ds) (K:=λe rs=>K (d::e.1,[]++e.2) rs) h
def sI{α:Type}(f:α->List DV) (p:List TC->TQ (Pk α)):Prop:=∀(ps:List TC) (s:TSt) (tr:List J5) (K:Pk α->List J5->Prop),(p ps).wpt s tr K->
 ∃pre k rs,A6 ps=pre++A6 k.rest/\K k rs/\(fC pre).wpt s.st tr λd rs'=>d=(f k.x,k.fz)/\rs'=rs
theorem uU{α:Type}{f:α->List DV}{p:List TC->TQ (Pk α)}(hp:sI f p):∀(n:Nat),sI (λv:Vector α n=>v.toList.flatMap f) (CN p n)
 |0,ps,s,tr,K,h=>⟨[],_,tr,rfl,h,rfl,rfl⟩
 |n+1,ps,s,tr,K,h=>by
  simp only[CN,TQ.wpt_bind]at h;obtain⟨pre1,k1,rs1,e1,h,d1⟩:=uU hp n ps s tr _ h;obtain⟨pre2,k2,rs2,e2,h,d2⟩:=hp _ s rs1 _ h;refine⟨pre1++pre2,_,rs2,?_,h,oN _ _ (Q.wpt_mono d1 ?_)⟩
  ·rw[e1,e2,Qe]
  ·rintro d rs ⟨rfl,rfl⟩;refine Q.wpt_mono d2 ?_;rintro d rs ⟨rfl,rfl⟩;simp[SU]
theorem sI.ch{u:U}{x:u.den}{α:Type}{f:α->List DV}{y:α}{ps rest:List TC}{s:TSt}{tr:List J5}{K:Pk α->List J5->Prop}(hps:ps= .ch u x::rest) (h:K ⟨y,rest,[]⟩ tr) (e:f y=u.enc x) :
  ∃pre k rs,A6 ps=pre++A6 k.rest/\K k rs/\(fC pre).wpt s.st tr λd rs'=>d=(f k.x,k.fz)/\rs'=rs:=
 ⟨(u.enc x).map .d,_,tr,by rw[hps];rfl,h,sF _ ⟨by rw[e],rfl⟩⟩
theorem ofNat_toNat{n:Int}(h0:0<=n) (h:n<256):((UInt8.toNat (UInt8.ofNat n.toNat):Nat):Int)=n:=by
 have:n.toNat<256:=by omega
 have h2:(UInt8.ofNat n.toNat).toNat=n.toNat:=UInt8.toNat_ofNat_of_lt' this;rw[h2];omega
theorem uV{n:Int}(h:decide (0<=n/\n<256)=true):[DV.v (.int .u8 ((UInt8.toNat (UInt8.ofNat n.toNat):Nat):Int))]=[DV.v (.int .u8 n)]:=by
 have h1:=PN h;rw[ofNat_toNat h1.1 h1.2]
theorem qC{u:U}{ps:List TC}{q:TQ (Pk u.den)}{s:TSt}{tr:List J5}{K:Pk u.den->List J5->Prop}(hq:q.wpt s tr K->∃pre k rs,A6 ps=pre++A6 k.rest/\K k rs/\(fC pre).wpt s.st tr λd rs'=>d=(u.enc k.x,k.fz)/\rs'=rs)
  (h:(uT u ps q).wpt s tr K):∃pre k rs,A6 ps=pre++A6 k.rest/\K k rs/\(fC pre).wpt s.st tr λd rs'=>d=(u.enc k.x,k.fz)/\rs'=rs:=by
 unfold uT at h;split at h
 ·rename_i c hc;split at h
  ·rename_i hk _;exact sI.ch (jt hc) h (fI hk _)
  ·exact hq h
 ·exact hq h
theorem lD:∀(u:U),sI u.enc (wO u)
 |.int k,ps,s,tr,K,h=>by
  unfold wO at h;split at h
  ·split at h
   ·rename_i hk _;subst hk;exact sI.ch rfl h rfl
   ·exact h.elim
  ·split at h
   ·rename_i hk _;subst hk;exact sI.ch rfl h rfl
   ·exact h.elim
  ·exact h.elim
 |.byte,ps,s,tr,K,h=>by
  cases ps with
  |nil=>exact h.elim
  |cons p rest=>
   cases p with
   |ch u x=>
    replace h:(Gk u x rest).wpt s tr K:=h
    cases u with
    |byte=>exact sI.ch rfl h rfl
    |int k=>
     unfold Gk at h;simp only at h;split at h
     ·rename_i hk _;subst hk;obtain⟨h1,h2⟩:=h;exact sI.ch (u:=.int .u8) rfl h2 (uV (n:=x) h1)
     ·exact h.elim
    |_=>exact h.elim
   |_=>exact h.elim
 |.bool,ps,s,tr,K,h=>by
  unfold wO at h;split at h
  ·exact sI.ch rfl h rfl
  ·exact h.elim
 |.kv u,ps,s,tr,K,h=>by
  unfold wO at h;split at h
  ·split at h
   ·rename_i hk _;subst hk;exact sI.ch rfl h rfl
   ·exact h.elim
  ·exact h.elim
 |.op,ps,s,tr,K,h=>by
  unfold wO at h;split at h
  ·exact sI.ch rfl h rfl
  ·exact h.elim
 |.str,ps,s,tr,K,h=>by
  unfold wO at h;split at h
  ·exact sI.ch rfl h rfl
  ·exact h.elim
 |.ln u,ps,s,tr,K,h=>by
  unfold wO at h;split at h
  ·split at h
   ·rename_i hk _;subst hk;exact sI.ch rfl h rfl
   ·exact h.elim
  ·exact h.elim
 |.sl u,ps,s,tr,K,h=>by
  unfold wO at h;split at h
  ·split at h
   ·rename_i hk _;subst hk;exact sI.ch rfl h rfl
   ·exact h.elim
  ·exact⟨[.nil],_,tr,rfl,h,rfl,rfl⟩
  ·rename_i id ver rest;simp only[TQ.wpt]at h;split at h
   ·rename_i R hR;split at h
    ·rename_i hk _;obtain⟨h1,h2⟩:=h;rw[PX]at h1;refine⟨[.row id ver],_,_,rfl,h2,?_⟩;have hc:(s.st.r id).c=some R.row:=by show(s.r id).c.map kn.row=_;rw[hR];rfl
     simp only[fC,toD,Q.bind,Q.wpt];rw[hc];refine⟨h1,?_,rfl⟩;subst hk;rfl
    ·exact h.elim
   ·exact h.elim
  ·exact h.elim
 |.pr a b,ps,s,tr,K,h=>qC (by
   intro h;simp only[TQ.wpt_bind]at h;obtain⟨pre1,k1,rs1,e1,h,d1⟩:=lD a _ s tr _ h;obtain⟨pre2,k2,rs2,e2,h,d2⟩:=lD b _ s rs1 _ h;refine⟨pre1++pre2,_,rs2,by rw[e1,e2,Qe],h,oN _ _ (Q.wpt_mono d1 ?_)⟩;rintro d rs ⟨rfl,rfl⟩;refine Q.wpt_mono d2 ?_;rintro d rs ⟨rfl,rfl⟩;exact⟨rfl,rfl⟩) h
 |.arr n u,ps,s,tr,K,h=>qC (uU (lD u) n _ s tr K) h
structure Pa (α:Type) where
 x:α
 fz:List Nat
def dg(u:U) (ps:List TC):TQ (Pa u.den):=(wO u ps).bind λp=>.req p.rest.isEmpty (.ret ⟨p.x,p.fz⟩)
theorem V3(u:U) (ps:List TC):Sim (λp:Pa u.den=>(u.enc p.x,p.fz)) (dg u ps) (fC (A6 ps)):=λs tr K h=>by
 unfold dg at h;rw[TQ.wpt_bind]at h;obtain⟨pre,k,rs,e,h,d⟩:=lD u ps s tr _ h;obtain⟨h1,h2⟩:=h;rw[Tl]at h1;rw[h1,A6,PO]at e;rw[e];refine Q.wpt_mono d ?_;rintro d rs ⟨rfl,rfl⟩;exact⟨_,rfl,h2⟩
def US:List P3->List Upd:=List.map P3.upd
def Jg(d:Option Nat) (x:TV):List P3:=match d with
 |some d=>[.t d ⟨true,x⟩]
 |none=>[]
def gz(d:Option Nat) (x:TV):TQ (List P3):=.ret (Jg d x)
theorem E0(d:Option Nat) (x:TV):Sim US (gz d x) (one d x.av):=Sim.ret (by cases d <;> rfl)
theorem qD{α β:Type}{f:α->β}{o':Option α}{o:Option β}(h:∀a,o'=some a->o=some (f a)):Sim f (TQ.ofOpt o') (Q.ofOpt o):=by
 cases o' with
 |none=>exact Sim.fail
 |some a=>rw[h a rfl];exact Sim.ret rfl
theorem J7{α:Type}(o:Option α):Sim id (TQ.ofOpt o) (Q.ofOpt o):=qD λ_ h=>h
def wP:Value->Option TC
 |.int k n=>some (.ch (.int k) n)
 |.bool b=>some (.ch .bool b)
 |.string s=>some (.ch .str s.data.toList)
 |.slice none 0 0=>some .nil
 |.pointer none=>some .npt
 |.map none=>some .nmap
 |.func (.func f) xs ys=>match xs.toList,ys.toList with
  |[],[]=>some (.fn f)
  |_,_=>none
 |_=>none
theorem oO{v:Value}{c:TC}(h:wP v=some c):c.cells=[S4 v]/\v.oneCell'=true/\gu v= .c (S4 v):=by
 unfold wP at h;split at h
 ·injection h with h;subst h;exact⟨rfl,rfl,rfl⟩
 ·injection h with h;subst h;exact⟨rfl,rfl,rfl⟩
 ·rename_i s;injection h with h;subst h;refine⟨?_,rfl,rfl⟩;show [AC.d (.v (.string ⟨s.data.toList.toArray⟩))]=[AC.d (.v (.string s))];rw[Sd]
 ·injection h with h;subst h;exact⟨rfl,rfl,rfl⟩
 ·injection h with h;subst h;exact⟨rfl,rfl,rfl⟩
 ·injection h with h;subst h;exact⟨rfl,rfl,rfl⟩
 ·rename_i f xs ys;split at h
  ·rename_i hx hy;injection h with h;subst h;have ex:xs= #[]:=by cases xs;simp only at hx;subst hx;rfl
   have ey:ys= #[]:=by cases ys;simp only at hy;subst hy;rfl
   subst ex;subst ey;exact⟨rfl,rfl,rfl⟩
  ·cases h
 ·cases h
def lE:List Value->Option (List TC)
 |[]=>some []
 |v::vs=>(wP v).bind λc=>(lE vs).map (c :: ·)
theorem ju:∀{vs:List Value}{cs:List TC},lE vs=some cs->A6 cs=vs.map S4/\(vs.all Value.oneCell')=true
 |[],cs,h=>by injection h with h;subst h;exact⟨rfl,rfl⟩
 |v::vs,cs,h=>by
  simp only[lE,RF,Ra]at h;obtain⟨c,h1,ds,h2,rfl⟩:=h;obtain⟨a1,a2,_⟩:=oO h1;obtain⟨b1,b2⟩:=ju h2;exact⟨by rw[A6,a1,b1];rfl,by rw[Rc,a2,b2];rfl⟩
def jT:Value->Option TV
 |.agg cs=>(lE cs.toList).map λps=>.o (.agg ps)
 |v=>(wP v).map λc=>.o (.c c)
theorem qE{v:Value}{x:TV}(h:jT v=some x):gu v=x.av:=by
 unfold jT at h;split at h
 ·rename_i cs;rw[Ra]at h;obtain⟨ps,h1,rfl⟩:=h;obtain⟨b1,b2⟩:=ju h1;simp only[gu,b2,Qy,TV.av,T1.av,b1]
 ·rw[Ra]at h;obtain⟨c,h1,rfl⟩:=h;obtain⟨a1,_,a3⟩:=oO h1;rw[a3];simp only[TV.av,T1.av,a1,aa]
def tev:Operand->TQ TV
 |.tmp k=>.rdT k λx=>.req x.g (.ret x.x)
 |.const v=>.ofOpt (jT v)
 |.func f=>.ret (.o (.c (.fn f)))
 |.global _=>.fail
theorem C5:(x:Operand)->Sim TV.av (tev x) (ev x)
 |.tmp k=>Sim.rdT λx=>Sim.req id λ_=>Sim.ret rfl
 |.const v=>by
  show Sim TV.av (TQ.ofOpt (jT v)) (.ret (gu v));cases h:jT v with
  |none=>exact Sim.fail
  |some x=>exact Sim.ret (qE h)
 |.func f=>Sim.ret rfl
 |.global _=>Sim.fail
def Jh:List Operand->TQ (List TV)
 |[]=>.ret []
 |x::xs=>(tev x).bind λv=>(Jh xs).bind λvs=>.ret (v::vs)
theorem kK:(xs:List Operand)->Sim (List.map TV.av) (Jh xs) (evs xs)
 |[]=>Sim.ret rfl
 |x::xs=>Sim.bind (C5 x) λ_v=>Sim.bind (kK xs) λ_vs=>Sim.ret rfl
def pav(p:Nat×TV):Nat×AV:=(p.1,p.2.av)
def CO:List (Nat×Operand)->TQ (List (Nat×TV))
 |[]=>.ret []
 |p::xs=>(tev p.2).bind λv=>(CO xs).bind λvs=>.ret ((p.1,v)::vs)
theorem lF:(xs:List (Nat×Operand))->Sim (List.map pav) (CO xs) (EB xs)
 |[]=>Sim.ret rfl
 |p::xs=>Sim.bind (C5 p.2) λ_v=>Sim.bind (lF xs) λ_vs=>Sim.ret rfl
def ER:TV->TQ Int
 |.o (.c (.ch (.int _) n))=>.ret n
 |.o (.c (.ch .byte x))=>.ret ((UInt8.toNat x:Nat):Int)
 |_=>.fail
theorem fJ(x:TV):Sim id (ER x) (Q.int x.av):=by
 unfold ER;split
 ·exact Sim.ret rfl
 ·exact Sim.ret rfl
 ·exact Sim.fail
def CP:TV->TQ Bool
 |.o (.c (.ch .bool b))=>.ret b
 |_=>.fail
theorem qF(x:TV):Sim id (CP x) (Q.bool x.av):=by
 unfold CP;split
 ·exact Sim.ret rfl
 ·exact Sim.fail
def Ls:Option Operand->TQ (Option Int)
 |none=>.ret none
 |some x=>(tev x).bind λv=>(ER v).bind λn=>.ret (some n)
theorem oP:(x:Option Operand)->Sim id (Ls x) (evo x)
 |none=>Sim.ret rfl
 |some x=>Sim.bind (C5 x) λv=>Sim.bind (fJ v) λ_n=>Sim.ret rfl
def LU:Operand->TQ TGV
 |.tmp k=>.rdT k .ret
 |.const v=>(TQ.ofOpt (jT v)).bind λx=>.ret ⟨true,x⟩
 |.func f=>.ret ⟨true,.o (.c (.fn f))⟩
 |.global _=>.fail
theorem uW:(x:Operand)->Sim TGV.gv (LU x) (evG x)
 |.tmp k=>Sim.rdT λx=>Sim.ret rfl
 |.const v=>by
  show Sim TGV.gv ((TQ.ofOpt (jT v)).bind λx=>.ret ⟨true,x⟩) (.ret ⟨true,gu v⟩);cases h:jT v with
  |none=>exact Sim.fail
  |some x=>exact Sim.ret (congrArg (GV.mk true) (qE h))
 |.func f=>Sim.ret rfl
 |.global _=>Sim.fail
def is1(x:TC):Bool:=Nat.beq x.size 1
theorem jU{x:TC}(h:is1 x=true):x.cells=[aa x.cells]:=by
 have h1:=PL h;rw[<-TC.cells_len]at h1
 match hc:x.cells,h1 with
 |[y],_=>rfl
def nz:TV->TQ (List TC)
 |.o (.c x)=>.req (is1 x) (.ret [x])
 |.o (.agg xs)=>.ret xs
 |_=>.fail
theorem fK(x:TV):Sim A6 (nz x) x.av.cells:=by
 unfold nz;split
 ·rename_i x;refine Sim.chk λh=>Sim.ret ?_;show [aa x.cells]=x.cells++[];rw[PO];exact(jU h).symm
 ·exact Sim.ret rfl
 ·exact Sim.fail
def LV(a b:Bool):Bool:=a==b
def notI(k:IntKind) (n:Int):Int:=k.wrap (BitVec.ofInt k.bits (if k.signed then -1 else k.max) ^^^ BitVec.ofInt k.bits n).toNat
def OV(k:IntKind) (n:Int):Int:=k.wrap (0-n)
def c1(u:U) (x:u.den):TV:=.o (.c (.ch u x))
def lG(op:BinOp) (k:IntKind) (a b:Int):TQ TV:=match op with
 |.add=>.ret (c1 (.int k) (k.wrap (a+b)))
 |.sub=>.ret (c1 (.int k) (k.wrap (a-b)))
 |.mul=>.ret (c1 (.int k) (k.wrap (a*b)))
 |.quo=>.req (!decide (b=0)) (.ret (c1 (.int k) (k.wrap (a.tdiv b))))
 |.rem=>.req (!decide (b=0)) (.ret (c1 (.int k) (a.tmod b)))
 |.and=>.ret (c1 (.int k) (bits .and k a b))
 |.or=>.ret (c1 (.int k) (bits .or k a b))
 |.xor=>.ret (c1 (.int k) (bits .xor k a b))
 |.andNot=>.ret (c1 (.int k) (bits .andNot k a b))
 |.eql=>.ret (c1 .bool (decide (a=b)))
 |.neq=>.ret (c1 .bool (!decide (a=b)))
 |.lss=>.ret (c1 .bool (decide (a<b)))
 |.leq=>.ret (c1 .bool (decide (a<=b)))
 |.gtr=>.ret (c1 .bool (decide (b<a)))
 |.geq=>.ret (c1 .bool (decide (b<=a)))
 |_=>.fail
def fin(v:Value):Q AV:=.req (v.oneCell'=true) (.ret (.c (.d (.v v))))
theorem gK{α:Type}{f:α->AV}{a:α}{v:Value}(h1:v.oneCell'=true) (h:AV.c (.d (.v v))=f a):Sim f (.ret a) (fin v):=Sim.must h1 (Sim.ret h)
theorem eh(op:BinOp) (k:IntKind) (a b:Int):Sim TV.av (lG op k a b) ((dy op k a b).bind fin):=by
 have hne:(!decide (b=0))=true->b≠0:=by simp
 cases op
 case quo=>exact Sim.req hne λ_=>gK rfl rfl
 case rem=>exact Sim.req hne λ_=>gK rfl rfl
 all_goals first | exact Sim.fail | exact gK rfl rfl
def qG(op:BinOp) (k:IntKind) (a b:Int):TQ TV:=match op with
 |.shl=>.req (decide (0<=b)) (.ret (c1 (.int k) (k.wrap (a*2^(min b.toNat k.bits)))))
 |.shr=>.req (decide (0<=b)) (.ret (c1 (.int k) (a / (2^(min b.toNat k.bits)))))
 |_=>.fail
theorem fL(op:BinOp) (k:IntKind) (a b:Int):Sim TV.av (qG op k a b) ((il op k a b).bind fin):=by
 cases op
 case shl=>exact Sim.req PN λ_=>gK rfl rfl
 case shr=>
  rw[Jf];exact Sim.req PN λ_=>gK rfl rfl
 all_goals exact Sim.fail
def yY(op:BinOp) (a b:List UInt8):TQ TV:=match op with
 |.add=>.req (decide (a.length+b.length<=4611686018427387904)) (.ret (c1 .str (a++b)))
 |.eql=>.ret (c1 .bool (decide (a=b)))
 |.neq=>.ret (c1 .bool (!decide (a=b)))
 |.lss=>.ret (c1 .bool (Op.bytesLess a b))
 |.leq=>.ret (c1 .bool (Op.bytesLess a b||decide (a=b)))
 |.gtr=>.ret (c1 .bool (!(Op.bytesLess a b||decide (a=b))))
 |.geq=>.ret (c1 .bool (!Op.bytesLess a b))
 |_=>.fail
theorem yZ(a b:List UInt8):(⟨a.toArray⟩:ByteArray)++⟨b.toArray⟩=⟨(a++b).toArray⟩:=by
 apply ByteArray.ext;rw[ByteArray.data_append];simp
theorem sJ(op:BinOp) (a b:List UInt8):Sim TV.av (yY op a b) ((ur op ⟨a.toArray⟩ ⟨b.toArray⟩).bind fin):=by
 cases op
 case add=>
  refine Sim.req (λh=>?_) λ_=>gK rfl ?_
  ·have:=PN h;simpa [ByteArray.size]using this
  ·rw[yZ];rfl
 all_goals first | exact Sim.fail | exact gK rfl rfl
def CQ(op:BinOp) (k:TK):TV->TV->TQ TV
 |.o (.c (.ch (.int i) a)),.o (.c (.ch (.int j) b))=>match V1 op with
  |true=>qG op i a b
  |false=>match decEq i j with
   |.isTrue _=>lG op i a b
   |.isFalse _=>.fail
 |.o (.c (.ch .byte a)),.o (.c (.ch (.int j) b))=>match V1 op with
  |true=>qG op .u8 ((UInt8.toNat a:Nat):Int) b
  |false=>match decEq IntKind.u8 j with
   |.isTrue _=>lG op .u8 ((UInt8.toNat a:Nat):Int) b
   |.isFalse _=>.fail
 |.o (.c (.ch (.int j) a)),.o (.c (.ch .byte b))=>match V1 op with
  |true=>qG op j a ((UInt8.toNat b:Nat):Int)
  |false=>match decEq j IntKind.u8 with
   |.isTrue _=>lG op .u8 a ((UInt8.toNat b:Nat):Int)
   |.isFalse _=>.fail
 |.o (.c (.ch .byte a)),.o (.c (.ch .byte b))=>match V1 op with
  |true=>qG op .u8 ((UInt8.toNat a:Nat):Int) ((UInt8.toNat b:Nat):Int)
  |false=>lG op .u8 ((UInt8.toNat a:Nat):Int) ((UInt8.toNat b:Nat):Int)
 |.o (.c (.ch .str a)),.o (.c (.ch .str b))=>yY op a b
 |.o (.c (.ch .bool a)),.o (.c (.ch .bool b))=>match k,xV op with
  |.bool,some e=>.ret (c1 .bool (match e with|true=>LV a b|false=> !(LV a b)))
  |_,_=>.fail
 |.o (.c (.ptr id ver _)),.o (.c .npt)=>match k,xV op with
  |.ptr _,some e=>.rdB id λb=>.req (Nat.beq ver b.ver&&b.c.isSome) (.ret (c1 .bool (match e with|true=>false|false=>true)))
  |_,_=>.fail
 |.o (.c .npt),.o (.c .npt)=>match k,xV op with
  |.ptr _,some e=>.ret (c1 .bool (match e with|true=>true|false=>false))
  |_,_=>.fail
 |_,_=>.fail
theorem za(op:BinOp) (i:TI) (x y:TV):Sim TV.av (CQ op i.k x y) (Iu op i x.av y.av):=by
 obtain⟨k,sz,bs,zr,cm⟩:=i;show Sim TV.av (CQ op k x y) _;unfold CQ;split
 ·rename_i i a j b;show Sim TV.av _ ((match V1 op with | true=>il op i a b | false=>.req (i=j) (dy op i a b)).bind fin)
  cases V1 op with
  |true=>exact fL op i a b
  |false=>
   simp only;split
   ·rename_i h _;exact Sim.must h (eh op i a b)
   ·exact Sim.fail
 ·rename_i a j b;show Sim TV.av _ ((match V1 op with | true=>il op .u8 ((UInt8.toNat a:Nat):Int) b | false=>.req (IntKind.u8=j) (dy op .u8 ((UInt8.toNat a:Nat):Int) b)).bind fin)
  cases V1 op with
  |true=>exact fL op .u8 _ b
  |false=>
   simp only;split
   ·rename_i h _;exact Sim.must h (eh op .u8 _ b)
   ·exact Sim.fail
 ·rename_i j a b;show Sim TV.av _ ((match V1 op with | true=>il op j a ((UInt8.toNat b:Nat):Int) | false=>.req (j=IntKind.u8) (dy op j a ((UInt8.toNat b:Nat):Int))).bind fin)
  cases V1 op with
  |true=>exact fL op j a _
  |false=>
   simp only;split
   ·rename_i h _;subst h;exact Sim.must rfl (eh op .u8 a _)
   ·exact Sim.fail
 ·rename_i a b;show Sim TV.av _ ((match V1 op with | true=>il op .u8 ((UInt8.toNat a:Nat):Int) ((UInt8.toNat b:Nat):Int) | false=>.req (IntKind.u8=IntKind.u8) (dy op .u8 ((UInt8.toNat a:Nat):Int) ((UInt8.toNat b:Nat):Int))).bind fin)
  cases V1 op with
  |true=>exact fL op .u8 _ _
  |false=>exact Sim.must rfl (eh op .u8 _ _)
 ·rename_i a b;exact sJ op a b
 ·rename_i a b;split
  ·rename_i e he;show Sim TV.av _ (match xV op with | some e=>(Q.ret (LV a b)).bind λb=>.ret (AV.c (.d (.v (.bool (match e with | true=>b | false=> !b))))) | none=>.fail)
   rw[he];exact Sim.ret rfl
  ·exact Sim.fail
 ·rename_i id ver _;split
  ·rename_i t e he;show Sim TV.av _ (match xV op with | some e=>(Q.rdB id λb=>.req (ver=b.ver/\b.c.isSome=true) (.ret false)).bind λb=>.ret (AV.c (.d (.v (.bool (match e with | true=>b | false=> !b))))) | none=>.fail)
   rw[he];refine Sim.rdB λb=>Sim.req (λh=>?_) λ_=>Sim.ret ?_
   ·rw[PM]at h;exact⟨PL h.1,by rw[<-h.2];simp[TBS.bs]⟩
   ·cases e <;> rfl
  ·exact Sim.fail
 ·split
  ·rename_i t e he;show Sim TV.av _ (match xV op with | some e=>(Q.ret true).bind λb=>.ret (AV.c (.d (.v (.bool (match e with | true=>b | false=> !b))))) | none=>.fail)
   rw[he];exact Sim.ret (by cases e <;> rfl)
  ·exact Sim.fail
 ·exact Sim.fail
def tun(op:UnOp):TV->TQ TV
 |.o (.c (.ch .bool b))=>match op with|.not=>.ret (c1 .bool (!b))|_=>.fail
 |.o (.c (.ch (.int k) n))=>match op with|.neg=>.ret (c1 (.int k) (OV k n))|.xor=>.ret (c1 (.int k) (notI k n))|_=>.fail
 |_=>.fail
theorem Gl(op:UnOp) (x:TV):Sim TV.av (tun op x) (unQ op x.av):=by
 unfold tun;split
 ·cases op <;> first | exact Sim.ret rfl | exact Sim.fail
 ·cases op <;> first | exact Sim.ret rfl | exact Sim.fail
 ·exact Sim.fail
def Jj(c:Bool) (x y:TGV):TQ TV:=match c with
 |true=>.req x.g (.ret x.x)
 |false=>.req y.g (.ret y.x)
theorem zb(c:Bool) (x y:TGV):Sim TV.av (Jj c x y) (Cg c x.gv y.gv):=by
 cases c <;> exact Sim.req id λ_=>Sim.ret rfl
def bJ:List Nat->TQ (List P3)
 |[]=>.ret []
 |id::ids=>.rdR id λr=>match r.c with
  |some R=>.req (decide (R.e<Q7)) ((bJ ids).bind λus=>.ret (match R.fr with|true=>us|false=>.r id ⟨r.ver,some ⟨R.u,R.l,R.e,true⟩⟩::us))
  |none=>.fail
theorem M5:(ids:List Nat)->Sim US (bJ ids) (ak ids)
 |[]=>Sim.ret rfl
 |id::ids=>Sim.rdR λr=>by
  obtain⟨ver,c⟩:=r;cases c with
  |none=>exact Sim.fail
  |some R=>exact Sim.req PN λ_=>Sim.bind (M5 ids) λus=>Sim.ret (by obtain⟨u,l,e,f⟩:=R;cases f <;> rfl)
def BW(i:TI) (ps:List TC):TQ TV:=match i.agg with
 |true=>.ret (.o (.agg ps))
 |false=>match ps with
  |[x]=>.req (is1 x) (.ret (.o (.c x)))
  |_=>.fail
theorem ei(i:TI) (ps:List TC):Sim TV.av (BW i ps) (asV i (A6 ps)):=by
 unfold BW asV;cases i.agg with
 |true=>exact Sim.ret rfl
 |false=>
  simp only;split
  ·rename_i x;refine Sim.chk λh=>?_;have e:A6 [x]=[aa x.cells]:=(PO _).trans (jU h);rw[e];exact Sim.ret rfl
  ·exact Sim.fail
structure Jk where
 pre:List TC
 n:Nat
 u:U
 v:Vector u.den n
 post:List TC
def wQ(off:Nat) (ps:List TC):Option Jk:=(sD FU off ps).bind λa=>(sy FU off ps).bind λb=>match b with
 |.ch (.arr n u) v::post=>some ⟨a,n,u,v,post⟩
 |_=>none
theorem oQ{off:Nat}{ps:List TC}{A:Jk}(h:wQ off ps=some A):A6 ps=A6 A.pre++((U.arr A.n A.u).enc A.v).map .d++A6 A.post/\(A6 A.pre).length=off:=by
 unfold wQ at h;simp only[RF]at h;obtain⟨a,h1,b,h2,h3⟩:=h;obtain⟨a1,a2⟩:=iH h1;obtain⟨b1,b2⟩:=iG h2;split at h3
 ·injection h3 with h3;subst h3;refine⟨?_,a2⟩;have:=Qv off (A6 ps);rw[<-a1,<-b1]at this;rw[<-this,Qe];rfl
 ·cases h3
theorem uY{α β:Type}{f:α->List β}{z:Nat}:∀{l:List α}{k:Nat}{x:α},(∀y∈l,(f y).length=z)->l[k]?=some x->((l.flatMap f).drop (k*z)).take z=f x
 |[],_,_,_,h=>by simp at h
 |y::l,0,x,hz,h=>by
  simp at h;subst h;have h1:=hz y (by simp);rw[QB,Sz,Sw,<-h1,QU]
 |y::l,k+1,x,hz,h=>by
  have h1:=hz y (by simp);rw[QB,QD,QV,<-QQ];have:((f y++l.flatMap f).drop z)=l.flatMap f:=by rw[<-h1,QR]
  rw[this];exact uY (λy hy=>hz y (by simp[hy])) (by simpa using h)
theorem gL{α:Type}(a b:List α) (k:Nat) (x:List α):setAt (a++b) (a.length+k) x=a++setAt b k x:=by
 unfold setAt;rw[show a.length+k+x.length=a.length+(k+x.length)from by omega,<-QQ,QR];rw[RB,Rq (l:=a) (SE _ _),Sk];simp
theorem nA{α:Type}(b c:List α) (k:Nat) (x:List α) (h:k+x.length<=b.length):setAt (b++c) k x=setAt b k x++c:=by
 unfold setAt;rw[RB,show k-b.length=0 from by omega,Rk,PO,SD,show k+x.length-b.length=0 from by omega,Sw];simp
theorem qH{α:Type}(a b c:List α) (k:Nat) (x:List α) (h:k+x.length<=b.length):setAt (a++b++c) (a.length+k) x=a++setAt b k x++c:=by
 rw[Qe,gL,nA b c k x h,Qe]
theorem kL{α β:Type}{f:α->List β}{z:Nat}:∀{l:List α}{k:Nat}{x:α},(∀y∈l,(f y).length=z)->(f x).length=z->k<l.length->(l.set k x).flatMap f=setAt (l.flatMap f) (k*z) (f x)
 |[],_,_,_,_,h=>by simp at h
 |y::l,0,x,hz,hx,h=>by
  have h1:=hz y (by simp);rw[Rx,QB,QB,Sz];unfold setAt;rw[Rk,QT,Qo,hx,<-h1,QR]
 |y::l,k+1,x,hz,hx,h=>by
  have h1:=hz y (by simp);have ih:=kL (l:=l) (k:=k) (x:=x) (λy hy=>hz y (by simp[hy])) hx (by simpa using h);rw[Ry,QB,QB,ih];have e:(k+1)*z=(f y).length+k*z:=by rw[h1,QD,QV]
  rw[e,gL]
theorem qI{α β:Type}(f:α->β) (l:List α) (k:Nat) (x:List α):(setAt l k x).map f=setAt (l.map f) k (x.map f):=by
 unfold setAt;simp
theorem CR{α:Type}{n:Nat}{v:Vector α n}{k:Nat}{d:α}(h:k<n):v.toList[k]?=some (K9 v k d):=by
 have:k<v.toList.length:=by simpa using h
 rw[List.getElem?_eq_getElem this];unfold K9;rw[List.getD_eq_getElem?_getD,List.getElem?_eq_getElem this];rfl
theorem oR{n:Nat}{u:U}{v:Vector u.den n}{k:Nat}(h:k<n):(((U.arr n u).enc v).drop (k*u.size)).take u.size=u.enc (K9 v k u.dflt):=
 uY (l:=v.toList) (λy _=>u.enc_len y) (CR h)
def uZ(off z k:Nat) (i:TI) (ps:List TC):TQ TV:=match wQ off ps with
 |some A=>.req (Nat.beq z A.u.size&&Nat.beq i.size A.u.size) (.req (decide (k<A.n)) (BW i [.ch A.u (K9 A.v k A.u.dflt)]))
 |none=>.fail
theorem nB(off z k:Nat) (i:TI) (ps:List TC):Sim TV.av (uZ off z k i ps) (.req (off+k*z+i.size<=(A6 ps).length) (asV i (((A6 ps).drop (off+k*z)).take i.size))):=by
 unfold uZ;cases h:wQ off ps with
 |none=>exact Sim.fail
 |some A=>
  refine Sim.chk λh1=>Sim.chk λh2=>?_;rw[PM]at h1;have e1:=PL h1.1;have e2:=PL h1.2;have hk:=PN h2;obtain⟨c1,c2⟩:=oQ h;have hlen:((U.arr A.n A.u).enc A.v).length=A.n*A.u.size:=U.enc_len _ _;have hle:(k+1)*A.u.size<=A.n*A.u.size:=QA _ hk;rw[QD]at hle;have key:((A6 ps).drop (off+k*z)).take i.size=A6 [.ch A.u (K9 A.v k A.u.dflt)]:=by
   rw[c1,e2,e1,<-c2,<-QQ,Qe,QR,SD,PR,hlen,show k*A.u.size-A.n*A.u.size=0 from by omega,Sw,RB,Qk,PR,hlen,show A.u.size-(A.n*A.u.size-k*A.u.size)=0 from by omega,Rk,PO,<-RM,<-Ru,oR hk];exact(PO _).symm
  refine Sim.must ?_ ?_
  ·rw[c1,e2,e1];simp only[PU,PR,hlen,c2];omega
  ·rw[key];exact ei i _
def CS(i:TI):TV->TQ TV
 |.o (.c (.ptr id ver off))=>.rdB id λb=>match b.c with
  |some ps=>.req (Nat.beq ver b.ver) ((TQ.ofOpt (EQ off i.size ps)).bind λqs=>BW i qs)
  |none=>.fail
 |.o (.c (.pa id ver off z k))=>.rdB id λb=>match b.c with
  |some ps=>.req (Nat.beq ver b.ver) (uZ off z k i ps)
  |none=>.fail
 |.o (.c (.ep u x off))=>(TQ.ofOpt (EQ off i.size [.ch u x])).bind λqs=>BW i qs
 |.o (.c (.ex u x off z k))=>uZ off z k i [.ch u x]
 |.o (.c (.rp id ver k off sz))=>.rdR id λr=>match r.c with
  |some R=>.req (Nat.beq ver r.ver&&Nat.beq sz R.u.size) (.req (decide (k<R.l.length)) ((TQ.ofOpt (EQ off i.size [.ch R.u (R.l.getD k R.u.dflt)])).bind λqs=>BW i qs))
  |none=>.fail
 |_=>.fail
theorem Q0(u:U) (x:u.den):A6 [.ch u x]=(u.enc x).map .d:=PO _
theorem kM{α β:Type}{f:α->β}{k n:Nat}{ps:List TC}{q':List TC->TQ α}{q:Q β}(h:∀qs,A6 qs=((A6 ps).drop k).take n->k+n<=(A6 ps).length->Sim f (q' qs) q):Sim f ((TQ.ofOpt (EQ k n ps)).bind q') q:=by
 cases e:EQ k n ps with
 |none=>exact Sim.fail
 |some qs=>exact h qs (yV e).1 (yV e).2
theorem el{α β:Type}(f:α->β){l:List α}{k:Nat}(h:k<l.length) (d:β) (d':α):(l.map f).getD k d=f (l.getD k d'):=sr f h d d'
theorem qJ(i:TI) (x:TV):Sim TV.av (CS i x) (wm i x.av):=by
 unfold CS;split
 ·rename_i id ver off;refine Sim.rdB λb=>?_;obtain⟨bv,c⟩:=b;cases c with
  |none=>exact Sim.fail
  |some ps=>
   refine Sim.chk λh=>kM λqs h1 h2=>Sim.must ⟨PL h,h2⟩ ?_;have:=ei i qs;rw[h1]at this;exact this
 ·rename_i id ver off z k;refine Sim.rdB λb=>?_;obtain⟨bv,c⟩:=b;cases c with
  |none=>exact Sim.fail
  |some ps=>
   refine Sim.chk λh s tr K hK=>?_;obtain⟨h1,h2⟩:=nB off z k i ps s tr K hK;exact⟨⟨PL h,h1⟩,h2⟩
 ·rename_i u x off;refine kM λqs h1 h2=>?_;rw[Q0,PR]at h2;show Sim TV.av _ (.req (i.size<=((u.enc x).drop off).length) (asV i ((((u.enc x).drop off).take i.size).map .d)));refine Sim.must (by rw[Qk];omega) ?_;rw[Q0]at h1;rw[Ru,RM,<-h1];exact ei i qs
 ·rename_i u x off z k;intro s tr K hK;obtain⟨h1,h2⟩:=nB off z k i [.ch u x] s tr K hK;rw[Q0,PR]at h1;rw[Q0]at h2;show Q.wpt (.req (i.size<=((u.enc x).drop (off+k*z)).length) (asV i ((((u.enc x).drop (off+k*z)).take i.size).map .d))) _ _ _;refine⟨by rw[Qk];omega,?_⟩;rw[Ru,RM];exact h2
 ·rename_i id ver k off sz;refine Sim.rdR λr=>?_;obtain⟨rv,c⟩:=r;cases c with
  |none=>exact Sim.fail
  |some R=>
   refine Sim.chk λh=>Sim.chk λh0=>kM λqs h1 h2=>?_;rw[PM]at h;have hk:=PN h0;have e1:=PL h.1;have e2:=PL h.2;have hg:(R.l.map R.u.enc).getD k []=R.u.enc (R.l.getD k R.u.dflt):=el _ hk _ _;rw[Q0,PR,U.enc_len]at h2;refine Sim.must ⟨e1,e2,?_,by rw[e2];exact h2⟩ ?_
   ·show k<(R.l.map R.u.enc).length;rw[PR];exact hk
   ·show Sim TV.av _ (asV i (((((R.l.map R.u.enc).getD k []).drop off).take i.size).map .d));rw[hg,Ru,RM,<-Q0,<-h1];exact ei i qs
 ·exact Sim.fail
def Jl(n:Int):TQ UInt8:=.req (decide (0<=n/\n<256)) (.ret (UInt8.ofNat n.toNat))
def OW:(v:U)->v.den->TQ UInt8
 |.int k,n=>match decEq k IntKind.u8 with
  |.isTrue _=>Jl n
  |.isFalse _=>.fail
 |_,_=>.fail
def NQ(u v:U) (y:v.den):TQ u.den:=match u with
 |.byte=>OW v y
 |_=>.fail
theorem Gm{u v:U}{y:v.den}{s:TSt}{tr:List J5}{K:u.den->List J5->Prop}(h:(NQ u v y).wpt s tr K):∃x,v.enc y=u.enc x/\K x tr:=by
 cases u with
 |byte=>
  cases v with
  |int k=>
   replace h:((match decEq k IntKind.u8 with | .isTrue _=>Jl y | .isFalse _=>.fail):TQ UInt8).wpt s tr K:=h
   split at h
   ·rename_i hk _;subst hk;obtain⟨h1,h2⟩:=h;exact⟨_,(uV (n:=y) h1).symm,h2⟩
   ·exact h.elim
  |_=>exact h.elim
 |_=>exact h.elim
def wR(u:U):List TC->TQ u.den
 |[.ch v y]=>match decEq v u with
  |.isTrue h=>.ret (de h y)
  |.isFalse _=>NQ u v y
 |_=>.fail
theorem kN{u:U}{ps:List TC}{s:TSt}{tr:List J5}{K:u.den->List J5->Prop}(h:(wR u ps).wpt s tr K):∃x,A6 ps=(u.enc x).map .d/\K x tr:=by
 unfold wR at h;split at h
 ·rename_i v y;split at h
  ·rename_i e _;exact⟨_,by rw[Q0,fI],h⟩
  ·obtain⟨x,h1,h2⟩:=Gm h;exact⟨x,by rw[Q0,h1],h2⟩
 ·exact h.elim
def zc:(u:U)->List TC->Option (u.den×List TC)
 |.pr a b,ps=>(zc a ps).bind λp=>(zc b p.2).map λq=>((p.1,q.1),q.2)
 |u,.ch v y::ps=>match decEq v u with
  |.isTrue h=>some (de h y,ps)
  |.isFalse _=>none
 |_,[]=>none
 |_,_::_=>none
theorem aF{u:U}{ps:List TC}{p:u.den×List TC}(h:(match ps with
  |.ch v y::ps=>match decEq v u with
   |.isTrue h=>some (de h y,ps)
   |.isFalse _=>none
  |_=>none)=some p):A6 ps=(u.enc p.1).map .d++A6 p.2:=by
 split at h
 ·split at h
  ·rename_i e _;injection h with h;subst h;rw[fI];rfl
  ·cases h
 ·cases h
theorem oU:∀{u:U}{ps:List TC}{p:u.den×List TC},zc u ps=some p->A6 ps=(u.enc p.1).map .d++A6 p.2
 |.pr a b,ps,p,h=>by
  unfold zc at h;obtain⟨q,h1,h2⟩:=Option.bind_eq_some_iff.1 h;obtain⟨q2,h3,rfl⟩:=Option.map_eq_some_iff.1 h2;rw[oU h1,oU h3];show _=((a.enc q.1++b.enc q2.1).map AC.d)++_;rw[PV,Qe]
 |.int k,ps,p,h=>aF (by cases ps with|nil=>exact h|cons c r=>cases c <;> exact h)
 |.byte,ps,p,h=>aF (by cases ps with|nil=>exact h|cons c r=>cases c <;> exact h)
 |.bool,ps,p,h=>aF (by cases ps with|nil=>exact h|cons c r=>cases c <;> exact h)
 |.op,ps,p,h=>aF (by cases ps with|nil=>exact h|cons c r=>cases c <;> exact h)
 |.str,ps,p,h=>aF (by cases ps with|nil=>exact h|cons c r=>cases c <;> exact h)
 |.sl u,ps,p,h=>aF (by cases ps with|nil=>exact h|cons c r=>cases c <;> exact h)
 |.ln u,ps,p,h=>aF (by cases ps with|nil=>exact h|cons c r=>cases c <;> exact h)
 |.kv u,ps,p,h=>aF (by cases ps with|nil=>exact h|cons c r=>cases c <;> exact h)
 |.arr n u,ps,p,h=>aF (by cases ps with|nil=>exact h|cons c r=>cases c <;> exact h)
def CT(u:U) (ps:List TC):TQ u.den:=match zc u ps with
 |some p=>match p.2 with
  |[]=>.ret p.1
  |_=>wR u ps
 |none=>wR u ps
theorem va{u:U}{ps:List TC}{s:TSt}{tr:List J5}{K:u.den->List J5->Prop}(h:(CT u ps).wpt s tr K):∃x,A6 ps=(u.enc x).map .d/\K x tr:=by
 unfold CT at h;split at h
 ·rename_i p hp;split at h
  ·rename_i e;have:=oU hp;rw[e]at this;exact⟨p.1,by rw[this];exact PO _,h⟩
  ·exact kN h
 ·exact kN h
def vd{α:Type}{n:Nat}(v:Vector α n) (k:Nat) (x:α):Vector α n:=⟨(v.toList.set k x).toArray,by simp⟩
def Ie:(u:U)->u.den->Nat->(v:U)->v.den->Option u.den
 |.pr a b,x,off,v,y=>match decEq v (.pr a b) with
  |.isTrue h=>match off with
   |0=>some (de h y)
   |_+1=>none
  |.isFalse _=>match Nat.blt off a.size with
   |true=>(Ie a x.1 off v y).map λp=>(p,x.2)
   |false=>(Ie b x.2 (off-a.size) v y).map λp=>(x.1,p)
 |u,_,off,v,y=>match decEq v u with
  |.isTrue h=>match off with
   |0=>some (de h y)
   |_+1=>none
  |.isFalse _=>none
def eqL{α:Type}(f:α->α->Bool):List α->List α->Bool
 |[],[]=>true
 |x::xs,y::ys=>f x y&&eqL f xs ys
 |_,_=>false
def L0(a b:Int):Bool:=decide (a=b)
def vg(a b:UInt8):Bool:=decide (a=b)
def ET(a b:Bool):Bool:=a==b
def C0(a b:List UInt8):Bool:=decide (a=b)
def U.beq:(u:U)->u.den->u.den->Bool
 |.int _,a,b=>L0 a b
 |.byte,a,b=>vg a b
 |.bool,a,b=>ET a b
 |.str,a,b=>C0 a b
 |.sl _,_,_=>false
 |.op,_,_=>false
 |.ln _,_,_=>false
 |.kv _,_,_=>false
 |.pr a b,x,y=>a.beq x.1 y.1&&b.beq x.2 y.2
 |.arr _ u,v,w=>eqL u.beq (Vector.toList v) (Vector.toList w)
def U.cks:U->Option (List CK)
 |.int k=>some [.i k]
 |.byte=>some [.i .u8]
 |.bool=>some [.b]
 |.str=>some [.s]
 |.sl _=>none
 |.op=>none
 |.ln _=>none
 |.kv _=>none
 |.pr a b=>match a.cks,b.cks with
  |some x,some y=>some (x++y)
  |_,_=>none
 |.arr n u=>match u.cks with
  |some x=>some (List.replicate n x).flatten
  |none=>none
def U.vals:(u:U)->u.den->List Value
 |.int k,n=>[.int k n]
 |.byte,x=>[.int .u8 (UInt8.toNat x:Nat)]
 |.bool,b=>[.bool b]
 |.str,l=>[.string ⟨List.toArray l⟩]
 |.sl _,_=>[]
 |.op,_=>[]
 |.ln _,_=>[]
 |.kv _,_=>[]
 |.pr a b,x=>a.vals x.1++b.vals x.2
 |.arr _ u,v=>(Vector.toList v).flatMap u.vals
theorem lH{α:Type}{f:α->List Value}{ks:List CK}(h:∀x,(f x).map fZ=ks.map some):∀l:List α,(l.flatMap f).map fZ=((List.replicate l.length ks).flatten).map some
 |[]=>rfl
 |x::l=>by rw[QB,PV,h x,lH h l,Qg,RG,Sv,PV]
theorem U.vals_cks:∀(u:U) (ks:List CK),u.cks=some ks->∀x:u.den,(u.vals x).map fZ=ks.map some
 |.int _,_,h,_=>by injection h with h;subst h;rfl
 |.byte,_,h,_=>by injection h with h;subst h;rfl
 |.bool,_,h,_=>by injection h with h;subst h;rfl
 |.str,_,h,_=>by injection h with h;subst h;rfl
 |.sl _,_,h,_=>by cases h
 |.op,_,h,_=>by cases h
 |.ln _,_,h,_=>by cases h
 |.kv _,_,h,_=>by cases h
 |.pr a b,ks,h,x=>by
  unfold U.cks at h;split at h
  ·rename_i p q hp hq;injection h with h;subst h;show(a.vals x.1++b.vals x.2).map fZ=_;rw[PV,PV,U.vals_cks a p hp,U.vals_cks b q hq]
  ·cases h
 |.arr n u,ks,h,v=>by
  unfold U.cks at h;split at h
  ·rename_i p hp;injection h with h;subst h;have:=lH (U.vals_cks u p hp) (Vector.toList v);have e:(Vector.toList v).length=n:=RD (xs:=v);exact this.trans (by rw[e])
  ·cases h
theorem U.enc_vals:∀(u:U) (ks:List CK),u.cks=some ks->∀x:u.den,u.enc x=(u.vals x).map .v
 |.int _,_,_,_=>rfl
 |.byte,_,_,_=>rfl
 |.bool,_,_,_=>rfl
 |.str,_,_,_=>rfl
 |.sl _,_,h,_=>by cases h
 |.op,_,h,_=>by cases h
 |.ln _,_,h,_=>by cases h
 |.kv _,_,h,_=>by cases h
 |.pr a b,ks,h,x=>by
  unfold U.cks at h;split at h
  ·rename_i p q hp hq;show a.enc x.1++b.enc x.2=(a.vals x.1++b.vals x.2).map .v;rw[PV,U.enc_vals a p hp,U.enc_vals b q hq]
  ·cases h
 |.arr n u,ks,h,v=>by
  unfold U.cks at h;split at h
  ·rename_i p hp;show(Vector.toList v).flatMap u.enc=((Vector.toList v).flatMap u.vals).map .v;rw[List.map_flatMap];exact congrArg (λf=>(Vector.toList v).flatMap f) (funext λx=>U.enc_vals u p hp x)
  ·cases h
theorem nC{a b:List Value}{ks:List CK}(h1:a.map fZ=ks.map some) (h2:b.map fZ=ks.map some):a.length=b.length:=by
 have:=congrArg List.length (h1.trans h2.symm);simpa using this
theorem qK{α:Type}{f:α->List Value}{g:α->α->Bool}{ks:List CK}(hk:∀x,(f x).map fZ=ks.map some) (h:∀x y,J1 (f x) (f y)=g x y):∀(l l':List α),l.length=l'.length->J1 (l.flatMap f) (l'.flatMap f)=eqL g l l'
 |[],[],_=>rfl
 |x::l,y::l',hl=>by
  simp only[Qg,Nat.add_right_cancel_iff]at hl;rw[QB,QB,dZ _ _ _ _ (nC (hk x) (hk y)),h,qK hk h l l' hl];rfl
theorem ze(x y:Int):((x==y)&&true)=L0 x y:=by rw[Rg];rfl
theorem CU(x y:UInt8):((((UInt8.toNat x:Nat):Int)==((UInt8.toNat y:Nat):Int))&&true)=vg x y:=by
 unfold vg;rw[Rg,SM];simp only[Tv,PX,Int.natCast_inj];exact UInt8.toNat_inj
theorem CW(x y:Bool):((x==y)&&true)=ET x y:=by rw[Rg];rfl
theorem Gn(x y:List UInt8):(((ByteArray.mk (List.toArray x)).toList==(ByteArray.mk (List.toArray y)).toList)&&true)=C0 x y:=by
 unfold C0;rw[Rg,SM];simp[ByteArray.toList_eq]
theorem U.vals_beq:∀(u:U) (ks:List CK),u.cks=some ks->∀x y:u.den,J1 (u.vals x) (u.vals y)=u.beq x y
 |.int _,_,_,x,y=>ze x y
 |.byte,_,_,x,y=>CU x y
 |.bool,_,_,x,y=>CW x y
 |.str,_,_,x,y=>Gn x y
 |.sl _,_,h,_,_=>by cases h
 |.op,_,h,_,_=>by cases h
 |.ln _,_,h,_,_=>by cases h
 |.kv _,_,h,_,_=>by cases h
 |.pr a b,ks,h,x,y=>by
  unfold U.cks at h;split at h
  ·rename_i p q hp hq;show J1 (a.vals x.1++b.vals x.2) (a.vals y.1++b.vals y.2)=(a.beq x.1 y.1&&b.beq x.2 y.2);rw[dZ _ _ _ _ (nC (U.vals_cks a p hp _) (U.vals_cks a p hp _)),U.vals_beq a p hp,U.vals_beq b q hq]
  ·cases h
 |.arr n u,ks,h,v,w=>by
  unfold U.cks at h;split at h
  ·rename_i p hp;exact qK (U.vals_cks u p hp) (U.vals_beq u p hp) _ _ ((RD (xs:=v)).trans (RD (xs:=w)).symm)
  ·cases h
theorem sK:∀l:List Value,dvs (l.map λv=>.d (.v v))=some l
 |[]=>rfl
 |v::l=>by rw[PQ,dvs,sK l];rfl
def LW(u:U) (i:TI) (xs ys:List TC):TQ Bool:=(CT u xs).bind λa=>(CT u ys).bind λb=>.req (match u.cks with
 |some ks=>i.agg && !ks.isEmpty&&decide (i.cmp=ks)
 |none=>false) (.ret (u.beq a b))
theorem CX(u:U) (i:TI) (xs ys:List TC):Sim id (LW u i xs ys) (eqA i (A6 xs) (A6 ys)):=by
 intro s tr K h;unfold LW at h;rw[TQ.wpt_bind]at h;obtain⟨a,e1,h⟩:=va h;rw[TQ.wpt_bind]at h;obtain⟨b,e2,h⟩:=va h;obtain⟨hk,h⟩:=h;split at hk
 ·rename_i ks hks;simp only[PM,PX,Qf]at hk;obtain⟨⟨h1,h2⟩,h3⟩:=hk;have d1:dvs (A6 xs)=some (u.vals a):=by rw[e1,U.enc_vals u ks hks,QN];exact sK _
  have d2:dvs (A6 ys)=some (u.vals b):=by rw[e2,U.enc_vals u ks hks,QN];exact sK _
  unfold eqA;rw[d1,d2];refine⟨⟨h1,?_,by rw[h3];exact U.vals_cks u ks hks a,by rw[h3];exact U.vals_cks u ks hks b⟩,?_⟩
  ·rw[h3];intro e;rw[e]at h2;cases h2
  ·exact⟨_,U.vals_beq u ks hks a b,h⟩
 ·cases hk
def LX(TU:TypeId->Option U) (op:BinOp) (t:TypeId) (i:TI) (x y:TV):TQ TV:=match x,y with
 |.o (.agg xs),.o (.agg ys)=>match TU t,xV op with
  |some u,some e=>(LW u i xs ys).bind λb=>.ret (c1 .bool (match e with|true=>b|false=> !b))
  |_,_=>.fail
 |x,y=>CQ op i.k x y
theorem CY(TU:TypeId->Option U) (op:BinOp) (t:TypeId) (i:TI) (x y:TV):Sim TV.av (LX TU op t i x y) (Iu op i x.av y.av):=by
 unfold LX;split
 ·rename_i xs ys;split
  ·rename_i u e hu he;show Sim TV.av _ (match xV op with | some e=>(eqA i (A6 xs) (A6 ys)).bind λb=>.ret (AV.c (.d (.v (.bool (match e with | true=>b | false=> !b))))) | none=>.fail)
   rw[he];exact Sim.bind (CX u i xs ys) λb=>Sim.ret (by cases e <;> rfl)
  ·exact Sim.fail
 ·exact za op i _ _
theorem zf{α:Type}{f:α->α->Bool}(h:∀x y,f x y=true↔x=y):∀l l':List α,eqL f l l'=true↔l=l'
 |[],[]=>by simp[eqL]
 |[],_::_=>by simp[eqL]
 |_::_,[]=>by simp[eqL]
 |x::l,y::l'=>by simp only[eqL,PM,h,zf h l l',List.cons.injEq]
theorem Gp(x y:Int):L0 x y=true↔x=y:=decide_eq_true_iff
theorem CZ(x y:UInt8):vg x y=true↔x=y:=decide_eq_true_iff
theorem Gq(x y:List UInt8):C0 x y=true↔x=y:=decide_eq_true_iff
theorem U.beq_iff:∀(u:U) (ks:List CK),u.cks=some ks->∀x y:u.den,u.beq x y=true↔x=y
 |.int _,_,_,x,y=>Gp x y
 |.byte,_,_,x,y=>CZ x y
 |.bool,_,_,x,y=>Tv (α:=Bool) (a:=x) (b:=y)
 |.str,_,_,x,y=>Gq x y
 |.sl _,_,h,_,_=>by cases h
 |.op,_,h,_,_=>by cases h
 |.ln _,_,h,_,_=>by cases h
 |.kv _,_,h,_,_=>by cases h
 |.pr a b,ks,h,x,y=>by
  unfold U.cks at h;split at h
  ·rename_i p q hp hq;show(a.beq x.1 y.1&&b.beq x.2 y.2)=true↔x=y;rw[PM,U.beq_iff a p hp,U.beq_iff b q hq];exact Prod.ext_iff.symm
  ·cases h
 |.arr n u,ks,h,v,w=>by
  unfold U.cks at h;split at h
  ·rename_i p hp;show eqL u.beq (Vector.toList v) (Vector.toList w)=true↔v=w;rw[zf (U.beq_iff u p hp)];exact Vector.toList_inj
  ·cases h
theorem Gr:∀{u:U}{x:u.den}{off:Nat}{v:U}{y:v.den}{r:u.den},Ie u x off v y=some r->u.enc r=setAt (u.enc x) off (v.enc y)/\off+v.size<=u.size:=by
 have base:∀(u:U) (x:u.den) (off:Nat) (v:U) (y:v.den) (r:u.den),(match decEq v u with | .isTrue h=>(match off with | 0=>some (de h y) | _+1=>none) | .isFalse _=>(none:Option u.den))=some r->u.enc r=setAt (u.enc x) off (v.enc y)/\off+v.size<=u.size:=by
  intro u x off v y r h;split at h
  ·rename_i e _;subst e;split at h
   ·injection h with h;subst h;refine⟨?_,by omega⟩;show v.enc y=_;unfold setAt;rw[Rk,Qo,Rr (by rw[U.enc_len,U.enc_len];exact PW _)];simp
   ·cases h
  ·cases h
 intro u
 induction u with
 |pr a b iha ihb=>
  intro x off v y r h;unfold Ie at h;split at h
  ·rename_i e he;refine base (.pr a b) x off v y r ?_;rw[he];exact h
  ·split at h
   ·rename_i hb;obtain⟨p,h1,rfl⟩:=Option.map_eq_some_iff.1 h;obtain⟨h2,h3⟩:=iha h1;refine⟨?_,by simp only[U.size];omega⟩;show a.enc p++b.enc x.2=setAt (a.enc x.1++b.enc x.2) off (v.enc y);rw[h2,nA _ _ _ _ (by rw[U.enc_len,U.enc_len];exact h3)]
   ·rename_i hb;obtain⟨p,h1,rfl⟩:=Option.map_eq_some_iff.1 h;obtain⟨h2,h3⟩:=ihb h1;have hlt:a.size<=off:=by
     have:¬off<a.size:=λhl=>by have:=(Tw:(Nat.blt off a.size=true)=(off<a.size)).mpr hl;rw[this]at hb;cases hb
     omega
    refine⟨?_,by simp only[U.size];omega⟩;show a.enc x.1++b.enc p=setAt (a.enc x.1++b.enc x.2) off (v.enc y);rw[h2];have:=gL (a.enc x.1) (b.enc x.2) (off-a.size) (v.enc y);rw[U.enc_len,show a.size+(off-a.size)=off from by omega]at this;exact this.symm
 |_=>intro x off v y r h;exact base _ x off v y r h
def zg(off z k:Nat) (i:TI) (ps xs:List TC):TQ (List TC):=match wQ off ps with
 |some A=>.req (Nat.beq z A.u.size&&Nat.beq i.size A.u.size) (.req (decide (k<A.n)) ((wR A.u xs).bind λx=>.ret (A.pre ++ .ch (.arr A.n A.u) (vd A.v k x)::A.post)))
 |none=>.fail
theorem zh{off z k:Nat}{i:TI}{ps xs:List TC}{s:TSt}{tr:List J5}{K:List TC->List J5->Prop}(h:(zg off z k i ps xs).wpt s tr K) :
  ∃qs,A6 qs=setAt (A6 ps) (off+k*z) (A6 xs)/\(A6 xs).length=i.size/\off+k*z+i.size<=(A6 ps).length/\K qs tr:=by
 unfold zg at h;split at h
 ·rename_i A hA;obtain⟨h1,h2,h⟩:=h;rw[TQ.wpt_bind]at h;obtain⟨x,e,h⟩:=kN h;rw[PM]at h1;have e1:=PL h1.1;have e2:=PL h1.2;have hk:=PN h2;obtain⟨c1,c2⟩:=oQ hA;have hlen:((U.arr A.n A.u).enc A.v).length=A.n*A.u.size:=U.enc_len _ _;have hle:(k+1)*A.u.size<=A.n*A.u.size:=QA _ hk;rw[QD]at hle;have hx:(A6 xs).length=A.u.size:=by rw[e,PR,U.enc_len]
  refine⟨_,?_,by rw[hx,e2],?_,h⟩
  ·rw[S8,A6,c1,e1,<-c2];have hs:(U.arr A.n A.u).enc (vd A.v k x)=setAt ((U.arr A.n A.u).enc A.v) (k*A.u.size) (A.u.enc x):=
    kL (f:=A.u.enc) (l:=A.v.toList) (λy _=>A.u.enc_len y) (A.u.enc_len x) (by simpa using hk)
   rw[qH _ _ _ _ _ (by rw[hx,PR,hlen];omega),e,<-qI,<-hs,Qe];rfl
  ·rw[c1,e1,e2];simp only[PU,PR,hlen,c2];omega
 ·exact h.elim
theorem wS{α:Type}{L y:List α}{a S b:Nat}(h1:a+S<=L.length) (h2:b+y.length<=S):setAt L a (setAt ((L.drop a).take S) b y)=setAt L (a+b) y:=by
 unfold setAt;have e1:((L.drop a).take S).take b=(L.drop a).take b:=by rw[Se,RR (by omega)]
 have e2:(((L.drop a).take S).take b++y++((L.drop a).take S).drop (b+y.length)).length=S:=by
  simp only[PU,Qb,Qk];omega
 rw[e2,e1,List.take_add,List.drop_take];have e3:((L.drop a).drop (b+y.length)).take (S-(b+y.length))++L.drop (a+S)=L.drop (a+b+y.length):=by
  have e4:L.drop (a+S)=((L.drop a).drop (b+y.length)).drop (S-(b+y.length)):=by
   rw[QQ,QQ];congr 1;omega
  rw[e4,Qv,QQ];congr 1;omega
 rw[<-e3];simp only[Qe]
def sL(off z k z2 j:Nat) (i:TI) (ps xs:List TC):TQ (List TC):=match wQ off ps with
 |some ⟨pre,n,.arr m u,v,post⟩=>.req (Nat.beq z (U.arr m u).size&&Nat.beq z2 u.size&&Nat.beq i.size u.size) (.req (decide (k<n/\j<m)) ((wR u xs).bind λx=>.ret (pre ++ .ch (.arr n (.arr m u)) (vd v k (vd (K9 v k (U.arr m u).dflt:Vector u.den m) j x))::post)))
 |_=>.fail
theorem wT{off z k z2 j:Nat}{i:TI}{ps xs:List TC}{s:TSt}{tr:List J5}{K:List TC->List J5->Prop}(h:(sL off z k z2 j i ps xs).wpt s tr K) :
  ∃qs,A6 qs=setAt (A6 ps) (off+k*z+j*z2) (A6 xs)/\(A6 xs).length=i.size/\off+k*z+j*z2+i.size<=(A6 ps).length/\K qs tr:=by
 unfold sL at h;split at h
 ·rename_i pre n m u v post hA;obtain⟨h1,h2,h⟩:=h;rw[TQ.wpt_bind]at h;obtain⟨x,e,h⟩:=kN h;simp only[PM]at h1;have e1:=PL h1.1.1;have e2:=PL h1.1.2;have e3:=PL h1.2;obtain⟨hk,hj⟩:=PN h2;obtain⟨c1,c2⟩:=oQ hA;simp only at c1 c2;have hS:(U.arr m u).size=m*u.size:=rfl;have hlen:((U.arr n (.arr m u)).enc v).length=n*(U.arr m u).size:=U.enc_len _ _;have hle:(k+1)*(U.arr m u).size<=n*(U.arr m u).size:=QA _ hk;have hle2:(j+1)*u.size<=m*u.size:=QA _ hj;rw[QD]at hle hle2;have hx:(A6 xs).length=u.size:=by rw[e,PR,U.enc_len]
  have hin:(U.arr m u).enc (vd (K9 v k (U.arr m u).dflt:Vector u.den m) j x)=setAt ((U.arr m u).enc (K9 v k (U.arr m u).dflt)) (j*u.size) (u.enc x):=
   kL (f:=u.enc) (l:=(K9 v k (U.arr m u).dflt:Vector u.den m).toList) (λy _=>u.enc_len y) (u.enc_len x) (by simpa using hj)
  have hout:(U.arr n (.arr m u)).enc (vd v k (vd (K9 v k (U.arr m u).dflt:Vector u.den m) j x))=setAt ((U.arr n (.arr m u)).enc v) (k*(U.arr m u).size) ((U.arr m u).enc (vd (K9 v k (U.arr m u).dflt:Vector u.den m) j x)):=
   kL (f:=(U.arr m u).enc) (l:=v.toList) (λy _=>(U.arr m u).enc_len y) ((U.arr m u).enc_len _) (by simpa using hk)
  have hs:(U.arr n (.arr m u)).enc (vd v k (vd (K9 v k (U.arr m u).dflt:Vector u.den m) j x))=setAt ((U.arr n (.arr m u)).enc v) (k*(U.arr m u).size+j*u.size) (u.enc x):=by
   rw[hout,hin,<-oR (u:=.arr m u) (v:=v) hk,wS (by rw[hlen];omega) (by rw[U.enc_len,hS];omega)]
  refine⟨_,?_,by rw[hx,e3],?_,h⟩
  ·rw[S8,A6,c1,e1,e2,QO,<-c2];rw[qH _ _ _ _ _ (by rw[hx,PR,hlen];omega),e,<-qI,<-hs,Qe];rfl
  ·rw[c1,e1,e2,e3];simp only[PU,PR,hlen,c2];omega
 ·exact h.elim
def LY(u:U) (x:u.den) (off:Nat) (v:U) (y:v.den):TQ u.den:=match decEq v u with
 |.isTrue h=>match off with
  |0=>.ret (de h y)
  |_+1=>.fail
 |.isFalse _=>.ofOpt (Ie u x off v y)
theorem Gs{u:U}{x:u.den}{off:Nat}{v:U}{y:v.den}{s:TSt}{tr:List J5}{K:u.den->List J5->Prop}(h:(LY u x off v y).wpt s tr K):∃r,u.enc r=setAt (u.enc x) off (v.enc y)/\off+v.size<=u.size/\K r tr:=by
 unfold LY at h;split at h
 ·rename_i e _;split at h
  ·refine⟨_,?_,by rw[e];omega,h⟩;rw[fI];unfold setAt;rw[Rk,Qo,Rr (by rw[U.enc_len,U.enc_len,e];exact PW _)];simp
  ·exact h.elim
 ·cases he:Ie u x off v y with
  |none=>rw[he]at h;exact h.elim
  |some r=>
   rw[he]at h;obtain⟨h1,h2⟩:=Gr he;exact⟨r,h1,h2,h⟩
def zj(TU:TypeId->Option U) (t:TypeId) (i:TI) (xs:List TC):TV->TQ (List P3)
 |.o (.c (.ptr id ver off))=>.rdB id λb=>match b.c with
  |some ps=>.req (Nat.beq ver b.ver&&Nat.beq (yW xs) i.size) ((TQ.ofOpt (Id ps off xs)).bind λqs=>.ret [.b id ⟨b.ver,some qs⟩])
  |none=>.fail
 |.o (.c (.pa id ver off z k))=>.rdB id λb=>match b.c with
  |some ps=>.req (Nat.beq ver b.ver) ((zg off z k i ps xs).bind λqs=>.ret [.b id ⟨b.ver,some qs⟩])
  |none=>.fail
 |.o (.c (.pb id ver off z k z2 j))=>.rdB id λb=>match b.c with
  |some ps=>.req (Nat.beq ver b.ver) ((sL off z k z2 j i ps xs).bind λqs=>.ret [.b id ⟨b.ver,some qs⟩])
  |none=>.fail
 |.o (.c (.rp id ver k off sz))=>match TU t with
  |some v=>(dg v xs).bind λd=>(bJ d.fz).bind λus=>.rdR id λr=>match r.c with
   |some R=>.req (Nat.beq ver r.ver&&Nat.beq sz R.u.size && !R.fr && !(d.fz.contains id)&&Nat.beq v.size i.size) (.req (decide (k<R.l.length))
    ((LY R.u (R.l.getD k R.u.dflt) off v d.x).bind λx=>.ret (us++[.r id ⟨r.ver,some ⟨R.u,R.l.set k x,R.e,false⟩⟩])))
   |none=>.fail
  |none=>.fail
 |_=>.fail
theorem Da{α β:Type}(f:α->β) (l:List α) (k:Nat) (x:α):(l.set k x).map f=(l.map f).set k (f x):=by
 rw[List.map_set]
theorem wU(TU:TypeId->Option U) (t:TypeId) (i:TI) (xs:List TC) (x:TV):Sim US (zj TU t i xs x) (na i (A6 xs) x.av):=by
 unfold zj;split
 ·rename_i id ver off;refine Sim.rdB λb=>?_;obtain⟨bv,c⟩:=b;cases c with
  |none=>exact Sim.fail
  |some ps=>
   refine Sim.chk λh=>?_;rw[PM]at h;have e1:=PL h.1;have e2:=PL h.2;rw[<-iI]at e2;simp only;cases hs:Id ps off xs with
   |none=>exact Sim.fail
   |some qs=>
    obtain⟨h1,h2⟩:=yX hs;refine Sim.must ⟨e1,e2,by rw[<-e2];exact h2⟩ (Sim.ret ?_);show _=[Upd.b id ⟨bv,some (A6 qs)⟩];rw[h1];rfl
 ·rename_i id ver off z k;refine Sim.rdB λb=>?_;obtain⟨bv,c⟩:=b;cases c with
  |none=>exact Sim.fail
  |some ps=>
   refine Sim.chk λh s tr K hK=>?_;simp only at hK;rw[TQ.wpt_bind]at hK;obtain⟨qs,h1,h2,h3,hK⟩:=zh hK;refine⟨⟨PL h,h2,h3⟩,?_⟩;refine⟨_,?_,hK⟩;show _=[Upd.b id ⟨bv,some (A6 qs)⟩];rw[h1];rfl
 ·rename_i id ver off z k z2 j;refine Sim.rdB λb=>?_;obtain⟨bv,c⟩:=b;cases c with
  |none=>exact Sim.fail
  |some ps=>
   refine Sim.chk λh s tr K hK=>?_;simp only at hK;rw[TQ.wpt_bind]at hK;obtain⟨qs,h1,h2,h3,hK⟩:=wT hK;refine⟨⟨PL h,h2,h3⟩,?_⟩;refine⟨_,?_,hK⟩;show _=[Upd.b id ⟨bv,some (A6 qs)⟩];rw[h1];rfl
 ·rename_i id ver k off sz;cases TU t with
  |none=>exact Sim.fail
  |some v=>
   show Sim US _ ((fC (A6 xs)).bind λd=>(ak d.2).bind λus=>.rdR id λr=>match r.c with
    |some R=>.req (ver=r.ver/\sz=R.sz/\R.fr=false/\id∉d.2/\k<R.es.length/\d.1.length=i.size/\off+i.size<=sz) (.ret (us++[.r id ⟨r.ver,some ⟨R.es.set k (setAt (R.es.getD k []) off d.1),R.sz,R.e,false⟩⟩]))
    |none=>.fail)
   refine Sim.bind (V3 v xs) λd=>Sim.bind (M5 d.fz) λus=>Sim.rdR λr=>?_;obtain⟨rv,c⟩:=r;cases c with
   |none=>exact Sim.fail
   |some R=>
    refine Sim.chk λh=>Sim.chk λh0 s tr K hK=>?_;simp only[PM]at h;obtain⟨⟨⟨⟨a1,a2⟩,a3⟩,a4⟩,a5⟩:=h;have e1:=PL a1;have e2:=PL a2;have e5:=PL a5;have hk:=PN h0;simp only at hK;rw[TQ.wpt_bind]at hK;obtain⟨x,h1,h2,hK⟩:=Gs hK;have hg:(R.l.map R.u.enc).getD k []=R.u.enc (R.l.getD k R.u.dflt):=el _ hk _ _;refine⟨⟨e1,e2,by show R.fr=false;simpa using a3,by simpa using a4,?_,?_,?_⟩,⟨_,?_,hK⟩⟩
    ·show k<(R.l.map R.u.enc).length;rw[PR];exact hk
    ·rw[U.enc_len,e5]
    ·rw[e2,<-e5];exact h2
    ·show us.map P3.upd++[Upd.r id ⟨rv,some ⟨(R.l.map R.u.enc).set k (setAt ((R.l.map R.u.enc).getD k []) off (v.enc d.x)),R.u.size,R.e,false⟩⟩]=US (us++[_]);rw[hg,<-h1,<-Da];simp only[US,PV,PQ,Qs];rfl
 ·exact Sim.fail
def zk(o:Nat):TV->TQ TV
 |.o (.c (.ptr id ver off))=>.rdB id λb=>.req (Nat.beq ver b.ver&&b.c.isSome) (.ret (.o (.c (.ptr id ver (off+o)))))
 |.o (.c (.ep u x off))=>.ret (.o (.c (.ep u x (off+o))))
 |.o (.c (.rp id ver k off sz))=>.rdR id λr=>.req (Nat.beq ver r.ver&&r.c.isSome) (.ret (.o (.c (.rp id ver k (off+o) sz))))
 |_=>.fail
theorem oV(b:TBS):(b.bs.c.isSome)=b.c.isSome:=by simp[TBS.bs]
theorem zl(b:TRS):(b.rs.c.isSome)=b.c.isSome:=by simp[TRS.rs]
theorem wV(o:Nat) (x:TV):Sim TV.av (zk o x) (qh o x.av):=by
 unfold zk;split
 ·refine Sim.rdB λb=>Sim.req (λh=>?_) λ_=>Sim.ret rfl;rw[PM]at h;exact⟨PL h.1,by rw[oV];exact h.2⟩
 ·refine Sim.ret ?_;simp only[TV.av,T1.av,TC.cells,aa,QQ]
 ·refine Sim.rdR λb=>Sim.req (λh=>?_) λ_=>Sim.ret rfl;rw[PM]at h;exact⟨PL h.1,by rw[zl];exact h.2⟩
 ·exact Sim.fail
def zm(z:Nat) (k:Int):TV->TQ TV
 |.o (.c (.ch (.sl u) l))=>.req (Nat.beq u.size z) (.req (decide (0<=k/\k<(List.length l:Nat))) (.ret (.o (.c (.ep u (List.getD l k.toNat u.dflt) 0)))))
 |.o (.c (.ch (.kv u) l))=>.req (Nat.beq u.size z) (.req (decide (0<=k/\k<(List.length l.2:Nat))) (.ret (.o (.c (.ep u (List.getD l.2 k.toNat u.dflt) 0)))))
 |.o (.c (.row id ver))=>.rdR id λr=>match r.c with
  |some R=>.req (Nat.beq ver r.ver&&Nat.beq R.u.size z&&decide (R.e<Q7)) (.req (decide (0<=k/\k<(R.l.length:Nat))) (.ret (.o (.c (.rp id ver k.toNat 0 z)))))
  |none=>.fail
 |_=>.fail
theorem wW(z:Nat) (k:Int) (x:TV):Sim TV.av (zm z k x) (qi z k x.av):=by
 unfold zm;split
 ·rename_i u l;refine Sim.chk λh=>Sim.chk λh0=>?_;have e1:=PL h;have hk:=PN h0;have hk2:k.toNat<List.length l:=by omega
  have hg:(List.map u.enc l).getD k.toNat []=u.enc (List.getD l k.toNat u.dflt):=el _ hk2 _ _;show Sim TV.av _ (.req (0<=k/\k<(List.map u.enc l).length/\((List.map u.enc l).getD k.toNat []).length=z) (.ret (.c (.eptr ((List.map u.enc l).getD k.toNat [])))));rw[hg];have hlen:(List.map u.enc l).length=List.length l:=PR ..;exact Sim.must ⟨hk.1,by rw[hlen];exact hk.2,by rw[U.enc_len,e1]⟩ (Sim.ret rfl)
 ·rename_i u l;obtain⟨v,l⟩:=l;refine Sim.chk λh=>Sim.chk λh0=>?_;have e1:=PL h;have hk:=PN h0;cases l with
  |nil=>simp at hk;omega
  |cons y l=>
   have hk2:k.toNat<List.length (y::l):=by have:=hk.2;simp only at this⊢;omega
   have hg:(List.map u.enc (y::l)).getD k.toNat []=u.enc (List.getD (y::l) k.toNat u.dflt):=el _ hk2 _ _;show Sim TV.av _ (.req (0<=k/\k<(List.map u.enc (y::l)).length/\((List.map u.enc (y::l)).getD k.toNat []).length=z) (.ret (.c (.eptr ((List.map u.enc (y::l)).getD k.toNat [])))));rw[hg];have hlen:(List.map u.enc (y::l)).length=List.length (y::l):=PR ..;exact Sim.must ⟨hk.1,by rw[hlen];exact hk.2,by rw[U.enc_len,e1]⟩ (Sim.ret rfl)
 ·rename_i id ver;refine Sim.rdR λr=>?_;obtain⟨rv,c⟩:=r;cases c with
  |none=>exact Sim.fail
  |some R=>
   refine Sim.chk λh=>Sim.chk λh0=>?_;rw[PM,PM]at h;have hk:=PN h0;refine Sim.must ⟨PL h.1.1,hk.1,?_,PL h.1.2,PN h.2⟩ (Sim.ret rfl);show k<(R.l.map R.u.enc).length;rw[PR];exact hk.2
 ·exact Sim.fail
def sM(n z:Nat) (k:Int):TV->TQ TV
 |.o (.c (.ptr id ver off))=>.rdB id λb=>.req (Nat.beq ver b.ver&&b.c.isSome) (.req (decide (0<=k/\k<(n:Int))) (.ret (.o (.c (.pa id ver off z k.toNat)))))
 |.o (.c (.pa id ver off z' k'))=>.rdB id λb=>.req (Nat.beq ver b.ver&&b.c.isSome) (.req (decide (0<=k/\k<(n:Int))) (.ret (.o (.c (.pb id ver off z' k' z k.toNat)))))
 |.o (.c (.ep u x off))=>.req (decide (0<=k/\k<(n:Int))) (.ret (.o (.c (.ex u x off z k.toNat))))
 |_=>.fail
theorem sN(n z:Nat) (k:Int) (x:TV):Sim TV.av (sM n z k x) (ld n z k x.av):=by
 unfold sM;split
 ·refine Sim.rdB λb=>Sim.chk λh=>Sim.req (λh0=>?_) λ_=>Sim.ret rfl;rw[PM]at h;have hk:=PN h0;exact⟨hk.1,hk.2,PL h.1,by rw[oV];exact h.2⟩
 ·refine Sim.rdB λb=>Sim.chk λh=>Sim.req (λh0=>?_) λ_=>Sim.ret rfl;rw[PM]at h;have hk:=PN h0;exact⟨hk.1,hk.2,PL h.1,by rw[oV];exact h.2⟩
 ·refine Sim.req PN λ_=>Sim.ret ?_;simp only[TV.av,T1.av,TC.cells,aa,QQ]
 ·exact Sim.fail
def sO(u:U) (n:Nat) (ie:TI) (k:Int):TV->TQ TV
 |.o (.agg ps)=>(dg (.arr n u) ps).bind λd=>.req (d.fz.isEmpty&&Nat.beq u.size ie.size&&decide (0<=k/\k<n)) (BW ie [.ch u (K9 (d.x:Vector u.den n) k.toNat u.dflt)])
 |_=>.fail
theorem sP(u:U) (n:Nat) (ie:TI) (k:Int) (x:TV):Sim TV.av (sO u n ie k x) (od n ie k x.av):=by
 unfold sO;split
 ·rename_i ps;refine Sim.bind (V3 (.arr n u) ps) λd=>Sim.chk λh=>?_;simp only[PM]at h;obtain⟨⟨h1,h2⟩,h3⟩:=h;have h2:=PL h2;have h3:=PN h3;have hk:k.toNat<n:=by omega
  refine Sim.must ⟨List.isEmpty_iff.1 h1,h3.1,h3.2,by rw[<-h2];exact U.enc_len (.arr n u) d.x⟩ ?_;have key:((((U.arr n u).enc d.x).drop (k.toNat*ie.size)).take ie.size).map AC.d=A6 [.ch u (K9 (d.x:Vector u.den n) k.toNat u.dflt)]:=by
   rw[<-h2];exact(congrArg (List.map AC.d) (oR (v:=(d.x:Vector u.den n)) hk)).trans (PO _).symm
  rw[key];exact ei ie _
 ·exact Sim.fail
def sQ(off:Nat) (ie:TI):TV->TQ TV
 |.o (.agg ps)=>(TQ.ofOpt (EQ off ie.size ps)).bind λqs=>BW ie qs
 |_=>.fail
theorem sS(off:Nat) (ie:TI) (x:TV):Sim TV.av (sQ off ie x) (lf off ie x.av):=by
 unfold sQ;split
 ·rename_i ps;refine kM (q:=lf off ie (TV.av (.o (.agg ps)))) λqs h1 h2=>?_;show Sim TV.av (BW ie qs) (asV ie (((A6 ps).drop off).take ie.size));rw[<-h1];exact ei ie _
 ·exact Sim.fail
theorem nD{u:U}:∀(l:List u.den) (n:Nat),l.length=n->ea u.size n (l.flatMap u.enc)=l.map u.enc
 |[],n,h=>by subst h;rfl
 |a::l,n,h=>by
  subst h;have e:(u.enc a).length=u.size:=u.enc_len a;show((u.enc a++l.flatMap u.enc).take u.size)::ea u.size l.length ((u.enc a++l.flatMap u.enc).drop u.size)=u.enc a::l.map u.enc;rw[<-e,QU,QR,e,nD l _ rfl]
def Gt(d k:Nat) (f:FuncId):TV->TQ (List P3)
 |.o (.c (.ptr id ver off))=>.rdB id λb=>match b.c with
  |some [.ch u x]=>.req (Nat.beq off 0&&Nat.beq ver b.ver && !(Nat.beq k d)) (.ret [.b id ⟨b.ver,none⟩,.t k ⟨true,.o (.c (.ep u x 0))⟩,.t d ⟨true,.o (.c (.clo f u x))⟩])
  |_=>.fail
 |.o (.c (.ep u x off))=>.req (Nat.beq off 0) (.ret [.t d ⟨true,.o (.c (.clo f u x))⟩])
 |_=>.fail
theorem zn(d k:Nat) (f:FuncId) (x:TV):Sim US (Gt d k f x) (Lp d k f x.av):=by
 unfold Gt;split
 ·refine Sim.rdB λb=>?_;obtain⟨bv,c⟩:=b;simp only;split
  ·rename_i u x;show Sim US _ ((fC (A6 [.ch u x])).bind λy=>Q.req _ (.ret _));have e:A6 [.ch u x]=(u.enc x).map .d:=PO _;rw[e];intro s tr K h;rw[Q.wpt_bind];refine sF s.st ⟨?_,?_⟩
   ·have h1:=h.1;rw[PM,PM]at h1;exact⟨PL h1.1.1,PL h1.1.2,rfl,λe=>by have h2:=h1.2;rw[e,Tp]at h2;cases h2⟩
   ·exact⟨_,rfl,h.2⟩
  ·exact Sim.fail
 ·exact Sim.chk λh=>by rw[PL h];exact Sim.ret rfl
 ·exact Sim.fail
def ekT(k:Option Nat) (u:U) (x:u.den):List P3:=match k with
 |some k=>[.t k ⟨true,.o (.c (.ep u x 0))⟩]
 |none=>[]
theorem EU(k:Option Nat) (u:U) (x:u.den):US (ekT k u x)=eK k (u.enc x):=by cases k <;> rfl
def Gu(k:Option Nat) (a:TV) (us:List P3):TQ (List P3):=match a with
 |.o (.c (.ptr id ver off))=>match us with
  |[.b _ ⟨_,some [.ch u x]⟩]=>.req (Nat.beq off 0) (.ret (.b id ⟨ver,none⟩::ekT k u x))
  |_=>.fail
 |.o (.c (.rp _ _ _ _ _))=>.ret us
 |_=>.fail
def sU(i:TI) (k:Option Nat) (a:TV) (us:List P3):TQ (List P3):=if(i.cut&&FK i.k)=true then Gu k a us else .ret us
theorem EV:∀ds:List DV,FL (ds.map .d)=some ds
 |[]=>rfl
 |d::ds=>by simp only[PQ,FL,EV ds,Qm]
theorem zo(k:Option Nat) (a:TV) (us:List P3):Sim US (Gu k a us) (FM k a.av (US us)):=by
 unfold Gu;split
 ·rename_i id ver off;split
  ·rename_i id' ver' u x;have e:US [.b id' ⟨ver',some [.ch u x]⟩]=[.b id' ⟨ver',some ((u.enc x).map .d)⟩]:=by
    show [Upd.b id' ⟨ver',some (A6 [.ch u x])⟩]=_;have e:A6 [.ch u x]=(u.enc x).map .d:=PO _;rw[e]
   rw[e];show Sim US _ ((Q.ofOpt (FL ((u.enc x).map .d))).bind λds=>Q.req (off=0) (Q.ret (Upd.b id ⟨ver,none⟩::eK k ds)));rw[EV];refine Sim.req (λh=>PL h) λ_=>Sim.ret ?_;rw[<-EU];rfl
  ·exact Sim.fail
 ·exact Sim.ret rfl
 ·exact Sim.fail
theorem sV(i:TI) (k:Option Nat) (a:TV) (us:List P3):Sim US (sU i k a us) (im i k a.av (US us)):=by
 unfold sU im;split
 ·exact zo k a us
 ·exact Sim.ret rfl
def NR(n:Nat) (l h:Option Int):Bool:=decide (0<=l.getD 0/\l.getD 0<=h.getD n/\h.getD n<=n)
theorem vh{α β:Type}(f:α->β) (l h:Option Int) (n:Nat) (xs:List α):(wn l h n xs).map f=wn l h n (xs.map f):=by
 unfold wn;split
 ·rfl
 ·rw[RM,Ru]
def sW(d k:Option Nat) (u:U) (n:Nat) (ie:TI) (l h:Option Int):TV->TQ (List P3)
 |.o (.c (.ptr id ver off))=>(TQ.ofOpt d).bind λd=>.rdB id λb=>match b.c with
  |some ps=>(dg (.arr n u) ps).bind λy=>.req (Nat.beq off 0&&Nat.beq ver b.ver&&y.fz.isEmpty&&Nat.beq u.size ie.size&&Nat.blt 0 u.size&&Nat.ble n maxLen&&NR n l h) (.ret (.b id ⟨b.ver,none⟩::(ekT k (.arr n u) y.x++[.t d ⟨true,.o (.c (.ch (.sl u) (wn l h n (Vector.toList (y.x:Vector u.den n)))))⟩])))
  |none=>.fail
 |.o (.c (.ep w x off))=>(TQ.ofOpt d).bind λd=>match decEq w (.arr n u) with
  |.isTrue e=>.req (Nat.beq off 0&&Nat.beq u.size ie.size&&Nat.blt 0 u.size&&Nat.ble n maxLen&&NR n l h) (.ret [.t d ⟨true,.o (.c (.ch (.sl u) (wn l h n (Vector.toList (de e x:Vector u.den n)))))⟩])
  |.isFalse _=>.fail
 |_=>.fail
theorem qL{u:U}{n z:Nat}(hz:u.size=z) (x:Vector u.den n):ea z n ((U.arr n u).enc x)=(Vector.toList x).map u.enc:=by
 rw[<-hz];exact nD (Vector.toList x) n (RD)
theorem sX(d k:Option Nat) (u:U) (n:Nat) (ie:TI) (l h:Option Int) (x:TV):Sim US (sW d k u n ie l h x) (gD d k n ie.size l h x.av):=by
 unfold sW;split
 ·rename_i id ver off;refine Sim.bind (J7 d) λd=>?_;show Sim US _ (jn d k n ie.size l h (.ptr id ver off));unfold jn;refine Sim.rdB λb=>?_;obtain⟨bv,c⟩:=b;cases c with
  |none=>exact Sim.fail
  |some ps=>
   refine Sim.bind (V3 (.arr n u) ps) λy=>Sim.chk λh1=>?_;simp only[PM]at h1;obtain⟨⟨⟨⟨⟨⟨a1,a2⟩,a3⟩,a4⟩,a5⟩,a6⟩,a7⟩:=h1;have a4:=PL a4;obtain⟨b0,b1,b2⟩:=PN a7;refine Sim.must ⟨PL a1,PL a2,List.isEmpty_iff.1 a3,by rw[<-a4];exact U.enc_len (.arr n u) y.x,by rw[<-a4];exact Qh a5,Qh a6,b0,b1,b2⟩ (Sim.ret ?_);have key:=qL a4 (y.x:Vector u.den n);show Upd.b id ⟨bv,none⟩::(eK k ((U.arr n u).enc y.x)++[Upd.t d ⟨true,.c (.d (.sl (wn l h n (ea ie.size n ((U.arr n u).enc y.x)))))⟩])=Upd.b id ⟨bv,none⟩::(US (ekT k (.arr n u) y.x++[_]));simp only[US,PV];have:=EU k (.arr n u) y.x;simp only[US]at this;rw[this,key,<-vh];rfl
 ·rename_i w x off;refine Sim.bind (J7 d) λd=>?_;split
  ·rename_i e _;subst e;refine Sim.chk λh1=>?_;simp only[PM]at h1;obtain⟨⟨⟨⟨a1,a4⟩,a5⟩,a6⟩,a7⟩:=h1;have a1:=PL a1;subst a1;have a4:=PL a4;obtain⟨b0,b1,b2⟩:=PN a7;show Sim US _ (jn d k n ie.size l h (.eptr ((U.arr n u).enc x)));unfold jn;refine Sim.must ⟨by rw[<-a4];exact U.enc_len (.arr n u) x,by rw[<-a4];exact Qh a5,Qh a6,b0,b1,b2⟩ (Sim.ret ?_);have key:=qL a4 (x:Vector u.den n);show [Upd.t d ⟨true,.c (.d (.sl (wn l h n (ea ie.size n ((U.arr n u).enc x)))))⟩]=US [_];rw[key,<-vh];rfl
  ·exact Sim.fail
 ·exact Sim.fail
def sY(k:Int):TV->TQ TV
 |.o (.c (.ch .str l))=>.req (decide (0<=k/\k<(List.length l:Nat))) (.ret (c1 .byte (List.getD l k.toNat (0:UInt8))))
 |_=>.fail
theorem sZ(l:List UInt8):(⟨l.toArray⟩:ByteArray).size=l.length:=by simp[ByteArray.size]
theorem ta(k:Int) (x:TV):Sim TV.av (sY k x) (lg k x.av):=by
 unfold sY;split
 ·refine Sim.req (λh0=>?_) λ_=>Sim.ret rfl;have hk:=PN h0;exact⟨hk.1,(congrArg (λn:Nat=>k<(n:Int)) (sZ _)).mpr hk.2⟩
 ·exact Sim.fail
def LZ:TV->TQ Nat
 |.o (.c (.ch (.sl _) l))=>.ret (List.length l)
 |.o (.c (.ch (.ln _) l))=>.ret (List.length l)
 |.o (.c (.ch (.kv _) l))=>.req (Nat.blt 0 (List.length l.2)) (.ret (List.length l.2))
 |.o (.c .nil)=>.ret 0
 |.o (.c (.row id ver))=>.rdR id λr=>match r.c with
  |some R=>.req (Nat.beq ver r.ver&&decide (R.e<Q7)) (.ret R.l.length)
  |none=>.fail
 |_=>.fail
theorem Db(x:TV):Sim id (LZ x) (Ln x.av):=by
 unfold LZ;split
 ·exact Sim.ret (PR ..)
 ·rename_i u l;cases l with
  |nil=>exact Sim.ret rfl
  |cons x l=>exact Sim.ret (PR (as:=x::l) u.enc)
 ·rename_i u l;obtain⟨v,l⟩:=l;cases l with
  |nil=>exact Sim.chk λh=>by cases h
  |cons x l=>exact Sim.chk λ_=>Sim.ret (PR (as:=x::l) u.enc)
 ·exact Sim.ret rfl
 ·refine Sim.rdR λr=>?_;obtain⟨rv,c⟩:=r;cases c with
  |none=>exact Sim.fail
  |some R=>exact Sim.req (λh=>by rw[PM]at h;exact⟨PL h.1,PN h.2⟩) λ_=>Sim.ret (by simp[kn.row])
 ·exact Sim.fail
def tc:TV->TQ Nat
 |.o (.c (.ch .str l))=>.ret (List.length l)
 |_=>.fail
theorem td(x:TV):Sim id (tc x) (rT x.av):=by
 unfold tc;split
 ·exact Sim.ret (sZ _)
 ·exact Sim.fail
def oW(u:U) (x:TC):TQ (Pa (List u.den)):=.req (is1 x) (dg (.sl u) [x])
theorem gM(u:U) (x:TC):Sim (λp:Pa (List u.den)=>(DV.sl (p.x.map u.enc),p.fz)) (oW u x) (toD (aa x.cells)):=by
 refine Sim.chk λh s tr K hK=>?_;have e:A6 [x]=[aa x.cells]:=(PO _).trans (jU h);have h1:=V3 (.sl u) [x] s tr K hK;rw[e]at h1;simp only[fC,Q.wpt_bind,Q.wpt]at h1;refine Q.wpt_mono h1 ?_;rintro⟨d,fz⟩ rs ⟨p,hp,hk⟩;injection hp with hp1 hp2;refine⟨p,?_,hk⟩;simp only[PO]at hp2;injection hp1 with hp1 _;simp only at hp1 hp2;rw[hp1,hp2]
def EW(d:Nat) (u:U) (lo hi:Option Int) (x:TC):TQ (List P3):=(oW u x).bind λy=>(bJ y.fz).bind λus=>
 .req (decide (0<=lo.getD 0/\lo.getD 0<=hi.getD (y.x.length:Nat)/\hi.getD (y.x.length:Nat)<=(y.x.length:Nat))) (.ret (us++[.t d ⟨true,c1 (.sl u) ((y.x.take (hi.getD (y.x.length:Nat)).toNat).drop (lo.getD 0).toNat)⟩]))
def NS(d:Nat) (u:U) (hi:Option Int):TC->TQ (List P3)
 |.row id ver=>.rdR d λrd=>.rdR id λr=>match r.c with
  |some R=>match decEq R.u u with
   |.isTrue h=>.req (Nat.beq ver r.ver&&Nat.blt R.e Q7 && !R.fr&&decide (0<=hi.getD ((h▸R.l:List u.den).length:Nat)/\hi.getD ((h▸R.l:List u.den).length:Nat)<=((h▸R.l:List u.den).length:Nat)))
    (.ret [.r id ⟨r.ver,none⟩,.r d ⟨rd.ver+1,some ⟨u,(h▸R.l:List u.den).take (hi.getD ((h▸R.l:List u.den).length:Nat)).toNat,R.e,false⟩⟩,.t d ⟨true,.o (.c (.row d (rd.ver+1)))⟩])
   |.isFalse _=>.fail
  |none=>.fail
 |_=>.fail
theorem Dc(d z:Nat) (u:U) (hz:u.size=z) (hi:Option Int) (x:TC):Sim US (NS d u hi x) (FJ d z hi (aa x.cells)):=by
 cases x <;> try exact Sim.fail
 case row id ver=>
  refine Sim.rdR λrd=>Sim.rdR λr=>?_;obtain⟨rv,c⟩:=r;cases c with
  |none=>exact Sim.fail
  |some R=>
   obtain⟨ru,rl,re,rf⟩:=R;simp only;split
   ·rename_i hu he;clear he;change ru=u at hu;subst hu;have hl:((rl.map ru.enc).length:Int)=(rl.length:Nat):=by rw[PR]
    show Sim US _ (.req (_/\_/\_/\_/\0<=hi.getD ((rl.map ru.enc).length:Nat)/\hi.getD ((rl.map ru.enc).length:Nat)<=((rl.map ru.enc).length:Nat)) (.ret [.r id ⟨rv,none⟩,.r d ⟨_,some ⟨(rl.map ru.enc).take (hi.getD ((rl.map ru.enc).length:Nat)).toNat,ru.size,re,false⟩⟩,_]));rw[hl];refine Sim.req (λh=>?_) λ_=>Sim.ret ?_
    ·simp only[PM]at h;obtain⟨⟨⟨a1,a2⟩,a3⟩,a4⟩:=h;exact⟨PL a1,Qh a2,by show rf=false;simpa using a3,hz,PN a4⟩
    ·simp only[US,PQ,Qs,<-Ru];rfl
   ·exact Sim.fail
def Jm(u:U) (l:Option Int):TC->TQ TV
 |.row id ver=>.rdR id λr=>match r.c with
  |some R=>match decEq R.u u with
   |.isTrue h=>.req (Nat.beq ver r.ver&&Nat.blt R.e Q7&&decide (0<=l.getD 0/\l.getD 0<=((h▸R.l:List u.den).length:Nat))) (.ret (.rtl id ver (l.getD 0).toNat u.size))
   |.isFalse _=>.fail
  |none=>.fail
 |_=>.fail
theorem zq(z:Nat) (u:U) (hz:u.size=z) (l:Option Int) (x:TC):Sim TV.av (Jm u l x) (rU z l (aa x.cells)):=by
 cases x <;> try exact Sim.fail
 case row id ver=>
  refine Sim.rdR λr=>?_;obtain⟨rv,c⟩:=r;cases c with
  |none=>exact Sim.fail
  |some R=>
   obtain⟨ru,rl,re,rf⟩:=R;simp only;split
   ·rename_i hu he;clear he;change ru=u at hu;subst hu;have hl:((rl.map ru.enc).length:Int)=(rl.length:Nat):=by rw[PR]
    show Sim TV.av _ (.req (_/\_/\_/\0<=l.getD 0/\l.getD 0<=((rl.map ru.enc).length:Nat)) (.ret (.rtl id ver (l.getD 0).toNat z)));rw[hl,<-hz];refine Sim.req (λh=>?_) λ_=>Sim.ret rfl;simp only[PM]at h;obtain⟨⟨a1,a2⟩,a4⟩:=h;exact⟨PL a1,Qh a2,rfl,PN a4⟩
   ·exact Sim.fail
theorem nE(u:U) (l:List u.den):nb u.size (l.map u.enc):=λe he=>by
 obtain⟨x,_,rfl⟩:=List.mem_map.1 he;exact u.enc_len x
theorem wX(d z:Nat) (u:U) (hz:u.size=z) (lo hi:Option Int) (x:TC):Sim US (EW d u lo hi x) (nc d z lo hi (aa x.cells)):=by
 refine Sim.bind (gM u x) λy=>Sim.bind (M5 y.fz) λus=>?_;have hl:((y.x.map u.enc).length:Int)=(y.x.length:Nat):=by rw[PR]
 show Sim US _ (.req (nb z (y.x.map u.enc)/\0<=lo.getD 0/\lo.getD 0<=hi.getD ((y.x.map u.enc).length:Nat)/\hi.getD ((y.x.map u.enc).length:Nat)<=((y.x.map u.enc).length:Nat)) (.ret (US us++[.t d ⟨true,.c (.d (.sl (((y.x.map u.enc).take (hi.getD ((y.x.map u.enc).length:Nat)).toNat).drop (lo.getD 0).toNat)))⟩])));rw[hl];refine Sim.req (λh=>?_) λ_=>Sim.ret ?_
 ·have h1:=PN h;exact⟨hz▸nE u _,h1⟩
 ·simp only[US,PV,PQ,Qs,<-Ru,<-RM];rfl
def tf(lo hi:Option Int):TV->TQ TV
 |.o (.c (.ch .str l))=>.req (decide (0<=lo.getD 0/\lo.getD 0<=hi.getD (List.length l:Nat)/\hi.getD (List.length l:Nat)<=(List.length l:Nat))) (.ret (c1 .str ((List.take (hi.getD (List.length l:Nat)).toNat l).drop (lo.getD 0).toNat)))
 |_=>.fail
theorem wY(l:List UInt8) (a b:Nat):(⟨l.toArray⟩:ByteArray).extract a b=⟨((l.take b).drop a).toArray⟩:=by
 apply ByteArray.ext;rw[ByteArray.data_extract];simp only[List.extract_toArray,List.extract_eq_take_drop];rw[List.drop_take]
theorem tg(lo hi:Option Int) (x:TV):Sim TV.av (tf lo hi x) (gC lo hi x.av):=by
 unfold tf;split
 ·rename_i l;have hl:((⟨List.toArray l⟩:ByteArray).size:Int)=(List.length l:Nat):=congrArg Nat.cast (sZ l);show Sim TV.av _ (.req (0<=lo.getD 0/\lo.getD 0<=hi.getD ((⟨List.toArray l⟩:ByteArray).size:Nat)/\hi.getD ((⟨List.toArray l⟩:ByteArray).size:Nat)<=((⟨List.toArray l⟩:ByteArray).size:Nat)) (.ret (.c (.d (.v (.string ((⟨List.toArray l⟩:ByteArray).extract (lo.getD 0).toNat (hi.getD ((⟨List.toArray l⟩:ByteArray).size:Nat)).toNat)))))));rw[hl];refine Sim.req (λh=>PN h) λ_=>Sim.ret ?_;exact congrArg (λb=>AV.c (AC.d (DV.v (Value.string b)))) (wY l _ _)
 ·exact Sim.fail
def aG{α β:Type}(eq:α->α->Bool) (k:α):List (α×β)->Option Nat
 |[]=>none
 |p::l=>if eq k p.1 then some 0 else(aG eq k l).map (· + 1)
def Z0{α β:Type}(eq:α->α->Bool) (k:α) (v:β) (l:List (α×β)):List (α×β):=match aG eq k l with
 |some i=>l.set i (k,v)
 |none=>l++[(k,v)]
def kO{α β:Type}(eq:α->α->Bool) (k:α) (l:List (α×β)):List (α×β):=match aG eq k l with
 |some i=>l.eraseIdx i
 |none=>l
def Q5{α β:Type}(eq:α->α->Bool) (k:α) (d:β) (l:List (α×β)):β:=((aG eq k l).bind λi=>(l[i]?).map (·.2)).getD d
def zt:(K:U)->K.den->Option Value
 |.int k,n=>some (.int k n)
 |.str,l=>some (.string ⟨List.toArray l⟩)
 |_,_=>none
theorem oX:∀{K:U}{k:K.den}{v:Value},zt K k=some v->K.enc k=[.v v]
 |.int _,_,_,h=>by injection h with h;subst h;rfl
 |.str,_,_,h=>by injection h with h;subst h;rfl
theorem lI:∀{K:U}{a b:K.den}{x y:Value},zt K a=some x->zt K b=some y->V0 x y=K.beq a b
 |.int _,a,b,_,_,h1,h2=>by
  injection h1 with h1;injection h2 with h2;subst h1;subst h2;have e:∀m n:Int,decide (m=n)=L0 m n:=λm n=>by rw[<-ze,Rg];rfl
  exact e a b
 |.str,a,b,_,_,h1,h2=>by
  injection h1 with h1;injection h2 with h2;subst h1;subst h2;have e:∀m n:List UInt8,decide ((⟨m.toArray⟩:ByteArray).data.toList=(⟨n.toArray⟩:ByteArray).data.toList)=C0 m n:=λm n=>by
   rfl
  exact e a b
theorem vi:∀{K:U}{a:K.den}{x:Value},zt K a=some x->∀b:K.den,∃y,zt K b=some y
 |.int _,_,_,_,_=>⟨_,rfl⟩
 |.str,_,_,_,_=>⟨_,rfl⟩
theorem dH{K V:U}{k:K.den}{kv:Value}(hk:zt K k=some kv):∀l:List (K.den×V.den),dv kv (l.map (U.pr K V).enc)=aG K.beq k l
 |[]=>rfl
 |p::l=>by
  obtain⟨y,hy⟩:=vi hk p.1;have e1:(U.pr K V).enc p= .v y::V.enc p.2:=by show K.enc p.1++V.enc p.2=_;rw[oX hy];rfl
  have e2:dv kv ((U.pr K V).enc p::List.map (U.pr K V).enc l)=aG K.beq k (p::l):=by
   rw[e1];unfold dv aG;show(if V0 kv y=true then some 0 else(dv kv (List.map (U.pr K V).enc l)).map (· + 1))=_
   rw[lI hk hy,dH hk l]
  exact e2
theorem zu{K V:U}{k:K.den}{kv:Value}(hk:zt K k=some kv) (v:V.den):(U.pr K V).enc (k,v)= .v kv::V.enc v:=by
 show K.enc k++V.enc v=_;rw[oX hk];rfl
theorem jv{K V:U}{k:K.den}{kv:Value}(hk:zt K k=some kv) (v:V.den) (l:List (K.den×V.den)):jo kv (V.enc v) (l.map (U.pr K V).enc)=(Z0 K.beq k v l).map (U.pr K V).enc:=by
 unfold jo Z0;rw[dH hk];cases aG K.beq k l with
 |none=>
  show l.map (U.pr K V).enc++[.v kv::V.enc v]=(l++[(k,v)]).map (U.pr K V).enc;rw[<-zu hk v];exact(@List.map_append (U.pr K V).den _ (U.pr K V).enc l [(k,v)]).symm
 |some i=>
  show(l.map (U.pr K V).enc).set i (.v kv::V.enc v)=(l.set i (k,v)).map (U.pr K V).enc;rw[<-zu hk v];exact(@List.map_set (U.pr K V).den _ (U.pr K V).enc l i (k,v)).symm
theorem iJ{α β:Type}(f:α->β):∀(l:List α) (i:Nat),(l.map f).eraseIdx i=(l.eraseIdx i).map f
 |[],_=>rfl
 |_::_,0=>rfl
 |x::l,i+1=>by
  show f x::(l.map f).eraseIdx i=f x::(l.eraseIdx i).map f;rw[iJ f l i]
theorem wZ{K V:U}{k:K.den}{kv:Value}(hk:zt K k=some kv) (l:List (K.den×V.den)):xW kv (l.map (U.pr K V).enc)=(kO K.beq k l).map (U.pr K V).enc:=by
 unfold xW kO;rw[dH hk];cases aG K.beq k l with
 |none=>rfl
 |some i=>
  show(l.map (U.pr K V).enc).eraseIdx i=(l.eraseIdx i).map (U.pr K V).enc;exact iJ (U.pr K V).enc l i
theorem lJ{α β:Type}{eq:α->α->Bool}{k:α}:∀{l:List (α×β)}{i:Nat},aG eq k l=some i->i<l.length
 |[],_,h=>by cases h
 |p::l,i,h=>by
  unfold aG at h;split at h
  ·injection h with h;subst h;simp
  ·obtain⟨j,h1,rfl⟩:=Option.map_eq_some_iff.1 h;have:=lJ h1;simpa using this
theorem qM{α β:Type}(f:α->β){l:List α}{i:Nat}(hi:i<l.length) (d:β):(l.map f).getD i d=f l[i]:=by simp[List.getD_eq_getElem?_getD,hi]
theorem lK{K V:U}{k:K.den}{kv:Value}(hk:zt K k=some kv) (l:List (K.den×V.den)):(ga kv (l.map (U.pr K V).enc)).getD (V.enc V.dflt)=V.enc (Q5 K.beq k V.dflt l):=by
 unfold ga Q5;rw[dH hk];cases h:aG K.beq k l with
 |none=>rfl
 |some i=>
  have hi:=lJ h;have e:(l.map (U.pr K V).enc).getD i []=(U.pr K V).enc l[i]:=qM (U.pr K V).enc hi [];have hm:(((some i:Option Nat).bind λi=>(l[i]?).map (·.2)).getD V.dflt)=l[i].2:=by rw[PS,List.getElem?_eq_getElem hi];rfl
  obtain⟨y,hy⟩:=vi hk l[i].1;have e2:((U.pr K V).enc l[i]).drop 1=V.enc l[i].2:=by
   show(K.enc l[i].1++V.enc l[i].2).drop 1=V.enc l[i].2;rw[oX hy];rfl
  exact(congrArg (List.drop 1) e).trans (e2.trans (congrArg V.enc hm.symm))
def bu:U->List Value
 |.int k=>[.int k 0]
 |.byte=>[.int .u8 0]
 |.bool=>[.bool false]
 |.op=>[.bool false]
 |.str=>[.string ⟨#[]⟩]
 |.sl _=>[.slice none 0 0]
 |.ln _=>[.slice none 0 0]
 |.kv _=>[.bool false]
 |.pr a b=>bu a++bu b
 |.arr n u=>(List.replicate n (bu u)).flatten
def noSl:U->Bool
 |.sl _=>false
 |.ln _=>false
 |.kv _=>false
 |.pr a b=>noSl a&&noSl b
 |.arr _ u=>noSl u
 |_=>true
def okZ:U->Bool
 |.pr a b=>okZ a&&okZ b
 |.arr _ u=>noSl u
 |_=>true
def xa:U->List TC
 |.sl _=>[.nil]
 |.ln _=>[.nil]
 |.kv u=>[.ch (.kv u) (U.kv u).dflt]
 |.pr a b=>xa a++xa b
 |.int k=>[.ch (.int k) (0:Int)]
 |.byte=>[.ch .byte (0:UInt8)]
 |.bool=>[.ch .bool false]
 |.op=>[.ch .op U.op.dflt]
 |.str=>[.ch .str ([]:List UInt8)]
 |.arr n u=>[.ch (.arr n u) (U.arr n u).dflt]
theorem iK:∀(u:U),(bu u).map Y5=u.enc u.dflt
 |.int _=>rfl
 |.byte=>rfl
 |.bool=>rfl
 |.op=>rfl
 |.str=>rfl
 |.sl _=>rfl
 |.ln _=>rfl
 |.kv _=>rfl
 |.pr a b=>by
  show(bu a++bu b).map Y5=a.enc a.dflt++b.enc b.dflt;rw[PV,iK a,iK b]
 |.arr n u=>by
  show((List.replicate n (bu u)).flatten).map Y5=(Vector.toList (Vector.replicate n u.dflt)).flatMap u.enc;rw[Vector.toList_replicate,SH,Rm,iK u,List.flatMap_def,Rm]
theorem fM:∀(u:U),noSl u=true->(bu u).map S4=((bu u).map Y5).map .d
 |.int _,_=>rfl
 |.byte,_=>rfl
 |.bool,_=>rfl
 |.op,_=>rfl
 |.str,_=>rfl
 |.sl _,h=>by cases h
 |.ln _,h=>by cases h
 |.kv _,h=>by cases h
 |.pr a b,h=>by
  simp only[noSl,PM]at h;show(bu a++bu b).map S4=((bu a++bu b).map Y5).map .d;rw[PV,PV,PV,fM a h.1,fM b h.2]
 |.arr n u,h=>by
  show((List.replicate n (bu u)).flatten).map S4=(((List.replicate n (bu u)).flatten).map Y5).map .d;rw[SH,Rm,fM u h,SH,Rm,SH,Rm]
theorem oY:∀(u:U),okZ u=true->A6 (xa u)=(bu u).map S4
 |.int _,_=>rfl
 |.byte,_=>rfl
 |.bool,_=>rfl
 |.op,_=>rfl
 |.str,_=>rfl
 |.sl _,_=>rfl
 |.ln _,_=>rfl
 |.kv _,_=>rfl
 |.pr a b,h=>by
  simp only[okZ,PM]at h;show A6 (xa a++xa b)=(bu a++bu b).map S4;rw[S8,oY a h.1,oY b h.2,PV]
 |.arr n u,h=>by
  rw[fM (.arr n u) h,iK];exact Q0 _ _
def Gv:Value->Value->Bool
 |.int k n,.int k' n'=>decide (k=k')&&decide (n=n')
 |.bool a,.bool b=>a==b
 |.string a,.string b=>decide (a.data.toList=b.data.toList)
 |.slice none 0 0,.slice none 0 0=>true
 |_,_=>false
theorem Dd{a b:Value}(h:Gv a b=true):a=b:=by
 unfold Gv at h;split at h
 ·rw[PM,PX,PX]at h;rw[h.1,h.2]
 ·rw[Tv]at h;rw[h]
 ·rename_i a b;have h:=PN h;obtain⟨⟨a⟩⟩:=a;obtain⟨⟨b⟩⟩:=b;simp only at h;rw[h]
 ·rfl
 ·cases h
def oZ:List Value->List Value->Bool
 |[],[]=>true
 |a::as,b::bs=>Gv a b&&oZ as bs
 |_,_=>false
theorem eo:∀{a b:List Value},oZ a b=true->a=b
 |[],[],_=>rfl
 |a::as,b::bs,h=>by
  simp only[oZ,PM]at h;rw[Dd h.1,eo h.2]
def isKey:U->Bool
 |.int _=>true
 |.str=>true
 |_=>false
def kOk:TK->U->Bool
 |.int q,.int k=>decide (k=q)
 |.str,.str=>true
 |.arr n _,.str=>Nat.ble n 1000
 |_,_=>false
def kU:U->U
 |.arr _ .byte=>.str
 |u=>u
theorem cQ:∀{K:U},isKey K=true->∀k:K.den,zt K k=some (cx K k)
 |.int _,_,_=>rfl
 |.str,_,_=>rfl
theorem zw{n:Nat}{e:TypeId}(h:Nat.ble n 1000=true):wid (.arr n e)=some n:=Qx (Qh h)
theorem qN:∀{q:TK}{K:U},kOk q K=true->∀k:K.den,wid q=none->KK q (cx K k)
 |.int q,.int k,h,_,_=>(PN h:k=q)
 |.str,.str,_,_,_=>trivial
 |.arr n _,.str,h,_,hw=>by rw[zw h]at hw;cases hw
theorem Jn:∀{q:TK}{K:U},kOk q K=true->∀k:K.den,KA q (cx K k)
 |.int q,.int k,h,_=>(PN h:k=q)
 |.str,.str,_,_=>trivial
 |.arr n e,.str,h,_=>by unfold KA;rw[zw h];trivial
theorem bw{q:TK}{K V:U}(hk:isKey K=true) (ho:kOk q K=true) (l:List (K.den×V.den)):eQ q (l.map (U.pr K V).enc):=λe he=>by
 obtain⟨p,_,rfl⟩:=List.mem_map.1 he;exact⟨cx K p.1,V.enc p.2,zu (cQ hk p.1) p.2,Jn ho p.1⟩
def NT:TK->Bool
 |.int .u8=>true
 |_=>false
theorem Gw:∀{k:TK},NT k=true->k= .int .u8
 |.int .u8,_=>rfl
def xb(T:TypeId->Option TI) (ik:TI) (K:U) (x:TV):TQ K.den:=match ik.k with
 |.arr n e=>(TQ.ofOpt (T e)).bind λie=>match x with
  |.o (.agg [.ch (.arr m .byte) v])=>match decEq U.str K with
   |.isTrue h=>.req (NT ie.k&&Nat.ble n 1000&&Nat.beq ie.size 1&&Nat.beq ik.size n&&decide (ik.cmp=List.replicate n (.i .u8))&&Nat.blt 0 n&&Nat.beq m n) (.req true (.ret (de h (Vector.toList v))))
   |.isFalse _=>.fail
  |_=>.fail
 |_=>match x with
  |.o (.c (.ch u x))=>match decEq u K with
   |.isTrue h=>.req true (.ret (de h x))
   |.isFalse _=>.fail
  |_=>.fail
theorem Gx(b:UInt8):unB (bAC b)=b:=by
 show UInt8.ofNat ((b.toNat:Int)).toNat=b;rw[PY];exact UInt8.ofNat_toNat
theorem zx(l:List UInt8):(l.map bAC).map unB=l:=by
 rw[QN]
 conv=>rhs;rw[<-TE l]
 exact Rh λb _=>Gx b
theorem th{m:Nat}(v:Vector UInt8 m):A6 [.ch (.arr m .byte) v]=(Vector.toList v).map bAC:=by
 show(((Vector.toList v).flatMap λb=>[DV.v (.int .u8 (b.toNat:Int))]).map AC.d)++[]=_;rw[PO,List.map_flatMap];generalize Vector.toList v=l
 induction l with
 |nil=>rfl
 |cons b l ih=>rw[QB,ih];rfl
theorem ti{T:TypeId->Option TI}{ik:TI}(h:∀n e,ik.k= .arr n e->False) (x:AV):ws T ik x=match x with
  |.c x=>.req (wid ik.k=none) (Lq x)
  |_=>.fail:=by
 unfold ws;split
 ·rename_i hk;exact(h _ _ hk).elim
 ·rfl
theorem kP{K:U}{T:TypeId->Option TI}{ik:TI}(hk:isKey K=true) (x:TV):Sim (cx K) (xb T ik K x) (ws T ik x.av):=by
 unfold xb;split
 ·rename_i n e hki;unfold ws;simp only[hki];refine Sim.bind (J7 (T e)) λie=>?_;simp only[id];split
  ·rename_i m v;split
   ·rename_i h _;subst h;have hc:=th v;refine Sim.req (λh=>?_) λh=>?_
    ·simp only[PM,PX]at h;obtain⟨⟨⟨⟨⟨⟨h1,h2⟩,h3⟩,h4⟩,h5⟩,h6⟩,h7⟩:=h;refine⟨Qh h2,Gw h1,PL h3,PL h4,h5,Qh h6,?_⟩;rw[hc,PR];exact(show(Vector.toList (v:Vector UInt8 m)).length=m from RD).trans (PL h7)
    ·refine Sim.req (λ_=>?_) λ_=>Sim.ret ?_
     ·rw[hc,zx]
     ·exact congrArg (λl:List UInt8=>Value.string ⟨l.toArray⟩) ((congrArg (List.map unB) hc).trans (zx _))
   ·exact Sim.fail
  ·exact Sim.fail
 ·rename_i hna;rw[ti hna];split
  ·rename_i u y;split
   ·rename_i h _;subst h;refine Sim.req (λ_=>Ct hna) λ_=>?_;cases u <;> first | exact Sim.ret rfl | cases hk
   ·exact Sim.fail
  ·exact Sim.fail
structure Lk (α:Type) where
 x:α
 b:Bool
def Gy(K V:U) (ik iv:TI) (k:K.den):TV->TQ (Lk V.den)
 |.o (.c (.row id ver))=>.rdR id λr=>match r.c with
  |some R=>match decEq R.u (.pr K V) with
   |.isTrue h=>.req (Nat.beq ver r.ver&&Nat.beq R.e (mW ik.k iv.agg)) (.ret ⟨Q5 K.beq k V.dflt (h▸R.l:List (U.pr K V).den),(aG K.beq k (h▸R.l:List (U.pr K V).den)).isSome⟩)
   |.isFalse _=>.fail
  |none=>.fail
 |_=>.fail
theorem zy{K V:U}{ik iv:TI}(hk:isKey K=true) (ho:kOk ik.k K=true) (hz:iv.zero=bu V) (k:K.den) (x:TV) :
  Sim (λp:Lk V.den=>(V.enc p.x,p.b)) (Gy K V ik iv k x) (xX ik iv (cx K k) x.av):=by
 unfold Gy;split
 ·refine Sim.rdR λr=>?_;obtain⟨rv,c⟩:=r;cases c with
  |none=>exact Sim.fail
  |some R=>
   obtain⟨ru,rl,re,rf⟩:=R;simp only;split
   ·rename_i hu he;clear he;change ru=U.pr K V at hu;subst hu;refine Sim.req (λh=>?_) λ_=>Sim.ret ?_
    ·rw[PM]at h;exact⟨PL h.1,PL h.2,qN ho k,bw hk ho rl⟩
    ·have h1:=lK (V:=V) (cQ hk k) rl;have h2:=dH (V:=V) (cQ hk k) rl;rw[hz,iK V];exact Prod.ext h1 (congrArg Option.isSome h2)
   ·exact Sim.fail
 ·exact Sim.fail
def pc(ag:Bool):TV->TQ (List TC)
 |.o (.c x)=>.req (!ag&&is1 x) (.ret [x])
 |.o (.agg xs)=>.req ag (.ret xs)
 |_=>.fail
theorem lL(ag:Bool) (x:TV):Sim A6 (pc ag x) (lh ag x.av):=by
 unfold pc;split
 ·rename_i x;refine Sim.req (λh=>by rw[PM]at h;simpa using h.1) λh=>Sim.ret ?_;rw[PM]at h;show [aa x.cells]=x.cells++[];rw[PO];exact(jU h.2).symm
 ·exact Sim.req id λ_=>Sim.ret rfl
 ·exact Sim.fail
def Gz(K V:U) (ik iv:TI) (k:K.den) (xs:List TC):TV->TQ (List P3)
 |.o (.c (.row id ver))=>(dg V xs).bind λd=>(bJ d.fz).bind λus=>.rdR id λr=>match r.c with
  |some R=>match decEq R.u (.pr K V) with
   |.isTrue h=>.req (Nat.beq ver r.ver&&Nat.beq R.e (mW ik.k iv.agg) && !R.fr && !(d.fz.contains id)) (.ret (us++[.r id ⟨r.ver,some ⟨.pr K V,Z0 K.beq k d.x (h▸R.l:List (U.pr K V).den),R.e,false⟩⟩]))
   |.isFalse _=>.fail
  |none=>.fail
 |_=>.fail
theorem pd:∀{K:U},isKey K=true->K.size=1
 |.int _,_=>rfl
 |.str,_=>rfl
theorem zz{K V:U}{ik iv:TI}(hk:isKey K=true) (ho:kOk ik.k K=true) (hs:V.size=iv.size) (k:K.den) (xs:List TC) (x:TV) :
  Sim US (Gz K V ik iv k xs x) (Iy ik iv (cx K k) (A6 xs) x.av):=by
 unfold Gz;split
 ·rename_i id ver;refine Sim.bind (V3 V xs) λd=>Sim.bind (M5 d.fz) λus=>Sim.rdR λr=>?_;obtain⟨rv,c⟩:=r;cases c with
  |none=>exact Sim.fail
  |some R=>
   obtain⟨ru,rl,re,rf⟩:=R;simp only;split
   ·rename_i hu he;clear he;change ru=U.pr K V at hu;subst hu;refine Sim.req (λh=>?_) λ_=>Sim.ret ?_
    ·simp only[PM]at h;obtain⟨⟨⟨a1,a2⟩,a3⟩,a4⟩:=h;refine⟨PL a1,PL a2,?_,by show rf=false;simpa using a3,by simpa using a4,by rw[U.enc_len,hs],qN ho k,bw hk ho rl⟩;show K.size+V.size=1+iv.size;rw[pd hk,hs]
    ·have h1:=jv (V:=V) (cQ hk k) d.x rl;show us.map P3.upd++[Upd.r id ⟨rv,some ⟨jo (cx K k) (V.enc d.x) (rl.map (U.pr K V).enc),(U.pr K V).size,re,false⟩⟩]=US (us++[_]);rw[h1];simp only[US,PV,PQ,Qs];rfl
   ·exact Sim.fail
 ·exact Sim.fail
def GA(K V:U) (ik iv:TI) (k:K.den):TV->TQ (List P3)
 |.o (.c (.row id ver))=>.rdR id λr=>match r.c with
  |some R=>match decEq R.u (.pr K V) with
   |.isTrue h=>.req (Nat.beq ver r.ver&&Nat.beq R.e (mW ik.k iv.agg) && !R.fr) (.ret [.r id ⟨r.ver,some ⟨.pr K V,kO K.beq k (h▸R.l:List (U.pr K V).den),R.e,false⟩⟩])
   |.isFalse _=>.fail
  |none=>.fail
 |_=>.fail
theorem zA{K V:U}{ik iv:TI}(hk:isKey K=true) (ho:kOk ik.k K=true) (k:K.den) (x:TV) :
  Sim US (GA K V ik iv k x) (Lr ik iv (cx K k) x.av):=by
 unfold GA;split
 ·rename_i id ver;refine Sim.rdR λr=>?_;obtain⟨rv,c⟩:=r;cases c with
  |none=>exact Sim.fail
  |some R=>
   obtain⟨ru,rl,re,rf⟩:=R;simp only;split
   ·rename_i hu he;clear he;change ru=U.pr K V at hu;subst hu;refine Sim.req (λh=>?_) λ_=>Sim.ret ?_
    ·simp only[PM]at h;exact⟨PL h.1.1,PL h.1.2,by show rf=false;simpa using h.2,qN ho k,bw hk ho rl⟩
    ·have h1:=wZ (V:=V) (cQ hk k) rl;show [Upd.r id ⟨rv,some ⟨xW (cx K k) (rl.map (U.pr K V).enc),(U.pr K V).size,re,false⟩⟩]=US [_];rw[h1];rfl
   ·exact Sim.fail
 ·exact Sim.fail
theorem zB{a b:Nat}(h:(!(Nat.beq a b))=true):a≠b:=λe=>by
 subst e;rw[Tp]at h;cases h
def De(e:Nat):Bool:=Nat.ble rS e&&Nat.blt e M2
theorem vj{e:Nat}(h:(!(De e))=true):¬Q4 e:=λk=>by
 have h1:Nat.ble rS e=true:=Nat.ble_eq_true_of_le k.1;have h2:Nat.blt e M2=true:=Nat.ble_eq_true_of_le k.2;unfold De at h;rw[h1,h2]at h;cases h
def tj:TV->TQ Nat
 |.o (.c (.row id ver))=>.rdR id λr=>match r.c with
  |some R=>.req (Nat.beq ver r.ver&&Nat.ble Q7 R.e && !(Nat.beq R.e dx) && !(De R.e)) (.ret R.l.length)
  |none=>.fail
 |_=>.fail
theorem tl(x:TV):Sim id (tj x) (oh x.av):=by
 unfold tj;split
 ·refine Sim.rdR λr=>?_;obtain⟨rv,c⟩:=r;cases c with
  |none=>exact Sim.fail
  |some R=>exact Sim.req (λh=>by simp only[PM]at h;exact⟨PL h.1.1.1,Qh h.1.1.2,zB h.1.2,vj h.2⟩) λ_=>Sim.ret (by simp[kn.row])
 ·exact Sim.fail
def NU(ok:Bool) (x:TV) (b:Bool):TQ TV:=match ok with
 |true=>match x with
  |.o y=>.ret (.tup [y,.c (.ch .bool b)])
  |_=>.fail
 |false=>.ret x
theorem Df(ok:Bool) (x:TV) (b:Bool):Sim TV.av (NU ok x b) (.ret (okV ok x.av b)):=by
 cases ok with
 |true=>
  cases x with
  |o y=>exact Sim.ret rfl
  |_=>exact Sim.fail
 |false=>exact Sim.ret rfl
def Ma(u:U) (ie:TI):TV->TQ (List P3)
 |.rtl id ver i z=>.rdR id λr=>match r.c with
  |some R=>match decEq R.u u with
   |.isTrue h=>.req (Nat.beq ver r.ver&&Nat.blt R.e Q7 && !R.fr&&Nat.beq u.size z&&Nat.beq ie.size z&&oZ (bu u) ie.zero&&decide (i<(h▸R.l:List u.den).length))
    (.ret [.r id ⟨r.ver,some ⟨u,(h▸R.l:List u.den).take i++List.replicate ((h▸R.l:List u.den).length-i) u.dflt,R.e,false⟩⟩])
   |.isFalse _=>.fail
  |none=>.fail
 |_=>.fail
theorem Dg(u:U) (ie:TI) (x:TV):Sim US (Ma u ie x) (Lo ie x.av):=by
 unfold Ma;split
 ·rename_i id ver i z;refine Sim.rdR λr=>?_;obtain⟨rv,c⟩:=r;cases c with
  |none=>exact Sim.fail
  |some R=>
   obtain⟨ru,rl,re,rf⟩:=R;simp only;split
   ·rename_i hu he;clear he;change ru=u at hu;subst hu;show Sim US _ (.req (_/\_/\rf=false/\ru.size=z/\ie.size=z/\i<(rl.map ru.enc).length) (.ret [.r id ⟨rv,some ⟨(rl.map ru.enc).take i++List.replicate ((rl.map ru.enc).length-i) (ie.zero.map Y5),ru.size,re,false⟩⟩]));refine Sim.req (λh=>?_) λh=>Sim.ret ?_
    ·simp only[PM]at h;obtain⟨⟨⟨⟨⟨⟨a1,a2⟩,a3⟩,a4⟩,a5⟩,_⟩,a7⟩:=h;exact⟨PL a1,Qh a2,by simpa using a3,PL a4,PL a5,by rw[PR];exact PN a7⟩
    ·simp only[PM]at h;have e3:=eo h.1.2;rw[<-e3,iK ru,PR,<-Ru,<-Rm,<-PV];rfl
   ·exact Sim.fail
 ·exact Sim.fail
def GD(d:Nat) (K V:U) (ik iv:TI) (k:K.den):TV->TQ (List P3)
 |.o (.c (.row id ver))=>.rdR id λr=>match r.c with
  |some R=>match decEq R.u (.pr K V) with
   |.isTrue h=>.req (Nat.beq ver r.ver&&Nat.beq R.e (mW ik.k iv.agg) && !R.fr) (.rdB (pbx id) λb=>
    .ret [.r id ⟨r.ver,some ⟨.pr K V,Z0 K.beq k (Q5 K.beq k V.dflt (h▸R.l:List (U.pr K V).den)) (h▸R.l:List (U.pr K V).den),R.e+M2,false⟩⟩,.b (pbx id) ⟨b.ver+1,none⟩,.t d ⟨true,.ent true id (b.ver+1) K k⟩])
   |.isFalse _=>.fail
  |none=>.fail
 |_=>.fail
theorem zH{K V:U}{ik iv:TI}(hk:isKey K=true) (ho:kOk ik.k K=true) (hs:V.size=iv.size) (hz:iv.zero=bu V) (d:Nat) (k:K.den) (x:TV) :
  Sim US (GD d K V ik iv k x) (Iz d ik iv (cx K k) x.av):=by
 unfold GD;split
 ·rename_i id ver;refine Sim.rdR λr=>?_;obtain⟨rv,c⟩:=r;cases c with
  |none=>exact Sim.fail
  |some R=>
   obtain⟨ru,rl,re,rf⟩:=R;simp only;split
   ·rename_i hu he;clear he;change ru=U.pr K V at hu;subst hu;refine Sim.req (λh=>?_) λ_=>Sim.rdB λb=>Sim.ret ?_
    ·simp only[PM]at h;obtain⟨⟨a1,a2⟩,a3⟩:=h;refine⟨PL a1,PL a2,?_,by show rf=false;simpa using a3,qN ho k,bw hk ho rl⟩;show K.size+V.size=1+iv.size;rw[pd hk,hs]
    ·have h0:=lK (V:=V) (cQ hk k) rl;have h1:=jv (V:=V) (cQ hk k) (Q5 K.beq k V.dflt rl) rl;show [Upd.r id ⟨rv,some ⟨jo (cx K k) ((ga (cx K k) (rl.map (U.pr K V).enc)).getD (iv.zero.map Y5)) (rl.map (U.pr K V).enc),(U.pr K V).size,re+M2,false⟩⟩,_,_]=US [_,_,_];rw[hz,iK V,h0,h1];rfl
   ·exact Sim.fail
 ·exact Sim.fail
def GE(K V:U) (ik iv:TI) (xs:List TC):TV->TV->TQ (List P3)
 |.o (.c (.row id ver)),.ent false id' pv K' k'=>match decEq K' K with
  |.isTrue hK=>(dg V xs).bind λd=>(bJ d.fz).bind λus=>.rdB (pbx id) λb=>.rdR id λr=>match r.c with
   |some R=>match decEq R.u (.pr K V) with
    |.isTrue h=>.req (Nat.beq id' id&&Nat.beq pv b.ver&&Nat.beq ver r.ver&&Nat.beq R.e (mW ik.k iv.agg+M2) && !R.fr && !(d.fz.contains id)) (.ret (us++[.r id ⟨r.ver,some ⟨.pr K V,Z0 K.beq (de hK k') d.x (h▸R.l:List (U.pr K V).den),mW ik.k iv.agg,false⟩⟩]))
    |.isFalse _=>.fail
   |none=>.fail
  |.isFalse _=>.fail
 |_,_=>.fail
theorem zI{K V:U}{ik iv:TI}(hk:isKey K=true) (ho:kOk ik.k K=true) (hs:V.size=iv.size) (xs:List TC) (x st:TV) :
  Sim US (GE K V ik iv xs x st) (IA ik iv (A6 xs) x.av st.av):=by
 unfold GE;split
 ·rename_i id ver id' pv K' k';split
  ·rename_i hK _;subst hK;refine Sim.bind (V3 V xs) λd=>Sim.bind (M5 d.fz) λus=>Sim.rdB λb=>Sim.rdR λr=>?_;obtain⟨rv,c⟩:=r;cases c with
   |none=>exact Sim.fail
   |some R=>
    obtain⟨ru,rl,re,rf⟩:=R;simp only;split
    ·rename_i hu he;clear he;change ru=U.pr _ V at hu;subst hu;refine Sim.req (λh=>?_) λ_=>Sim.ret ?_
     ·simp only[PM]at h;obtain⟨⟨⟨⟨⟨a0,a00⟩,a1⟩,a2⟩,a3⟩,a4⟩:=h;refine⟨PL a0,PL a00,PL a1,PL a2,?_,by show rf=false;simpa using a3,by simpa using a4,by rw[U.enc_len,hs],qN ho k',bw hk ho rl⟩;show U.size _+V.size=1+iv.size;rw[pd hk,hs]
     ·have h1:=jv (V:=V) (cQ hk k') d.x rl;show us.map P3.upd++[Upd.r id ⟨rv,some ⟨jo (cx _ k') (V.enc d.x) (rl.map (U.pr _ V).enc),(U.pr _ V).size,mW ik.k iv.agg,false⟩⟩]=US (us++[_]);rw[h1];simp only[US,PV,PQ,Qs];rfl
    ·exact Sim.fail
  ·exact Sim.fail
 ·exact Sim.fail
def zC(k:TK) (d:Nat):TV->TQ (List P3)
 |.o (.c (.ch .str s))=>match k with
  |.str=>.rdR d λr=>.ret [.r d ⟨r.ver+1,some ⟨.pr .str (.int .i64),[((s:List UInt8),(0:Int))],dx,false⟩⟩,.t d ⟨true,.o (.c (.row d (r.ver+1)))⟩]
  |_=>.fail
 |_=>.fail
theorem xd(k:TK) (d:Nat) (x:TV):Sim US (zC k d x) (ut k d x.av):=by
 unfold zC;split
 ·cases k <;> first | exact Sim.fail | exact Sim.rdR λr=>Sim.ret rfl
 ·exact Sim.fail
def Mb(s:List UInt8) (p:Int):Int:=wt ⟨s.toArray⟩ p
def Mc(s:List UInt8) (p:Int):Int:=((Utf8.decode ⟨s.toArray⟩ p.toNat).1:Nat)
def jV(l:List (U.pr .str (.int .i64)).den):List UInt8×Int:=List.headD (l:List (List UInt8×Int)) ([],0)
def GB(d:Nat):TV->TQ (List P3)
 |.o (.c (.row id ver))=>.rdR id λr=>match r.c with
  |some R=>match decEq R.u (.pr .str (.int .i64)) with
   |.isTrue h=>.req (Nat.beq ver r.ver&&Nat.beq R.e dx && !R.fr&&Nat.beq R.l.length 1)
    (.ret [.r id ⟨r.ver,some ⟨.pr .str (.int .i64),[((jV (h▸R.l:List (U.pr .str (.int .i64)).den)).1,Mb (jV (h▸R.l:List (U.pr .str (.int .i64)).den)).1 (jV (h▸R.l:List (U.pr .str (.int .i64)).den)).2)],R.e,false⟩⟩,
     .t d ⟨true,.nx (decide ((jV (h▸R.l:List (U.pr .str (.int .i64)).den)).2.toNat<(jV (h▸R.l:List (U.pr .str (.int .i64)).den)).1.length)) (.ch (.int .i64) (jV (h▸R.l:List (U.pr .str (.int .i64)).den)).2) (.ch (.int .i32) (Mc (jV (h▸R.l:List (U.pr .str (.int .i64)).den)).1 (jV (h▸R.l:List (U.pr .str (.int .i64)).den)).2))⟩])
   |.isFalse _=>.fail
  |none=>.fail
 |_=>.fail
theorem zD(d:Nat) (x:TV):Sim US (GB d x) (Ch d x.av):=by
 unfold GB;split
 ·refine Sim.rdR λr=>?_;obtain⟨rv,c⟩:=r;cases c with
  |none=>exact Sim.fail
  |some R=>
   obtain⟨ru,rl,re,rf⟩:=R;simp only;split
   ·rename_i hu he;clear he;change ru=U.pr .str (.int .i64)at hu;subst hu;refine Sim.req (λh=>?_) λh=>?_
    ·simp only[PM]at h;exact⟨PL h.1.1.1,PL h.1.1.2,by show rf=false;simpa using h.1.2⟩
    ·simp only[PM]at h;have hl:=PL h.2
     match rl,hl with
     |[q],_=>exact Sim.ret rfl
   ·exact Sim.fail
 ·exact Sim.fail
def GC(k:Nat):TV->TQ TV
 |.tup xs=>(TQ.ofOpt xs[k]?).bind λy=>.ret (.o y)
 |.nx b x y=>match k with
  |0=>.ret (.o (.c (.ch .bool b)))
  |1=>.req b (.ret (.o (.c x)))
  |2=>.req b (.ret (.o (.c y)))
  |_=>.fail
 |.ent true id pv K kv=>match k with
  |1=>.rdB (pbx id) λb=>.req (Nat.beq pv b.ver) (.ret (.ent false id pv K kv))
  |_=>.fail
 |_=>.fail
theorem zF(k:Nat) (x:TV):Sim TV.av (GC k x) (kA k x.av):=by
 unfold GC;split
 ·rename_i xs;intro s tr K h;rw[TQ.wpt_bind]at h;show(Q.ofOpt (xs.map T1.av)[k]?).wpt _ _ _;have h1:=qD (f:=T1.av) (o':=xs[k]?) (o:=(xs.map T1.av)[k]?) (λa h=>by rw[List.getElem?_map,h];rfl) s tr _ h;refine Q.wpt_mono h1 ?_;rintro b rs ⟨a,rfl,hk⟩;exact⟨_,rfl,hk⟩
 ·split
  ·exact Sim.ret rfl
  ·exact Sim.req (λh=>h) λ_=>Sim.ret rfl
  ·exact Sim.req (λh=>h) λ_=>Sim.ret rfl
  ·exact Sim.fail
 ·split
  ·exact Sim.rdB λb=>Sim.req (λh=>PL h) λ_=>Sim.ret rfl
  ·exact Sim.fail
 ·exact Sim.fail
def Jo(u:U) (x:TC):TQ (Pa u.den):=.req (is1 x&&Nat.beq u.size 1) (dg u [x])
theorem zG(u:U) (x:TC):Sim (λp:Pa u.den=>(oL (u.enc p.x),p.fz)) (Jo u x) (toD (aa x.cells)):=by
 refine Sim.chk λh s tr K hK=>?_;rw[PM]at h;have e:A6 [x]=[aa x.cells]:=(PO _).trans (jU h.1);have h1:=V3 u [x] s tr K hK;rw[e]at h1;simp only[fC,Q.wpt_bind,Q.wpt]at h1;refine Q.wpt_mono h1 ?_;rintro⟨d,fz⟩ rs ⟨p,hp,hk⟩;injection hp with hp1 hp2;refine⟨p,?_,hk⟩;simp only[PO]at hp2;simp only at hp1 hp2;rw[<-hp1,hp2];rfl
def NV(t:TypeId) (u:U) (d:Nat) (x:TC):TQ (List P3):=(Jo u x).bind λy=>(bJ y.fz).bind λus=>.ret (us++[.t d ⟨true,.o (.c (.it t u y.x))⟩])
theorem Dh(t:TypeId) (u:U) (d:Nat) (x:TC):Sim US (NV t u d x) ((toD (aa x.cells)).bind λy=>(ak y.2).bind λus=>.ret (us++[.t d ⟨true,.c (.d (.it t y.1))⟩])):=by
 refine Sim.bind (zG u x) λy=>Sim.bind (M5 y.fz) λus=>Sim.ret ?_;simp only[US,PV,PQ,Qs];rfl
def tn(i:TI) (t:TypeId):TV->TQ TV
 |.o (.c (.it t' u x))=>.req (i.k.conc && !i.agg&&Nat.beq u.size 1) (match decEq t' t with
  |.isTrue _=>.ret (.tup [.c (.ch u x),.c (.ch .bool true)])
  |.isFalse _=>match i.zero with
   |[z]=>match wP z with
    |some c=>.ret (.tup [.c c,.c (.ch .bool false)])
    |none=>.fail
   |_=>.fail)
 |_=>.fail
theorem tt(i:TI) (t:TypeId) (x:TV):Sim TV.av (tn i t x) (oi i t x.av):=by
 unfold tn;split
 ·rename_i t' u y;refine Sim.req (λh=>?_) λh=>?_
  ·simp only[PM]at h;exact⟨h.1.1,by simpa using h.1.2⟩
  ·simp only[PM]at h;have hz:=PL h.2;have hag:i.agg=false:=by simpa using h.1.2
   show Sim TV.av _ (match decEq t' t with
    |.isTrue _=>.ret (.tup [.c (.d (oL (u.enc y))),.c (.d (.v (.bool true)))])
    |.isFalse _=>(ya i).bind λz=>.ret (.tup [z,.c (.d (.v (.bool false)))]))
   generalize decEq t' t=dd;cases dd with
   |isTrue e=>
    refine Sim.ret ?_;show AV.tup [.c (.d (oL (u.enc y))),.c (.d (.v (.bool true)))]= .tup [.c (aa ((u.enc y).map .d)),.c (.d (.v (.bool true)))];rw[<-uS (ds:=u.enc y) (by rw[U.enc_len,hz])];rfl
   |isFalse e=>
    simp only;split
    ·rename_i z hz0;cases hl:wP z with
     |none=>exact Sim.fail
     |some c=>
      obtain⟨a1,_,a3⟩:=oO hl;unfold ya;rw[hag,hz0];refine Sim.ret ?_;show AV.tup [.c (S4 z),.c (.d (.v (.bool false)))]= .tup [.c (aa c.cells),.c (.d (.v (.bool false)))];rw[a1];rfl
    ·exact Sim.fail
 ·exact Sim.fail
def EX(ou:Option U) (zero:List Value):Option (List TC):=match ou with
 |some u=>match okZ u&&oZ (bu u) zero with
  |true=>some (xa u)
  |false=>none
 |none=>lE zero
theorem tu{ou:Option U}{zero:List Value}{ps:List TC}(h:EX ou zero=some ps):A6 ps=zero.map S4:=by
 unfold EX at h;split at h
 ·split at h
  ·rename_i u _ hz;rw[PM]at hz;injection h with h;subst h;rw[oY _ hz.1,eo hz.2]
  ·cases h
 ·exact(ju h).1
def vl(place:Nat->Option (Nat×Nat)) (ps:List TC):List (Nat×TV)->TQ (List TC)
 |[]=>.ret ps
 |p::rest=>(nz p.2).bind λv=>match place p.1 with
  |some q=>.req (Nat.beq (yW v) q.2) (match Id ps q.1 v with|some qs=>vl place qs rest|none=>.fail)
  |none=>.fail
theorem jw(place:Nat->Option (Nat×Nat)):∀(xs:List (Nat×TV)) (ps:List TC),Sim A6 (vl place ps xs) (oe place (A6 ps) (xs.map pav))
 |[],ps=>Sim.ret rfl
 |p::rest,ps=>by
  refine Sim.bind (fK p.2) λv=>?_;show Sim A6 _ (match place p.1 with | some q=>.req ((A6 v).length=q.2/\q.1+q.2<=(A6 ps).length) (oe place (setAt (A6 ps) q.1 (A6 v)) (rest.map pav)) | none=>.fail)
  cases place p.1 with
  |none=>exact Sim.fail
  |some q=>
   refine Sim.chk λh=>?_;have e:=PL h;rw[<-iI]at e;simp only;cases hs:Id ps q.1 v with
   |none=>exact Sim.fail
   |some qs=>
    obtain⟨h1,h2⟩:=yX hs;refine Sim.must ⟨e,by rw[<-e];exact h2⟩ ?_;rw[<-h1];exact jw place rest qs
structure Pds (α:Type) where
 x:List (Nat×α)
 fz:List Nat
def Md(u:U):List (Nat×TV)->TQ (Pds u.den)
 |[]=>.ret ⟨[],[]⟩
 |p::ps=>(nz p.2).bind λcs=>(dg u cs).bind λd=>(Md u ps).bind λds=>.ret ⟨(p.1,d.x)::ds.x,d.fz++ds.fz⟩
def Jp(u:U) (p:Pds u.den):List (Nat×List DV)×List Nat:=(p.x.map λq=>(q.1,u.enc q.2),p.fz)
theorem vm(u:U):∀(ps:List (Nat×TV)),Sim (Jp u) (Md u ps) (wo (ps.map pav))
 |[]=>Sim.ret rfl
 |p::ps=>Sim.bind (fK p.2) λcs=>Sim.bind (V3 u cs) λ_d=>Sim.bind (vm u ps) λ_ds=>Sim.ret rfl
def zJ{α:Type}:List α->List (Nat×α)->TQ (List α)
 |es,[]=>.ret es
 |es,p::rest=>.req (decide (p.1<es.length)) (zJ (es.set p.1 p.2) rest)
theorem nF(u:U):∀(xs:List (Nat×u.den)) (es:List u.den),Sim (List.map u.enc) (zJ es xs) (wq u.size (es.map u.enc) (xs.map λq=>(q.1,u.enc q.2)))
 |[],es=>Sim.ret rfl
 |p::rest,es=>by
  refine Sim.req (λh=>⟨u.enc_len _,by rw[PR];exact PN h⟩) λ_=>?_;show Sim _ _ (wq u.size ((es.map u.enc).set p.1 (u.enc p.2)) _);rw[<-List.map_set];exact nF u rest _
def LIM:Nat:=140737488355328
def LEN:Nat:=4611686018427387904
def zK(d:Nat) (e:TypeId) (u:U) (by_:Nat) (x y:TC):TQ (List P3):=
 (oW u y).bind λy=>.req (decide (e<Q7)) ((bJ y.fz).bind λus=>.rdR d λrd=>match x with
  |.nil=>.req (decide (y.x.length*by_<=LIM/\y.x.length<=LEN)) (.ret (us++[.r d ⟨rd.ver+1,some ⟨u,y.x,e,false⟩⟩,.t d ⟨true,.o (.c (.row d (rd.ver+1)))⟩]))
  |.row id ver=>.rdR id λr=>match r.c with
   |some R=>match decEq R.u u with
    |.isTrue h=>.req (Nat.beq ver r.ver&&Nat.beq R.e e) (.req (decide ((R.l.length+y.x.length)*by_<=LIM/\R.l.length+y.x.length<=LEN))
     (.ret (us++[.r id ⟨r.ver,none⟩,.r d ⟨rd.ver+1,some ⟨u,(h▸R.l:List u.den)++y.x,e,R.fr||y.fz.contains id⟩⟩,.t d ⟨true,.o (.c (.row d (rd.ver+1)))⟩])))
    |.isFalse _=>.fail
   |none=>.fail
  |_=>.fail)
theorem tv(d:Nat) (e:TypeId) (u:U) (z by_:Nat) (hz:u.size=z) (x y:TC):Sim US (zK d e u by_ x y) (og d e z by_ (aa x.cells) (aa y.cells)):=by
 subst hz;refine Sim.bind (gM u y) λy=>?_;show Sim US _ (.req (nb u.size (y.x.map u.enc)/\e<Q7) ((ak y.fz).bind λus=>.rdR d λrd=>match aa x.cells with
   |.nil=>.req ((y.x.map u.enc).length*by_<=140737488355328/\(y.x.map u.enc).length<=4611686018427387904) (.ret (us++[.r d ⟨rd.ver+1,some ⟨y.x.map u.enc,u.size,e,false⟩⟩,.t d ⟨true,.c (.row d (rd.ver+1))⟩]))
   |.row id ver=>.rdR id λr=>match r.c with
    |some R=>.req (ver=r.ver/\R.sz=u.size/\R.e=e/\(R.es.length+(y.x.map u.enc).length)*by_<=140737488355328/\R.es.length+(y.x.map u.enc).length<=4611686018427387904)
     (.ret (us++[.r id ⟨r.ver,none⟩,.r d ⟨rd.ver+1,some ⟨R.es++y.x.map u.enc,u.size,e,R.fr||y.fz.contains id⟩⟩,.t d ⟨true,.c (.row d (rd.ver+1))⟩]))
    |none=>.fail
   |_=>.fail))
 refine Sim.req (λh=>⟨nE u _,PN h⟩) λ_=>(Sim.bind (M5 y.fz) λus=>Sim.rdR λrd=>?_);split
 ·refine Sim.req (λh=>?_) λ_=>Sim.ret ?_
  ·have h1:=PN h;rw[PR];exact h1
  ·simp only[US,PV,PQ,Qs];rfl
 ·rename_i id ver;refine Sim.rdR λr=>?_;obtain⟨rv,c⟩:=r;cases c with
  |none=>exact Sim.fail
  |some R=>
   obtain⟨ru,rl,re,rf⟩:=R;simp only;split
   ·rename_i hu _;subst hu;refine Sim.chk λh=>Sim.req (λh0=>?_) λ_=>Sim.ret ?_
    ·rw[PM]at h;have h1:=PN h0;refine⟨PL h.1,rfl,PL h.2,?_⟩;rw[show(kn.row ⟨ru,rl,re,rf⟩).es.length=rl.length from PR ..,PR];exact h1
    ·simp only[US,PV,PQ,Qs,P3.upd,TRS.rs,Qm,RH,kn.row];rfl
   ·exact Sim.fail
 ·exact Sim.fail
section
variable (T:TypeId->Option TI) (TU:TypeId->Option U) (cq:Oper->Call->Q (List Upd)) (tcq:Oper->Call->TQ (List P3))
def ttq(t:TypeId):TQ TI:=.ofOpt (T t)
theorem C7(t:TypeId):Sim id (ttq T t) (tq T t):=J7 _
def pg(i j:TI) (o:Oper) (_src:TypeId) (x:TV):TQ (List P3):=match i.k,j.k with
 |.int _,.int k=>(ER x).bind λn=>gz o.dst (c1 (.int k) (k.wrap n))
 |.str,.str=>match x with
  |.o (.c (.ch .str s))=>gz o.dst (c1 .str s)
  |_=>.fail
 |.slice e,.str=>(ttq T e).bind λie=>match ie.k with
  |.int .u8=>match x with
   |.o (.c x)=>(oW .byte x).bind λy=>gz o.dst (c1 .str y.x)
   |_=>.fail
  |_=>.fail
 |.str,.slice e=>(ttq T e).bind λie=>match ie.k with
  |.int .u8=>match x with
   |.o (.c (.ch .str s))=>.req (decide (List.length s<=maxLen)) (gz o.dst (c1 (.sl .byte) s))
   |_=>.fail
  |_=>.fail
 |_,_=>.fail
def If(o:Oper):TQ (List P3):=match o.op with
 |.move x=>(tev x).bind (gz o.dst)
 |.assign x=>(tev x).bind (gz o.dst)
 |.pick c a b=>(tev c).bind λc=>(CP c).bind λc=>(LU a).bind λa=>(LU b).bind λb=>(Jj c a b).bind (gz o.dst)
 |.alloc t=>(ttq T t).bind λi=>(TQ.ofOpt o.dst).bind λd=>match EX (TU t) i.zero with
  |some ps=>.rdB d λb=>.ret [.b d ⟨b.ver+1,some ps⟩,.t d ⟨true,.o (.c (.ptr d (b.ver+1) 0))⟩]
  |none=>.fail
 |.box _ x=>(TQ.ofOpt o.dst).bind λd=>(tev x).bind λv=>(nz v).bind λcs=>.rdB d λb=>.ret [.b d ⟨b.ver+1,some cs⟩,.t d ⟨true,.o (.c (.ptr d (b.ver+1) 0))⟩]
 |.build t parts=>(ttq T t).bind λi=>(CO parts.toList).bind λps=>match i.k with
  |.struct fs=>match EX (TU t) i.zero with
   |some zs=>(vl (fs[·]?) zs ps).bind λcs=>gz o.dst (.o (.agg cs))
   |none=>.fail
  |.arr _ e=>(ttq T e).bind λie=>match EX (TU t) i.zero with
   |some zs=>(vl (λj=>some (j*ie.size,ie.size)) zs ps).bind λcs=>gz o.dst (.o (.agg cs))
   |none=>.fail
  |_=>.fail
 |.buildSlice t len parts=>(ttq T t).bind λi=>(TQ.ofOpt o.dst).bind λd=>match i.k with
  |.slice e=>(ttq T e).bind λie=>match TU e with
   |some u=>.req (decide (len*ie.size<=16777216/\0<ie.size/\(len=0->parts.size=0)/\e<Q7)&&Nat.beq u.size ie.size&&oZ (bu u) ie.zero) ((CO parts.toList).bind λps=>(Md u ps).bind λy=>(bJ y.fz).bind λus=>(zJ (List.replicate len u.dflt) y.x).bind λes=>
    .rdR d λr=>.ret (us++[.r d ⟨r.ver+1,some ⟨u,es,e,false⟩⟩,.t d ⟨true,.o (.c (.row d (r.ver+1)))⟩]))
   |none=>.fail
  |_=>.fail
 |.load t a=>(ttq T t).bind λi=>(tev a).bind λa=>(CS i a).bind (gz o.dst)
 |.store t a x=>match o.dst with
  |some _=>.fail
  |none=>(ttq T t).bind λi=>(tev a).bind λa'=>(tev x).bind λx=>(nz x).bind λcs=>(zj TU t i cs a').bind λus=>sU i (eb a) a' us
 |.nilCheck x=>(tev x).bind λx=>match x with
  |.o (.c (.ptr id ver off))=>.rdB id λb=>.req (Nat.beq ver b.ver&&b.c.isSome) (gz o.dst (.o (.c (.ptr id ver off))))
  |.o (.c (.ep u y off))=>gz o.dst (.o (.c (.ep u y off)))
  |.o (.c (.rp id ver k off sz))=>.rdR id λr=>.req (Nat.beq ver r.ver&&r.c.isSome) (gz o.dst (.o (.c (.rp id ver k off sz))))
  |.o (.c (.fn f))=>gz o.dst (.o (.c (.fn f)))
  |.o (.c (.clo f u x))=>gz o.dst (.o (.c (.clo f u x)))
  |_=>.fail
 |.binOp op t x y _=>(ttq T t).bind λi=>(tev x).bind λx=>(tev y).bind λy=>(LX TU op t i x y).bind (gz o.dst)
 |.unOp op _ x=>(tev x).bind λx=>(tun op x).bind (gz o.dst)
 |.convert src dst x=>(ttq T src).bind λi=>(ttq T dst).bind λj=>(tev x).bind λx=>pg T i j o src x
 |.slice t xo lo hi none=>(ttq T t).bind λi=>(tev xo).bind λx=>(Ls lo).bind λl=>(Ls hi).bind λh=>match i.k with
   |.slice e=>(ttq T e).bind λie=>match TU e with
    |some u=>.req (Nat.beq u.size ie.size) (match x with
     |.o (.c x)=>(TQ.ofOpt o.dst).bind λd=>if(i.cut&&l.isNone)=true then NS d u h x else if(i.cut&&h.isNone)=true then(Jm u l x).bind (gz o.dst)else EW d u l h x
     |_=>.fail)
    |none=>.fail
   |.str=>(tf l h x).bind (gz o.dst)
   |.arr n e=>(ttq T e).bind λie=>match TU e with
    |some u=>sW o.dst (eb xo) u n ie l h x
    |none=>.fail
   |_=>.fail
 |.fieldAddr t x f=>(ttq T t).bind λi=>match i.k with
  |.struct fs=>(TQ.ofOpt fs[f]?).bind λp=>(tev x).bind λx=>(zk p.1 x).bind (gz o.dst)
  |_=>.fail
 |.indexAddr t x k=>(ttq T t).bind λi=>(tev x).bind λx=>(tev k).bind λk=>(ER k).bind λk=>match i.k with
  |.slice e=>(ttq T e).bind λie=>(zm ie.size k x).bind (gz o.dst)
  |.arr n e=>(ttq T e).bind λie=>(sM n ie.size k x).bind (gz o.dst)
  |_=>.fail
 |.index t x k=>(ttq T t).bind λi=>(tev x).bind λx=>(tev k).bind λk=>(ER k).bind λk=>match i.k with
  |.str=>(sY k x).bind (gz o.dst)
  |.arr n e=>(ttq T e).bind λie=>match TU e with
   |some u=>(sO u n ie k x).bind (gz o.dst)
   |none=>.fail
  |_=>.fail
 |.field t x f=>(ttq T t).bind λi=>match i.k with
  |.struct fs=>(TQ.ofOpt fs[f]?).bind λp=>(TQ.ofOpt i.fts[f]?).bind λft=>(ttq T ft).bind λie=>(tev x).bind λx=>(sQ p.1 ie x).bind (gz o.dst)
  |_=>.fail
 |.extract x k=>(tev x).bind λx=>(GC k x).bind (gz o.dst)
 |.range t x=>(ttq T t).bind λi=>(TQ.ofOpt o.dst).bind λd=>(tev x).bind λx=>zC i.k d x
 |.next x true=>(TQ.ofOpt o.dst).bind λd=>(tev x).bind λx=>GB d x
 |.makeFunc fn first captured=>(TQ.ofOpt o.dst).bind λd=>match fn,first.toList,captured.toList with
  |.func f,[],[]=>.ret [.t d ⟨true,.o (.c (.fn f))⟩]
  |.func f,[],[.tmp k]=>(tev (.tmp k)).bind λv=>Gt d k f v
  |_,_,_=>.fail
 |.makeInterface t x=>(ttq T t).bind λi=>(TQ.ofOpt o.dst).bind λd=>(tev x).bind λx=>match x with
  |.o (.c x)=>match TU t with
   |some u=>.req i.k.conc (NV t u d x)
   |none=>.fail
  |_=>.fail
 |.typeAssert x _ t true=>(ttq T t).bind λi=>(tev x).bind λx=>(tn i t x).bind (gz o.dst)
 |.makeSlice t l c=>(ttq T t).bind λi=>(TQ.ofOpt o.dst).bind λd=>(tev l).bind λl=>(ER l).bind λl=>(tev c).bind λc=>(ER c).bind λc=>match i.k with
  |.slice e=>(ttq T e).bind λie=>match TU e with
   |some u=>.req (decide (0<ie.size/\e<Q7)&&Nat.beq u.size ie.size&&oZ (bu u) ie.zero) (.req (decide (0<=l/\l<=c/\(ie.bytes:Int)*c<=281474976710656/\c<=4611686018427387904)) (.rdR d λr=>
    .ret [.r d ⟨r.ver+1,some ⟨u,List.replicate l.toNat u.dflt,e,false⟩⟩,.t d ⟨true,.o (.c (.row d (r.ver+1)))⟩]))
   |none=>.fail
  |_=>.fail
 |.makeMap t r=>(ttq T t).bind λi=>(TQ.ofOpt o.dst).bind λd=>(Ls r).bind λ_=>match i.k with
  |.map kt vt=>(ttq T kt).bind λik=>(ttq T vt).bind λiv=>match TU kt,TU vt with
   |some K,some V=>.req (isKey (kU K)&&Nat.beq V.size iv.size) (.rdR d λr=>.ret [.r d ⟨r.ver+1,some ⟨.pr (kU K) V,[],mW ik.k iv.agg,false⟩⟩,.t d ⟨true,.o (.c (.row d (r.ver+1)))⟩])
   |_,_=>.fail
  |_=>.fail
 |.lookup t m k ok=>(ttq T t).bind λi=>(tev m).bind λm=>(tev k).bind λk=>match i.k with
  |.map kt vt=>(ttq T kt).bind λik=>(ttq T vt).bind λiv=>match TU kt,TU vt with
   |some K,some V=>.req (isKey (kU K)&&kOk ik.k (kU K)&&oZ (bu V) iv.zero) ((xb T ik (kU K) k).bind λk=>(Gy (kU K) V ik iv k m).bind λp=>(BW iv [.ch V p.x]).bind λx=>(NU ok x p.b).bind (gz o.dst))
   |_,_=>.fail
  |_=>.fail
 |.mapUpdate t m k x=>match o.dst with
  |some _=>.fail
  |none=>(ttq T t).bind λi=>(tev m).bind λm=>(tev k).bind λk=>(tev x).bind λx=>match i.k with
   |.map kt vt=>(ttq T kt).bind λik=>(ttq T vt).bind λiv=>match TU kt,TU vt with
    |some K,some V=>.req (isKey (kU K)&&kOk ik.k (kU K)&&Nat.beq V.size iv.size) ((xb T ik (kU K) k).bind λk=>(pc iv.agg x).bind λcs=>Gz (kU K) V ik iv k cs m)
    |_,_=>.fail
   |_=>.fail
 |.mapEntry t m k=>(ttq T t).bind λi=>(TQ.ofOpt o.dst).bind λd=>(tev m).bind λm=>(tev k).bind λk=>match i.k with
  |.map kt vt=>(ttq T kt).bind λik=>(ttq T vt).bind λiv=>match TU kt,TU vt with
   |some K,some V=>.req (isKey (kU K)&&kOk ik.k (kU K)&&Nat.beq V.size iv.size&&oZ (bu V) iv.zero) ((xb T ik (kU K) k).bind λk=>GD d (kU K) V ik iv k m)
   |_,_=>.fail
  |_=>.fail
 |.entryStore t m st x=>match o.dst with
  |some _=>.fail
  |none=>(ttq T t).bind λi=>(tev m).bind λm=>(tev st).bind λst=>(tev x).bind λx=>match i.k with
   |.map kt vt=>(ttq T kt).bind λik=>(ttq T vt).bind λiv=>match TU kt,TU vt with
    |some K,some V=>.req (isKey (kU K)&&kOk ik.k (kU K)&&Nat.beq V.size iv.size) ((pc iv.agg x).bind λcs=>GE (kU K) V ik iv cs m st)
    |_,_=>.fail
   |_=>.fail
 |.call c=>tcq o c
 |_=>.fail
end
section
variable {T:TypeId->Option TI}{TU:TypeId->Option U}{cq:Oper->Call->Q (List Upd)}{tcq:Oper->Call->TQ (List P3)}
theorem qO(i j:TI) (o:Oper) (src:TypeId) (x:TV):Sim US (pg T i j o src x) (match i.k,j.k with
  |.int _,.int k=>(Q.int x.av).bind λn=>one o.dst (.c (.d (.v (.int k (k.wrap n)))))
  |.str,.str=>match x.av with
   |.c (.d (.v (.string _)))=>one o.dst x.av
   |_=>.fail
  |.slice e,.str=>(tq T e).bind λie=>match ie.k with
   |.int .u8=>match x.av with
    |.c x=>(toD x).bind λy=>(nf y.1).bind λl=>one o.dst (.c (.d (.v (.string ⟨l.toArray⟩))))
    |_=>.fail
   |_=>.fail
  |.str,.slice e=>(tq T e).bind λie=>match ie.k with
   |.int .u8=>match x.av with
    |.c (.d (.v (.string str)))=>.req (str.size<=maxLen) (one o.dst (.c (.d (.sl (str.data.toList.map ec)))))
    |_=>.fail
   |_=>.fail
  |_,_=>.fail):=by
 unfold pg;cases i.k <;> cases j.k <;> try exact Sim.fail
 ·exact Sim.bind (fJ x) λn=>E0 o.dst _
 ·simp only;split
  ·exact E0 o.dst _
  ·exact Sim.fail
 ·refine Sim.bind (C7 T _) λie=>?_;show Sim US _ (match ie.k with
   |.int .u8=>match x.av with
    |.c (.d (.v (.string str)))=>.req (str.size<=maxLen) (one o.dst (.c (.d (.sl (str.data.toList.map ec)))))
    |_=>.fail
   |_=>.fail)
  split
  ·rename_i hk
   try rw[hk]
   split
   ·exact Sim.req (λh=>PN h) λ_=>E0 o.dst (c1 (.sl .byte) _)
   ·exact Sim.fail
  ·exact Sim.fail
 ·refine Sim.bind (C7 T _) λie=>?_;show Sim US _ (match ie.k with
   |.int .u8=>match x.av with
    |.c x=>(toD x).bind λy=>(nf y.1).bind λl=>one o.dst (.c (.d (.v (.string ⟨l.toArray⟩))))
    |_=>.fail
   |_=>.fail)
  split
  ·rename_i hk
   try rw[hk]
   split
   ·rename_i c;refine Sim.bind (gM .byte c) λy=>?_;have e:y.x.map U.byte.enc=List.map ec y.x:=rfl;show Sim US _ ((nf (.sl (y.x.map U.byte.enc))).bind λl=>one o.dst (.c (.d (.v (.string ⟨l.toArray⟩)))));rw[e];show Sim US _ (.req (List.map ec y.x=((List.map ec y.x).map io).map ec) (one o.dst (.c (.d (.v (.string ⟨((List.map ec y.x).map io).toArray⟩))))));have e2:(List.map ec y.x).map io=y.x:=wN y.x;rw[e2];exact Sim.must rfl (E0 o.dst _)
   ·exact Sim.fail
  ·exact Sim.fail
theorem Di(hc:∀o c,o.op= .call c->Sim US (tcq o c) (cq o c)) (o:Oper):Sim US (If T TU tcq o) (opQ T cq o):=by
 unfold If opQ;cases ho:o.op <;> try exact Sim.fail
 case move x=>exact Sim.bind (C5 x) λv=>E0 o.dst v
 case assign x=>exact Sim.bind (C5 x) λv=>E0 o.dst v
 case pick c a b=>exact Sim.bind (C5 c) λc=>Sim.bind (qF c) λc=>Sim.bind (uW a) λa=>Sim.bind (uW b) λb=>Sim.bind (zb c a b) λv=>E0 o.dst v
 case alloc t=>
  refine Sim.bind (C7 T t) λi=>Sim.bind (J7 o.dst) λd=>?_;cases hz:EX (TU t) i.zero with
  |none=>exact Sim.fail
  |some ps=>
   refine Sim.rdB λb=>Sim.ret ?_;have e:=tu hz;show [Upd.b d ⟨b.ver+1,some (i.zero.map S4)⟩,_]=_;rw[<-e];rfl
 case box t x=>exact Sim.bind (J7 o.dst) λd=>Sim.bind (C5 x) λv=>Sim.bind (fK v) λcs=>Sim.rdB λb=>Sim.ret rfl
 case build t parts=>
  refine Sim.bind (C7 T t) λi=>Sim.bind (lF _) λps=>?_;simp only[id];cases i.k <;> try exact Sim.fail
  case struct fs=>
   simp only;cases hz:EX (TU t) i.zero with
   |none=>exact Sim.fail
   |some zs=>
    have e:=tu hz;rw[<-e];exact Sim.bind (jw _ ps zs) λcs=>E0 o.dst (.o (.agg cs))
  case arr n e=>
   refine Sim.bind (C7 T e) λie=>?_;cases hz:EX (TU t) i.zero with
   |none=>exact Sim.fail
   |some zs=>
    have e:=tu hz;rw[<-e];exact Sim.bind (jw _ ps zs) λcs=>E0 o.dst (.o (.agg cs))
 case buildSlice t len parts=>
  refine Sim.bind (C7 T t) λi=>Sim.bind (J7 o.dst) λd=>?_;simp only[id];cases i.k <;> try exact Sim.fail
  case slice e=>
   refine Sim.bind (C7 T e) λie=>?_;cases TU e with
   |none=>exact Sim.fail
   |some u=>
    refine Sim.req (λh=>?_) λh=>?_
    ·simp only[PM]at h;exact PN h.1.1
    ·simp only[PM]at h;have e2:=PL h.1.2;have e3:=eo h.2;refine Sim.bind (lF _) λps=>Sim.bind (vm u ps) λy=>Sim.bind (M5 y.fz) λus=>?_;simp only[id];rw[<-e2,<-e3,iK u,<-Rm];refine Sim.bind (nF u y.x _) λes=>Sim.rdR λr=>Sim.ret ?_;simp only[US,PV,PQ,Qs];rfl
 case load t a=>exact Sim.bind (C7 T t) λi=>Sim.bind (C5 a) λa=>Sim.bind (qJ i a) λv=>E0 o.dst v
 case store t a x=>
  cases o.dst with
  |some d=>exact Sim.fail
  |none=>exact Sim.bind (C7 T t) λi=>Sim.bind (C5 a) λa'=>Sim.bind (C5 x) λx=>Sim.bind (fK x) λcs=>Sim.bind (wU TU t i cs a') λus=>sV i (eb a) a' us
 case nilCheck x=>
  refine Sim.bind (C5 x) λx=>?_;split
  ·refine Sim.rdB λb=>Sim.req (λh=>?_) λ_=>E0 o.dst (.o (.c _));rw[PM]at h;exact⟨PL h.1,by rw[oV];exact h.2⟩
  ·exact E0 o.dst (.o (.c (.ep _ _ _)))
  ·refine Sim.rdR λb=>Sim.req (λh=>?_) λ_=>E0 o.dst (.o (.c _));rw[PM]at h;exact⟨PL h.1,by rw[zl];exact h.2⟩
  ·exact E0 o.dst _
  ·exact E0 o.dst (.o (.c (.clo _ _ _)))
  ·exact Sim.fail
 case binOp op t x y t'=>exact Sim.bind (C7 T t) λi=>Sim.bind (C5 x) λx=>Sim.bind (C5 y) λy=>Sim.bind (CY TU op t i x y) λv=>E0 o.dst v
 case unOp op t x=>exact Sim.bind (C5 x) λx=>Sim.bind (Gl op x) λv=>E0 o.dst v
 case convert src dst x=>exact Sim.bind (C7 T src) λi=>Sim.bind (C7 T dst) λj=>Sim.bind (C5 x) λx=>qO i j o src x
 case slice t x lo hi m=>
  cases m with
  |some m=>exact Sim.fail
  |none=>
   refine Sim.bind (C7 T t) λi=>Sim.bind (C5 x) λx=>Sim.bind (oP lo) λl=>Sim.bind (oP hi) λh=>?_;simp only[id];cases i.k <;> try exact Sim.fail
   case slice e=>
    refine Sim.bind (C7 T e) λie=>?_;cases TU e with
    |none=>exact Sim.fail
    |some u=>
     refine Sim.chk λhu=>?_;have e2:=PL hu;split
     ·refine Sim.bind (J7 o.dst) λd=>?_;simp only[id];cases i.cut&&l.isNone with
      |true=>exact Dc d ie.size u e2 h _
      |false=>
       cases i.cut&&h.isNone with
       |true=>exact Sim.bind (zq ie.size u e2 l _) λv=>E0 o.dst v
       |false=>exact wX d ie.size u e2 l h _
     ·exact Sim.fail
   case str=>exact Sim.bind (tg l h x) λv=>E0 o.dst v
   case arr n e=>
    refine Sim.bind (C7 T e) λie=>?_;simp only[id];cases TU e with
    |none=>exact Sim.fail
    |some u=>exact sX o.dst _ u n ie l h x
 case fieldAddr t x f=>
  refine Sim.bind (C7 T t) λi=>?_;simp only[id];cases i.k <;> try exact Sim.fail
  case struct fs=>exact Sim.bind (J7 _) λp=>Sim.bind (C5 x) λx=>Sim.bind (wV p.1 x) λv=>E0 o.dst v
 case indexAddr t x k=>
  refine Sim.bind (C7 T t) λi=>Sim.bind (C5 x) λx=>Sim.bind (C5 k) λk=>Sim.bind (fJ k) λk=>?_;simp only[id];cases i.k <;> try exact Sim.fail
  case slice e=>exact Sim.bind (C7 T e) λie=>Sim.bind (wW ie.size k x) λv=>E0 o.dst v
  case arr n e=>exact Sim.bind (C7 T e) λie=>Sim.bind (sN _ ie.size k x) λv=>E0 o.dst v
 case index t x k=>
  refine Sim.bind (C7 T t) λi=>Sim.bind (C5 x) λx=>Sim.bind (C5 k) λk=>Sim.bind (fJ k) λk=>?_;simp only[id];cases i.k <;> try exact Sim.fail
  case str=>exact Sim.bind (ta k x) λv=>E0 o.dst v
  case arr n e=>
   refine Sim.bind (C7 T e) λie=>?_;simp only[id];cases TU e with
   |none=>exact Sim.fail
   |some u=>exact Sim.bind (sP u n ie k x) λv=>E0 o.dst v
 case field t x f=>
  refine Sim.bind (C7 T t) λi=>?_;simp only[id];cases i.k <;> try exact Sim.fail
  case struct fs=>exact Sim.bind (J7 _) λp=>Sim.bind (J7 _) λft=>Sim.bind (C7 T ft) λie=>Sim.bind (C5 x) λx=>Sim.bind (sS p.1 ie x) λv=>E0 o.dst v
 case extract x k=>exact Sim.bind (C5 x) λx=>Sim.bind (zF k x) λv=>E0 o.dst v
 case range t x=>exact Sim.bind (C7 T t) λi=>Sim.bind (J7 o.dst) λd=>Sim.bind (C5 x) λx=>xd i.k d x
 case next x b=>
  cases b with
  |true=>exact Sim.bind (J7 o.dst) λd=>Sim.bind (C5 x) λx=>zD d x
  |false=>exact Sim.fail
 case makeFunc fn fs cs=>
  refine Sim.bind (J7 o.dst) λd=>?_;split
  ·rename_i f h1 h2;rw[h1,h2];exact Sim.ret rfl
  ·rename_i f k h1 h2;rw[h1,h2];exact Sim.bind (C5 _) λv=>zn d _ _ v
  ·exact Sim.fail
 case makeInterface t x=>
  refine Sim.bind (C7 T t) λi=>Sim.bind (J7 o.dst) λd=>Sim.bind (C5 x) λx=>?_;split
  ·rename_i c;cases TU t with
   |none=>exact Sim.fail
   |some u=>exact Sim.req (λh=>h) λ_=>Dh t u d c
  ·exact Sim.fail
 case typeAssert x xt t b=>
  cases b with
  |true=>exact Sim.bind (C7 T t) λi=>Sim.bind (C5 x) λx=>Sim.bind (tt i t x) λv=>E0 o.dst v
  |false=>exact Sim.fail
 case makeSlice t l c=>
  refine Sim.bind (C7 T t) λi=>Sim.bind (J7 o.dst) λd=>Sim.bind (C5 l) λl=>Sim.bind (fJ l) λl=>Sim.bind (C5 c) λc=>Sim.bind (fJ c) λc=>?_;simp only[id];cases i.k <;> try exact Sim.fail
  case slice e=>
   refine Sim.bind (C7 T e) λie=>?_;cases TU e with
   |none=>exact Sim.fail
   |some u=>
    refine Sim.chk λh=>Sim.req (λh0=>?_) λ_=>?_
    ·simp only[PM]at h;have h1:=PN h.1.1;have h2:=PN h0;exact⟨h1.1,h2.1,h2.2.1,h2.2.2.1,h2.2.2.2,h1.2⟩
    ·simp only[PM]at h;have e2:=PL h.1.2;have e3:=eo h.2;refine Sim.rdR λr=>Sim.ret ?_;simp only[id];rw[<-e2,<-e3,iK u,<-Rm];rfl
 case makeMap t r=>
  refine Sim.bind (C7 T t) λi=>Sim.bind (J7 o.dst) λd=>Sim.bind (oP r) λ_=>?_;simp only[id];cases i.k <;> try exact Sim.fail
  case map kt vt=>
   refine Sim.bind (C7 T kt) λik=>Sim.bind (C7 T vt) λiv=>?_;cases TU kt with
   |none=>exact Sim.fail
   |some K=>
    cases TU vt with
    |none=>exact Sim.fail
    |some V=>
     refine Sim.chk λh=>?_;rw[PM]at h;refine Sim.rdR λr=>Sim.ret ?_;simp only[id];rw[<-PL h.2,<-pd h.1];rfl
 case lookup t m k ok=>
  refine Sim.bind (C7 T t) λi=>Sim.bind (C5 m) λm=>Sim.bind (C5 k) λk=>?_;simp only[id];cases i.k <;> try exact Sim.fail
  case map kt vt=>
   refine Sim.bind (C7 T kt) λik=>Sim.bind (C7 T vt) λiv=>?_;cases TU kt with
   |none=>exact Sim.fail
   |some K=>
    cases TU vt with
    |none=>exact Sim.fail
    |some V=>
     refine Sim.chk λh=>?_;simp only[PM]at h;refine Sim.bind (kP h.1.1 k) λk=>Sim.bind (zy h.1.1 h.1.2 (eo h.2).symm k m) λp=>?_;have e:=Q0 V p.x;show Sim US _ ((asV iv ((V.enc p.x).map .d)).bind λx=>one o.dst (okV ok x p.b));rw[<-e];exact Sim.bind (ei iv _) λx=>Sim.bind (Df ok x p.b) λv=>E0 o.dst v
 case mapUpdate t m k x=>
  cases o.dst with
  |some d=>exact Sim.fail
  |none=>
   refine Sim.bind (C7 T t) λi=>Sim.bind (C5 m) λm=>Sim.bind (C5 k) λk=>Sim.bind (C5 x) λx=>?_;simp only[id];cases i.k <;> try exact Sim.fail
   case map kt vt=>
    refine Sim.bind (C7 T kt) λik=>Sim.bind (C7 T vt) λiv=>?_;cases TU kt with
    |none=>exact Sim.fail
    |some K=>
     cases TU vt with
     |none=>exact Sim.fail
     |some V=>
      refine Sim.chk λh=>?_;simp only[PM]at h;exact Sim.bind (kP h.1.1 k) λk=>Sim.bind (lL iv.agg x) λcs=>zz h.1.1 h.1.2 (PL h.2) k cs m
 case mapEntry t m k=>
  refine Sim.bind (C7 T t) λi=>Sim.bind (J7 o.dst) λd=>Sim.bind (C5 m) λm=>Sim.bind (C5 k) λk=>?_;simp only[id];cases i.k <;> try exact Sim.fail
  case map kt vt=>
   refine Sim.bind (C7 T kt) λik=>Sim.bind (C7 T vt) λiv=>?_;cases TU kt with
   |none=>exact Sim.fail
   |some K=>
    cases TU vt with
    |none=>exact Sim.fail
    |some V=>
     refine Sim.chk λh=>?_;simp only[PM]at h;exact Sim.bind (kP h.1.1.1 k) λk=>zH h.1.1.1 h.1.1.2 (PL h.1.2) (eo h.2).symm d k m
 case entryStore t m st x=>
  cases o.dst with
  |some d=>exact Sim.fail
  |none=>
   refine Sim.bind (C7 T t) λi=>Sim.bind (C5 m) λm=>Sim.bind (C5 st) λst=>Sim.bind (C5 x) λx=>?_;simp only[id];cases i.k <;> try exact Sim.fail
   case map kt vt=>
    refine Sim.bind (C7 T kt) λik=>Sim.bind (C7 T vt) λiv=>?_;cases TU kt with
    |none=>exact Sim.fail
    |some K=>
     cases TU vt with
     |none=>exact Sim.fail
     |some V=>
      refine Sim.chk λh=>?_;simp only[PM]at h;exact Sim.bind (lL iv.agg x) λcs=>zI h.1.1 h.1.2 (PL h.2) cs m st
 case call c=>exact hc o c ho
end
end Go.Proofs.YthkhcbphbabefaaGreat.Am
