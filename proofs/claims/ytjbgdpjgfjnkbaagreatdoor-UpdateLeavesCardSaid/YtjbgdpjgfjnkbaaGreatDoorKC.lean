/- Texts laid together: TmDefs, TmQ, TmOps, TmOps2, TmEq, TmOps3, TmMaps, TmEnt, TmStr, TmOps4, TmOps5. No conditions. -/
import Derived.Test.YtjbgdpjgfjnkbaaGreatDoorKB
namespace Go.Proofs.YtjbgdpjgfjnkbaaGreatDoor.Am
open Go
inductive U where
 |int (k:IntKind)
 |byte
 |bool
 |str
 |sl (u:U)
 |pr (a b:U)
 |arr (n:Nat) (u:U)
 deriving DecidableEq
def U.den:U->Type
 |.int _=>Int
 |.byte=>UInt8
 |.bool=>Bool
 |.str=>List UInt8
 |.sl u=>List u.den
 |.pr a b=>a.den×b.den
 |.arr n u=>Vector u.den n
def U.size:U->Nat
 |.pr a b=>a.size+b.size
 |.arr n u=>n*u.size
 |_=>1
def U.dflt:(u:U)->u.den
 |.int _=>(0:Int)
 |.byte=>(0:UInt8)
 |.bool=>false
 |.str=>([]:List UInt8)
 |.sl _=>[]
 |.pr a b=>(a.dflt,b.dflt)
 |.arr n u=>Vector.replicate n u.dflt
def U.enc:(u:U)->u.den->List DV
 |.int k,n=>[.v (.int k n)]
 |.byte,x=>[.v (.int .u8 (UInt8.toNat x:Nat))]
 |.bool,b=>[.v (.bool b)]
 |.str,l=>[.v (.string ⟨List.toArray l⟩)]
 |.sl u,l=>[.sl (List.map u.enc l)]
 |.pr a b,x=>a.enc x.1++b.enc x.2
 |.arr _ u,v=>(Vector.toList v).flatMap u.enc
theorem vf{α β:Type}(f:α->List β) (z:Nat):∀(l:List α),(∀x∈l,(f x).length=z)->(l.flatMap f).length=l.length*z
 |[],_=>by simp
 |x::l,h=>by
  rw[a6q,a5K,h x (by simp),vf f z l (λy hy=>h y (by simp[hy])),a54,a6r,a6I]
theorem U.enc_len:(u:U)->(x:u.den)->(u.enc x).length=u.size
 |.int _,_=>rfl
 |.byte,_=>rfl
 |.bool,_=>rfl
 |.str,_=>rfl
 |.sl _,_=>rfl
 |.pr a b,x=>by rw[U.enc,a5K,a.enc_len,b.enc_len];rfl
 |.arr n u,v=>by
  have h:=vf u.enc u.size (Vector.toList v) (λx _=>u.enc_len x);exact h.trans (congrArg (· * u.size) (a6F (xs:=v)))
def Dt(ds:List DV):DV:=ds.headD (.v undef)
theorem Ka{ds:List DV}(h:ds.length=1):[Dt ds]=ds:=by
 match ds,h with
 |[x],_=>rfl
inductive TC where
 |ch (u:U) (x:u.den)
 |nil
 |npt
 |nmap
 |fn (f:FuncId)
 |it (t:TypeId) (u:U) (x:u.den)
 |clo (f:FuncId) (u:U) (x:u.den)
 |row (id ver:Nat)
 |ptr (id ver off:Nat)
 |pa (id ver off:Nat) (z:Nat) (k:Nat)
 |pb (id ver off z k z2 j:Nat)
 |ep (u:U) (x:u.den) (off:Nat)
 |ex (u:U) (x:u.den) (off z k:Nat)
 |rp (id ver:Nat) (i off sz:Nat)
 |junk
def TC.cells:TC->List AC
 |.ch u x=>(u.enc x).map .d
 |.nil=>[.nil]
 |.npt=>[.d (.v (.pointer none))]
 |.nmap=>[.d (.v (.map none))]
 |.fn f=>[.d (.v (.func (.func f) #[] #[]))]
 |.it t u x=>[.d (.it t (Dt (u.enc x)))]
 |.clo f u x=>[.d (.clo f (u.enc x))]
 |.row id ver=>[.row id ver]
 |.ptr id ver off=>[.ptr id ver off]
 |.pa id ver off z k=>[.ptr id ver (off+k*z)]
 |.pb id ver off z k z2 j=>[.ptr id ver (off+k*z+j*z2)]
 |.ep u x off=>[.eptr ((u.enc x).drop off)]
 |.ex u x off z k=>[.eptr ((u.enc x).drop (off+k*z))]
 |.rp id ver i off sz=>[.rptr id ver i off sz]
 |.junk=>[.junk]
def TC.size:TC->Nat
 |.ch u _=>u.size
 |_=>1
theorem TC.cells_len(c:TC):c.cells.length=c.size:=by
 cases c <;> simp only[TC.cells,TC.size,a5X,a54,a6v];exact U.enc_len _ _
def C3:List TC->List AC
 |[]=>[]
 |c::cs=>c.cells++C3 cs
theorem iO:∀(a b:List TC),C3 (a++b)=C3 a++C3 b
 |[],b=>rfl
 |c::a,b=>by rw[a6l,C3,iO a b,C3,a50]
def lf:List AC->AC
 |[x]=>x
 |_=>.junk
inductive T1 where
 |c (x:TC)
 |agg (xs:List TC)
def yi:(K:U)->K.den->Value
 |.int k,n=>.int k n
 |.str,l=>.string ⟨List.toArray l⟩
 |_,_=>undef
inductive TV where
 |o (x:T1)
 |ent (tup:Bool) (id pv:Nat) (K:U) (k:K.den)
 |rtl (id ver i z:Nat)
 |tup (xs:List T1)
 |clo (f id ver:Nat)
 |nx (b:Bool) (x y:TC)
 |any
def T1.av:T1->AV
 |.c x=>.c (lf x.cells)
 |.agg xs=>.agg (C3 xs)
def TV.av:TV->AV
 |.o x=>x.av
 |.tup xs=>.tup (xs.map T1.av)
 |.clo f id ver=>.clo f id ver
 |.ent b id pv K k=>.ent b id pv (yi K k)
 |.rtl id ver i z=>.rtl id ver i z
 |.nx b x y=>.nx b (lf x.cells) (lf y.cells)
 |.any=>.any
structure TGV where
 g:Bool
 x:TV
def TGV.gv(x:TGV):GV:=⟨x.g,x.x.av⟩
structure yF where
 u:U
 l:List u.den
 e:TypeId
 fr:Bool
def yF.row(r:yF):Row:=⟨r.l.map r.u.enc,r.u.size,r.e,r.fr⟩
structure TBS where
 ver:Nat
 c:Option (List TC)
structure TRS where
 ver:Nat
 c:Option yF
def TBS.bs(x:TBS):BS:=⟨x.ver,x.c.map C3⟩
def TRS.rs(x:TRS):RS:=⟨x.ver,x.c.map yF.row⟩
structure TSt where
 n:Nat
 t:Nat->TGV
 b:Nat->TBS
 r:Nat->TRS
def TSt.st(s:TSt):St:=⟨s.n,λk=>(s.t k).gv,λk=>(s.b k).bs,λk=>(s.r k).rs⟩
inductive gT where
 |t (k:Nat) (x:TGV)
 |b (k:Nat) (x:TBS)
 |r (k:Nat) (x:TRS)
def gT.upd:gT->Upd
 |.t k x=>.t k x.gv
 |.b k x=>.b k x.bs
 |.r k x=>.r k x.rs
def TSt.app1(s:TSt):gT->TSt
 |.t k x=>⟨s.n,Am.upd s.t k x,s.b,s.r⟩
 |.b k x=>⟨s.n,s.t,Am.upd s.b k x,s.r⟩
 |.r k x=>⟨s.n,s.t,s.b,Am.upd s.r k x⟩
def TSt.app(s:TSt):List gT->TSt
 |[]=>s
 |u::us=>(s.app1 u).app us
theorem HL{α β:Type}(f:α->β) (g:Nat->α) (k:Nat) (x:α):(λj=>f (Am.upd g k x j))=Am.upd (λj=>f (g j)) k (f x):=by
 funext j;simp only[Am.upd];split <;> rfl
theorem TSt.st_app1(s:TSt) (u:gT):(s.app1 u).st=s.st.app1 u.upd:=by
 cases u <;> simp only[TSt.app1,TSt.st,gT.upd,St.app1,St.setT,St.setB,St.setR]
 ·rw[HL TGV.gv]
 ·rw[HL TBS.bs]
 ·rw[HL TRS.rs]
theorem TSt.st_app:∀(us:List gT) (s:TSt),(s.app us).st=s.st.app (us.map gT.upd)
 |[],s=>rfl
 |u::us,s=>by rw[TSt.app,TSt.st_app us,TSt.st_app1];rfl
inductive TQ (α:Type):Type 1 where
 |ret (a:α)
 |rdT (k:Nat) (f:TGV->TQ α)
 |rdB (k:Nat) (f:TBS->TQ α)
 |rdR (k:Nat) (f:TRS->TQ α)
 |req (b:Bool) (q:TQ α)
 |call {β:Type} (o:Option β) (f:β->TQ α)
 |fail
def TQ.bind{α β:Type}:TQ α->(α->TQ β)->TQ β
 |.ret a,f=>f a
 |.rdT k g,f=>.rdT k λx=>(g x).bind f
 |.rdB k g,f=>.rdB k λx=>(g x).bind f
 |.rdR k g,f=>.rdR k λx=>(g x).bind f
 |.req p q,f=>.req p (q.bind f)
 |.call o g,f=>.call o λx=>(g x).bind f
 |.fail,_=>.fail
def TQ.wpt{α:Type}:TQ α->TSt->List aQ->(α->List aQ->Prop)->Prop
 |.ret a,_,tr,K=>K a tr
 |.rdT k f,s,tr,K=>(f (s.t k)).wpt s (.t k::tr) K
 |.rdB k f,s,tr,K=>(f (s.b k)).wpt s (.b k::tr) K
 |.rdR k f,s,tr,K=>(f (s.r k)).wpt s (.r k::tr) K
 |.req b q,s,tr,K=>b=true/\q.wpt s tr K
 |.call o f,s,tr,K=>∃x,o=some x/\(f x).wpt s tr K
 |.fail,_,_,_=>False
theorem TQ.wpt_bind{α β:Type}(q:TQ α) (f:α->TQ β) (s:TSt) (tr:List aQ) (K:β->List aQ->Prop):(q.bind f).wpt s tr K↔q.wpt s tr λa rs=>(f a).wpt s rs K:=by
 induction q generalizing tr with
 |ret a=>rfl
 |rdT k g ih=>exact ih _ _
 |rdB k g ih=>exact ih _ _
 |rdR k g ih=>exact ih _ _
 |req p q ih=>exact and_congr Iff.rfl (ih _)
 |call o g ih=>exact exists_congr λx=>and_congr Iff.rfl (ih x _)
 |fail=>rfl
theorem Q.wpt_bind{α β:Type}(q:Q α) (f:α->Q β) (s:St) (tr:List aQ) (K:β->List aQ->Prop):(q.bind f).wpt s tr K↔q.wpt s tr λa rs=>(f a).wpt s rs K:=by
 induction q generalizing tr with
 |ret a=>rfl
 |rdT k g ih=>exact ih _ _
 |rdB k g ih=>exact ih _ _
 |rdR k g ih=>exact ih _ _
 |req p q ih=>exact and_congr Iff.rfl (ih _)
 |fail=>rfl
theorem Q.wpt_mono{α:Type}{q:Q α}{s:St}{K K':α->List aQ->Prop}:∀{tr:List aQ},q.wpt s tr K->(∀a rs,K a rs->K' a rs)->q.wpt s tr K':=by
 induction q with
 |ret a=>exact λh hk=>hk _ _ h
 |rdT k g ih=>exact λh hk=>ih _ h hk
 |rdB k g ih=>exact λh hk=>ih _ h hk
 |rdR k g ih=>exact λh hk=>ih _ h hk
 |req p q ih=>exact λh hk=>⟨h.1,ih h.2 hk⟩
 |fail=>exact λh hk=>h.elim
theorem Q.wp_of_wpt{α:Type}{q:Q α}{s:St}{K:α->Prop}:∀{tr:List aQ},(q.wpt s tr λa _=>K a)->q.wp s K:=by
 induction q with
 |ret a=>exact λh=>h
 |rdT k g ih=>exact λh=>ih _ h
 |rdB k g ih=>exact λh=>ih _ h
 |rdR k g ih=>exact λh=>ih _ h
 |req p q ih=>exact λh=>⟨h.1,ih h.2⟩
 |fail=>exact λh=>h
def Sim{α β:Type}(f:α->β) (q':TQ α) (q:Q β):Prop:=∀(s:TSt) (tr:List aQ) (K:α->List aQ->Prop),q'.wpt s tr K->q.wpt s.st tr λb rs=>∃a,b=f a/\K a rs
section
variable {α β γ δ:Type}{f:α->β}{g:γ->δ}
theorem Sim.ret{a:α}{b:β}(h:b=f a):Sim f (.ret a) (.ret b):=λ_ _ _ hk=>⟨a,h,hk⟩
theorem Sim.rdT{k:Nat}{q':TGV->TQ α}{q:GV->Q β}(h:∀x,Sim f (q' x) (q x.gv)):Sim f (.rdT k q') (.rdT k q):=λs _ _ hk=>h (s.t k) s _ _ hk
theorem Sim.rdB{k:Nat}{q':TBS->TQ α}{q:BS->Q β}(h:∀x,Sim f (q' x) (q x.bs)):Sim f (.rdB k q') (.rdB k q):=λs _ _ hk=>h (s.b k) s _ _ hk
theorem Sim.rdR{k:Nat}{q':TRS->TQ α}{q:RS->Q β}(h:∀x,Sim f (q' x) (q x.rs)):Sim f (.rdR k q') (.rdR k q):=λs _ _ hk=>h (s.r k) s _ _ hk
theorem Sim.req{b:Bool}{p:Prop}{q':TQ α}{q:Q β}(hp:b=true->p) (h:b=true->Sim f q' q):Sim f (.req b q') (.req p q):=λs tr K hk=>⟨hp hk.1,h hk.1 s tr K hk.2⟩
theorem Sim.chk{b:Bool}{q':TQ α}{q:Q β}(h:b=true->Sim f q' q):Sim f (.req b q') q:=λs tr K hk=>h hk.1 s tr K hk.2
theorem Sim.must{p:Prop}{q':TQ α}{q:Q β}(hp:p) (h:Sim f q' q):Sim f q' (.req p q):=λs tr K hk=>⟨hp,h s tr K hk⟩
theorem Sim.fail{q:Q β}:Sim f .fail q:=λ_ _ _ hk=>hk.elim
theorem Sim.bind{q':TQ α}{q:Q β}{k':α->TQ γ}{k:β->Q δ}(h:Sim f q' q) (hk:∀a,Sim g (k' a) (k (f a))):Sim g (q'.bind k') (q.bind k):=λs tr K hK=>by
 rw[TQ.wpt_bind]at hK;rw[Q.wpt_bind];refine Q.wpt_mono (h s tr _ hK) ?_;rintro b rs ⟨a,rfl,h1⟩;exact hk a s rs K h1
end
def chk{α:Type}(b:Bool) (k:Option α):Option α:=match b with
 |true=>k
 |false=>none
def TQ.run{α R:Type}:TQ α->TSt->List aQ->(α->List aQ->Option R)->Option R
 |.ret a,_,tr,K=>K a tr
 |.rdT k f,s,tr,K=>(f (s.t k)).run s (.t k::tr) K
 |.rdB k f,s,tr,K=>(f (s.b k)).run s (.b k::tr) K
 |.rdR k f,s,tr,K=>(f (s.r k)).run s (.r k::tr) K
 |.req b q,s,tr,K=>Am.chk b (q.run s tr K)
 |.call o f,s,tr,K=>o.bind λx=>(f x).run s tr K
 |.fail,_,_,_=>none
theorem jL{α:Type}{b:Bool}{k:Option α}{r:α}(h:chk b k=some r):b=true/\k=some r:=by
 cases b
 ·cases h
 ·exact⟨rfl,h⟩
theorem TQ.run_wpt{α R:Type}{r:R}{s:TSt}{K:α->List aQ->Option R}{q:TQ α}:∀{tr:List aQ},q.run s tr K=some r->q.wpt s tr λa rs=>K a rs=some r:=by
 induction q with
 |ret a=>exact λh=>h
 |rdT k f ih=>exact λh=>ih _ h
 |rdB k f ih=>exact λh=>ih _ h
 |rdR k f ih=>exact λh=>ih _ h
 |req b q ih=>exact λh=>⟨(jL h).1,ih (jL h).2⟩
 |call o f ih=>
  intro tr h;simp only[TQ.run,a7m]at h;obtain⟨x,h1,h2⟩:=h;exact⟨x,h1,ih x h2⟩
 |fail=>intro tr h;cases h
def qK{u v:U}(h:u=v) (x:u.den):v.den:=h▸x
theorem tT{u v:U}(h:u=v) (x:u.den):v.enc (qK h x)=u.enc x:=by subst h;rfl
def L0{α:Type}{n:Nat}(v:Vector α n) (i:Nat) (d:α):α:=v.toList.getD i d
theorem OS{α:Type}{n:Nat}(v:Vector α n) (d:α):(List.range n).map (λi=>L0 v i d)=v.toList:=by
 refine List.ext_getElem (by simp) λi h1 h2=>?_;have:i<n:=by simpa using h1
 simp[this,L0]
def a3k{n:Nat}{u:U}(v:Vector u.den n) (i:Nat):TC:=.ch u (L0 v i u.dflt)
def zZ:(u:U)->u.den->List TC
 |.pr a b,x=>.ch a x.1::zZ b x.2
 |.arr n u,x=>[.ch (.arr n u) x]
 |.int k,x=>[.ch (.int k) x]
 |.byte,x=>[.ch .byte x]
 |.bool,x=>[.ch .bool x]
 |.str,x=>[.ch .str x]
 |.sl u,x=>[.ch (.sl u) x]
def wm:(u:U)->u.den->List TC
 |.pr a b,x=>.ch a x.1::zZ b x.2
 |.arr n _,v=>(List.range n).map λi=>a3k v i
 |.int k,x=>[.ch (.int k) x]
 |.byte,x=>[.ch .byte x]
 |.bool,x=>[.ch .bool x]
 |.str,x=>[.ch .str x]
 |.sl u,x=>[.ch (.sl u) x]
theorem wn(u:U):∀(l:List u.den),C3 (l.map (TC.ch u))=(l.flatMap u.enc).map .d
 |[]=>rfl
 |x::l=>by rw[a55,C3,wn u l,a6q,a53];rfl
theorem yj:∀(u:U) (x:u.den),C3 (zZ u x)=(u.enc x).map .d
 |.pr a b,x=>by
  show TC.cells (.ch a x.1)++C3 (zZ b x.2)=((a.enc x.1)++b.enc x.2).map .d;rw[yj b,a53];rfl
 |.arr _ _,_=>by simp only[zZ,C3,TC.cells,a5Z]
 |.int _,_=>by simp only[zZ,C3,TC.cells,a5Z]
 |.byte,_=>by simp only[zZ,C3,TC.cells,a5Z]
 |.bool,_=>by simp only[zZ,C3,TC.cells,a5Z]
 |.str,_=>by simp only[zZ,C3,TC.cells,a5Z]
 |.sl _,_=>by simp only[zZ,C3,TC.cells,a5Z]
theorem rC:∀(u:U) (x:u.den),C3 (wm u x)=(u.enc x).map .d
 |.pr a b,x=>by
  show TC.cells (.ch a x.1)++C3 (zZ b x.2)=((a.enc x.1)++b.enc x.2).map .d;rw[yj b,a53];rfl
 |.arr n u,v=>by
  have h:(List.range n).map (λi=>a3k (u:=u) v i)=(Vector.toList v).map (TC.ch u):=by
   have:=congrArg (List.map (TC.ch u)) (OS (n:=n) (α:=u.den) v u.dflt);rw[a7v]at this;exact this
  show C3 ((List.range n).map (λi=>a3k (u:=u) v i))=_;rw[h,wn];rfl
 |.int _,_=>by simp only[wm,C3,TC.cells,a5Z]
 |.byte,_=>by simp only[wm,C3,TC.cells,a5Z]
 |.bool,_=>by simp only[wm,C3,TC.cells,a5Z]
 |.str,_=>by simp only[wm,C3,TC.cells,a5Z]
 |.sl _,_=>by simp only[wm,C3,TC.cells,a5Z]
def big:U->Bool
 |.pr _ _=>true
 |.arr _ _=>true
 |_=>false
def HM:Nat->Nat->List TC->Option (List TC)
 |0,_,_=>none
 |f+1,k,ps=>match k,ps with
  |0,ps=>some ps
  |_+1,[]=>none
  |k+1,p::ps=>match Nat.ble p.size (k+1) with
   |true=>HM f (k+1-p.size) ps
   |false=>match p with
    |.ch u x=>match big u with
     |true=>HM f (k+1) (wm u x++ps)
     |false=>none
    |_=>none
def HN:Nat->Nat->List TC->Option (List TC)
 |0,_,_=>none
 |f+1,k,ps=>match k,ps with
  |0,_=>some []
  |_+1,[]=>none
  |k+1,p::ps=>match Nat.ble p.size (k+1) with
   |true=>(HN f (k+1-p.size) ps).map (p :: ·)
   |false=>match p with
    |.ch u x=>match big u with
     |true=>HN f (k+1) (wm u x++ps)
     |false=>none
    |_=>none
theorem wo:∀{f k:Nat}{ps qs:List TC},HM f k ps=some qs->C3 qs=(C3 ps).drop k/\k<=(C3 ps).length
 |0,_,_,_,h=>by cases h
 |f+1,k,ps,qs,h=>by
  unfold HM at h;split at h
  ·injection h with h;subst h;simp
  ·cases h
  ·rename_i k p ps;split at h
   ·rename_i hb;have hb':=a58 hb;obtain⟨h1,h2⟩:=wo h;have hp:=TC.cells_len p;rw[C3,h1,a71,a6X (as:=p.cells) (by rw[hp];exact hb'),hp];refine⟨rfl,?_⟩;rw[a5K,hp];omega
   ·split at h
    ·rename_i u x _;split at h
     ·obtain⟨h1,h2⟩:=wo h;rw[iO,rC]at h1 h2;exact⟨h1,h2⟩
     ·cases h
    ·cases h
theorem wq:∀{f k:Nat}{ps qs:List TC},HN f k ps=some qs->C3 qs=(C3 ps).take k/\(C3 qs).length=k
 |0,_,_,_,h=>by cases h
 |f+1,k,ps,qs,h=>by
  unfold HN at h;split at h
  ·injection h with h;subst h;simp[C3]
  ·cases h
  ·rename_i k p ps;split at h
   ·rename_i hb;have hb':=a58 hb;rw[a6Y]at h;obtain⟨q,h0,rfl⟩:=h;obtain⟨h1,h2⟩:=wq h0;have hp:=TC.cells_len p;rw[C3,C3,h1,a7o,a6u (l:=p.cells) (by rw[hp];exact hb'),hp];refine⟨rfl,?_⟩;rw[<-h1,a5K,hp,h2];omega
   ·split at h
    ·rename_i u x _;split at h
     ·obtain⟨h1,h2⟩:=wq h;rw[iO,rC]at h1;exact⟨h1,h2⟩
     ·cases h
    ·cases h
def FU:Nat:=1000
def Wy(k n:Nat) (ps:List TC):Option (List TC):=(HM FU k ps).bind λqs=>HN FU n qs
theorem OU{k n:Nat}{ps qs:List TC}(h:Wy k n ps=some qs):C3 qs=((C3 ps).drop k).take n/\k+n<=(C3 ps).length:=by
 unfold Wy at h;rw[a7m]at h;obtain⟨q,h1,h2⟩:=h;obtain⟨a1,a2⟩:=wo h1;obtain⟨b1,b2⟩:=wq h2;rw[a1]at b1;refine⟨b1,?_⟩;rw[b1,a5T,a5Y]at b2;omega
def OV:List TC->Nat
 |[]=>0
 |p::ps=>p.size+OV ps
theorem wr:∀(ps:List TC),(C3 ps).length=OV ps
 |[]=>rfl
 |p::ps=>by rw[C3,a5K,TC.cells_len,wr ps];rfl
def ZE(ps:List TC) (k:Nat) (xs:List TC):Option (List TC):=(HN FU k ps).bind λa=>(HM FU (k+OV xs) ps).map λb=>a++xs++b
theorem OW{ps qs xs:List TC}{k:Nat}(h:ZE ps k xs=some qs):C3 qs=setAt (C3 ps) k (C3 xs)/\k+(C3 xs).length<=(C3 ps).length:=by
 unfold ZE at h;simp only[a7m,a6Y]at h;obtain⟨a,h1,b,h2,rfl⟩:=h;obtain⟨a1,a2⟩:=wq h1;obtain⟨b1,b2⟩:=wo h2;rw[iO,iO,a1,b1,wr];refine⟨?_,b2⟩;unfold setAt;rw[wr]
structure Pk (α:Type) where
 x:α
 rest:List TC
 fz:List Nat
def TQ.ofOpt{α:Type}:Option α->TQ α
 |some a=>.ret a
 |none=>.fail
def Tw{α:Type}(p:List TC->TQ (Pk α)):(n:Nat)->List TC->TQ (Pk (Vector α n))
 |0,ps=>.ret ⟨#v[],ps,[]⟩
 |n+1,ps=>(Tw p n ps).bind λa=>(p a.rest).bind λb=>.ret ⟨a.x.push b.x,b.rest,a.fz++b.fz⟩
def XV(n:Int) (rest:List TC):TQ (Pk UInt8):=.req (decide (0<=n/\n<256)) (.ret ⟨UInt8.ofNat n.toNat,rest,[]⟩)
def XW:(u:U)->u.den->List TC->TQ (Pk UInt8)
 |.byte,x,rest=>.ret ⟨x,rest,[]⟩
 |.int k,n,rest=>match decEq k IntKind.u8 with
  |.isTrue _=>XV n rest
  |.isFalse _=>.fail
 |_,_,_=>.fail
def Aa:List TC->Option (Sigma U.den×List TC)
 |.ch u x::rest=>match big u with
  |true=>some (⟨u,x⟩,rest)
  |false=>none
 |_=>none
theorem xu{ps rest:List TC}{c:Sigma U.den}(h:Aa ps=some (c,rest)):ps= .ch c.1 c.2::rest:=by
 unfold Aa at h;split at h
 ·split at h
  ·injection h with h;injection h with h1 h2;subst h1;subst h2;rfl
  ·cases h
 ·cases h
def Kb(u:U) (ps:List TC) (q:TQ (Pk u.den)):TQ (Pk u.den):=match Aa ps with
 |some c=>match decEq c.1.1 u with
  |.isTrue h=>.ret ⟨qK h c.1.2,c.2,[]⟩
  |.isFalse _=>q
 |none=>q
def SB:(u:U)->List TC->TQ (Pk u.den)
 |.int k,ps=>match ps with
  |.ch (.int k') n::rest=>match decEq k' k with
   |.isTrue _=>.ret ⟨n,rest,[]⟩
   |.isFalse _=>.fail
  |.ch .byte x::rest=>match decEq IntKind.u8 k with
   |.isTrue _=>.ret ⟨((UInt8.toNat x:Nat):Int),rest,[]⟩
   |.isFalse _=>.fail
  |_=>.fail
 |.byte,ps=>match ps with
  |.ch u x::rest=>XW u x rest
  |_=>.fail
 |.bool,ps=>match ps with
  |.ch .bool x::rest=>.ret ⟨x,rest,[]⟩
  |_=>.fail
 |.str,ps=>match ps with
  |.ch .str x::rest=>.ret ⟨x,rest,[]⟩
  |_=>.fail
 |.sl u,ps=>match ps with
  |.ch (.sl v) x::rest=>match decEq v u with
   |.isTrue h=>.ret ⟨(h▸x:List u.den),rest,[]⟩
   |.isFalse _=>.fail
  |.nil::rest=>.ret ⟨([]:List u.den),rest,[]⟩
  |.row id ver::rest=>.rdR id λr=>match r.c with
   |some R=>match decEq R.u u with
    |.isTrue h=>.req (decide (ver=r.ver/\R.e<jn)) (.ret ⟨(h▸R.l:List u.den),rest,[id]⟩)
    |.isFalse _=>.fail
   |none=>.fail
  |_=>.fail
 |.pr a b,ps=>Kb (.pr a b) ps <| (SB a ps).bind λp=>(SB b p.rest).bind λq=>.ret ⟨(p.x,q.x),q.rest,p.fz++q.fz⟩
 |.arr n u,ps=>Kb (.arr n u) ps (Tw (SB u) n ps)
theorem Du{s:St}{K:List DV×List Nat->List aQ->Prop}:∀(a b:List AC){tr:List aQ},((ur a).wpt s tr λd rs=>(ur b).wpt s rs λe rs'=>K (d.1++e.1,d.2++e.2) rs')->(ur (a++b)).wpt s tr K
 |[],b,tr,h=>by
  simpa only[ur,Q.wpt,a6w]using h
 |x::a,b,tr,h=>by
  simp only[a6l,ur,Q.wpt_bind,Q.wpt]at h⊢;refine Q.wpt_mono h λd rs h1=>?_;refine Du a b (Q.wpt_mono h1 λe rs' h2=>?_);refine Q.wpt_mono h2 λg rs'' h3=>?_;simpa only[a6l,a50]using h3
theorem HO(s:St){tr:List aQ}{K:List DV×List Nat->List aQ->Prop}:∀{ds:List DV},K (ds,[]) tr->(ur (ds.map .d)).wpt s tr K
 |[],h=>h
 |d::ds,h=>by
  simp only[a55,ur,Q.wpt_bind,Q.wpt,toD];exact HO s (ds:=ds) (K:=λe rs=>K (d::e.1,[]++e.2) rs) h
def NN{α:Type}(f:α->List DV) (p:List TC->TQ (Pk α)):Prop:=∀(ps:List TC) (s:TSt) (tr:List aQ) (K:Pk α->List aQ->Prop),(p ps).wpt s tr K->
 ∃pre k rs,C3 ps=pre++C3 k.rest/\K k rs/\(ur pre).wpt s.st tr λd rs'=>d=(f k.x,k.fz)/\rs'=rs
theorem Kc{α:Type}{f:α->List DV}{p:List TC->TQ (Pk α)}(hp:NN f p):∀(n:Nat),NN (λv:Vector α n=>v.toList.flatMap f) (Tw p n)
 |0,ps,s,tr,K,h=>⟨[],_,tr,rfl,h,rfl,rfl⟩
 |n+1,ps,s,tr,K,h=>by
  simp only[Tw,TQ.wpt_bind]at h;obtain⟨pre1,k1,rs1,e1,h,d1⟩:=Kc hp n ps s tr _ h;obtain⟨pre2,k2,rs2,e2,h,d2⟩:=hp _ s rs1 _ h;refine⟨pre1++pre2,_,rs2,?_,h,Du _ _ (Q.wpt_mono d1 ?_)⟩
  ·rw[e1,e2,a50]
  ·rintro d rs ⟨rfl,rfl⟩;refine Q.wpt_mono d2 ?_;rintro d rs ⟨rfl,rfl⟩;simp[a8g]
theorem NN.ch{u:U}{x:u.den}{α:Type}{f:α->List DV}{y:α}{ps rest:List TC}{s:TSt}{tr:List aQ}{K:Pk α->List aQ->Prop}(hps:ps= .ch u x::rest) (h:K ⟨y,rest,[]⟩ tr) (e:f y=u.enc x) :
  ∃pre k rs,C3 ps=pre++C3 k.rest/\K k rs/\(ur pre).wpt s.st tr λd rs'=>d=(f k.x,k.fz)/\rs'=rs:=
 ⟨(u.enc x).map .d,_,tr,by rw[hps];rfl,h,HO _ ⟨by rw[e],rfl⟩⟩
theorem ofNat_toNat{n:Int}(h0:0<=n) (h:n<256):((UInt8.toNat (UInt8.ofNat n.toNat):Nat):Int)=n:=by
 have:n.toNat<256:=by omega
 have h2:(UInt8.ofNat n.toNat).toNat=n.toNat:=UInt8.toNat_ofNat_of_lt' this;rw[h2];omega
theorem Kd{n:Int}(h:decide (0<=n/\n<256)=true):[DV.v (.int .u8 ((UInt8.toNat (UInt8.ofNat n.toNat):Nat):Int))]=[DV.v (.int .u8 n)]:=by
 have h1:=a5P h;rw[ofNat_toNat h1.1 h1.2]
theorem Fq{u:U}{ps:List TC}{q:TQ (Pk u.den)}{s:TSt}{tr:List aQ}{K:Pk u.den->List aQ->Prop}(hq:q.wpt s tr K->∃pre k rs,C3 ps=pre++C3 k.rest/\K k rs/\(ur pre).wpt s.st tr λd rs'=>d=(u.enc k.x,k.fz)/\rs'=rs)
  (h:(Kb u ps q).wpt s tr K):∃pre k rs,C3 ps=pre++C3 k.rest/\K k rs/\(ur pre).wpt s.st tr λd rs'=>d=(u.enc k.x,k.fz)/\rs'=rs:=by
 unfold Kb at h;split at h
 ·rename_i c hc;split at h
  ·rename_i hk _;exact NN.ch (xu hc) h (tT hk _)
  ·exact hq h
 ·exact hq h
theorem Ab:∀(u:U),NN u.enc (SB u)
 |.int k,ps,s,tr,K,h=>by
  unfold SB at h;split at h
  ·split at h
   ·rename_i hk _;subst hk;exact NN.ch rfl h rfl
   ·exact h.elim
  ·split at h
   ·rename_i hk _;subst hk;exact NN.ch rfl h rfl
   ·exact h.elim
  ·exact h.elim
 |.byte,ps,s,tr,K,h=>by
  cases ps with
  |nil=>exact h.elim
  |cons p rest=>
   cases p with
   |ch u x=>
    replace h:(XW u x rest).wpt s tr K:=h
    cases u with
    |byte=>exact NN.ch rfl h rfl
    |int k=>
     unfold XW at h;simp only at h;split at h
     ·rename_i hk _;subst hk;obtain⟨h1,h2⟩:=h;exact NN.ch (u:=.int .u8) rfl h2 (Kd (n:=x) h1)
     ·exact h.elim
    |_=>exact h.elim
   |_=>exact h.elim
 |.bool,ps,s,tr,K,h=>by
  unfold SB at h;split at h
  ·exact NN.ch rfl h rfl
  ·exact h.elim
 |.str,ps,s,tr,K,h=>by
  unfold SB at h;split at h
  ·exact NN.ch rfl h rfl
  ·exact h.elim
 |.sl u,ps,s,tr,K,h=>by
  unfold SB at h;split at h
  ·split at h
   ·rename_i hk _;subst hk;exact NN.ch rfl h rfl
   ·exact h.elim
  ·exact⟨[.nil],_,tr,rfl,h,rfl,rfl⟩
  ·rename_i id ver rest;simp only[TQ.wpt]at h;split at h
   ·rename_i R hR;split at h
    ·rename_i hk _;obtain⟨h1,h2⟩:=h;rw[a5M]at h1;refine⟨[.row id ver],_,_,rfl,h2,?_⟩;have hc:(s.st.r id).c=some R.row:=by show(s.r id).c.map yF.row=_;rw[hR];rfl
     simp only[ur,toD,Q.bind,Q.wpt];rw[hc];refine⟨h1,?_,rfl⟩;subst hk;rfl
    ·exact h.elim
   ·exact h.elim
  ·exact h.elim
 |.pr a b,ps,s,tr,K,h=>Fq (by
   intro h;simp only[TQ.wpt_bind]at h;obtain⟨pre1,k1,rs1,e1,h,d1⟩:=Ab a _ s tr _ h;obtain⟨pre2,k2,rs2,e2,h,d2⟩:=Ab b _ s rs1 _ h;refine⟨pre1++pre2,_,rs2,by rw[e1,e2,a50],h,Du _ _ (Q.wpt_mono d1 ?_)⟩;rintro d rs ⟨rfl,rfl⟩;refine Q.wpt_mono d2 ?_;rintro d rs ⟨rfl,rfl⟩;exact⟨rfl,rfl⟩) h
 |.arr n u,ps,s,tr,K,h=>Fq (Kc (Ab u) n _ s tr K) h
structure Pa (α:Type) where
 x:α
 fz:List Nat
def rD(u:U) (ps:List TC):TQ (Pa u.den):=(SB u ps).bind λp=>.req p.rest.isEmpty (.ret ⟨p.x,p.fz⟩)
theorem lg(u:U) (ps:List TC):Sim (λp:Pa u.den=>(u.enc p.x,p.fz)) (rD u ps) (ur (C3 ps)):=λs tr K h=>by
 unfold rD at h;rw[TQ.wpt_bind]at h;obtain⟨pre,k,rs,e,h,d⟩:=Ab u ps s tr _ h;obtain⟨h1,h2⟩:=h;rw[List.isEmpty_iff]at h1;rw[h1,C3,a5Z]at e;rw[e];refine Q.wpt_mono d ?_;rintro d rs ⟨rfl,rfl⟩;exact⟨_,rfl,h2⟩
def US:List gT->List Upd:=List.map gT.upd
def a2W(d:Option Nat) (x:TV):List gT:=match d with
 |some d=>[.t d ⟨true,x⟩]
 |none=>[]
def vg(d:Option Nat) (x:TV):TQ (List gT):=.ret (a2W d x)
theorem O0(d:Option Nat) (x:TV):Sim US (vg d x) (one d x.av):=Sim.ret (by cases d <;> rfl)
theorem Ft{α β:Type}{f:α->β}{o':Option α}{o:Option β}(h:∀a,o'=some a->o=some (f a)):Sim f (TQ.ofOpt o') (Q.ofOpt o):=by
 cases o' with
 |none=>exact Sim.fail
 |some a=>rw[h a rfl];exact Sim.ret rfl
theorem bz{α:Type}(o:Option α):Sim id (TQ.ofOpt o) (Q.ofOpt o):=Ft λ_ h=>h
def Mr:Value->Option TC
 |.int k n=>some (.ch (.int k) n)
 |.bool b=>some (.ch .bool b)
 |.string s=>some (.ch .str s.data.toList)
 |.slice none 0 0=>some .nil
 |.pointer none=>some .npt
 |.map none=>some .nmap
 |.func (.func f) xs ys=>match xs.toList,ys.toList with
  |[],[]=>some (.fn f)
  |_,_=>none
 |_=>none
theorem Dv{v:Value}{c:TC}(h:Mr v=some c):c.cells=[iG v]/\v.oneCell'=true/\uO v= .c (iG v):=by
 unfold Mr at h;split at h
 ·injection h with h;subst h;exact⟨rfl,rfl,rfl⟩
 ·injection h with h;subst h;exact⟨rfl,rfl,rfl⟩
 ·rename_i s;injection h with h;subst h;refine⟨?_,rfl,rfl⟩;show [AC.d (.v (.string ⟨s.data.toList.toArray⟩))]=[AC.d (.v (.string s))];rw[Array.toArray_toList]
 ·injection h with h;subst h;exact⟨rfl,rfl,rfl⟩
 ·injection h with h;subst h;exact⟨rfl,rfl,rfl⟩
 ·injection h with h;subst h;exact⟨rfl,rfl,rfl⟩
 ·rename_i f xs ys;split at h
  ·rename_i hx hy;injection h with h;subst h;have ex:xs= #[]:=by cases xs;simp only at hx;subst hx;rfl
   have ey:ys= #[]:=by cases ys;simp only at hy;subst hy;rfl
   subst ex;subst ey;exact⟨rfl,rfl,rfl⟩
  ·cases h
 ·cases h
def Ac:List Value->Option (List TC)
 |[]=>some []
 |v::vs=>(Mr v).bind λc=>(Ac vs).map (c :: ·)
theorem xw:∀{vs:List Value}{cs:List TC},Ac vs=some cs->C3 cs=vs.map iG/\(vs.all Value.oneCell')=true
 |[],cs,h=>by injection h with h;subst h;exact⟨rfl,rfl⟩
 |v::vs,cs,h=>by
  simp only[Ac,a7m,a6Y]at h;obtain⟨c,h1,ds,h2,rfl⟩:=h;obtain⟨a1,a2,_⟩:=Dv h1;obtain⟨b1,b2⟩:=xw h2;exact⟨by rw[C3,a1,b1];rfl,by rw[a61,a2,b2];rfl⟩
def yk:Value->Option TV
 |.agg cs=>(Ac cs.toList).map λps=>.o (.agg ps)
 |v=>(Mr v).map λc=>.o (.c c)
theorem Fv{v:Value}{x:TV}(h:yk v=some x):uO v=x.av:=by
 unfold yk at h;split at h
 ·rename_i cs;rw[a6Y]at h;obtain⟨ps,h1,rfl⟩:=h;obtain⟨b1,b2⟩:=xw h1;simp only[uO,b2,a6x,TV.av,T1.av,b1]
 ·rw[a6Y]at h;obtain⟨c,h1,rfl⟩:=h;obtain⟨a1,_,a3⟩:=Dv h1;rw[a3];simp only[TV.av,T1.av,a1,lf]
def tev:Operand->TQ TV
 |.tmp k=>.rdT k λx=>.req x.g (.ret x.x)
 |.const v=>.ofOpt (yk v)
 |.func f=>.ret (.o (.c (.fn f)))
 |.global _=>.fail
theorem K4:(x:Operand)->Sim TV.av (tev x) (ev x)
 |.tmp k=>Sim.rdT λx=>Sim.req id λ_=>Sim.ret rfl
 |.const v=>by
  show Sim TV.av (TQ.ofOpt (yk v)) (.ret (uO v));cases h:yk v with
  |none=>exact Sim.fail
  |some x=>exact Sim.ret (Fv h)
 |.func f=>Sim.ret rfl
 |.global _=>Sim.fail
def a0w:List Operand->TQ (List TV)
 |[]=>.ret []
 |x::xs=>(tev x).bind λv=>(a0w xs).bind λvs=>.ret (v::vs)
theorem za:(xs:List Operand)->Sim (List.map TV.av) (a0w xs) (evs xs)
 |[]=>Sim.ret rfl
 |x::xs=>Sim.bind (K4 x) λ_v=>Sim.bind (za xs) λ_vs=>Sim.ret rfl
def pav(p:Nat×TV):Nat×AV:=(p.1,p.2.av)
def Tx:List (Nat×Operand)->TQ (List (Nat×TV))
 |[]=>.ret []
 |p::xs=>(tev p.2).bind λv=>(Tx xs).bind λvs=>.ret ((p.1,v)::vs)
theorem Ad:(xs:List (Nat×Operand))->Sim (List.map pav) (Tx xs) (Wj xs)
 |[]=>Sim.ret rfl
 |p::xs=>Sim.bind (K4 p.2) λ_v=>Sim.bind (Ad xs) λ_vs=>Sim.ret rfl
def Wz:TV->TQ Int
 |.o (.c (.ch (.int _) n))=>.ret n
 |.o (.c (.ch .byte x))=>.ret ((UInt8.toNat x:Nat):Int)
 |_=>.fail
theorem tV(x:TV):Sim id (Wz x) (Q.int x.av):=by
 unfold Wz;split
 ·exact Sim.ret rfl
 ·exact Sim.ret rfl
 ·exact Sim.fail
def Ty:TV->TQ Bool
 |.o (.c (.ch .bool b))=>.ret b
 |_=>.fail
theorem Fw(x:TV):Sim id (Ty x) (Q.bool x.av):=by
 unfold Ty;split
 ·exact Sim.ret rfl
 ·exact Sim.fail
def a2X:Option Operand->TQ (Option Int)
 |none=>.ret none
 |some x=>(tev x).bind λv=>(Wz v).bind λn=>.ret (some n)
theorem Dw:(x:Option Operand)->Sim id (a2X x) (evo x)
 |none=>Sim.ret rfl
 |some x=>Sim.bind (K4 x) λv=>Sim.bind (tV v) λ_n=>Sim.ret rfl
def a3l:Operand->TQ TGV
 |.tmp k=>.rdT k .ret
 |.const v=>(TQ.ofOpt (yk v)).bind λx=>.ret ⟨true,x⟩
 |.func f=>.ret ⟨true,.o (.c (.fn f))⟩
 |.global _=>.fail
theorem Ke:(x:Operand)->Sim TGV.gv (a3l x) (evG x)
 |.tmp k=>Sim.rdT λx=>Sim.ret rfl
 |.const v=>by
  show Sim TGV.gv ((TQ.ofOpt (yk v)).bind λx=>.ret ⟨true,x⟩) (.ret ⟨true,uO v⟩);cases h:yk v with
  |none=>exact Sim.fail
  |some x=>exact Sim.ret (congrArg (GV.mk true) (Fv h))
 |.func f=>Sim.ret rfl
 |.global _=>Sim.fail
def is1(x:TC):Bool:=Nat.beq x.size 1
theorem yl{x:TC}(h:is1 x=true):x.cells=[lf x.cells]:=by
 have h1:=a5O h;rw[<-TC.cells_len]at h1
 match hc:x.cells,h1 with
 |[y],_=>rfl
def Cd:TV->TQ (List TC)
 |.o (.c x)=>.req (is1 x) (.ret [x])
 |.o (.agg xs)=>.ret xs
 |_=>.fail
theorem tW(x:TV):Sim C3 (Cd x) x.av.cells:=by
 unfold Cd;split
 ·rename_i x;refine Sim.chk λh=>Sim.ret ?_;show [lf x.cells]=x.cells++[];rw[a5Z];exact(yl h).symm
 ·exact Sim.ret rfl
 ·exact Sim.fail
def WA(a b:Bool):Bool:=a==b
def notI(k:IntKind) (n:Int):Int:=k.wrap (BitVec.ofInt k.bits (if k.signed then -1 else k.max) ^^^ BitVec.ofInt k.bits n).toNat
def a4m(k:IntKind) (n:Int):Int:=k.wrap (0-n)
def c1(u:U) (x:u.den):TV:=.o (.c (.ch u x))
def Ae(op:BinOp) (k:IntKind) (a b:Int):TQ TV:=match op with
 |.add=>.ret (c1 (.int k) (k.wrap (a+b)))
 |.sub=>.ret (c1 (.int k) (k.wrap (a-b)))
 |.mul=>.ret (c1 (.int k) (k.wrap (a*b)))
 |.quo=>.req (!decide (b=0)) (.ret (c1 (.int k) (k.wrap (a.tdiv b))))
 |.rem=>.req (!decide (b=0)) (.ret (c1 (.int k) (a.tmod b)))
 |.and=>.ret (c1 (.int k) (bits .and k a b))
 |.or=>.ret (c1 (.int k) (bits .or k a b))
 |.xor=>.ret (c1 (.int k) (bits .xor k a b))
 |.andNot=>.ret (c1 (.int k) (bits .andNot k a b))
 |.eql=>.ret (c1 .bool (decide (a=b)))
 |.neq=>.ret (c1 .bool (!decide (a=b)))
 |.lss=>.ret (c1 .bool (decide (a<b)))
 |.leq=>.ret (c1 .bool (decide (a<=b)))
 |.gtr=>.ret (c1 .bool (decide (b<a)))
 |.geq=>.ret (c1 .bool (decide (b<=a)))
 |_=>.fail
def fin(v:Value):Q AV:=.req (v.oneCell'=true) (.ret (.c (.d (.v v))))
theorem vh{α:Type}{f:α->AV}{a:α}{v:Value}(h1:v.oneCell'=true) (h:AV.c (.d (.v v))=f a):Sim f (.ret a) (fin v):=Sim.must h1 (Sim.ret h)
theorem rE(op:BinOp) (k:IntKind) (a b:Int):Sim TV.av (Ae op k a b) ((yf op k a b).bind fin):=by
 have hne:(!decide (b=0))=true->b≠0:=by simp
 cases op
 case quo=>exact Sim.req hne λ_=>vh rfl rfl
 case rem=>exact Sim.req hne λ_=>vh rfl rfl
 all_goals first | exact Sim.fail | exact vh rfl rfl
def Fx(op:BinOp) (k:IntKind) (a b:Int):TQ TV:=match op with
 |.shl=>.req (decide (0<=b)) (.ret (c1 (.int k) (k.wrap (a*2^(min b.toNat k.bits)))))
 |.shr=>.req (decide (0<=b)) (.ret (c1 (.int k) (a / (2^(min b.toNat k.bits)))))
 |_=>.fail
theorem tX(op:BinOp) (k:IntKind) (a b:Int):Sim TV.av (Fx op k a b) ((wa op k a b).bind fin):=by
 cases op
 case shl=>exact Sim.req a5P λ_=>vh rfl rfl
 case shr=>
  rw[a0v];exact Sim.req a5P λ_=>vh rfl rfl
 all_goals exact Sim.fail
def OX(op:BinOp) (a b:List UInt8):TQ TV:=match op with
 |.add=>.req (decide (a.length+b.length<=4611686018427387904)) (.ret (c1 .str (a++b)))
 |.eql=>.ret (c1 .bool (decide (a=b)))
 |.neq=>.ret (c1 .bool (!decide (a=b)))
 |.lss=>.ret (c1 .bool (Op.bytesLess a b))
 |.leq=>.ret (c1 .bool (Op.bytesLess a b||decide (a=b)))
 |.gtr=>.ret (c1 .bool (!(Op.bytesLess a b||decide (a=b))))
 |.geq=>.ret (c1 .bool (!Op.bytesLess a b))
 |_=>.fail
theorem OY(a b:List UInt8):(⟨a.toArray⟩:ByteArray)++⟨b.toArray⟩=⟨(a++b).toArray⟩:=by
 apply ByteArray.ext;rw[ByteArray.data_append];simp
theorem HP(op:BinOp) (a b:List UInt8):Sim TV.av (OX op a b) ((JG op ⟨a.toArray⟩ ⟨b.toArray⟩).bind fin):=by
 cases op
 case add=>
  refine Sim.req (λh=>?_) λ_=>vh rfl ?_
  ·have:=a5P h;simpa [ByteArray.size]using this
  ·rw[OY];rfl
 all_goals first | exact Sim.fail | exact vh rfl rfl
def Tz(op:BinOp) (k:TK):TV->TV->TQ TV
 |.o (.c (.ch (.int i) a)),.o (.c (.ch (.int j) b))=>match js op with
  |true=>Fx op i a b
  |false=>match decEq i j with
   |.isTrue _=>Ae op i a b
   |.isFalse _=>.fail
 |.o (.c (.ch .byte a)),.o (.c (.ch (.int j) b))=>match js op with
  |true=>Fx op .u8 ((UInt8.toNat a:Nat):Int) b
  |false=>match decEq IntKind.u8 j with
   |.isTrue _=>Ae op .u8 ((UInt8.toNat a:Nat):Int) b
   |.isFalse _=>.fail
 |.o (.c (.ch (.int j) a)),.o (.c (.ch .byte b))=>match js op with
  |true=>Fx op j a ((UInt8.toNat b:Nat):Int)
  |false=>match decEq j IntKind.u8 with
   |.isTrue _=>Ae op .u8 a ((UInt8.toNat b:Nat):Int)
   |.isFalse _=>.fail
 |.o (.c (.ch .byte a)),.o (.c (.ch .byte b))=>match js op with
  |true=>Fx op .u8 ((UInt8.toNat a:Nat):Int) ((UInt8.toNat b:Nat):Int)
  |false=>Ae op .u8 ((UInt8.toNat a:Nat):Int) ((UInt8.toNat b:Nat):Int)
 |.o (.c (.ch .str a)),.o (.c (.ch .str b))=>OX op a b
 |.o (.c (.ch .bool a)),.o (.c (.ch .bool b))=>match k,NR op with
  |.bool,some e=>.ret (c1 .bool (match e with|true=>WA a b|false=> !(WA a b)))
  |_,_=>.fail
 |.o (.c (.ptr id ver _)),.o (.c .npt)=>match k,NR op with
  |.ptr _,some e=>.rdB id λb=>.req (Nat.beq ver b.ver&&b.c.isSome) (.ret (c1 .bool (match e with|true=>false|false=>true)))
  |_,_=>.fail
 |.o (.c .npt),.o (.c .npt)=>match k,NR op with
  |.ptr _,some e=>.ret (c1 .bool (match e with|true=>true|false=>false))
  |_,_=>.fail
 |_,_=>.fail
theorem OZ(op:BinOp) (i:TI) (x y:TV):Sim TV.av (Tz op i.k x y) (ZR op i x.av y.av):=by
 obtain⟨k,sz,bs,zr,cm⟩:=i;show Sim TV.av (Tz op k x y) _;unfold Tz;split
 ·rename_i i a j b;show Sim TV.av _ ((match js op with | true=>wa op i a b | false=>.req (i=j) (yf op i a b)).bind fin)
  cases js op with
  |true=>exact tX op i a b
  |false=>
   simp only;split
   ·rename_i h _;exact Sim.must h (rE op i a b)
   ·exact Sim.fail
 ·rename_i a j b;show Sim TV.av _ ((match js op with | true=>wa op .u8 ((UInt8.toNat a:Nat):Int) b | false=>.req (IntKind.u8=j) (yf op .u8 ((UInt8.toNat a:Nat):Int) b)).bind fin)
  cases js op with
  |true=>exact tX op .u8 _ b
  |false=>
   simp only;split
   ·rename_i h _;exact Sim.must h (rE op .u8 _ b)
   ·exact Sim.fail
 ·rename_i j a b;show Sim TV.av _ ((match js op with | true=>wa op j a ((UInt8.toNat b:Nat):Int) | false=>.req (j=IntKind.u8) (yf op j a ((UInt8.toNat b:Nat):Int))).bind fin)
  cases js op with
  |true=>exact tX op j a _
  |false=>
   simp only;split
   ·rename_i h _;subst h;exact Sim.must rfl (rE op .u8 a _)
   ·exact Sim.fail
 ·rename_i a b;show Sim TV.av _ ((match js op with | true=>wa op .u8 ((UInt8.toNat a:Nat):Int) ((UInt8.toNat b:Nat):Int) | false=>.req (IntKind.u8=IntKind.u8) (yf op .u8 ((UInt8.toNat a:Nat):Int) ((UInt8.toNat b:Nat):Int))).bind fin)
  cases js op with
  |true=>exact tX op .u8 _ _
  |false=>exact Sim.must rfl (rE op .u8 _ _)
 ·rename_i a b;exact HP op a b
 ·rename_i a b;split
  ·rename_i e he;show Sim TV.av _ (match NR op with | some e=>(Q.ret (WA a b)).bind λb=>.ret (AV.c (.d (.v (.bool (match e with | true=>b | false=> !b))))) | none=>.fail)
   rw[he];exact Sim.ret rfl
  ·exact Sim.fail
 ·rename_i id ver _;split
  ·rename_i t e he;show Sim TV.av _ (match NR op with | some e=>(Q.rdB id λb=>.req (ver=b.ver/\b.c.isSome=true) (.ret false)).bind λb=>.ret (AV.c (.d (.v (.bool (match e with | true=>b | false=> !b))))) | none=>.fail)
   rw[he];refine Sim.rdB λb=>Sim.req (λh=>?_) λ_=>Sim.ret ?_
   ·rw[a5S]at h;exact⟨a5O h.1,by rw[<-h.2];simp[TBS.bs]⟩
   ·cases e <;> rfl
  ·exact Sim.fail
 ·split
  ·rename_i t e he;show Sim TV.av _ (match NR op with | some e=>(Q.ret true).bind λb=>.ret (AV.c (.d (.v (.bool (match e with | true=>b | false=> !b))))) | none=>.fail)
   rw[he];exact Sim.ret (by cases e <;> rfl)
  ·exact Sim.fail
 ·exact Sim.fail
def tun(op:UnOp):TV->TQ TV
 |.o (.c (.ch .bool b))=>match op with|.not=>.ret (c1 .bool (!b))|_=>.fail
 |.o (.c (.ch (.int k) n))=>match op with|.neg=>.ret (c1 (.int k) (a4m k n))|.xor=>.ret (c1 (.int k) (notI k n))|_=>.fail
 |_=>.fail
theorem XX(op:UnOp) (x:TV):Sim TV.av (tun op x) (unQ op x.av):=by
 unfold tun;split
 ·cases op <;> first | exact Sim.ret rfl | exact Sim.fail
 ·cases op <;> first | exact Sim.ret rfl | exact Sim.fail
 ·exact Sim.fail
def a0x(c:Bool) (x y:TGV):TQ TV:=match c with
 |true=>.req x.g (.ret x.x)
 |false=>.req y.g (.ret y.x)
theorem Pb(c:Bool) (x y:TGV):Sim TV.av (a0x c x y) (SK c x.gv y.gv):=by
 cases c <;> exact Sim.req id λ_=>Sim.ret rfl
def pj:List Nat->TQ (List gT)
 |[]=>.ret []
 |id::ids=>.rdR id λr=>match r.c with
  |some R=>.req (decide (R.e<jn)) ((pj ids).bind λus=>.ret (match R.fr with|true=>us|false=>.r id ⟨r.ver,some ⟨R.u,R.l,R.e,true⟩⟩::us))
  |none=>.fail
theorem fF:(ids:List Nat)->Sim US (pj ids) (lV ids)
 |[]=>Sim.ret rfl
 |id::ids=>Sim.rdR λr=>by
  obtain⟨ver,c⟩:=r;cases c with
  |none=>exact Sim.fail
  |some R=>exact Sim.req a5P λ_=>Sim.bind (fF ids) λus=>Sim.ret (by obtain⟨u,l,e,f⟩:=R;cases f <;> rfl)
def TA(i:TI) (ps:List TC):TQ TV:=match i.agg with
 |true=>.ret (.o (.agg ps))
 |false=>match ps with
  |[x]=>.req (is1 x) (.ret (.o (.c x)))
  |_=>.fail
theorem tY(i:TI) (ps:List TC):Sim TV.av (TA i ps) (asV i (C3 ps)):=by
 unfold TA asV;cases i.agg with
 |true=>exact Sim.ret rfl
 |false=>
  simp only;split
  ·rename_i x;refine Sim.chk λh=>?_;have e:C3 [x]=[lf x.cells]:=(a5Z _).trans (yl h);rw[e];exact Sim.ret rfl
  ·exact Sim.fail
structure a0y where
 pre:List TC
 n:Nat
 u:U
 v:Vector u.den n
 post:List TC
def Ms(off:Nat) (ps:List TC):Option a0y:=(HN FU off ps).bind λa=>(HM FU off ps).bind λb=>match b with
 |.ch (.arr n u) v::post=>some ⟨a,n,u,v,post⟩
 |_=>none
theorem Dx{off:Nat}{ps:List TC}{A:a0y}(h:Ms off ps=some A):C3 ps=C3 A.pre++((U.arr A.n A.u).enc A.v).map .d++C3 A.post/\(C3 A.pre).length=off:=by
 unfold Ms at h;simp only[a7m]at h;obtain⟨a,h1,b,h2,h3⟩:=h;obtain⟨a1,a2⟩:=wq h1;obtain⟨b1,b2⟩:=wo h2;split at h3
 ·injection h3 with h3;subst h3;refine⟨?_,a2⟩;have:=a6d off (C3 ps);rw[<-a1,<-b1]at this;rw[<-this,a50];rfl
 ·cases h3
theorem Kf{α β:Type}{f:α->List β}{z:Nat}:∀{l:List α}{k:Nat}{x:α},(∀y∈l,(f y).length=z)->l[k]?=some x->((l.flatMap f).drop (k*z)).take z=f x
 |[],_,_,_,h=>by simp at h
 |y::l,0,x,hz,h=>by
  simp at h;subst h;have h1:=hz y (by simp);rw[a6q,a7A,a7T,<-h1,a6H]
 |y::l,k+1,x,hz,h=>by
  have h1:=hz y (by simp);rw[a6q,a6r,a6I,<-a6A];have:((f y++l.flatMap f).drop z)=l.flatMap f:=by rw[<-h1,a6s]
  rw[this];exact Kf (λy hy=>hz y (by simp[hy])) (by simpa using h)
theorem vi{α:Type}(a b:List α) (k:Nat) (x:List α):setAt (a++b) (a.length+k) x=a++setAt b k x:=by
 unfold setAt;rw[show a.length+k+x.length=a.length+(k+x.length)from by omega,<-a6A,a6s];rw[a7o,a6u (l:=a) (Nat.le_add_right _ _),Nat.add_sub_cancel_left];simp
theorem Ce{α:Type}(b c:List α) (k:Nat) (x:List α) (h:k+x.length<=b.length):setAt (b++c) k x=setAt b k x++c:=by
 unfold setAt;rw[a7o,show k-b.length=0 from by omega,a6E,a5Z,a71,show k+x.length-b.length=0 from by omega,a7T];simp
theorem Fy{α:Type}(a b c:List α) (k:Nat) (x:List α) (h:k+x.length<=b.length):setAt (a++b++c) (a.length+k) x=a++setAt b k x++c:=by
 rw[a50,vi,Ce b c k x h,a50]
theorem zb{α β:Type}{f:α->List β}{z:Nat}:∀{l:List α}{k:Nat}{x:α},(∀y∈l,(f y).length=z)->(f x).length=z->k<l.length->(l.set k x).flatMap f=setAt (l.flatMap f) (k*z) (f x)
 |[],_,_,_,_,h=>by simp at h
 |y::l,0,x,hz,hx,h=>by
  have h1:=hz y (by simp);rw[a7z,a6q,a6q,a7A];unfold setAt;rw[a6E,a6w,a6j,hx,<-h1,a6s]
 |y::l,k+1,x,hz,hx,h=>by
  have h1:=hz y (by simp);have ih:=zb (l:=l) (k:=k) (x:=x) (λy hy=>hz y (by simp[hy])) hx (by simpa using h);rw[a7K,a6q,a6q,ih];have e:(k+1)*z=(f y).length+k*z:=by rw[h1,a6r,a6I]
  rw[e,vi]
theorem Fz{α β:Type}(f:α->β) (l:List α) (k:Nat) (x:List α):(setAt l k x).map f=setAt (l.map f) k (x.map f):=by
 unfold setAt;simp
theorem TB{α:Type}{n:Nat}{v:Vector α n}{k:Nat}{d:α}(h:k<n):v.toList[k]?=some (L0 v k d):=by
 have:k<v.toList.length:=by simpa using h
 rw[List.getElem?_eq_getElem this];unfold L0;rw[List.getD_eq_getElem?_getD,List.getElem?_eq_getElem this];rfl
theorem Dy{n:Nat}{u:U}{v:Vector u.den n}{k:Nat}(h:k<n):(((U.arr n u).enc v).drop (k*u.size)).take u.size=u.enc (L0 v k u.dflt):=
 Kf (l:=v.toList) (λy _=>u.enc_len y) (TB h)
def Kg(off z k:Nat) (i:TI) (ps:List TC):TQ TV:=match Ms off ps with
 |some A=>.req (Nat.beq z A.u.size&&Nat.beq i.size A.u.size) (.req (decide (k<A.n)) (TA i [.ch A.u (L0 A.v k A.u.dflt)]))
 |none=>.fail
theorem Cf(off z k:Nat) (i:TI) (ps:List TC):Sim TV.av (Kg off z k i ps) (.req (off+k*z+i.size<=(C3 ps).length) (asV i (((C3 ps).drop (off+k*z)).take i.size))):=by
 unfold Kg;cases h:Ms off ps with
 |none=>exact Sim.fail
 |some A=>
  refine Sim.chk λh1=>Sim.chk λh2=>?_;rw[a5S]at h1;have e1:=a5O h1.1;have e2:=a5O h1.2;have hk:=a5P h2;obtain⟨c1,c2⟩:=Dx h;have hlen:((U.arr A.n A.u).enc A.v).length=A.n*A.u.size:=U.enc_len _ _;have hle:(k+1)*A.u.size<=A.n*A.u.size:=a6k _ hk;rw[a6r]at hle;have key:((C3 ps).drop (off+k*z)).take i.size=C3 [.ch A.u (L0 A.v k A.u.dflt)]:=by
   rw[c1,e2,e1,<-c2,<-a6A,a50,a6s,a71,a5X,hlen,show k*A.u.size-A.n*A.u.size=0 from by omega,a7T,a7o,a5Y,a5X,hlen,show A.u.size-(A.n*A.u.size-k*A.u.size)=0 from by omega,a6E,a5Z,<-a7p,<-a65,Dy hk];exact(a5Z _).symm
  refine Sim.must ?_ ?_
  ·rw[c1,e2,e1];simp only[a5K,a5X,hlen,c2];omega
  ·rw[key];exact tY i _
def TD(i:TI):TV->TQ TV
 |.o (.c (.ptr id ver off))=>.rdB id λb=>match b.c with
  |some ps=>.req (Nat.beq ver b.ver) ((TQ.ofOpt (Wy off i.size ps)).bind λqs=>TA i qs)
  |none=>.fail
 |.o (.c (.pa id ver off z k))=>.rdB id λb=>match b.c with
  |some ps=>.req (Nat.beq ver b.ver) (Kg off z k i ps)
  |none=>.fail
 |.o (.c (.ep u x off))=>(TQ.ofOpt (Wy off i.size [.ch u x])).bind λqs=>TA i qs
 |.o (.c (.ex u x off z k))=>Kg off z k i [.ch u x]
 |.o (.c (.rp id ver k off sz))=>.rdR id λr=>match r.c with
  |some R=>.req (Nat.beq ver r.ver&&Nat.beq sz R.u.size) (.req (decide (k<R.l.length)) ((TQ.ofOpt (Wy off i.size [.ch R.u (R.l.getD k R.u.dflt)])).bind λqs=>TA i qs))
  |none=>.fail
 |_=>.fail
theorem iP(u:U) (x:u.den):C3 [.ch u x]=(u.enc x).map .d:=a5Z _
theorem ze{α β:Type}{f:α->β}{k n:Nat}{ps:List TC}{q':List TC->TQ α}{q:Q β}(h:∀qs,C3 qs=((C3 ps).drop k).take n->k+n<=(C3 ps).length->Sim f (q' qs) q):Sim f ((TQ.ofOpt (Wy k n ps)).bind q') q:=by
 cases e:Wy k n ps with
 |none=>exact Sim.fail
 |some qs=>exact h qs (OU e).1 (OU e).2
theorem vj{α β:Type}(f:α->β){l:List α}{k:Nat}(h:k<l.length) (d:β) (d':α):(l.map f).getD k d=f (l.getD k d'):=HK f h d d'
theorem FA(i:TI) (x:TV):Sim TV.av (TD i x) (LT i x.av):=by
 unfold TD;split
 ·rename_i id ver off;refine Sim.rdB λb=>?_;obtain⟨bv,c⟩:=b;cases c with
  |none=>exact Sim.fail
  |some ps=>
   refine Sim.chk λh=>ze λqs h1 h2=>Sim.must ⟨a5O h,h2⟩ ?_;have:=tY i qs;rw[h1]at this;exact this
 ·rename_i id ver off z k;refine Sim.rdB λb=>?_;obtain⟨bv,c⟩:=b;cases c with
  |none=>exact Sim.fail
  |some ps=>
   refine Sim.chk λh s tr K hK=>?_;obtain⟨h1,h2⟩:=Cf off z k i ps s tr K hK;exact⟨⟨a5O h,h1⟩,h2⟩
 ·rename_i u x off;refine ze λqs h1 h2=>?_;rw[iP,a5X]at h2;show Sim TV.av _ (.req (i.size<=((u.enc x).drop off).length) (asV i ((((u.enc x).drop off).take i.size).map .d)));refine Sim.must (by rw[a5Y];omega) ?_;rw[iP]at h1;rw[a65,a7p,<-h1];exact tY i qs
 ·rename_i u x off z k;intro s tr K hK;obtain⟨h1,h2⟩:=Cf off z k i [.ch u x] s tr K hK;rw[iP,a5X]at h1;rw[iP]at h2;show Q.wpt (.req (i.size<=((u.enc x).drop (off+k*z)).length) (asV i ((((u.enc x).drop (off+k*z)).take i.size).map .d))) _ _ _;refine⟨by rw[a5Y];omega,?_⟩;rw[a65,a7p];exact h2
 ·rename_i id ver k off sz;refine Sim.rdR λr=>?_;obtain⟨rv,c⟩:=r;cases c with
  |none=>exact Sim.fail
  |some R=>
   refine Sim.chk λh=>Sim.chk λh0=>ze λqs h1 h2=>?_;rw[a5S]at h;have hk:=a5P h0;have e1:=a5O h.1;have e2:=a5O h.2;have hg:(R.l.map R.u.enc).getD k []=R.u.enc (R.l.getD k R.u.dflt):=vj _ hk _ _;rw[iP,a5X,U.enc_len]at h2;refine Sim.must ⟨e1,e2,?_,by rw[e2];exact h2⟩ ?_
   ·show k<(R.l.map R.u.enc).length;rw[a5X];exact hk
   ·show Sim TV.av _ (asV i (((((R.l.map R.u.enc).getD k []).drop off).take i.size).map .d));rw[hg,a65,a7p,<-iP,<-h1];exact tY i qs
 ·exact Sim.fail
def a0z(n:Int):TQ UInt8:=.req (decide (0<=n/\n<256)) (.ret (UInt8.ofNat n.toNat))
def a5f:(v:U)->v.den->TQ UInt8
 |.int k,n=>match decEq k IntKind.u8 with
  |.isTrue _=>a0z n
  |.isFalse _=>.fail
 |_,_=>.fail
def a4n(u v:U) (y:v.den):TQ u.den:=match u with
 |.byte=>a5f v y
 |_=>.fail
theorem XY{u v:U}{y:v.den}{s:TSt}{tr:List aQ}{K:u.den->List aQ->Prop}(h:(a4n u v y).wpt s tr K):∃x,v.enc y=u.enc x/\K x tr:=by
 cases u with
 |byte=>
  cases v with
  |int k=>
   replace h:((match decEq k IntKind.u8 with | .isTrue _=>a0z y | .isFalse _=>.fail):TQ UInt8).wpt s tr K:=h
   split at h
   ·rename_i hk _;subst hk;obtain⟨h1,h2⟩:=h;exact⟨_,(Kd (n:=y) h1).symm,h2⟩
   ·exact h.elim
  |_=>exact h.elim
 |_=>exact h.elim
def Mt(u:U):List TC->TQ u.den
 |[.ch v y]=>match decEq v u with
  |.isTrue h=>.ret (qK h y)
  |.isFalse _=>a4n u v y
 |_=>.fail
theorem zf{u:U}{ps:List TC}{s:TSt}{tr:List aQ}{K:u.den->List aQ->Prop}(h:(Mt u ps).wpt s tr K):∃x,C3 ps=(u.enc x).map .d/\K x tr:=by
 unfold Mt at h;split at h
 ·rename_i v y;split at h
  ·rename_i e _;exact⟨_,by rw[iP,tT],h⟩
  ·obtain⟨x,h1,h2⟩:=XY h;exact⟨x,by rw[iP,h1],h2⟩
 ·exact h.elim
def Pc:(u:U)->List TC->Option (u.den×List TC)
 |.pr a b,ps=>(Pc a ps).bind λp=>(Pc b p.2).map λq=>((p.1,q.1),q.2)
 |u,.ch v y::ps=>match decEq v u with
  |.isTrue h=>some (qK h y,ps)
  |.isFalse _=>none
 |_,[]=>none
 |_,_::_=>none
theorem qL{u:U}{ps:List TC}{p:u.den×List TC}(h:(match ps with
  |.ch v y::ps=>match decEq v u with
   |.isTrue h=>some (qK h y,ps)
   |.isFalse _=>none
  |_=>none)=some p):C3 ps=(u.enc p.1).map .d++C3 p.2:=by
 split at h
 ·split at h
  ·rename_i e _;injection h with h;subst h;rw[tT];rfl
  ·cases h
 ·cases h
theorem Dz:∀{u:U}{ps:List TC}{p:u.den×List TC},Pc u ps=some p->C3 ps=(u.enc p.1).map .d++C3 p.2
 |.pr a b,ps,p,h=>by
  unfold Pc at h;obtain⟨q,h1,h2⟩:=Option.bind_eq_some_iff.1 h;obtain⟨q2,h3,rfl⟩:=Option.map_eq_some_iff.1 h2;rw[Dz h1,Dz h3];show _=((a.enc q.1++b.enc q2.1).map AC.d)++_;rw[a53,a50]
 |.int k,ps,p,h=>qL (by cases ps with|nil=>exact h|cons c r=>cases c <;> exact h)
 |.byte,ps,p,h=>qL (by cases ps with|nil=>exact h|cons c r=>cases c <;> exact h)
 |.bool,ps,p,h=>qL (by cases ps with|nil=>exact h|cons c r=>cases c <;> exact h)
 |.str,ps,p,h=>qL (by cases ps with|nil=>exact h|cons c r=>cases c <;> exact h)
 |.sl u,ps,p,h=>qL (by cases ps with|nil=>exact h|cons c r=>cases c <;> exact h)
 |.arr n u,ps,p,h=>qL (by cases ps with|nil=>exact h|cons c r=>cases c <;> exact h)
def TE(u:U) (ps:List TC):TQ u.den:=match Pc u ps with
 |some p=>match p.2 with
  |[]=>.ret p.1
  |_=>Mt u ps
 |none=>Mt u ps
theorem Kh{u:U}{ps:List TC}{s:TSt}{tr:List aQ}{K:u.den->List aQ->Prop}(h:(TE u ps).wpt s tr K):∃x,C3 ps=(u.enc x).map .d/\K x tr:=by
 unfold TE at h;split at h
 ·rename_i p hp;split at h
  ·rename_i e;have:=Dz hp;rw[e]at this;exact⟨p.1,by rw[this];exact a5Z _,h⟩
  ·exact zf h
 ·exact zf h
def ws{α:Type}{n:Nat}(v:Vector α n) (k:Nat) (x:α):Vector α n:=⟨(v.toList.set k x).toArray,by simp⟩
theorem Pd{α:Type}{n:Nat}(v:Vector α n) (k:Nat) (x:α):(ws v k x).toList=v.toList.set k x:=rfl
def ZF:(u:U)->u.den->Nat->(v:U)->v.den->Option u.den
 |.pr a b,x,off,v,y=>match decEq v (.pr a b) with
  |.isTrue h=>match off with
   |0=>some (qK h y)
   |_+1=>none
  |.isFalse _=>match Nat.blt off a.size with
   |true=>(ZF a x.1 off v y).map λp=>(p,x.2)
   |false=>(ZF b x.2 (off-a.size) v y).map λp=>(x.1,p)
 |u,_,off,v,y=>match decEq v u with
  |.isTrue h=>match off with
   |0=>some (qK h y)
   |_+1=>none
  |.isFalse _=>none
def eqL{α:Type}(f:α->α->Bool):List α->List α->Bool
 |[],[]=>true
 |x::xs,y::ys=>f x y&&eqL f xs ys
 |_,_=>false
def TF(a b:Int):Bool:=decide (a=b)
def Ki(a b:UInt8):Bool:=decide (a=b)
def WB(a b:Bool):Bool:=a==b
def Bo(a b:List UInt8):Bool:=decide (a=b)
def U.beq:(u:U)->u.den->u.den->Bool
 |.int _,a,b=>TF a b
 |.byte,a,b=>Ki a b
 |.bool,a,b=>WB a b
 |.str,a,b=>Bo a b
 |.sl _,_,_=>false
 |.pr a b,x,y=>a.beq x.1 y.1&&b.beq x.2 y.2
 |.arr _ u,v,w=>eqL u.beq (Vector.toList v) (Vector.toList w)
def U.cks:U->Option (List CK)
 |.int k=>some [.i k]
 |.byte=>some [.i .u8]
 |.bool=>some [.b]
 |.str=>some [.s]
 |.sl _=>none
 |.pr a b=>match a.cks,b.cks with
  |some x,some y=>some (x++y)
  |_,_=>none
 |.arr n u=>match u.cks with
  |some x=>some (List.replicate n x).flatten
  |none=>none
def U.vals:(u:U)->u.den->List Value
 |.int k,n=>[.int k n]
 |.byte,x=>[.int .u8 (UInt8.toNat x:Nat)]
 |.bool,b=>[.bool b]
 |.str,l=>[.string ⟨List.toArray l⟩]
 |.sl _,_=>[]
 |.pr a b,x=>a.vals x.1++b.vals x.2
 |.arr _ u,v=>(Vector.toList v).flatMap u.vals
theorem Af{α:Type}{f:α->List Value}{ks:List CK}(h:∀x,(f x).map uq=ks.map some):∀l:List α,(l.flatMap f).map uq=((List.replicate l.length ks).flatten).map some
 |[]=>rfl
 |x::l=>by rw[a6q,a53,h x,Af h l,a54,a7c,a7O,a53]
theorem U.vals_cks:∀(u:U) (ks:List CK),u.cks=some ks->∀x:u.den,(u.vals x).map uq=ks.map some
 |.int _,_,h,_=>by injection h with h;subst h;rfl
 |.byte,_,h,_=>by injection h with h;subst h;rfl
 |.bool,_,h,_=>by injection h with h;subst h;rfl
 |.str,_,h,_=>by injection h with h;subst h;rfl
 |.sl _,_,h,_=>by cases h
 |.pr a b,ks,h,x=>by
  unfold U.cks at h;split at h
  ·rename_i p q hp hq;injection h with h;subst h;show(a.vals x.1++b.vals x.2).map uq=_;rw[a53,a53,U.vals_cks a p hp,U.vals_cks b q hq]
  ·cases h
 |.arr n u,ks,h,v=>by
  unfold U.cks at h;split at h
  ·rename_i p hp;injection h with h;subst h;have:=Af (U.vals_cks u p hp) (Vector.toList v);have e:(Vector.toList v).length=n:=a6F (xs:=v);exact this.trans (by rw[e])
  ·cases h
theorem U.enc_vals:∀(u:U) (ks:List CK),u.cks=some ks->∀x:u.den,u.enc x=(u.vals x).map .v
 |.int _,_,_,_=>rfl
 |.byte,_,_,_=>rfl
 |.bool,_,_,_=>rfl
 |.str,_,_,_=>rfl
 |.sl _,_,h,_=>by cases h
 |.pr a b,ks,h,x=>by
  unfold U.cks at h;split at h
  ·rename_i p q hp hq;show a.enc x.1++b.enc x.2=(a.vals x.1++b.vals x.2).map .v;rw[a53,U.enc_vals a p hp,U.enc_vals b q hq]
  ·cases h
 |.arr n u,ks,h,v=>by
  unfold U.cks at h;split at h
  ·rename_i p hp;show(Vector.toList v).flatMap u.enc=((Vector.toList v).flatMap u.vals).map .v;rw[List.map_flatMap];exact congrArg (λf=>(Vector.toList v).flatMap f) (funext λx=>U.enc_vals u p hp x)
  ·cases h
theorem Cg{a b:List Value}{ks:List CK}(h1:a.map uq=ks.map some) (h2:b.map uq=ks.map some):a.length=b.length:=by
 have:=congrArg List.length (h1.trans h2.symm);simpa using this
theorem FB{α:Type}{f:α->List Value}{g:α->α->Bool}{ks:List CK}(hk:∀x,(f x).map uq=ks.map some) (h:∀x y,aK (f x) (f y)=g x y):∀(l l':List α),l.length=l'.length->aK (l.flatMap f) (l'.flatMap f)=eqL g l l'
 |[],[],_=>rfl
 |x::l,y::l',hl=>by
  simp only[a54,Nat.add_right_cancel_iff]at hl;rw[a6q,a6q,ry _ _ _ _ (Cg (hk x) (hk y)),h,FB hk h l l' hl];rfl
theorem Pe(x y:Int):((x==y)&&true)=TF x y:=by rw[a7e];rfl
theorem TG(x y:UInt8):((((UInt8.toNat x:Nat):Int)==((UInt8.toNat y:Nat):Int))&&true)=Ki x y:=by
 unfold Ki;rw[a7e,Bool.eq_iff_iff];simp only[beq_iff_eq,a5M,Int.natCast_inj];exact UInt8.toNat_inj
theorem TH(x y:Bool):((x==y)&&true)=WB x y:=by rw[a7e];rfl
theorem XZ(x y:List UInt8):(((ByteArray.mk (List.toArray x)).toList==(ByteArray.mk (List.toArray y)).toList)&&true)=Bo x y:=by
 unfold Bo;rw[a7e,Bool.eq_iff_iff];simp[ByteArray.toList_eq]
theorem U.vals_beq:∀(u:U) (ks:List CK),u.cks=some ks->∀x y:u.den,aK (u.vals x) (u.vals y)=u.beq x y
 |.int _,_,_,x,y=>Pe x y
 |.byte,_,_,x,y=>TG x y
 |.bool,_,_,x,y=>TH x y
 |.str,_,_,x,y=>XZ x y
 |.sl _,_,h,_,_=>by cases h
 |.pr a b,ks,h,x,y=>by
  unfold U.cks at h;split at h
  ·rename_i p q hp hq;show aK (a.vals x.1++b.vals x.2) (a.vals y.1++b.vals y.2)=(a.beq x.1 y.1&&b.beq x.2 y.2);rw[ry _ _ _ _ (Cg (U.vals_cks a p hp _) (U.vals_cks a p hp _)),U.vals_beq a p hp,U.vals_beq b q hq]
  ·cases h
 |.arr n u,ks,h,v,w=>by
  unfold U.cks at h;split at h
  ·rename_i p hp;exact FB (U.vals_cks u p hp) (U.vals_beq u p hp) _ _ ((a6F (xs:=v)).trans (a6F (xs:=w)).symm)
  ·cases h
theorem HQ:∀l:List Value,dvs (l.map λv=>.d (.v v))=some l
 |[]=>rfl
 |v::l=>by rw[a55,dvs,HQ l];rfl
def a3m(u:U) (i:TI) (xs ys:List TC):TQ Bool:=(TE u xs).bind λa=>(TE u ys).bind λb=>.req (match u.cks with
 |some ks=>i.agg && !ks.isEmpty&&decide (i.cmp=ks)
 |none=>false) (.ret (u.beq a b))
theorem TJ(u:U) (i:TI) (xs ys:List TC):Sim id (a3m u i xs ys) (eqA i (C3 xs) (C3 ys)):=by
 intro s tr K h;unfold a3m at h;rw[TQ.wpt_bind]at h;obtain⟨a,e1,h⟩:=Kh h;rw[TQ.wpt_bind]at h;obtain⟨b,e2,h⟩:=Kh h;obtain⟨hk,h⟩:=h;split at hk
 ·rename_i ks hks;simp only[a5S,a5M,a5R]at hk;obtain⟨⟨h1,h2⟩,h3⟩:=hk;have d1:dvs (C3 xs)=some (u.vals a):=by rw[e1,U.enc_vals u ks hks,a7v];exact HQ _
  have d2:dvs (C3 ys)=some (u.vals b):=by rw[e2,U.enc_vals u ks hks,a7v];exact HQ _
  unfold eqA;rw[d1,d2];refine⟨⟨h1,?_,by rw[h3];exact U.vals_cks u ks hks a,by rw[h3];exact U.vals_cks u ks hks b⟩,?_⟩
  ·rw[h3];intro e;rw[e]at h2;cases h2
  ·exact⟨_,U.vals_beq u ks hks a b,h⟩
 ·cases hk
def a3n(TU:TypeId->Option U) (op:BinOp) (t:TypeId) (i:TI) (x y:TV):TQ TV:=match x,y with
 |.o (.agg xs),.o (.agg ys)=>match TU t,NR op with
  |some u,some e=>(a3m u i xs ys).bind λb=>.ret (c1 .bool (match e with|true=>b|false=> !b))
  |_,_=>.fail
 |x,y=>Tz op i.k x y
theorem TL(TU:TypeId->Option U) (op:BinOp) (t:TypeId) (i:TI) (x y:TV):Sim TV.av (a3n TU op t i x y) (ZR op i x.av y.av):=by
 unfold a3n;split
 ·rename_i xs ys;split
  ·rename_i u e hu he;show Sim TV.av _ (match NR op with | some e=>(eqA i (C3 xs) (C3 ys)).bind λb=>.ret (AV.c (.d (.v (.bool (match e with | true=>b | false=> !b))))) | none=>.fail)
   rw[he];exact Sim.bind (TJ u i xs ys) λb=>Sim.ret (by cases e <;> rfl)
  ·exact Sim.fail
 ·exact OZ op i _ _
theorem Pg{α:Type}{f:α->α->Bool}(h:∀x y,f x y=true↔x=y):∀l l':List α,eqL f l l'=true↔l=l'
 |[],[]=>by simp[eqL]
 |[],_::_=>by simp[eqL]
 |_::_,[]=>by simp[eqL]
 |x::l,y::l'=>by simp only[eqL,a5S,h,Pg h l l',List.cons.injEq]
theorem Ya(x y:Int):TF x y=true↔x=y:=decide_eq_true_iff
theorem TM(x y:UInt8):Ki x y=true↔x=y:=decide_eq_true_iff
theorem Yb(x y:List UInt8):Bo x y=true↔x=y:=decide_eq_true_iff
theorem U.beq_iff:∀(u:U) (ks:List CK),u.cks=some ks->∀x y:u.den,u.beq x y=true↔x=y
 |.int _,_,_,x,y=>Ya x y
 |.byte,_,_,x,y=>TM x y
 |.bool,_,_,x,y=>beq_iff_eq (α:=Bool) (a:=x) (b:=y)
 |.str,_,_,x,y=>Yb x y
 |.sl _,_,h,_,_=>by cases h
 |.pr a b,ks,h,x,y=>by
  unfold U.cks at h;split at h
  ·rename_i p q hp hq;show(a.beq x.1 y.1&&b.beq x.2 y.2)=true↔x=y;rw[a5S,U.beq_iff a p hp,U.beq_iff b q hq];exact Prod.ext_iff.symm
  ·cases h
 |.arr n u,ks,h,v,w=>by
  unfold U.cks at h;split at h
  ·rename_i p hp;show eqL u.beq (Vector.toList v) (Vector.toList w)=true↔v=w;rw[Pg (U.beq_iff u p hp)];exact Vector.toList_inj
  ·cases h
theorem Yc:∀{u:U}{x:u.den}{off:Nat}{v:U}{y:v.den}{r:u.den},ZF u x off v y=some r->u.enc r=setAt (u.enc x) off (v.enc y)/\off+v.size<=u.size:=by
 have base:∀(u:U) (x:u.den) (off:Nat) (v:U) (y:v.den) (r:u.den),(match decEq v u with | .isTrue h=>(match off with | 0=>some (qK h y) | _+1=>none) | .isFalse _=>(none:Option u.den))=some r->u.enc r=setAt (u.enc x) off (v.enc y)/\off+v.size<=u.size:=by
  intro u x off v y r h;split at h
  ·rename_i e _;subst e;split at h
   ·injection h with h;subst h;refine⟨?_,by omega⟩;show v.enc y=_;unfold setAt;rw[a6E,a6j,a6X (by rw[U.enc_len,U.enc_len];exact a56 _)];simp
   ·cases h
  ·cases h
 intro u
 induction u with
 |pr a b iha ihb=>
  intro x off v y r h;unfold ZF at h;split at h
  ·rename_i e he;refine base (.pr a b) x off v y r ?_;rw[he];exact h
  ·split at h
   ·rename_i hb;obtain⟨p,h1,rfl⟩:=Option.map_eq_some_iff.1 h;obtain⟨h2,h3⟩:=iha h1;refine⟨?_,by simp only[U.size];omega⟩;show a.enc p++b.enc x.2=setAt (a.enc x.1++b.enc x.2) off (v.enc y);rw[h2,Ce _ _ _ _ (by rw[U.enc_len,U.enc_len];exact h3)]
   ·rename_i hb;obtain⟨p,h1,rfl⟩:=Option.map_eq_some_iff.1 h;obtain⟨h2,h3⟩:=ihb h1;have hlt:a.size<=off:=by
     have:¬off<a.size:=λhl=>by have:=(Nat.blt_eq:(Nat.blt off a.size=true)=(off<a.size)).mpr hl;rw[this]at hb;cases hb
     omega
    refine⟨?_,by simp only[U.size];omega⟩;show a.enc x.1++b.enc p=setAt (a.enc x.1++b.enc x.2) off (v.enc y);rw[h2];have:=vi (a.enc x.1) (b.enc x.2) (off-a.size) (v.enc y);rw[U.enc_len,show a.size+(off-a.size)=off from by omega]at this;exact this.symm
 |_=>intro x off v y r h;exact base _ x off v y r h
def Ph(off z k:Nat) (i:TI) (ps xs:List TC):TQ (List TC):=match Ms off ps with
 |some A=>.req (Nat.beq z A.u.size&&Nat.beq i.size A.u.size) (.req (decide (k<A.n)) ((Mt A.u xs).bind λx=>.ret (A.pre ++ .ch (.arr A.n A.u) (ws A.v k x)::A.post)))
 |none=>.fail
theorem Pi{off z k:Nat}{i:TI}{ps xs:List TC}{s:TSt}{tr:List aQ}{K:List TC->List aQ->Prop}(h:(Ph off z k i ps xs).wpt s tr K) :
  ∃qs,C3 qs=setAt (C3 ps) (off+k*z) (C3 xs)/\(C3 xs).length=i.size/\off+k*z+i.size<=(C3 ps).length/\K qs tr:=by
 unfold Ph at h;split at h
 ·rename_i A hA;obtain⟨h1,h2,h⟩:=h;rw[TQ.wpt_bind]at h;obtain⟨x,e,h⟩:=zf h;rw[a5S]at h1;have e1:=a5O h1.1;have e2:=a5O h1.2;have hk:=a5P h2;obtain⟨c1,c2⟩:=Dx hA;have hlen:((U.arr A.n A.u).enc A.v).length=A.n*A.u.size:=U.enc_len _ _;have hle:(k+1)*A.u.size<=A.n*A.u.size:=a6k _ hk;rw[a6r]at hle;have hx:(C3 xs).length=A.u.size:=by rw[e,a5X,U.enc_len]
  refine⟨_,?_,by rw[hx,e2],?_,h⟩
  ·rw[iO,C3,c1,e1,<-c2];have hs:(U.arr A.n A.u).enc (ws A.v k x)=setAt ((U.arr A.n A.u).enc A.v) (k*A.u.size) (A.u.enc x):=
    zb (f:=A.u.enc) (l:=A.v.toList) (λy _=>A.u.enc_len y) (A.u.enc_len x) (by simpa using hk)
   rw[Fy _ _ _ _ _ (by rw[hx,a5X,hlen];omega),e,<-Fz,<-hs,a50];rfl
  ·rw[c1,e1,e2];simp only[a5K,a5X,hlen,c2];omega
 ·exact h.elim
theorem Mu{α:Type}{L y:List α}{a S b:Nat}(h1:a+S<=L.length) (h2:b+y.length<=S):setAt L a (setAt ((L.drop a).take S) b y)=setAt L (a+b) y:=by
 unfold setAt;have e1:((L.drop a).take S).take b=(L.drop a).take b:=by rw[a7U,a7u (by omega)]
 have e2:(((L.drop a).take S).take b++y++((L.drop a).take S).drop (b+y.length)).length=S:=by
  simp only[a5K,a5T,a5Y];omega
 rw[e2,e1,a8t,a8l];have e3:((L.drop a).drop (b+y.length)).take (S-(b+y.length))++L.drop (a+S)=L.drop (a+b+y.length):=by
  have e4:L.drop (a+S)=((L.drop a).drop (b+y.length)).drop (S-(b+y.length)):=by
   rw[a6A,a6A];congr 1;omega
  rw[e4,a6d,a6A];congr 1;omega
 rw[<-e3];simp only[a50]
def HR(off z k z2 j:Nat) (i:TI) (ps xs:List TC):TQ (List TC):=match Ms off ps with
 |some ⟨pre,n,.arr m u,v,post⟩=>.req (Nat.beq z (U.arr m u).size&&Nat.beq z2 u.size&&Nat.beq i.size u.size) (.req (decide (k<n/\j<m)) ((Mt u xs).bind λx=>.ret (pre ++ .ch (.arr n (.arr m u)) (ws v k (ws (L0 v k (U.arr m u).dflt:Vector u.den m) j x))::post)))
 |_=>.fail
theorem Mv{off z k z2 j:Nat}{i:TI}{ps xs:List TC}{s:TSt}{tr:List aQ}{K:List TC->List aQ->Prop}(h:(HR off z k z2 j i ps xs).wpt s tr K) :
  ∃qs,C3 qs=setAt (C3 ps) (off+k*z+j*z2) (C3 xs)/\(C3 xs).length=i.size/\off+k*z+j*z2+i.size<=(C3 ps).length/\K qs tr:=by
 unfold HR at h;split at h
 ·rename_i pre n m u v post hA;obtain⟨h1,h2,h⟩:=h;rw[TQ.wpt_bind]at h;obtain⟨x,e,h⟩:=zf h;simp only[a5S]at h1;have e1:=a5O h1.1.1;have e2:=a5O h1.1.2;have e3:=a5O h1.2;obtain⟨hk,hj⟩:=a5P h2;obtain⟨c1,c2⟩:=Dx hA;simp only at c1 c2;have hS:(U.arr m u).size=m*u.size:=rfl;have hlen:((U.arr n (.arr m u)).enc v).length=n*(U.arr m u).size:=U.enc_len _ _;have hle:(k+1)*(U.arr m u).size<=n*(U.arr m u).size:=a6k _ hk;have hle2:(j+1)*u.size<=m*u.size:=a6k _ hj;rw[a6r]at hle hle2;have hx:(C3 xs).length=u.size:=by rw[e,a5X,U.enc_len]
  have hin:(U.arr m u).enc (ws (L0 v k (U.arr m u).dflt:Vector u.den m) j x)=setAt ((U.arr m u).enc (L0 v k (U.arr m u).dflt)) (j*u.size) (u.enc x):=
   zb (f:=u.enc) (l:=(L0 v k (U.arr m u).dflt:Vector u.den m).toList) (λy _=>u.enc_len y) (u.enc_len x) (by simpa using hj)
  have hout:(U.arr n (.arr m u)).enc (ws v k (ws (L0 v k (U.arr m u).dflt:Vector u.den m) j x))=setAt ((U.arr n (.arr m u)).enc v) (k*(U.arr m u).size) ((U.arr m u).enc (ws (L0 v k (U.arr m u).dflt:Vector u.den m) j x)):=
   zb (f:=(U.arr m u).enc) (l:=v.toList) (λy _=>(U.arr m u).enc_len y) ((U.arr m u).enc_len _) (by simpa using hk)
  have hs:(U.arr n (.arr m u)).enc (ws v k (ws (L0 v k (U.arr m u).dflt:Vector u.den m) j x))=setAt ((U.arr n (.arr m u)).enc v) (k*(U.arr m u).size+j*u.size) (u.enc x):=by
   rw[hout,hin,<-Dy (u:=.arr m u) (v:=v) hk,Mu (by rw[hlen];omega) (by rw[U.enc_len,hS];omega)]
  refine⟨_,?_,by rw[hx,e3],?_,h⟩
  ·rw[iO,C3,c1,e1,e2,a6D,<-c2];rw[Fy _ _ _ _ _ (by rw[hx,a5X,hlen];omega),e,<-Fz,<-hs,a50];rfl
  ·rw[c1,e1,e2,e3];simp only[a5K,a5X,hlen,c2];omega
 ·exact h.elim
def a3o(u:U) (x:u.den) (off:Nat) (v:U) (y:v.den):TQ u.den:=match decEq v u with
 |.isTrue h=>match off with
  |0=>.ret (qK h y)
  |_+1=>.fail
 |.isFalse _=>.ofOpt (ZF u x off v y)
theorem Yd{u:U}{x:u.den}{off:Nat}{v:U}{y:v.den}{s:TSt}{tr:List aQ}{K:u.den->List aQ->Prop}(h:(a3o u x off v y).wpt s tr K):∃r,u.enc r=setAt (u.enc x) off (v.enc y)/\off+v.size<=u.size/\K r tr:=by
 unfold a3o at h;split at h
 ·rename_i e _;split at h
  ·refine⟨_,?_,by rw[e];omega,h⟩;rw[tT];unfold setAt;rw[a6E,a6j,a6X (by rw[U.enc_len,U.enc_len,e];exact a56 _)];simp
  ·exact h.elim
 ·cases he:ZF u x off v y with
  |none=>rw[he]at h;exact h.elim
  |some r=>
   rw[he]at h;obtain⟨h1,h2⟩:=Yc he;exact⟨r,h1,h2,h⟩
def Pj(TU:TypeId->Option U) (t:TypeId) (i:TI) (xs:List TC):TV->TQ (List gT)
 |.o (.c (.ptr id ver off))=>.rdB id λb=>match b.c with
  |some ps=>.req (Nat.beq ver b.ver&&Nat.beq (OV xs) i.size) ((TQ.ofOpt (ZE ps off xs)).bind λqs=>.ret [.b id ⟨b.ver,some qs⟩])
  |none=>.fail
 |.o (.c (.pa id ver off z k))=>.rdB id λb=>match b.c with
  |some ps=>.req (Nat.beq ver b.ver) ((Ph off z k i ps xs).bind λqs=>.ret [.b id ⟨b.ver,some qs⟩])
  |none=>.fail
 |.o (.c (.pb id ver off z k z2 j))=>.rdB id λb=>match b.c with
  |some ps=>.req (Nat.beq ver b.ver) ((HR off z k z2 j i ps xs).bind λqs=>.ret [.b id ⟨b.ver,some qs⟩])
  |none=>.fail
 |.o (.c (.rp id ver k off sz))=>match TU t with
  |some v=>(rD v xs).bind λd=>(pj d.fz).bind λus=>.rdR id λr=>match r.c with
   |some R=>.req (Nat.beq ver r.ver&&Nat.beq sz R.u.size && !R.fr && !(d.fz.contains id)&&Nat.beq v.size i.size) (.req (decide (k<R.l.length))
    ((a3o R.u (R.l.getD k R.u.dflt) off v d.x).bind λx=>.ret (us++[.r id ⟨r.ver,some ⟨R.u,R.l.set k x,R.e,false⟩⟩])))
   |none=>.fail
  |none=>.fail
 |_=>.fail
theorem TN{α β:Type}(f:α->β) (l:List α) (k:Nat) (x:α):(l.set k x).map f=(l.map f).set k (f x):=by
 rw[a8h]
theorem Mw(TU:TypeId->Option U) (t:TypeId) (i:TI) (xs:List TC) (x:TV):Sim US (Pj TU t i xs x) (BP i (C3 xs) x.av):=by
 unfold Pj;split
 ·rename_i id ver off;refine Sim.rdB λb=>?_;obtain⟨bv,c⟩:=b;cases c with
  |none=>exact Sim.fail
  |some ps=>
   refine Sim.chk λh=>?_;rw[a5S]at h;have e1:=a5O h.1;have e2:=a5O h.2;rw[<-wr]at e2;simp only;cases hs:ZE ps off xs with
   |none=>exact Sim.fail
   |some qs=>
    obtain⟨h1,h2⟩:=OW hs;refine Sim.must ⟨e1,e2,by rw[<-e2];exact h2⟩ (Sim.ret ?_);show _=[Upd.b id ⟨bv,some (C3 qs)⟩];rw[h1];rfl
 ·rename_i id ver off z k;refine Sim.rdB λb=>?_;obtain⟨bv,c⟩:=b;cases c with
  |none=>exact Sim.fail
  |some ps=>
   refine Sim.chk λh s tr K hK=>?_;simp only at hK;rw[TQ.wpt_bind]at hK;obtain⟨qs,h1,h2,h3,hK⟩:=Pi hK;refine⟨⟨a5O h,h2,h3⟩,?_⟩;refine⟨_,?_,hK⟩;show _=[Upd.b id ⟨bv,some (C3 qs)⟩];rw[h1];rfl
 ·rename_i id ver off z k z2 j;refine Sim.rdB λb=>?_;obtain⟨bv,c⟩:=b;cases c with
  |none=>exact Sim.fail
  |some ps=>
   refine Sim.chk λh s tr K hK=>?_;simp only at hK;rw[TQ.wpt_bind]at hK;obtain⟨qs,h1,h2,h3,hK⟩:=Mv hK;refine⟨⟨a5O h,h2,h3⟩,?_⟩;refine⟨_,?_,hK⟩;show _=[Upd.b id ⟨bv,some (C3 qs)⟩];rw[h1];rfl
 ·rename_i id ver k off sz;cases TU t with
  |none=>exact Sim.fail
  |some v=>
   show Sim US _ ((ur (C3 xs)).bind λd=>(lV d.2).bind λus=>.rdR id λr=>match r.c with
    |some R=>.req (ver=r.ver/\sz=R.sz/\R.fr=false/\id∉d.2/\k<R.es.length/\d.1.length=i.size/\off+i.size<=sz) (.ret (us++[.r id ⟨r.ver,some ⟨R.es.set k (setAt (R.es.getD k []) off d.1),R.sz,R.e,false⟩⟩]))
    |none=>.fail)
   refine Sim.bind (lg v xs) λd=>Sim.bind (fF d.fz) λus=>Sim.rdR λr=>?_;obtain⟨rv,c⟩:=r;cases c with
   |none=>exact Sim.fail
   |some R=>
    refine Sim.chk λh=>Sim.chk λh0 s tr K hK=>?_;simp only[a5S]at h;obtain⟨⟨⟨⟨a1,a2⟩,a3⟩,a4⟩,a5⟩:=h;have e1:=a5O a1;have e2:=a5O a2;have e5:=a5O a5;have hk:=a5P h0;simp only at hK;rw[TQ.wpt_bind]at hK;obtain⟨x,h1,h2,hK⟩:=Yd hK;have hg:(R.l.map R.u.enc).getD k []=R.u.enc (R.l.getD k R.u.dflt):=vj _ hk _ _;refine⟨⟨e1,e2,by show R.fr=false;simpa using a3,by simpa using a4,?_,?_,?_⟩,⟨_,?_,hK⟩⟩
    ·show k<(R.l.map R.u.enc).length;rw[a5X];exact hk
    ·rw[U.enc_len,e5]
    ·rw[e2,<-e5];exact h2
    ·show us.map gT.upd++[Upd.r id ⟨rv,some ⟨(R.l.map R.u.enc).set k (setAt ((R.l.map R.u.enc).getD k []) off (v.enc d.x)),R.u.size,R.e,false⟩⟩]=US (us++[_]);rw[hg,<-h1,<-TN];simp only[US,a53,a55,a6B];rfl
 ·exact Sim.fail
def Pm(o:Nat):TV->TQ TV
 |.o (.c (.ptr id ver off))=>.rdB id λb=>.req (Nat.beq ver b.ver&&b.c.isSome) (.ret (.o (.c (.ptr id ver (off+o)))))
 |.o (.c (.ep u x off))=>.ret (.o (.c (.ep u x (off+o))))
 |.o (.c (.rp id ver k off sz))=>.rdR id λr=>.req (Nat.beq ver r.ver&&r.c.isSome) (.ret (.o (.c (.rp id ver k (off+o) sz))))
 |_=>.fail
theorem DA(b:TBS):(b.bs.c.isSome)=b.c.isSome:=by simp[TBS.bs]
theorem Pn(b:TRS):(b.rs.c.isSome)=b.c.isSome:=by simp[TRS.rs]
theorem Mx(o:Nat) (x:TV):Sim TV.av (Pm o x) (ES o x.av):=by
 unfold Pm;split
 ·refine Sim.rdB λb=>Sim.req (λh=>?_) λ_=>Sim.ret rfl;rw[a5S]at h;exact⟨a5O h.1,by rw[DA];exact h.2⟩
 ·refine Sim.ret ?_;simp only[TV.av,T1.av,TC.cells,lf,a6A]
 ·refine Sim.rdR λb=>Sim.req (λh=>?_) λ_=>Sim.ret rfl;rw[a5S]at h;exact⟨a5O h.1,by rw[Pn];exact h.2⟩
 ·exact Sim.fail
def Po(z:Nat) (k:Int):TV->TQ TV
 |.o (.c (.ch (.sl u) l))=>.req (Nat.beq u.size z) (.req (decide (0<=k/\k<(List.length l:Nat))) (.ret (.o (.c (.ep u (List.getD l k.toNat u.dflt) 0)))))
 |.o (.c (.row id ver))=>.rdR id λr=>match r.c with
  |some R=>.req (Nat.beq ver r.ver&&Nat.beq R.u.size z&&decide (R.e<jn)) (.req (decide (0<=k/\k<(R.l.length:Nat))) (.ret (.o (.c (.rp id ver k.toNat 0 z)))))
  |none=>.fail
 |_=>.fail
theorem My(z:Nat) (k:Int) (x:TV):Sim TV.av (Po z k x) (ET z k x.av):=by
 unfold Po;split
 ·rename_i u l;refine Sim.chk λh=>Sim.chk λh0=>?_;have e1:=a5O h;have hk:=a5P h0;have hk2:k.toNat<List.length l:=by omega
  have hg:(List.map u.enc l).getD k.toNat []=u.enc (List.getD l k.toNat u.dflt):=vj _ hk2 _ _;show Sim TV.av _ (.req (0<=k/\k<(List.map u.enc l).length/\((List.map u.enc l).getD k.toNat []).length=z) (.ret (.c (.eptr ((List.map u.enc l).getD k.toNat [])))));rw[hg];have hlen:(List.map u.enc l).length=List.length l:=a5X ..;exact Sim.must ⟨hk.1,by rw[hlen];exact hk.2,by rw[U.enc_len,e1]⟩ (Sim.ret rfl)
 ·rename_i id ver;refine Sim.rdR λr=>?_;obtain⟨rv,c⟩:=r;cases c with
  |none=>exact Sim.fail
  |some R=>
   refine Sim.chk λh=>Sim.chk λh0=>?_;rw[a5S,a5S]at h;have hk:=a5P h0;refine Sim.must ⟨a5O h.1.1,hk.1,?_,a5O h.1.2,a5P h.2⟩ (Sim.ret rfl);show k<(R.l.map R.u.enc).length;rw[a5X];exact hk.2
 ·exact Sim.fail
def HS(n z:Nat) (k:Int):TV->TQ TV
 |.o (.c (.ptr id ver off))=>.rdB id λb=>.req (Nat.beq ver b.ver&&b.c.isSome) (.req (decide (0<=k/\k<(n:Int))) (.ret (.o (.c (.pa id ver off z k.toNat)))))
 |.o (.c (.pa id ver off z' k'))=>.rdB id λb=>.req (Nat.beq ver b.ver&&b.c.isSome) (.req (decide (0<=k/\k<(n:Int))) (.ret (.o (.c (.pb id ver off z' k' z k.toNat)))))
 |.o (.c (.ep u x off))=>.req (decide (0<=k/\k<(n:Int))) (.ret (.o (.c (.ex u x off z k.toNat))))
 |_=>.fail
theorem HT(n z:Nat) (k:Int) (x:TV):Sim TV.av (HS n z k x) (zF n z k x.av):=by
 unfold HS;split
 ·refine Sim.rdB λb=>Sim.chk λh=>Sim.req (λh0=>?_) λ_=>Sim.ret rfl;rw[a5S]at h;have hk:=a5P h0;exact⟨hk.1,hk.2,a5O h.1,by rw[DA];exact h.2⟩
 ·refine Sim.rdB λb=>Sim.chk λh=>Sim.req (λh0=>?_) λ_=>Sim.ret rfl;rw[a5S]at h;have hk:=a5P h0;exact⟨hk.1,hk.2,a5O h.1,by rw[DA];exact h.2⟩
 ·refine Sim.req a5P λ_=>Sim.ret ?_;simp only[TV.av,T1.av,TC.cells,lf,a6A]
 ·exact Sim.fail
def HU(u:U) (n:Nat) (ie:TI) (k:Int):TV->TQ TV
 |.o (.agg ps)=>(rD (.arr n u) ps).bind λd=>.req (d.fz.isEmpty&&Nat.beq u.size ie.size&&decide (0<=k/\k<n)) (TA ie [.ch u (L0 (d.x:Vector u.den n) k.toNat u.dflt)])
 |_=>.fail
theorem HV(u:U) (n:Nat) (ie:TI) (k:Int) (x:TV):Sim TV.av (HU u n ie k x) (CW n ie k x.av):=by
 unfold HU;split
 ·rename_i ps;refine Sim.bind (lg (.arr n u) ps) λd=>Sim.chk λh=>?_;simp only[a5S]at h;obtain⟨⟨h1,h2⟩,h3⟩:=h;have h2:=a5O h2;have h3:=a5P h3;have hk:k.toNat<n:=by omega
  refine Sim.must ⟨List.isEmpty_iff.1 h1,h3.1,h3.2,by rw[<-h2];exact U.enc_len (.arr n u) d.x⟩ ?_;have key:((((U.arr n u).enc d.x).drop (k.toNat*ie.size)).take ie.size).map AC.d=C3 [.ch u (L0 (d.x:Vector u.den n) k.toNat u.dflt)]:=by
   rw[<-h2];exact(congrArg (List.map AC.d) (Dy (v:=(d.x:Vector u.den n)) hk)).trans (a5Z _).symm
  rw[key];exact tY ie _
 ·exact Sim.fail
def HW(off:Nat) (ie:TI):TV->TQ TV
 |.o (.agg ps)=>(TQ.ofOpt (Wy off ie.size ps)).bind λqs=>TA ie qs
 |_=>.fail
theorem HX(off:Nat) (ie:TI) (x:TV):Sim TV.av (HW off ie x) (zG off ie x.av):=by
 unfold HW;split
 ·rename_i ps;refine ze (q:=zG off ie (TV.av (.o (.agg ps)))) λqs h1 h2=>?_;show Sim TV.av (TA ie qs) (asV ie (((C3 ps).drop off).take ie.size));rw[<-h1];exact tY ie _
 ·exact Sim.fail
theorem Ch{u:U}:∀(l:List u.den) (n:Nat),l.length=n->rz u.size n (l.flatMap u.enc)=l.map u.enc
 |[],n,h=>by subst h;rfl
 |a::l,n,h=>by
  subst h;have e:(u.enc a).length=u.size:=u.enc_len a;show((u.enc a++l.flatMap u.enc).take u.size)::rz u.size l.length ((u.enc a++l.flatMap u.enc).drop u.size)=u.enc a::l.map u.enc;rw[<-e,a6H,a6s,e,Ch l _ rfl]
def Ye(d k:Nat) (f:FuncId):TV->TQ (List gT)
 |.o (.c (.ptr id ver off))=>.rdB id λb=>match b.c with
  |some [.ch u x]=>.req (Nat.beq off 0&&Nat.beq ver b.ver && !(Nat.beq k d)) (.ret [.b id ⟨b.ver,none⟩,.t k ⟨true,.o (.c (.ep u x 0))⟩,.t d ⟨true,.o (.c (.clo f u x))⟩])
  |_=>.fail
 |.o (.c (.ep u x off))=>.req (Nat.beq off 0) (.ret [.t d ⟨true,.o (.c (.clo f u x))⟩])
 |_=>.fail
theorem Pp(d k:Nat) (f:FuncId) (x:TV):Sim US (Ye d k f x) (a2U d k f x.av):=by
 unfold Ye;split
 ·refine Sim.rdB λb=>?_;obtain⟨bv,c⟩:=b;simp only;split
  ·rename_i u x;show Sim US _ ((ur (C3 [.ch u x])).bind λy=>Q.req _ (.ret _));have e:C3 [.ch u x]=(u.enc x).map .d:=a5Z _;rw[e];intro s tr K h;rw[Q.wpt_bind];refine HO s.st ⟨?_,?_⟩
   ·have h1:=h.1;rw[a5S,a5S]at h1;exact⟨a5O h1.1.1,a5O h1.1.2,rfl,λe=>by have h2:=h1.2;rw[e,a8G]at h2;cases h2⟩
   ·exact⟨_,rfl,h.2⟩
  ·exact Sim.fail
 ·exact Sim.chk λh=>by rw[a5O h];exact Sim.ret rfl
 ·exact Sim.fail
def ekT(k:Option Nat) (u:U) (x:u.den):List gT:=match k with
 |some k=>[.t k ⟨true,.o (.c (.ep u x 0))⟩]
 |none=>[]
theorem WC(k:Option Nat) (u:U) (x:u.den):US (ekT k u x)=eK k (u.enc x):=by cases k <;> rfl
def Yf(k:Option Nat) (a:TV) (us:List gT):TQ (List gT):=match a with
 |.o (.c (.ptr id ver off))=>match us with
  |[.b _ ⟨_,some [.ch u x]⟩]=>.req (Nat.beq off 0) (.ret (.b id ⟨ver,none⟩::ekT k u x))
  |_=>.fail
 |.o (.c (.rp _ _ _ _ _))=>.ret us
 |_=>.fail
def HY(i:TI) (k:Option Nat) (a:TV) (us:List gT):TQ (List gT):=if(i.cut&&Xw i.k)=true then Yf k a us else .ret us
theorem WD:∀ds:List DV,Xx (ds.map .d)=some ds
 |[]=>rfl
 |d::ds=>by simp only[a55,Xx,WD ds,a6e]
theorem Pq(k:Option Nat) (a:TV) (us:List gT):Sim US (Yf k a us) (Xy k a.av (US us)):=by
 unfold Yf;split
 ·rename_i id ver off;split
  ·rename_i id' ver' u x;have e:US [.b id' ⟨ver',some [.ch u x]⟩]=[.b id' ⟨ver',some ((u.enc x).map .d)⟩]:=by
    show [Upd.b id' ⟨ver',some (C3 [.ch u x])⟩]=_;have e:C3 [.ch u x]=(u.enc x).map .d:=a5Z _;rw[e]
   rw[e];show Sim US _ ((Q.ofOpt (Xx ((u.enc x).map .d))).bind λds=>Q.req (off=0) (Q.ret (Upd.b id ⟨ver,none⟩::eK k ds)));rw[WD];refine Sim.req (λh=>a5O h) λ_=>Sim.ret ?_;rw[<-WC];rfl
  ·exact Sim.fail
 ·exact Sim.ret rfl
 ·exact Sim.fail
theorem HZ(i:TI) (k:Option Nat) (a:TV) (us:List gT):Sim US (HY i k a us) (wb i k a.av (US us)):=by
 unfold HY wb;split
 ·exact Pq k a us
 ·exact Sim.ret rfl
def a4o(n:Nat) (l h:Option Int):Bool:=decide (0<=l.getD 0/\l.getD 0<=h.getD n/\h.getD n<=n)
theorem Kj{α β:Type}(f:α->β) (l h:Option Int) (n:Nat) (xs:List α):(LU l h n xs).map f=LU l h n (xs.map f):=by
 unfold LU;split
 ·rfl
 ·rw[a7p,a65]
def Ia(d k:Option Nat) (u:U) (n:Nat) (ie:TI) (l h:Option Int):TV->TQ (List gT)
 |.o (.c (.ptr id ver off))=>(TQ.ofOpt d).bind λd=>.rdB id λb=>match b.c with
  |some ps=>(rD (.arr n u) ps).bind λy=>.req (Nat.beq off 0&&Nat.beq ver b.ver&&y.fz.isEmpty&&Nat.beq u.size ie.size&&Nat.blt 0 u.size&&Nat.ble n maxLen&&a4o n l h) (.ret (.b id ⟨b.ver,none⟩::(ekT k (.arr n u) y.x++[.t d ⟨true,.o (.c (.ch (.sl u) (LU l h n (Vector.toList (y.x:Vector u.den n)))))⟩])))
  |none=>.fail
 |.o (.c (.ep w x off))=>(TQ.ofOpt d).bind λd=>match decEq w (.arr n u) with
  |.isTrue e=>.req (Nat.beq off 0&&Nat.beq u.size ie.size&&Nat.blt 0 u.size&&Nat.ble n maxLen&&a4o n l h) (.ret [.t d ⟨true,.o (.c (.ch (.sl u) (LU l h n (Vector.toList (qK e x:Vector u.den n)))))⟩])
  |.isFalse _=>.fail
 |_=>.fail
theorem FC{u:U}{n z:Nat}(hz:u.size=z) (x:Vector u.den n):rz z n ((U.arr n u).enc x)=(Vector.toList x).map u.enc:=by
 rw[<-hz];exact Ch (Vector.toList x) n (a6F)
theorem Ib(d k:Option Nat) (u:U) (n:Nat) (ie:TI) (l h:Option Int) (x:TV):Sim US (Ia d k u n ie l h x) (uZ d k n ie.size l h x.av):=by
 unfold Ia;split
 ·rename_i id ver off;refine Sim.bind (bz d) λd=>?_;show Sim US _ (xn d k n ie.size l h (.ptr id ver off));unfold xn;refine Sim.rdB λb=>?_;obtain⟨bv,c⟩:=b;cases c with
  |none=>exact Sim.fail
  |some ps=>
   refine Sim.bind (lg (.arr n u) ps) λy=>Sim.chk λh1=>?_;simp only[a5S]at h1;obtain⟨⟨⟨⟨⟨⟨a1,a2⟩,a3⟩,a4⟩,a5⟩,a6⟩,a7⟩:=h1;have a4:=a5O a4;obtain⟨b0,b1,b2⟩:=a5P a7;refine Sim.must ⟨a5O a1,a5O a2,List.isEmpty_iff.1 a3,by rw[<-a4];exact U.enc_len (.arr n u) y.x,by rw[<-a4];exact a58 a5,a58 a6,b0,b1,b2⟩ (Sim.ret ?_);have key:=FC a4 (y.x:Vector u.den n);show Upd.b id ⟨bv,none⟩::(eK k ((U.arr n u).enc y.x)++[Upd.t d ⟨true,.c (.d (.sl (LU l h n (rz ie.size n ((U.arr n u).enc y.x)))))⟩])=Upd.b id ⟨bv,none⟩::(US (ekT k (.arr n u) y.x++[_]));simp only[US,a53];have:=WC k (.arr n u) y.x;simp only[US]at this;rw[this,key,<-Kj];rfl
 ·rename_i w x off;refine Sim.bind (bz d) λd=>?_;split
  ·rename_i e _;subst e;refine Sim.chk λh1=>?_;simp only[a5S]at h1;obtain⟨⟨⟨⟨a1,a4⟩,a5⟩,a6⟩,a7⟩:=h1;have a1:=a5O a1;subst a1;have a4:=a5O a4;obtain⟨b0,b1,b2⟩:=a5P a7;show Sim US _ (xn d k n ie.size l h (.eptr ((U.arr n u).enc x)));unfold xn;refine Sim.must ⟨by rw[<-a4];exact U.enc_len (.arr n u) x,by rw[<-a4];exact a58 a5,a58 a6,b0,b1,b2⟩ (Sim.ret ?_);have key:=FC a4 (x:Vector u.den n);show [Upd.t d ⟨true,.c (.d (.sl (LU l h n (rz ie.size n ((U.arr n u).enc x)))))⟩]=US [_];rw[key,<-Kj];rfl
  ·exact Sim.fail
 ·exact Sim.fail
def Ic(k:Int):TV->TQ TV
 |.o (.c (.ch .str l))=>.req (decide (0<=k/\k<(List.length l:Nat))) (.ret (c1 .byte (List.getD l k.toNat (0:UInt8))))
 |_=>.fail
theorem Id(l:List UInt8):(⟨l.toArray⟩:ByteArray).size=l.length:=by simp[ByteArray.size]
theorem Ie(k:Int) (x:TV):Sim TV.av (Ic k x) (zH k x.av):=by
 unfold Ic;split
 ·refine Sim.req (λh0=>?_) λ_=>Sim.ret rfl;have hk:=a5P h0;exact⟨hk.1,(congrArg (λn:Nat=>k<(n:Int)) (Id _)).mpr hk.2⟩
 ·exact Sim.fail
def a3p:TV->TQ Nat
 |.o (.c (.ch (.sl _) l))=>.ret (List.length l)
 |.o (.c .nil)=>.ret 0
 |.o (.c (.row id ver))=>.rdR id λr=>match r.c with
  |some R=>.req (Nat.beq ver r.ver&&decide (R.e<jn)) (.ret R.l.length)
  |none=>.fail
 |_=>.fail
theorem TO(x:TV):Sim id (a3p x) (a2S x.av):=by
 unfold a3p;split
 ·exact Sim.ret (a5X ..)
 ·exact Sim.ret rfl
 ·refine Sim.rdR λr=>?_;obtain⟨rv,c⟩:=r;cases c with
  |none=>exact Sim.fail
  |some R=>exact Sim.req (λh=>by rw[a5S]at h;exact⟨a5O h.1,a5P h.2⟩) λ_=>Sim.ret (by simp[yF.row])
 ·exact Sim.fail
def If:TV->TQ Nat
 |.o (.c (.ch .str l))=>.ret (List.length l)
 |_=>.fail
theorem Ig(x:TV):Sim id (If x) (Hs x.av):=by
 unfold If;split
 ·exact Sim.ret (Id _)
 ·exact Sim.fail
def DB(u:U) (x:TC):TQ (Pa (List u.den)):=.req (is1 x) (rD (.sl u) [x])
theorem vk(u:U) (x:TC):Sim (λp:Pa (List u.den)=>(DV.sl (p.x.map u.enc),p.fz)) (DB u x) (toD (lf x.cells)):=by
 refine Sim.chk λh s tr K hK=>?_;have e:C3 [x]=[lf x.cells]:=(a5Z _).trans (yl h);have h1:=lg (.sl u) [x] s tr K hK;rw[e]at h1;simp only[ur,Q.wpt_bind,Q.wpt]at h1;refine Q.wpt_mono h1 ?_;rintro⟨d,fz⟩ rs ⟨p,hp,hk⟩;injection hp with hp1 hp2;refine⟨p,?_,hk⟩;simp only[a5Z]at hp2;injection hp1 with hp1 _;simp only at hp1 hp2;rw[hp1,hp2]
def WE(d:Nat) (u:U) (lo hi:Option Int) (x:TC):TQ (List gT):=(DB u x).bind λy=>(pj y.fz).bind λus=>
 .req (decide (0<=lo.getD 0/\lo.getD 0<=hi.getD (y.x.length:Nat)/\hi.getD (y.x.length:Nat)<=(y.x.length:Nat))) (.ret (us++[.t d ⟨true,c1 (.sl u) ((y.x.take (hi.getD (y.x.length:Nat)).toNat).drop (lo.getD 0).toNat)⟩]))
def a4p(d:Nat) (u:U) (hi:Option Int):TC->TQ (List gT)
 |.row id ver=>.rdR d λrd=>.rdR id λr=>match r.c with
  |some R=>match decEq R.u u with
   |.isTrue h=>.req (Nat.beq ver r.ver&&Nat.blt R.e jn && !R.fr&&decide (0<=hi.getD ((h▸R.l:List u.den).length:Nat)/\hi.getD ((h▸R.l:List u.den).length:Nat)<=((h▸R.l:List u.den).length:Nat)))
    (.ret [.r id ⟨r.ver,none⟩,.r d ⟨rd.ver+1,some ⟨u,(h▸R.l:List u.den).take (hi.getD ((h▸R.l:List u.den).length:Nat)).toNat,R.e,false⟩⟩,.t d ⟨true,.o (.c (.row d (rd.ver+1)))⟩])
   |.isFalse _=>.fail
  |none=>.fail
 |_=>.fail
theorem TP(d z:Nat) (u:U) (hz:u.size=z) (hi:Option Int) (x:TC):Sim US (a4p d u hi x) (Xv d z hi (lf x.cells)):=by
 cases x <;> try exact Sim.fail
 case row id ver=>
  refine Sim.rdR λrd=>Sim.rdR λr=>?_;obtain⟨rv,c⟩:=r;cases c with
  |none=>exact Sim.fail
  |some R=>
   obtain⟨ru,rl,re,rf⟩:=R;simp only;split
   ·rename_i hu he;clear he;change ru=u at hu;subst hu;have hl:((rl.map ru.enc).length:Int)=(rl.length:Nat):=by rw[a5X]
    show Sim US _ (.req (_/\_/\_/\_/\0<=hi.getD ((rl.map ru.enc).length:Nat)/\hi.getD ((rl.map ru.enc).length:Nat)<=((rl.map ru.enc).length:Nat)) (.ret [.r id ⟨rv,none⟩,.r d ⟨_,some ⟨(rl.map ru.enc).take (hi.getD ((rl.map ru.enc).length:Nat)).toNat,ru.size,re,false⟩⟩,_]));rw[hl];refine Sim.req (λh=>?_) λ_=>Sim.ret ?_
    ·simp only[a5S]at h;obtain⟨⟨⟨a1,a2⟩,a3⟩,a4⟩:=h;exact⟨a5O a1,a58 a2,by show rf=false;simpa using a3,hz,a5P a4⟩
    ·simp only[US,a55,a6B,<-a65];rfl
   ·exact Sim.fail
def a0A(u:U) (l:Option Int):TC->TQ TV
 |.row id ver=>.rdR id λr=>match r.c with
  |some R=>match decEq R.u u with
   |.isTrue h=>.req (Nat.beq ver r.ver&&Nat.blt R.e jn&&decide (0<=l.getD 0/\l.getD 0<=((h▸R.l:List u.den).length:Nat))) (.ret (.rtl id ver (l.getD 0).toNat u.size))
   |.isFalse _=>.fail
  |none=>.fail
 |_=>.fail
theorem Pr(z:Nat) (u:U) (hz:u.size=z) (l:Option Int) (x:TC):Sim TV.av (a0A u l x) (Ht z l (lf x.cells)):=by
 cases x <;> try exact Sim.fail
 case row id ver=>
  refine Sim.rdR λr=>?_;obtain⟨rv,c⟩:=r;cases c with
  |none=>exact Sim.fail
  |some R=>
   obtain⟨ru,rl,re,rf⟩:=R;simp only;split
   ·rename_i hu he;clear he;change ru=u at hu;subst hu;have hl:((rl.map ru.enc).length:Int)=(rl.length:Nat):=by rw[a5X]
    show Sim TV.av _ (.req (_/\_/\_/\0<=l.getD 0/\l.getD 0<=((rl.map ru.enc).length:Nat)) (.ret (.rtl id ver (l.getD 0).toNat z)));rw[hl,<-hz];refine Sim.req (λh=>?_) λ_=>Sim.ret rfl;simp only[a5S]at h;obtain⟨⟨a1,a2⟩,a4⟩:=h;exact⟨a5O a1,a58 a2,rfl,a5P a4⟩
   ·exact Sim.fail
theorem Ci(u:U) (l:List u.den):BQ u.size (l.map u.enc):=λe he=>by
 obtain⟨x,_,rfl⟩:=List.mem_map.1 he;exact u.enc_len x
theorem Mz(d z:Nat) (u:U) (hz:u.size=z) (lo hi:Option Int) (x:TC):Sim US (WE d u lo hi x) (BR d z lo hi (lf x.cells)):=by
 refine Sim.bind (vk u x) λy=>Sim.bind (fF y.fz) λus=>?_;have hl:((y.x.map u.enc).length:Int)=(y.x.length:Nat):=by rw[a5X]
 show Sim US _ (.req (BQ z (y.x.map u.enc)/\0<=lo.getD 0/\lo.getD 0<=hi.getD ((y.x.map u.enc).length:Nat)/\hi.getD ((y.x.map u.enc).length:Nat)<=((y.x.map u.enc).length:Nat)) (.ret (US us++[.t d ⟨true,.c (.d (.sl (((y.x.map u.enc).take (hi.getD ((y.x.map u.enc).length:Nat)).toNat).drop (lo.getD 0).toNat)))⟩])));rw[hl];refine Sim.req (λh=>?_) λ_=>Sim.ret ?_
 ·have h1:=a5P h;exact⟨hz▸Ci u _,h1⟩
 ·simp only[US,a53,a55,a6B,<-a65,<-a7p];rfl
def Ih(lo hi:Option Int):TV->TQ TV
 |.o (.c (.ch .str l))=>.req (decide (0<=lo.getD 0/\lo.getD 0<=hi.getD (List.length l:Nat)/\hi.getD (List.length l:Nat)<=(List.length l:Nat))) (.ret (c1 .str ((List.take (hi.getD (List.length l:Nat)).toNat l).drop (lo.getD 0).toNat)))
 |_=>.fail
theorem MA(l:List UInt8) (a b:Nat):(⟨l.toArray⟩:ByteArray).extract a b=⟨((l.take b).drop a).toArray⟩:=by
 apply ByteArray.ext;rw[ByteArray.data_extract];simp only[List.extract_toArray,List.extract_eq_take_drop];rw[a8l]
theorem Ii(lo hi:Option Int) (x:TV):Sim TV.av (Ih lo hi x) (uY lo hi x.av):=by
 unfold Ih;split
 ·rename_i l;have hl:((⟨List.toArray l⟩:ByteArray).size:Int)=(List.length l:Nat):=congrArg Nat.cast (Id l);show Sim TV.av _ (.req (0<=lo.getD 0/\lo.getD 0<=hi.getD ((⟨List.toArray l⟩:ByteArray).size:Nat)/\hi.getD ((⟨List.toArray l⟩:ByteArray).size:Nat)<=((⟨List.toArray l⟩:ByteArray).size:Nat)) (.ret (.c (.d (.v (.string ((⟨List.toArray l⟩:ByteArray).extract (lo.getD 0).toNat (hi.getD ((⟨List.toArray l⟩:ByteArray).size:Nat)).toNat)))))));rw[hl];refine Sim.req (λh=>a5P h) λ_=>Sim.ret ?_;exact congrArg (λb=>AV.c (AC.d (DV.v (Value.string b)))) (MA l _ _)
 ·exact Sim.fail
def FD{α β:Type}(eq:α->α->Bool) (k:α):List (α×β)->Option Nat
 |[]=>none
 |p::l=>if eq k p.1 then some 0 else(FD eq k l).map (· + 1)
def WF{α β:Type}(eq:α->α->Bool) (k:α) (v:β) (l:List (α×β)):List (α×β):=match FD eq k l with
 |some i=>l.set i (k,v)
 |none=>l++[(k,v)]
def a5g{α β:Type}(eq:α->α->Bool) (k:α) (d:β) (l:List (α×β)):β:=((FD eq k l).bind λi=>(l[i]?).map (·.2)).getD d
def TS:(K:U)->K.den->Option Value
 |.int k,n=>some (.int k n)
 |.str,l=>some (.string ⟨List.toArray l⟩)
 |_,_=>none
theorem Kk:∀{K:U}{k:K.den}{v:Value},TS K k=some v->K.enc k=[.v v]
 |.int _,_,_,h=>by injection h with h;subst h;rfl
 |.str,_,_,h=>by injection h with h;subst h;rfl
theorem Ps:∀{K:U}{a b:K.den}{x y:Value},TS K a=some x->TS K b=some y->uN x y=K.beq a b
 |.int _,a,b,_,_,h1,h2=>by
  injection h1 with h1;injection h2 with h2;subst h1;subst h2;have e:∀m n:Int,decide (m=n)=TF m n:=λm n=>by rw[<-Pe,a7e];rfl
  exact e a b
 |.str,a,b,_,_,h1,h2=>by
  injection h1 with h1;injection h2 with h2;subst h1;subst h2;have e:∀m n:List UInt8,decide ((⟨m.toArray⟩:ByteArray).data.toList=(⟨n.toArray⟩:ByteArray).data.toList)=Bo m n:=λm n=>by
   rfl
  exact e a b
theorem TT:∀{K:U}{a:K.den}{x:Value},TS K a=some x->∀b:K.den,∃y,TS K b=some y
 |.int _,_,_,_,_=>⟨_,rfl⟩
 |.str,_,_,_,_=>⟨_,rfl⟩
theorem Cj{K V:U}{k:K.den}{kv:Value}(hk:TS K k=some kv):∀l:List (K.den×V.den),CT kv (l.map (U.pr K V).enc)=FD K.beq k l
 |[]=>rfl
 |p::l=>by
  obtain⟨y,hy⟩:=TT hk p.1;have e1:(U.pr K V).enc p= .v y::V.enc p.2:=by show K.enc p.1++V.enc p.2=_;rw[Kk hy];rfl
  have e2:CT kv ((U.pr K V).enc p::List.map (U.pr K V).enc l)=FD K.beq k (p::l):=by
   rw[e1];unfold CT FD;show(if uN kv y=true then some 0 else(CT kv (List.map (U.pr K V).enc l)).map (· + 1))=_
   rw[Ps hk hy,Cj hk l]
  exact e2
theorem Pt{K V:U}{k:K.den}{kv:Value}(hk:TS K k=some kv) (v:V.den):(U.pr K V).enc (k,v)= .v kv::V.enc v:=by
 show K.enc k++V.enc v=_;rw[Kk hk];rfl
theorem MB{K V:U}{k:K.den}{kv:Value}(hk:TS K k=some kv) (v:V.den) (l:List (K.den×V.den)):SA kv (V.enc v) (l.map (U.pr K V).enc)=(WF K.beq k v l).map (U.pr K V).enc:=by
 unfold SA WF;rw[Cj hk];cases FD K.beq k l with
 |none=>
  show l.map (U.pr K V).enc++[.v kv::V.enc v]=(l++[(k,v)]).map (U.pr K V).enc;rw[<-Pt hk v];exact(@List.map_append (U.pr K V).den _ (U.pr K V).enc l [(k,v)]).symm
 |some i=>
  show(l.map (U.pr K V).enc).set i (.v kv::V.enc v)=(l.set i (k,v)).map (U.pr K V).enc;rw[<-Pt hk v];exact(@List.map_set (U.pr K V).den _ (U.pr K V).enc l i (k,v)).symm
def pG:U->List Value
 |.int k=>[.int k 0]
 |.byte=>[.int .u8 0]
 |.bool=>[.bool false]
 |.str=>[.string ⟨#[]⟩]
 |.sl _=>[.slice none 0 0]
 |.pr a b=>pG a++pG b
 |.arr n u=>(List.replicate n (pG u)).flatten
def noSl:U->Bool
 |.sl _=>false
 |.pr a b=>noSl a&&noSl b
 |.arr _ u=>noSl u
 |_=>true
def okZ:U->Bool
 |.pr a b=>okZ a&&okZ b
 |.arr _ u=>noSl u
 |_=>true
def MC:U->List TC
 |.sl _=>[.nil]
 |.pr a b=>MC a++MC b
 |.int k=>[.ch (.int k) (0:Int)]
 |.byte=>[.ch .byte (0:UInt8)]
 |.bool=>[.ch .bool false]
 |.str=>[.ch .str ([]:List UInt8)]
 |.arr n u=>[.ch (.arr n u) (U.arr n u).dflt]
theorem Ag:∀(u:U),(pG u).map ph=u.enc u.dflt
 |.int _=>rfl
 |.byte=>rfl
 |.bool=>rfl
 |.str=>rfl
 |.sl _=>rfl
 |.pr a b=>by
  show(pG a++pG b).map ph=a.enc a.dflt++b.enc b.dflt;rw[a53,Ag a,Ag b]
 |.arr n u=>by
  show((List.replicate n (pG u)).flatten).map ph=(Vector.toList (Vector.replicate n u.dflt)).flatMap u.enc;rw[Vector.toList_replicate,a72,a69,Ag u,List.flatMap_def,a69]
theorem tZ:∀(u:U),noSl u=true->(pG u).map iG=((pG u).map ph).map .d
 |.int _,_=>rfl
 |.byte,_=>rfl
 |.bool,_=>rfl
 |.str,_=>rfl
 |.sl _,h=>by cases h
 |.pr a b,h=>by
  simp only[noSl,a5S]at h;show(pG a++pG b).map iG=((pG a++pG b).map ph).map .d;rw[a53,a53,a53,tZ a h.1,tZ b h.2]
 |.arr n u,h=>by
  show((List.replicate n (pG u)).flatten).map iG=(((List.replicate n (pG u)).flatten).map ph).map .d;rw[a72,a69,tZ u h,a72,a69,a72,a69]
theorem DC:∀(u:U),okZ u=true->C3 (MC u)=(pG u).map iG
 |.int _,_=>rfl
 |.byte,_=>rfl
 |.bool,_=>rfl
 |.str,_=>rfl
 |.sl _,_=>rfl
 |.pr a b,h=>by
  simp only[okZ,a5S]at h;show C3 (MC a++MC b)=(pG a++pG b).map iG;rw[iO,DC a h.1,DC b h.2,a53]
 |.arr n u,h=>by
  rw[tZ (.arr n u) h,Ag];exact iP _ _
def Yg:Value->Value->Bool
 |.int k n,.int k' n'=>decide (k=k')&&decide (n=n')
 |.bool a,.bool b=>a==b
 |.string a,.string b=>decide (a.data.toList=b.data.toList)
 |.slice none 0 0,.slice none 0 0=>true
 |_,_=>false
theorem TW{a b:Value}(h:Yg a b=true):a=b:=by
 unfold Yg at h;split at h
 ·rw[a5S,a5M,a5M]at h;rw[h.1,h.2]
 ·rw[beq_iff_eq]at h;rw[h]
 ·rename_i a b;have h:=a5P h;obtain⟨⟨a⟩⟩:=a;obtain⟨⟨b⟩⟩:=b;simp only at h;rw[h]
 ·rfl
 ·cases h
def Ij:List Value->List Value->Bool
 |[],[]=>true
 |a::as,b::bs=>Yg a b&&Ij as bs
 |_,_=>false
theorem wt:∀{a b:List Value},Ij a b=true->a=b
 |[],[],_=>rfl
 |a::as,b::bs,h=>by
  simp only[Ij,a5S]at h;rw[TW h.1,wt h.2]
def isKey:U->Bool
 |.int _=>true
 |.str=>true
 |_=>false
def kOk:TK->U->Bool
 |.int q,.int k=>decide (k=q)
 |.str,.str=>true
 |.arr n _,.str=>Nat.ble n 1000
 |_,_=>false
def kU:U->U
 |.arr _ .byte=>.str
 |u=>u
theorem Kl:∀{K:U},isKey K=true->∀k:K.den,TS K k=some (yi K k)
 |.int _,_,_=>rfl
 |.str,_,_=>rfl
theorem Pu{n:Nat}{e:TypeId}(h:Nat.ble n 1000=true):wid (.arr n e)=some n:=a5W (a58 h)
theorem a0B:∀{q:TK}{K:U},kOk q K=true->∀k:K.den,wid q=none->KK q (yi K k)
 |.int q,.int k,h,_,_=>(a5P h:k=q)
 |.str,.str,_,_,_=>trivial
 |.arr n _,.str,h,_,hw=>by rw[Pu h]at hw;cases hw
theorem a0C:∀{q:TK}{K:U},kOk q K=true->∀k:K.den,KA q (yi K k)
 |.int q,.int k,h,_=>(a5P h:k=q)
 |.str,.str,_,_=>trivial
 |.arr n e,.str,h,_=>by unfold KA;rw[Pu h];trivial
theorem FE{q:TK}{K V:U}(hk:isKey K=true) (ho:kOk q K=true) (l:List (K.den×V.den)):BU q (l.map (U.pr K V).enc):=λe he=>by
 obtain⟨p,_,rfl⟩:=List.mem_map.1 he;exact⟨yi K p.1,V.enc p.2,Pt (Kl hk p.1) p.2,a0C ho p.1⟩
def a4q:TK->Bool
 |.int .u8=>true
 |_=>false
theorem Yh:∀{k:TK},a4q k=true->k= .int .u8
 |.int .u8,_=>rfl
def Yi(T:TypeId->Option TI) (ik:TI) (K:U) (x:TV):TQ K.den:=match ik.k with
 |.arr n e=>(TQ.ofOpt (T e)).bind λie=>match x with
  |.o (.agg [.ch (.arr m .byte) v])=>match decEq U.str K with
   |.isTrue h=>.req (a4q ie.k&&Nat.ble n 1000&&Nat.beq ie.size 1&&Nat.beq ik.size n&&decide (ik.cmp=List.replicate n (.i .u8))&&Nat.blt 0 n&&Nat.beq m n) (.req true (.ret (qK h (Vector.toList v))))
   |.isFalse _=>.fail
  |_=>.fail
 |_=>match x with
  |.o (.c (.ch u x))=>match decEq u K with
   |.isTrue h=>.req true (.ret (qK h x))
   |.isFalse _=>.fail
  |_=>.fail
theorem Yj(b:UInt8):unB (bAC b)=b:=by
 show UInt8.ofNat ((b.toNat:Int)).toNat=b;rw[a5J];exact UInt8.ofNat_toNat
theorem Pv(l:List UInt8):(l.map bAC).map unB=l:=by
 rw[a7v]
 conv=>rhs;rw[<-List.map_id l]
 exact a7d λb _=>Yj b
theorem Ik{m:Nat}(v:Vector UInt8 m):C3 [.ch (.arr m .byte) v]=(Vector.toList v).map bAC:=by
 show(((Vector.toList v).flatMap λb=>[DV.v (.int .u8 (b.toNat:Int))]).map AC.d)++[]=_;rw[a5Z,List.map_flatMap];generalize Vector.toList v=l
 induction l with
 |nil=>rfl
 |cons b l ih=>rw[a6q,ih];rfl
theorem Il{T:TypeId->Option TI}{ik:TI}(h:∀n e,ik.k= .arr n e->False) (x:AV):Wk T ik x=match x with
  |.c x=>.req (wid ik.k=none) (a2V x)
  |_=>.fail:=by
 unfold Wk;split
 ·rename_i hk;exact(h _ _ hk).elim
 ·rfl
theorem TX{K:U}{T:TypeId->Option TI}{ik:TI}(hk:isKey K=true) (x:TV):Sim (yi K) (Yi T ik K x) (Wk T ik x.av):=by
 unfold Yi;split
 ·rename_i n e hki;unfold Wk;simp only[hki];refine Sim.bind (bz (T e)) λie=>?_;simp only[id];split
  ·rename_i m v;split
   ·rename_i h _;subst h;have hc:=Ik v;refine Sim.req (λh=>?_) λh=>?_
    ·simp only[a5S,a5M]at h;obtain⟨⟨⟨⟨⟨⟨h1,h2⟩,h3⟩,h4⟩,h5⟩,h6⟩,h7⟩:=h;refine⟨a58 h2,Yh h1,a5O h3,a5O h4,h5,a58 h6,?_⟩;rw[hc,a5X];exact(show(Vector.toList (v:Vector UInt8 m)).length=m from a6F).trans (a5O h7)
    ·refine Sim.req (λ_=>?_) λ_=>Sim.ret ?_
     ·rw[hc,Pv]
     ·exact congrArg (λl:List UInt8=>Value.string ⟨l.toArray⟩) ((congrArg (List.map unB) hc).trans (Pv _))
   ·exact Sim.fail
  ·exact Sim.fail
 ·rename_i hna;rw[Il hna];split
  ·rename_i u y;split
   ·rename_i h _;subst h;refine Sim.req (λ_=>SY hna) λ_=>?_;cases u <;> first | exact Sim.ret rfl | cases hk
   ·exact Sim.fail
  ·exact Sim.fail
structure Lk (α:Type) where
 x:α
 b:Bool
def a5h(K V:U) (ik iv:TI) (k:K.den):TV->TQ (Lk V.den)
 |.o (.c (.row id ver))=>.rdR id λr=>match r.c with
  |some R=>match decEq R.u (.pr K V) with
   |.isTrue h=>.req (Nat.beq ver r.ver&&Nat.beq R.e (mW ik.k iv.agg)) (.ret ⟨a5g K.beq k V.dflt (h▸R.l:List (U.pr K V).den),(FD K.beq k (h▸R.l:List (U.pr K V).den)).isSome⟩)
   |.isFalse _=>.fail
  |none=>.fail
 |_=>.fail
def Im(ag:Bool):TV->TQ (List TC)
 |.o (.c x)=>.req (!ag&&is1 x) (.ret [x])
 |.o (.agg xs)=>.req ag (.ret xs)
 |_=>.fail
theorem Io(ag:Bool) (x:TV):Sim C3 (Im ag x) (EU ag x.av):=by
 unfold Im;split
 ·rename_i x;refine Sim.req (λh=>by rw[a5S]at h;simpa using h.1) λh=>Sim.ret ?_;rw[a5S]at h;show [lf x.cells]=x.cells++[];rw[a5Z];exact(yl h.2).symm
 ·exact Sim.req id λ_=>Sim.ret rfl
 ·exact Sim.fail
def Yk(K V:U) (ik iv:TI) (k:K.den) (xs:List TC):TV->TQ (List gT)
 |.o (.c (.row id ver))=>(rD V xs).bind λd=>(pj d.fz).bind λus=>.rdR id λr=>match r.c with
  |some R=>match decEq R.u (.pr K V) with
   |.isTrue h=>.req (Nat.beq ver r.ver&&Nat.beq R.e (mW ik.k iv.agg) && !R.fr && !(d.fz.contains id)) (.ret (us++[.r id ⟨r.ver,some ⟨.pr K V,WF K.beq k d.x (h▸R.l:List (U.pr K V).den),R.e,false⟩⟩]))
   |.isFalse _=>.fail
  |none=>.fail
 |_=>.fail
theorem Pw:∀{K:U},isKey K=true->K.size=1
 |.int _,_=>rfl
 |.str,_=>rfl
theorem Px{K V:U}{ik iv:TI}(hk:isKey K=true) (ho:kOk ik.k K=true) (hs:V.size=iv.size) (k:K.den) (xs:List TC) (x:TV) :
  Sim US (Yk K V ik iv k xs x) (ZV ik iv (yi K k) (C3 xs) x.av):=by
 unfold Yk;split
 ·rename_i id ver;refine Sim.bind (lg V xs) λd=>Sim.bind (fF d.fz) λus=>Sim.rdR λr=>?_;obtain⟨rv,c⟩:=r;cases c with
  |none=>exact Sim.fail
  |some R=>
   obtain⟨ru,rl,re,rf⟩:=R;simp only;split
   ·rename_i hu he;clear he;change ru=U.pr K V at hu;subst hu;refine Sim.req (λh=>?_) λ_=>Sim.ret ?_
    ·simp only[a5S]at h;obtain⟨⟨⟨a1,a2⟩,a3⟩,a4⟩:=h;refine⟨a5O a1,a5O a2,?_,by show rf=false;simpa using a3,by simpa using a4,by rw[U.enc_len,hs],a0B ho k,FE hk ho rl⟩;show K.size+V.size=1+iv.size;rw[Pw hk,hs]
    ·have h1:=MB (V:=V) (Kl hk k) d.x rl;show us.map gT.upd++[Upd.r id ⟨rv,some ⟨SA (yi K k) (V.enc d.x) (rl.map (U.pr K V).enc),(U.pr K V).size,re,false⟩⟩]=US (us++[_]);rw[h1];simp only[US,a53,a55,a6B];rfl
   ·exact Sim.fail
 ·exact Sim.fail
theorem Py{a b:Nat}(h:(!(Nat.beq a b))=true):a≠b:=λe=>by
 subst e;rw[a8G]at h;cases h
def TY(e:Nat):Bool:=Nat.ble LS e&&Nat.blt e qD
theorem Km{e:Nat}(h:(!(TY e))=true):¬lS e:=λk=>by
 have h1:Nat.ble LS e=true:=Nat.ble_eq_true_of_le k.1;have h2:Nat.blt e qD=true:=Nat.ble_eq_true_of_le k.2;unfold TY at h;rw[h1,h2]at h;cases h
def Ip:TV->TQ Nat
 |.o (.c (.row id ver))=>.rdR id λr=>match r.c with
  |some R=>.req (Nat.beq ver r.ver&&Nat.ble jn R.e && !(Nat.beq R.e sw) && !(TY R.e)) (.ret R.l.length)
  |none=>.fail
 |_=>.fail
theorem Iq(x:TV):Sim id (Ip x) (CZ x.av):=by
 unfold Ip;split
 ·refine Sim.rdR λr=>?_;obtain⟨rv,c⟩:=r;cases c with
  |none=>exact Sim.fail
  |some R=>exact Sim.req (λh=>by simp only[a5S]at h;exact⟨a5O h.1.1.1,a58 h.1.1.2,Py h.1.2,Km h.2⟩) λ_=>Sim.ret (by simp[yF.row])
 ·exact Sim.fail
def a3q(u:U) (ie:TI):TV->TQ (List gT)
 |.rtl id ver i z=>.rdR id λr=>match r.c with
  |some R=>match decEq R.u u with
   |.isTrue h=>.req (Nat.beq ver r.ver&&Nat.blt R.e jn && !R.fr&&Nat.beq u.size z&&Nat.beq ie.size z&&Ij (pG u) ie.zero&&decide (i<(h▸R.l:List u.den).length))
    (.ret [.r id ⟨r.ver,some ⟨u,(h▸R.l:List u.den).take i++List.replicate ((h▸R.l:List u.den).length-i) u.dflt,R.e,false⟩⟩])
   |.isFalse _=>.fail
  |none=>.fail
 |_=>.fail
theorem TZ(u:U) (ie:TI) (x:TV):Sim US (a3q u ie x) (a2T ie x.av):=by
 unfold a3q;split
 ·rename_i id ver i z;refine Sim.rdR λr=>?_;obtain⟨rv,c⟩:=r;cases c with
  |none=>exact Sim.fail
  |some R=>
   obtain⟨ru,rl,re,rf⟩:=R;simp only;split
   ·rename_i hu he;clear he;change ru=u at hu;subst hu;show Sim US _ (.req (_/\_/\rf=false/\ru.size=z/\ie.size=z/\i<(rl.map ru.enc).length) (.ret [.r id ⟨rv,some ⟨(rl.map ru.enc).take i++List.replicate ((rl.map ru.enc).length-i) (ie.zero.map ph),ru.size,re,false⟩⟩]));refine Sim.req (λh=>?_) λh=>Sim.ret ?_
    ·simp only[a5S]at h;obtain⟨⟨⟨⟨⟨⟨a1,a2⟩,a3⟩,a4⟩,a5⟩,_⟩,a7⟩:=h;exact⟨a5O a1,a58 a2,by simpa using a3,a5O a4,a5O a5,by rw[a5X];exact a5P a7⟩
    ·simp only[a5S]at h;have e3:=wt h.1.2;rw[<-e3,Ag ru,a5X,<-a65,<-a69,<-a53];rfl
   ·exact Sim.fail
 ·exact Sim.fail
def Pz(k:TK) (d:Nat):TV->TQ (List gT)
 |.o (.c (.ch .str s))=>match k with
  |.str=>.rdR d λr=>.ret [.r d ⟨r.ver+1,some ⟨.pr .str (.int .i64),[((s:List UInt8),(0:Int))],sw,false⟩⟩,.t d ⟨true,.o (.c (.row d (r.ver+1)))⟩]
  |_=>.fail
 |_=>.fail
theorem MD(k:TK) (d:Nat) (x:TV):Sim US (Pz k d x) (JH k d x.av):=by
 unfold Pz;split
 ·cases k <;> first | exact Sim.fail | exact Sim.rdR λr=>Sim.ret rfl
 ·exact Sim.fail
def Ir(s:List UInt8) (p:Int):Int:=Hu ⟨s.toArray⟩ p
def PA(s:List UInt8) (p:Int):Int:=((Utf8.decode ⟨s.toArray⟩ p.toNat).1:Nat)
def iH(l:List (U.pr .str (.int .i64)).den):List UInt8×Int:=List.headD (l:List (List UInt8×Int)) ([],0)
def Yl(d:Nat):TV->TQ (List gT)
 |.o (.c (.row id ver))=>.rdR id λr=>match r.c with
  |some R=>match decEq R.u (.pr .str (.int .i64)) with
   |.isTrue h=>.req (Nat.beq ver r.ver&&Nat.beq R.e sw && !R.fr&&Nat.beq R.l.length 1)
    (.ret [.r id ⟨r.ver,some ⟨.pr .str (.int .i64),[((iH (h▸R.l:List (U.pr .str (.int .i64)).den)).1,Ir (iH (h▸R.l:List (U.pr .str (.int .i64)).den)).1 (iH (h▸R.l:List (U.pr .str (.int .i64)).den)).2)],R.e,false⟩⟩,
     .t d ⟨true,.nx (decide ((iH (h▸R.l:List (U.pr .str (.int .i64)).den)).2.toNat<(iH (h▸R.l:List (U.pr .str (.int .i64)).den)).1.length)) (.ch (.int .i64) (iH (h▸R.l:List (U.pr .str (.int .i64)).den)).2) (.ch (.int .i32) (PA (iH (h▸R.l:List (U.pr .str (.int .i64)).den)).1 (iH (h▸R.l:List (U.pr .str (.int .i64)).den)).2))⟩])
   |.isFalse _=>.fail
  |none=>.fail
 |_=>.fail
theorem PB(d:Nat) (x:TV):Sim US (Yl d x) (SL d x.av):=by
 unfold Yl;split
 ·refine Sim.rdR λr=>?_;obtain⟨rv,c⟩:=r;cases c with
  |none=>exact Sim.fail
  |some R=>
   obtain⟨ru,rl,re,rf⟩:=R;simp only;split
   ·rename_i hu he;clear he;change ru=U.pr .str (.int .i64)at hu;subst hu;refine Sim.req (λh=>?_) λh=>?_
    ·simp only[a5S]at h;exact⟨a5O h.1.1.1,a5O h.1.1.2,by show rf=false;simpa using h.1.2⟩
    ·simp only[a5S]at h;have hl:=a5O h.2
     match rl,hl with
     |[q],_=>exact Sim.ret rfl
   ·exact Sim.fail
 ·exact Sim.fail
def Ym(k:Nat):TV->TQ TV
 |.tup xs=>(TQ.ofOpt xs[k]?).bind λy=>.ret (.o y)
 |.nx b x y=>match k with
  |0=>.ret (.o (.c (.ch .bool b)))
  |1=>.req b (.ret (.o (.c x)))
  |2=>.req b (.ret (.o (.c y)))
  |_=>.fail
 |.ent true id pv K kv=>match k with
  |1=>.rdB (pbx id) λb=>.req (Nat.beq pv b.ver) (.ret (.ent false id pv K kv))
  |_=>.fail
 |_=>.fail
theorem PC(k:Nat) (x:TV):Sim TV.av (Ym k x) (yR k x.av):=by
 unfold Ym;split
 ·rename_i xs;intro s tr K h;rw[TQ.wpt_bind]at h;show(Q.ofOpt (xs.map T1.av)[k]?).wpt _ _ _;have h1:=Ft (f:=T1.av) (o':=xs[k]?) (o:=(xs.map T1.av)[k]?) (λa h=>by rw[List.getElem?_map,h];rfl) s tr _ h;refine Q.wpt_mono h1 ?_;rintro b rs ⟨a,rfl,hk⟩;exact⟨_,rfl,hk⟩
 ·split
  ·exact Sim.ret rfl
  ·exact Sim.req (λh=>h) λ_=>Sim.ret rfl
  ·exact Sim.req (λh=>h) λ_=>Sim.ret rfl
  ·exact Sim.fail
 ·split
  ·exact Sim.rdB λb=>Sim.req (λh=>a5O h) λ_=>Sim.ret rfl
  ·exact Sim.fail
 ·exact Sim.fail
def a0D(u:U) (x:TC):TQ (Pa u.den):=.req (is1 x&&Nat.beq u.size 1) (rD u [x])
theorem PD(u:U) (x:TC):Sim (λp:Pa u.den=>(Dt (u.enc p.x),p.fz)) (a0D u x) (toD (lf x.cells)):=by
 refine Sim.chk λh s tr K hK=>?_;rw[a5S]at h;have e:C3 [x]=[lf x.cells]:=(a5Z _).trans (yl h.1);have h1:=lg u [x] s tr K hK;rw[e]at h1;simp only[ur,Q.wpt_bind,Q.wpt]at h1;refine Q.wpt_mono h1 ?_;rintro⟨d,fz⟩ rs ⟨p,hp,hk⟩;injection hp with hp1 hp2;refine⟨p,?_,hk⟩;simp only[a5Z]at hp2;simp only at hp1 hp2;rw[<-hp1,hp2];rfl
def a4r(t:TypeId) (u:U) (d:Nat) (x:TC):TQ (List gT):=(a0D u x).bind λy=>(pj y.fz).bind λus=>.ret (us++[.t d ⟨true,.o (.c (.it t u y.x))⟩])
theorem Ua(t:TypeId) (u:U) (d:Nat) (x:TC):Sim US (a4r t u d x) ((toD (lf x.cells)).bind λy=>(lV y.2).bind λus=>.ret (us++[.t d ⟨true,.c (.d (.it t y.1))⟩])):=by
 refine Sim.bind (PD u x) λy=>Sim.bind (fF y.fz) λus=>Sim.ret ?_;simp only[US,a53,a55,a6B];rfl
def Is(i:TI) (t:TypeId):TV->TQ TV
 |.o (.c (.it t' u x))=>.req (i.k.conc && !i.agg&&Nat.beq u.size 1) (match decEq t' t with
  |.isTrue _=>.ret (.tup [.c (.ch u x),.c (.ch .bool true)])
  |.isFalse _=>match i.zero with
   |[z]=>match Mr z with
    |some c=>.ret (.tup [.c c,.c (.ch .bool false)])
    |none=>.fail
   |_=>.fail)
 |_=>.fail
theorem It(i:TI) (t:TypeId) (x:TV):Sim TV.av (Is i t x) (Da i t x.av):=by
 unfold Is;split
 ·rename_i t' u y;refine Sim.req (λh=>?_) λh=>?_
  ·simp only[a5S]at h;exact⟨h.1.1,by simpa using h.1.2⟩
  ·simp only[a5S]at h;have hz:=a5O h.2;have hag:i.agg=false:=by simpa using h.1.2
   show Sim TV.av _ (match decEq t' t with
    |.isTrue _=>.ret (.tup [.c (.d (Dt (u.enc y))),.c (.d (.v (.bool true)))])
    |.isFalse _=>(NU i).bind λz=>.ret (.tup [z,.c (.d (.v (.bool false)))]))
   generalize decEq t' t=dd;cases dd with
   |isTrue e=>
    refine Sim.ret ?_;show AV.tup [.c (.d (Dt (u.enc y))),.c (.d (.v (.bool true)))]= .tup [.c (lf ((u.enc y).map .d)),.c (.d (.v (.bool true)))];rw[<-Ka (ds:=u.enc y) (by rw[U.enc_len,hz])];rfl
   |isFalse e=>
    simp only;split
    ·rename_i z hz0;cases hl:Mr z with
     |none=>exact Sim.fail
     |some c=>
      obtain⟨a1,_,a3⟩:=Dv hl;unfold NU;rw[hag,hz0];refine Sim.ret ?_;show AV.tup [.c (iG z),.c (.d (.v (.bool false)))]= .tup [.c (lf c.cells),.c (.d (.v (.bool false)))];rw[a1];rfl
    ·exact Sim.fail
 ·exact Sim.fail
def WG(ou:Option U) (zero:List Value):Option (List TC):=match ou with
 |some u=>match okZ u&&Ij (pG u) zero with
  |true=>some (MC u)
  |false=>none
 |none=>Ac zero
theorem Iu{ou:Option U}{zero:List Value}{ps:List TC}(h:WG ou zero=some ps):C3 ps=zero.map iG:=by
 unfold WG at h;split at h
 ·split at h
  ·rename_i u _ hz;rw[a5S]at hz;injection h with h;subst h;rw[DC _ hz.1,wt hz.2]
  ·cases h
 ·exact(xw h).1
def Kn(place:Nat->Option (Nat×Nat)) (ps:List TC):List (Nat×TV)->TQ (List TC)
 |[]=>.ret ps
 |p::rest=>(Cd p.2).bind λv=>match place p.1 with
  |some q=>.req (Nat.beq (OV v) q.2) (match ZE ps q.1 v with|some qs=>Kn place qs rest|none=>.fail)
  |none=>.fail
theorem xx(place:Nat->Option (Nat×Nat)):∀(xs:List (Nat×TV)) (ps:List TC),Sim C3 (Kn place ps xs) (CX place (C3 ps) (xs.map pav))
 |[],ps=>Sim.ret rfl
 |p::rest,ps=>by
  refine Sim.bind (tW p.2) λv=>?_;show Sim C3 _ (match place p.1 with | some q=>.req ((C3 v).length=q.2/\q.1+q.2<=(C3 ps).length) (CX place (setAt (C3 ps) q.1 (C3 v)) (rest.map pav)) | none=>.fail)
  cases place p.1 with
  |none=>exact Sim.fail
  |some q=>
   refine Sim.chk λh=>?_;have e:=a5O h;rw[<-wr]at e;simp only;cases hs:ZE ps q.1 v with
   |none=>exact Sim.fail
   |some qs=>
    obtain⟨h1,h2⟩:=OW hs;refine Sim.must ⟨e,by rw[<-e];exact h2⟩ ?_;rw[<-h1];exact xx place rest qs
structure Pds (α:Type) where
 x:List (Nat×α)
 fz:List Nat
def a3r(u:U):List (Nat×TV)->TQ (Pds u.den)
 |[]=>.ret ⟨[],[]⟩
 |p::ps=>(Cd p.2).bind λcs=>(rD u cs).bind λd=>(a3r u ps).bind λds=>.ret ⟨(p.1,d.x)::ds.x,d.fz++ds.fz⟩
def a0E(u:U) (p:Pds u.den):List (Nat×List DV)×List Nat:=(p.x.map λq=>(q.1,u.enc q.2),p.fz)
theorem Ko(u:U):∀(ps:List (Nat×TV)),Sim (a0E u) (a3r u ps) (LV (ps.map pav))
 |[]=>Sim.ret rfl
 |p::ps=>Sim.bind (tW p.2) λcs=>Sim.bind (lg u cs) λ_d=>Sim.bind (Ko u ps) λ_ds=>Sim.ret rfl
def PE{α:Type}:List α->List (Nat×α)->TQ (List α)
 |es,[]=>.ret es
 |es,p::rest=>.req (decide (p.1<es.length)) (PE (es.set p.1 p.2) rest)
theorem Ck(u:U):∀(xs:List (Nat×u.den)) (es:List u.den),Sim (List.map u.enc) (PE es xs) (LW u.size (es.map u.enc) (xs.map λq=>(q.1,u.enc q.2)))
 |[],es=>Sim.ret rfl
 |p::rest,es=>by
  refine Sim.req (λh=>⟨u.enc_len _,by rw[a5X];exact a5P h⟩) λ_=>?_;show Sim _ _ (LW u.size ((es.map u.enc).set p.1 (u.enc p.2)) _);rw[<-a8h];exact Ck u rest _
def LIM:Nat:=140737488355328
def LEN:Nat:=4611686018427387904
def PF(d:Nat) (e:TypeId) (u:U) (by_:Nat) (x y:TC):TQ (List gT):=
 (DB u y).bind λy=>.req (decide (e<jn)) ((pj y.fz).bind λus=>.rdR d λrd=>match x with
  |.nil=>.req (decide (y.x.length*by_<=LIM/\y.x.length<=LEN)) (.ret (us++[.r d ⟨rd.ver+1,some ⟨u,y.x,e,false⟩⟩,.t d ⟨true,.o (.c (.row d (rd.ver+1)))⟩]))
  |.row id ver=>.rdR id λr=>match r.c with
   |some R=>match decEq R.u u with
    |.isTrue h=>.req (Nat.beq ver r.ver&&Nat.beq R.e e) (.req (decide ((R.l.length+y.x.length)*by_<=LIM/\R.l.length+y.x.length<=LEN))
     (.ret (us++[.r id ⟨r.ver,none⟩,.r d ⟨rd.ver+1,some ⟨u,(h▸R.l:List u.den)++y.x,e,R.fr||y.fz.contains id⟩⟩,.t d ⟨true,.o (.c (.row d (rd.ver+1)))⟩])))
    |.isFalse _=>.fail
   |none=>.fail
  |_=>.fail)
theorem Iv(d:Nat) (e:TypeId) (u:U) (z by_:Nat) (hz:u.size=z) (x y:TC):Sim US (PF d e u by_ x y) (CY d e z by_ (lf x.cells) (lf y.cells)):=by
 subst hz;refine Sim.bind (vk u y) λy=>?_;show Sim US _ (.req (BQ u.size (y.x.map u.enc)/\e<jn) ((lV y.fz).bind λus=>.rdR d λrd=>match lf x.cells with
   |.nil=>.req ((y.x.map u.enc).length*by_<=140737488355328/\(y.x.map u.enc).length<=4611686018427387904) (.ret (us++[.r d ⟨rd.ver+1,some ⟨y.x.map u.enc,u.size,e,false⟩⟩,.t d ⟨true,.c (.row d (rd.ver+1))⟩]))
   |.row id ver=>.rdR id λr=>match r.c with
    |some R=>.req (ver=r.ver/\R.sz=u.size/\R.e=e/\(R.es.length+(y.x.map u.enc).length)*by_<=140737488355328/\R.es.length+(y.x.map u.enc).length<=4611686018427387904)
     (.ret (us++[.r id ⟨r.ver,none⟩,.r d ⟨rd.ver+1,some ⟨R.es++y.x.map u.enc,u.size,e,R.fr||y.fz.contains id⟩⟩,.t d ⟨true,.c (.row d (rd.ver+1))⟩]))
    |none=>.fail
   |_=>.fail))
 refine Sim.req (λh=>⟨Ci u _,a5P h⟩) λ_=>(Sim.bind (fF y.fz) λus=>Sim.rdR λrd=>?_);split
 ·refine Sim.req (λh=>?_) λ_=>Sim.ret ?_
  ·have h1:=a5P h;rw[a5X];exact h1
  ·simp only[US,a53,a55,a6B];rfl
 ·rename_i id ver;refine Sim.rdR λr=>?_;obtain⟨rv,c⟩:=r;cases c with
  |none=>exact Sim.fail
  |some R=>
   obtain⟨ru,rl,re,rf⟩:=R;simp only;split
   ·rename_i hu _;subst hu;refine Sim.chk λh=>Sim.req (λh0=>?_) λ_=>Sim.ret ?_
    ·rw[a5S]at h;have h1:=a5P h0;refine⟨a5O h.1,rfl,a5O h.2,?_⟩;rw[show(yF.row ⟨ru,rl,re,rf⟩).es.length=rl.length from a5X ..,a5X];exact h1
    ·simp only[US,a53,a55,a6B,gT.upd,TRS.rs,a6e,Option.map_none,yF.row];rfl
   ·exact Sim.fail
 ·exact Sim.fail
section
variable (T:TypeId->Option TI) (TU:TypeId->Option U) (cq:Oper->Call->Q (List Upd)) (tcq:Oper->Call->TQ (List gT))
def ttq(t:TypeId):TQ TI:=.ofOpt (T t)
theorem M3(t:TypeId):Sim id (ttq T t) (tq T t):=bz _
def DD(i j:TI) (o:Oper) (_src:TypeId) (x:TV):TQ (List gT):=match i.k,j.k with
 |.int _,.int k=>(Wz x).bind λn=>vg o.dst (c1 (.int k) (k.wrap n))
 |.str,.str=>match x with
  |.o (.c (.ch .str s))=>vg o.dst (c1 .str s)
  |_=>.fail
 |.slice e,.str=>(ttq T e).bind λie=>match ie.k with
  |.int .u8=>match x with
   |.o (.c x)=>(DB .byte x).bind λy=>vg o.dst (c1 .str y.x)
   |_=>.fail
  |_=>.fail
 |.str,.slice e=>(ttq T e).bind λie=>match ie.k with
  |.int .u8=>match x with
   |.o (.c (.ch .str s))=>.req (decide (List.length s<=maxLen)) (vg o.dst (c1 (.sl .byte) s))
   |_=>.fail
  |_=>.fail
 |_,_=>.fail
def ZG(o:Oper):TQ (List gT):=match o.op with
 |.move x=>(tev x).bind (vg o.dst)
 |.assign x=>(tev x).bind (vg o.dst)
 |.pick c a b=>(tev c).bind λc=>(Ty c).bind λc=>(a3l a).bind λa=>(a3l b).bind λb=>(a0x c a b).bind (vg o.dst)
 |.alloc t=>(ttq T t).bind λi=>(TQ.ofOpt o.dst).bind λd=>match WG (TU t) i.zero with
  |some ps=>.rdB d λb=>.ret [.b d ⟨b.ver+1,some ps⟩,.t d ⟨true,.o (.c (.ptr d (b.ver+1) 0))⟩]
  |none=>.fail
 |.box _ x=>(TQ.ofOpt o.dst).bind λd=>(tev x).bind λv=>(Cd v).bind λcs=>.rdB d λb=>.ret [.b d ⟨b.ver+1,some cs⟩,.t d ⟨true,.o (.c (.ptr d (b.ver+1) 0))⟩]
 |.build t parts=>(ttq T t).bind λi=>(Tx parts.toList).bind λps=>match i.k with
  |.struct fs=>match WG (TU t) i.zero with
   |some zs=>(Kn (fs[·]?) zs ps).bind λcs=>vg o.dst (.o (.agg cs))
   |none=>.fail
  |.arr _ e=>(ttq T e).bind λie=>match WG (TU t) i.zero with
   |some zs=>(Kn (λj=>some (j*ie.size,ie.size)) zs ps).bind λcs=>vg o.dst (.o (.agg cs))
   |none=>.fail
  |_=>.fail
 |.buildSlice t len parts=>(ttq T t).bind λi=>(TQ.ofOpt o.dst).bind λd=>match i.k with
  |.slice e=>(ttq T e).bind λie=>match TU e with
   |some u=>.req (decide (len*ie.size<=16777216/\0<ie.size/\(len=0->parts.size=0)/\e<jn)&&Nat.beq u.size ie.size&&Ij (pG u) ie.zero) ((Tx parts.toList).bind λps=>(a3r u ps).bind λy=>(pj y.fz).bind λus=>(PE (List.replicate len u.dflt) y.x).bind λes=>
    .rdR d λr=>.ret (us++[.r d ⟨r.ver+1,some ⟨u,es,e,false⟩⟩,.t d ⟨true,.o (.c (.row d (r.ver+1)))⟩]))
   |none=>.fail
  |_=>.fail
 |.load t a=>(ttq T t).bind λi=>(tev a).bind λa=>(TD i a).bind (vg o.dst)
 |.store t a x=>match o.dst with
  |some _=>.fail
  |none=>(ttq T t).bind λi=>(tev a).bind λa'=>(tev x).bind λx=>(Cd x).bind λcs=>(Pj TU t i cs a').bind λus=>HY i (rA a) a' us
 |.nilCheck x=>(tev x).bind λx=>match x with
  |.o (.c (.ptr id ver off))=>.rdB id λb=>.req (Nat.beq ver b.ver&&b.c.isSome) (vg o.dst (.o (.c (.ptr id ver off))))
  |.o (.c (.ep u y off))=>vg o.dst (.o (.c (.ep u y off)))
  |.o (.c (.rp id ver k off sz))=>.rdR id λr=>.req (Nat.beq ver r.ver&&r.c.isSome) (vg o.dst (.o (.c (.rp id ver k off sz))))
  |.o (.c (.fn f))=>vg o.dst (.o (.c (.fn f)))
  |.o (.c (.clo f u x))=>vg o.dst (.o (.c (.clo f u x)))
  |_=>.fail
 |.binOp op t x y _=>(ttq T t).bind λi=>(tev x).bind λx=>(tev y).bind λy=>(a3n TU op t i x y).bind (vg o.dst)
 |.unOp op _ x=>(tev x).bind λx=>(tun op x).bind (vg o.dst)
 |.convert src dst x=>(ttq T src).bind λi=>(ttq T dst).bind λj=>(tev x).bind λx=>DD T i j o src x
 |.slice t xo lo hi none=>(ttq T t).bind λi=>(tev xo).bind λx=>(a2X lo).bind λl=>(a2X hi).bind λh=>match i.k with
   |.slice e=>(ttq T e).bind λie=>match TU e with
    |some u=>.req (Nat.beq u.size ie.size) (match x with
     |.o (.c x)=>(TQ.ofOpt o.dst).bind λd=>if(i.cut&&l.isNone)=true then a4p d u h x else if(i.cut&&h.isNone)=true then(a0A u l x).bind (vg o.dst)else WE d u l h x
     |_=>.fail)
    |none=>.fail
   |.str=>(Ih l h x).bind (vg o.dst)
   |.arr n e=>(ttq T e).bind λie=>match TU e with
    |some u=>Ia o.dst (rA xo) u n ie l h x
    |none=>.fail
   |_=>.fail
 |.fieldAddr t x f=>(ttq T t).bind λi=>match i.k with
  |.struct fs=>(TQ.ofOpt fs[f]?).bind λp=>(tev x).bind λx=>(Pm p.1 x).bind (vg o.dst)
  |_=>.fail
 |.indexAddr t x k=>(ttq T t).bind λi=>(tev x).bind λx=>(tev k).bind λk=>(Wz k).bind λk=>match i.k with
  |.slice e=>(ttq T e).bind λie=>(Po ie.size k x).bind (vg o.dst)
  |.arr n e=>(ttq T e).bind λie=>(HS n ie.size k x).bind (vg o.dst)
  |_=>.fail
 |.index t x k=>(ttq T t).bind λi=>(tev x).bind λx=>(tev k).bind λk=>(Wz k).bind λk=>match i.k with
  |.str=>(Ic k x).bind (vg o.dst)
  |.arr n e=>(ttq T e).bind λie=>match TU e with
   |some u=>(HU u n ie k x).bind (vg o.dst)
   |none=>.fail
  |_=>.fail
 |.field t x f=>(ttq T t).bind λi=>match i.k with
  |.struct fs=>(TQ.ofOpt fs[f]?).bind λp=>(TQ.ofOpt i.fts[f]?).bind λft=>(ttq T ft).bind λie=>(tev x).bind λx=>(HW p.1 ie x).bind (vg o.dst)
  |_=>.fail
 |.extract x k=>(tev x).bind λx=>(Ym k x).bind (vg o.dst)
 |.range t x=>(ttq T t).bind λi=>(TQ.ofOpt o.dst).bind λd=>(tev x).bind λx=>Pz i.k d x
 |.next x true=>(TQ.ofOpt o.dst).bind λd=>(tev x).bind λx=>Yl d x
 |.makeFunc fn first captured=>(TQ.ofOpt o.dst).bind λd=>match fn,first.toList,captured.toList with
  |.func f,[],[]=>.ret [.t d ⟨true,.o (.c (.fn f))⟩]
  |.func f,[],[.tmp k]=>(tev (.tmp k)).bind λv=>Ye d k f v
  |_,_,_=>.fail
 |.makeInterface t x=>(ttq T t).bind λi=>(TQ.ofOpt o.dst).bind λd=>(tev x).bind λx=>match x with
  |.o (.c x)=>match TU t with
   |some u=>.req i.k.conc (a4r t u d x)
   |none=>.fail
  |_=>.fail
 |.typeAssert x _ t true=>(ttq T t).bind λi=>(tev x).bind λx=>(Is i t x).bind (vg o.dst)
 |.makeSlice t l c=>(ttq T t).bind λi=>(TQ.ofOpt o.dst).bind λd=>(tev l).bind λl=>(Wz l).bind λl=>(tev c).bind λc=>(Wz c).bind λc=>match i.k with
  |.slice e=>(ttq T e).bind λie=>match TU e with
   |some u=>.req (decide (0<ie.size/\e<jn)&&Nat.beq u.size ie.size&&Ij (pG u) ie.zero) (.req (decide (0<=l/\l<=c/\(ie.bytes:Int)*c<=281474976710656/\c<=4611686018427387904)) (.rdR d λr=>
    .ret [.r d ⟨r.ver+1,some ⟨u,List.replicate l.toNat u.dflt,e,false⟩⟩,.t d ⟨true,.o (.c (.row d (r.ver+1)))⟩]))
   |none=>.fail
  |_=>.fail
 |.makeMap t r=>(ttq T t).bind λi=>(TQ.ofOpt o.dst).bind λd=>(a2X r).bind λ_=>match i.k with
  |.map kt vt=>(ttq T kt).bind λik=>(ttq T vt).bind λiv=>match TU kt,TU vt with
   |some K,some V=>.req (isKey (kU K)&&Nat.beq V.size iv.size) (.rdR d λr=>.ret [.r d ⟨r.ver+1,some ⟨.pr (kU K) V,[],mW ik.k iv.agg,false⟩⟩,.t d ⟨true,.o (.c (.row d (r.ver+1)))⟩])
   |_,_=>.fail
  |_=>.fail
 |.mapUpdate t m k x=>match o.dst with
  |some _=>.fail
  |none=>(ttq T t).bind λi=>(tev m).bind λm=>(tev k).bind λk=>(tev x).bind λx=>match i.k with
   |.map kt vt=>(ttq T kt).bind λik=>(ttq T vt).bind λiv=>match TU kt,TU vt with
    |some K,some V=>.req (isKey (kU K)&&kOk ik.k (kU K)&&Nat.beq V.size iv.size) ((Yi T ik (kU K) k).bind λk=>(Im iv.agg x).bind λcs=>Yk (kU K) V ik iv k cs m)
    |_,_=>.fail
   |_=>.fail
 |.call c=>tcq o c
 |_=>.fail
end
section
variable {T:TypeId->Option TI}{TU:TypeId->Option U}{cq:Oper->Call->Q (List Upd)}{tcq:Oper->Call->TQ (List gT)}
theorem FF(i j:TI) (o:Oper) (src:TypeId) (x:TV):Sim US (DD T i j o src x) (match i.k,j.k with
  |.int _,.int k=>(Q.int x.av).bind λn=>one o.dst (.c (.d (.v (.int k (k.wrap n)))))
  |.str,.str=>match x.av with
   |.c (.d (.v (.string _)))=>one o.dst x.av
   |_=>.fail
  |.slice e,.str=>(tq T e).bind λie=>match ie.k with
   |.int .u8=>match x.av with
    |.c x=>(toD x).bind λy=>(BT y.1).bind λl=>one o.dst (.c (.d (.v (.string ⟨l.toArray⟩))))
    |_=>.fail
   |_=>.fail
  |.str,.slice e=>(tq T e).bind λie=>match ie.k with
   |.int .u8=>match x.av with
    |.c (.d (.v (.string str)))=>.req (str.size<=maxLen) (one o.dst (.c (.d (.sl (str.data.toList.map rB)))))
    |_=>.fail
   |_=>.fail
  |_,_=>.fail):=by
 unfold DD;cases i.k <;> cases j.k <;> try exact Sim.fail
 ·exact Sim.bind (tV x) λn=>O0 o.dst _
 ·simp only;split
  ·exact O0 o.dst _
  ·exact Sim.fail
 ·refine Sim.bind (M3 T _) λie=>?_;show Sim US _ (match ie.k with
   |.int .u8=>match x.av with
    |.c (.d (.v (.string str)))=>.req (str.size<=maxLen) (one o.dst (.c (.d (.sl (str.data.toList.map rB)))))
    |_=>.fail
   |_=>.fail)
  split
  ·rename_i hk
   try rw[hk]
   split
   ·exact Sim.req (λh=>a5P h) λ_=>O0 o.dst (c1 (.sl .byte) _)
   ·exact Sim.fail
  ·exact Sim.fail
 ·refine Sim.bind (M3 T _) λie=>?_;show Sim US _ (match ie.k with
   |.int .u8=>match x.av with
    |.c x=>(toD x).bind λy=>(BT y.1).bind λl=>one o.dst (.c (.d (.v (.string ⟨l.toArray⟩))))
    |_=>.fail
   |_=>.fail)
  split
  ·rename_i hk
   try rw[hk]
   split
   ·rename_i c;refine Sim.bind (vk .byte c) λy=>?_;have e:y.x.map U.byte.enc=List.map rB y.x:=rfl;show Sim US _ ((BT (.sl (y.x.map U.byte.enc))).bind λl=>one o.dst (.c (.d (.v (.string ⟨l.toArray⟩)))));rw[e];show Sim US _ (.req (List.map rB y.x=((List.map rB y.x).map wc).map rB) (one o.dst (.c (.d (.v (.string ⟨((List.map rB y.x).map wc).toArray⟩))))));have e2:(List.map rB y.x).map wc=y.x:=Mq y.x;rw[e2];exact Sim.must rfl (O0 o.dst _)
   ·exact Sim.fail
  ·exact Sim.fail
theorem Ub(hc:∀o c,o.op= .call c->Sim US (tcq o c) (cq o c)) (o:Oper):Sim US (ZG T TU tcq o) (opQ T cq o):=by
 unfold ZG opQ;cases ho:o.op <;> try exact Sim.fail
 case move x=>exact Sim.bind (K4 x) λv=>O0 o.dst v
 case assign x=>exact Sim.bind (K4 x) λv=>O0 o.dst v
 case pick c a b=>exact Sim.bind (K4 c) λc=>Sim.bind (Fw c) λc=>Sim.bind (Ke a) λa=>Sim.bind (Ke b) λb=>Sim.bind (Pb c a b) λv=>O0 o.dst v
 case alloc t=>
  refine Sim.bind (M3 T t) λi=>Sim.bind (bz o.dst) λd=>?_;cases hz:WG (TU t) i.zero with
  |none=>exact Sim.fail
  |some ps=>
   refine Sim.rdB λb=>Sim.ret ?_;have e:=Iu hz;show [Upd.b d ⟨b.ver+1,some (i.zero.map iG)⟩,_]=_;rw[<-e];rfl
 case box t x=>exact Sim.bind (bz o.dst) λd=>Sim.bind (K4 x) λv=>Sim.bind (tW v) λcs=>Sim.rdB λb=>Sim.ret rfl
 case build t parts=>
  refine Sim.bind (M3 T t) λi=>Sim.bind (Ad _) λps=>?_;simp only[id];cases i.k <;> try exact Sim.fail
  case struct fs=>
   simp only;cases hz:WG (TU t) i.zero with
   |none=>exact Sim.fail
   |some zs=>
    have e:=Iu hz;rw[<-e];exact Sim.bind (xx _ ps zs) λcs=>O0 o.dst (.o (.agg cs))
  case arr n e=>
   refine Sim.bind (M3 T e) λie=>?_;cases hz:WG (TU t) i.zero with
   |none=>exact Sim.fail
   |some zs=>
    have e:=Iu hz;rw[<-e];exact Sim.bind (xx _ ps zs) λcs=>O0 o.dst (.o (.agg cs))
 case buildSlice t len parts=>
  refine Sim.bind (M3 T t) λi=>Sim.bind (bz o.dst) λd=>?_;simp only[id];cases i.k <;> try exact Sim.fail
  case slice e=>
   refine Sim.bind (M3 T e) λie=>?_;cases TU e with
   |none=>exact Sim.fail
   |some u=>
    refine Sim.req (λh=>?_) λh=>?_
    ·simp only[a5S]at h;exact a5P h.1.1
    ·simp only[a5S]at h;have e2:=a5O h.1.2;have e3:=wt h.2;refine Sim.bind (Ad _) λps=>Sim.bind (Ko u ps) λy=>Sim.bind (fF y.fz) λus=>?_;simp only[id];rw[<-e2,<-e3,Ag u,<-a69];refine Sim.bind (Ck u y.x _) λes=>Sim.rdR λr=>Sim.ret ?_;simp only[US,a53,a55,a6B];rfl
 case load t a=>exact Sim.bind (M3 T t) λi=>Sim.bind (K4 a) λa=>Sim.bind (FA i a) λv=>O0 o.dst v
 case store t a x=>
  cases o.dst with
  |some d=>exact Sim.fail
  |none=>exact Sim.bind (M3 T t) λi=>Sim.bind (K4 a) λa'=>Sim.bind (K4 x) λx=>Sim.bind (tW x) λcs=>Sim.bind (Mw TU t i cs a') λus=>HZ i (rA a) a' us
 case nilCheck x=>
  refine Sim.bind (K4 x) λx=>?_;split
  ·refine Sim.rdB λb=>Sim.req (λh=>?_) λ_=>O0 o.dst (.o (.c _));rw[a5S]at h;exact⟨a5O h.1,by rw[DA];exact h.2⟩
  ·exact O0 o.dst (.o (.c (.ep _ _ _)))
  ·refine Sim.rdR λb=>Sim.req (λh=>?_) λ_=>O0 o.dst (.o (.c _));rw[a5S]at h;exact⟨a5O h.1,by rw[Pn];exact h.2⟩
  ·exact O0 o.dst _
  ·exact O0 o.dst (.o (.c (.clo _ _ _)))
  ·exact Sim.fail
 case binOp op t x y t'=>exact Sim.bind (M3 T t) λi=>Sim.bind (K4 x) λx=>Sim.bind (K4 y) λy=>Sim.bind (TL TU op t i x y) λv=>O0 o.dst v
 case unOp op t x=>exact Sim.bind (K4 x) λx=>Sim.bind (XX op x) λv=>O0 o.dst v
 case convert src dst x=>exact Sim.bind (M3 T src) λi=>Sim.bind (M3 T dst) λj=>Sim.bind (K4 x) λx=>FF i j o src x
 case slice t x lo hi m=>
  cases m with
  |some m=>exact Sim.fail
  |none=>
   refine Sim.bind (M3 T t) λi=>Sim.bind (K4 x) λx=>Sim.bind (Dw lo) λl=>Sim.bind (Dw hi) λh=>?_;simp only[id];cases i.k <;> try exact Sim.fail
   case slice e=>
    refine Sim.bind (M3 T e) λie=>?_;cases TU e with
    |none=>exact Sim.fail
    |some u=>
     refine Sim.chk λhu=>?_;have e2:=a5O hu;split
     ·refine Sim.bind (bz o.dst) λd=>?_;simp only[id];cases i.cut&&l.isNone with
      |true=>exact TP d ie.size u e2 h _
      |false=>
       cases i.cut&&h.isNone with
       |true=>exact Sim.bind (Pr ie.size u e2 l _) λv=>O0 o.dst v
       |false=>exact Mz d ie.size u e2 l h _
     ·exact Sim.fail
   case str=>exact Sim.bind (Ii l h x) λv=>O0 o.dst v
   case arr n e=>
    refine Sim.bind (M3 T e) λie=>?_;simp only[id];cases TU e with
    |none=>exact Sim.fail
    |some u=>exact Ib o.dst _ u n ie l h x
 case fieldAddr t x f=>
  refine Sim.bind (M3 T t) λi=>?_;simp only[id];cases i.k <;> try exact Sim.fail
  case struct fs=>exact Sim.bind (bz _) λp=>Sim.bind (K4 x) λx=>Sim.bind (Mx p.1 x) λv=>O0 o.dst v
 case indexAddr t x k=>
  refine Sim.bind (M3 T t) λi=>Sim.bind (K4 x) λx=>Sim.bind (K4 k) λk=>Sim.bind (tV k) λk=>?_;simp only[id];cases i.k <;> try exact Sim.fail
  case slice e=>exact Sim.bind (M3 T e) λie=>Sim.bind (My ie.size k x) λv=>O0 o.dst v
  case arr n e=>exact Sim.bind (M3 T e) λie=>Sim.bind (HT _ ie.size k x) λv=>O0 o.dst v
 case index t x k=>
  refine Sim.bind (M3 T t) λi=>Sim.bind (K4 x) λx=>Sim.bind (K4 k) λk=>Sim.bind (tV k) λk=>?_;simp only[id];cases i.k <;> try exact Sim.fail
  case str=>exact Sim.bind (Ie k x) λv=>O0 o.dst v
  case arr n e=>
   refine Sim.bind (M3 T e) λie=>?_;simp only[id];cases TU e with
   |none=>exact Sim.fail
   |some u=>exact Sim.bind (HV u n ie k x) λv=>O0 o.dst v
 case field t x f=>
  refine Sim.bind (M3 T t) λi=>?_;simp only[id];cases i.k <;> try exact Sim.fail
  case struct fs=>exact Sim.bind (bz _) λp=>Sim.bind (bz _) λft=>Sim.bind (M3 T ft) λie=>Sim.bind (K4 x) λx=>Sim.bind (HX p.1 ie x) λv=>O0 o.dst v
 case extract x k=>exact Sim.bind (K4 x) λx=>Sim.bind (PC k x) λv=>O0 o.dst v
 case range t x=>exact Sim.bind (M3 T t) λi=>Sim.bind (bz o.dst) λd=>Sim.bind (K4 x) λx=>MD i.k d x
 case next x b=>
  cases b with
  |true=>exact Sim.bind (bz o.dst) λd=>Sim.bind (K4 x) λx=>PB d x
  |false=>exact Sim.fail
 case makeFunc fn fs cs=>
  refine Sim.bind (bz o.dst) λd=>?_;split
  ·rename_i f h1 h2;rw[h1,h2];exact Sim.ret rfl
  ·rename_i f k h1 h2;rw[h1,h2];exact Sim.bind (K4 _) λv=>Pp d _ _ v
  ·exact Sim.fail
 case makeInterface t x=>
  refine Sim.bind (M3 T t) λi=>Sim.bind (bz o.dst) λd=>Sim.bind (K4 x) λx=>?_;split
  ·rename_i c;cases TU t with
   |none=>exact Sim.fail
   |some u=>exact Sim.req (λh=>h) λ_=>Ua t u d c
  ·exact Sim.fail
 case typeAssert x xt t b=>
  cases b with
  |true=>exact Sim.bind (M3 T t) λi=>Sim.bind (K4 x) λx=>Sim.bind (It i t x) λv=>O0 o.dst v
  |false=>exact Sim.fail
 case makeSlice t l c=>
  refine Sim.bind (M3 T t) λi=>Sim.bind (bz o.dst) λd=>Sim.bind (K4 l) λl=>Sim.bind (tV l) λl=>Sim.bind (K4 c) λc=>Sim.bind (tV c) λc=>?_;simp only[id];cases i.k <;> try exact Sim.fail
  case slice e=>
   refine Sim.bind (M3 T e) λie=>?_;cases TU e with
   |none=>exact Sim.fail
   |some u=>
    refine Sim.chk λh=>Sim.req (λh0=>?_) λ_=>?_
    ·simp only[a5S]at h;have h1:=a5P h.1.1;have h2:=a5P h0;exact⟨h1.1,h2.1,h2.2.1,h2.2.2.1,h2.2.2.2,h1.2⟩
    ·simp only[a5S]at h;have e2:=a5O h.1.2;have e3:=wt h.2;refine Sim.rdR λr=>Sim.ret ?_;simp only[id];rw[<-e2,<-e3,Ag u,<-a69];rfl
 case makeMap t r=>
  refine Sim.bind (M3 T t) λi=>Sim.bind (bz o.dst) λd=>Sim.bind (Dw r) λ_=>?_;simp only[id];cases i.k <;> try exact Sim.fail
  case map kt vt=>
   refine Sim.bind (M3 T kt) λik=>Sim.bind (M3 T vt) λiv=>?_;cases TU kt with
   |none=>exact Sim.fail
   |some K=>
    cases TU vt with
    |none=>exact Sim.fail
    |some V=>
     refine Sim.chk λh=>?_;rw[a5S]at h;refine Sim.rdR λr=>Sim.ret ?_;simp only[id];rw[<-a5O h.2,<-Pw h.1];rfl
 case mapUpdate t m k x=>
  cases o.dst with
  |some d=>exact Sim.fail
  |none=>
   refine Sim.bind (M3 T t) λi=>Sim.bind (K4 m) λm=>Sim.bind (K4 k) λk=>Sim.bind (K4 x) λx=>?_;simp only[id];cases i.k <;> try exact Sim.fail
   case map kt vt=>
    refine Sim.bind (M3 T kt) λik=>Sim.bind (M3 T vt) λiv=>?_;cases TU kt with
    |none=>exact Sim.fail
    |some K=>
     cases TU vt with
     |none=>exact Sim.fail
     |some V=>
      refine Sim.chk λh=>?_;simp only[a5S]at h;exact Sim.bind (TX h.1.1 k) λk=>Sim.bind (Io iv.agg x) λcs=>Px h.1.1 h.1.2 (a5O h.2) k cs m
 case call c=>exact hc o c ho
end
end Go.Proofs.YtjbgdpjgfjnkbaaGreatDoor.Am
