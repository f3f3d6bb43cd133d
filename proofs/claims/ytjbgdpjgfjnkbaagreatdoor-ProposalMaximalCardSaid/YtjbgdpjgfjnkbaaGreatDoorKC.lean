/- Texts laid together: TmDefs, TmQ, TmOps, TmOps2, TmEq, TmOps3, TmMaps, TmEnt, TmStr, TmOps4, TmOps5. No conditions. -/
import Derived.Test.YtjbgdpjgfjnkbaaGreatDoorKB
namespace Go.Proofs.YtjbgdpjgfjnkbaaGreatDoor.Am
open Go
inductive U where
 | int (k:IntKind)
 | byte
 | bool
 | str
 | sl (u:U)
 | pr (a b:U)
 | arr (n:Nat) (u:U)
 deriving DecidableEq
def U.den:U->Type
 | .int _=>Int
 | .byte=>UInt8
 | .bool=>Bool
 | .str=>List UInt8
 | .sl u=>List u.den
 | .pr a b=>a.den × b.den
 | .arr n u=>Vector u.den n
def U.size:U->Nat
 | .pr a b=>a.size + b.size
 | .arr n u=>n * u.size
 | _=>1
def U.dflt:(u:U)->u.den
 | .int _=>(0:Int)
 | .byte=>(0:UInt8)
 | .bool=>false
 | .str=>([]:List UInt8)
 | .sl _=>[]
 | .pr a b=>(a.dflt,b.dflt)
 | .arr n u=>Vector.replicate n u.dflt
def U.enc:(u:U)->u.den->List DV
 | .int k,n=>[.v (.int k n)]
 | .byte,x=>[.v (.int .u8 (UInt8.toNat x:Nat))]
 | .bool,b=>[.v (.bool b)]
 | .str,l=>[.v (.string ⟨List.toArray l⟩)]
 | .sl u,l=>[.sl (List.map u.enc l)]
 | .pr a b,x=>a.enc x.1 ++ b.enc x.2
 | .arr _ u,v=>(Vector.toList v).flatMap u.enc
theorem tN {α β:Type} (f:α->List β) (z:Nat):∀ (l:List α),(∀ x ∈ l,(f x).length=z)->(l.flatMap f).length=l.length * z
 | [],_=>by simp
 | x :: l,h=>by
  rw [a3C,a2V,h x (by simp),tN f z l (λy hy=>h y (by simp [hy])),a27,a3D,a3S]
theorem U.enc_len:(u:U)->(x:u.den)->(u.enc x).length=u.size
 | .int _,_=>rfl
 | .byte,_=>rfl
 | .bool,_=>rfl
 | .str,_=>rfl
 | .sl _,_=>rfl
 | .pr a b,x=>by rw [U.enc,a2V,a.enc_len,b.enc_len];rfl
 | .arr n u,v=>by
  have h:=tN u.enc u.size (Vector.toList v) (λx _=>u.enc_len x);exact h.trans (congrArg (· * u.size) (a3N (xs:=v)))
def Bs (ds:List DV):DV:=ds.headD (.v undef)
theorem HA {ds:List DV} (h:ds.length=1):[Bs ds]=ds:=by
 match ds,h with
 | [x],_=>rfl
inductive TC where
 | ch (u:U) (x:u.den)
 | nil
 | npt
 | nmap
 | fn (f:FuncId)
 | it (t:TypeId) (u:U) (x:u.den)
 | clo (f:FuncId) (u:U) (x:u.den)
 | row (id ver:Nat)
 | ptr (id ver off:Nat)
 | pa (id ver off:Nat) (z:Nat) (k:Nat)
 | pb (id ver off z k z2 j:Nat)
 | ep (u:U) (x:u.den) (off:Nat)
 | ex (u:U) (x:u.den) (off z k:Nat)
 | rp (id ver:Nat) (i off sz:Nat)
 | junk
def TC.cells:TC->List AC
 | .ch u x=>(u.enc x).map .d
 | .nil=>[.nil]
 | .npt=>[.d (.v (.pointer none))]
 | .nmap=>[.d (.v (.map none))]
 | .fn f=>[.d (.v (.func (.func f) #[] #[]))]
 | .it t u x=>[.d (.it t (Bs (u.enc x)))]
 | .clo f u x=>[.d (.clo f (u.enc x))]
 | .row id ver=>[.row id ver]
 | .ptr id ver off=>[.ptr id ver off]
 | .pa id ver off z k=>[.ptr id ver (off + k * z)]
 | .pb id ver off z k z2 j=>[.ptr id ver (off + k * z + j * z2)]
 | .ep u x off=>[.eptr ((u.enc x).drop off)]
 | .ex u x off z k=>[.eptr ((u.enc x).drop (off + k * z))]
 | .rp id ver i off sz=>[.rptr id ver i off sz]
 | .junk=>[.junk]
def TC.size:TC->Nat
 | .ch u _=>u.size
 | _=>1
theorem TC.cells_len (c:TC):c.cells.length=c.size:=by
 cases c <;> simp only [TC.cells,TC.size,a3d,a27,a3l];exact U.enc_len _ _
def C6:List TC->List AC
 | []=>[]
 | c :: cs=>c.cells ++ C6 cs
theorem hC:∀ (a b:List TC),C6 (a ++ b)=C6 a ++ C6 b
 | [],b=>rfl
 | c :: a,b=>by rw [a3x,C6,hC a b,C6,a3c]
def kR:List AC->AC
 | [x]=>x
 | _=> .junk
inductive T1 where
 | c (x:TC)
 | agg (xs:List TC)
def wi:(K:U)->K.den->Value
 | .int k,n=> .int k n
 | .str,l=> .string ⟨List.toArray l⟩
 | _,_=>undef
inductive TV where
 | o (x:T1)
 | ent (tup:Bool) (id pv:Nat) (K:U) (k:K.den)
 | tup (xs:List T1)
 | clo (f id ver:Nat)
 | nx (b:Bool) (x y:TC)
 | any
def T1.av:T1->AV
 | .c x=> .c (kR x.cells)
 | .agg xs=> .agg (C6 xs)
def TV.av:TV->AV
 | .o x=>x.av
 | .tup xs=> .tup (xs.map T1.av)
 | .clo f id ver=> .clo f id ver
 | .ent b id pv K k=> .ent b id pv (wi K k)
 | .nx b x y=> .nx b (kR x.cells) (kR y.cells)
 | .any=> .any
structure TGV where
 g:Bool
 x:TV
def TGV.gv (x:TGV):GV:=⟨x.g,x.x.av⟩
structure wH where
 u:U
 l:List u.den
 e:TypeId
 fr:Bool
def wH.row (r:wH):Row:=⟨r.l.map r.u.enc,r.u.size,r.e,r.fr⟩
structure TBS where
 ver:Nat
 c:Option (List TC)
structure TRS where
 ver:Nat
 c:Option wH
def TBS.bs (x:TBS):BS:=⟨x.ver,x.c.map C6⟩
def TRS.rs (x:TRS):RS:=⟨x.ver,x.c.map wH.row⟩
structure TSt where
 n:Nat
 t:Nat->TGV
 b:Nat->TBS
 r:Nat->TRS
def TSt.st (s:TSt):St:=⟨s.n,λk=>(s.t k).gv,λk=>(s.b k).bs,λk=>(s.r k).rs⟩
inductive gQ where
 | t (k:Nat) (x:TGV)
 | b (k:Nat) (x:TBS)
 | r (k:Nat) (x:TRS)
def gQ.upd:gQ->Upd
 | .t k x=> .t k x.gv
 | .b k x=> .b k x.bs
 | .r k x=> .r k x.rs
def TSt.app1 (s:TSt):gQ->TSt
 | .t k x=>⟨s.n,Am.upd s.t k x,s.b,s.r⟩
 | .b k x=>⟨s.n,s.t,Am.upd s.b k x,s.r⟩
 | .r k x=>⟨s.n,s.t,s.b,Am.upd s.r k x⟩
def TSt.app (s:TSt):List gQ->TSt
 | []=>s
 | u :: us=>(s.app1 u).app us
theorem Fb {α β:Type} (f:α->β) (g:Nat->α) (k:Nat) (x:α):(λj=>f (Am.upd g k x j))=Am.upd (λj=>f (g j)) k (f x):=by
 funext j;simp only [Am.upd];split <;> rfl
theorem TSt.st_app1 (s:TSt) (u:gQ):(s.app1 u).st=s.st.app1 u.upd:=by
 cases u <;> simp only [TSt.app1,TSt.st,gQ.upd,St.app1,St.setT,St.setB,St.setR]
 ·rw [Fb TGV.gv]
 ·rw [Fb TBS.bs]
 ·rw [Fb TRS.rs]
theorem TSt.st_app:∀ (us:List gQ) (s:TSt),(s.app us).st=s.st.app (us.map gQ.upd)
 | [],s=>rfl
 | u :: us,s=>by rw [TSt.app,TSt.st_app us,TSt.st_app1];rfl
inductive TQ (α:Type):Type 1 where
 | ret (a:α)
 | rdT (k:Nat) (f:TGV->TQ α)
 | rdB (k:Nat) (f:TBS->TQ α)
 | rdR (k:Nat) (f:TRS->TQ α)
 | req (b:Bool) (q:TQ α)
 | call {β:Type} (o:Option β) (f:β->TQ α)
 | fail
def TQ.bind {α β:Type}:TQ α->(α->TQ β)->TQ β
 | .ret a,f=>f a
 | .rdT k g,f=> .rdT k λx=>(g x).bind f
 | .rdB k g,f=> .rdB k λx=>(g x).bind f
 | .rdR k g,f=> .rdR k λx=>(g x).bind f
 | .req p q,f=> .req p (q.bind f)
 | .call o g,f=> .call o λx=>(g x).bind f
 | .fail,_=> .fail
def TQ.wpt {α:Type}:TQ α->TSt->List ao->(α->List ao->Prop)->Prop
 | .ret a,_,tr,K=>K a tr
 | .rdT k f,s,tr,K=>(f (s.t k)).wpt s (.t k :: tr) K
 | .rdB k f,s,tr,K=>(f (s.b k)).wpt s (.b k :: tr) K
 | .rdR k f,s,tr,K=>(f (s.r k)).wpt s (.r k :: tr) K
 | .req b q,s,tr,K=>b=true/\q.wpt s tr K
 | .call o f,s,tr,K=>∃ x,o=some x/\(f x).wpt s tr K
 | .fail,_,_,_=>False
theorem TQ.wpt_bind {α β:Type} (q:TQ α) (f:α->TQ β) (s:TSt) (tr:List ao) (K:β->List ao->Prop):(q.bind f).wpt s tr K ↔ q.wpt s tr λa rs=>(f a).wpt s rs K:=by
 induction q generalizing tr with
 | ret a=>rfl
 | rdT k g ih=>exact ih _ _
 | rdB k g ih=>exact ih _ _
 | rdR k g ih=>exact ih _ _
 | req p q ih=>exact and_congr Iff.rfl (ih _)
 | call o g ih=>exact exists_congr λx=>and_congr Iff.rfl (ih x _)
 | fail=>rfl
theorem Q.wpt_bind {α β:Type} (q:Q α) (f:α->Q β) (s:St) (tr:List ao) (K:β->List ao->Prop):(q.bind f).wpt s tr K ↔ q.wpt s tr λa rs=>(f a).wpt s rs K:=by
 induction q generalizing tr with
 | ret a=>rfl
 | rdT k g ih=>exact ih _ _
 | rdB k g ih=>exact ih _ _
 | rdR k g ih=>exact ih _ _
 | req p q ih=>exact and_congr Iff.rfl (ih _)
 | fail=>rfl
theorem Q.wpt_mono {α:Type} {q:Q α} {s:St} {K K':α->List ao->Prop}:∀ {tr:List ao},q.wpt s tr K->(∀ a rs,K a rs->K' a rs)->q.wpt s tr K':=by
 induction q with
 | ret a=>exact λh hk=>hk _ _ h
 | rdT k g ih=>exact λh hk=>ih _ h hk
 | rdB k g ih=>exact λh hk=>ih _ h hk
 | rdR k g ih=>exact λh hk=>ih _ h hk
 | req p q ih=>exact λh hk=>⟨h.1,ih h.2 hk⟩
 | fail=>exact λh hk=>h.elim
theorem Q.wp_of_wpt {α:Type} {q:Q α} {s:St} {K:α->Prop}:∀ {tr:List ao},(q.wpt s tr λa _=>K a)->q.wp s K:=by
 induction q with
 | ret a=>exact λh=>h
 | rdT k g ih=>exact λh=>ih _ h
 | rdB k g ih=>exact λh=>ih _ h
 | rdR k g ih=>exact λh=>ih _ h
 | req p q ih=>exact λh=>⟨h.1,ih h.2⟩
 | fail=>exact λh=>h
def Sim {α β:Type} (f:α->β) (q':TQ α) (q:Q β):Prop:=∀ (s:TSt) (tr:List ao) (K:α->List ao->Prop),q'.wpt s tr K->q.wpt s.st tr λb rs=>∃ a,b=f a/\K a rs
section
variable {α β γ δ:Type} {f:α->β} {g:γ->δ}
theorem Sim.ret {a:α} {b:β} (h:b=f a):Sim f (.ret a) (.ret b):=λ_ _ _ hk=>⟨a,h,hk⟩
theorem Sim.rdT {k:Nat} {q':TGV->TQ α} {q:GV->Q β} (h:∀ x,Sim f (q' x) (q x.gv)):Sim f (.rdT k q') (.rdT k q):=λs _ _ hk=>h (s.t k) s _ _ hk
theorem Sim.rdB {k:Nat} {q':TBS->TQ α} {q:BS->Q β} (h:∀ x,Sim f (q' x) (q x.bs)):Sim f (.rdB k q') (.rdB k q):=λs _ _ hk=>h (s.b k) s _ _ hk
theorem Sim.rdR {k:Nat} {q':TRS->TQ α} {q:RS->Q β} (h:∀ x,Sim f (q' x) (q x.rs)):Sim f (.rdR k q') (.rdR k q):=λs _ _ hk=>h (s.r k) s _ _ hk
theorem Sim.req {b:Bool} {p:Prop} {q':TQ α} {q:Q β} (hp:b=true->p) (h:b=true->Sim f q' q):Sim f (.req b q') (.req p q):=λs tr K hk=>⟨hp hk.1,h hk.1 s tr K hk.2⟩
theorem Sim.chk {b:Bool} {q':TQ α} {q:Q β} (h:b=true->Sim f q' q):Sim f (.req b q') q:=λs tr K hk=>h hk.1 s tr K hk.2
theorem Sim.must {p:Prop} {q':TQ α} {q:Q β} (hp:p) (h:Sim f q' q):Sim f q' (.req p q):=λs tr K hk=>⟨hp,h s tr K hk⟩
theorem Sim.fail {q:Q β}:Sim f .fail q:=λ_ _ _ hk=>hk.elim
theorem Sim.bind {q':TQ α} {q:Q β} {k':α->TQ γ} {k:β->Q δ} (h:Sim f q' q) (hk:∀ a,Sim g (k' a) (k (f a))):Sim g (q'.bind k') (q.bind k):=λs tr K hK=>by
 rw [TQ.wpt_bind] at hK;rw [Q.wpt_bind];refine Q.wpt_mono (h s tr _ hK) ?_;rintro b rs ⟨a,rfl,h1⟩;exact hk a s rs K h1
end
def chk {α:Type} (b:Bool) (k:Option α):Option α:=match b with
 | true=>k
 | false=>none
def TQ.run {α R:Type}:TQ α->TSt->List ao->(α->List ao->Option R)->Option R
 | .ret a,_,tr,K=>K a tr
 | .rdT k f,s,tr,K=>(f (s.t k)).run s (.t k :: tr) K
 | .rdB k f,s,tr,K=>(f (s.b k)).run s (.b k :: tr) K
 | .rdR k f,s,tr,K=>(f (s.r k)).run s (.r k :: tr) K
 | .req b q,s,tr,K=>Am.chk b (q.run s tr K)
 | .call o f,s,tr,K=>o.bind λx=>(f x).run s tr K
 | .fail,_,_,_=>none
theorem je {α:Type} {b:Bool} {k:Option α} {r:α} (h:chk b k=some r):b=true/\k=some r:=by
 cases b
 ·cases h
 ·exact⟨rfl,h⟩
theorem TQ.run_wpt {α R:Type} {r:R} {s:TSt} {K:α->List ao->Option R} {q:TQ α}:∀ {tr:List ao},q.run s tr K=some r->q.wpt s tr λa rs=>K a rs=some r:=by
 induction q with
 | ret a=>exact λh=>h
 | rdT k f ih=>exact λh=>ih _ h
 | rdB k f ih=>exact λh=>ih _ h
 | rdR k f ih=>exact λh=>ih _ h
 | req b q ih=>exact λh=>⟨(je h).1,ih (je h).2⟩
 | call o f ih=>
  intro tr h;simp only [TQ.run,a4s] at h;obtain⟨x,h1,h2⟩:=h;exact⟨x,h1,ih x h2⟩
 | fail=>intro tr h;cases h
def pq {u v:U} (h:u=v) (x:u.den):v.den:=h ▸ x
theorem sn {u v:U} (h:u=v) (x:u.den):v.enc (pq h x)=u.enc x:=by subst h;rfl
def cQ {α:Type} {n:Nat} (v:Vector α n) (i:Nat) (d:α):α:=v.toList.getD i d
theorem Mr {α:Type} {n:Nat} (v:Vector α n) (d:α):(List.range n).map (λi=>cQ v i d)=v.toList:=by
 refine List.ext_getElem (by simp) λi h1 h2=>?_;have:i < n:=by simpa using h1
 simp [this,cQ]
def a0u {n:Nat} {u:U} (v:Vector u.den n) (i:Nat):TC:= .ch u (cQ v i u.dflt)
def xX:(u:U)->u.den->List TC
 | .pr a b,x=> .ch a x.1 :: xX b x.2
 | .arr n u,x=>[.ch (.arr n u) x]
 | .int k,x=>[.ch (.int k) x]
 | .byte,x=>[.ch .byte x]
 | .bool,x=>[.ch .bool x]
 | .str,x=>[.ch .str x]
 | .sl u,x=>[.ch (.sl u) x]
def uM:(u:U)->u.den->List TC
 | .pr a b,x=> .ch a x.1 :: xX b x.2
 | .arr n _,v=>(List.range n).map λi=>a0u v i
 | .int k,x=>[.ch (.int k) x]
 | .byte,x=>[.ch .byte x]
 | .bool,x=>[.ch .bool x]
 | .str,x=>[.ch .str x]
 | .sl u,x=>[.ch (.sl u) x]
theorem uN (u:U):∀ (l:List u.den),C6 (l.map (TC.ch u))=(l.flatMap u.enc).map .d
 | []=>rfl
 | x :: l=>by rw [a3h,C6,uN u l,a3C,a3g];rfl
theorem wj:∀ (u:U) (x:u.den),C6 (xX u x)=(u.enc x).map .d
 | .pr a b,x=>by
  show TC.cells (.ch a x.1) ++ C6 (xX b x.2)=((a.enc x.1) ++ b.enc x.2).map .d;rw [wj b,a3g];rfl
 | .arr _ _,_=>by simp only [xX,C6,TC.cells,a3b]
 | .int _,_=>by simp only [xX,C6,TC.cells,a3b]
 | .byte,_=>by simp only [xX,C6,TC.cells,a3b]
 | .bool,_=>by simp only [xX,C6,TC.cells,a3b]
 | .str,_=>by simp only [xX,C6,TC.cells,a3b]
 | .sl _,_=>by simp only [xX,C6,TC.cells,a3b]
theorem qf:∀ (u:U) (x:u.den),C6 (uM u x)=(u.enc x).map .d
 | .pr a b,x=>by
  show TC.cells (.ch a x.1) ++ C6 (xX b x.2)=((a.enc x.1) ++ b.enc x.2).map .d;rw [wj b,a3g];rfl
 | .arr n u,v=>by
  have h:(List.range n).map (λi=>a0u (u:=u) v i)=(Vector.toList v).map (TC.ch u):=by
   have:=congrArg (List.map (TC.ch u)) (Mr (n:=n) (α:=u.den) v u.dflt);rw [a4z] at this;exact this
  show C6 ((List.range n).map (λi=>a0u (u:=u) v i))=_;rw [h,uN];rfl
 | .int _,_=>by simp only [uM,C6,TC.cells,a3b]
 | .byte,_=>by simp only [uM,C6,TC.cells,a3b]
 | .bool,_=>by simp only [uM,C6,TC.cells,a3b]
 | .str,_=>by simp only [uM,C6,TC.cells,a3b]
 | .sl _,_=>by simp only [uM,C6,TC.cells,a3b]
def big:U->Bool
 | .pr _ _=>true
 | .arr _ _=>true
 | _=>false
def Fc:Nat->Nat->List TC->Option (List TC)
 | 0,_,_=>none
 | f + 1,k,ps=>match k,ps with
  | 0,ps=>some ps
  | _ + 1,[]=>none
  | k + 1,p :: ps=>match Nat.ble p.size (k + 1) with
   | true=>Fc f (k + 1 - p.size) ps
   | false=>match p with
    | .ch u x=>match big u with
     | true=>Fc f (k + 1) (uM u x ++ ps)
     | false=>none
    | _=>none
def Fd:Nat->Nat->List TC->Option (List TC)
 | 0,_,_=>none
 | f + 1,k,ps=>match k,ps with
  | 0,_=>some []
  | _ + 1,[]=>none
  | k + 1,p :: ps=>match Nat.ble p.size (k + 1) with
   | true=>(Fd f (k + 1 - p.size) ps).map (p :: ·)
   | false=>match p with
    | .ch u x=>match big u with
     | true=>Fd f (k + 1) (uM u x ++ ps)
     | false=>none
    | _=>none
theorem uO:∀ {f k:Nat} {ps qs:List TC},Fc f k ps=some qs->C6 qs=(C6 ps).drop k/\k<=(C6 ps).length
 | 0,_,_,_,h=>by cases h
 | f + 1,k,ps,qs,h=>by
  unfold Fc at h;split at h
  ·injection h with h;subst h;simp
  ·cases h
  ·rename_i k p ps;split at h
   ·rename_i hb;have hb':=a3n hb;obtain⟨h1,h2⟩:=uO h;have hp:=TC.cells_len p;rw [C6,h1,a49,a4w (as:=p.cells) (by rw [hp];exact hb'),hp];refine⟨rfl,?_⟩;rw [a2V,hp];omega
   ·split at h
    ·rename_i u x _;split at h
     ·obtain⟨h1,h2⟩:=uO h;rw [hC,qf] at h1 h2;exact⟨h1,h2⟩
     ·cases h
    ·cases h
theorem uP:∀ {f k:Nat} {ps qs:List TC},Fd f k ps=some qs->C6 qs=(C6 ps).take k/\(C6 qs).length=k
 | 0,_,_,_,h=>by cases h
 | f + 1,k,ps,qs,h=>by
  unfold Fd at h;split at h
  ·injection h with h;subst h;simp [C6]
  ·cases h
  ·rename_i k p ps;split at h
   ·rename_i hb;have hb':=a3n hb;rw [a33] at h;obtain⟨q,h0,rfl⟩:=h;obtain⟨h1,h2⟩:=uP h0;have hp:=TC.cells_len p;rw [C6,C6,h1,a4x,a3T (l:=p.cells) (by rw [hp];exact hb'),hp];refine⟨rfl,?_⟩;rw [<-h1,a2V,hp,h2];omega
   ·split at h
    ·rename_i u x _;split at h
     ·obtain⟨h1,h2⟩:=uP h;rw [hC,qf] at h1;exact⟨h1,h2⟩
     ·cases h
    ·cases h
def FU:Nat:=1000
def TB (k n:Nat) (ps:List TC):Option (List TC):=(Fc FU k ps).bind λqs=>Fd FU n qs
theorem Ms {k n:Nat} {ps qs:List TC} (h:TB k n ps=some qs):C6 qs=((C6 ps).drop k).take n/\k + n<=(C6 ps).length:=by
 unfold TB at h;rw [a4s] at h;obtain⟨q,h1,h2⟩:=h;obtain⟨a1,a2⟩:=uO h1;obtain⟨b1,b2⟩:=uP h2;rw [a1] at b1;refine⟨b1,?_⟩;rw [b1,a26,a3a] at b2;omega
def Mt:List TC->Nat
 | []=>0
 | p :: ps=>p.size + Mt ps
theorem uQ:∀ (ps:List TC),(C6 ps).length=Mt ps
 | []=>rfl
 | p :: ps=>by rw [C6,a2V,TC.cells_len,uQ ps];rfl
def WF (ps:List TC) (k:Nat) (xs:List TC):Option (List TC):=(Fd FU k ps).bind λa=>(Fc FU (k + Mt xs) ps).map λb=>a ++ xs ++ b
theorem Mu {ps qs xs:List TC} {k:Nat} (h:WF ps k xs=some qs):C6 qs=setAt (C6 ps) k (C6 xs)/\k + (C6 xs).length<=(C6 ps).length:=by
 unfold WF at h;simp only [a4s,a33] at h;obtain⟨a,h1,b,h2,rfl⟩:=h;obtain⟨a1,a2⟩:=uP h1;obtain⟨b1,b2⟩:=uO h2;rw [hC,hC,a1,b1,uQ];refine⟨?_,b2⟩;unfold setAt;rw [uQ]
structure Pk (α:Type) where
 x:α
 rest:List TC
 fz:List Nat
def TQ.ofOpt {α:Type}:Option α->TQ α
 | some a=> .ret a
 | none=> .fail
def QB {α:Type} (p:List TC->TQ (Pk α)):(n:Nat)->List TC->TQ (Pk (Vector α n))
 | 0,ps=> .ret ⟨#v[],ps,[]⟩
 | n + 1,ps=>(QB p n ps).bind λa=>(p a.rest).bind λb=> .ret ⟨a.x.push b.x,b.rest,a.fz ++ b.fz⟩
def UX (n:Int) (rest:List TC):TQ (Pk UInt8):= .req (decide (0<=n/\n < 256)) (.ret ⟨UInt8.ofNat n.toNat,rest,[]⟩)
def UY:(u:U)->u.den->List TC->TQ (Pk UInt8)
 | .byte,x,rest=> .ret ⟨x,rest,[]⟩
 | .int k,n,rest=>match decEq k IntKind.u8 with
  | .isTrue _=>UX n rest
  | .isFalse _=> .fail
 | _,_,_=> .fail
def xY:List TC->Option (Sigma U.den × List TC)
 | .ch u x :: rest=>match big u with
  | true=>some (⟨u,x⟩,rest)
  | false=>none
 | _=>none
theorem vI {ps rest:List TC} {c:Sigma U.den} (h:xY ps=some (c,rest)):ps= .ch c.1 c.2 :: rest:=by
 unfold xY at h;split at h
 ·split at h
  ·injection h with h;injection h with h1 h2;subst h1;subst h2;rfl
  ·cases h
 ·cases h
def HB (u:U) (ps:List TC) (q:TQ (Pk u.den)):TQ (Pk u.den):=match xY ps with
 | some c=>match decEq c.1.1 u with
  | .isTrue h=> .ret ⟨pq h c.1.2,c.2,[]⟩
  | .isFalse _=>q
 | none=>q
def PK:(u:U)->List TC->TQ (Pk u.den)
 | .int k,ps=>match ps with
  | .ch (.int k') n :: rest=>match decEq k' k with
   | .isTrue _=> .ret ⟨n,rest,[]⟩
   | .isFalse _=> .fail
  | .ch .byte x :: rest=>match decEq IntKind.u8 k with
   | .isTrue _=> .ret ⟨((UInt8.toNat x:Nat):Int),rest,[]⟩
   | .isFalse _=> .fail
  | _=> .fail
 | .byte,ps=>match ps with
  | .ch u x :: rest=>UY u x rest
  | _=> .fail
 | .bool,ps=>match ps with
  | .ch .bool x :: rest=> .ret ⟨x,rest,[]⟩
  | _=> .fail
 | .str,ps=>match ps with
  | .ch .str x :: rest=> .ret ⟨x,rest,[]⟩
  | _=> .fail
 | .sl u,ps=>match ps with
  | .ch (.sl v) x :: rest=>match decEq v u with
   | .isTrue h=> .ret ⟨(h ▸ x:List u.den),rest,[]⟩
   | .isFalse _=> .fail
  | .nil :: rest=> .ret ⟨([]:List u.den),rest,[]⟩
  | .row id ver :: rest=> .rdR id λr=>match r.c with
   | some R=>match decEq R.u u with
    | .isTrue h=> .req (decide (ver=r.ver/\R.e < ja)) (.ret ⟨(h ▸ R.l:List u.den),rest,[id]⟩)
    | .isFalse _=> .fail
   | none=> .fail
  | _=> .fail
 | .pr a b,ps=>HB (.pr a b) ps <| (PK a ps).bind λp=>(PK b p.rest).bind λq=> .ret ⟨(p.x,q.x),q.rest,p.fz ++ q.fz⟩
 | .arr n u,ps=>HB (.arr n u) ps (QB (PK u) n ps)
theorem Bt {s:St} {K:List DV × List Nat->List ao->Prop}:∀ (a b:List AC) {tr:List ao},((tG a).wpt s tr λd rs=>(tG b).wpt s rs λe rs'=>K (d.1 ++ e.1,d.2 ++ e.2) rs')->(tG (a ++ b)).wpt s tr K
 | [],b,tr,h=>by
  simpa only [tG,Q.wpt,a3E] using h
 | x :: a,b,tr,h=>by
  simp only [a3x,tG,Q.wpt_bind,Q.wpt] at h ⊢;refine Q.wpt_mono h λd rs h1=>?_;refine Bt a b (Q.wpt_mono h1 λe rs' h2=>?_);refine Q.wpt_mono h2 λg rs'' h3=>?_;simpa only [a3x,a3c] using h3
theorem Mv (s:St) {tr:List ao} {K:List DV × List Nat->List ao->Prop}:∀ {ds:List DV},K (ds,[]) tr->(tG (ds.map .d)).wpt s tr K
 | [],h=>h
 | d :: ds,h=>by
  simp only [a3h,tG,Q.wpt_bind,Q.wpt,toD];exact Mv s (ds:=ds) (K:=λe rs=>K (d :: e.1,[] ++ e.2) rs) h
def Lr {α:Type} (f:α->List DV) (p:List TC->TQ (Pk α)):Prop:=∀ (ps:List TC) (s:TSt) (tr:List ao) (K:Pk α->List ao->Prop),(p ps).wpt s tr K->
 ∃ pre k rs,C6 ps=pre ++ C6 k.rest/\K k rs/\(tG pre).wpt s.st tr λd rs'=>d=(f k.x,k.fz)/\rs'=rs
theorem HC {α:Type} {f:α->List DV} {p:List TC->TQ (Pk α)} (hp:Lr f p):∀ (n:Nat),Lr (λv:Vector α n=>v.toList.flatMap f) (QB p n)
 | 0,ps,s,tr,K,h=>⟨[],_,tr,rfl,h,rfl,rfl⟩
 | n + 1,ps,s,tr,K,h=>by
  simp only [QB,TQ.wpt_bind] at h;obtain⟨pre1,k1,rs1,e1,h,d1⟩:=HC hp n ps s tr _ h;obtain⟨pre2,k2,rs2,e2,h,d2⟩:=hp _ s rs1 _ h;refine⟨pre1 ++ pre2,_,rs2,?_,h,Bt _ _ (Q.wpt_mono d1 ?_)⟩
  ·rw [e1,e2,a3c]
  ·rintro d rs ⟨rfl,rfl⟩;refine Q.wpt_mono d2 ?_;rintro d rs ⟨rfl,rfl⟩;simp [a5p]
theorem Lr.ch {u:U} {x:u.den} {α:Type} {f:α->List DV} {y:α} {ps rest:List TC} {s:TSt} {tr:List ao} {K:Pk α->List ao->Prop} (hps:ps= .ch u x :: rest) (h:K ⟨y,rest,[]⟩ tr) (e:f y=u.enc x) :
  ∃ pre k rs,C6 ps=pre ++ C6 k.rest/\K k rs/\(tG pre).wpt s.st tr λd rs'=>d=(f k.x,k.fz)/\rs'=rs:=
 ⟨(u.enc x).map .d,_,tr,by rw [hps];rfl,h,Mv _ ⟨by rw [e],rfl⟩⟩
theorem ofNat_toNat {n:Int} (h0:0<=n) (h:n < 256):((UInt8.toNat (UInt8.ofNat n.toNat):Nat):Int)=n:=by
 have:n.toNat < 256:=by omega
 have h2:(UInt8.ofNat n.toNat).toNat=n.toNat:=UInt8.toNat_ofNat_of_lt' this;rw [h2];omega
theorem HD {n:Int} (h:decide (0<=n/\n < 256)=true):[DV.v (.int .u8 ((UInt8.toNat (UInt8.ofNat n.toNat):Nat):Int))]=[DV.v (.int .u8 n)]:=by
 have h1:=a23 h;rw [ofNat_toNat h1.1 h1.2]
theorem Dg {u:U} {ps:List TC} {q:TQ (Pk u.den)} {s:TSt} {tr:List ao} {K:Pk u.den->List ao->Prop} (hq:q.wpt s tr K->∃ pre k rs,C6 ps=pre ++ C6 k.rest/\K k rs/\(tG pre).wpt s.st tr λd rs'=>d=(u.enc k.x,k.fz)/\rs'=rs)
  (h:(HB u ps q).wpt s tr K):∃ pre k rs,C6 ps=pre ++ C6 k.rest/\K k rs/\(tG pre).wpt s.st tr λd rs'=>d=(u.enc k.x,k.fz)/\rs'=rs:=by
 unfold HB at h;split at h
 ·rename_i c hc;split at h
  ·rename_i hk _;exact Lr.ch (vI hc) h (sn hk _)
  ·exact hq h
 ·exact hq h
theorem xZ:∀ (u:U),Lr u.enc (PK u)
 | .int k,ps,s,tr,K,h=>by
  unfold PK at h;split at h
  ·split at h
   ·rename_i hk _;subst hk;exact Lr.ch rfl h rfl
   ·exact h.elim
  ·split at h
   ·rename_i hk _;subst hk;exact Lr.ch rfl h rfl
   ·exact h.elim
  ·exact h.elim
 | .byte,ps,s,tr,K,h=>by
  cases ps with
  | nil=>exact h.elim
  | cons p rest=>
   cases p with
   | ch u x=>
    replace h:(UY u x rest).wpt s tr K:=h
    cases u with
    | byte=>exact Lr.ch rfl h rfl
    | int k=>
     unfold UY at h;simp only at h;split at h
     ·rename_i hk _;subst hk;obtain⟨h1,h2⟩:=h;exact Lr.ch (u:= .int .u8) rfl h2 (HD (n:=x) h1)
     ·exact h.elim
    | _=>exact h.elim
   | _=>exact h.elim
 | .bool,ps,s,tr,K,h=>by
  unfold PK at h;split at h
  ·exact Lr.ch rfl h rfl
  ·exact h.elim
 | .str,ps,s,tr,K,h=>by
  unfold PK at h;split at h
  ·exact Lr.ch rfl h rfl
  ·exact h.elim
 | .sl u,ps,s,tr,K,h=>by
  unfold PK at h;split at h
  ·split at h
   ·rename_i hk _;subst hk;exact Lr.ch rfl h rfl
   ·exact h.elim
  ·exact⟨[.nil],_,tr,rfl,h,rfl,rfl⟩
  ·rename_i id ver rest;simp only [TQ.wpt] at h;split at h
   ·rename_i R hR;split at h
    ·rename_i hk _;obtain⟨h1,h2⟩:=h;rw [a2W] at h1;refine⟨[.row id ver],_,_,rfl,h2,?_⟩;have hc:(s.st.r id).c=some R.row:=by show(s.r id).c.map wH.row=_;rw [hR];rfl
     simp only [tG,toD,Q.bind,Q.wpt];rw [hc];refine⟨h1,?_,rfl⟩;subst hk;rfl
    ·exact h.elim
   ·exact h.elim
  ·exact h.elim
 | .pr a b,ps,s,tr,K,h=>Dg (by
   intro h;simp only [TQ.wpt_bind] at h;obtain⟨pre1,k1,rs1,e1,h,d1⟩:=xZ a _ s tr _ h;obtain⟨pre2,k2,rs2,e2,h,d2⟩:=xZ b _ s rs1 _ h;refine⟨pre1 ++ pre2,_,rs2,by rw [e1,e2,a3c],h,Bt _ _ (Q.wpt_mono d1 ?_)⟩;rintro d rs ⟨rfl,rfl⟩;refine Q.wpt_mono d2 ?_;rintro d rs ⟨rfl,rfl⟩;exact⟨rfl,rfl⟩) h
 | .arr n u,ps,s,tr,K,h=>Dg (HC (xZ u) n _ s tr K) h
structure Pa (α:Type) where
 x:α
 fz:List Nat
def qg (u:U) (ps:List TC):TQ (Pa u.den):=(PK u ps).bind λp=> .req p.rest.isEmpty (.ret ⟨p.x,p.fz⟩)
theorem kj (u:U) (ps:List TC):Sim (λp:Pa u.den=>(u.enc p.x,p.fz)) (qg u ps) (tG (C6 ps)):=λs tr K h=>by
 unfold qg at h;rw [TQ.wpt_bind] at h;obtain⟨pre,k,rs,e,h,d⟩:=xZ u ps s tr _ h;obtain⟨h1,h2⟩:=h;rw [List.isEmpty_iff] at h1;rw [h1,C6,a3b] at e;rw [e];refine Q.wpt_mono d ?_;rintro d rs ⟨rfl,rfl⟩;exact⟨_,rfl,h2⟩
def US:List gQ->List Upd:=List.map gQ.upd
def a0v (d:Option Nat) (x:TV):List gQ:=match d with
 | some d=>[.t d ⟨true,x⟩]
 | none=>[]
def ux (d:Option Nat) (x:TV):TQ (List gQ):= .ret (a0v d x)
theorem N6 (d:Option Nat) (x:TV):Sim US (ux d x) (one d x.av):=Sim.ret (by cases d <;> rfl)
theorem Dh {α β:Type} {f:α->β} {o':Option α} {o:Option β} (h:∀ a,o'=some a->o=some (f a)):Sim f (TQ.ofOpt o') (Q.ofOpt o):=by
 cases o' with
 | none=>exact Sim.fail
 | some a=>rw [h a rfl];exact Sim.ret rfl
theorem bZ {α:Type} (o:Option α):Sim id (TQ.ofOpt o) (Q.ofOpt o):=Dh λ_ h=>h
def JT:Value->Option TC
 | .int k n=>some (.ch (.int k) n)
 | .bool b=>some (.ch .bool b)
 | .string s=>some (.ch .str s.data.toList)
 | .slice none 0 0=>some .nil
 | .pointer none=>some .npt
 | .map none=>some .nmap
 | .func (.func f) xs ys=>match xs.toList,ys.toList with
  | [],[]=>some (.fn f)
  | _,_=>none
 | _=>none
theorem Bu {v:Value} {c:TC} (h:JT v=some c):c.cells=[gS v]/\v.oneCell'=true/\tv v= .c (gS v):=by
 unfold JT at h;split at h
 ·injection h with h;subst h;exact⟨rfl,rfl,rfl⟩
 ·injection h with h;subst h;exact⟨rfl,rfl,rfl⟩
 ·rename_i s;injection h with h;subst h;refine⟨?_,rfl,rfl⟩;show [AC.d (.v (.string ⟨s.data.toList.toArray⟩))]=[AC.d (.v (.string s))];rw [Array.toArray_toList]
 ·injection h with h;subst h;exact⟨rfl,rfl,rfl⟩
 ·injection h with h;subst h;exact⟨rfl,rfl,rfl⟩
 ·injection h with h;subst h;exact⟨rfl,rfl,rfl⟩
 ·rename_i f xs ys;split at h
  ·rename_i hx hy;injection h with h;subst h;have ex:xs= #[]:=by cases xs;simp only at hx;subst hx;rfl
   have ey:ys= #[]:=by cases ys;simp only at hy;subst hy;rfl
   subst ex;subst ey;exact⟨rfl,rfl,rfl⟩
  ·cases h
 ·cases h
def ya:List Value->Option (List TC)
 | []=>some []
 | v :: vs=>(JT v).bind λc=>(ya vs).map (c :: ·)
theorem vJ:∀ {vs:List Value} {cs:List TC},ya vs=some cs->C6 cs=vs.map gS/\(vs.all Value.oneCell')=true
 | [],cs,h=>by injection h with h;subst h;exact⟨rfl,rfl⟩
 | v :: vs,cs,h=>by
  simp only [ya,a4s,a33] at h;obtain⟨c,h1,ds,h2,rfl⟩:=h;obtain⟨a1,a2,_⟩:=Bu h1;obtain⟨b1,b2⟩:=vJ h2;exact⟨by rw [C6,a1,b1];rfl,by rw [a34,a2,b2];rfl⟩
def wk:Value->Option TV
 | .agg cs=>(ya cs.toList).map λps=> .o (.agg ps)
 | v=>(JT v).map λc=> .o (.c c)
theorem Di {v:Value} {x:TV} (h:wk v=some x):tv v=x.av:=by
 unfold wk at h;split at h
 ·rename_i cs;rw [a33] at h;obtain⟨ps,h1,rfl⟩:=h;obtain⟨b1,b2⟩:=vJ h1;simp only [tv,b2,a3H,TV.av,T1.av,b1]
 ·rw [a33] at h;obtain⟨c,h1,rfl⟩:=h;obtain⟨a1,_,a3⟩:=Bu h1;rw [a3];simp only [TV.av,T1.av,a1,kR]
def tev:Operand->TQ TV
 | .tmp k=> .rdT k λx=> .req x.g (.ret x.x)
 | .const v=> .ofOpt (wk v)
 | .func f=> .ret (.o (.c (.fn f)))
 | .global _=> .fail
theorem K5:(x:Operand)->Sim TV.av (tev x) (ev x)
 | .tmp k=>Sim.rdT λx=>Sim.req id λ_=>Sim.ret rfl
 | .const v=>by
  show Sim TV.av (TQ.ofOpt (wk v)) (.ret (tv v));cases h:wk v with
  | none=>exact Sim.fail
  | some x=>exact Sim.ret (Di h)
 | .func f=>Sim.ret rfl
 | .global _=>Sim.fail
def Xv:List Operand->TQ (List TV)
 | []=> .ret []
 | x :: xs=>(tev x).bind λv=>(Xv xs).bind λvs=> .ret (v :: vs)
theorem wX:(xs:List Operand)->Sim (List.map TV.av) (Xv xs) (evs xs)
 | []=>Sim.ret rfl
 | x :: xs=>Sim.bind (K5 x) λ_v=>Sim.bind (wX xs) λ_vs=>Sim.ret rfl
def pav (p:Nat × TV):Nat × AV:=(p.1,p.2.av)
def QC:List (Nat × Operand)->TQ (List (Nat × TV))
 | []=> .ret []
 | p :: xs=>(tev p.2).bind λv=>(QC xs).bind λvs=> .ret ((p.1,v) :: vs)
theorem yb:(xs:List (Nat × Operand))->Sim (List.map pav) (QC xs) (Tl xs)
 | []=>Sim.ret rfl
 | p :: xs=>Sim.bind (K5 p.2) λ_v=>Sim.bind (yb xs) λ_vs=>Sim.ret rfl
def TD:TV->TQ Int
 | .o (.c (.ch (.int _) n))=> .ret n
 | .o (.c (.ch .byte x))=> .ret ((UInt8.toNat x:Nat):Int)
 | _=> .fail
theorem so (x:TV):Sim id (TD x) (Q.int x.av):=by
 unfold TD;split
 ·exact Sim.ret rfl
 ·exact Sim.ret rfl
 ·exact Sim.fail
def QD:TV->TQ Bool
 | .o (.c (.ch .bool b))=> .ret b
 | _=> .fail
theorem Dj (x:TV):Sim id (QD x) (Q.bool x.av):=by
 unfold QD;split
 ·exact Sim.ret rfl
 ·exact Sim.fail
def ZX:Option Operand->TQ (Option Int)
 | none=> .ret none
 | some x=>(tev x).bind λv=>(TD v).bind λn=> .ret (some n)
theorem Bv:(x:Option Operand)->Sim id (ZX x) (evo x)
 | none=>Sim.ret rfl
 | some x=>Sim.bind (K5 x) λv=>Sim.bind (so v) λ_n=>Sim.ret rfl
def a0w:Operand->TQ TGV
 | .tmp k=> .rdT k .ret
 | .const v=>(TQ.ofOpt (wk v)).bind λx=> .ret ⟨true,x⟩
 | .func f=> .ret ⟨true,.o (.c (.fn f))⟩
 | .global _=> .fail
theorem HE:(x:Operand)->Sim TGV.gv (a0w x) (evG x)
 | .tmp k=>Sim.rdT λx=>Sim.ret rfl
 | .const v=>by
  show Sim TGV.gv ((TQ.ofOpt (wk v)).bind λx=> .ret ⟨true,x⟩) (.ret ⟨true,tv v⟩);cases h:wk v with
  | none=>exact Sim.fail
  | some x=>exact Sim.ret (congrArg (GV.mk true) (Di h))
 | .func f=>Sim.ret rfl
 | .global _=>Sim.fail
def is1 (x:TC):Bool:=Nat.beq x.size 1
theorem wl {x:TC} (h:is1 x=true):x.cells=[kR x.cells]:=by
 have h1:=a22 h;rw [<-TC.cells_len] at h1
 match hc:x.cells,h1 with
 | [y],_=>rfl
def zV:TV->TQ (List TC)
 | .o (.c x)=> .req (is1 x) (.ret [x])
 | .o (.agg xs)=> .ret xs
 | _=> .fail
theorem sq (x:TV):Sim C6 (zV x) x.av.cells:=by
 unfold zV;split
 ·rename_i x;refine Sim.chk λh=>Sim.ret ?_;show [kR x.cells]=x.cells ++ [];rw [a3b];exact(wl h).symm
 ·exact Sim.ret rfl
 ·exact Sim.fail
def Xw (a b:Bool):Bool:=a == b
def notI (k:IntKind) (n:Int):Int:=k.wrap (BitVec.ofInt k.bits (if k.signed then -1 else k.max) ^^^ BitVec.ofInt k.bits n).toNat
def a2p (k:IntKind) (n:Int):Int:=k.wrap (0 - n)
def c1 (u:U) (x:u.den):TV:= .o (.c (.ch u x))
def ye (op:BinOp) (k:IntKind) (a b:Int):TQ TV:=match op with
 | .add=> .ret (c1 (.int k) (k.wrap (a + b)))
 | .sub=> .ret (c1 (.int k) (k.wrap (a - b)))
 | .mul=> .ret (c1 (.int k) (k.wrap (a * b)))
 | .quo=> .req (!decide (b=0)) (.ret (c1 (.int k) (k.wrap (a.tdiv b))))
 | .rem=> .req (!decide (b=0)) (.ret (c1 (.int k) (a.tmod b)))
 | .and=> .ret (c1 (.int k) (bits .and k a b))
 | .or=> .ret (c1 (.int k) (bits .or k a b))
 | .xor=> .ret (c1 (.int k) (bits .xor k a b))
 | .andNot=> .ret (c1 (.int k) (bits .andNot k a b))
 | .eql=> .ret (c1 .bool (decide (a=b)))
 | .neq=> .ret (c1 .bool (!decide (a=b)))
 | .lss=> .ret (c1 .bool (decide (a < b)))
 | .leq=> .ret (c1 .bool (decide (a<=b)))
 | .gtr=> .ret (c1 .bool (decide (b < a)))
 | .geq=> .ret (c1 .bool (decide (b<=a)))
 | _=> .fail
def fin (v:Value):Q AV:= .req (v.oneCell'=true) (.ret (.c (.d (.v v))))
theorem tO {α:Type} {f:α->AV} {a:α} {v:Value} (h1:v.oneCell'=true) (h:AV.c (.d (.v v))=f a):Sim f (.ret a) (fin v):=Sim.must h1 (Sim.ret h)
theorem qh (op:BinOp) (k:IntKind) (a b:Int):Sim TV.av (ye op k a b) ((wd op k a b).bind fin):=by
 have hne:(!decide (b=0))=true->b ≠ 0:=by simp
 cases op
 case quo=>exact Sim.req hne λ_=>tO rfl rfl
 case rem=>exact Sim.req hne λ_=>tO rfl rfl
 all_goals first | exact Sim.fail | exact tO rfl rfl
def Dk (op:BinOp) (k:IntKind) (a b:Int):TQ TV:=match op with
 | .shl=> .req (decide (0<=b)) (.ret (c1 (.int k) (k.wrap (a * 2 ^ (min b.toNat k.bits)))))
 | .shr=> .req (decide (0<=b)) (.ret (c1 (.int k) (a / (2 ^ (min b.toNat k.bits)))))
 | _=> .fail
theorem sr (op:BinOp) (k:IntKind) (a b:Int):Sim TV.av (Dk op k a b) ((uC op k a b).bind fin):=by
 cases op
 case shl=>exact Sim.req a23 λ_=>tO rfl rfl
 case shr=>
  rw [Xu];exact Sim.req a23 λ_=>tO rfl rfl
 all_goals exact Sim.fail
def Mw (op:BinOp) (a b:List UInt8):TQ TV:=match op with
 | .add=> .req (decide (a.length + b.length<=4611686018427387904)) (.ret (c1 .str (a ++ b)))
 | .eql=> .ret (c1 .bool (decide (a=b)))
 | .neq=> .ret (c1 .bool (!decide (a=b)))
 | .lss=> .ret (c1 .bool (Op.bytesLess a b))
 | .leq=> .ret (c1 .bool (Op.bytesLess a b || decide (a=b)))
 | .gtr=> .ret (c1 .bool (!(Op.bytesLess a b || decide (a=b))))
 | .geq=> .ret (c1 .bool (!Op.bytesLess a b))
 | _=> .fail
theorem Mx (a b:List UInt8):(⟨a.toArray⟩:ByteArray) ++ ⟨b.toArray⟩=⟨(a ++ b).toArray⟩:=by
 apply ByteArray.ext;rw [ByteArray.data_append];simp
theorem Fe (op:BinOp) (a b:List UInt8):Sim TV.av (Mw op a b) ((Hf op ⟨a.toArray⟩ ⟨b.toArray⟩).bind fin):=by
 cases op
 case add=>
  refine Sim.req (λh=>?_) λ_=>tO rfl ?_
  ·have:=a23 h;simpa [ByteArray.size] using this
  ·rw [Mx];rfl
 all_goals first | exact Sim.fail | exact tO rfl rfl
def QE (op:BinOp) (k:TK):TV->TV->TQ TV
 | .o (.c (.ch (.int i) a)),.o (.c (.ch (.int j) b))=>match iK op with
  | true=>Dk op i a b
  | false=>match decEq i j with
   | .isTrue _=>ye op i a b
   | .isFalse _=> .fail
 | .o (.c (.ch .byte a)),.o (.c (.ch (.int j) b))=>match iK op with
  | true=>Dk op .u8 ((UInt8.toNat a:Nat):Int) b
  | false=>match decEq IntKind.u8 j with
   | .isTrue _=>ye op .u8 ((UInt8.toNat a:Nat):Int) b
   | .isFalse _=> .fail
 | .o (.c (.ch (.int j) a)),.o (.c (.ch .byte b))=>match iK op with
  | true=>Dk op j a ((UInt8.toNat b:Nat):Int)
  | false=>match decEq j IntKind.u8 with
   | .isTrue _=>ye op .u8 a ((UInt8.toNat b:Nat):Int)
   | .isFalse _=> .fail
 | .o (.c (.ch .byte a)),.o (.c (.ch .byte b))=>match iK op with
  | true=>Dk op .u8 ((UInt8.toNat a:Nat):Int) ((UInt8.toNat b:Nat):Int)
  | false=>ye op .u8 ((UInt8.toNat a:Nat):Int) ((UInt8.toNat b:Nat):Int)
 | .o (.c (.ch .str a)),.o (.c (.ch .str b))=>Mw op a b
 | .o (.c (.ch .bool a)),.o (.c (.ch .bool b))=>match k,Lv op with
  | .bool,some e=> .ret (c1 .bool (match e with | true=>Xw a b | false=> !(Xw a b)))
  | _,_=> .fail
 | .o (.c (.ptr id ver _)),.o (.c .npt)=>match k,Lv op with
  | .ptr _,some e=> .rdB id λb=> .req (Nat.beq ver b.ver && b.c.isSome) (.ret (c1 .bool (match e with | true=>false | false=>true)))
  | _,_=> .fail
 | .o (.c .npt),.o (.c .npt)=>match k,Lv op with
  | .ptr _,some e=> .ret (c1 .bool (match e with | true=>true | false=>false))
  | _,_=> .fail
 | _,_=> .fail
theorem My (op:BinOp) (i:TI) (x y:TV):Sim TV.av (QE op i.k x y) (WR op i x.av y.av):=by
 obtain⟨k,sz,bs,zr,cm⟩:=i;show Sim TV.av (QE op k x y) _;unfold QE;split
 ·rename_i i a j b;show Sim TV.av _ ((match iK op with | true=>uC op i a b | false=> .req (i=j) (wd op i a b)).bind fin)
  cases iK op with
  | true=>exact sr op i a b
  | false=>
   simp only;split
   ·rename_i h _;exact Sim.must h (qh op i a b)
   ·exact Sim.fail
 ·rename_i a j b;show Sim TV.av _ ((match iK op with | true=>uC op .u8 ((UInt8.toNat a:Nat):Int) b | false=> .req (IntKind.u8=j) (wd op .u8 ((UInt8.toNat a:Nat):Int) b)).bind fin)
  cases iK op with
  | true=>exact sr op .u8 _ b
  | false=>
   simp only;split
   ·rename_i h _;exact Sim.must h (qh op .u8 _ b)
   ·exact Sim.fail
 ·rename_i j a b;show Sim TV.av _ ((match iK op with | true=>uC op j a ((UInt8.toNat b:Nat):Int) | false=> .req (j=IntKind.u8) (wd op j a ((UInt8.toNat b:Nat):Int))).bind fin)
  cases iK op with
  | true=>exact sr op j a _
  | false=>
   simp only;split
   ·rename_i h _;subst h;exact Sim.must rfl (qh op .u8 a _)
   ·exact Sim.fail
 ·rename_i a b;show Sim TV.av _ ((match iK op with | true=>uC op .u8 ((UInt8.toNat a:Nat):Int) ((UInt8.toNat b:Nat):Int) | false=> .req (IntKind.u8=IntKind.u8) (wd op .u8 ((UInt8.toNat a:Nat):Int) ((UInt8.toNat b:Nat):Int))).bind fin)
  cases iK op with
  | true=>exact sr op .u8 _ _
  | false=>exact Sim.must rfl (qh op .u8 _ _)
 ·rename_i a b;exact Fe op a b
 ·rename_i a b;split
  ·rename_i e he;show Sim TV.av _ (match Lv op with | some e=>(Q.ret (Xw a b)).bind λb=> .ret (AV.c (.d (.v (.bool (match e with | true=>b | false=> !b))))) | none=> .fail)
   rw [he];exact Sim.ret rfl
  ·exact Sim.fail
 ·rename_i id ver _;split
  ·rename_i t e he;show Sim TV.av _ (match Lv op with | some e=>(Q.rdB id λb=> .req (ver=b.ver/\b.c.isSome=true) (.ret false)).bind λb=> .ret (AV.c (.d (.v (.bool (match e with | true=>b | false=> !b))))) | none=> .fail)
   rw [he];refine Sim.rdB λb=>Sim.req (λh=>?_) λ_=>Sim.ret ?_
   ·rw [a24] at h;exact⟨a22 h.1,by rw [<-h.2];simp [TBS.bs]⟩
   ·cases e <;> rfl
  ·exact Sim.fail
 ·split
  ·rename_i t e he;show Sim TV.av _ (match Lv op with | some e=>(Q.ret true).bind λb=> .ret (AV.c (.d (.v (.bool (match e with | true=>b | false=> !b))))) | none=> .fail)
   rw [he];exact Sim.ret (by cases e <;> rfl)
  ·exact Sim.fail
 ·exact Sim.fail
def tun (op:UnOp):TV->TQ TV
 | .o (.c (.ch .bool b))=>match op with | .not=> .ret (c1 .bool (!b)) | _=> .fail
 | .o (.c (.ch (.int k) n))=>match op with | .neg=> .ret (c1 (.int k) (a2p k n)) | .xor=> .ret (c1 (.int k) (notI k n)) | _=> .fail
 | _=> .fail
theorem UZ (op:UnOp) (x:TV):Sim TV.av (tun op x) (unQ op x.av):=by
 unfold tun;split
 ·cases op <;> first | exact Sim.ret rfl | exact Sim.fail
 ·cases op <;> first | exact Sim.ret rfl | exact Sim.fail
 ·exact Sim.fail
def Xx (c:Bool) (x y:TGV):TQ TV:=match c with
 | true=> .req x.g (.ret x.x)
 | false=> .req y.g (.ret y.x)
theorem Mz (c:Bool) (x y:TGV):Sim TV.av (Xx c x y) (PT c x.gv y.gv):=by
 cases c <;> exact Sim.req id λ_=>Sim.ret rfl
def nV:List Nat->TQ (List gQ)
 | []=> .ret []
 | id :: ids=> .rdR id λr=>match r.c with
  | some R=> .req (decide (R.e < ja)) ((nV ids).bind λus=> .ret (match R.fr with | true=>us | false=> .r id ⟨r.ver,some ⟨R.u,R.l,R.e,true⟩⟩ :: us))
  | none=> .fail
theorem eN:(ids:List Nat)->Sim US (nV ids) (kT ids)
 | []=>Sim.ret rfl
 | id :: ids=>Sim.rdR λr=>by
  obtain⟨ver,c⟩:=r;cases c with
  | none=>exact Sim.fail
  | some R=>exact Sim.req a23 λ_=>Sim.bind (eN ids) λus=>Sim.ret (by obtain⟨u,l,e,f⟩:=R;cases f <;> rfl)
def QF (i:TI) (ps:List TC):TQ TV:=match i.agg with
 | true=> .ret (.o (.agg ps))
 | false=>match ps with
  | [x]=> .req (is1 x) (.ret (.o (.c x)))
  | _=> .fail
theorem su (i:TI) (ps:List TC):Sim TV.av (QF i ps) (asV i (C6 ps)):=by
 unfold QF asV;cases i.agg with
 | true=>exact Sim.ret rfl
 | false=>
  simp only;split
  ·rename_i x;refine Sim.chk λh=>?_;have e:C6 [x]=[kR x.cells]:=(a3b _).trans (wl h);rw [e];exact Sim.ret rfl
  ·exact Sim.fail
structure Xy where
 pre:List TC
 n:Nat
 u:U
 v:Vector u.den n
 post:List TC
def JU (off:Nat) (ps:List TC):Option Xy:=(Fd FU off ps).bind λa=>(Fc FU off ps).bind λb=>match b with
 | .ch (.arr n u) v :: post=>some ⟨a,n,u,v,post⟩
 | _=>none
theorem Bw {off:Nat} {ps:List TC} {A:Xy} (h:JU off ps=some A):C6 ps=C6 A.pre ++ ((U.arr A.n A.u).enc A.v).map .d ++ C6 A.post/\(C6 A.pre).length=off:=by
 unfold JU at h;simp only [a4s] at h;obtain⟨a,h1,b,h2,h3⟩:=h;obtain⟨a1,a2⟩:=uP h1;obtain⟨b1,b2⟩:=uO h2;split at h3
 ·injection h3 with h3;subst h3;refine⟨?_,a2⟩;have:=a3q off (C6 ps);rw [<-a1,<-b1] at this;rw [<-this,a3c];rfl
 ·cases h3
theorem HF {α β:Type} {f:α->List β} {z:Nat}:∀ {l:List α} {k:Nat} {x:α},(∀ y ∈ l,(f y).length=z)->l[k]?=some x->((l.flatMap f).drop (k * z)).take z=f x
 | [],_,_,_,h=>by simp at h
 | y :: l,0,x,hz,h=>by
  simp at h;subst h;have h1:=hz y (by simp);rw [a3C,a4J,a5t,<-h1,a3Q]
 | y :: l,k + 1,x,hz,h=>by
  have h1:=hz y (by simp);rw [a3C,a3D,a3S,<-a3R];have:((f y ++ l.flatMap f).drop z)=l.flatMap f:=by rw [<-h1,a3F]
  rw [this];exact HF (λy hy=>hz y (by simp [hy])) (by simpa using h)
theorem tP {α:Type} (a b:List α) (k:Nat) (x:List α):setAt (a ++ b) (a.length + k) x=a ++ setAt b k x:=by
 unfold setAt;rw [show a.length + k + x.length=a.length + (k + x.length) from by omega,<-a3R,a3F];rw [a4x,a3T (l:=a) (Nat.le_add_right _ _),Nat.add_sub_cancel_left];simp
theorem zW {α:Type} (b c:List α) (k:Nat) (x:List α) (h:k + x.length<=b.length):setAt (b ++ c) k x=setAt b k x ++ c:=by
 unfold setAt;rw [a4x,show k - b.length=0 from by omega,a31,a3b,a49,show k + x.length - b.length=0 from by omega,a5t];simp
theorem Dl {α:Type} (a b c:List α) (k:Nat) (x:List α) (h:k + x.length<=b.length):setAt (a ++ b ++ c) (a.length + k) x=a ++ setAt b k x ++ c:=by
 rw [a3c,tP,zW b c k x h,a3c]
theorem wY {α β:Type} {f:α->List β} {z:Nat}:∀ {l:List α} {k:Nat} {x:α},(∀ y ∈ l,(f y).length=z)->(f x).length=z->k < l.length->(l.set k x).flatMap f=setAt (l.flatMap f) (k * z) (f x)
 | [],_,_,_,_,h=>by simp at h
 | y :: l,0,x,hz,hx,h=>by
  have h1:=hz y (by simp);rw [a4S,a3C,a3C,a4J];unfold setAt;rw [a31,a3E,a3z,hx,<-h1,a3F]
 | y :: l,k + 1,x,hz,hx,h=>by
  have h1:=hz y (by simp);have ih:=wY (l:=l) (k:=k) (x:=x) (λy hy=>hz y (by simp [hy])) hx (by simpa using h);rw [a4T,a3C,a3C,ih];have e:(k + 1) * z=(f y).length + k * z:=by rw [h1,a3D,a3S]
  rw [e,tP]
theorem Dm {α β:Type} (f:α->β) (l:List α) (k:Nat) (x:List α):(setAt l k x).map f=setAt (l.map f) k (x.map f):=by
 unfold setAt;simp
theorem QG {α:Type} {n:Nat} {v:Vector α n} {k:Nat} {d:α} (h:k < n):v.toList[k]?=some (cQ v k d):=by
 have:k < v.toList.length:=by simpa using h
 rw [List.getElem?_eq_getElem this];unfold cQ;rw [List.getD_eq_getElem?_getD,List.getElem?_eq_getElem this];rfl
theorem Bx {n:Nat} {u:U} {v:Vector u.den n} {k:Nat} (h:k < n):(((U.arr n u).enc v).drop (k * u.size)).take u.size=u.enc (cQ v k u.dflt):=
 HF (l:=v.toList) (λy _=>u.enc_len y) (QG h)
def HG (off z k:Nat) (i:TI) (ps:List TC):TQ TV:=match JU off ps with
 | some A=> .req (Nat.beq z A.u.size && Nat.beq i.size A.u.size) (.req (decide (k < A.n)) (QF i [.ch A.u (cQ A.v k A.u.dflt)]))
 | none=> .fail
theorem zX (off z k:Nat) (i:TI) (ps:List TC):Sim TV.av (HG off z k i ps) (.req (off + k * z + i.size<=(C6 ps).length) (asV i (((C6 ps).drop (off + k * z)).take i.size))):=by
 unfold HG;cases h:JU off ps with
 | none=>exact Sim.fail
 | some A=>
  refine Sim.chk λh1=>Sim.chk λh2=>?_;rw [a24] at h1;have e1:=a22 h1.1;have e2:=a22 h1.2;have hk:=a23 h2;obtain⟨c1,c2⟩:=Bw h;have hlen:((U.arr A.n A.u).enc A.v).length=A.n * A.u.size:=U.enc_len _ _;have hle:(k + 1) * A.u.size<=A.n * A.u.size:=a3v _ hk;rw [a3D] at hle;have key:((C6 ps).drop (off + k * z)).take i.size=C6 [.ch A.u (cQ A.v k A.u.dflt)]:=by
   rw [c1,e2,e1,<-c2,<-a3R,a3c,a3F,a49,a3d,hlen,show k * A.u.size - A.n * A.u.size=0 from by omega,a5t,a4x,a3a,a3d,hlen,show A.u.size - (A.n * A.u.size - k * A.u.size)=0 from by omega,a31,a3b,<-a4y,<-a4h,Bx hk];exact(a3b _).symm
  refine Sim.must ?_ ?_
  ·rw [c1,e2,e1];simp only [a2V,a3d,hlen,c2];omega
  ·rw [key];exact su i _
def QH (i:TI):TV->TQ TV
 | .o (.c (.ptr id ver off))=> .rdB id λb=>match b.c with
  | some ps=> .req (Nat.beq ver b.ver) ((TQ.ofOpt (TB off i.size ps)).bind λqs=>QF i qs)
  | none=> .fail
 | .o (.c (.pa id ver off z k))=> .rdB id λb=>match b.c with
  | some ps=> .req (Nat.beq ver b.ver) (HG off z k i ps)
  | none=> .fail
 | .o (.c (.ep u x off))=>(TQ.ofOpt (TB off i.size [.ch u x])).bind λqs=>QF i qs
 | .o (.c (.ex u x off z k))=>HG off z k i [.ch u x]
 | .o (.c (.rp id ver k off sz))=> .rdR id λr=>match r.c with
  | some R=> .req (Nat.beq ver r.ver && Nat.beq sz R.u.size) (.req (decide (k < R.l.length)) ((TQ.ofOpt (TB off i.size [.ch R.u (R.l.getD k R.u.dflt)])).bind λqs=>QF i qs))
  | none=> .fail
 | _=> .fail
theorem hH (u:U) (x:u.den):C6 [.ch u x]=(u.enc x).map .d:=a3b _
theorem wZ {α β:Type} {f:α->β} {k n:Nat} {ps:List TC} {q':List TC->TQ α} {q:Q β} (h:∀ qs,C6 qs=((C6 ps).drop k).take n->k + n<=(C6 ps).length->Sim f (q' qs) q):Sim f ((TQ.ofOpt (TB k n ps)).bind q') q:=by
 cases e:TB k n ps with
 | none=>exact Sim.fail
 | some qs=>exact h qs (Ms e).1 (Ms e).2
theorem tQ {α β:Type} (f:α->β) {l:List α} {k:Nat} (h:k < l.length) (d:β) (d':α):(l.map f).getD k d=f (l.getD k d'):=Fa f h d d'
theorem Dn (i:TI) (x:TV):Sim TV.av (QH i x) (Jv i x.av):=by
 unfold QH;split
 ·rename_i id ver off;refine Sim.rdB λb=>?_;obtain⟨bv,c⟩:=b;cases c with
  | none=>exact Sim.fail
  | some ps=>
   refine Sim.chk λh=>wZ λqs h1 h2=>Sim.must ⟨a22 h,h2⟩ ?_;have:=su i qs;rw [h1] at this;exact this
 ·rename_i id ver off z k;refine Sim.rdB λb=>?_;obtain⟨bv,c⟩:=b;cases c with
  | none=>exact Sim.fail
  | some ps=>
   refine Sim.chk λh s tr K hK=>?_;obtain⟨h1,h2⟩:=zX off z k i ps s tr K hK;exact⟨⟨a22 h,h1⟩,h2⟩
 ·rename_i u x off;refine wZ λqs h1 h2=>?_;rw [hH,a3d] at h2;show Sim TV.av _ (.req (i.size<=((u.enc x).drop off).length) (asV i ((((u.enc x).drop off).take i.size).map .d)));refine Sim.must (by rw [a3a];omega) ?_;rw [hH] at h1;rw [a4h,a4y,<-h1];exact su i qs
 ·rename_i u x off z k;intro s tr K hK;obtain⟨h1,h2⟩:=zX off z k i [.ch u x] s tr K hK;rw [hH,a3d] at h1;rw [hH] at h2;show Q.wpt (.req (i.size<=((u.enc x).drop (off + k * z)).length) (asV i ((((u.enc x).drop (off + k * z)).take i.size).map .d))) _ _ _;refine⟨by rw [a3a];omega,?_⟩;rw [a4h,a4y];exact h2
 ·rename_i id ver k off sz;refine Sim.rdR λr=>?_;obtain⟨rv,c⟩:=r;cases c with
  | none=>exact Sim.fail
  | some R=>
   refine Sim.chk λh=>Sim.chk λh0=>wZ λqs h1 h2=>?_;rw [a24] at h;have hk:=a23 h0;have e1:=a22 h.1;have e2:=a22 h.2;have hg:(R.l.map R.u.enc).getD k []=R.u.enc (R.l.getD k R.u.dflt):=tQ _ hk _ _;rw [hH,a3d,U.enc_len] at h2;refine Sim.must ⟨e1,e2,?_,by rw [e2];exact h2⟩ ?_
   ·show k < (R.l.map R.u.enc).length;rw [a3d];exact hk
   ·show Sim TV.av _ (asV i (((((R.l.map R.u.enc).getD k []).drop off).take i.size).map .d));rw [hg,a4h,a4y,<-hH,<-h1];exact su i qs
 ·exact Sim.fail
def Xz (n:Int):TQ UInt8:= .req (decide (0<=n/\n < 256)) (.ret (UInt8.ofNat n.toNat))
def a2q:(v:U)->v.den->TQ UInt8
 | .int k,n=>match decEq k IntKind.u8 with
  | .isTrue _=>Xz n
  | .isFalse _=> .fail
 | _,_=> .fail
def a1y (u v:U) (y:v.den):TQ u.den:=match u with
 | .byte=>a2q v y
 | _=> .fail
theorem Va {u v:U} {y:v.den} {s:TSt} {tr:List ao} {K:u.den->List ao->Prop} (h:(a1y u v y).wpt s tr K):∃ x,v.enc y=u.enc x/\K x tr:=by
 cases u with
 | byte=>
  cases v with
  | int k=>
   replace h:((match decEq k IntKind.u8 with | .isTrue _=>Xz y | .isFalse _=> .fail):TQ UInt8).wpt s tr K:=h
   split at h
   ·rename_i hk _;subst hk;obtain⟨h1,h2⟩:=h;exact⟨_,(HD (n:=y) h1).symm,h2⟩
   ·exact h.elim
  | _=>exact h.elim
 | _=>exact h.elim
def JV (u:U):List TC->TQ u.den
 | [.ch v y]=>match decEq v u with
  | .isTrue h=> .ret (pq h y)
  | .isFalse _=>a1y u v y
 | _=> .fail
theorem xa {u:U} {ps:List TC} {s:TSt} {tr:List ao} {K:u.den->List ao->Prop} (h:(JV u ps).wpt s tr K):∃ x,C6 ps=(u.enc x).map .d/\K x tr:=by
 unfold JV at h;split at h
 ·rename_i v y;split at h
  ·rename_i e _;exact⟨_,by rw [hH,sn],h⟩
  ·obtain⟨x,h1,h2⟩:=Va h;exact⟨x,by rw [hH,h1],h2⟩
 ·exact h.elim
def MA:(u:U)->List TC->Option (u.den × List TC)
 | .pr a b,ps=>(MA a ps).bind λp=>(MA b p.2).map λq=>((p.1,q.1),q.2)
 | u,.ch v y :: ps=>match decEq v u with
  | .isTrue h=>some (pq h y,ps)
  | .isFalse _=>none
 | _,[]=>none
 | _,_ :: _=>none
theorem pt {u:U} {ps:List TC} {p:u.den × List TC} (h:(match ps with
  | .ch v y :: ps=>match decEq v u with
   | .isTrue h=>some (pq h y,ps)
   | .isFalse _=>none
  | _=>none)=some p):C6 ps=(u.enc p.1).map .d ++ C6 p.2:=by
 split at h
 ·split at h
  ·rename_i e _;injection h with h;subst h;rw [sn];rfl
  ·cases h
 ·cases h
theorem By:∀ {u:U} {ps:List TC} {p:u.den × List TC},MA u ps=some p->C6 ps=(u.enc p.1).map .d ++ C6 p.2
 | .pr a b,ps,p,h=>by
  unfold MA at h;obtain⟨q,h1,h2⟩:=Option.bind_eq_some_iff.1 h;obtain⟨q2,h3,rfl⟩:=Option.map_eq_some_iff.1 h2;rw [By h1,By h3];show _=((a.enc q.1 ++ b.enc q2.1).map AC.d) ++ _;rw [a3g,a3c]
 | .int k,ps,p,h=>pt (by cases ps with | nil=>exact h | cons c r=>cases c <;> exact h)
 | .byte,ps,p,h=>pt (by cases ps with | nil=>exact h | cons c r=>cases c <;> exact h)
 | .bool,ps,p,h=>pt (by cases ps with | nil=>exact h | cons c r=>cases c <;> exact h)
 | .str,ps,p,h=>pt (by cases ps with | nil=>exact h | cons c r=>cases c <;> exact h)
 | .sl u,ps,p,h=>pt (by cases ps with | nil=>exact h | cons c r=>cases c <;> exact h)
 | .arr n u,ps,p,h=>pt (by cases ps with | nil=>exact h | cons c r=>cases c <;> exact h)
def QI (u:U) (ps:List TC):TQ u.den:=match MA u ps with
 | some p=>match p.2 with
  | []=> .ret p.1
  | _=>JV u ps
 | none=>JV u ps
theorem HH {u:U} {ps:List TC} {s:TSt} {tr:List ao} {K:u.den->List ao->Prop} (h:(QI u ps).wpt s tr K):∃ x,C6 ps=(u.enc x).map .d/\K x tr:=by
 unfold QI at h;split at h
 ·rename_i p hp;split at h
  ·rename_i e;have:=By hp;rw [e] at this;exact⟨p.1,by rw [this];exact a3b _,h⟩
  ·exact xa h
 ·exact xa h
def zY {α:Type} {n:Nat} (v:Vector α n) (k:Nat) (x:α):Vector α n:=⟨(v.toList.set k x).toArray,by simp⟩
def WG:(u:U)->u.den->Nat->(v:U)->v.den->Option u.den
 | .pr a b,x,off,v,y=>match decEq v (.pr a b) with
  | .isTrue h=>match off with
   | 0=>some (pq h y)
   | _ + 1=>none
  | .isFalse _=>match Nat.blt off a.size with
   | true=>(WG a x.1 off v y).map λp=>(p,x.2)
   | false=>(WG b x.2 (off - a.size) v y).map λp=>(x.1,p)
 | u,_,off,v,y=>match decEq v u with
  | .isTrue h=>match off with
   | 0=>some (pq h y)
   | _ + 1=>none
  | .isFalse _=>none
def eqL {α:Type} (f:α->α->Bool):List α->List α->Bool
 | [],[]=>true
 | x :: xs,y :: ys=>f x y && eqL f xs ys
 | _,_=>false
def QJ (a b:Int):Bool:=decide (a=b)
def HI (a b:UInt8):Bool:=decide (a=b)
def TE (a b:Bool):Bool:=a == b
def zf (a b:List UInt8):Bool:=decide (a=b)
def U.beq:(u:U)->u.den->u.den->Bool
 | .int _,a,b=>QJ a b
 | .byte,a,b=>HI a b
 | .bool,a,b=>TE a b
 | .str,a,b=>zf a b
 | .sl _,_,_=>false
 | .pr a b,x,y=>a.beq x.1 y.1 && b.beq x.2 y.2
 | .arr _ u,v,w=>eqL u.beq (Vector.toList v) (Vector.toList w)
def U.cks:U->Option (List CK)
 | .int k=>some [.i k]
 | .byte=>some [.i .u8]
 | .bool=>some [.b]
 | .str=>some [.s]
 | .sl _=>none
 | .pr a b=>match a.cks,b.cks with
  | some x,some y=>some (x ++ y)
  | _,_=>none
 | .arr n u=>match u.cks with
  | some x=>some (List.replicate n x).flatten
  | none=>none
def U.vals:(u:U)->u.den->List Value
 | .int k,n=>[.int k n]
 | .byte,x=>[.int .u8 (UInt8.toNat x:Nat)]
 | .bool,b=>[.bool b]
 | .str,l=>[.string ⟨List.toArray l⟩]
 | .sl _,_=>[]
 | .pr a b,x=>a.vals x.1 ++ b.vals x.2
 | .arr _ u,v=>(Vector.toList v).flatMap u.vals
theorem yf {α:Type} {f:α->List Value} {ks:List CK} (h:∀ x,(f x).map sL=ks.map some):∀ l:List α,(l.flatMap f).map sL=((List.replicate l.length ks).flatten).map some
 | []=>rfl
 | x :: l=>by rw [a3C,a3g,h x,yf h l,a27,a4t,a4Y,a3g]
theorem U.vals_cks:∀ (u:U) (ks:List CK),u.cks=some ks->∀ x:u.den,(u.vals x).map sL=ks.map some
 | .int _,_,h,_=>by injection h with h;subst h;rfl
 | .byte,_,h,_=>by injection h with h;subst h;rfl
 | .bool,_,h,_=>by injection h with h;subst h;rfl
 | .str,_,h,_=>by injection h with h;subst h;rfl
 | .sl _,_,h,_=>by cases h
 | .pr a b,ks,h,x=>by
  unfold U.cks at h;split at h
  ·rename_i p q hp hq;injection h with h;subst h;show(a.vals x.1 ++ b.vals x.2).map sL=_;rw [a3g,a3g,U.vals_cks a p hp,U.vals_cks b q hq]
  ·cases h
 | .arr n u,ks,h,v=>by
  unfold U.cks at h;split at h
  ·rename_i p hp;injection h with h;subst h;have:=yf (U.vals_cks u p hp) (Vector.toList v);have e:(Vector.toList v).length=n:=a3N (xs:=v);exact this.trans (by rw [e])
  ·cases h
theorem U.enc_vals:∀ (u:U) (ks:List CK),u.cks=some ks->∀ x:u.den,u.enc x=(u.vals x).map .v
 | .int _,_,_,_=>rfl
 | .byte,_,_,_=>rfl
 | .bool,_,_,_=>rfl
 | .str,_,_,_=>rfl
 | .sl _,_,h,_=>by cases h
 | .pr a b,ks,h,x=>by
  unfold U.cks at h;split at h
  ·rename_i p q hp hq;show a.enc x.1 ++ b.enc x.2=(a.vals x.1 ++ b.vals x.2).map .v;rw [a3g,U.enc_vals a p hp,U.enc_vals b q hq]
  ·cases h
 | .arr n u,ks,h,v=>by
  unfold U.cks at h;split at h
  ·rename_i p hp;show(Vector.toList v).flatMap u.enc=((Vector.toList v).flatMap u.vals).map .v;rw [List.map_flatMap];exact congrArg (λf=>(Vector.toList v).flatMap f) (funext λx=>U.enc_vals u p hp x)
  ·cases h
theorem zZ {a b:List Value} {ks:List CK} (h1:a.map sL=ks.map some) (h2:b.map sL=ks.map some):a.length=b.length:=by
 have:=congrArg List.length (h1.trans h2.symm);simpa using this
theorem Do {α:Type} {f:α->List Value} {g:α->α->Bool} {ks:List CK} (hk:∀ x,(f x).map sL=ks.map some) (h:∀ x y,ah (f x) (f y)=g x y):∀ (l l':List α),l.length=l'.length->ah (l.flatMap f) (l'.flatMap f)=eqL g l l'
 | [],[],_=>rfl
 | x :: l,y :: l',hl=>by
  simp only [a27,Nat.add_right_cancel_iff] at hl;rw [a3C,a3C,qa _ _ _ _ (zZ (hk x) (hk y)),h,Do hk h l l' hl];rfl
theorem MB (x y:Int):((x == y) && true)=QJ x y:=by rw [a4i];rfl
theorem QL (x y:UInt8):((((UInt8.toNat x:Nat):Int) == ((UInt8.toNat y:Nat):Int)) && true)=HI x y:=by
 unfold HI;rw [a4i,Bool.eq_iff_iff];simp only [beq_iff_eq,a2W,Int.natCast_inj];exact UInt8.toNat_inj
theorem QM (x y:Bool):((x == y) && true)=TE x y:=by rw [a4i];rfl
theorem Vb (x y:List UInt8):(((ByteArray.mk (List.toArray x)).toList == (ByteArray.mk (List.toArray y)).toList) && true)=zf x y:=by
 unfold zf;rw [a4i,Bool.eq_iff_iff];simp [ByteArray.toList_eq]
theorem U.vals_beq:∀ (u:U) (ks:List CK),u.cks=some ks->∀ x y:u.den,ah (u.vals x) (u.vals y)=u.beq x y
 | .int _,_,_,x,y=>MB x y
 | .byte,_,_,x,y=>QL x y
 | .bool,_,_,x,y=>QM x y
 | .str,_,_,x,y=>Vb x y
 | .sl _,_,h,_,_=>by cases h
 | .pr a b,ks,h,x,y=>by
  unfold U.cks at h;split at h
  ·rename_i p q hp hq;show ah (a.vals x.1 ++ b.vals x.2) (a.vals y.1 ++ b.vals y.2)=(a.beq x.1 y.1 && b.beq x.2 y.2);rw [qa _ _ _ _ (zZ (U.vals_cks a p hp _) (U.vals_cks a p hp _)),U.vals_beq a p hp,U.vals_beq b q hq]
  ·cases h
 | .arr n u,ks,h,v,w=>by
  unfold U.cks at h;split at h
  ·rename_i p hp;exact Do (U.vals_cks u p hp) (U.vals_beq u p hp) _ _ ((a3N (xs:=v)).trans (a3N (xs:=w)).symm)
  ·cases h
theorem Ff:∀ l:List Value,dvs (l.map λv=> .d (.v v))=some l
 | []=>rfl
 | v :: l=>by rw [a3h,dvs,Ff l];rfl
def a0x (u:U) (i:TI) (xs ys:List TC):TQ Bool:=(QI u xs).bind λa=>(QI u ys).bind λb=> .req (match u.cks with
 | some ks=>i.agg && !ks.isEmpty && decide (i.cmp=ks)
 | none=>false) (.ret (u.beq a b))
theorem QN (u:U) (i:TI) (xs ys:List TC):Sim id (a0x u i xs ys) (eqA i (C6 xs) (C6 ys)):=by
 intro s tr K h;unfold a0x at h;rw [TQ.wpt_bind] at h;obtain⟨a,e1,h⟩:=HH h;rw [TQ.wpt_bind] at h;obtain⟨b,e2,h⟩:=HH h;obtain⟨hk,h⟩:=h;split at hk
 ·rename_i ks hks;simp only [a24,a2W,a20] at hk;obtain⟨⟨h1,h2⟩,h3⟩:=hk;have d1:dvs (C6 xs)=some (u.vals a):=by rw [e1,U.enc_vals u ks hks,a4z];exact Ff _
  have d2:dvs (C6 ys)=some (u.vals b):=by rw [e2,U.enc_vals u ks hks,a4z];exact Ff _
  unfold eqA;rw [d1,d2];refine⟨⟨h1,?_,by rw [h3];exact U.vals_cks u ks hks a,by rw [h3];exact U.vals_cks u ks hks b⟩,?_⟩
  ·rw [h3];intro e;rw [e] at h2;cases h2
  ·exact⟨_,U.vals_beq u ks hks a b,h⟩
 ·cases hk
def a0y (TU:TypeId->Option U) (op:BinOp) (t:TypeId) (i:TI) (x y:TV):TQ TV:=match x,y with
 | .o (.agg xs),.o (.agg ys)=>match TU t,Lv op with
  | some u,some e=>(a0x u i xs ys).bind λb=> .ret (c1 .bool (match e with | true=>b | false=> !b))
  | _,_=> .fail
 | x,y=>QE op i.k x y
theorem QO (TU:TypeId->Option U) (op:BinOp) (t:TypeId) (i:TI) (x y:TV):Sim TV.av (a0y TU op t i x y) (WR op i x.av y.av):=by
 unfold a0y;split
 ·rename_i xs ys;split
  ·rename_i u e hu he;show Sim TV.av _ (match Lv op with | some e=>(eqA i (C6 xs) (C6 ys)).bind λb=> .ret (AV.c (.d (.v (.bool (match e with | true=>b | false=> !b))))) | none=> .fail)
   rw [he];exact Sim.bind (QN u i xs ys) λb=>Sim.ret (by cases e <;> rfl)
  ·exact Sim.fail
 ·exact My op i _ _
theorem MC {α:Type} {f:α->α->Bool} (h:∀ x y,f x y=true ↔ x=y):∀ l l':List α,eqL f l l'=true ↔ l=l'
 | [],[]=>by simp [eqL]
 | [],_ :: _=>by simp [eqL]
 | _ :: _,[]=>by simp [eqL]
 | x :: l,y :: l'=>by simp only [eqL,a24,h,MC h l l',List.cons.injEq]
theorem Vc (x y:Int):QJ x y=true ↔ x=y:=decide_eq_true_iff
theorem QP (x y:UInt8):HI x y=true ↔ x=y:=decide_eq_true_iff
theorem Vd (x y:List UInt8):zf x y=true ↔ x=y:=decide_eq_true_iff
theorem U.beq_iff:∀ (u:U) (ks:List CK),u.cks=some ks->∀ x y:u.den,u.beq x y=true ↔ x=y
 | .int _,_,_,x,y=>Vc x y
 | .byte,_,_,x,y=>QP x y
 | .bool,_,_,x,y=>beq_iff_eq (α:=Bool) (a:=x) (b:=y)
 | .str,_,_,x,y=>Vd x y
 | .sl _,_,h,_,_=>by cases h
 | .pr a b,ks,h,x,y=>by
  unfold U.cks at h;split at h
  ·rename_i p q hp hq;show(a.beq x.1 y.1 && b.beq x.2 y.2)=true ↔ x=y;rw [a24,U.beq_iff a p hp,U.beq_iff b q hq];exact Prod.ext_iff.symm
  ·cases h
 | .arr n u,ks,h,v,w=>by
  unfold U.cks at h;split at h
  ·rename_i p hp;show eqL u.beq (Vector.toList v) (Vector.toList w)=true ↔ v=w;rw [MC (U.beq_iff u p hp)];exact Vector.toList_inj
  ·cases h
theorem Ve:∀ {u:U} {x:u.den} {off:Nat} {v:U} {y:v.den} {r:u.den},WG u x off v y=some r->u.enc r=setAt (u.enc x) off (v.enc y)/\off + v.size<=u.size:=by
 have base:∀ (u:U) (x:u.den) (off:Nat) (v:U) (y:v.den) (r:u.den),(match decEq v u with | .isTrue h=>(match off with | 0=>some (pq h y) | _ + 1=>none) | .isFalse _=>(none:Option u.den))=some r->u.enc r=setAt (u.enc x) off (v.enc y)/\off + v.size<=u.size:=by
  intro u x off v y r h;split at h
  ·rename_i e _;subst e;split at h
   ·injection h with h;subst h;refine⟨?_,by omega⟩;show v.enc y=_;unfold setAt;rw [a31,a3z,a4w (by rw [U.enc_len,U.enc_len];exact a3j _)];simp
   ·cases h
  ·cases h
 intro u
 induction u with
 | pr a b iha ihb=>
  intro x off v y r h;unfold WG at h;split at h
  ·rename_i e he;refine base (.pr a b) x off v y r ?_;rw [he];exact h
  ·split at h
   ·rename_i hb;obtain⟨p,h1,rfl⟩:=Option.map_eq_some_iff.1 h;obtain⟨h2,h3⟩:=iha h1;refine⟨?_,by simp only [U.size];omega⟩;show a.enc p ++ b.enc x.2=setAt (a.enc x.1 ++ b.enc x.2) off (v.enc y);rw [h2,zW _ _ _ _ (by rw [U.enc_len,U.enc_len];exact h3)]
   ·rename_i hb;obtain⟨p,h1,rfl⟩:=Option.map_eq_some_iff.1 h;obtain⟨h2,h3⟩:=ihb h1;have hlt:a.size<=off:=by
     have:¬ off < a.size:=λhl=>by have:=(Nat.blt_eq:(Nat.blt off a.size=true)=(off < a.size)).mpr hl;rw [this] at hb;cases hb
     omega
    refine⟨?_,by simp only [U.size];omega⟩;show a.enc x.1 ++ b.enc p=setAt (a.enc x.1 ++ b.enc x.2) off (v.enc y);rw [h2];have:=tP (a.enc x.1) (b.enc x.2) (off - a.size) (v.enc y);rw [U.enc_len,show a.size + (off - a.size)=off from by omega] at this;exact this.symm
 | _=>intro x off v y r h;exact base _ x off v y r h
def MD (off z k:Nat) (i:TI) (ps xs:List TC):TQ (List TC):=match JU off ps with
 | some A=> .req (Nat.beq z A.u.size && Nat.beq i.size A.u.size) (.req (decide (k < A.n)) ((JV A.u xs).bind λx=> .ret (A.pre ++ .ch (.arr A.n A.u) (zY A.v k x) :: A.post)))
 | none=> .fail
theorem MF {off z k:Nat} {i:TI} {ps xs:List TC} {s:TSt} {tr:List ao} {K:List TC->List ao->Prop} (h:(MD off z k i ps xs).wpt s tr K) :
  ∃ qs,C6 qs=setAt (C6 ps) (off + k * z) (C6 xs)/\(C6 xs).length=i.size/\off + k * z + i.size<=(C6 ps).length/\K qs tr:=by
 unfold MD at h;split at h
 ·rename_i A hA;obtain⟨h1,h2,h⟩:=h;rw [TQ.wpt_bind] at h;obtain⟨x,e,h⟩:=xa h;rw [a24] at h1;have e1:=a22 h1.1;have e2:=a22 h1.2;have hk:=a23 h2;obtain⟨c1,c2⟩:=Bw hA;have hlen:((U.arr A.n A.u).enc A.v).length=A.n * A.u.size:=U.enc_len _ _;have hle:(k + 1) * A.u.size<=A.n * A.u.size:=a3v _ hk;rw [a3D] at hle;have hx:(C6 xs).length=A.u.size:=by rw [e,a3d,U.enc_len]
  refine⟨_,?_,by rw [hx,e2],?_,h⟩
  ·rw [hC,C6,c1,e1,<-c2];have hs:(U.arr A.n A.u).enc (zY A.v k x)=setAt ((U.arr A.n A.u).enc A.v) (k * A.u.size) (A.u.enc x):=
    wY (f:=A.u.enc) (l:=A.v.toList) (λy _=>A.u.enc_len y) (A.u.enc_len x) (by simpa using hk)
   rw [Dl _ _ _ _ _ (by rw [hx,a3d,hlen];omega),e,<-Dm,<-hs,a3c];rfl
  ·rw [c1,e1,e2];simp only [a2V,a3d,hlen,c2];omega
 ·exact h.elim
theorem JW {α:Type} {L y:List α} {a S b:Nat} (h1:a + S<=L.length) (h2:b + y.length<=S):setAt L a (setAt ((L.drop a).take S) b y)=setAt L (a + b) y:=by
 unfold setAt;have e1:((L.drop a).take S).take b=(L.drop a).take b:=by rw [a5u,a4u (by omega)]
 have e2:(((L.drop a).take S).take b ++ y ++ ((L.drop a).take S).drop (b + y.length)).length=S:=by
  simp only [a2V,a26,a3a];omega
 rw [e2,e1,a5f,List.drop_take];have e3:((L.drop a).drop (b + y.length)).take (S - (b + y.length)) ++ L.drop (a + S)=L.drop (a + b + y.length):=by
  have e4:L.drop (a + S)=((L.drop a).drop (b + y.length)).drop (S - (b + y.length)):=by
   rw [a3R,a3R];congr 1;omega
  rw [e4,a3q,a3R];congr 1;omega
 rw [<-e3];simp only [a3c]
def Fg (off z k z2 j:Nat) (i:TI) (ps xs:List TC):TQ (List TC):=match JU off ps with
 | some ⟨pre,n,.arr m u,v,post⟩=> .req (Nat.beq z (U.arr m u).size && Nat.beq z2 u.size && Nat.beq i.size u.size) (.req (decide (k < n/\j < m)) ((JV u xs).bind λx=> .ret (pre ++ .ch (.arr n (.arr m u)) (zY v k (zY (cQ v k (U.arr m u).dflt:Vector u.den m) j x)) :: post)))
 | _=> .fail
theorem JX {off z k z2 j:Nat} {i:TI} {ps xs:List TC} {s:TSt} {tr:List ao} {K:List TC->List ao->Prop} (h:(Fg off z k z2 j i ps xs).wpt s tr K) :
  ∃ qs,C6 qs=setAt (C6 ps) (off + k * z + j * z2) (C6 xs)/\(C6 xs).length=i.size/\off + k * z + j * z2 + i.size<=(C6 ps).length/\K qs tr:=by
 unfold Fg at h;split at h
 ·rename_i pre n m u v post hA;obtain⟨h1,h2,h⟩:=h;rw [TQ.wpt_bind] at h;obtain⟨x,e,h⟩:=xa h;simp only [a24] at h1;have e1:=a22 h1.1.1;have e2:=a22 h1.1.2;have e3:=a22 h1.2;obtain⟨hk,hj⟩:=a23 h2;obtain⟨c1,c2⟩:=Bw hA;simp only at c1 c2;have hS:(U.arr m u).size=m * u.size:=rfl;have hlen:((U.arr n (.arr m u)).enc v).length=n * (U.arr m u).size:=U.enc_len _ _;have hle:(k + 1) * (U.arr m u).size<=n * (U.arr m u).size:=a3v _ hk;have hle2:(j + 1) * u.size<=m * u.size:=a3v _ hj;rw [a3D] at hle hle2;have hx:(C6 xs).length=u.size:=by rw [e,a3d,U.enc_len]
  have hin:(U.arr m u).enc (zY (cQ v k (U.arr m u).dflt:Vector u.den m) j x)=setAt ((U.arr m u).enc (cQ v k (U.arr m u).dflt)) (j * u.size) (u.enc x):=
   wY (f:=u.enc) (l:=(cQ v k (U.arr m u).dflt:Vector u.den m).toList) (λy _=>u.enc_len y) (u.enc_len x) (by simpa using hj)
  have hout:(U.arr n (.arr m u)).enc (zY v k (zY (cQ v k (U.arr m u).dflt:Vector u.den m) j x))=setAt ((U.arr n (.arr m u)).enc v) (k * (U.arr m u).size) ((U.arr m u).enc (zY (cQ v k (U.arr m u).dflt:Vector u.den m) j x)):=
   wY (f:=(U.arr m u).enc) (l:=v.toList) (λy _=>(U.arr m u).enc_len y) ((U.arr m u).enc_len _) (by simpa using hk)
  have hs:(U.arr n (.arr m u)).enc (zY v k (zY (cQ v k (U.arr m u).dflt:Vector u.den m) j x))=setAt ((U.arr n (.arr m u)).enc v) (k * (U.arr m u).size + j * u.size) (u.enc x):=by
   rw [hout,hin,<-Bx (u:= .arr m u) (v:=v) hk,JW (by rw [hlen];omega) (by rw [U.enc_len,hS];omega)]
  refine⟨_,?_,by rw [hx,e3],?_,h⟩
  ·rw [hC,C6,c1,e1,e2,a3J,<-c2];rw [Dl _ _ _ _ _ (by rw [hx,a3d,hlen];omega),e,<-Dm,<-hs,a3c];rfl
  ·rw [c1,e1,e2,e3];simp only [a2V,a3d,hlen,c2];omega
 ·exact h.elim
def a0z (u:U) (x:u.den) (off:Nat) (v:U) (y:v.den):TQ u.den:=match decEq v u with
 | .isTrue h=>match off with
  | 0=> .ret (pq h y)
  | _ + 1=> .fail
 | .isFalse _=> .ofOpt (WG u x off v y)
theorem Vf {u:U} {x:u.den} {off:Nat} {v:U} {y:v.den} {s:TSt} {tr:List ao} {K:u.den->List ao->Prop} (h:(a0z u x off v y).wpt s tr K):∃ r,u.enc r=setAt (u.enc x) off (v.enc y)/\off + v.size<=u.size/\K r tr:=by
 unfold a0z at h;split at h
 ·rename_i e _;split at h
  ·refine⟨_,?_,by rw [e];omega,h⟩;rw [sn];unfold setAt;rw [a31,a3z,a4w (by rw [U.enc_len,U.enc_len,e];exact a3j _)];simp
  ·exact h.elim
 ·cases he:WG u x off v y with
  | none=>rw [he] at h;exact h.elim
  | some r=>
   rw [he] at h;obtain⟨h1,h2⟩:=Ve he;exact⟨r,h1,h2,h⟩
def MG (TU:TypeId->Option U) (t:TypeId) (i:TI) (xs:List TC):TV->TQ (List gQ)
 | .o (.c (.ptr id ver off))=> .rdB id λb=>match b.c with
  | some ps=> .req (Nat.beq ver b.ver && Nat.beq (Mt xs) i.size) ((TQ.ofOpt (WF ps off xs)).bind λqs=> .ret [.b id ⟨b.ver,some qs⟩])
  | none=> .fail
 | .o (.c (.pa id ver off z k))=> .rdB id λb=>match b.c with
  | some ps=> .req (Nat.beq ver b.ver) ((MD off z k i ps xs).bind λqs=> .ret [.b id ⟨b.ver,some qs⟩])
  | none=> .fail
 | .o (.c (.pb id ver off z k z2 j))=> .rdB id λb=>match b.c with
  | some ps=> .req (Nat.beq ver b.ver) ((Fg off z k z2 j i ps xs).bind λqs=> .ret [.b id ⟨b.ver,some qs⟩])
  | none=> .fail
 | .o (.c (.rp id ver k off sz))=>match TU t with
  | some v=>(qg v xs).bind λd=>(nV d.fz).bind λus=> .rdR id λr=>match r.c with
   | some R=> .req (Nat.beq ver r.ver && Nat.beq sz R.u.size && !R.fr && !(d.fz.contains id) && Nat.beq v.size i.size) (.req (decide (k < R.l.length))
    ((a0z R.u (R.l.getD k R.u.dflt) off v d.x).bind λx=> .ret (us ++ [.r id ⟨r.ver,some ⟨R.u,R.l.set k x,R.e,false⟩⟩])))
   | none=> .fail
  | none=> .fail
 | _=> .fail
theorem QQ {α β:Type} (f:α->β) (l:List α) (k:Nat) (x:α):(l.set k x).map f=(l.map f).set k (f x):=by
 rw [a5q]
theorem JY (TU:TypeId->Option U) (t:TypeId) (i:TI) (xs:List TC) (x:TV):Sim US (MG TU t i xs x) (zI i (C6 xs) x.av):=by
 unfold MG;split
 ·rename_i id ver off;refine Sim.rdB λb=>?_;obtain⟨bv,c⟩:=b;cases c with
  | none=>exact Sim.fail
  | some ps=>
   refine Sim.chk λh=>?_;rw [a24] at h;have e1:=a22 h.1;have e2:=a22 h.2;rw [<-uQ] at e2;simp only;cases hs:WF ps off xs with
   | none=>exact Sim.fail
   | some qs=>
    obtain⟨h1,h2⟩:=Mu hs;refine Sim.must ⟨e1,e2,by rw [<-e2];exact h2⟩ (Sim.ret ?_);show _=[Upd.b id ⟨bv,some (C6 qs)⟩];rw [h1];rfl
 ·rename_i id ver off z k;refine Sim.rdB λb=>?_;obtain⟨bv,c⟩:=b;cases c with
  | none=>exact Sim.fail
  | some ps=>
   refine Sim.chk λh s tr K hK=>?_;simp only at hK;rw [TQ.wpt_bind] at hK;obtain⟨qs,h1,h2,h3,hK⟩:=MF hK;refine⟨⟨a22 h,h2,h3⟩,?_⟩;refine⟨_,?_,hK⟩;show _=[Upd.b id ⟨bv,some (C6 qs)⟩];rw [h1];rfl
 ·rename_i id ver off z k z2 j;refine Sim.rdB λb=>?_;obtain⟨bv,c⟩:=b;cases c with
  | none=>exact Sim.fail
  | some ps=>
   refine Sim.chk λh s tr K hK=>?_;simp only at hK;rw [TQ.wpt_bind] at hK;obtain⟨qs,h1,h2,h3,hK⟩:=JX hK;refine⟨⟨a22 h,h2,h3⟩,?_⟩;refine⟨_,?_,hK⟩;show _=[Upd.b id ⟨bv,some (C6 qs)⟩];rw [h1];rfl
 ·rename_i id ver k off sz;cases TU t with
  | none=>exact Sim.fail
  | some v=>
   show Sim US _ ((tG (C6 xs)).bind λd=>(kT d.2).bind λus=> .rdR id λr=>match r.c with
    | some R=> .req (ver=r.ver/\sz=R.sz/\R.fr=false/\id ∉ d.2/\k < R.es.length/\d.1.length=i.size/\off + i.size<=sz) (.ret (us ++ [.r id ⟨r.ver,some ⟨R.es.set k (setAt (R.es.getD k []) off d.1),R.sz,R.e,false⟩⟩]))
    | none=> .fail)
   refine Sim.bind (kj v xs) λd=>Sim.bind (eN d.fz) λus=>Sim.rdR λr=>?_;obtain⟨rv,c⟩:=r;cases c with
   | none=>exact Sim.fail
   | some R=>
    refine Sim.chk λh=>Sim.chk λh0 s tr K hK=>?_;simp only [a24] at h;obtain⟨⟨⟨⟨a1,a2⟩,a3⟩,a4⟩,a5⟩:=h;have e1:=a22 a1;have e2:=a22 a2;have e5:=a22 a5;have hk:=a23 h0;simp only at hK;rw [TQ.wpt_bind] at hK;obtain⟨x,h1,h2,hK⟩:=Vf hK;have hg:(R.l.map R.u.enc).getD k []=R.u.enc (R.l.getD k R.u.dflt):=tQ _ hk _ _;refine⟨⟨e1,e2,by show R.fr=false;simpa using a3,by simpa using a4,?_,?_,?_⟩,⟨_,?_,hK⟩⟩
    ·show k < (R.l.map R.u.enc).length;rw [a3d];exact hk
    ·rw [U.enc_len,e5]
    ·rw [e2,<-e5];exact h2
    ·show us.map gQ.upd ++ [Upd.r id ⟨rv,some ⟨(R.l.map R.u.enc).set k (setAt ((R.l.map R.u.enc).getD k []) off (v.enc d.x)),R.u.size,R.e,false⟩⟩]=US (us ++ [_]);rw [hg,<-h1,<-QQ];simp only [US,a3g,a3h,a3K];rfl
 ·exact Sim.fail
def MH (o:Nat):TV->TQ TV
 | .o (.c (.ptr id ver off))=> .rdB id λb=> .req (Nat.beq ver b.ver && b.c.isSome) (.ret (.o (.c (.ptr id ver (off + o)))))
 | .o (.c (.ep u x off))=> .ret (.o (.c (.ep u x (off + o))))
 | .o (.c (.rp id ver k off sz))=> .rdR id λr=> .req (Nat.beq ver r.ver && r.c.isSome) (.ret (.o (.c (.rp id ver k (off + o) sz))))
 | _=> .fail
theorem Bz (b:TBS):(b.bs.c.isSome)=b.c.isSome:=by simp [TBS.bs]
theorem MI (b:TRS):(b.rs.c.isSome)=b.c.isSome:=by simp [TRS.rs]
theorem JZ (o:Nat) (x:TV):Sim TV.av (MH o x) (CI o x.av):=by
 unfold MH;split
 ·refine Sim.rdB λb=>Sim.req (λh=>?_) λ_=>Sim.ret rfl;rw [a24] at h;exact⟨a22 h.1,by rw [Bz];exact h.2⟩
 ·refine Sim.ret ?_;simp only [TV.av,T1.av,TC.cells,kR,a3R]
 ·refine Sim.rdR λb=>Sim.req (λh=>?_) λ_=>Sim.ret rfl;rw [a24] at h;exact⟨a22 h.1,by rw [MI];exact h.2⟩
 ·exact Sim.fail
def MJ (z:Nat) (k:Int):TV->TQ TV
 | .o (.c (.ch (.sl u) l))=> .req (Nat.beq u.size z) (.req (decide (0<=k/\k < (List.length l:Nat))) (.ret (.o (.c (.ep u (List.getD l k.toNat u.dflt) 0)))))
 | .o (.c (.row id ver))=> .rdR id λr=>match r.c with
  | some R=> .req (Nat.beq ver r.ver && Nat.beq R.u.size z && decide (R.e < ja)) (.req (decide (0<=k/\k < (R.l.length:Nat))) (.ret (.o (.c (.rp id ver k.toNat 0 z)))))
  | none=> .fail
 | _=> .fail
theorem Ka (z:Nat) (k:Int) (x:TV):Sim TV.av (MJ z k x) (CJ z k x.av):=by
 unfold MJ;split
 ·rename_i u l;refine Sim.chk λh=>Sim.chk λh0=>?_;have e1:=a22 h;have hk:=a23 h0;have hk2:k.toNat < List.length l:=by omega
  have hg:(List.map u.enc l).getD k.toNat []=u.enc (List.getD l k.toNat u.dflt):=tQ _ hk2 _ _;show Sim TV.av _ (.req (0<=k/\k < (List.map u.enc l).length/\((List.map u.enc l).getD k.toNat []).length=z) (.ret (.c (.eptr ((List.map u.enc l).getD k.toNat [])))));rw [hg];have hlen:(List.map u.enc l).length=List.length l:=a3d ..;exact Sim.must ⟨hk.1,by rw [hlen];exact hk.2,by rw [U.enc_len,e1]⟩ (Sim.ret rfl)
 ·rename_i id ver;refine Sim.rdR λr=>?_;obtain⟨rv,c⟩:=r;cases c with
  | none=>exact Sim.fail
  | some R=>
   refine Sim.chk λh=>Sim.chk λh0=>?_;rw [a24,a24] at h;have hk:=a23 h0;refine Sim.must ⟨a22 h.1.1,hk.1,?_,a22 h.1.2,a23 h.2⟩ (Sim.ret rfl);show k < (R.l.map R.u.enc).length;rw [a3d];exact hk.2
 ·exact Sim.fail
def Fh (n z:Nat) (k:Int):TV->TQ TV
 | .o (.c (.ptr id ver off))=> .rdB id λb=> .req (Nat.beq ver b.ver && b.c.isSome) (.req (decide (0<=k/\k < (n:Int))) (.ret (.o (.c (.pa id ver off z k.toNat)))))
 | .o (.c (.pa id ver off z' k'))=> .rdB id λb=> .req (Nat.beq ver b.ver && b.c.isSome) (.req (decide (0<=k/\k < (n:Int))) (.ret (.o (.c (.pb id ver off z' k' z k.toNat)))))
 | .o (.c (.ep u x off))=> .req (decide (0<=k/\k < (n:Int))) (.ret (.o (.c (.ex u x off z k.toNat))))
 | _=> .fail
theorem Fi (n z:Nat) (k:Int) (x:TV):Sim TV.av (Fh n z k x) (xC n z k x.av):=by
 unfold Fh;split
 ·refine Sim.rdB λb=>Sim.chk λh=>Sim.req (λh0=>?_) λ_=>Sim.ret rfl;rw [a24] at h;have hk:=a23 h0;exact⟨hk.1,hk.2,a22 h.1,by rw [Bz];exact h.2⟩
 ·refine Sim.rdB λb=>Sim.chk λh=>Sim.req (λh0=>?_) λ_=>Sim.ret rfl;rw [a24] at h;have hk:=a23 h0;exact⟨hk.1,hk.2,a22 h.1,by rw [Bz];exact h.2⟩
 ·refine Sim.req a23 λ_=>Sim.ret ?_;simp only [TV.av,T1.av,TC.cells,kR,a3R]
 ·exact Sim.fail
def Fj (u:U) (n:Nat) (ie:TI) (k:Int):TV->TQ TV
 | .o (.agg ps)=>(qg (.arr n u) ps).bind λd=> .req (d.fz.isEmpty && Nat.beq u.size ie.size && decide (0<=k/\k < n)) (QF ie [.ch u (cQ (d.x:Vector u.den n) k.toNat u.dflt)])
 | _=> .fail
theorem Fk (u:U) (n:Nat) (ie:TI) (k:Int) (x:TV):Sim TV.av (Fj u n ie k x) (AR n ie k x.av):=by
 unfold Fj;split
 ·rename_i ps;refine Sim.bind (kj (.arr n u) ps) λd=>Sim.chk λh=>?_;simp only [a24] at h;obtain⟨⟨h1,h2⟩,h3⟩:=h;have h2:=a22 h2;have h3:=a23 h3;have hk:k.toNat < n:=by omega
  refine Sim.must ⟨List.isEmpty_iff.1 h1,h3.1,h3.2,by rw [<-h2];exact U.enc_len (.arr n u) d.x⟩ ?_;have key:((((U.arr n u).enc d.x).drop (k.toNat * ie.size)).take ie.size).map AC.d=C6 [.ch u (cQ (d.x:Vector u.den n) k.toNat u.dflt)]:=by
   rw [<-h2];exact(congrArg (List.map AC.d) (Bx (v:=(d.x:Vector u.den n)) hk)).trans (a3b _).symm
  rw [key];exact su ie _
 ·exact Sim.fail
def Fl (off:Nat) (ie:TI):TV->TQ TV
 | .o (.agg ps)=>(TQ.ofOpt (TB off ie.size ps)).bind λqs=>QF ie qs
 | _=> .fail
theorem Fm (off:Nat) (ie:TI) (x:TV):Sim TV.av (Fl off ie x) (xD off ie x.av):=by
 unfold Fl;split
 ·rename_i ps;refine wZ (q:=xD off ie (TV.av (.o (.agg ps)))) λqs h1 h2=>?_;show Sim TV.av (QF ie qs) (asV ie (((C6 ps).drop off).take ie.size));rw [<-h1];exact su ie _
 ·exact Sim.fail
theorem Aa {u:U}:∀ (l:List u.den) (n:Nat),l.length=n->qc u.size n (l.flatMap u.enc)=l.map u.enc
 | [],n,h=>by subst h;rfl
 | a :: l,n,h=>by
  subst h;have e:(u.enc a).length=u.size:=u.enc_len a;show((u.enc a ++ l.flatMap u.enc).take u.size) :: qc u.size l.length ((u.enc a ++ l.flatMap u.enc).drop u.size)=u.enc a :: l.map u.enc;rw [<-e,a3Q,a3F,e,Aa l _ rfl]
def a2r (d k:Nat) (f:FuncId):TV->TQ (List gQ)
 | .o (.c (.ptr id ver off))=> .rdB id λb=>match b.c with
  | some [.ch u x]=> .req (Nat.beq off 0 && Nat.beq ver b.ver && !(Nat.beq k d)) (.ret [.b id ⟨b.ver,none⟩,.t k ⟨true,.o (.c (.ep u x 0))⟩,.t d ⟨true,.o (.c (.clo f u x))⟩])
  | _=> .fail
 | .o (.c (.ep u x off))=> .req (Nat.beq off 0) (.ret [.t d ⟨true,.o (.c (.clo f u x))⟩])
 | _=> .fail
def ekT (k:Option Nat) (u:U) (x:u.den):List gQ:=match k with
 | some k=>[.t k ⟨true,.o (.c (.ep u x 0))⟩]
 | none=>[]
theorem TF (k:Option Nat) (u:U) (x:u.den):US (ekT k u x)=eK k (u.enc x):=by cases k <;> rfl
def Vg (k:Option Nat) (a:TV) (us:List gQ):TQ (List gQ):=match a with
 | .o (.c (.ptr id ver off))=>match us with
  | [.b _ ⟨_,some [.ch u x]⟩]=> .req (Nat.beq off 0) (.ret (.b id ⟨ver,none⟩ :: ekT k u x))
  | _=> .fail
 | .o (.c (.rp _ _ _ _ _))=> .ret us
 | _=> .fail
def Fn (i:TI) (k:Option Nat) (a:TV) (us:List gQ):TQ (List gQ):=if(i.cut && Uz i.k)=true then Vg k a us else .ret us
theorem TG:∀ ds:List DV,UA (ds.map .d)=some ds
 | []=>rfl
 | d :: ds=>by simp only [a3h,UA,TG ds,a3s]
theorem MK (k:Option Nat) (a:TV) (us:List gQ):Sim US (Vg k a us) (UB k a.av (US us)):=by
 unfold Vg;split
 ·rename_i id ver off;split
  ·rename_i id' ver' u x;have e:US [.b id' ⟨ver',some [.ch u x]⟩]=[.b id' ⟨ver',some ((u.enc x).map .d)⟩]:=by
    show [Upd.b id' ⟨ver',some (C6 [.ch u x])⟩]=_;have e:C6 [.ch u x]=(u.enc x).map .d:=a3b _;rw [e]
   rw [e];show Sim US _ ((Q.ofOpt (UA ((u.enc x).map .d))).bind λds=>Q.req (off=0) (Q.ret (Upd.b id ⟨ver,none⟩ :: eK k ds)));rw [TG];refine Sim.req (λh=>a22 h) λ_=>Sim.ret ?_;rw [<-TF];rfl
  ·exact Sim.fail
 ·exact Sim.ret rfl
 ·exact Sim.fail
theorem Fo (i:TI) (k:Option Nat) (a:TV) (us:List gQ):Sim US (Fn i k a us) (uD i k a.av (US us)):=by
 unfold Fn uD;split
 ·exact MK k a us
 ·exact Sim.ret rfl
def a1z (n:Nat) (l h:Option Int):Bool:=decide (0<=l.getD 0/\l.getD 0<=h.getD n/\h.getD n<=n)
theorem HJ {α β:Type} (f:α->β) (l h:Option Int) (n:Nat) (xs:List α):(Jw l h n xs).map f=Jw l h n (xs.map f):=by
 unfold Jw;split
 ·rfl
 ·rw [a4y,a4h]
def Fq (d k:Option Nat) (u:U) (n:Nat) (ie:TI) (l h:Option Int):TV->TQ (List gQ)
 | .o (.c (.ptr id ver off))=>(TQ.ofOpt d).bind λd=> .rdB id λb=>match b.c with
  | some ps=>(qg (.arr n u) ps).bind λy=> .req (Nat.beq off 0 && Nat.beq ver b.ver && y.fz.isEmpty && Nat.beq u.size ie.size && Nat.blt 0 u.size && Nat.ble n maxLen && a1z n l h) (.ret (.b id ⟨b.ver,none⟩ :: (ekT k (.arr n u) y.x ++ [.t d ⟨true,.o (.c (.ch (.sl u) (Jw l h n (Vector.toList (y.x:Vector u.den n)))))⟩])))
  | none=> .fail
 | .o (.c (.ep w x off))=>(TQ.ofOpt d).bind λd=>match decEq w (.arr n u) with
  | .isTrue e=> .req (Nat.beq off 0 && Nat.beq u.size ie.size && Nat.blt 0 u.size && Nat.ble n maxLen && a1z n l h) (.ret [.t d ⟨true,.o (.c (.ch (.sl u) (Jw l h n (Vector.toList (pq e x:Vector u.den n)))))⟩])
  | .isFalse _=> .fail
 | _=> .fail
theorem Dp {u:U} {n z:Nat} (hz:u.size=z) (x:Vector u.den n):qc z n ((U.arr n u).enc x)=(Vector.toList x).map u.enc:=by
 rw [<-hz];exact Aa (Vector.toList x) n (a3N)
theorem Ft (d k:Option Nat) (u:U) (n:Nat) (ie:TI) (l h:Option Int) (x:TV):Sim US (Fq d k u n ie l h x) (tI d k n ie.size l h x.av):=by
 unfold Fq;split
 ·rename_i id ver off;refine Sim.bind (bZ d) λd=>?_;show Sim US _ (vF d k n ie.size l h (.ptr id ver off));unfold vF;refine Sim.rdB λb=>?_;obtain⟨bv,c⟩:=b;cases c with
  | none=>exact Sim.fail
  | some ps=>
   refine Sim.bind (kj (.arr n u) ps) λy=>Sim.chk λh1=>?_;simp only [a24] at h1;obtain⟨⟨⟨⟨⟨⟨a1,a2⟩,a3⟩,a4⟩,a5⟩,a6⟩,a7⟩:=h1;have a4:=a22 a4;obtain⟨b0,b1,b2⟩:=a23 a7;refine Sim.must ⟨a22 a1,a22 a2,List.isEmpty_iff.1 a3,by rw [<-a4];exact U.enc_len (.arr n u) y.x,by rw [<-a4];exact a3n a5,a3n a6,b0,b1,b2⟩ (Sim.ret ?_);have key:=Dp a4 (y.x:Vector u.den n);show Upd.b id ⟨bv,none⟩ :: (eK k ((U.arr n u).enc y.x) ++ [Upd.t d ⟨true,.c (.d (.sl (Jw l h n (qc ie.size n ((U.arr n u).enc y.x)))))⟩])=Upd.b id ⟨bv,none⟩ :: (US (ekT k (.arr n u) y.x ++ [_]));simp only [US,a3g];have:=TF k (.arr n u) y.x;simp only [US] at this;rw [this,key,<-HJ];rfl
 ·rename_i w x off;refine Sim.bind (bZ d) λd=>?_;split
  ·rename_i e _;subst e;refine Sim.chk λh1=>?_;simp only [a24] at h1;obtain⟨⟨⟨⟨a1,a4⟩,a5⟩,a6⟩,a7⟩:=h1;have a1:=a22 a1;subst a1;have a4:=a22 a4;obtain⟨b0,b1,b2⟩:=a23 a7;show Sim US _ (vF d k n ie.size l h (.eptr ((U.arr n u).enc x)));unfold vF;refine Sim.must ⟨by rw [<-a4];exact U.enc_len (.arr n u) x,by rw [<-a4];exact a3n a5,a3n a6,b0,b1,b2⟩ (Sim.ret ?_);have key:=Dp a4 (x:Vector u.den n);show [Upd.t d ⟨true,.c (.d (.sl (Jw l h n (qc ie.size n ((U.arr n u).enc x)))))⟩]=US [_];rw [key,<-HJ];rfl
  ·exact Sim.fail
 ·exact Sim.fail
def Fv (k:Int):TV->TQ TV
 | .o (.c (.ch .str l))=> .req (decide (0<=k/\k < (List.length l:Nat))) (.ret (c1 .byte (List.getD l k.toNat (0:UInt8))))
 | _=> .fail
theorem Fw (l:List UInt8):(⟨l.toArray⟩:ByteArray).size=l.length:=by simp [ByteArray.size]
theorem Fx (k:Int) (x:TV):Sim TV.av (Fv k x) (xE k x.av):=by
 unfold Fv;split
 ·refine Sim.req (λh0=>?_) λ_=>Sim.ret rfl;have hk:=a23 h0;exact⟨hk.1,(congrArg (λn:Nat=>k < (n:Int)) (Fw _)).mpr hk.2⟩
 ·exact Sim.fail
def a0A:TV->TQ Nat
 | .o (.c (.ch (.sl _) l))=> .ret (List.length l)
 | .o (.c .nil)=> .ret 0
 | .o (.c (.row id ver))=> .rdR id λr=>match r.c with
  | some R=> .req (Nat.beq ver r.ver && decide (R.e < ja)) (.ret R.l.length)
  | none=> .fail
 | _=> .fail
theorem QR (x:TV):Sim id (a0A x) (ZV x.av):=by
 unfold a0A;split
 ·exact Sim.ret (a3d ..)
 ·exact Sim.ret rfl
 ·refine Sim.rdR λr=>?_;obtain⟨rv,c⟩:=r;cases c with
  | none=>exact Sim.fail
  | some R=>exact Sim.req (λh=>by rw [a24] at h;exact⟨a22 h.1,a23 h.2⟩) λ_=>Sim.ret (by simp [wH.row])
 ·exact Sim.fail
def Fy:TV->TQ Nat
 | .o (.c (.ch .str l))=> .ret (List.length l)
 | _=> .fail
theorem Fz (x:TV):Sim id (Fy x) (EK x.av):=by
 unfold Fy;split
 ·exact Sim.ret (Fw _)
 ·exact Sim.fail
def BA (u:U) (x:TC):TQ (Pa (List u.den)):= .req (is1 x) (qg (.sl u) [x])
theorem tR (u:U) (x:TC):Sim (λp:Pa (List u.den)=>(DV.sl (p.x.map u.enc),p.fz)) (BA u x) (toD (kR x.cells)):=by
 refine Sim.chk λh s tr K hK=>?_;have e:C6 [x]=[kR x.cells]:=(a3b _).trans (wl h);have h1:=kj (.sl u) [x] s tr K hK;rw [e] at h1;simp only [tG,Q.wpt_bind,Q.wpt] at h1;refine Q.wpt_mono h1 ?_;rintro⟨d,fz⟩ rs ⟨p,hp,hk⟩;injection hp with hp1 hp2;refine⟨p,?_,hk⟩;simp only [a3b] at hp2;injection hp1 with hp1 _;simp only at hp1 hp2;rw [hp1,hp2]
def TH (d:Nat) (u:U) (lo hi:Option Int) (x:TC):TQ (List gQ):=(BA u x).bind λy=>(nV y.fz).bind λus=>
 .req (decide (0<=lo.getD 0/\lo.getD 0<=hi.getD (y.x.length:Nat)/\hi.getD (y.x.length:Nat)<=(y.x.length:Nat))) (.ret (us ++ [.t d ⟨true,c1 (.sl u) ((y.x.take (hi.getD (y.x.length:Nat)).toNat).drop (lo.getD 0).toNat)⟩]))
def a1A (d:Nat) (u:U) (hi:Option Int):TC->TQ (List gQ)
 | .row id ver=> .rdR d λrd=> .rdR id λr=>match r.c with
  | some R=>match decEq R.u u with
   | .isTrue h=> .req (Nat.beq ver r.ver && Nat.blt R.e ja && !R.fr && decide (0<=hi.getD ((h ▸ R.l:List u.den).length:Nat)/\hi.getD ((h ▸ R.l:List u.den).length:Nat)<=((h ▸ R.l:List u.den).length:Nat)))
    (.ret [.r id ⟨r.ver,none⟩,.r d ⟨rd.ver + 1,some ⟨u,(h ▸ R.l:List u.den).take (hi.getD ((h ▸ R.l:List u.den).length:Nat)).toNat,R.e,false⟩⟩,.t d ⟨true,.o (.c (.row d (rd.ver + 1)))⟩])
   | .isFalse _=> .fail
  | none=> .fail
 | _=> .fail
theorem QS (d z:Nat) (u:U) (hz:u.size=z) (hi:Option Int) (x:TC):Sim US (a1A d u hi x) (Uy d z hi (kR x.cells)):=by
 cases x <;> try exact Sim.fail
 case row id ver=>
  refine Sim.rdR λrd=>Sim.rdR λr=>?_;obtain⟨rv,c⟩:=r;cases c with
  | none=>exact Sim.fail
  | some R=>
   obtain⟨ru,rl,re,rf⟩:=R;simp only;split
   ·rename_i hu he;clear he;change ru=u at hu;subst hu;have hl:((rl.map ru.enc).length:Int)=(rl.length:Nat):=by rw [a3d]
    show Sim US _ (.req (_/\_/\_/\_/\0<=hi.getD ((rl.map ru.enc).length:Nat)/\hi.getD ((rl.map ru.enc).length:Nat)<=((rl.map ru.enc).length:Nat)) (.ret [.r id ⟨rv,none⟩,.r d ⟨_,some ⟨(rl.map ru.enc).take (hi.getD ((rl.map ru.enc).length:Nat)).toNat,ru.size,re,false⟩⟩,_]));rw [hl];refine Sim.req (λh=>?_) λ_=>Sim.ret ?_
    ·simp only [a24] at h;obtain⟨⟨⟨a1,a2⟩,a3⟩,a4⟩:=h;exact⟨a22 a1,a3n a2,by show rf=false;simpa using a3,hz,a23 a4⟩
    ·simp only [US,a3h,a3K,<-a4h];rfl
   ·exact Sim.fail
theorem Ab (u:U) (l:List u.den):zJ u.size (l.map u.enc):=λe he=>by
 obtain⟨x,_,rfl⟩:=List.mem_map.1 he;exact u.enc_len x
theorem Kb (d z:Nat) (u:U) (hz:u.size=z) (lo hi:Option Int) (x:TC):Sim US (TH d u lo hi x) (zK d z lo hi (kR x.cells)):=by
 refine Sim.bind (tR u x) λy=>Sim.bind (eN y.fz) λus=>?_;have hl:((y.x.map u.enc).length:Int)=(y.x.length:Nat):=by rw [a3d]
 show Sim US _ (.req (zJ z (y.x.map u.enc)/\0<=lo.getD 0/\lo.getD 0<=hi.getD ((y.x.map u.enc).length:Nat)/\hi.getD ((y.x.map u.enc).length:Nat)<=((y.x.map u.enc).length:Nat)) (.ret (US us ++ [.t d ⟨true,.c (.d (.sl (((y.x.map u.enc).take (hi.getD ((y.x.map u.enc).length:Nat)).toNat).drop (lo.getD 0).toNat)))⟩])));rw [hl];refine Sim.req (λh=>?_) λ_=>Sim.ret ?_
 ·have h1:=a23 h;exact⟨hz ▸ Ab u _,h1⟩
 ·simp only [US,a3g,a3h,a3K,<-a4h,<-a4y];rfl
def FA (lo hi:Option Int):TV->TQ TV
 | .o (.c (.ch .str l))=> .req (decide (0<=lo.getD 0/\lo.getD 0<=hi.getD (List.length l:Nat)/\hi.getD (List.length l:Nat)<=(List.length l:Nat))) (.ret (c1 .str ((List.take (hi.getD (List.length l:Nat)).toNat l).drop (lo.getD 0).toNat)))
 | _=> .fail
theorem Kc (l:List UInt8) (a b:Nat):(⟨l.toArray⟩:ByteArray).extract a b=⟨((l.take b).drop a).toArray⟩:=by
 apply ByteArray.ext;rw [ByteArray.data_extract];simp only [List.extract_toArray,List.extract_eq_take_drop];rw [List.drop_take]
theorem FB (lo hi:Option Int) (x:TV):Sim TV.av (FA lo hi x) (tH lo hi x.av):=by
 unfold FA;split
 ·rename_i l;have hl:((⟨List.toArray l⟩:ByteArray).size:Int)=(List.length l:Nat):=congrArg Nat.cast (Fw l);show Sim TV.av _ (.req (0<=lo.getD 0/\lo.getD 0<=hi.getD ((⟨List.toArray l⟩:ByteArray).size:Nat)/\hi.getD ((⟨List.toArray l⟩:ByteArray).size:Nat)<=((⟨List.toArray l⟩:ByteArray).size:Nat)) (.ret (.c (.d (.v (.string ((⟨List.toArray l⟩:ByteArray).extract (lo.getD 0).toNat (hi.getD ((⟨List.toArray l⟩:ByteArray).size:Nat)).toNat)))))));rw [hl];refine Sim.req (λh=>a23 h) λ_=>Sim.ret ?_;exact congrArg (λb=>AV.c (AC.d (DV.v (Value.string b)))) (Kc l _ _)
 ·exact Sim.fail
def Dq {α β:Type} (eq:α->α->Bool) (k:α):List (α × β)->Option Nat
 | []=>none
 | p :: l=>if eq k p.1 then some 0 else(Dq eq k l).map (· + 1)
def TJ {α β:Type} (eq:α->α->Bool) (k:α) (v:β) (l:List (α × β)):List (α × β):=match Dq eq k l with
 | some i=>l.set i (k,v)
 | none=>l ++ [(k,v)]
def a2s {α β:Type} (eq:α->α->Bool) (k:α) (d:β) (l:List (α × β)):β:=((Dq eq k l).bind λi=>(l[i]?).map (·.2)).getD d
def QT:(K:U)->K.den->Option Value
 | .int k,n=>some (.int k n)
 | .str,l=>some (.string ⟨List.toArray l⟩)
 | _,_=>none
theorem HK:∀ {K:U} {k:K.den} {v:Value},QT K k=some v->K.enc k=[.v v]
 | .int _,_,_,h=>by injection h with h;subst h;rfl
 | .str,_,_,h=>by injection h with h;subst h;rfl
theorem ML:∀ {K:U} {a b:K.den} {x y:Value},QT K a=some x->QT K b=some y->tu x y=K.beq a b
 | .int _,a,b,_,_,h1,h2=>by
  injection h1 with h1;injection h2 with h2;subst h1;subst h2;have e:∀ m n:Int,decide (m=n)=QJ m n:=λm n=>by rw [<-MB,a4i];rfl
  exact e a b
 | .str,a,b,_,_,h1,h2=>by
  injection h1 with h1;injection h2 with h2;subst h1;subst h2;have e:∀ m n:List UInt8,decide ((⟨m.toArray⟩:ByteArray).data.toList=(⟨n.toArray⟩:ByteArray).data.toList)=zf m n:=λm n=>by
   rfl
  exact e a b
theorem QU:∀ {K:U} {a:K.den} {x:Value},QT K a=some x->∀ b:K.den,∃ y,QT K b=some y
 | .int _,_,_,_,_=>⟨_,rfl⟩
 | .str,_,_,_,_=>⟨_,rfl⟩
theorem Ac {K V:U} {k:K.den} {kv:Value} (hk:QT K k=some kv):∀ l:List (K.den × V.den),AP kv (l.map (U.pr K V).enc)=Dq K.beq k l
 | []=>rfl
 | p :: l=>by
  obtain⟨y,hy⟩:=QU hk p.1;have e1:(U.pr K V).enc p= .v y :: V.enc p.2:=by show K.enc p.1 ++ V.enc p.2=_;rw [HK hy];rfl
  have e2:AP kv ((U.pr K V).enc p :: List.map (U.pr K V).enc l)=Dq K.beq k (p :: l):=by
   rw [e1];unfold AP Dq;show(if tu kv y=true then some 0 else(AP kv (List.map (U.pr K V).enc l)).map (· + 1))=_
   rw [ML hk hy,Ac hk l]
  exact e2
theorem MM {K V:U} {k:K.den} {kv:Value} (hk:QT K k=some kv) (v:V.den):(U.pr K V).enc (k,v)= .v kv :: V.enc v:=by
 show K.enc k ++ V.enc v=_;rw [HK hk];rfl
theorem Kd {K V:U} {k:K.den} {kv:Value} (hk:QT K k=some kv) (v:V.den) (l:List (K.den × V.den)):PJ kv (V.enc v) (l.map (U.pr K V).enc)=(TJ K.beq k v l).map (U.pr K V).enc:=by
 unfold PJ TJ;rw [Ac hk];cases Dq K.beq k l with
 | none=>
  show l.map (U.pr K V).enc ++ [.v kv :: V.enc v]=(l ++ [(k,v)]).map (U.pr K V).enc;rw [<-MM hk v];exact(@List.map_append (U.pr K V).den _ (U.pr K V).enc l [(k,v)]).symm
 | some i=>
  show(l.map (U.pr K V).enc).set i (.v kv :: V.enc v)=(l.set i (k,v)).map (U.pr K V).enc;rw [<-MM hk v];exact(@List.map_set (U.pr K V).den _ (U.pr K V).enc l i (k,v)).symm
def oP:U->List Value
 | .int k=>[.int k 0]
 | .byte=>[.int .u8 0]
 | .bool=>[.bool false]
 | .str=>[.string ⟨#[]⟩]
 | .sl _=>[.slice none 0 0]
 | .pr a b=>oP a ++ oP b
 | .arr n u=>(List.replicate n (oP u)).flatten
def noSl:U->Bool
 | .sl _=>false
 | .pr a b=>noSl a && noSl b
 | .arr _ u=>noSl u
 | _=>true
def okZ:U->Bool
 | .pr a b=>okZ a && okZ b
 | .arr _ u=>noSl u
 | _=>true
def Ke:U->List TC
 | .sl _=>[.nil]
 | .pr a b=>Ke a ++ Ke b
 | .int k=>[.ch (.int k) (0:Int)]
 | .byte=>[.ch .byte (0:UInt8)]
 | .bool=>[.ch .bool false]
 | .str=>[.ch .str ([]:List UInt8)]
 | .arr n u=>[.ch (.arr n u) (U.arr n u).dflt]
theorem Ad:∀ (u:U),(oP u).map rm=u.enc u.dflt
 | .int _=>rfl
 | .byte=>rfl
 | .bool=>rfl
 | .str=>rfl
 | .sl _=>rfl
 | .pr a b=>by
  show(oP a ++ oP b).map rm=a.enc a.dflt ++ b.enc b.dflt;rw [a3g,Ad a,Ad b]
 | .arr n u=>by
  show((List.replicate n (oP u)).flatten).map rm=(Vector.toList (Vector.replicate n u.dflt)).flatMap u.enc;rw [Vector.toList_replicate,a5a,a4n,Ad u,List.flatMap_def,a4n]
theorem sv:∀ (u:U),noSl u=true->(oP u).map gS=((oP u).map rm).map .d
 | .int _,_=>rfl
 | .byte,_=>rfl
 | .bool,_=>rfl
 | .str,_=>rfl
 | .sl _,h=>by cases h
 | .pr a b,h=>by
  simp only [noSl,a24] at h;show(oP a ++ oP b).map gS=((oP a ++ oP b).map rm).map .d;rw [a3g,a3g,a3g,sv a h.1,sv b h.2]
 | .arr n u,h=>by
  show((List.replicate n (oP u)).flatten).map gS=(((List.replicate n (oP u)).flatten).map rm).map .d;rw [a5a,a4n,sv u h,a5a,a4n,a5a,a4n]
theorem BB:∀ (u:U),okZ u=true->C6 (Ke u)=(oP u).map gS
 | .int _,_=>rfl
 | .byte,_=>rfl
 | .bool,_=>rfl
 | .str,_=>rfl
 | .sl _,_=>rfl
 | .pr a b,h=>by
  simp only [okZ,a24] at h;show C6 (Ke a ++ Ke b)=(oP a ++ oP b).map gS;rw [hC,BB a h.1,BB b h.2,a3g]
 | .arr n u,h=>by
  rw [sv (.arr n u) h,Ad];exact hH _ _
def Vh:Value->Value->Bool
 | .int k n,.int k' n'=>decide (k=k') && decide (n=n')
 | .bool a,.bool b=>a == b
 | .string a,.string b=>decide (a.data.toList=b.data.toList)
 | .slice none 0 0,.slice none 0 0=>true
 | _,_=>false
theorem QV {a b:Value} (h:Vh a b=true):a=b:=by
 unfold Vh at h;split at h
 ·rw [a24,a2W,a2W] at h;rw [h.1,h.2]
 ·rw [beq_iff_eq] at h;rw [h]
 ·rename_i a b;have h:=a23 h;obtain⟨⟨a⟩⟩:=a;obtain⟨⟨b⟩⟩:=b;simp only at h;rw [h]
 ·rfl
 ·cases h
def Kf:List Value->List Value->Bool
 | [],[]=>true
 | a :: as,b :: bs=>Vh a b && Kf as bs
 | _,_=>false
theorem xb:∀ {a b:List Value},Kf a b=true->a=b
 | [],[],_=>rfl
 | a :: as,b :: bs,h=>by
  simp only [Kf,a24] at h;rw [QV h.1,xb h.2]
def isKey:U->Bool
 | .int _=>true
 | .str=>true
 | _=>false
def kOk:TK->U->Bool
 | .int q,.int k=>decide (k=q)
 | .str,.str=>true
 | .arr n _,.str=>Nat.ble n 1000
 | _,_=>false
def kU:U->U
 | .arr _ .byte=> .str
 | u=>u
theorem HL:∀ {K:U},isKey K=true->∀ k:K.den,QT K k=some (wi K k)
 | .int _,_,_=>rfl
 | .str,_,_=>rfl
theorem MN {n:Nat} {e:TypeId} (h:Nat.ble n 1000=true):wid (.arr n e)=some n:=a28 (a3n h)
theorem XB:∀ {q:TK} {K:U},kOk q K=true->∀ k:K.den,wid q=none->KK q (wi K k)
 | .int q,.int k,h,_,_=>(a23 h:k=q)
 | .str,.str,_,_,_=>trivial
 | .arr n _,.str,h,_,hw=>by rw [MN h] at hw;cases hw
theorem XC:∀ {q:TK} {K:U},kOk q K=true->∀ k:K.den,KA q (wi K k)
 | .int q,.int k,h,_=>(a23 h:k=q)
 | .str,.str,_,_=>trivial
 | .arr n e,.str,h,_=>by unfold KA;rw [MN h];trivial
theorem Dr {q:TK} {K V:U} (hk:isKey K=true) (ho:kOk q K=true) (l:List (K.den × V.den)):zM q (l.map (U.pr K V).enc):=λe he=>by
 obtain⟨p,_,rfl⟩:=List.mem_map.1 he;exact⟨wi K p.1,V.enc p.2,MM (HL hk p.1) p.2,XC ho p.1⟩
def a1B:TK->Bool
 | .int .u8=>true
 | _=>false
theorem Vi:∀ {k:TK},a1B k=true->k= .int .u8
 | .int .u8,_=>rfl
def Vj (T:TypeId->Option TI) (ik:TI) (K:U) (x:TV):TQ K.den:=match ik.k with
 | .arr n e=>(TQ.ofOpt (T e)).bind λie=>match x with
  | .o (.agg [.ch (.arr m .byte) v])=>match decEq U.str K with
   | .isTrue h=> .req (a1B ie.k && Nat.ble n 1000 && Nat.beq ie.size 1 && Nat.beq ik.size n && decide (ik.cmp=List.replicate n (.i .u8)) && Nat.blt 0 n && Nat.beq m n) (.req true (.ret (pq h (Vector.toList v))))
   | .isFalse _=> .fail
  | _=> .fail
 | _=>match x with
  | .o (.c (.ch u x))=>match decEq u K with
   | .isTrue h=> .req true (.ret (pq h x))
   | .isFalse _=> .fail
  | _=> .fail
theorem Vk (b:UInt8):unB (bAC b)=b:=by
 show UInt8.ofNat ((b.toNat:Int)).toNat=b;rw [a2T];exact UInt8.ofNat_toNat
theorem MO (l:List UInt8):(l.map bAC).map unB=l:=by
 rw [a4z]
 conv=>rhs;rw [<-List.map_id l]
 exact a37 λb _=>Vk b
theorem FC {m:Nat} (v:Vector UInt8 m):C6 [.ch (.arr m .byte) v]=(Vector.toList v).map bAC:=by
 show(((Vector.toList v).flatMap λb=>[DV.v (.int .u8 (b.toNat:Int))]).map AC.d) ++ []=_;rw [a3b,List.map_flatMap];generalize Vector.toList v=l
 induction l with
 | nil=>rfl
 | cons b l ih=>rw [a3C,ih];rfl
theorem FD {T:TypeId->Option TI} {ik:TI} (h:∀ n e,ik.k= .arr n e->False) (x:AV):Tm T ik x=match x with
  | .c x=> .req (wid ik.k=none) (ZW x)
  | _=> .fail:=by
 unfold Tm;split
 ·rename_i hk;exact(h _ _ hk).elim
 ·rfl
theorem QW {K:U} {T:TypeId->Option TI} {ik:TI} (hk:isKey K=true) (x:TV):Sim (wi K) (Vj T ik K x) (Tm T ik x.av):=by
 unfold Vj;split
 ·rename_i n e hki;unfold Tm;simp only [hki];refine Sim.bind (bZ (T e)) λie=>?_;simp only [id];split
  ·rename_i m v;split
   ·rename_i h _;subst h;have hc:=FC v;refine Sim.req (λh=>?_) λh=>?_
    ·simp only [a24,a2W] at h;obtain⟨⟨⟨⟨⟨⟨h1,h2⟩,h3⟩,h4⟩,h5⟩,h6⟩,h7⟩:=h;refine⟨a3n h2,Vi h1,a22 h3,a22 h4,h5,a3n h6,?_⟩;rw [hc,a3d];exact(show(Vector.toList (v:Vector UInt8 m)).length=m from a3N).trans (a22 h7)
    ·refine Sim.req (λ_=>?_) λ_=>Sim.ret ?_
     ·rw [hc,MO]
     ·exact congrArg (λl:List UInt8=>Value.string ⟨l.toArray⟩) ((congrArg (List.map unB) hc).trans (MO _))
   ·exact Sim.fail
  ·exact Sim.fail
 ·rename_i hna;rw [FD hna];split
  ·rename_i u y;split
   ·rename_i h _;subst h;refine Sim.req (λ_=>Qh hna) λ_=>?_;cases u <;> first | exact Sim.ret rfl | cases hk
   ·exact Sim.fail
  ·exact Sim.fail
structure Lk (α:Type) where
 x:α
 b:Bool
def a2t (K V:U) (ik iv:TI) (k:K.den):TV->TQ (Lk V.den)
 | .o (.c (.row id ver))=> .rdR id λr=>match r.c with
  | some R=>match decEq R.u (.pr K V) with
   | .isTrue h=> .req (Nat.beq ver r.ver && Nat.beq R.e (mW ik.k iv.agg)) (.ret ⟨a2s K.beq k V.dflt (h ▸ R.l:List (U.pr K V).den),(Dq K.beq k (h ▸ R.l:List (U.pr K V).den)).isSome⟩)
   | .isFalse _=> .fail
  | none=> .fail
 | _=> .fail
def FE (ag:Bool):TV->TQ (List TC)
 | .o (.c x)=> .req (!ag && is1 x) (.ret [x])
 | .o (.agg xs)=> .req ag (.ret xs)
 | _=> .fail
theorem FF (ag:Bool) (x:TV):Sim C6 (FE ag x) (CL ag x.av):=by
 unfold FE;split
 ·rename_i x;refine Sim.req (λh=>by rw [a24] at h;simpa using h.1) λh=>Sim.ret ?_;rw [a24] at h;show [kR x.cells]=x.cells ++ [];rw [a3b];exact(wl h.2).symm
 ·exact Sim.req id λ_=>Sim.ret rfl
 ·exact Sim.fail
def Vl (K V:U) (ik iv:TI) (k:K.den) (xs:List TC):TV->TQ (List gQ)
 | .o (.c (.row id ver))=>(qg V xs).bind λd=>(nV d.fz).bind λus=> .rdR id λr=>match r.c with
  | some R=>match decEq R.u (.pr K V) with
   | .isTrue h=> .req (Nat.beq ver r.ver && Nat.beq R.e (mW ik.k iv.agg) && !R.fr && !(d.fz.contains id)) (.ret (us ++ [.r id ⟨r.ver,some ⟨.pr K V,TJ K.beq k d.x (h ▸ R.l:List (U.pr K V).den),R.e,false⟩⟩]))
   | .isFalse _=> .fail
  | none=> .fail
 | _=> .fail
theorem MP:∀ {K:U},isKey K=true->K.size=1
 | .int _,_=>rfl
 | .str,_=>rfl
theorem MQ {K V:U} {ik iv:TI} (hk:isKey K=true) (ho:kOk ik.k K=true) (hs:V.size=iv.size) (k:K.den) (xs:List TC) (x:TV) :
  Sim US (Vl K V ik iv k xs x) (WV ik iv (wi K k) (C6 xs) x.av):=by
 unfold Vl;split
 ·rename_i id ver;refine Sim.bind (kj V xs) λd=>Sim.bind (eN d.fz) λus=>Sim.rdR λr=>?_;obtain⟨rv,c⟩:=r;cases c with
  | none=>exact Sim.fail
  | some R=>
   obtain⟨ru,rl,re,rf⟩:=R;simp only;split
   ·rename_i hu he;clear he;change ru=U.pr K V at hu;subst hu;refine Sim.req (λh=>?_) λ_=>Sim.ret ?_
    ·simp only [a24] at h;obtain⟨⟨⟨a1,a2⟩,a3⟩,a4⟩:=h;refine⟨a22 a1,a22 a2,?_,by show rf=false;simpa using a3,by simpa using a4,by rw [U.enc_len,hs],XB ho k,Dr hk ho rl⟩;show K.size + V.size=1 + iv.size;rw [MP hk,hs]
    ·have h1:=Kd (V:=V) (HL hk k) d.x rl;show us.map gQ.upd ++ [Upd.r id ⟨rv,some ⟨PJ (wi K k) (V.enc d.x) (rl.map (U.pr K V).enc),(U.pr K V).size,re,false⟩⟩]=US (us ++ [_]);rw [h1];simp only [US,a3g,a3h,a3K];rfl
   ·exact Sim.fail
 ·exact Sim.fail
theorem MR {a b:Nat} (h:(!(Nat.beq a b))=true):a ≠ b:=λe=>by
 subst e;rw [Nat.beq_refl] at h;cases h
def QX (e:Nat):Bool:=Nat.ble Ju e && Nat.blt e pi
theorem HM {e:Nat} (h:(!(QX e))=true):¬ kQ e:=λk=>by
 have h1:Nat.ble Ju e=true:=Nat.ble_eq_true_of_le k.1;have h2:Nat.blt e pi=true:=Nat.ble_eq_true_of_le k.2;unfold QX at h;rw [h1,h2] at h;cases h
def FG:TV->TQ Nat
 | .o (.c (.row id ver))=> .rdR id λr=>match r.c with
  | some R=> .req (Nat.beq ver r.ver && Nat.ble ja R.e && !(Nat.beq R.e qQ) && !(QX R.e)) (.ret R.l.length)
  | none=> .fail
 | _=> .fail
theorem FH (x:TV):Sim id (FG x) (AW x.av):=by
 unfold FG;split
 ·refine Sim.rdR λr=>?_;obtain⟨rv,c⟩:=r;cases c with
  | none=>exact Sim.fail
  | some R=>exact Sim.req (λh=>by simp only [a24] at h;exact⟨a22 h.1.1.1,a3n h.1.1.2,MR h.1.2,HM h.2⟩) λ_=>Sim.ret (by simp [wH.row])
 ·exact Sim.fail
def MS (k:TK) (d:Nat):TV->TQ (List gQ)
 | .o (.c (.ch .str s))=>match k with
  | .str=> .rdR d λr=> .ret [.r d ⟨r.ver + 1,some ⟨.pr .str (.int .i64),[((s:List UInt8),(0:Int))],qQ,false⟩⟩,.t d ⟨true,.o (.c (.row d (r.ver + 1)))⟩]
  | _=> .fail
 | _=> .fail
theorem Kg (k:TK) (d:Nat) (x:TV):Sim US (MS k d x) (Hg k d x.av):=by
 unfold MS;split
 ·cases k <;> first | exact Sim.fail | exact Sim.rdR λr=>Sim.ret rfl
 ·exact Sim.fail
def FI (s:List UInt8) (p:Int):Int:=EL ⟨s.toArray⟩ p
def MT (s:List UInt8) (p:Int):Int:=((Utf8.decode ⟨s.toArray⟩ p.toNat).1:Nat)
def gT (l:List (U.pr .str (.int .i64)).den):List UInt8 × Int:=List.headD (l:List (List UInt8 × Int)) ([],0)
def Vm (d:Nat):TV->TQ (List gQ)
 | .o (.c (.row id ver))=> .rdR id λr=>match r.c with
  | some R=>match decEq R.u (.pr .str (.int .i64)) with
   | .isTrue h=> .req (Nat.beq ver r.ver && Nat.beq R.e qQ && !R.fr && Nat.beq R.l.length 1)
    (.ret [.r id ⟨r.ver,some ⟨.pr .str (.int .i64),[((gT (h ▸ R.l:List (U.pr .str (.int .i64)).den)).1,FI (gT (h ▸ R.l:List (U.pr .str (.int .i64)).den)).1 (gT (h ▸ R.l:List (U.pr .str (.int .i64)).den)).2)],R.e,false⟩⟩,
     .t d ⟨true,.nx (decide ((gT (h ▸ R.l:List (U.pr .str (.int .i64)).den)).2.toNat < (gT (h ▸ R.l:List (U.pr .str (.int .i64)).den)).1.length)) (.ch (.int .i64) (gT (h ▸ R.l:List (U.pr .str (.int .i64)).den)).2) (.ch (.int .i32) (MT (gT (h ▸ R.l:List (U.pr .str (.int .i64)).den)).1 (gT (h ▸ R.l:List (U.pr .str (.int .i64)).den)).2))⟩])
   | .isFalse _=> .fail
  | none=> .fail
 | _=> .fail
theorem MU (d:Nat) (x:TV):Sim US (Vm d x) (PU d x.av):=by
 unfold Vm;split
 ·refine Sim.rdR λr=>?_;obtain⟨rv,c⟩:=r;cases c with
  | none=>exact Sim.fail
  | some R=>
   obtain⟨ru,rl,re,rf⟩:=R;simp only;split
   ·rename_i hu he;clear he;change ru=U.pr .str (.int .i64) at hu;subst hu;refine Sim.req (λh=>?_) λh=>?_
    ·simp only [a24] at h;exact⟨a22 h.1.1.1,a22 h.1.1.2,by show rf=false;simpa using h.1.2⟩
    ·simp only [a24] at h;have hl:=a22 h.2
     match rl,hl with
     | [q],_=>exact Sim.ret rfl
   ·exact Sim.fail
 ·exact Sim.fail
def Vn (k:Nat):TV->TQ TV
 | .tup xs=>(TQ.ofOpt xs[k]?).bind λy=> .ret (.o y)
 | .nx b x y=>match k with
  | 0=> .ret (.o (.c (.ch .bool b)))
  | 1=> .req b (.ret (.o (.c x)))
  | 2=> .req b (.ret (.o (.c y)))
  | _=> .fail
 | .ent true id pv K kv=>match k with
  | 1=> .rdB (pbx id) λb=> .req (Nat.beq pv b.ver) (.ret (.ent false id pv K kv))
  | _=> .fail
 | _=> .fail
theorem MV (k:Nat) (x:TV):Sim TV.av (Vn k x) (wP k x.av):=by
 unfold Vn;split
 ·rename_i xs;intro s tr K h;rw [TQ.wpt_bind] at h;show(Q.ofOpt (xs.map T1.av)[k]?).wpt _ _ _;have h1:=Dh (f:=T1.av) (o':=xs[k]?) (o:=(xs.map T1.av)[k]?) (λa h=>by rw [List.getElem?_map,h];rfl) s tr _ h;refine Q.wpt_mono h1 ?_;rintro b rs ⟨a,rfl,hk⟩;exact⟨_,rfl,hk⟩
 ·split
  ·exact Sim.ret rfl
  ·exact Sim.req (λh=>h) λ_=>Sim.ret rfl
  ·exact Sim.req (λh=>h) λ_=>Sim.ret rfl
  ·exact Sim.fail
 ·split
  ·exact Sim.rdB λb=>Sim.req (λh=>a22 h) λ_=>Sim.ret rfl
  ·exact Sim.fail
 ·exact Sim.fail
def XD (u:U) (x:TC):TQ (Pa u.den):= .req (is1 x && Nat.beq u.size 1) (qg u [x])
theorem MW (u:U) (x:TC):Sim (λp:Pa u.den=>(Bs (u.enc p.x),p.fz)) (XD u x) (toD (kR x.cells)):=by
 refine Sim.chk λh s tr K hK=>?_;rw [a24] at h;have e:C6 [x]=[kR x.cells]:=(a3b _).trans (wl h.1);have h1:=kj u [x] s tr K hK;rw [e] at h1;simp only [tG,Q.wpt_bind,Q.wpt] at h1;refine Q.wpt_mono h1 ?_;rintro⟨d,fz⟩ rs ⟨p,hp,hk⟩;injection hp with hp1 hp2;refine⟨p,?_,hk⟩;simp only [a3b] at hp2;simp only at hp1 hp2;rw [<-hp1,hp2];rfl
def a1C (t:TypeId) (u:U) (d:Nat) (x:TC):TQ (List gQ):=(XD u x).bind λy=>(nV y.fz).bind λus=> .ret (us ++ [.t d ⟨true,.o (.c (.it t u y.x))⟩])
theorem QY (t:TypeId) (u:U) (d:Nat) (x:TC):Sim US (a1C t u d x) ((toD (kR x.cells)).bind λy=>(kT y.2).bind λus=> .ret (us ++ [.t d ⟨true,.c (.d (.it t y.1))⟩])):=by
 refine Sim.bind (MW u x) λy=>Sim.bind (eN y.fz) λus=>Sim.ret ?_;simp only [US,a3g,a3h,a3K];rfl
def FJ (i:TI) (t:TypeId):TV->TQ TV
 | .o (.c (.it t' u x))=> .req (i.k.conc && !i.agg && Nat.beq u.size 1) (match decEq t' t with
  | .isTrue _=> .ret (.tup [.c (.ch u x),.c (.ch .bool true)])
  | .isFalse _=>match i.zero with
   | [z]=>match JT z with
    | some c=> .ret (.tup [.c c,.c (.ch .bool false)])
    | none=> .fail
   | _=> .fail)
 | _=> .fail
theorem FK (i:TI) (t:TypeId) (x:TV):Sim TV.av (FJ i t x) (AY i t x.av):=by
 unfold FJ;split
 ·rename_i t' u y;refine Sim.req (λh=>?_) λh=>?_
  ·simp only [a24] at h;exact⟨h.1.1,by simpa using h.1.2⟩
  ·simp only [a24] at h;have hz:=a22 h.2;have hag:i.agg=false:=by simpa using h.1.2
   show Sim TV.av _ (match decEq t' t with
    | .isTrue _=> .ret (.tup [.c (.d (Bs (u.enc y))),.c (.d (.v (.bool true)))])
    | .isFalse _=>(Ly i).bind λz=> .ret (.tup [z,.c (.d (.v (.bool false)))]))
   generalize decEq t' t=dd;cases dd with
   | isTrue e=>
    refine Sim.ret ?_;show AV.tup [.c (.d (Bs (u.enc y))),.c (.d (.v (.bool true)))]= .tup [.c (kR ((u.enc y).map .d)),.c (.d (.v (.bool true)))];rw [<-HA (ds:=u.enc y) (by rw [U.enc_len,hz])];rfl
   | isFalse e=>
    simp only;split
    ·rename_i z hz0;cases hl:JT z with
     | none=>exact Sim.fail
     | some c=>
      obtain⟨a1,_,a3⟩:=Bu hl;unfold Ly;rw [hag,hz0];refine Sim.ret ?_;show AV.tup [.c (gS z),.c (.d (.v (.bool false)))]= .tup [.c (kR c.cells),.c (.d (.v (.bool false)))];rw [a1];rfl
    ·exact Sim.fail
 ·exact Sim.fail
def TL (ou:Option U) (zero:List Value):Option (List TC):=match ou with
 | some u=>match okZ u && Kf (oP u) zero with
  | true=>some (Ke u)
  | false=>none
 | none=>ya zero
theorem FL {ou:Option U} {zero:List Value} {ps:List TC} (h:TL ou zero=some ps):C6 ps=zero.map gS:=by
 unfold TL at h;split at h
 ·split at h
  ·rename_i u _ hz;rw [a24] at hz;injection h with h;subst h;rw [BB _ hz.1,xb hz.2]
  ·cases h
 ·exact(vJ h).1
def HN (place:Nat->Option (Nat × Nat)) (ps:List TC):List (Nat × TV)->TQ (List TC)
 | []=> .ret ps
 | p :: rest=>(zV p.2).bind λv=>match place p.1 with
  | some q=> .req (Nat.beq (Mt v) q.2) (match WF ps q.1 v with | some qs=>HN place qs rest | none=> .fail)
  | none=> .fail
theorem vK (place:Nat->Option (Nat × Nat)):∀ (xs:List (Nat × TV)) (ps:List TC),Sim C6 (HN place ps xs) (AS place (C6 ps) (xs.map pav))
 | [],ps=>Sim.ret rfl
 | p :: rest,ps=>by
  refine Sim.bind (sq p.2) λv=>?_;show Sim C6 _ (match place p.1 with | some q=> .req ((C6 v).length=q.2/\q.1 + q.2<=(C6 ps).length) (AS place (setAt (C6 ps) q.1 (C6 v)) (rest.map pav)) | none=> .fail)
  cases place p.1 with
  | none=>exact Sim.fail
  | some q=>
   refine Sim.chk λh=>?_;have e:=a22 h;rw [<-uQ] at e;simp only;cases hs:WF ps q.1 v with
   | none=>exact Sim.fail
   | some qs=>
    obtain⟨h1,h2⟩:=Mu hs;refine Sim.must ⟨e,by rw [<-e];exact h2⟩ ?_;rw [<-h1];exact vK place rest qs
structure Pds (α:Type) where
 x:List (Nat × α)
 fz:List Nat
def a0B (u:U):List (Nat × TV)->TQ (Pds u.den)
 | []=> .ret ⟨[],[]⟩
 | p :: ps=>(zV p.2).bind λcs=>(qg u cs).bind λd=>(a0B u ps).bind λds=> .ret ⟨(p.1,d.x) :: ds.x,d.fz ++ ds.fz⟩
def XE (u:U) (p:Pds u.den):List (Nat × List DV) × List Nat:=(p.x.map λq=>(q.1,u.enc q.2),p.fz)
theorem HO (u:U):∀ (ps:List (Nat × TV)),Sim (XE u) (a0B u ps) (Jx (ps.map pav))
 | []=>Sim.ret rfl
 | p :: ps=>Sim.bind (sq p.2) λcs=>Sim.bind (kj u cs) λ_d=>Sim.bind (HO u ps) λ_ds=>Sim.ret rfl
def MX {α:Type}:List α->List (Nat × α)->TQ (List α)
 | es,[]=> .ret es
 | es,p :: rest=> .req (decide (p.1 < es.length)) (MX (es.set p.1 p.2) rest)
theorem Ae (u:U):∀ (xs:List (Nat × u.den)) (es:List u.den),Sim (List.map u.enc) (MX es xs) (Jy u.size (es.map u.enc) (xs.map λq=>(q.1,u.enc q.2)))
 | [],es=>Sim.ret rfl
 | p :: rest,es=>by
  refine Sim.req (λh=>⟨u.enc_len _,by rw [a3d];exact a23 h⟩) λ_=>?_;show Sim _ _ (Jy u.size ((es.map u.enc).set p.1 (u.enc p.2)) _);rw [<-a5q];exact Ae u rest _
def LIM:Nat:=140737488355328
def LEN:Nat:=4611686018427387904
def MY (d:Nat) (e:TypeId) (u:U) (by_:Nat) (x y:TC):TQ (List gQ):=
 (BA u y).bind λy=> .req (decide (e < ja)) ((nV y.fz).bind λus=> .rdR d λrd=>match x with
  | .nil=> .req (decide (y.x.length * by_<=LIM/\y.x.length<=LEN)) (.ret (us ++ [.r d ⟨rd.ver + 1,some ⟨u,y.x,e,false⟩⟩,.t d ⟨true,.o (.c (.row d (rd.ver + 1)))⟩]))
  | .row id ver=> .rdR id λr=>match r.c with
   | some R=>match decEq R.u u with
    | .isTrue h=> .req (Nat.beq ver r.ver && Nat.beq R.e e) (.req (decide ((R.l.length + y.x.length) * by_<=LIM/\R.l.length + y.x.length<=LEN))
     (.ret (us ++ [.r id ⟨r.ver,none⟩,.r d ⟨rd.ver + 1,some ⟨u,(h ▸ R.l:List u.den) ++ y.x,e,R.fr || y.fz.contains id⟩⟩,.t d ⟨true,.o (.c (.row d (rd.ver + 1)))⟩])))
    | .isFalse _=> .fail
   | none=> .fail
  | _=> .fail)
theorem FM (d:Nat) (e:TypeId) (u:U) (z by_:Nat) (hz:u.size=z) (x y:TC):Sim US (MY d e u by_ x y) (AU d e z by_ (kR x.cells) (kR y.cells)):=by
 subst hz;refine Sim.bind (tR u y) λy=>?_;show Sim US _ (.req (zJ u.size (y.x.map u.enc)/\e < ja) ((kT y.fz).bind λus=> .rdR d λrd=>match kR x.cells with
   | .nil=> .req ((y.x.map u.enc).length * by_<=140737488355328/\(y.x.map u.enc).length<=4611686018427387904) (.ret (us ++ [.r d ⟨rd.ver + 1,some ⟨y.x.map u.enc,u.size,e,false⟩⟩,.t d ⟨true,.c (.row d (rd.ver + 1))⟩]))
   | .row id ver=> .rdR id λr=>match r.c with
    | some R=> .req (ver=r.ver/\R.sz=u.size/\R.e=e/\(R.es.length + (y.x.map u.enc).length) * by_<=140737488355328/\R.es.length + (y.x.map u.enc).length<=4611686018427387904)
     (.ret (us ++ [.r id ⟨r.ver,none⟩,.r d ⟨rd.ver + 1,some ⟨R.es ++ y.x.map u.enc,u.size,e,R.fr || y.fz.contains id⟩⟩,.t d ⟨true,.c (.row d (rd.ver + 1))⟩]))
    | none=> .fail
   | _=> .fail))
 refine Sim.req (λh=>⟨Ab u _,a23 h⟩) λ_=>(Sim.bind (eN y.fz) λus=>Sim.rdR λrd=>?_);split
 ·refine Sim.req (λh=>?_) λ_=>Sim.ret ?_
  ·have h1:=a23 h;rw [a3d];exact h1
  ·simp only [US,a3g,a3h,a3K];rfl
 ·rename_i id ver;refine Sim.rdR λr=>?_;obtain⟨rv,c⟩:=r;cases c with
  | none=>exact Sim.fail
  | some R=>
   obtain⟨ru,rl,re,rf⟩:=R;simp only;split
   ·rename_i hu _;subst hu;refine Sim.chk λh=>Sim.req (λh0=>?_) λ_=>Sim.ret ?_
    ·rw [a24] at h;have h1:=a23 h0;refine⟨a22 h.1,rfl,a22 h.2,?_⟩;rw [show(wH.row ⟨ru,rl,re,rf⟩).es.length=rl.length from a3d ..,a3d];exact h1
    ·simp only [US,a3g,a3h,a3K,gQ.upd,TRS.rs,a3s,Option.map_none,wH.row];rfl
   ·exact Sim.fail
 ·exact Sim.fail
section
variable (T:TypeId->Option TI) (TU:TypeId->Option U) (cq:Oper->Call->Q (List Upd)) (tcq:Oper->Call->TQ (List gQ))
def ttq (t:TypeId):TQ TI:= .ofOpt (T t)
theorem L9 (t:TypeId):Sim id (ttq T t) (tq T t):=bZ _
def BC (i j:TI) (o:Oper) (_src:TypeId) (x:TV):TQ (List gQ):=match i.k,j.k with
 | .int _,.int k=>(TD x).bind λn=>ux o.dst (c1 (.int k) (k.wrap n))
 | .str,.str=>match x with
  | .o (.c (.ch .str s))=>ux o.dst (c1 .str s)
  | _=> .fail
 | .slice e,.str=>(ttq T e).bind λie=>match ie.k with
  | .int .u8=>match x with
   | .o (.c x)=>(BA .byte x).bind λy=>ux o.dst (c1 .str y.x)
   | _=> .fail
  | _=> .fail
 | .str,.slice e=>(ttq T e).bind λie=>match ie.k with
  | .int .u8=>match x with
   | .o (.c (.ch .str s))=> .req (decide (List.length s<=maxLen)) (ux o.dst (c1 (.sl .byte) s))
   | _=> .fail
  | _=> .fail
 | _,_=> .fail
def WH (o:Oper):TQ (List gQ):=match o.op with
 | .move x=>(tev x).bind (ux o.dst)
 | .assign x=>(tev x).bind (ux o.dst)
 | .pick c a b=>(tev c).bind λc=>(QD c).bind λc=>(a0w a).bind λa=>(a0w b).bind λb=>(Xx c a b).bind (ux o.dst)
 | .alloc t=>(ttq T t).bind λi=>(TQ.ofOpt o.dst).bind λd=>match TL (TU t) i.zero with
  | some ps=> .rdB d λb=> .ret [.b d ⟨b.ver + 1,some ps⟩,.t d ⟨true,.o (.c (.ptr d (b.ver + 1) 0))⟩]
  | none=> .fail
 | .box _ x=>(TQ.ofOpt o.dst).bind λd=>(tev x).bind λv=>(zV v).bind λcs=> .rdB d λb=> .ret [.b d ⟨b.ver + 1,some cs⟩,.t d ⟨true,.o (.c (.ptr d (b.ver + 1) 0))⟩]
 | .build t parts=>(ttq T t).bind λi=>(QC parts.toList).bind λps=>match i.k with
  | .struct fs=>match TL (TU t) i.zero with
   | some zs=>(HN (fs[·]?) zs ps).bind λcs=>ux o.dst (.o (.agg cs))
   | none=> .fail
  | .arr _ e=>(ttq T e).bind λie=>match TL (TU t) i.zero with
   | some zs=>(HN (λj=>some (j * ie.size,ie.size)) zs ps).bind λcs=>ux o.dst (.o (.agg cs))
   | none=> .fail
  | _=> .fail
 | .buildSlice t len parts=>(ttq T t).bind λi=>(TQ.ofOpt o.dst).bind λd=>match i.k with
  | .slice e=>(ttq T e).bind λie=>match TU e with
   | some u=> .req (decide (len * ie.size<=16777216/\0 < ie.size/\(len=0->parts.size=0)/\e < ja) && Nat.beq u.size ie.size && Kf (oP u) ie.zero) ((QC parts.toList).bind λps=>(a0B u ps).bind λy=>(nV y.fz).bind λus=>(MX (List.replicate len u.dflt) y.x).bind λes=>
    .rdR d λr=> .ret (us ++ [.r d ⟨r.ver + 1,some ⟨u,es,e,false⟩⟩,.t d ⟨true,.o (.c (.row d (r.ver + 1)))⟩]))
   | none=> .fail
  | _=> .fail
 | .load t a=>(ttq T t).bind λi=>(tev a).bind λa=>(QH i a).bind (ux o.dst)
 | .store t a x=>match o.dst with
  | some _=> .fail
  | none=>(ttq T t).bind λi=>(tev a).bind λa'=>(tev x).bind λx=>(zV x).bind λcs=>(MG TU t i cs a').bind λus=>Fn i (qd a) a' us
 | .nilCheck x=>(tev x).bind λx=>match x with
  | .o (.c (.ptr id ver off))=> .rdB id λb=> .req (Nat.beq ver b.ver && b.c.isSome) (ux o.dst (.o (.c (.ptr id ver off))))
  | .o (.c (.ep u y off))=>ux o.dst (.o (.c (.ep u y off)))
  | .o (.c (.rp id ver k off sz))=> .rdR id λr=> .req (Nat.beq ver r.ver && r.c.isSome) (ux o.dst (.o (.c (.rp id ver k off sz))))
  | .o (.c (.fn f))=>ux o.dst (.o (.c (.fn f)))
  | .o (.c (.clo f u x))=>ux o.dst (.o (.c (.clo f u x)))
  | _=> .fail
 | .binOp op t x y _=>(ttq T t).bind λi=>(tev x).bind λx=>(tev y).bind λy=>(a0y TU op t i x y).bind (ux o.dst)
 | .unOp op _ x=>(tev x).bind λx=>(tun op x).bind (ux o.dst)
 | .convert src dst x=>(ttq T src).bind λi=>(ttq T dst).bind λj=>(tev x).bind λx=>BC T i j o src x
 | .slice t xo lo hi none=>(ttq T t).bind λi=>(tev xo).bind λx=>(ZX lo).bind λl=>(ZX hi).bind λh=>match i.k with
   | .slice e=>(ttq T e).bind λie=>match TU e with
    | some u=> .req (Nat.beq u.size ie.size) (match x with
     | .o (.c x)=>(TQ.ofOpt o.dst).bind λd=>if(i.cut && l.isNone)=true then a1A d u h x else TH d u l h x
     | _=> .fail)
    | none=> .fail
   | .str=>(FA l h x).bind (ux o.dst)
   | .arr n e=>(ttq T e).bind λie=>match TU e with
    | some u=>Fq o.dst (qd xo) u n ie l h x
    | none=> .fail
   | _=> .fail
 | .fieldAddr t x f=>(ttq T t).bind λi=>match i.k with
  | .struct fs=>(TQ.ofOpt fs[f]?).bind λp=>(tev x).bind λx=>(MH p.1 x).bind (ux o.dst)
  | _=> .fail
 | .indexAddr t x k=>(ttq T t).bind λi=>(tev x).bind λx=>(tev k).bind λk=>(TD k).bind λk=>match i.k with
  | .slice e=>(ttq T e).bind λie=>(MJ ie.size k x).bind (ux o.dst)
  | .arr n e=>(ttq T e).bind λie=>(Fh n ie.size k x).bind (ux o.dst)
  | _=> .fail
 | .index t x k=>(ttq T t).bind λi=>(tev x).bind λx=>(tev k).bind λk=>(TD k).bind λk=>match i.k with
  | .str=>(Fv k x).bind (ux o.dst)
  | .arr n e=>(ttq T e).bind λie=>match TU e with
   | some u=>(Fj u n ie k x).bind (ux o.dst)
   | none=> .fail
  | _=> .fail
 | .field t x f=>(ttq T t).bind λi=>match i.k with
  | .struct fs=>(TQ.ofOpt fs[f]?).bind λp=>(TQ.ofOpt i.fts[f]?).bind λft=>(ttq T ft).bind λie=>(tev x).bind λx=>(Fl p.1 ie x).bind (ux o.dst)
  | _=> .fail
 | .extract x k=>(tev x).bind λx=>(Vn k x).bind (ux o.dst)
 | .range t x=>(ttq T t).bind λi=>(TQ.ofOpt o.dst).bind λd=>(tev x).bind λx=>MS i.k d x
 | .next x true=>(TQ.ofOpt o.dst).bind λd=>(tev x).bind λx=>Vm d x
 | .makeInterface t x=>(ttq T t).bind λi=>(TQ.ofOpt o.dst).bind λd=>(tev x).bind λx=>match x with
  | .o (.c x)=>match TU t with
   | some u=> .req i.k.conc (a1C t u d x)
   | none=> .fail
  | _=> .fail
 | .typeAssert x _ t true=>(ttq T t).bind λi=>(tev x).bind λx=>(FJ i t x).bind (ux o.dst)
 | .makeSlice t l c=>(ttq T t).bind λi=>(TQ.ofOpt o.dst).bind λd=>(tev l).bind λl=>(TD l).bind λl=>(tev c).bind λc=>(TD c).bind λc=>match i.k with
  | .slice e=>(ttq T e).bind λie=>match TU e with
   | some u=> .req (decide (0 < ie.size/\e < ja) && Nat.beq u.size ie.size && Kf (oP u) ie.zero) (.req (decide (0<=l/\l<=c/\(ie.bytes:Int) * c<=281474976710656/\c<=4611686018427387904)) (.rdR d λr=>
    .ret [.r d ⟨r.ver + 1,some ⟨u,List.replicate l.toNat u.dflt,e,false⟩⟩,.t d ⟨true,.o (.c (.row d (r.ver + 1)))⟩]))
   | none=> .fail
  | _=> .fail
 | .makeMap t r=>(ttq T t).bind λi=>(TQ.ofOpt o.dst).bind λd=>(ZX r).bind λ_=>match i.k with
  | .map kt vt=>(ttq T kt).bind λik=>(ttq T vt).bind λiv=>match TU kt,TU vt with
   | some K,some V=> .req (isKey (kU K) && Nat.beq V.size iv.size) (.rdR d λr=> .ret [.r d ⟨r.ver + 1,some ⟨.pr (kU K) V,[],mW ik.k iv.agg,false⟩⟩,.t d ⟨true,.o (.c (.row d (r.ver + 1)))⟩])
   | _,_=> .fail
  | _=> .fail
 | .mapUpdate t m k x=>match o.dst with
  | some _=> .fail
  | none=>(ttq T t).bind λi=>(tev m).bind λm=>(tev k).bind λk=>(tev x).bind λx=>match i.k with
   | .map kt vt=>(ttq T kt).bind λik=>(ttq T vt).bind λiv=>match TU kt,TU vt with
    | some K,some V=> .req (isKey (kU K) && kOk ik.k (kU K) && Nat.beq V.size iv.size) ((Vj T ik (kU K) k).bind λk=>(FE iv.agg x).bind λcs=>Vl (kU K) V ik iv k cs m)
    | _,_=> .fail
   | _=> .fail
 | .call c=>tcq o c
 | _=> .fail
end
section
variable {T:TypeId->Option TI} {TU:TypeId->Option U} {cq:Oper->Call->Q (List Upd)} {tcq:Oper->Call->TQ (List gQ)}
theorem Ds (i j:TI) (o:Oper) (src:TypeId) (x:TV):Sim US (BC T i j o src x) (match i.k,j.k with
  | .int _,.int k=>(Q.int x.av).bind λn=>one o.dst (.c (.d (.v (.int k (k.wrap n)))))
  | .str,.str=>match x.av with
   | .c (.d (.v (.string _)))=>one o.dst x.av
   | _=> .fail
  | .slice e,.str=>(tq T e).bind λie=>match ie.k with
   | .int .u8=>match x.av with
    | .c x=>(toD x).bind λy=>(zL y.1).bind λl=>one o.dst (.c (.d (.v (.string ⟨l.toArray⟩))))
    | _=> .fail
   | _=> .fail
  | .str,.slice e=>(tq T e).bind λie=>match ie.k with
   | .int .u8=>match x.av with
    | .c (.d (.v (.string str)))=> .req (str.size<=maxLen) (one o.dst (.c (.d (.sl (str.data.toList.map qe)))))
    | _=> .fail
   | _=> .fail
  | _,_=> .fail):=by
 unfold BC;cases i.k <;> cases j.k <;> try exact Sim.fail
 ·exact Sim.bind (so x) λn=>N6 o.dst _
 ·simp only;split
  ·exact N6 o.dst _
  ·exact Sim.fail
 ·refine Sim.bind (L9 T _) λie=>?_;show Sim US _ (match ie.k with
   | .int .u8=>match x.av with
    | .c (.d (.v (.string str)))=> .req (str.size<=maxLen) (one o.dst (.c (.d (.sl (str.data.toList.map qe)))))
    | _=> .fail
   | _=> .fail)
  split
  ·rename_i hk
   try rw [hk]
   split
   ·exact Sim.req (λh=>a23 h) λ_=>N6 o.dst (c1 (.sl .byte) _)
   ·exact Sim.fail
  ·exact Sim.fail
 ·refine Sim.bind (L9 T _) λie=>?_;show Sim US _ (match ie.k with
   | .int .u8=>match x.av with
    | .c x=>(toD x).bind λy=>(zL y.1).bind λl=>one o.dst (.c (.d (.v (.string ⟨l.toArray⟩))))
    | _=> .fail
   | _=> .fail)
  split
  ·rename_i hk
   try rw [hk]
   split
   ·rename_i c;refine Sim.bind (tR .byte c) λy=>?_;have e:y.x.map U.byte.enc=List.map qe y.x:=rfl;show Sim US _ ((zL (.sl (y.x.map U.byte.enc))).bind λl=>one o.dst (.c (.d (.v (.string ⟨l.toArray⟩)))));rw [e];show Sim US _ (.req (List.map qe y.x=((List.map qe y.x).map uE).map qe) (one o.dst (.c (.d (.v (.string ⟨((List.map qe y.x).map uE).toArray⟩))))));have e2:(List.map qe y.x).map uE=y.x:=JS y.x;rw [e2];exact Sim.must rfl (N6 o.dst _)
   ·exact Sim.fail
  ·exact Sim.fail
theorem QZ (hc:∀ o c,o.op= .call c->Sim US (tcq o c) (cq o c)) (o:Oper):Sim US (WH T TU tcq o) (opQ T cq o):=by
 unfold WH opQ;cases ho:o.op <;> try exact Sim.fail
 case move x=>exact Sim.bind (K5 x) λv=>N6 o.dst v
 case assign x=>exact Sim.bind (K5 x) λv=>N6 o.dst v
 case pick c a b=>exact Sim.bind (K5 c) λc=>Sim.bind (Dj c) λc=>Sim.bind (HE a) λa=>Sim.bind (HE b) λb=>Sim.bind (Mz c a b) λv=>N6 o.dst v
 case alloc t=>
  refine Sim.bind (L9 T t) λi=>Sim.bind (bZ o.dst) λd=>?_;cases hz:TL (TU t) i.zero with
  | none=>exact Sim.fail
  | some ps=>
   refine Sim.rdB λb=>Sim.ret ?_;have e:=FL hz;show [Upd.b d ⟨b.ver + 1,some (i.zero.map gS)⟩,_]=_;rw [<-e];rfl
 case box t x=>exact Sim.bind (bZ o.dst) λd=>Sim.bind (K5 x) λv=>Sim.bind (sq v) λcs=>Sim.rdB λb=>Sim.ret rfl
 case build t parts=>
  refine Sim.bind (L9 T t) λi=>Sim.bind (yb _) λps=>?_;simp only [id];cases i.k <;> try exact Sim.fail
  case struct fs=>
   simp only;cases hz:TL (TU t) i.zero with
   | none=>exact Sim.fail
   | some zs=>
    have e:=FL hz;rw [<-e];exact Sim.bind (vK _ ps zs) λcs=>N6 o.dst (.o (.agg cs))
  case arr n e=>
   refine Sim.bind (L9 T e) λie=>?_;cases hz:TL (TU t) i.zero with
   | none=>exact Sim.fail
   | some zs=>
    have e:=FL hz;rw [<-e];exact Sim.bind (vK _ ps zs) λcs=>N6 o.dst (.o (.agg cs))
 case buildSlice t len parts=>
  refine Sim.bind (L9 T t) λi=>Sim.bind (bZ o.dst) λd=>?_;simp only [id];cases i.k <;> try exact Sim.fail
  case slice e=>
   refine Sim.bind (L9 T e) λie=>?_;cases TU e with
   | none=>exact Sim.fail
   | some u=>
    refine Sim.req (λh=>?_) λh=>?_
    ·simp only [a24] at h;exact a23 h.1.1
    ·simp only [a24] at h;have e2:=a22 h.1.2;have e3:=xb h.2;refine Sim.bind (yb _) λps=>Sim.bind (HO u ps) λy=>Sim.bind (eN y.fz) λus=>?_;simp only [id];rw [<-e2,<-e3,Ad u,<-a4n];refine Sim.bind (Ae u y.x _) λes=>Sim.rdR λr=>Sim.ret ?_;simp only [US,a3g,a3h,a3K];rfl
 case load t a=>exact Sim.bind (L9 T t) λi=>Sim.bind (K5 a) λa=>Sim.bind (Dn i a) λv=>N6 o.dst v
 case store t a x=>
  cases o.dst with
  | some d=>exact Sim.fail
  | none=>exact Sim.bind (L9 T t) λi=>Sim.bind (K5 a) λa'=>Sim.bind (K5 x) λx=>Sim.bind (sq x) λcs=>Sim.bind (JY TU t i cs a') λus=>Fo i (qd a) a' us
 case nilCheck x=>
  refine Sim.bind (K5 x) λx=>?_;split
  ·refine Sim.rdB λb=>Sim.req (λh=>?_) λ_=>N6 o.dst (.o (.c _));rw [a24] at h;exact⟨a22 h.1,by rw [Bz];exact h.2⟩
  ·exact N6 o.dst (.o (.c (.ep _ _ _)))
  ·refine Sim.rdR λb=>Sim.req (λh=>?_) λ_=>N6 o.dst (.o (.c _));rw [a24] at h;exact⟨a22 h.1,by rw [MI];exact h.2⟩
  ·exact N6 o.dst _
  ·exact N6 o.dst (.o (.c (.clo _ _ _)))
  ·exact Sim.fail
 case binOp op t x y t'=>exact Sim.bind (L9 T t) λi=>Sim.bind (K5 x) λx=>Sim.bind (K5 y) λy=>Sim.bind (QO TU op t i x y) λv=>N6 o.dst v
 case unOp op t x=>exact Sim.bind (K5 x) λx=>Sim.bind (UZ op x) λv=>N6 o.dst v
 case convert src dst x=>exact Sim.bind (L9 T src) λi=>Sim.bind (L9 T dst) λj=>Sim.bind (K5 x) λx=>Ds i j o src x
 case slice t x lo hi m=>
  cases m with
  | some m=>exact Sim.fail
  | none=>
   refine Sim.bind (L9 T t) λi=>Sim.bind (K5 x) λx=>Sim.bind (Bv lo) λl=>Sim.bind (Bv hi) λh=>?_;simp only [id];cases i.k <;> try exact Sim.fail
   case slice e=>
    refine Sim.bind (L9 T e) λie=>?_;cases TU e with
    | none=>exact Sim.fail
    | some u=>
     refine Sim.chk λhu=>?_;have e2:=a22 hu;split
     ·refine Sim.bind (bZ o.dst) λd=>?_;simp only [id];cases i.cut && l.isNone with
      | true=>exact QS d ie.size u e2 h _
      | false=>exact Kb d ie.size u e2 l h _
     ·exact Sim.fail
   case str=>exact Sim.bind (FB l h x) λv=>N6 o.dst v
   case arr n e=>
    refine Sim.bind (L9 T e) λie=>?_;simp only [id];cases TU e with
    | none=>exact Sim.fail
    | some u=>exact Ft o.dst _ u n ie l h x
 case fieldAddr t x f=>
  refine Sim.bind (L9 T t) λi=>?_;simp only [id];cases i.k <;> try exact Sim.fail
  case struct fs=>exact Sim.bind (bZ _) λp=>Sim.bind (K5 x) λx=>Sim.bind (JZ p.1 x) λv=>N6 o.dst v
 case indexAddr t x k=>
  refine Sim.bind (L9 T t) λi=>Sim.bind (K5 x) λx=>Sim.bind (K5 k) λk=>Sim.bind (so k) λk=>?_;simp only [id];cases i.k <;> try exact Sim.fail
  case slice e=>exact Sim.bind (L9 T e) λie=>Sim.bind (Ka ie.size k x) λv=>N6 o.dst v
  case arr n e=>exact Sim.bind (L9 T e) λie=>Sim.bind (Fi _ ie.size k x) λv=>N6 o.dst v
 case index t x k=>
  refine Sim.bind (L9 T t) λi=>Sim.bind (K5 x) λx=>Sim.bind (K5 k) λk=>Sim.bind (so k) λk=>?_;simp only [id];cases i.k <;> try exact Sim.fail
  case str=>exact Sim.bind (Fx k x) λv=>N6 o.dst v
  case arr n e=>
   refine Sim.bind (L9 T e) λie=>?_;simp only [id];cases TU e with
   | none=>exact Sim.fail
   | some u=>exact Sim.bind (Fk u n ie k x) λv=>N6 o.dst v
 case field t x f=>
  refine Sim.bind (L9 T t) λi=>?_;simp only [id];cases i.k <;> try exact Sim.fail
  case struct fs=>exact Sim.bind (bZ _) λp=>Sim.bind (bZ _) λft=>Sim.bind (L9 T ft) λie=>Sim.bind (K5 x) λx=>Sim.bind (Fm p.1 ie x) λv=>N6 o.dst v
 case extract x k=>exact Sim.bind (K5 x) λx=>Sim.bind (MV k x) λv=>N6 o.dst v
 case range t x=>exact Sim.bind (L9 T t) λi=>Sim.bind (bZ o.dst) λd=>Sim.bind (K5 x) λx=>Kg i.k d x
 case next x b=>
  cases b with
  | true=>exact Sim.bind (bZ o.dst) λd=>Sim.bind (K5 x) λx=>MU d x
  | false=>exact Sim.fail
 case makeInterface t x=>
  refine Sim.bind (L9 T t) λi=>Sim.bind (bZ o.dst) λd=>Sim.bind (K5 x) λx=>?_;split
  ·rename_i c;cases TU t with
   | none=>exact Sim.fail
   | some u=>exact Sim.req (λh=>h) λ_=>QY t u d c
  ·exact Sim.fail
 case typeAssert x xt t b=>
  cases b with
  | true=>exact Sim.bind (L9 T t) λi=>Sim.bind (K5 x) λx=>Sim.bind (FK i t x) λv=>N6 o.dst v
  | false=>exact Sim.fail
 case makeSlice t l c=>
  refine Sim.bind (L9 T t) λi=>Sim.bind (bZ o.dst) λd=>Sim.bind (K5 l) λl=>Sim.bind (so l) λl=>Sim.bind (K5 c) λc=>Sim.bind (so c) λc=>?_;simp only [id];cases i.k <;> try exact Sim.fail
  case slice e=>
   refine Sim.bind (L9 T e) λie=>?_;cases TU e with
   | none=>exact Sim.fail
   | some u=>
    refine Sim.chk λh=>Sim.req (λh0=>?_) λ_=>?_
    ·simp only [a24] at h;have h1:=a23 h.1.1;have h2:=a23 h0;exact⟨h1.1,h2.1,h2.2.1,h2.2.2.1,h2.2.2.2,h1.2⟩
    ·simp only [a24] at h;have e2:=a22 h.1.2;have e3:=xb h.2;refine Sim.rdR λr=>Sim.ret ?_;simp only [id];rw [<-e2,<-e3,Ad u,<-a4n];rfl
 case makeMap t r=>
  refine Sim.bind (L9 T t) λi=>Sim.bind (bZ o.dst) λd=>Sim.bind (Bv r) λ_=>?_;simp only [id];cases i.k <;> try exact Sim.fail
  case map kt vt=>
   refine Sim.bind (L9 T kt) λik=>Sim.bind (L9 T vt) λiv=>?_;cases TU kt with
   | none=>exact Sim.fail
   | some K=>
    cases TU vt with
    | none=>exact Sim.fail
    | some V=>
     refine Sim.chk λh=>?_;rw [a24] at h;refine Sim.rdR λr=>Sim.ret ?_;simp only [id];rw [<-a22 h.2,<-MP h.1];rfl
 case mapUpdate t m k x=>
  cases o.dst with
  | some d=>exact Sim.fail
  | none=>
   refine Sim.bind (L9 T t) λi=>Sim.bind (K5 m) λm=>Sim.bind (K5 k) λk=>Sim.bind (K5 x) λx=>?_;simp only [id];cases i.k <;> try exact Sim.fail
   case map kt vt=>
    refine Sim.bind (L9 T kt) λik=>Sim.bind (L9 T vt) λiv=>?_;cases TU kt with
    | none=>exact Sim.fail
    | some K=>
     cases TU vt with
     | none=>exact Sim.fail
     | some V=>
      refine Sim.chk λh=>?_;simp only [a24] at h;exact Sim.bind (QW h.1.1 k) λk=>Sim.bind (FF iv.agg x) λcs=>MQ h.1.1 h.1.2 (a22 h.2) k cs m
 case call c=>exact hc o c ho
end
end Go.Proofs.YtjbgdpjgfjnkbaaGreatDoor.Am
