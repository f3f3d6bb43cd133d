/- Texts laid together: TmDefs, TmQ, TmOps, TmOps2, TmEq, TmOps3, TmMaps, TmEnt, TmStr, TmOps4, TmOps5. No conditions. -/
import Derived.Test.YthadhfbkhldblaaKB
namespace Go.Proofs.Ythadhfbkhldblaa.Am
open Go
inductive U where
 | int (k:IntKind)
 | byte
 | bool
 | str
 | sl (u:U)
 | pr (a b:U)
 | arr (n:Nat) (u:U)
 deriving DecidableEq
def U.den:U->Type
 | .int _=>Int
 | .byte=>UInt8
 | .bool=>Bool
 | .str=>List UInt8
 | .sl u=>List u.den
 | .pr a b=>a.den × b.den
 | .arr n u=>Vector u.den n
def U.size:U->Nat
 | .pr a b=>a.size + b.size
 | .arr n u=>n * u.size
 | _=>1
def U.dflt:(u:U)->u.den
 | .int _=>(0:Int)
 | .byte=>(0:UInt8)
 | .bool=>false
 | .str=>([]:List UInt8)
 | .sl _=>[]
 | .pr a b=>(a.dflt,b.dflt)
 | .arr n u=>Vector.replicate n u.dflt
def U.enc:(u:U)->u.den->List DV
 | .int k,n=>[.v (.int k n)]
 | .byte,x=>[.v (.int .u8 (UInt8.toNat x:Nat))]
 | .bool,b=>[.v (.bool b)]
 | .str,l=>[.v (.string ⟨List.toArray l⟩)]
 | .sl u,l=>[.sl (List.map u.enc l)]
 | .pr a b,x=>a.enc x.1 ++ b.enc x.2
 | .arr _ u,v=>(Vector.toList v).flatMap u.enc
theorem a1z {α β:Type} (f:α->List β) (z:Nat):∀ (l:List α),(∀ x ∈ l,(f x).length=z)->(l.flatMap f).length=l.length * z
 | [],_=>by simp
 | x :: l,h=>by
  rw [List.flatMap_cons,List.length_append,h x (by simp),a1z f z l (fun y hy=>h y (by simp [hy])),List.length_cons,Nat.succ_mul,Nat.add_comm]
theorem U.enc_len:(u:U)->(x:u.den)->(u.enc x).length=u.size
 | .int _,_=>rfl
 | .byte,_=>rfl
 | .bool,_=>rfl
 | .str,_=>rfl
 | .sl _,_=>rfl
 | .pr a b,x=>by rw [U.enc,List.length_append,a.enc_len,b.enc_len];rfl
 | .arr n u,v=>by
  have h:=a1z u.enc u.size (Vector.toList v) (fun x _=>u.enc_len x)
  exact h.trans (congrArg (· * u.size) (Vector.length_toList (xs:=v)))
def a5p (ds:List DV):DV:=ds.headD (.v undef)
theorem a8o {ds:List DV} (h:ds.length=1):[a5p ds]=ds:=by
 match ds,h with
 | [x],_=>rfl
inductive TC where
 | ch (u:U) (x:u.den)
 | nil
 | npt
 | nmap
 | fn (f:FuncId)
 | it (t:TypeId) (u:U) (x:u.den)
 | clo (f:FuncId) (u:U) (x:u.den)
 | row (id ver:Nat)
 | ptr (id ver off:Nat)
 | pa (id ver off:Nat) (z:Nat) (k:Nat)
 | ep (u:U) (x:u.den) (off:Nat)
 | ex (u:U) (x:u.den) (off z k:Nat)
 | rp (id ver:Nat) (i off sz:Nat)
 | junk
def TC.cells:TC->List AC
 | .ch u x=>(u.enc x).map .d
 | .nil=>[.nil]
 | .npt=>[.d (.v (.pointer none))]
 | .nmap=>[.d (.v (.map none))]
 | .fn f=>[.d (.v (.func (.func f) #[] #[]))]
 | .it t u x=>[.d (.it t (a5p (u.enc x)))]
 | .clo f u x=>[.d (.clo f (u.enc x))]
 | .row id ver=>[.row id ver]
 | .ptr id ver off=>[.ptr id ver off]
 | .pa id ver off z k=>[.ptr id ver (off + k * z)]
 | .ep u x off=>[.eptr ((u.enc x).drop off)]
 | .ex u x off z k=>[.eptr ((u.enc x).drop (off + k * z))]
 | .rp id ver i off sz=>[.rptr id ver i off sz]
 | .junk=>[.junk]
def TC.size:TC->Nat
 | .ch u _=>u.size
 | _=>1
theorem TC.cells_len (c:TC):c.cells.length=c.size:=by
 cases c <;> simp only [TC.cells,TC.size,List.length_map,List.length_cons,List.length_nil]
 exact U.enc_len _ _
def o7:List TC->List AC
 | []=>[]
 | c :: cs=>c.cells ++ o7 cs
theorem P1:∀ (a b:List TC),o7 (a ++ b)=o7 a ++ o7 b
 | [],b=>rfl
 | c :: a,b=>by rw [List.cons_append,o7,P1 a b,o7,List.append_assoc]
def R9:List AC->AC
 | [x]=>x
 | _=> .junk
inductive T1 where
 | c (x:TC)
 | agg (xs:List TC)
def Z1:(K:U)->K.den->Value
 | .int k,n=> .int k n
 | .str,l=> .string ⟨List.toArray l⟩
 | _,_=>undef
inductive TV where
 | o (x:T1)
 | ent (tup:Bool) (id pv:Nat) (K:U) (k:K.den)
 | tup (xs:List T1)
 | clo (f id ver:Nat)
 | nx (b:Bool) (x y:TC)
 | any
def T1.av:T1->AV
 | .c x=> .c (R9 x.cells)
 | .agg xs=> .agg (o7 xs)
def TV.av:TV->AV
 | .o x=>x.av
 | .tup xs=> .tup (xs.map T1.av)
 | .clo f id ver=> .clo f id ver
 | .ent b id pv K k=> .ent b id pv (Z1 K k)
 | .nx b x y=> .nx b (R9 x.cells) (R9 y.cells)
 | .any=> .any
structure TGV where
 g:Bool
 x:TV
def TGV.gv (x:TGV):GV:=⟨x.g,x.x.av⟩
structure a2P where
 u:U
 l:List u.den
 e:TypeId
 fr:Bool
def a2P.row (r:a2P):Row:=⟨r.l.map r.u.enc,r.u.size,r.e,r.fr⟩
structure TBS where
 ver:Nat
 c:Option (List TC)
structure TRS where
 ver:Nat
 c:Option a2P
def TBS.bs (x:TBS):BS:=⟨x.ver,x.c.map o7⟩
def TRS.rs (x:TRS):RS:=⟨x.ver,x.c.map a2P.row⟩
structure TSt where
 n:Nat
 t:Nat->TGV
 b:Nat->TBS
 r:Nat->TRS
def TSt.st (s:TSt):St:=⟨s.n,fun k=>(s.t k).gv,fun k=>(s.b k).bs,fun k=>(s.r k).rs⟩
inductive P2 where
 | t (k:Nat) (x:TGV)
 | b (k:Nat) (x:TBS)
 | r (k:Nat) (x:TRS)
def P2.upd:P2->Upd
 | .t k x=> .t k x.gv
 | .b k x=> .b k x.bs
 | .r k x=> .r k x.rs
def TSt.app1 (s:TSt):P2->TSt
 | .t k x=>⟨s.n,Am.upd s.t k x,s.b,s.r⟩
 | .b k x=>⟨s.n,s.t,Am.upd s.b k x,s.r⟩
 | .r k x=>⟨s.n,s.t,s.b,Am.upd s.r k x⟩
def TSt.app (s:TSt):List P2->TSt
 | []=>s
 | u :: us=>(s.app1 u).app us
theorem a7a {α β:Type} (f:α->β) (g:Nat->α) (k:Nat) (x:α):(fun j=>f (Am.upd g k x j))=Am.upd (fun j=>f (g j)) k (f x):=by
 funext j
 simp only [Am.upd]
 split <;> rfl
theorem TSt.st_app1 (s:TSt) (u:P2):(s.app1 u).st=s.st.app1 u.upd:=by
 cases u <;> simp only [TSt.app1,TSt.st,P2.upd,St.app1,St.setT,St.setB,St.setR]
 ·rw [a7a TGV.gv]
 ·rw [a7a TBS.bs]
 ·rw [a7a TRS.rs]
theorem TSt.st_app:∀ (us:List P2) (s:TSt),(s.app us).st=s.st.app (us.map P2.upd)
 | [],s=>rfl
 | u :: us,s=>by rw [TSt.app,TSt.st_app us,TSt.st_app1];rfl
inductive TQ (α:Type):Type 1 where
 | ret (a:α)
 | rdT (k:Nat) (f:TGV->TQ α)
 | rdB (k:Nat) (f:TBS->TQ α)
 | rdR (k:Nat) (f:TRS->TQ α)
 | req (b:Bool) (q:TQ α)
 | call {β:Type} (o:Option β) (f:β->TQ α)
 | fail
def TQ.bind {α β:Type}:TQ α->(α->TQ β)->TQ β
 | .ret a,f=>f a
 | .rdT k g,f=> .rdT k fun x=>(g x).bind f
 | .rdB k g,f=> .rdB k fun x=>(g x).bind f
 | .rdR k g,f=> .rdR k fun x=>(g x).bind f
 | .req p q,f=> .req p (q.bind f)
 | .call o g,f=> .call o fun x=>(g x).bind f
 | .fail,_=> .fail
def TQ.wpt {α:Type}:TQ α->TSt->List G8->(α->List G8->Prop)->Prop
 | .ret a,_,tr,K=>K a tr
 | .rdT k f,s,tr,K=>(f (s.t k)).wpt s (.t k :: tr) K
 | .rdB k f,s,tr,K=>(f (s.b k)).wpt s (.b k :: tr) K
 | .rdR k f,s,tr,K=>(f (s.r k)).wpt s (.r k :: tr) K
 | .req b q,s,tr,K=>b=true/\q.wpt s tr K
 | .call o f,s,tr,K=>∃ x,o=some x/\(f x).wpt s tr K
 | .fail,_,_,_=>False
theorem TQ.wpt_bind {α β:Type} (q:TQ α) (f:α->TQ β) (s:TSt) (tr:List G8) (K:β->List G8->Prop):(q.bind f).wpt s tr K ↔ q.wpt s tr fun a rs=>(f a).wpt s rs K:=by
 induction q generalizing tr with
 | ret a=>rfl
 | rdT k g ih=>exact ih _ _
 | rdB k g ih=>exact ih _ _
 | rdR k g ih=>exact ih _ _
 | req p q ih=>exact and_congr Iff.rfl (ih _)
 | call o g ih=>exact exists_congr fun x=>and_congr Iff.rfl (ih x _)
 | fail=>rfl
theorem Q.wpt_bind {α β:Type} (q:Q α) (f:α->Q β) (s:St) (tr:List G8) (K:β->List G8->Prop):(q.bind f).wpt s tr K ↔ q.wpt s tr fun a rs=>(f a).wpt s rs K:=by
 induction q generalizing tr with
 | ret a=>rfl
 | rdT k g ih=>exact ih _ _
 | rdB k g ih=>exact ih _ _
 | rdR k g ih=>exact ih _ _
 | req p q ih=>exact and_congr Iff.rfl (ih _)
 | fail=>rfl
theorem Q.wpt_mono {α:Type} {q:Q α} {s:St} {K K':α->List G8->Prop}:∀ {tr:List G8},q.wpt s tr K->(∀ a rs,K a rs->K' a rs)->q.wpt s tr K':=by
 induction q with
 | ret a=>exact fun h hk=>hk _ _ h
 | rdT k g ih=>exact fun h hk=>ih _ h hk
 | rdB k g ih=>exact fun h hk=>ih _ h hk
 | rdR k g ih=>exact fun h hk=>ih _ h hk
 | req p q ih=>exact fun h hk=>⟨h.1,ih h.2 hk⟩
 | fail=>exact fun h hk=>h.elim
theorem Q.wp_of_wpt {α:Type} {q:Q α} {s:St} {K:α->Prop}:∀ {tr:List G8},(q.wpt s tr fun a _=>K a)->q.wp s K:=by
 induction q with
 | ret a=>exact fun h=>h
 | rdT k g ih=>exact fun h=>ih _ h
 | rdB k g ih=>exact fun h=>ih _ h
 | rdR k g ih=>exact fun h=>ih _ h
 | req p q ih=>exact fun h=>⟨h.1,ih h.2⟩
 | fail=>exact fun h=>h
def Sim {α β:Type} (f:α->β) (q':TQ α) (q:Q β):Prop:=∀ (s:TSt) (tr:List G8) (K:α->List G8->Prop),q'.wpt s tr K->q.wpt s.st tr fun b rs=>∃ a,b=f a/\K a rs
section
variable {α β γ δ:Type} {f:α->β} {g:γ->δ}
theorem Sim.ret {a:α} {b:β} (h:b=f a):Sim f (.ret a) (.ret b):=fun _ _ _ hk=>⟨a,h,hk⟩
theorem Sim.rdT {k:Nat} {q':TGV->TQ α} {q:GV->Q β} (h:∀ x,Sim f (q' x) (q x.gv)):Sim f (.rdT k q') (.rdT k q):=fun s _ _ hk=>h (s.t k) s _ _ hk
theorem Sim.rdB {k:Nat} {q':TBS->TQ α} {q:BS->Q β} (h:∀ x,Sim f (q' x) (q x.bs)):Sim f (.rdB k q') (.rdB k q):=fun s _ _ hk=>h (s.b k) s _ _ hk
theorem Sim.rdR {k:Nat} {q':TRS->TQ α} {q:RS->Q β} (h:∀ x,Sim f (q' x) (q x.rs)):Sim f (.rdR k q') (.rdR k q):=fun s _ _ hk=>h (s.r k) s _ _ hk
theorem Sim.req {b:Bool} {p:Prop} {q':TQ α} {q:Q β} (hp:b=true->p) (h:b=true->Sim f q' q):Sim f (.req b q') (.req p q):=fun s tr K hk=>⟨hp hk.1,h hk.1 s tr K hk.2⟩
theorem Sim.chk {b:Bool} {q':TQ α} {q:Q β} (h:b=true->Sim f q' q):Sim f (.req b q') q:=fun s tr K hk=>h hk.1 s tr K hk.2
theorem Sim.must {p:Prop} {q':TQ α} {q:Q β} (hp:p) (h:Sim f q' q):Sim f q' (.req p q):=fun s tr K hk=>⟨hp,h s tr K hk⟩
theorem Sim.fail {q:Q β}:Sim f .fail q:=fun _ _ _ hk=>hk.elim
theorem Sim.bind {q':TQ α} {q:Q β} {k':α->TQ γ} {k:β->Q δ} (h:Sim f q' q) (hk:∀ a,Sim g (k' a) (k (f a))):Sim g (q'.bind k') (q.bind k):=fun s tr K hK=>by
 rw [TQ.wpt_bind] at hK
 rw [Q.wpt_bind]
 refine Q.wpt_mono (h s tr _ hK) ?_
 rintro b rs ⟨a,rfl,h1⟩
 exact hk a s rs K h1
end
def chk {α:Type} (b:Bool) (k:Option α):Option α:=match b with
 | true=>k
 | false=>none
def TQ.run {α R:Type}:TQ α->TSt->List G8->(α->List G8->Option R)->Option R
 | .ret a,_,tr,K=>K a tr
 | .rdT k f,s,tr,K=>(f (s.t k)).run s (.t k :: tr) K
 | .rdB k f,s,tr,K=>(f (s.b k)).run s (.b k :: tr) K
 | .rdR k f,s,tr,K=>(f (s.r k)).run s (.r k :: tr) K
 | .req b q,s,tr,K=>Am.chk b (q.run s tr K)
 | .call o f,s,tr,K=>o.bind fun x=>(f x).run s tr K
 | .fail,_,_,_=>none
theorem P3 {α:Type} {b:Bool} {k:Option α} {r:α} (h:chk b k=some r):b=true/\k=some r:=by
 cases b
 ·cases h
 ·exact⟨rfl,h⟩
theorem TQ.run_wpt {α R:Type} {r:R} {s:TSt} {K:α->List G8->Option R} {q:TQ α}:∀ {tr:List G8},q.run s tr K=some r->q.wpt s tr fun a rs=>K a rs=some r:=by
 induction q with
 | ret a=>exact fun h=>h
 | rdT k f ih=>exact fun h=>ih _ h
 | rdB k f ih=>exact fun h=>ih _ h
 | rdR k f ih=>exact fun h=>ih _ h
 | req b q ih=>exact fun h=>⟨(P3 h).1,ih (P3 h).2⟩
 | call o f ih=>
  intro tr h
  simp only [TQ.run,Option.bind_eq_some_iff] at h
  obtain⟨x,h1,h2⟩:=h
  exact⟨x,h1,ih x h2⟩
 | fail=>intro tr h;cases h
end Go.Proofs.Ythadhfbkhldblaa.Am
namespace Go.Proofs.Ythadhfbkhldblaa.Am
open Go
def a0q {u v:U} (h:u=v) (x:u.den):v.den:=h ▸ x
theorem a02 {u v:U} (h:u=v) (x:u.den):v.enc (a0q h x)=u.enc x:=by subst h;rfl
def b2o {α:Type} {n:Nat} (v:Vector α n) (i:Nat) (d:α):α:=v.toList.getD i d
theorem b0R {α:Type} {n:Nat} (v:Vector α n) (d:α):(List.range n).map (fun i=>b2o v i d)=v.toList:=by
 refine List.ext_getElem (by simp) fun i h1 h2=>?_
 have:i < n:=by simpa using h1
 simp [this,b2o]
def b69 {n:Nat} {u:U} (v:Vector u.den n) (i:Nat):TC:= .ch u (b2o v i u.dflt)
def a0T:(u:U)->u.den->List TC
 | .pr a b,x=> .ch a x.1 :: a0T b x.2
 | .arr n _,v=>(List.range n).map fun i=>b69 v i
 | .int k,x=>[.ch (.int k) x]
 | .byte,x=>[.ch .byte x]
 | .bool,x=>[.ch .bool x]
 | .str,x=>[.ch .str x]
 | .sl u,x=>[.ch (.sl u) x]
theorem a10 (u:U):∀ (l:List u.den),o7 (l.map (TC.ch u))=(l.flatMap u.enc).map .d
 | []=>rfl
 | x :: l=>by rw [List.map_cons,o7,a10 u l,List.flatMap_cons,List.map_append];rfl
theorem V9:∀ (u:U) (x:u.den),o7 (a0T u x)=(u.enc x).map .d
 | .pr a b,x=>by
  show TC.cells (.ch a x.1) ++ o7 (a0T b x.2)=((a.enc x.1) ++ b.enc x.2).map .d
  rw [V9 b,List.map_append];rfl
 | .arr n u,v=>by
  have h:(List.range n).map (fun i=>b69 (u:=u) v i)=(Vector.toList v).map (TC.ch u):=by
   have:=congrArg (List.map (TC.ch u)) (b0R (n:=n) (α:=u.den) v u.dflt)
   rw [List.map_map] at this
   exact this
  show o7 ((List.range n).map (fun i=>b69 (u:=u) v i))=_
  rw [h,a10];rfl
 | .int _,_=>by simp only [a0T,o7,TC.cells,List.append_nil]
 | .byte,_=>by simp only [a0T,o7,TC.cells,List.append_nil]
 | .bool,_=>by simp only [a0T,o7,TC.cells,List.append_nil]
 | .str,_=>by simp only [a0T,o7,TC.cells,List.append_nil]
 | .sl _,_=>by simp only [a0T,o7,TC.cells,List.append_nil]
def big:U->Bool
 | .pr _ _=>true
 | .arr _ _=>true
 | _=>false
def a7b:Nat->Nat->List TC->Option (List TC)
 | 0,_,_=>none
 | f + 1,k,ps=>match k,ps with
  | 0,ps=>some ps
  | _ + 1,[]=>none
  | k + 1,p :: ps=>match Nat.ble p.size (k + 1) with
   | true=>a7b f (k + 1 - p.size) ps
   | false=>match p with
    | .ch u x=>match big u with
     | true=>a7b f (k + 1) (a0T u x ++ ps)
     | false=>none
    | _=>none
def a7c:Nat->Nat->List TC->Option (List TC)
 | 0,_,_=>none
 | f + 1,k,ps=>match k,ps with
  | 0,_=>some []
  | _ + 1,[]=>none
  | k + 1,p :: ps=>match Nat.ble p.size (k + 1) with
   | true=>(a7c f (k + 1 - p.size) ps).map (p :: ·)
   | false=>match p with
    | .ch u x=>match big u with
     | true=>a7c f (k + 1) (a0T u x ++ ps)
     | false=>none
    | _=>none
theorem a11:∀ {f k:Nat} {ps qs:List TC},a7b f k ps=some qs->o7 qs=(o7 ps).drop k/\k<=(o7 ps).length
 | 0,_,_,_,h=>by cases h
 | f + 1,k,ps,qs,h=>by
  unfold a7b at h
  split at h
  ·injection h with h;subst h;simp
  ·cases h
  ·rename_i k p ps
   split at h
   ·rename_i hb
    have hb':=Nat.le_of_ble_eq_true hb
    obtain⟨h1,h2⟩:=a11 h
    have hp:=TC.cells_len p
    rw [o7,h1,List.drop_append,List.drop_eq_nil_of_le (as:=p.cells) (by rw [hp];exact hb'),hp]
    refine⟨rfl,?_⟩
    rw [List.length_append,hp];omega
   ·split at h
    ·rename_i u x _
     split at h
     ·obtain⟨h1,h2⟩:=a11 h
      rw [P1,V9] at h1 h2
      exact⟨h1,h2⟩
     ·cases h
    ·cases h
theorem a12:∀ {f k:Nat} {ps qs:List TC},a7c f k ps=some qs->o7 qs=(o7 ps).take k/\(o7 qs).length=k
 | 0,_,_,_,h=>by cases h
 | f + 1,k,ps,qs,h=>by
  unfold a7c at h
  split at h
  ·injection h with h;subst h;simp [o7]
  ·cases h
  ·rename_i k p ps
   split at h
   ·rename_i hb
    have hb':=Nat.le_of_ble_eq_true hb
    rw [Option.map_eq_some_iff] at h
    obtain⟨q,h0,rfl⟩:=h
    obtain⟨h1,h2⟩:=a12 h0
    have hp:=TC.cells_len p
    rw [o7,o7,h1,List.take_append,List.take_of_length_le (l:=p.cells) (by rw [hp];exact hb'),hp]
    refine⟨rfl,?_⟩
    rw [<-h1,List.length_append,hp,h2];omega
   ·split at h
    ·rename_i u x _
     split at h
     ·obtain⟨h1,h2⟩:=a12 h
      rw [P1,V9] at h1
      exact⟨h1,h2⟩
     ·cases h
    ·cases h
def FU:Nat:=1000
def b32 (k n:Nat) (ps:List TC):Option (List TC):=(a7b FU k ps).bind fun qs=>a7c FU n qs
theorem b0S {k n:Nat} {ps qs:List TC} (h:b32 k n ps=some qs):o7 qs=((o7 ps).drop k).take n/\k + n<=(o7 ps).length:=by
 unfold b32 at h
 rw [Option.bind_eq_some_iff] at h
 obtain⟨q,h1,h2⟩:=h
 obtain⟨a1,a2⟩:=a11 h1
 obtain⟨b1,b2⟩:=a12 h2
 rw [a1] at b1
 refine⟨b1,?_⟩
 rw [b1,List.length_take,List.length_drop] at b2
 omega
def b0T:List TC->Nat
 | []=>0
 | p :: ps=>p.size + b0T ps
theorem a13:∀ (ps:List TC),(o7 ps).length=b0T ps
 | []=>rfl
 | p :: ps=>by rw [o7,List.length_append,TC.cells_len,a13 ps];rfl
def b5x (ps:List TC) (k:Nat) (xs:List TC):Option (List TC):=(a7c FU k ps).bind fun a=>(a7b FU (k + b0T xs) ps).map fun b=>a ++ xs ++ b
theorem b0U {ps qs xs:List TC} {k:Nat} (h:b5x ps k xs=some qs):o7 qs=setAt (o7 ps) k (o7 xs)/\k + (o7 xs).length<=(o7 ps).length:=by
 unfold b5x at h
 simp only [Option.bind_eq_some_iff,Option.map_eq_some_iff] at h
 obtain⟨a,h1,b,h2,rfl⟩:=h
 obtain⟨a1,a2⟩:=a12 h1
 obtain⟨b1,b2⟩:=a11 h2
 rw [P1,P1,a1,b1,a13]
 refine⟨?_,b2⟩
 unfold setAt
 rw [a13]
structure Pk (α:Type) where
 x:α
 rest:List TC
 fz:List Nat
def TQ.ofOpt {α:Type}:Option α->TQ α
 | some a=> .ret a
 | none=> .fail
def b2Z {α:Type} (p:List TC->TQ (Pk α)):(n:Nat)->List TC->TQ (Pk (Vector α n))
 | 0,ps=> .ret ⟨#v[],ps,[]⟩
 | n + 1,ps=>(b2Z p n ps).bind fun a=>(p a.rest).bind fun b=> .ret ⟨a.x.push b.x,b.rest,a.fz ++ b.fz⟩
def b4G (n:Int) (rest:List TC):TQ (Pk UInt8):= .req (decide (0<=n/\n < 256)) (.ret ⟨UInt8.ofNat n.toNat,rest,[]⟩)
def b4H:(u:U)->u.den->List TC->TQ (Pk UInt8)
 | .byte,x,rest=> .ret ⟨x,rest,[]⟩
 | .int k,n,rest=>match decEq k IntKind.u8 with
  | .isTrue _=>b4G n rest
  | .isFalse _=> .fail
 | _,_,_=> .fail
def a3B:List TC->Option (Sigma U.den × List TC)
 | .ch u x :: rest=>match big u with
  | true=>some (⟨u,x⟩,rest)
  | false=>none
 | _=>none
theorem a2o {ps rest:List TC} {c:Sigma U.den} (h:a3B ps=some (c,rest)):ps= .ch c.1 c.2 :: rest:=by
 unfold a3B at h
 split at h
 ·split at h
  ·injection h with h;injection h with h1 h2;subst h1;subst h2;rfl
  ·cases h
 ·cases h
def a8p (u:U) (ps:List TC) (q:TQ (Pk u.den)):TQ (Pk u.den):=match a3B ps with
 | some c=>match decEq c.1.1 u with
  | .isTrue h=> .ret ⟨a0q h c.1.2,c.2,[]⟩
  | .isFalse _=>q
 | none=>q
def b2p:(u:U)->List TC->TQ (Pk u.den)
 | .int k,ps=>match ps with
  | .ch (.int k') n :: rest=>match decEq k' k with
   | .isTrue _=> .ret ⟨n,rest,[]⟩
   | .isFalse _=> .fail
  | .ch .byte x :: rest=>match decEq IntKind.u8 k with
   | .isTrue _=> .ret ⟨((UInt8.toNat x:Nat):Int),rest,[]⟩
   | .isFalse _=> .fail
  | _=> .fail
 | .byte,ps=>match ps with
  | .ch u x :: rest=>b4H u x rest
  | _=> .fail
 | .bool,ps=>match ps with
  | .ch .bool x :: rest=> .ret ⟨x,rest,[]⟩
  | _=> .fail
 | .str,ps=>match ps with
  | .ch .str x :: rest=> .ret ⟨x,rest,[]⟩
  | _=> .fail
 | .sl u,ps=>match ps with
  | .ch (.sl v) x :: rest=>match decEq v u with
   | .isTrue h=> .ret ⟨(h ▸ x:List u.den),rest,[]⟩
   | .isFalse _=> .fail
  | .nil :: rest=> .ret ⟨([]:List u.den),rest,[]⟩
  | .row id ver :: rest=> .rdR id fun r=>match r.c with
   | some R=>match decEq R.u u with
    | .isTrue h=> .req (decide (ver=r.ver/\R.e < Q5)) (.ret ⟨(h ▸ R.l:List u.den),rest,[id]⟩)
    | .isFalse _=> .fail
   | none=> .fail
  | _=> .fail
 | .pr a b,ps=>a8p (.pr a b) ps <| (b2p a ps).bind fun p=>(b2p b p.rest).bind fun q=> .ret ⟨(p.x,q.x),q.rest,p.fz ++ q.fz⟩
 | .arr n u,ps=>a8p (.arr n u) ps (b2Z (b2p u) n ps)
theorem a5q {s:St} {K:List DV × List Nat->List G8->Prop}:∀ (a b:List AC) {tr:List G8},((a1m a).wpt s tr fun d rs=>(a1m b).wpt s rs fun e rs'=>K (d.1 ++ e.1,d.2 ++ e.2) rs')->(a1m (a ++ b)).wpt s tr K
 | [],b,tr,h=>by
  simpa only [a1m,Q.wpt,List.nil_append] using h
 | x :: a,b,tr,h=>by
  simp only [List.cons_append,a1m,Q.wpt_bind,Q.wpt] at h ⊢
  refine Q.wpt_mono h fun d rs h1=>?_
  refine a5q a b (Q.wpt_mono h1 fun e rs' h2=>?_)
  refine Q.wpt_mono h2 fun g rs'' h3=>?_
  simpa only [List.cons_append,List.append_assoc] using h3
theorem a7d (s:St) {tr:List G8} {K:List DV × List Nat->List G8->Prop}:∀ {ds:List DV},K (ds,[]) tr->(a1m (ds.map .d)).wpt s tr K
 | [],h=>h
 | d :: ds,h=>by
  simp only [List.map_cons,a1m,Q.wpt_bind,Q.wpt,toD]
  exact a7d s (ds:=ds) (K:=fun e rs=>K (d :: e.1,[] ++ e.2) rs) h
def a97 {α:Type} (f:α->List DV) (p:List TC->TQ (Pk α)):Prop:=∀ (ps:List TC) (s:TSt) (tr:List G8) (K:Pk α->List G8->Prop),(p ps).wpt s tr K->
 ∃ pre k rs,o7 ps=pre ++ o7 k.rest/\K k rs/\(a1m pre).wpt s.st tr fun d rs'=>d=(f k.x,k.fz)/\rs'=rs
theorem a8q {α:Type} {f:α->List DV} {p:List TC->TQ (Pk α)} (hp:a97 f p):∀ (n:Nat),a97 (fun v:Vector α n=>v.toList.flatMap f) (b2Z p n)
 | 0,ps,s,tr,K,h=>⟨[],_,tr,rfl,h,rfl,rfl⟩
 | n + 1,ps,s,tr,K,h=>by
  simp only [b2Z,TQ.wpt_bind] at h
  obtain⟨pre1,k1,rs1,e1,h,d1⟩:=a8q hp n ps s tr _ h
  obtain⟨pre2,k2,rs2,e2,h,d2⟩:=hp _ s rs1 _ h
  refine⟨pre1 ++ pre2,_,rs2,?_,h,a5q _ _ (Q.wpt_mono d1 ?_)⟩
  ·rw [e1,e2,List.append_assoc]
  ·rintro d rs ⟨rfl,rfl⟩
   refine Q.wpt_mono d2 ?_
   rintro d rs ⟨rfl,rfl⟩
   simp [Vector.toList_push]
theorem a97.ch {u:U} {x:u.den} {α:Type} {f:α->List DV} {y:α} {ps rest:List TC} {s:TSt} {tr:List G8} {K:Pk α->List G8->Prop} (hps:ps= .ch u x :: rest) (h:K ⟨y,rest,[]⟩ tr) (e:f y=u.enc x) :
  ∃ pre k rs,o7 ps=pre ++ o7 k.rest/\K k rs/\(a1m pre).wpt s.st tr fun d rs'=>d=(f k.x,k.fz)/\rs'=rs:=
 ⟨(u.enc x).map .d,_,tr,by rw [hps];rfl,h,a7d _ ⟨by rw [e],rfl⟩⟩
theorem ofNat_toNat {n:Int} (h0:0<=n) (h:n < 256):((UInt8.toNat (UInt8.ofNat n.toNat):Nat):Int)=n:=by
 have:n.toNat < 256:=by omega
 have h2:(UInt8.ofNat n.toNat).toNat=n.toNat:=UInt8.toNat_ofNat_of_lt' this
 rw [h2]
 omega
theorem a8r {n:Int} (h:decide (0<=n/\n < 256)=true):[DV.v (.int .u8 ((UInt8.toNat (UInt8.ofNat n.toNat):Nat):Int))]=[DV.v (.int .u8 n)]:=by
 have h1:=of_decide_eq_true h
 rw [ofNat_toNat h1.1 h1.2]
theorem a6i {u:U} {ps:List TC} {q:TQ (Pk u.den)} {s:TSt} {tr:List G8} {K:Pk u.den->List G8->Prop} (hq:q.wpt s tr K->∃ pre k rs,o7 ps=pre ++ o7 k.rest/\K k rs/\(a1m pre).wpt s.st tr fun d rs'=>d=(u.enc k.x,k.fz)/\rs'=rs)
  (h:(a8p u ps q).wpt s tr K):∃ pre k rs,o7 ps=pre ++ o7 k.rest/\K k rs/\(a1m pre).wpt s.st tr fun d rs'=>d=(u.enc k.x,k.fz)/\rs'=rs:=by
 unfold a8p at h
 split at h
 ·rename_i c hc
  split at h
  ·rename_i hk _
   exact a97.ch (a2o hc) h (a02 hk _)
  ·exact hq h
 ·exact hq h
theorem a3C:∀ (u:U),a97 u.enc (b2p u)
 | .int k,ps,s,tr,K,h=>by
  unfold b2p at h
  split at h
  ·split at h
   ·rename_i hk _;subst hk;exact a97.ch rfl h rfl
   ·exact h.elim
  ·split at h
   ·rename_i hk _;subst hk;exact a97.ch rfl h rfl
   ·exact h.elim
  ·exact h.elim
 | .byte,ps,s,tr,K,h=>by
  cases ps with
  | nil=>exact h.elim
  | cons p rest=>
   cases p with
   | ch u x=>
    replace h:(b4H u x rest).wpt s tr K:=h
    cases u with
    | byte=>exact a97.ch rfl h rfl
    | int k=>
     unfold b4H at h
     simp only at h
     split at h
     ·rename_i hk _
      subst hk
      obtain⟨h1,h2⟩:=h
      exact a97.ch (u:= .int .u8) rfl h2 (a8r (n:=x) h1)
     ·exact h.elim
    | _=>exact h.elim
   | _=>exact h.elim
 | .bool,ps,s,tr,K,h=>by
  unfold b2p at h
  split at h
  ·exact a97.ch rfl h rfl
  ·exact h.elim
 | .str,ps,s,tr,K,h=>by
  unfold b2p at h
  split at h
  ·exact a97.ch rfl h rfl
  ·exact h.elim
 | .sl u,ps,s,tr,K,h=>by
  unfold b2p at h
  split at h
  ·split at h
   ·rename_i hk _;subst hk;exact a97.ch rfl h rfl
   ·exact h.elim
  ·exact⟨[.nil],_,tr,rfl,h,rfl,rfl⟩
  ·rename_i id ver rest
   simp only [TQ.wpt] at h
   split at h
   ·rename_i R hR
    split at h
    ·rename_i hk _
     obtain⟨h1,h2⟩:=h
     rw [decide_eq_true_eq] at h1
     refine⟨[.row id ver],_,_,rfl,h2,?_⟩
     have hc:(s.st.r id).c=some R.row:=by show(s.r id).c.map a2P.row=_;rw [hR];rfl
     simp only [a1m,toD,Q.bind,Q.wpt]
     rw [hc]
     refine⟨h1,?_,rfl⟩
     subst hk
     rfl
    ·exact h.elim
   ·exact h.elim
  ·exact h.elim
 | .pr a b,ps,s,tr,K,h=>a6i (by
   intro h
   simp only [TQ.wpt_bind] at h
   obtain⟨pre1,k1,rs1,e1,h,d1⟩:=a3C a _ s tr _ h
   obtain⟨pre2,k2,rs2,e2,h,d2⟩:=a3C b _ s rs1 _ h
   refine⟨pre1 ++ pre2,_,rs2,by rw [e1,e2,List.append_assoc],h,a5q _ _ (Q.wpt_mono d1 ?_)⟩
   rintro d rs ⟨rfl,rfl⟩
   refine Q.wpt_mono d2 ?_
   rintro d rs ⟨rfl,rfl⟩
   exact⟨rfl,rfl⟩) h
 | .arr n u,ps,s,tr,K,h=>a6i (a8q (a3C u) n _ s tr K) h
structure Pa (α:Type) where
 x:α
 fz:List Nat
def Z6 (u:U) (ps:List TC):TQ (Pa u.den):=(b2p u ps).bind fun p=> .req p.rest.isEmpty (.ret ⟨p.x,p.fz⟩)
theorem O3 (u:U) (ps:List TC):Sim (fun p:Pa u.den=>(u.enc p.x,p.fz)) (Z6 u ps) (a1m (o7 ps)):=fun s tr K h=>by
 unfold Z6 at h
 rw [TQ.wpt_bind] at h
 obtain⟨pre,k,rs,e,h,d⟩:=a3C u ps s tr _ h
 obtain⟨h1,h2⟩:=h
 rw [List.isEmpty_iff] at h1
 rw [h1,o7,List.append_nil] at e
 rw [e]
 refine Q.wpt_mono d ?_
 rintro d rs ⟨rfl,rfl⟩
 exact⟨_,rfl,h2⟩
end Go.Proofs.Ythadhfbkhldblaa.Am
namespace Go.Proofs.Ythadhfbkhldblaa.Am
open Go
def US:List P2->List Upd:=List.map P2.upd
def b6Q (d:Option Nat) (x:TV):List P2:=match d with
 | some d=>[.t d ⟨true,x⟩]
 | none=>[]
def a1A (d:Option Nat) (x:TV):TQ (List P2):= .ret (b6Q d x)
theorem B8 (d:Option Nat) (x:TV):Sim US (a1A d x) (one d x.av):=Sim.ret (by cases d <;> rfl)
theorem a6j {α β:Type} {f:α->β} {o':Option α} {o:Option β} (h:∀ a,o'=some a->o=some (f a)):Sim f (TQ.ofOpt o') (Q.ofOpt o):=by
 cases o' with
 | none=>exact Sim.fail
 | some a=>rw [h a rfl];exact Sim.ret rfl
theorem H9 {α:Type} (o:Option α):Sim id (TQ.ofOpt o) (Q.ofOpt o):=a6j fun _ h=>h
def a9C:Value->Option TC
 | .int k n=>some (.ch (.int k) n)
 | .bool b=>some (.ch .bool b)
 | .string s=>some (.ch .str s.data.toList)
 | .slice none 0 0=>some .nil
 | .pointer none=>some .npt
 | .map none=>some .nmap
 | .func (.func f) xs ys=>match xs.toList,ys.toList with
  | [],[]=>some (.fn f)
  | _,_=>none
 | _=>none
theorem a5r {v:Value} {c:TC} (h:a9C v=some c):c.cells=[M3 v]/\v.oneCell'=true/\a1R v= .c (M3 v):=by
 unfold a9C at h
 split at h
 ·injection h with h;subst h;exact⟨rfl,rfl,rfl⟩
 ·injection h with h;subst h;exact⟨rfl,rfl,rfl⟩
 ·rename_i s
  injection h with h;subst h
  refine⟨?_,rfl,rfl⟩
  show [AC.d (.v (.string ⟨s.data.toList.toArray⟩))]=[AC.d (.v (.string s))]
  rw [Array.toArray_toList]
 ·injection h with h;subst h;exact⟨rfl,rfl,rfl⟩
 ·injection h with h;subst h;exact⟨rfl,rfl,rfl⟩
 ·injection h with h;subst h;exact⟨rfl,rfl,rfl⟩
 ·rename_i f xs ys
  split at h
  ·rename_i hx hy
   injection h with h;subst h
   have ex:xs= #[]:=by cases xs;simp only at hx;subst hx;rfl
   have ey:ys= #[]:=by cases ys;simp only at hy;subst hy;rfl
   subst ex;subst ey
   exact⟨rfl,rfl,rfl⟩
  ·cases h
 ·cases h
def a3D:List Value->Option (List TC)
 | []=>some []
 | v :: vs=>(a9C v).bind fun c=>(a3D vs).map (c :: ·)
theorem a2p:∀ {vs:List Value} {cs:List TC},a3D vs=some cs->o7 cs=vs.map M3/\(vs.all Value.oneCell')=true
 | [],cs,h=>by injection h with h;subst h;exact⟨rfl,rfl⟩
 | v :: vs,cs,h=>by
  simp only [a3D,Option.bind_eq_some_iff,Option.map_eq_some_iff] at h
  obtain⟨c,h1,ds,h2,rfl⟩:=h
  obtain⟨a1,a2,_⟩:=a5r h1
  obtain⟨b1,b2⟩:=a2p h2
  exact⟨by rw [o7,a1,b1];rfl,by rw [List.all_cons,a2,b2];rfl⟩
def a2D:Value->Option TV
 | .agg cs=>(a3D cs.toList).map fun ps=> .o (.agg ps)
 | v=>(a9C v).map fun c=> .o (.c c)
theorem a6k {v:Value} {x:TV} (h:a2D v=some x):a1R v=x.av:=by
 unfold a2D at h
 split at h
 ·rename_i cs
  rw [Option.map_eq_some_iff] at h
  obtain⟨ps,h1,rfl⟩:=h
  obtain⟨b1,b2⟩:=a2p h1
  simp only [a1R,b2,if_true,TV.av,T1.av,b1]
 ·rw [Option.map_eq_some_iff] at h
  obtain⟨c,h1,rfl⟩:=h
  obtain⟨a1,_,a3⟩:=a5r h1
  rw [a3]
  simp only [TV.av,T1.av,a1,R9]
def tev:Operand->TQ TV
 | .tmp k=> .rdT k fun x=> .req x.g (.ret x.x)
 | .const v=> .ofOpt (a2D v)
 | .func f=> .ret (.o (.c (.fn f)))
 | .global _=> .fail
theorem A9:(x:Operand)->Sim TV.av (tev x) (ev x)
 | .tmp k=>Sim.rdT fun x=>Sim.req id fun _=>Sim.ret rfl
 | .const v=>by
  show Sim TV.av (TQ.ofOpt (a2D v)) (.ret (a1R v))
  cases h:a2D v with
  | none=>exact Sim.fail
  | some x=>exact Sim.ret (a6k h)
 | .func f=>Sim.ret rfl
 | .global _=>Sim.fail
def b6g:List Operand->TQ (List TV)
 | []=> .ret []
 | x :: xs=>(tev x).bind fun v=>(b6g xs).bind fun vs=> .ret (v :: vs)
theorem a20:(xs:List Operand)->Sim (List.map TV.av) (b6g xs) (evs xs)
 | []=>Sim.ret rfl
 | x :: xs=>Sim.bind (A9 x) fun _v=>Sim.bind (a20 xs) fun _vs=>Sim.ret rfl
def pav (p:Nat × TV):Nat × AV:=(p.1,p.2.av)
def b20:List (Nat × Operand)->TQ (List (Nat × TV))
 | []=> .ret []
 | p :: xs=>(tev p.2).bind fun v=>(b20 xs).bind fun vs=> .ret ((p.1,v) :: vs)
theorem a3E:(xs:List (Nat × Operand))->Sim (List.map pav) (b20 xs) (b3O xs)
 | []=>Sim.ret rfl
 | p :: xs=>Sim.bind (A9 p.2) fun _v=>Sim.bind (a3E xs) fun _vs=>Sim.ret rfl
def b33:TV->TQ Int
 | .o (.c (.ch (.int _) n))=> .ret n
 | .o (.c (.ch .byte x))=> .ret ((UInt8.toNat x:Nat):Int)
 | _=> .fail
theorem a03 (x:TV):Sim id (b33 x) (Q.int x.av):=by
 unfold b33
 split
 ·exact Sim.ret rfl
 ·exact Sim.ret rfl
 ·exact Sim.fail
def b21:TV->TQ Bool
 | .o (.c (.ch .bool b))=> .ret b
 | _=> .fail
theorem a6l (x:TV):Sim id (b21 x) (Q.bool x.av):=by
 unfold b21
 split
 ·exact Sim.ret rfl
 ·exact Sim.fail
def b6R:Option Operand->TQ (Option Int)
 | none=> .ret none
 | some x=>(tev x).bind fun v=>(b33 v).bind fun n=> .ret (some n)
theorem a5s:(x:Option Operand)->Sim id (b6R x) (evo x)
 | none=>Sim.ret rfl
 | some x=>Sim.bind (A9 x) fun v=>Sim.bind (a03 v) fun _n=>Sim.ret rfl
def b7a:Operand->TQ TGV
 | .tmp k=> .rdT k .ret
 | .const v=>(TQ.ofOpt (a2D v)).bind fun x=> .ret ⟨true,x⟩
 | .func f=> .ret ⟨true,.o (.c (.fn f))⟩
 | .global _=> .fail
theorem a8s:(x:Operand)->Sim TGV.gv (b7a x) (evG x)
 | .tmp k=>Sim.rdT fun x=>Sim.ret rfl
 | .const v=>by
  show Sim TGV.gv ((TQ.ofOpt (a2D v)).bind fun x=> .ret ⟨true,x⟩) (.ret ⟨true,a1R v⟩)
  cases h:a2D v with
  | none=>exact Sim.fail
  | some x=>exact Sim.ret (congrArg (GV.mk true) (a6k h))
 | .func f=>Sim.ret rfl
 | .global _=>Sim.fail
def is1 (x:TC):Bool:=Nat.beq x.size 1
theorem a2E {x:TC} (h:is1 x=true):x.cells=[R9 x.cells]:=by
 have h1:=Nat.eq_of_beq_eq_true h
 rw [<-TC.cells_len] at h1
 match hc:x.cells,h1 with
 | [y],_=>rfl
def a4B:TV->TQ (List TC)
 | .o (.c x)=> .req (is1 x) (.ret [x])
 | .o (.agg xs)=> .ret xs
 | _=> .fail
theorem a04 (x:TV):Sim o7 (a4B x) x.av.cells:=by
 unfold a4B
 split
 ·rename_i x
  refine Sim.chk fun h=>Sim.ret ?_
  show [R9 x.cells]=x.cells ++ []
  rw [List.append_nil]
  exact(a2E h).symm
 ·exact Sim.ret rfl
 ·exact Sim.fail
def b4I (a b:Bool):Bool:=a == b
def notI (k:IntKind) (n:Int):Int:=k.wrap (BitVec.ofInt k.bits (if k.signed then -1 else k.max) ^^^ BitVec.ofInt k.bits n).toNat
def b8B (k:IntKind) (n:Int):Int:=k.wrap (0 - n)
def c1 (u:U) (x:u.den):TV:= .o (.c (.ch u x))
def a3F (op:BinOp) (k:IntKind) (a b:Int):TQ TV:=match op with
 | .add=> .ret (c1 (.int k) (k.wrap (a + b)))
 | .sub=> .ret (c1 (.int k) (k.wrap (a - b)))
 | .mul=> .ret (c1 (.int k) (k.wrap (a * b)))
 | .quo=> .req (!decide (b=0)) (.ret (c1 (.int k) (k.wrap (a.tdiv b))))
 | .rem=> .req (!decide (b=0)) (.ret (c1 (.int k) (a.tmod b)))
 | .and=> .ret (c1 (.int k) (bits .and k a b))
 | .or=> .ret (c1 (.int k) (bits .or k a b))
 | .xor=> .ret (c1 (.int k) (bits .xor k a b))
 | .andNot=> .ret (c1 (.int k) (bits .andNot k a b))
 | .eql=> .ret (c1 .bool (decide (a=b)))
 | .neq=> .ret (c1 .bool (!decide (a=b)))
 | .lss=> .ret (c1 .bool (decide (a < b)))
 | .leq=> .ret (c1 .bool (decide (a<=b)))
 | .gtr=> .ret (c1 .bool (decide (b < a)))
 | .geq=> .ret (c1 .bool (decide (b<=a)))
 | _=> .fail
def fin (v:Value):Q AV:= .req (v.oneCell'=true) (.ret (.c (.d (.v v))))
theorem a1B {α:Type} {f:α->AV} {a:α} {v:Value} (h1:v.oneCell'=true) (h:AV.c (.d (.v v))=f a):Sim f (.ret a) (fin v):=Sim.must h1 (Sim.ret h)
theorem a0r (op:BinOp) (k:IntKind) (a b:Int):Sim TV.av (a3F op k a b) ((a2y op k a b).bind fin):=by
 have hne:(!decide (b=0))=true->b ≠ 0:=by simp
 cases op
 case quo=>exact Sim.req hne fun _=>a1B rfl rfl
 case rem=>exact Sim.req hne fun _=>a1B rfl rfl
 all_goals first | exact Sim.fail | exact a1B rfl rfl
def a6m (op:BinOp) (k:IntKind) (a b:Int):TQ TV:=match op with
 | .shl=> .req (decide (0<=b)) (.ret (c1 (.int k) (k.wrap (a * 2 ^ (min b.toNat k.bits)))))
 | .shr=> .req (decide (0<=b)) (.ret (c1 (.int k) (a / (2 ^ (min b.toNat k.bits)))))
 | _=> .fail
theorem a05 (op:BinOp) (k:IntKind) (a b:Int):Sim TV.av (a6m op k a b) ((a1S op k a b).bind fin):=by
 cases op
 case shl=>exact Sim.req of_decide_eq_true fun _=>a1B rfl rfl
 case shr=>
  rw [b6f]
  exact Sim.req of_decide_eq_true fun _=>a1B rfl rfl
 all_goals exact Sim.fail
def b0V (op:BinOp) (a b:List UInt8):TQ TV:=match op with
 | .add=> .req (decide (a.length + b.length<=4611686018427387904)) (.ret (c1 .str (a ++ b)))
 | .eql=> .ret (c1 .bool (decide (a=b)))
 | .neq=> .ret (c1 .bool (!decide (a=b)))
 | .lss=> .ret (c1 .bool (Op.bytesLess a b))
 | .leq=> .ret (c1 .bool (Op.bytesLess a b || decide (a=b)))
 | .gtr=> .ret (c1 .bool (!(Op.bytesLess a b || decide (a=b))))
 | .geq=> .ret (c1 .bool (!Op.bytesLess a b))
 | _=> .fail
theorem b0W (a b:List UInt8):(⟨a.toArray⟩:ByteArray) ++ ⟨b.toArray⟩=⟨(a ++ b).toArray⟩:=by
 apply ByteArray.ext
 rw [ByteArray.data_append]
 simp
theorem a7e (op:BinOp) (a b:List UInt8):Sim TV.av (b0V op a b) ((a74 op ⟨a.toArray⟩ ⟨b.toArray⟩).bind fin):=by
 cases op
 case add=>
  refine Sim.req (fun h=>?_) fun _=>a1B rfl ?_
  ·have:=of_decide_eq_true h
   simpa [ByteArray.size] using this
  ·rw [b0W];rfl
 all_goals first | exact Sim.fail | exact a1B rfl rfl
def b22 (op:BinOp) (k:TK):TV->TV->TQ TV
 | .o (.c (.ch (.int i) a)),.o (.c (.ch (.int j) b))=>match O2 op with
  | true=>a6m op i a b
  | false=>match decEq i j with
   | .isTrue _=>a3F op i a b
   | .isFalse _=> .fail
 | .o (.c (.ch .byte a)),.o (.c (.ch (.int j) b))=>match O2 op with
  | true=>a6m op .u8 ((UInt8.toNat a:Nat):Int) b
  | false=>match decEq IntKind.u8 j with
   | .isTrue _=>a3F op .u8 ((UInt8.toNat a:Nat):Int) b
   | .isFalse _=> .fail
 | .o (.c (.ch (.int j) a)),.o (.c (.ch .byte b))=>match O2 op with
  | true=>a6m op j a ((UInt8.toNat b:Nat):Int)
  | false=>match decEq j IntKind.u8 with
   | .isTrue _=>a3F op .u8 a ((UInt8.toNat b:Nat):Int)
   | .isFalse _=> .fail
 | .o (.c (.ch .byte a)),.o (.c (.ch .byte b))=>match O2 op with
  | true=>a6m op .u8 ((UInt8.toNat a:Nat):Int) ((UInt8.toNat b:Nat):Int)
  | false=>a3F op .u8 ((UInt8.toNat a:Nat):Int) ((UInt8.toNat b:Nat):Int)
 | .o (.c (.ch .str a)),.o (.c (.ch .str b))=>b0V op a b
 | .o (.c (.ch .bool a)),.o (.c (.ch .bool b))=>match k,b0a op with
  | .bool,some e=> .ret (c1 .bool (match e with | true=>b4I a b | false=> !(b4I a b)))
  | _,_=> .fail
 | .o (.c (.ptr id ver _)),.o (.c .npt)=>match k,b0a op with
  | .ptr _,some e=> .rdB id fun b=> .req (Nat.beq ver b.ver && b.c.isSome) (.ret (c1 .bool (match e with | true=>false | false=>true)))
  | _,_=> .fail
 | .o (.c .npt),.o (.c .npt)=>match k,b0a op with
  | .ptr _,some e=> .ret (c1 .bool (match e with | true=>true | false=>false))
  | _,_=> .fail
 | _,_=> .fail
theorem b0X (op:BinOp) (i:TI) (x y:TV):Sim TV.av (b22 op i.k x y) (b5L op i x.av y.av):=by
 obtain⟨k,sz,bs,zr,cm⟩:=i
 show Sim TV.av (b22 op k x y) _
 unfold b22
 split
 ·rename_i i a j b
  show Sim TV.av _ ((match O2 op with | true=>a1S op i a b | false=> .req (i=j) (a2y op i a b)).bind fin)
  cases O2 op with
  | true=>exact a05 op i a b
  | false=>
   simp only
   split
   ·rename_i h _;exact Sim.must h (a0r op i a b)
   ·exact Sim.fail
 ·rename_i a j b
  show Sim TV.av _ ((match O2 op with | true=>a1S op .u8 ((UInt8.toNat a:Nat):Int) b | false=> .req (IntKind.u8=j) (a2y op .u8 ((UInt8.toNat a:Nat):Int) b)).bind fin)
  cases O2 op with
  | true=>exact a05 op .u8 _ b
  | false=>
   simp only
   split
   ·rename_i h _;exact Sim.must h (a0r op .u8 _ b)
   ·exact Sim.fail
 ·rename_i j a b
  show Sim TV.av _ ((match O2 op with | true=>a1S op j a ((UInt8.toNat b:Nat):Int) | false=> .req (j=IntKind.u8) (a2y op j a ((UInt8.toNat b:Nat):Int))).bind fin)
  cases O2 op with
  | true=>exact a05 op j a _
  | false=>
   simp only
   split
   ·rename_i h _;subst h;exact Sim.must rfl (a0r op .u8 a _)
   ·exact Sim.fail
 ·rename_i a b
  show Sim TV.av _ ((match O2 op with | true=>a1S op .u8 ((UInt8.toNat a:Nat):Int) ((UInt8.toNat b:Nat):Int) | false=> .req (IntKind.u8=IntKind.u8) (a2y op .u8 ((UInt8.toNat a:Nat):Int) ((UInt8.toNat b:Nat):Int))).bind fin)
  cases O2 op with
  | true=>exact a05 op .u8 _ _
  | false=>exact Sim.must rfl (a0r op .u8 _ _)
 ·rename_i a b
  exact a7e op a b
 ·rename_i a b
  split
  ·rename_i e he
   show Sim TV.av _ (match b0a op with | some e=>(Q.ret (b4I a b)).bind fun b=> .ret (AV.c (.d (.v (.bool (match e with | true=>b | false=> !b))))) | none=> .fail)
   rw [he]
   exact Sim.ret rfl
  ·exact Sim.fail
 ·rename_i id ver _
  split
  ·rename_i t e he
   show Sim TV.av _ (match b0a op with | some e=>(Q.rdB id fun b=> .req (ver=b.ver/\b.c.isSome=true) (.ret false)).bind fun b=> .ret (AV.c (.d (.v (.bool (match e with | true=>b | false=> !b))))) | none=> .fail)
   rw [he]
   refine Sim.rdB fun b=>Sim.req (fun h=>?_) fun _=>Sim.ret ?_
   ·rw [Bool.and_eq_true] at h
    exact⟨Nat.eq_of_beq_eq_true h.1,by rw [<-h.2];simp [TBS.bs]⟩
   ·cases e <;> rfl
  ·exact Sim.fail
 ·split
  ·rename_i t e he
   show Sim TV.av _ (match b0a op with | some e=>(Q.ret true).bind fun b=> .ret (AV.c (.d (.v (.bool (match e with | true=>b | false=> !b))))) | none=> .fail)
   rw [he]
   exact Sim.ret (by cases e <;> rfl)
  ·exact Sim.fail
 ·exact Sim.fail
def tun (op:UnOp):TV->TQ TV
 | .o (.c (.ch .bool b))=>match op with | .not=> .ret (c1 .bool (!b)) | _=> .fail
 | .o (.c (.ch (.int k) n))=>match op with | .neg=> .ret (c1 (.int k) (b8B k n)) | .xor=> .ret (c1 (.int k) (notI k n)) | _=> .fail
 | _=> .fail
theorem b4J (op:UnOp) (x:TV):Sim TV.av (tun op x) (unQ op x.av):=by
 unfold tun
 split
 ·cases op <;> first | exact Sim.ret rfl | exact Sim.fail
 ·cases op <;> first | exact Sim.ret rfl | exact Sim.fail
 ·exact Sim.fail
def b6h (c:Bool) (x y:TGV):TQ TV:=match c with
 | true=> .req x.g (.ret x.x)
 | false=> .req y.g (.ret y.x)
theorem b0Y (c:Bool) (x y:TGV):Sim TV.av (b6h c x y) (b2u c x.gv y.gv):=by
 cases c <;> exact Sim.req id fun _=>Sim.ret rfl
end Go.Proofs.Ythadhfbkhldblaa.Am
namespace Go.Proofs.Ythadhfbkhldblaa.Am
open Go
def V1:List Nat->TQ (List P2)
 | []=> .ret []
 | id :: ids=> .rdR id fun r=>match r.c with
  | some R=> .req (decide (R.e < Q5)) ((V1 ids).bind fun us=> .ret (match R.fr with | true=>us | false=> .r id ⟨r.ver,some ⟨R.u,R.l,R.e,true⟩⟩ :: us))
  | none=> .fail
theorem I5:(ids:List Nat)->Sim US (V1 ids) (R3 ids)
 | []=>Sim.ret rfl
 | id :: ids=>Sim.rdR fun r=>by
  obtain⟨ver,c⟩:=r
  cases c with
  | none=>exact Sim.fail
  | some R=>exact Sim.req of_decide_eq_true fun _=>Sim.bind (I5 ids) fun us=>Sim.ret (by obtain⟨u,l,e,f⟩:=R;cases f <;> rfl)
def b2q (i:TI) (ps:List TC):TQ TV:=match i.agg with
 | true=> .ret (.o (.agg ps))
 | false=>match ps with
  | [x]=> .req (is1 x) (.ret (.o (.c x)))
  | _=> .fail
theorem a0s (i:TI) (ps:List TC):Sim TV.av (b2q i ps) (asV i (o7 ps)):=by
 unfold b2q asV
 cases i.agg with
 | true=>exact Sim.ret rfl
 | false=>
  simp only
  split
  ·rename_i x
   refine Sim.chk fun h=>?_
   have e:o7 [x]=[R9 x.cells]:=(List.append_nil _).trans (a2E h)
   rw [e]
   exact Sim.ret rfl
  ·exact Sim.fail
structure b6i where
 pre:List TC
 n:Nat
 u:U
 v:Vector u.den n
 post:List TC
def b0Z (off:Nat) (ps:List TC):Option b6i:=(a7c FU off ps).bind fun a=>(a7b FU off ps).bind fun b=>match b with
 | .ch (.arr n u) v :: post=>some ⟨a,n,u,v,post⟩
 | _=>none
theorem a8t {off:Nat} {ps:List TC} {A:b6i} (h:b0Z off ps=some A):o7 ps=o7 A.pre ++ ((U.arr A.n A.u).enc A.v).map .d ++ o7 A.post/\(o7 A.pre).length=off:=by
 unfold b0Z at h
 simp only [Option.bind_eq_some_iff] at h
 obtain⟨a,h1,b,h2,h3⟩:=h
 obtain⟨a1,a2⟩:=a12 h1
 obtain⟨b1,b2⟩:=a11 h2
 split at h3
 ·injection h3 with h3
  subst h3
  refine⟨?_,a2⟩
  have:=List.take_append_drop off (o7 ps)
  rw [<-a1,<-b1] at this
  rw [<-this,List.append_assoc]
  rfl
 ·cases h3
theorem a8u {α β:Type} {f:α->List β} {z:Nat}:∀ {l:List α} {k:Nat} {x:α},(∀ y ∈ l,(f y).length=z)->l[k]?=some x->((l.flatMap f).drop (k * z)).take z=f x
 | [],_,_,_,h=>by simp at h
 | y :: l,0,x,hz,h=>by
  simp at h
  subst h
  have h1:=hz y (by simp)
  rw [List.flatMap_cons,Nat.zero_mul,List.drop_zero,<-h1,List.take_left]
 | y :: l,k + 1,x,hz,h=>by
  have h1:=hz y (by simp)
  rw [List.flatMap_cons,Nat.succ_mul,Nat.add_comm,<-List.drop_drop]
  have:((f y ++ l.flatMap f).drop z)=l.flatMap f:=by rw [<-h1,List.drop_left]
  rw [this]
  exact a8u (fun y hy=>hz y (by simp [hy])) (by simpa using h)
theorem a1C {α:Type} (a b:List α) (k:Nat) (x:List α):setAt (a ++ b) (a.length + k) x=a ++ setAt b k x:=by
 unfold setAt
 rw [show a.length + k + x.length=a.length + (k + x.length) from by omega,<-List.drop_drop,List.drop_left]
 rw [List.take_append,List.take_of_length_le (l:=a) (Nat.le_add_right _ _),Nat.add_sub_cancel_left]
 simp
theorem a4C {α:Type} (b c:List α) (k:Nat) (x:List α) (h:k + x.length<=b.length):setAt (b ++ c) k x=setAt b k x ++ c:=by
 unfold setAt
 rw [List.take_append,show k - b.length=0 from by omega,List.take_zero,List.append_nil,List.drop_append,show k + x.length - b.length=0 from by omega,List.drop_zero]
 simp
theorem b00 {α:Type} (a b c:List α) (k:Nat) (x:List α) (h:k + x.length<=b.length):setAt (a ++ b ++ c) (a.length + k) x=a ++ setAt b k x ++ c:=by
 rw [List.append_assoc,a1C,a4C b c k x h,List.append_assoc]
theorem a8v {α β:Type} {f:α->List β} {z:Nat}:∀ {l:List α} {k:Nat} {x:α},(∀ y ∈ l,(f y).length=z)->(f x).length=z->k < l.length->(l.set k x).flatMap f=setAt (l.flatMap f) (k * z) (f x)
 | [],_,_,_,_,h=>by simp at h
 | y :: l,0,x,hz,hx,h=>by
  have h1:=hz y (by simp)
  rw [List.set_cons_zero,List.flatMap_cons,List.flatMap_cons,Nat.zero_mul]
  unfold setAt
  rw [List.take_zero,List.nil_append,Nat.zero_add,hx,<-h1,List.drop_left]
 | y :: l,k + 1,x,hz,hx,h=>by
  have h1:=hz y (by simp)
  have ih:=a8v (l:=l) (k:=k) (x:=x) (fun y hy=>hz y (by simp [hy])) hx (by simpa using h)
  rw [List.set_cons_succ,List.flatMap_cons,List.flatMap_cons,ih]
  have e:(k + 1) * z=(f y).length + k * z:=by rw [h1,Nat.succ_mul,Nat.add_comm]
  rw [e,a1C]
theorem b01 {α β:Type} (f:α->β) (l:List α) (k:Nat) (x:List α):(setAt l k x).map f=setAt (l.map f) k (x.map f):=by
 unfold setAt
 simp [List.map_take,List.map_drop]
theorem b23 {α:Type} {n:Nat} {v:Vector α n} {k:Nat} {d:α} (h:k < n):v.toList[k]?=some (b2o v k d):=by
 have:k < v.toList.length:=by simpa using h
 rw [List.getElem?_eq_getElem this]
 unfold b2o
 rw [List.getD_eq_getElem?_getD,List.getElem?_eq_getElem this];rfl
theorem a8w {n:Nat} {u:U} {v:Vector u.den n} {k:Nat} (h:k < n):(((U.arr n u).enc v).drop (k * u.size)).take u.size=u.enc (b2o v k u.dflt):=
 a8u (l:=v.toList) (fun y _=>u.enc_len y) (b23 h)
def a8x (off z k:Nat) (i:TI) (ps:List TC):TQ TV:=match b0Z off ps with
 | some A=> .req (Nat.beq z A.u.size && Nat.beq i.size A.u.size) (.req (decide (k < A.n)) (b2q i [.ch A.u (b2o A.v k A.u.dflt)]))
 | none=> .fail
theorem a4D (off z k:Nat) (i:TI) (ps:List TC):Sim TV.av (a8x off z k i ps) (.req (off + k * z + i.size<=(o7 ps).length) (asV i (((o7 ps).drop (off + k * z)).take i.size))):=by
 unfold a8x
 cases h:b0Z off ps with
 | none=>exact Sim.fail
 | some A=>
  refine Sim.chk fun h1=>Sim.chk fun h2=>?_
  rw [Bool.and_eq_true] at h1
  have e1:=Nat.eq_of_beq_eq_true h1.1
  have e2:=Nat.eq_of_beq_eq_true h1.2
  have hk:=of_decide_eq_true h2
  obtain⟨c1,c2⟩:=a8t h
  have hlen:((U.arr A.n A.u).enc A.v).length=A.n * A.u.size:=U.enc_len _ _
  have hle:(k + 1) * A.u.size<=A.n * A.u.size:=Nat.mul_le_mul_right _ hk
  rw [Nat.succ_mul] at hle
  have key:((o7 ps).drop (off + k * z)).take i.size=o7 [.ch A.u (b2o A.v k A.u.dflt)]:=by
   rw [c1,e2,e1,<-c2,<-List.drop_drop,List.append_assoc,List.drop_left,List.drop_append,List.length_map,hlen,show k * A.u.size - A.n * A.u.size=0 from by omega,List.drop_zero,List.take_append,List.length_drop,List.length_map,hlen,show A.u.size - (A.n * A.u.size - k * A.u.size)=0 from by omega,List.take_zero,List.append_nil,<-List.map_drop,<-List.map_take,a8w hk]
   exact(List.append_nil _).symm
  refine Sim.must ?_ ?_
  ·rw [c1,e2,e1]
   simp only [List.length_append,List.length_map,hlen,c2]
   omega
  ·rw [key]
   exact a0s i _
def b24 (i:TI):TV->TQ TV
 | .o (.c (.ptr id ver off))=> .rdB id fun b=>match b.c with
  | some ps=> .req (Nat.beq ver b.ver) ((TQ.ofOpt (b32 off i.size ps)).bind fun qs=>b2q i qs)
  | none=> .fail
 | .o (.c (.pa id ver off z k))=> .rdB id fun b=>match b.c with
  | some ps=> .req (Nat.beq ver b.ver) (a8x off z k i ps)
  | none=> .fail
 | .o (.c (.ep u x off))=>(TQ.ofOpt (b32 off i.size [.ch u x])).bind fun qs=>b2q i qs
 | .o (.c (.ex u x off z k))=>a8x off z k i [.ch u x]
 | .o (.c (.rp id ver k off sz))=> .rdR id fun r=>match r.c with
  | some R=> .req (Nat.beq ver r.ver && Nat.beq sz R.u.size) (.req (decide (k < R.l.length)) ((TQ.ofOpt (b32 off i.size [.ch R.u (R.l.getD k R.u.dflt)])).bind fun qs=>b2q i qs))
  | none=> .fail
 | _=> .fail
theorem L2 (u:U) (x:u.den):o7 [.ch u x]=(u.enc x).map .d:=List.append_nil _
theorem a21 {α β:Type} {f:α->β} {k n:Nat} {ps:List TC} {q':List TC->TQ α} {q:Q β} (h:∀ qs,o7 qs=((o7 ps).drop k).take n->k + n<=(o7 ps).length->Sim f (q' qs) q):Sim f ((TQ.ofOpt (b32 k n ps)).bind q') q:=by
 cases e:b32 k n ps with
 | none=>exact Sim.fail
 | some qs=>exact h qs (b0S e).1 (b0S e).2
theorem a1D {α β:Type} (f:α->β) {l:List α} {k:Nat} (h:k < l.length) (d:β) (d':α):(l.map f).getD k d=f (l.getD k d'):=a69 f h d d'
theorem a6n (i:TI) (x:TV):Sim TV.av (b24 i x) (a9d i x.av):=by
 unfold b24
 split
 ·rename_i id ver off
  refine Sim.rdB fun b=>?_
  obtain⟨bv,c⟩:=b
  cases c with
  | none=>exact Sim.fail
  | some ps=>
   refine Sim.chk fun h=>a21 fun qs h1 h2=>Sim.must ⟨Nat.eq_of_beq_eq_true h,h2⟩ ?_
   have:=a0s i qs
   rw [h1] at this
   exact this
 ·rename_i id ver off z k
  refine Sim.rdB fun b=>?_
  obtain⟨bv,c⟩:=b
  cases c with
  | none=>exact Sim.fail
  | some ps=>
   refine Sim.chk fun h s tr K hK=>?_
   obtain⟨h1,h2⟩:=a4D off z k i ps s tr K hK
   exact⟨⟨Nat.eq_of_beq_eq_true h,h1⟩,h2⟩
 ·rename_i u x off
  refine a21 fun qs h1 h2=>?_
  rw [L2,List.length_map] at h2
  show Sim TV.av _ (.req (i.size<=((u.enc x).drop off).length) (asV i ((((u.enc x).drop off).take i.size).map .d)))
  refine Sim.must (by rw [List.length_drop];omega) ?_
  rw [L2] at h1
  rw [List.map_take,List.map_drop,<-h1]
  exact a0s i qs
 ·rename_i u x off z k
  intro s tr K hK
  obtain⟨h1,h2⟩:=a4D off z k i [.ch u x] s tr K hK
  rw [L2,List.length_map] at h1
  rw [L2] at h2
  show Q.wpt (.req (i.size<=((u.enc x).drop (off + k * z)).length) (asV i ((((u.enc x).drop (off + k * z)).take i.size).map .d))) _ _ _
  refine⟨by rw [List.length_drop];omega,?_⟩
  rw [List.map_take,List.map_drop]
  exact h2
 ·rename_i id ver k off sz
  refine Sim.rdR fun r=>?_
  obtain⟨rv,c⟩:=r
  cases c with
  | none=>exact Sim.fail
  | some R=>
   refine Sim.chk fun h=>Sim.chk fun h0=>a21 fun qs h1 h2=>?_
   rw [Bool.and_eq_true] at h
   have hk:=of_decide_eq_true h0
   have e1:=Nat.eq_of_beq_eq_true h.1
   have e2:=Nat.eq_of_beq_eq_true h.2
   have hg:(R.l.map R.u.enc).getD k []=R.u.enc (R.l.getD k R.u.dflt):=a1D _ hk _ _
   rw [L2,List.length_map,U.enc_len] at h2
   refine Sim.must ⟨e1,e2,?_,by rw [e2];exact h2⟩ ?_
   ·show k < (R.l.map R.u.enc).length
    rw [List.length_map];exact hk
   ·show Sim TV.av _ (asV i (((((R.l.map R.u.enc).getD k []).drop off).take i.size).map .d))
    rw [hg,List.map_take,List.map_drop,<-L2,<-h1]
    exact a0s i qs
 ·exact Sim.fail
def b6j (n:Int):TQ UInt8:= .req (decide (0<=n/\n < 256)) (.ret (UInt8.ofNat n.toNat))
def b8C:(v:U)->v.den->TQ UInt8
 | .int k,n=>match decEq k IntKind.u8 with
  | .isTrue _=>b6j n
  | .isFalse _=> .fail
 | _,_=> .fail
def b7X (u v:U) (y:v.den):TQ u.den:=match u with
 | .byte=>b8C v y
 | _=> .fail
theorem b4K {u v:U} {y:v.den} {s:TSt} {tr:List G8} {K:u.den->List G8->Prop} (h:(b7X u v y).wpt s tr K):∃ x,v.enc y=u.enc x/\K x tr:=by
 cases u with
 | byte=>
  cases v with
  | int k=>
   replace h:((match decEq k IntKind.u8 with | .isTrue _=>b6j y | .isFalse _=> .fail):TQ UInt8).wpt s tr K:=h
   split at h
   ·rename_i hk _
    subst hk
    obtain⟨h1,h2⟩:=h
    exact⟨_,(a8r (n:=y) h1).symm,h2⟩
   ·exact h.elim
  | _=>exact h.elim
 | _=>exact h.elim
def b02 (u:U):List TC->TQ u.den
 | [.ch v y]=>match decEq v u with
  | .isTrue h=> .ret (a0q h y)
  | .isFalse _=>b7X u v y
 | _=> .fail
theorem a5t {u:U} {ps:List TC} {s:TSt} {tr:List G8} {K:u.den->List G8->Prop} (h:(b02 u ps).wpt s tr K):∃ x,o7 ps=(u.enc x).map .d/\K x tr:=by
 unfold b02 at h
 split at h
 ·rename_i v y
  split at h
  ·rename_i e _
   exact⟨_,by rw [L2,a02],h⟩
  ·obtain⟨x,h1,h2⟩:=b4K h
   exact⟨x,by rw [L2,h1],h2⟩
 ·exact h.elim
def b03:(u:U)->List TC->Option (u.den × List TC)
 | .pr a b,ps=>(b03 a ps).bind fun p=>(b03 b p.2).map fun q=>((p.1,q.1),q.2)
 | u,.ch v y :: ps=>match decEq v u with
  | .isTrue h=>some (a0q h y,ps)
  | .isFalse _=>none
 | _,[]=>none
 | _,_ :: _=>none
theorem a0g {u:U} {ps:List TC} {p:u.den × List TC} (h:(match ps with
  | .ch v y :: ps=>match decEq v u with
   | .isTrue h=>some (a0q h y,ps)
   | .isFalse _=>none
  | _=>none)=some p):o7 ps=(u.enc p.1).map .d ++ o7 p.2:=by
 split at h
 ·split at h
  ·rename_i e _
   injection h with h
   subst h
   rw [a02];rfl
  ·cases h
 ·cases h
theorem a5u:∀ {u:U} {ps:List TC} {p:u.den × List TC},b03 u ps=some p->o7 ps=(u.enc p.1).map .d ++ o7 p.2
 | .pr a b,ps,p,h=>by
  unfold b03 at h
  obtain⟨q,h1,h2⟩:=Option.bind_eq_some_iff.1 h
  obtain⟨q2,h3,rfl⟩:=Option.map_eq_some_iff.1 h2
  rw [a5u h1,a5u h3]
  show _=((a.enc q.1 ++ b.enc q2.1).map AC.d) ++ _
  rw [List.map_append,List.append_assoc]
 | .int k,ps,p,h=>a0g (by cases ps with | nil=>exact h | cons c r=>cases c <;> exact h)
 | .byte,ps,p,h=>a0g (by cases ps with | nil=>exact h | cons c r=>cases c <;> exact h)
 | .bool,ps,p,h=>a0g (by cases ps with | nil=>exact h | cons c r=>cases c <;> exact h)
 | .str,ps,p,h=>a0g (by cases ps with | nil=>exact h | cons c r=>cases c <;> exact h)
 | .sl u,ps,p,h=>a0g (by cases ps with | nil=>exact h | cons c r=>cases c <;> exact h)
 | .arr n u,ps,p,h=>a0g (by cases ps with | nil=>exact h | cons c r=>cases c <;> exact h)
def b25 (u:U) (ps:List TC):TQ u.den:=match b03 u ps with
 | some p=>match p.2 with
  | []=> .ret p.1
  | _=>b02 u ps
 | none=>b02 u ps
theorem a8y {u:U} {ps:List TC} {s:TSt} {tr:List G8} {K:u.den->List G8->Prop} (h:(b25 u ps).wpt s tr K):∃ x,o7 ps=(u.enc x).map .d/\K x tr:=by
 unfold b25 at h
 split at h
 ·rename_i p hp
  split at h
  ·rename_i e
   have:=a5u hp
   rw [e] at this
   exact⟨p.1,by rw [this];exact List.append_nil _,h⟩
  ·exact a5t h
 ·exact a5t h
def b7Y {α:Type} {n:Nat} (v:Vector α n) (k:Nat) (x:α):Vector α n:=⟨(v.toList.set k x).toArray,by simp⟩
def b5y:(u:U)->u.den->Nat->(v:U)->v.den->Option u.den
 | .pr a b,x,off,v,y=>match decEq v (.pr a b) with
  | .isTrue h=>match off with
   | 0=>some (a0q h y)
   | _ + 1=>none
  | .isFalse _=>match Nat.blt off a.size with
   | true=>(b5y a x.1 off v y).map fun p=>(p,x.2)
   | false=>(b5y b x.2 (off - a.size) v y).map fun p=>(x.1,p)
 | u,_,off,v,y=>match decEq v u with
  | .isTrue h=>match off with
   | 0=>some (a0q h y)
   | _ + 1=>none
  | .isFalse _=>none
end Go.Proofs.Ythadhfbkhldblaa.Am
namespace Go.Proofs.Ythadhfbkhldblaa.Am
open Go
def eqL {α:Type} (f:α->α->Bool):List α->List α->Bool
 | [],[]=>true
 | x :: xs,y :: ys=>f x y && eqL f xs ys
 | _,_=>false
def b4L (a b:Int):Bool:=decide (a=b)
def b04 (a b:UInt8):Bool:=decide (a=b)
def b34 (a b:Bool):Bool:=a == b
def A8 (a b:List UInt8):Bool:=decide (a=b)
def U.beq:(u:U)->u.den->u.den->Bool
 | .int _,a,b=>b4L a b
 | .byte,a,b=>b04 a b
 | .bool,a,b=>b34 a b
 | .str,a,b=>A8 a b
 | .sl _,_,_=>false
 | .pr a b,x,y=>a.beq x.1 y.1 && b.beq x.2 y.2
 | .arr _ u,v,w=>eqL u.beq (Vector.toList v) (Vector.toList w)
def U.cks:U->Option (List CK)
 | .int k=>some [.i k]
 | .byte=>some [.i .u8]
 | .bool=>some [.b]
 | .str=>some [.s]
 | .sl _=>none
 | .pr a b=>match a.cks,b.cks with
  | some x,some y=>some (x ++ y)
  | _,_=>none
 | .arr n u=>match u.cks with
  | some x=>some (List.replicate n x).flatten
  | none=>none
def U.vals:(u:U)->u.den->List Value
 | .int k,n=>[.int k n]
 | .byte,x=>[.int .u8 (UInt8.toNat x:Nat)]
 | .bool,b=>[.bool b]
 | .str,l=>[.string ⟨List.toArray l⟩]
 | .sl _,_=>[]
 | .pr a b,x=>a.vals x.1 ++ b.vals x.2
 | .arr _ u,v=>(Vector.toList v).flatMap u.vals
theorem a3G {α:Type} {f:α->List Value} {ks:List CK} (h:∀ x,(f x).map a1l=ks.map some):∀ l:List α,(l.flatMap f).map a1l=((List.replicate l.length ks).flatten).map some
 | []=>rfl
 | x :: l=>by rw [List.flatMap_cons,List.map_append,h x,a3G h l,List.length_cons,List.replicate_succ,List.flatten_cons,List.map_append]
theorem U.vals_cks:∀ (u:U) (ks:List CK),u.cks=some ks->∀ x:u.den,(u.vals x).map a1l=ks.map some
 | .int _,_,h,_=>by injection h with h;subst h;rfl
 | .byte,_,h,_=>by injection h with h;subst h;rfl
 | .bool,_,h,_=>by injection h with h;subst h;rfl
 | .str,_,h,_=>by injection h with h;subst h;rfl
 | .sl _,_,h,_=>by cases h
 | .pr a b,ks,h,x=>by
  unfold U.cks at h
  split at h
  ·rename_i p q hp hq
   injection h with h;subst h
   show(a.vals x.1 ++ b.vals x.2).map a1l=_
   rw [List.map_append,List.map_append,U.vals_cks a p hp,U.vals_cks b q hq]
  ·cases h
 | .arr n u,ks,h,v=>by
  unfold U.cks at h
  split at h
  ·rename_i p hp
   injection h with h;subst h
   have:=a3G (U.vals_cks u p hp) (Vector.toList v)
   have e:(Vector.toList v).length=n:=Vector.length_toList (xs:=v)
   exact this.trans (by rw [e])
  ·cases h
theorem U.enc_vals:∀ (u:U) (ks:List CK),u.cks=some ks->∀ x:u.den,u.enc x=(u.vals x).map .v
 | .int _,_,_,_=>rfl
 | .byte,_,_,_=>rfl
 | .bool,_,_,_=>rfl
 | .str,_,_,_=>rfl
 | .sl _,_,h,_=>by cases h
 | .pr a b,ks,h,x=>by
  unfold U.cks at h
  split at h
  ·rename_i p q hp hq
   show a.enc x.1 ++ b.enc x.2=(a.vals x.1 ++ b.vals x.2).map .v
   rw [List.map_append,U.enc_vals a p hp,U.enc_vals b q hq]
  ·cases h
 | .arr n u,ks,h,v=>by
  unfold U.cks at h
  split at h
  ·rename_i p hp
   show(Vector.toList v).flatMap u.enc=((Vector.toList v).flatMap u.vals).map .v
   rw [List.map_flatMap]
   exact congrArg (fun f=>(Vector.toList v).flatMap f) (funext fun x=>U.enc_vals u p hp x)
  ·cases h
theorem a4E {a b:List Value} {ks:List CK} (h1:a.map a1l=ks.map some) (h2:b.map a1l=ks.map some):a.length=b.length:=by
 have:=congrArg List.length (h1.trans h2.symm)
 simpa using this
theorem a6o {α:Type} {f:α->List Value} {g:α->α->Bool} {ks:List CK} (hk:∀ x,(f x).map a1l=ks.map some) (h:∀ x y,H6 (f x) (f y)=g x y):∀ (l l':List α),l.length=l'.length->H6 (l.flatMap f) (l'.flatMap f)=eqL g l l'
 | [],[],_=>rfl
 | x :: l,y :: l',hl=>by
  simp only [List.length_cons,Nat.add_right_cancel_iff] at hl
  rw [List.flatMap_cons,List.flatMap_cons,a0o _ _ _ _ (a4E (hk x) (hk y)),h,a6o hk h l l' hl];rfl
theorem b05 (x y:Int):((x == y) && true)=b4L x y:=by rw [Bool.and_true];rfl
theorem b26 (x y:UInt8):((((UInt8.toNat x:Nat):Int) == ((UInt8.toNat y:Nat):Int)) && true)=b04 x y:=by
 unfold b04
 rw [Bool.and_true,Bool.eq_iff_iff]
 simp only [beq_iff_eq,decide_eq_true_eq,Int.natCast_inj]
 exact UInt8.toNat_inj
theorem b27 (x y:Bool):((x == y) && true)=b34 x y:=by rw [Bool.and_true];rfl
theorem b4M (x y:List UInt8):(((ByteArray.mk (List.toArray x)).toList == (ByteArray.mk (List.toArray y)).toList) && true)=A8 x y:=by
 unfold A8
 rw [Bool.and_true,Bool.eq_iff_iff]
 simp [ByteArray.toList_eq]
theorem U.vals_beq:∀ (u:U) (ks:List CK),u.cks=some ks->∀ x y:u.den,H6 (u.vals x) (u.vals y)=u.beq x y
 | .int _,_,_,x,y=>b05 x y
 | .byte,_,_,x,y=>b26 x y
 | .bool,_,_,x,y=>b27 x y
 | .str,_,_,x,y=>b4M x y
 | .sl _,_,h,_,_=>by cases h
 | .pr a b,ks,h,x,y=>by
  unfold U.cks at h
  split at h
  ·rename_i p q hp hq
   show H6 (a.vals x.1 ++ b.vals x.2) (a.vals y.1 ++ b.vals y.2)=(a.beq x.1 y.1 && b.beq x.2 y.2)
   rw [a0o _ _ _ _ (a4E (U.vals_cks a p hp _) (U.vals_cks a p hp _)),U.vals_beq a p hp,U.vals_beq b q hq]
  ·cases h
 | .arr n u,ks,h,v,w=>by
  unfold U.cks at h
  split at h
  ·rename_i p hp
   exact a6o (U.vals_cks u p hp) (U.vals_beq u p hp) _ _ ((Vector.length_toList (xs:=v)).trans (Vector.length_toList (xs:=w)).symm)
  ·cases h
theorem a7f:∀ l:List Value,dvs (l.map fun v=> .d (.v v))=some l
 | []=>rfl
 | v :: l=>by rw [List.map_cons,dvs,a7f l];rfl
def b7b (u:U) (i:TI) (xs ys:List TC):TQ Bool:=(b25 u xs).bind fun a=>(b25 u ys).bind fun b=> .req (match u.cks with
 | some ks=>i.agg && !ks.isEmpty && decide (i.cmp=ks)
 | none=>false) (.ret (u.beq a b))
theorem b28 (u:U) (i:TI) (xs ys:List TC):Sim id (b7b u i xs ys) (eqA i (o7 xs) (o7 ys)):=by
 intro s tr K h
 unfold b7b at h
 rw [TQ.wpt_bind] at h
 obtain⟨a,e1,h⟩:=a8y h
 rw [TQ.wpt_bind] at h
 obtain⟨b,e2,h⟩:=a8y h
 obtain⟨hk,h⟩:=h
 split at hk
 ·rename_i ks hks
  simp only [Bool.and_eq_true,decide_eq_true_eq,Bool.not_eq_true'] at hk
  obtain⟨⟨h1,h2⟩,h3⟩:=hk
  have d1:dvs (o7 xs)=some (u.vals a):=by rw [e1,U.enc_vals u ks hks,List.map_map];exact a7f _
  have d2:dvs (o7 ys)=some (u.vals b):=by rw [e2,U.enc_vals u ks hks,List.map_map];exact a7f _
  unfold eqA
  rw [d1,d2]
  refine⟨⟨h1,?_,by rw [h3];exact U.vals_cks u ks hks a,by rw [h3];exact U.vals_cks u ks hks b⟩,?_⟩
  ·rw [h3];intro e;rw [e] at h2;cases h2
  ·exact⟨_,U.vals_beq u ks hks a b,h⟩
 ·cases hk
def b7c (TU:TypeId->Option U) (op:BinOp) (t:TypeId) (i:TI) (x y:TV):TQ TV:=match x,y with
 | .o (.agg xs),.o (.agg ys)=>match TU t,b0a op with
  | some u,some e=>(b7b u i xs ys).bind fun b=> .ret (c1 .bool (match e with | true=>b | false=> !b))
  | _,_=> .fail
 | x,y=>b22 op i.k x y
theorem b29 (TU:TypeId->Option U) (op:BinOp) (t:TypeId) (i:TI) (x y:TV):Sim TV.av (b7c TU op t i x y) (b5L op i x.av y.av):=by
 unfold b7c
 split
 ·rename_i xs ys
  split
  ·rename_i u e hu he
   show Sim TV.av _ (match b0a op with | some e=>(eqA i (o7 xs) (o7 ys)).bind fun b=> .ret (AV.c (.d (.v (.bool (match e with | true=>b | false=> !b))))) | none=> .fail)
   rw [he]
   exact Sim.bind (b28 u i xs ys) fun b=>Sim.ret (by cases e <;> rfl)
  ·exact Sim.fail
 ·exact b0X op i _ _
end Go.Proofs.Ythadhfbkhldblaa.Am
namespace Go.Proofs.Ythadhfbkhldblaa.Am
open Go
theorem b4N:∀ {u:U} {x:u.den} {off:Nat} {v:U} {y:v.den} {r:u.den},b5y u x off v y=some r->u.enc r=setAt (u.enc x) off (v.enc y)/\off + v.size<=u.size:=by
 have base:∀ (u:U) (x:u.den) (off:Nat) (v:U) (y:v.den) (r:u.den),(match decEq v u with | .isTrue h=>(match off with | 0=>some (a0q h y) | _ + 1=>none) | .isFalse _=>(none:Option u.den))=some r->u.enc r=setAt (u.enc x) off (v.enc y)/\off + v.size<=u.size:=by
  intro u x off v y r h
  split at h
  ·rename_i e _
   subst e
   split at h
   ·injection h with h
    subst h
    refine⟨?_,by omega⟩
    show v.enc y=_
    unfold setAt
    rw [List.take_zero,Nat.zero_add,List.drop_eq_nil_of_le (by rw [U.enc_len,U.enc_len];exact Nat.le_refl _)]
    simp
   ·cases h
  ·cases h
 intro u
 induction u with
 | pr a b iha ihb=>
  intro x off v y r h
  unfold b5y at h
  split at h
  ·rename_i e he
   refine base (.pr a b) x off v y r ?_
   rw [he]
   exact h
  ·split at h
   ·rename_i hb
    obtain⟨p,h1,rfl⟩:=Option.map_eq_some_iff.1 h
    obtain⟨h2,h3⟩:=iha h1
    refine⟨?_,by simp only [U.size];omega⟩
    show a.enc p ++ b.enc x.2=setAt (a.enc x.1 ++ b.enc x.2) off (v.enc y)
    rw [h2,a4C _ _ _ _ (by rw [U.enc_len,U.enc_len];exact h3)]
   ·rename_i hb
    obtain⟨p,h1,rfl⟩:=Option.map_eq_some_iff.1 h
    obtain⟨h2,h3⟩:=ihb h1
    have hlt:a.size<=off:=by
     have:¬ off < a.size:=fun hl=>by have:=(Nat.blt_eq:(Nat.blt off a.size=true)=(off < a.size)).mpr hl;rw [this] at hb;cases hb
     omega
    refine⟨?_,by simp only [U.size];omega⟩
    show a.enc x.1 ++ b.enc p=setAt (a.enc x.1 ++ b.enc x.2) off (v.enc y)
    rw [h2]
    have:=a1C (a.enc x.1) (b.enc x.2) (off - a.size) (v.enc y)
    rw [U.enc_len,show a.size + (off - a.size)=off from by omega] at this
    exact this.symm
 | _=>intro x off v y r h;exact base _ x off v y r h
def b06 (off z k:Nat) (i:TI) (ps xs:List TC):TQ (List TC):=match b0Z off ps with
 | some A=> .req (Nat.beq z A.u.size && Nat.beq i.size A.u.size) (.req (decide (k < A.n)) ((b02 A.u xs).bind fun x=> .ret (A.pre ++ .ch (.arr A.n A.u) (b7Y A.v k x) :: A.post)))
 | none=> .fail
theorem b07 {off z k:Nat} {i:TI} {ps xs:List TC} {s:TSt} {tr:List G8} {K:List TC->List G8->Prop} (h:(b06 off z k i ps xs).wpt s tr K) :
  ∃ qs,o7 qs=setAt (o7 ps) (off + k * z) (o7 xs)/\(o7 xs).length=i.size/\off + k * z + i.size<=(o7 ps).length/\K qs tr:=by
 unfold b06 at h
 split at h
 ·rename_i A hA
  obtain⟨h1,h2,h⟩:=h
  rw [TQ.wpt_bind] at h
  obtain⟨x,e,h⟩:=a5t h
  rw [Bool.and_eq_true] at h1
  have e1:=Nat.eq_of_beq_eq_true h1.1
  have e2:=Nat.eq_of_beq_eq_true h1.2
  have hk:=of_decide_eq_true h2
  obtain⟨c1,c2⟩:=a8t hA
  have hlen:((U.arr A.n A.u).enc A.v).length=A.n * A.u.size:=U.enc_len _ _
  have hle:(k + 1) * A.u.size<=A.n * A.u.size:=Nat.mul_le_mul_right _ hk
  rw [Nat.succ_mul] at hle
  have hx:(o7 xs).length=A.u.size:=by rw [e,List.length_map,U.enc_len]
  refine⟨_,?_,by rw [hx,e2],?_,h⟩
  ·rw [P1,o7,c1,e1,<-c2]
   have hs:(U.arr A.n A.u).enc (b7Y A.v k x)=setAt ((U.arr A.n A.u).enc A.v) (k * A.u.size) (A.u.enc x):=
    a8v (f:=A.u.enc) (l:=A.v.toList) (fun y _=>A.u.enc_len y) (A.u.enc_len x) (by simpa using hk)
   rw [b00 _ _ _ _ _ (by rw [hx,List.length_map,hlen];omega),e,<-b01,<-hs,List.append_assoc]
   rfl
  ·rw [c1,e1,e2]
   simp only [List.length_append,List.length_map,hlen,c2]
   omega
 ·exact h.elim
def b7d (u:U) (x:u.den) (off:Nat) (v:U) (y:v.den):TQ u.den:=match decEq v u with
 | .isTrue h=>match off with
  | 0=> .ret (a0q h y)
  | _ + 1=> .fail
 | .isFalse _=> .ofOpt (b5y u x off v y)
theorem b4O {u:U} {x:u.den} {off:Nat} {v:U} {y:v.den} {s:TSt} {tr:List G8} {K:u.den->List G8->Prop} (h:(b7d u x off v y).wpt s tr K):∃ r,u.enc r=setAt (u.enc x) off (v.enc y)/\off + v.size<=u.size/\K r tr:=by
 unfold b7d at h
 split at h
 ·rename_i e _
  split at h
  ·refine⟨_,?_,by rw [e];omega,h⟩
   rw [a02]
   unfold setAt
   rw [List.take_zero,Nat.zero_add,List.drop_eq_nil_of_le (by rw [U.enc_len,U.enc_len,e];exact Nat.le_refl _)]
   simp
  ·exact h.elim
 ·cases he:b5y u x off v y with
  | none=>rw [he] at h;exact h.elim
  | some r=>
   rw [he] at h
   obtain⟨h1,h2⟩:=b4N he
   exact⟨r,h1,h2,h⟩
def b08 (TU:TypeId->Option U) (t:TypeId) (i:TI) (xs:List TC):TV->TQ (List P2)
 | .o (.c (.ptr id ver off))=> .rdB id fun b=>match b.c with
  | some ps=> .req (Nat.beq ver b.ver && Nat.beq (b0T xs) i.size) ((TQ.ofOpt (b5x ps off xs)).bind fun qs=> .ret [.b id ⟨b.ver,some qs⟩])
  | none=> .fail
 | .o (.c (.pa id ver off z k))=> .rdB id fun b=>match b.c with
  | some ps=> .req (Nat.beq ver b.ver) ((b06 off z k i ps xs).bind fun qs=> .ret [.b id ⟨b.ver,some qs⟩])
  | none=> .fail
 | .o (.c (.rp id ver k off sz))=>match TU t with
  | some v=>(Z6 v xs).bind fun d=>(V1 d.fz).bind fun us=> .rdR id fun r=>match r.c with
   | some R=> .req (Nat.beq ver r.ver && Nat.beq sz R.u.size && !R.fr && !(d.fz.contains id) && Nat.beq v.size i.size) (.req (decide (k < R.l.length))
    ((b7d R.u (R.l.getD k R.u.dflt) off v d.x).bind fun x=> .ret (us ++ [.r id ⟨r.ver,some ⟨R.u,R.l.set k x,R.e,false⟩⟩])))
   | none=> .fail
  | none=> .fail
 | _=> .fail
theorem b3a {α β:Type} (f:α->β) (l:List α) (k:Nat) (x:α):(l.set k x).map f=(l.map f).set k (f x):=by
 rw [List.map_set]
theorem a9D (TU:TypeId->Option U) (t:TypeId) (i:TI) (xs:List TC) (x:TV):Sim US (b08 TU t i xs x) (a5W i (o7 xs) x.av):=by
 unfold b08
 split
 ·rename_i id ver off
  refine Sim.rdB fun b=>?_
  obtain⟨bv,c⟩:=b
  cases c with
  | none=>exact Sim.fail
  | some ps=>
   refine Sim.chk fun h=>?_
   rw [Bool.and_eq_true] at h
   have e1:=Nat.eq_of_beq_eq_true h.1
   have e2:=Nat.eq_of_beq_eq_true h.2
   rw [<-a13] at e2
   simp only
   cases hs:b5x ps off xs with
   | none=>exact Sim.fail
   | some qs=>
    obtain⟨h1,h2⟩:=b0U hs
    refine Sim.must ⟨e1,e2,by rw [<-e2];exact h2⟩ (Sim.ret ?_)
    show _=[Upd.b id ⟨bv,some (o7 qs)⟩]
    rw [h1]
    rfl
 ·rename_i id ver off z k
  refine Sim.rdB fun b=>?_
  obtain⟨bv,c⟩:=b
  cases c with
  | none=>exact Sim.fail
  | some ps=>
   refine Sim.chk fun h s tr K hK=>?_
   simp only at hK
   rw [TQ.wpt_bind] at hK
   obtain⟨qs,h1,h2,h3,hK⟩:=b07 hK
   refine⟨⟨Nat.eq_of_beq_eq_true h,h2,h3⟩,?_⟩
   refine⟨_,?_,hK⟩
   show _=[Upd.b id ⟨bv,some (o7 qs)⟩]
   rw [h1]
   rfl
 ·rename_i id ver k off sz
  cases TU t with
  | none=>exact Sim.fail
  | some v=>
   show Sim US _ ((a1m (o7 xs)).bind fun d=>(R3 d.2).bind fun us=> .rdR id fun r=>match r.c with
    | some R=> .req (ver=r.ver/\sz=R.sz/\R.fr=false/\id ∉ d.2/\k < R.es.length/\d.1.length=i.size/\off + i.size<=sz) (.ret (us ++ [.r id ⟨r.ver,some ⟨R.es.set k (setAt (R.es.getD k []) off d.1),R.sz,R.e,false⟩⟩]))
    | none=> .fail)
   refine Sim.bind (O3 v xs) fun d=>Sim.bind (I5 d.fz) fun us=>Sim.rdR fun r=>?_
   obtain⟨rv,c⟩:=r
   cases c with
   | none=>exact Sim.fail
   | some R=>
    refine Sim.chk fun h=>Sim.chk fun h0 s tr K hK=>?_
    simp only [Bool.and_eq_true] at h
    obtain⟨⟨⟨⟨a1,a2⟩,a3⟩,a4⟩,a5⟩:=h
    have e1:=Nat.eq_of_beq_eq_true a1
    have e2:=Nat.eq_of_beq_eq_true a2
    have e5:=Nat.eq_of_beq_eq_true a5
    have hk:=of_decide_eq_true h0
    simp only at hK
    rw [TQ.wpt_bind] at hK
    obtain⟨x,h1,h2,hK⟩:=b4O hK
    have hg:(R.l.map R.u.enc).getD k []=R.u.enc (R.l.getD k R.u.dflt):=a1D _ hk _ _
    refine⟨⟨e1,e2,by show R.fr=false;simpa using a3,by simpa using a4,?_,?_,?_⟩,⟨_,?_,hK⟩⟩
    ·show k < (R.l.map R.u.enc).length
     rw [List.length_map];exact hk
    ·rw [U.enc_len,e5]
    ·rw [e2,<-e5];exact h2
    ·show us.map P2.upd ++ [Upd.r id ⟨rv,some ⟨(R.l.map R.u.enc).set k (setAt ((R.l.map R.u.enc).getD k []) off (v.enc d.x)),R.u.size,R.e,false⟩⟩]=US (us ++ [_])
     rw [hg,<-h1,<-b3a]
     simp only [US,List.map_append,List.map_cons,List.map_nil]
     rfl
 ·exact Sim.fail
def b09 (o:Nat):TV->TQ TV
 | .o (.c (.ptr id ver off))=> .rdB id fun b=> .req (Nat.beq ver b.ver && b.c.isSome) (.ret (.o (.c (.ptr id ver (off + o)))))
 | .o (.c (.ep u x off))=> .ret (.o (.c (.ep u x (off + o))))
 | .o (.c (.rp id ver k off sz))=> .rdR id fun r=> .req (Nat.beq ver r.ver && r.c.isSome) (.ret (.o (.c (.rp id ver k (off + o) sz))))
 | _=> .fail
theorem a7g (b:TBS):(b.bs.c.isSome)=b.c.isSome:=by simp [TBS.bs]
theorem b1a (b:TRS):(b.rs.c.isSome)=b.c.isSome:=by simp [TRS.rs]
theorem a9E (o:Nat) (x:TV):Sim TV.av (b09 o x) (a5X o x.av):=by
 unfold b09
 split
 ·refine Sim.rdB fun b=>Sim.req (fun h=>?_) fun _=>Sim.ret rfl
  rw [Bool.and_eq_true] at h
  exact⟨Nat.eq_of_beq_eq_true h.1,by rw [a7g];exact h.2⟩
 ·refine Sim.ret ?_
  simp only [TV.av,T1.av,TC.cells,R9,List.drop_drop]
 ·refine Sim.rdR fun b=>Sim.req (fun h=>?_) fun _=>Sim.ret rfl
  rw [Bool.and_eq_true] at h
  exact⟨Nat.eq_of_beq_eq_true h.1,by rw [b1a];exact h.2⟩
 ·exact Sim.fail
def b1b (z:Nat) (k:Int):TV->TQ TV
 | .o (.c (.ch (.sl u) l))=> .req (Nat.beq u.size z) (.req (decide (0<=k/\k < (List.length l:Nat))) (.ret (.o (.c (.ep u (List.getD l k.toNat u.dflt) 0)))))
 | .o (.c (.row id ver))=> .rdR id fun r=>match r.c with
  | some R=> .req (Nat.beq ver r.ver && Nat.beq R.u.size z && decide (R.e < Q5)) (.req (decide (0<=k/\k < (R.l.length:Nat))) (.ret (.o (.c (.rp id ver k.toNat 0 z)))))
  | none=> .fail
 | _=> .fail
theorem a9F (z:Nat) (k:Int) (x:TV):Sim TV.av (b1b z k x) (a5Y z k x.av):=by
 unfold b1b
 split
 ·rename_i u l
  refine Sim.chk fun h=>Sim.chk fun h0=>?_
  have e1:=Nat.eq_of_beq_eq_true h
  have hk:=of_decide_eq_true h0
  have hk2:k.toNat < List.length l:=by omega
  have hg:(List.map u.enc l).getD k.toNat []=u.enc (List.getD l k.toNat u.dflt):=a1D _ hk2 _ _
  show Sim TV.av _ (.req (0<=k/\k < (List.map u.enc l).length/\((List.map u.enc l).getD k.toNat []).length=z) (.ret (.c (.eptr ((List.map u.enc l).getD k.toNat [])))))
  rw [hg]
  have hlen:(List.map u.enc l).length=List.length l:=List.length_map ..
  exact Sim.must ⟨hk.1,by rw [hlen];exact hk.2,by rw [U.enc_len,e1]⟩ (Sim.ret rfl)
 ·rename_i id ver
  refine Sim.rdR fun r=>?_
  obtain⟨rv,c⟩:=r
  cases c with
  | none=>exact Sim.fail
  | some R=>
   refine Sim.chk fun h=>Sim.chk fun h0=>?_
   rw [Bool.and_eq_true,Bool.and_eq_true] at h
   have hk:=of_decide_eq_true h0
   refine Sim.must ⟨Nat.eq_of_beq_eq_true h.1.1,hk.1,?_,Nat.eq_of_beq_eq_true h.1.2,of_decide_eq_true h.2⟩ (Sim.ret rfl)
   show k < (R.l.map R.u.enc).length
   rw [List.length_map];exact hk.2
 ·exact Sim.fail
def a7h (n z:Nat) (k:Int):TV->TQ TV
 | .o (.c (.ptr id ver off))=> .rdB id fun b=> .req (Nat.beq ver b.ver && b.c.isSome) (.req (decide (0<=k/\k < (n:Int))) (.ret (.o (.c (.pa id ver off z k.toNat)))))
 | .o (.c (.ep u x off))=> .req (decide (0<=k/\k < (n:Int))) (.ret (.o (.c (.ex u x off z k.toNat))))
 | _=> .fail
theorem a7i (n z:Nat) (k:Int) (x:TV):Sim TV.av (a7h n z k x) (a3i n z k x.av):=by
 unfold a7h
 split
 ·refine Sim.rdB fun b=>Sim.chk fun h=>Sim.req (fun h0=>?_) fun _=>Sim.ret rfl
  rw [Bool.and_eq_true] at h
  have hk:=of_decide_eq_true h0
  exact⟨hk.1,hk.2,Nat.eq_of_beq_eq_true h.1,by rw [a7g];exact h.2⟩
 ·refine Sim.req of_decide_eq_true fun _=>Sim.ret ?_
  simp only [TV.av,T1.av,TC.cells,R9,List.drop_drop]
 ·exact Sim.fail
def a7j (u:U) (n:Nat) (ie:TI) (k:Int):TV->TQ TV
 | .o (.agg ps)=>(Z6 (.arr n u) ps).bind fun d=> .req (d.fz.isEmpty && Nat.beq u.size ie.size && decide (0<=k/\k < n)) (b2q ie [.ch u (b2o (d.x:Vector u.den n) k.toNat u.dflt)])
 | _=> .fail
theorem a7k (u:U) (n:Nat) (ie:TI) (k:Int) (x:TV):Sim TV.av (a7j u n ie k x) (a4Y n ie k x.av):=by
 unfold a7j
 split
 ·rename_i ps
  refine Sim.bind (O3 (.arr n u) ps) fun d=>Sim.chk fun h=>?_
  simp only [Bool.and_eq_true] at h
  obtain⟨⟨h1,h2⟩,h3⟩:=h
  have h2:=Nat.eq_of_beq_eq_true h2
  have h3:=of_decide_eq_true h3
  have hk:k.toNat < n:=by omega
  refine Sim.must ⟨List.isEmpty_iff.1 h1,h3.1,h3.2,by rw [<-h2];exact U.enc_len (.arr n u) d.x⟩ ?_
  have key:((((U.arr n u).enc d.x).drop (k.toNat * ie.size)).take ie.size).map AC.d=o7 [.ch u (b2o (d.x:Vector u.den n) k.toNat u.dflt)]:=by
   rw [<-h2]
   exact(congrArg (List.map AC.d) (a8w (v:=(d.x:Vector u.den n)) hk)).trans (List.append_nil _).symm
  rw [key]
  exact a0s ie _
 ·exact Sim.fail
def a7l (off:Nat) (ie:TI):TV->TQ TV
 | .o (.agg ps)=>(TQ.ofOpt (b32 off ie.size ps)).bind fun qs=>b2q ie qs
 | _=> .fail
theorem a7m (off:Nat) (ie:TI) (x:TV):Sim TV.av (a7l off ie x) (a3j off ie x.av):=by
 unfold a7l
 split
 ·rename_i ps
  refine a21 (q:=a3j off ie (TV.av (.o (.agg ps)))) fun qs h1 h2=>?_
  show Sim TV.av (b2q ie qs) (asV ie (((o7 ps).drop off).take ie.size))
  rw [<-h1]
  exact a0s ie _
 ·exact Sim.fail
theorem a4F {u:U}:∀ (l:List u.den) (n:Nat),l.length=n->a3k u.size n (l.flatMap u.enc)=l.map u.enc
 | [],n,h=>by subst h;rfl
 | a :: l,n,h=>by
  subst h
  have e:(u.enc a).length=u.size:=u.enc_len a
  show((u.enc a ++ l.flatMap u.enc).take u.size) :: a3k u.size l.length ((u.enc a ++ l.flatMap u.enc).drop u.size)=u.enc a :: l.map u.enc
  rw [<-e,List.take_left,List.drop_left,e,a4F l _ rfl]
def b4P (d k:Nat) (f:FuncId):TV->TQ (List P2)
 | .o (.c (.ptr id ver off))=> .rdB id fun b=>match b.c with
  | some [.ch u x]=> .req (Nat.beq off 0 && Nat.beq ver b.ver && !(Nat.beq k d)) (.ret [.b id ⟨b.ver,none⟩,.t k ⟨true,.o (.c (.ep u x 0))⟩,.t d ⟨true,.o (.c (.clo f u x))⟩])
  | _=> .fail
 | .o (.c (.ep u x off))=> .req (Nat.beq off 0) (.ret [.t d ⟨true,.o (.c (.clo f u x))⟩])
 | _=> .fail
theorem b1c (d k:Nat) (f:FuncId) (x:TV):Sim US (b4P d k f x) (b6O d k f x.av):=by
 unfold b4P
 split
 ·refine Sim.rdB fun b=>?_
  obtain⟨bv,c⟩:=b
  simp only
  split
  ·rename_i u x
   show Sim US _ ((a1m (o7 [.ch u x])).bind fun y=>Q.req _ (.ret _))
   have e:o7 [.ch u x]=(u.enc x).map .d:=List.append_nil _
   rw [e]
   intro s tr K h
   rw [Q.wpt_bind]
   refine a7d s.st ⟨?_,?_⟩
   ·have h1:=h.1
    rw [Bool.and_eq_true,Bool.and_eq_true] at h1
    exact⟨Nat.eq_of_beq_eq_true h1.1.1,Nat.eq_of_beq_eq_true h1.1.2,rfl,fun e=>by have h2:=h1.2;rw [e,Nat.beq_refl] at h2;cases h2⟩
   ·exact⟨_,rfl,h.2⟩
  ·exact Sim.fail
 ·exact Sim.chk fun h=>by rw [Nat.eq_of_beq_eq_true h];exact Sim.ret rfl
 ·exact Sim.fail
def a7n (d:Option Nat) (u:U) (n:Nat) (ie:TI) (l h:Option Int):TV->TQ (List P2)
 | .o (.c (.ptr id ver off))=> .req (l.isNone && h.isNone) ((TQ.ofOpt d).bind fun d=> .rdB id fun b=>match b.c with
  | some ps=>(Z6 (.arr n u) ps).bind fun y=> .req (Nat.beq off 0 && Nat.beq ver b.ver && y.fz.isEmpty && Nat.beq u.size ie.size && Nat.blt 0 u.size && Nat.ble n maxLen) (.ret [.b id ⟨b.ver,none⟩,.t d ⟨true,.o (.c (.ch (.sl u) (Vector.toList (y.x:Vector u.den n))))⟩])
  | none=> .fail)
 | _=> .fail
theorem a7o (d:Option Nat) (u:U) (n:Nat) (ie:TI) (l h:Option Int) (x:TV):Sim US (a7n d u n ie l h x) (a1u d n ie.size l h x.av):=by
 unfold a7n
 split
 ·rename_i id ver off
  refine Sim.req (fun h0=>?_) fun _=>?_
  ·simp only [Bool.and_eq_true,Option.isNone_iff_eq_none] at h0
   exact h0
  refine Sim.bind (H9 d) fun d=>?_
  show Sim US _ (a4Z d n ie.size (.ptr id ver off))
  unfold a4Z
  refine Sim.rdB fun b=>?_
  obtain⟨bv,c⟩:=b
  cases c with
  | none=>exact Sim.fail
  | some ps=>
   refine Sim.bind (O3 (.arr n u) ps) fun y=>Sim.chk fun h1=>?_
   simp only [Bool.and_eq_true] at h1
   obtain⟨⟨⟨⟨⟨a1,a2⟩,a3⟩,a4⟩,a5⟩,a6⟩:=h1
   have a4:=Nat.eq_of_beq_eq_true a4
   refine Sim.must ⟨Nat.eq_of_beq_eq_true a1,Nat.eq_of_beq_eq_true a2,List.isEmpty_iff.1 a3,by rw [<-a4];exact U.enc_len (.arr n u) y.x,by rw [<-a4];exact Nat.le_of_ble_eq_true a5,Nat.le_of_ble_eq_true a6⟩ (Sim.ret ?_)
   have key:a3k ie.size n ((U.arr n u).enc y.x)=(Vector.toList (y.x:Vector u.den n)).map u.enc:=by
    rw [<-a4]
    exact a4F (Vector.toList (y.x:Vector u.den n)) n (Vector.length_toList)
   exact congrArg (fun z=>[Upd.b id ⟨bv,none⟩,Upd.t d ⟨true,.c (.d (.sl z))⟩]) key
 ·exact Sim.fail
def a7p (k:Int):TV->TQ TV
 | .o (.c (.ch .str l))=> .req (decide (0<=k/\k < (List.length l:Nat))) (.ret (c1 .byte (List.getD l k.toNat (0:UInt8))))
 | _=> .fail
theorem a7q (l:List UInt8):(⟨l.toArray⟩:ByteArray).size=l.length:=by simp [ByteArray.size]
theorem a7r (k:Int) (x:TV):Sim TV.av (a7p k x) (a3l k x.av):=by
 unfold a7p
 split
 ·refine Sim.req (fun h0=>?_) fun _=>Sim.ret rfl
  have hk:=of_decide_eq_true h0
  exact⟨hk.1,(congrArg (fun n:Nat=>k < (n:Int)) (a7q _)).mpr hk.2⟩
 ·exact Sim.fail
def b7e:TV->TQ Nat
 | .o (.c (.ch (.sl _) l))=> .ret (List.length l)
 | .o (.c .nil)=> .ret 0
 | .o (.c (.row id ver))=> .rdR id fun r=>match r.c with
  | some R=> .req (Nat.beq ver r.ver && decide (R.e < Q5)) (.ret R.l.length)
  | none=> .fail
 | _=> .fail
theorem b3b (x:TV):Sim id (b7e x) (b6N x.av):=by
 unfold b7e
 split
 ·exact Sim.ret (List.length_map ..)
 ·exact Sim.ret rfl
 ·refine Sim.rdR fun r=>?_
  obtain⟨rv,c⟩:=r
  cases c with
  | none=>exact Sim.fail
  | some R=>exact Sim.req (fun h=>by rw [Bool.and_eq_true] at h;exact⟨Nat.eq_of_beq_eq_true h.1,of_decide_eq_true h.2⟩) fun _=>Sim.ret (by simp [a2P.row])
 ·exact Sim.fail
def a7s:TV->TQ Nat
 | .o (.c (.ch .str l))=> .ret (List.length l)
 | _=> .fail
theorem a7t (x:TV):Sim id (a7s x) (a6Q x.av):=by
 unfold a7s
 split
 ·exact Sim.ret (a7q _)
 ·exact Sim.fail
def a5v (u:U) (x:TC):TQ (Pa (List u.den)):= .req (is1 x) (Z6 (.sl u) [x])
theorem a1E (u:U) (x:TC):Sim (fun p:Pa (List u.den)=>(DV.sl (p.x.map u.enc),p.fz)) (a5v u x) (toD (R9 x.cells)):=by
 refine Sim.chk fun h s tr K hK=>?_
 have e:o7 [x]=[R9 x.cells]:=(List.append_nil _).trans (a2E h)
 have h1:=O3 (.sl u) [x] s tr K hK
 rw [e] at h1
 simp only [a1m,Q.wpt_bind,Q.wpt] at h1
 refine Q.wpt_mono h1 ?_
 rintro⟨d,fz⟩ rs ⟨p,hp,hk⟩
 injection hp with hp1 hp2
 refine⟨p,?_,hk⟩
 simp only [List.append_nil] at hp2
 injection hp1 with hp1 _
 simp only at hp1 hp2
 rw [hp1,hp2]
def b35 (d:Nat) (u:U) (lo hi:Option Int) (x:TC):TQ (List P2):=(a5v u x).bind fun y=>(V1 y.fz).bind fun us=>
 .req (decide (0<=lo.getD 0/\lo.getD 0<=hi.getD (y.x.length:Nat)/\hi.getD (y.x.length:Nat)<=(y.x.length:Nat))) (.ret (us ++ [.t d ⟨true,c1 (.sl u) ((y.x.take (hi.getD (y.x.length:Nat)).toNat).drop (lo.getD 0).toNat)⟩]))
def b7Z (d:Nat) (u:U) (hi:Option Int):TC->TQ (List P2)
 | .row id ver=> .rdR d fun rd=> .rdR id fun r=>match r.c with
  | some R=>match decEq R.u u with
   | .isTrue h=> .req (Nat.beq ver r.ver && Nat.blt R.e Q5 && !R.fr && decide (0<=hi.getD ((h ▸ R.l:List u.den).length:Nat)/\hi.getD ((h ▸ R.l:List u.den).length:Nat)<=((h ▸ R.l:List u.den).length:Nat)))
    (.ret [.r id ⟨r.ver,none⟩,.r d ⟨rd.ver + 1,some ⟨u,(h ▸ R.l:List u.den).take (hi.getD ((h ▸ R.l:List u.den).length:Nat)).toNat,R.e,false⟩⟩,.t d ⟨true,.o (.c (.row d (rd.ver + 1)))⟩])
   | .isFalse _=> .fail
  | none=> .fail
 | _=> .fail
theorem b3c (d z:Nat) (u:U) (hz:u.size=z) (hi:Option Int) (x:TC):Sim US (b7Z d u hi x) (b4m d z hi (R9 x.cells)):=by
 cases x <;> try exact Sim.fail
 case row id ver=>
  refine Sim.rdR fun rd=>Sim.rdR fun r=>?_
  obtain⟨rv,c⟩:=r
  cases c with
  | none=>exact Sim.fail
  | some R=>
   obtain⟨ru,rl,re,rf⟩:=R
   simp only
   split
   ·rename_i hu he
    clear he
    change ru=u at hu
    subst hu
    have hl:((rl.map ru.enc).length:Int)=(rl.length:Nat):=by rw [List.length_map]
    show Sim US _ (.req (_/\_/\_/\_/\0<=hi.getD ((rl.map ru.enc).length:Nat)/\hi.getD ((rl.map ru.enc).length:Nat)<=((rl.map ru.enc).length:Nat)) (.ret [.r id ⟨rv,none⟩,.r d ⟨_,some ⟨(rl.map ru.enc).take (hi.getD ((rl.map ru.enc).length:Nat)).toNat,ru.size,re,false⟩⟩,_]))
    rw [hl]
    refine Sim.req (fun h=>?_) fun _=>Sim.ret ?_
    ·simp only [Bool.and_eq_true] at h
     obtain⟨⟨⟨a1,a2⟩,a3⟩,a4⟩:=h
     exact⟨Nat.eq_of_beq_eq_true a1,Nat.le_of_ble_eq_true a2,by show rf=false;simpa using a3,hz,of_decide_eq_true a4⟩
    ·simp only [US,List.map_cons,List.map_nil,<-List.map_take]
     rfl
   ·exact Sim.fail
theorem a4G (u:U) (l:List u.den):a4p u.size (l.map u.enc):=fun e he=>by
 obtain⟨x,_,rfl⟩:=List.mem_map.1 he
 exact u.enc_len x
theorem a9G (d z:Nat) (u:U) (hz:u.size=z) (lo hi:Option Int) (x:TC):Sim US (b35 d u lo hi x) (a4q d z lo hi (R9 x.cells)):=by
 refine Sim.bind (a1E u x) fun y=>Sim.bind (I5 y.fz) fun us=>?_
 have hl:((y.x.map u.enc).length:Int)=(y.x.length:Nat):=by rw [List.length_map]
 show Sim US _ (.req (a4p z (y.x.map u.enc)/\0<=lo.getD 0/\lo.getD 0<=hi.getD ((y.x.map u.enc).length:Nat)/\hi.getD ((y.x.map u.enc).length:Nat)<=((y.x.map u.enc).length:Nat)) (.ret (US us ++ [.t d ⟨true,.c (.d (.sl (((y.x.map u.enc).take (hi.getD ((y.x.map u.enc).length:Nat)).toNat).drop (lo.getD 0).toNat)))⟩])))
 rw [hl]
 refine Sim.req (fun h=>?_) fun _=>Sim.ret ?_
 ·have h1:=of_decide_eq_true h
  exact⟨hz ▸ a4G u _,h1⟩
 ·simp only [US,List.map_append,List.map_cons,List.map_nil,<-List.map_take,<-List.map_drop]
  rfl
def a7u (lo hi:Option Int):TV->TQ TV
 | .o (.c (.ch .str l))=> .req (decide (0<=lo.getD 0/\lo.getD 0<=hi.getD (List.length l:Nat)/\hi.getD (List.length l:Nat)<=(List.length l:Nat))) (.ret (c1 .str ((List.take (hi.getD (List.length l:Nat)).toNat l).drop (lo.getD 0).toNat)))
 | _=> .fail
theorem a9H (l:List UInt8) (a b:Nat):(⟨l.toArray⟩:ByteArray).extract a b=⟨((l.take b).drop a).toArray⟩:=by
 apply ByteArray.ext
 rw [ByteArray.data_extract]
 simp only [List.extract_toArray,List.extract_eq_take_drop]
 rw [List.drop_take]
theorem a7v (lo hi:Option Int) (x:TV):Sim TV.av (a7u lo hi x) (a1t lo hi x.av):=by
 unfold a7u
 split
 ·rename_i l
  have hl:((⟨List.toArray l⟩:ByteArray).size:Int)=(List.length l:Nat):=congrArg Nat.cast (a7q l)
  show Sim TV.av _ (.req (0<=lo.getD 0/\lo.getD 0<=hi.getD ((⟨List.toArray l⟩:ByteArray).size:Nat)/\hi.getD ((⟨List.toArray l⟩:ByteArray).size:Nat)<=((⟨List.toArray l⟩:ByteArray).size:Nat)) (.ret (.c (.d (.v (.string ((⟨List.toArray l⟩:ByteArray).extract (lo.getD 0).toNat (hi.getD ((⟨List.toArray l⟩:ByteArray).size:Nat)).toNat)))))))
  rw [hl]
  refine Sim.req (fun h=>of_decide_eq_true h) fun _=>Sim.ret ?_
  exact congrArg (fun b=>AV.c (AC.d (DV.v (Value.string b)))) (a9H l _ _)
 ·exact Sim.fail
end Go.Proofs.Ythadhfbkhldblaa.Am
namespace Go.Proofs.Ythadhfbkhldblaa.Am
open Go
def X6 {α β:Type} (eq:α->α->Bool) (k:α):List (α × β)->Option Nat
 | []=>none
 | p :: l=>if eq k p.1 then some 0 else(X6 eq k l).map (· + 1)
def a0K {α β:Type} (eq:α->α->Bool) (k:α) (v:β) (l:List (α × β)):List (α × β):=match X6 eq k l with
 | some i=>l.set i (k,v)
 | none=>l ++ [(k,v)]
def a39 {α β:Type} (eq:α->α->Bool) (k:α) (l:List (α × β)):List (α × β):=match X6 eq k l with
 | some i=>l.eraseIdx i
 | none=>l
def M8 {α β:Type} (eq:α->α->Bool) (k:α) (d:β) (l:List (α × β)):β:=((X6 eq k l).bind fun i=>(l[i]?).map (·.2)).getD d
def b1d:(K:U)->K.den->Option Value
 | .int k,n=>some (.int k n)
 | .str,l=>some (.string ⟨List.toArray l⟩)
 | _,_=>none
theorem a5w:∀ {K:U} {k:K.den} {v:Value},b1d K k=some v->K.enc k=[.v v]
 | .int _,_,_,h=>by injection h with h;subst h;rfl
 | .str,_,_,h=>by injection h with h;subst h;rfl
theorem a3H:∀ {K:U} {a b:K.den} {x y:Value},b1d K a=some x->b1d K b=some y->U3 x y=K.beq a b
 | .int _,a,b,_,_,h1,h2=>by
  injection h1 with h1;injection h2 with h2;subst h1;subst h2
  have e:∀ m n:Int,decide (m=n)=b4L m n:=fun m n=>by rw [<-b05,Bool.and_true];rfl
  exact e a b
 | .str,a,b,_,_,h1,h2=>by
  injection h1 with h1;injection h2 with h2;subst h1;subst h2
  have e:∀ m n:List UInt8,decide ((⟨m.toArray⟩:ByteArray).data.toList=(⟨n.toArray⟩:ByteArray).data.toList)=A8 m n:=fun m n=>by
   rfl
  exact e a b
theorem a8z:∀ {K:U} {a:K.den} {x:Value},b1d K a=some x->∀ b:K.den,∃ y,b1d K b=some y
 | .int _,_,_,_,_=>⟨_,rfl⟩
 | .str,_,_,_,_=>⟨_,rfl⟩
theorem a0h {K V:U} {k:K.den} {kv:Value} (hk:b1d K k=some kv):∀ l:List (K.den × V.den),a0C kv (l.map (U.pr K V).enc)=X6 K.beq k l
 | []=>rfl
 | p :: l=>by
  obtain⟨y,hy⟩:=a8z hk p.1
  have e1:(U.pr K V).enc p= .v y :: V.enc p.2:=by show K.enc p.1 ++ V.enc p.2=_;rw [a5w hy];rfl
  have e2:a0C kv ((U.pr K V).enc p :: List.map (U.pr K V).enc l)=X6 K.beq k (p :: l):=by
   rw [e1]
   unfold a0C X6
   show(if U3 kv y=true then some 0 else(a0C kv (List.map (U.pr K V).enc l)).map (· + 1))=_
   rw [a3H hk hy,a0h hk l]
  exact e2
theorem b1e {K V:U} {k:K.den} {kv:Value} (hk:b1d K k=some kv) (v:V.den):(U.pr K V).enc (k,v)= .v kv :: V.enc v:=by
 show K.enc k ++ V.enc v=_
 rw [a5w hk];rfl
theorem a2q {K V:U} {k:K.den} {kv:Value} (hk:b1d K k=some kv) (v:V.den) (l:List (K.den × V.den)):a2m kv (V.enc v) (l.map (U.pr K V).enc)=(a0K K.beq k v l).map (U.pr K V).enc:=by
 unfold a2m a0K
 rw [a0h hk]
 cases X6 K.beq k l with
 | none=>
  show l.map (U.pr K V).enc ++ [.v kv :: V.enc v]=(l ++ [(k,v)]).map (U.pr K V).enc
  rw [<-b1e hk v]
  exact(@List.map_append (U.pr K V).den _ (U.pr K V).enc l [(k,v)]).symm
 | some i=>
  show(l.map (U.pr K V).enc).set i (.v kv :: V.enc v)=(l.set i (k,v)).map (U.pr K V).enc
  rw [<-b1e hk v]
  exact(@List.map_set (U.pr K V).den _ (U.pr K V).enc l i (k,v)).symm
theorem a14 {α β:Type} (f:α->β):∀ (l:List α) (i:Nat),(l.map f).eraseIdx i=(l.eraseIdx i).map f
 | [],_=>rfl
 | _ :: _,0=>rfl
 | x :: l,i + 1=>by
  show f x :: (l.map f).eraseIdx i=f x :: (l.eraseIdx i).map f
  rw [a14 f l i]
theorem a9I {K V:U} {k:K.den} {kv:Value} (hk:b1d K k=some kv) (l:List (K.den × V.den)):b0b kv (l.map (U.pr K V).enc)=(a39 K.beq k l).map (U.pr K V).enc:=by
 unfold b0b a39
 rw [a0h hk]
 cases X6 K.beq k l with
 | none=>rfl
 | some i=>
  show(l.map (U.pr K V).enc).eraseIdx i=(l.eraseIdx i).map (U.pr K V).enc
  exact a14 (U.pr K V).enc l i
theorem a3I {α β:Type} {eq:α->α->Bool} {k:α}:∀ {l:List (α × β)} {i:Nat},X6 eq k l=some i->i < l.length
 | [],_,h=>by cases h
 | p :: l,i,h=>by
  unfold X6 at h
  split at h
  ·injection h with h;subst h;simp
  ·obtain⟨j,h1,rfl⟩:=Option.map_eq_some_iff.1 h
   have:=a3I h1
   simpa using this
theorem a6p {α β:Type} (f:α->β) {l:List α} {i:Nat} (hi:i < l.length) (d:β):(l.map f).getD i d=f l[i]:=by simp [List.getD_eq_getElem?_getD,hi]
theorem a3J {K V:U} {k:K.den} {kv:Value} (hk:b1d K k=some kv) (l:List (K.den × V.den)):(a1d kv (l.map (U.pr K V).enc)).getD (V.enc V.dflt)=V.enc (M8 K.beq k V.dflt l):=by
 unfold a1d M8
 rw [a0h hk]
 cases h:X6 K.beq k l with
 | none=>rfl
 | some i=>
  have hi:=a3I h
  have e:(l.map (U.pr K V).enc).getD i []=(U.pr K V).enc l[i]:=a6p (U.pr K V).enc hi []
  have hm:(((some i:Option Nat).bind fun i=>(l[i]?).map (·.2)).getD V.dflt)=l[i].2:=by rw [Option.bind_some,List.getElem?_eq_getElem hi];rfl
  obtain⟨y,hy⟩:=a8z hk l[i].1
  have e2:((U.pr K V).enc l[i]).drop 1=V.enc l[i].2:=by
   show(K.enc l[i].1 ++ V.enc l[i].2).drop 1=V.enc l[i].2
   rw [a5w hy];rfl
  exact(congrArg (List.drop 1) e).trans (e2.trans (congrArg V.enc hm.symm))
def V2:U->List Value
 | .int k=>[.int k 0]
 | .byte=>[.int .u8 0]
 | .bool=>[.bool false]
 | .str=>[.string ⟨#[]⟩]
 | .sl _=>[.slice none 0 0]
 | .pr a b=>V2 a ++ V2 b
 | .arr n u=>(List.replicate n (V2 u)).flatten
def noSl:U->Bool
 | .sl _=>false
 | .pr a b=>noSl a && noSl b
 | .arr _ u=>noSl u
 | _=>true
def okZ:U->Bool
 | .pr a b=>okZ a && okZ b
 | .arr _ u=>noSl u
 | _=>true
def a9J:U->List TC
 | .sl _=>[.nil]
 | .pr a b=>a9J a ++ a9J b
 | .int k=>[.ch (.int k) (0:Int)]
 | .byte=>[.ch .byte (0:UInt8)]
 | .bool=>[.ch .bool false]
 | .str=>[.ch .str ([]:List UInt8)]
 | .arr n u=>[.ch (.arr n u) (U.arr n u).dflt]
theorem a2F:∀ (u:U),(V2 u).map U4=u.enc u.dflt
 | .int _=>rfl
 | .byte=>rfl
 | .bool=>rfl
 | .str=>rfl
 | .sl _=>rfl
 | .pr a b=>by
  show(V2 a ++ V2 b).map U4=a.enc a.dflt ++ b.enc b.dflt
  rw [List.map_append,a2F a,a2F b]
 | .arr n u=>by
  show((List.replicate n (V2 u)).flatten).map U4=(Vector.toList (Vector.replicate n u.dflt)).flatMap u.enc
  rw [Vector.toList_replicate,List.map_flatten,List.map_replicate,a2F u,List.flatMap_def,List.map_replicate]
theorem a06:∀ (u:U),noSl u=true->(V2 u).map M3=((V2 u).map U4).map .d
 | .int _,_=>rfl
 | .byte,_=>rfl
 | .bool,_=>rfl
 | .str,_=>rfl
 | .sl _,h=>by cases h
 | .pr a b,h=>by
  simp only [noSl,Bool.and_eq_true] at h
  show(V2 a ++ V2 b).map M3=((V2 a ++ V2 b).map U4).map .d
  rw [List.map_append,List.map_append,List.map_append,a06 a h.1,a06 b h.2]
 | .arr n u,h=>by
  show((List.replicate n (V2 u)).flatten).map M3=(((List.replicate n (V2 u)).flatten).map U4).map .d
  rw [List.map_flatten,List.map_replicate,a06 u h,List.map_flatten,List.map_replicate,List.map_flatten,List.map_replicate]
theorem a5x:∀ (u:U),okZ u=true->o7 (a9J u)=(V2 u).map M3
 | .int _,_=>rfl
 | .byte,_=>rfl
 | .bool,_=>rfl
 | .str,_=>rfl
 | .sl _,_=>rfl
 | .pr a b,h=>by
  simp only [okZ,Bool.and_eq_true] at h
  show o7 (a9J a ++ a9J b)=(V2 a ++ V2 b).map M3
  rw [P1,a5x a h.1,a5x b h.2,List.map_append]
 | .arr n u,h=>by
  rw [a06 (.arr n u) h,a2F]
  exact L2 _ _
def b4Q:Value->Value->Bool
 | .int k n,.int k' n'=>decide (k=k') && decide (n=n')
 | .bool a,.bool b=>a == b
 | .string a,.string b=>decide (a.data.toList=b.data.toList)
 | .slice none 0 0,.slice none 0 0=>true
 | _,_=>false
theorem b3d {a b:Value} (h:b4Q a b=true):a=b:=by
 unfold b4Q at h
 split at h
 ·rw [Bool.and_eq_true,decide_eq_true_eq,decide_eq_true_eq] at h;rw [h.1,h.2]
 ·rw [beq_iff_eq] at h;rw [h]
 ·rename_i a b
  have h:=of_decide_eq_true h
  obtain⟨⟨a⟩⟩:=a
  obtain⟨⟨b⟩⟩:=b
  simp only at h
  rw [h]
 ·rfl
 ·cases h
def a6q:List Value->List Value->Bool
 | [],[]=>true
 | a :: as,b :: bs=>b4Q a b && a6q as bs
 | _,_=>false
theorem a07:∀ {a b:List Value},a6q a b=true->a=b
 | [],[],_=>rfl
 | a :: as,b :: bs,h=>by
  simp only [a6q,Bool.and_eq_true] at h
  rw [b3d h.1,a07 h.2]
def isKey:U->Bool
 | .int _=>true
 | .str=>true
 | _=>false
def kOk:TK->U->Bool
 | .int q,.int k=>decide (k=q)
 | .str,.str=>true
 | _,_=>false
theorem Z2:∀ {K:U},isKey K=true->∀ k:K.den,b1d K k=some (Z1 K k)
 | .int _,_,_=>rfl
 | .str,_,_=>rfl
theorem a4H:∀ {q:TK} {K:U},kOk q K=true->∀ k:K.den,KK q (Z1 K k)
 | .int q,.int k,h,_=>(of_decide_eq_true h:k=q)
 | .str,.str,_,_=>trivial
theorem U7 {q:TK} {K V:U} (hk:isKey K=true) (ho:kOk q K=true) (l:List (K.den × V.den)):a0N q (l.map (U.pr K V).enc):=fun e he=>by
 obtain⟨p,_,rfl⟩:=List.mem_map.1 he
 exact⟨Z1 K p.1,V.enc p.2,b1e (Z2 hk p.1) p.2,a4H ho p.1⟩
def a9K (K:U):TV->TQ K.den
 | .o (.c (.ch u x))=>match decEq u K with
  | .isTrue h=> .ret (a0q h x)
  | .isFalse _=> .fail
 | _=> .fail
theorem a22 {K:U} (hk:isKey K=true) (x:TV):Sim (Z1 K) (a9K K x) (b2n x.av):=by
 unfold a9K
 split
 ·rename_i u y
  split
  ·rename_i h _
   subst h
   cases u <;> first | exact Sim.ret rfl | cases hk
  ·exact Sim.fail
 ·exact Sim.fail
structure Lk (α:Type) where
 x:α
 b:Bool
def b4R (K V:U) (iv:TI) (k:K.den):TV->TQ (Lk V.den)
 | .o (.c (.row id ver))=> .rdR id fun r=>match r.c with
  | some R=>match decEq R.u (.pr K V) with
   | .isTrue h=> .req (Nat.beq ver r.ver && Nat.beq R.e (mE iv.agg)) (.ret ⟨M8 K.beq k V.dflt (h ▸ R.l:List (U.pr K V).den),(X6 K.beq k (h ▸ R.l:List (U.pr K V).den)).isSome⟩)
   | .isFalse _=> .fail
  | none=> .fail
 | _=> .fail
theorem b1f {K V:U} {ik iv:TI} (hk:isKey K=true) (ho:kOk ik.k K=true) (hz:iv.zero=V2 V) (k:K.den) (x:TV) :
  Sim (fun p:Lk V.den=>(V.enc p.x,p.b)) (b4R K V iv k x) (b0c ik iv (Z1 K k) x.av):=by
 unfold b4R
 split
 ·refine Sim.rdR fun r=>?_
  obtain⟨rv,c⟩:=r
  cases c with
  | none=>exact Sim.fail
  | some R=>
   obtain⟨ru,rl,re,rf⟩:=R
   simp only
   split
   ·rename_i hu he
    clear he
    change ru=U.pr K V at hu
    subst hu
    refine Sim.req (fun h=>?_) fun _=>Sim.ret ?_
    ·rw [Bool.and_eq_true] at h
     exact⟨Nat.eq_of_beq_eq_true h.1,Nat.eq_of_beq_eq_true h.2,a4H ho k,U7 hk ho rl⟩
    ·have h1:=a3J (V:=V) (Z2 hk k) rl
     have h2:=a0h (V:=V) (Z2 hk k) rl
     rw [hz,a2F V]
     exact Prod.ext h1 (congrArg Option.isSome h2)
   ·exact Sim.fail
 ·exact Sim.fail
def a5y (ag:Bool):TV->TQ (List TC)
 | .o (.c x)=> .req (!ag && is1 x) (.ret [x])
 | .o (.agg xs)=> .req ag (.ret xs)
 | _=> .fail
theorem a3K (ag:Bool) (x:TV):Sim o7 (a5y ag x) (a3m ag x.av):=by
 unfold a5y
 split
 ·rename_i x
  refine Sim.req (fun h=>by rw [Bool.and_eq_true] at h;simpa using h.1) fun h=>Sim.ret ?_
  rw [Bool.and_eq_true] at h
  show [R9 x.cells]=x.cells ++ []
  rw [List.append_nil]
  exact(a2E h.2).symm
 ·exact Sim.req id fun _=>Sim.ret rfl
 ·exact Sim.fail
def b4S (K V:U) (iv:TI) (k:K.den) (xs:List TC):TV->TQ (List P2)
 | .o (.c (.row id ver))=>(Z6 V xs).bind fun d=>(V1 d.fz).bind fun us=> .rdR id fun r=>match r.c with
  | some R=>match decEq R.u (.pr K V) with
   | .isTrue h=> .req (Nat.beq ver r.ver && Nat.beq R.e (mE iv.agg) && !R.fr && !(d.fz.contains id)) (.ret (us ++ [.r id ⟨r.ver,some ⟨.pr K V,a0K K.beq k d.x (h ▸ R.l:List (U.pr K V).den),R.e,false⟩⟩]))
   | .isFalse _=> .fail
  | none=> .fail
 | _=> .fail
theorem a5z:∀ {K:U},isKey K=true->K.size=1
 | .int _,_=>rfl
 | .str,_=>rfl
theorem b1g {K V:U} {ik iv:TI} (hk:isKey K=true) (ho:kOk ik.k K=true) (hs:V.size=iv.size) (k:K.den) (xs:List TC) (x:TV) :
  Sim US (b4S K V iv k xs x) (b5M ik iv (Z1 K k) (o7 xs) x.av):=by
 unfold b4S
 split
 ·rename_i id ver
  refine Sim.bind (O3 V xs) fun d=>Sim.bind (I5 d.fz) fun us=>Sim.rdR fun r=>?_
  obtain⟨rv,c⟩:=r
  cases c with
  | none=>exact Sim.fail
  | some R=>
   obtain⟨ru,rl,re,rf⟩:=R
   simp only
   split
   ·rename_i hu he
    clear he
    change ru=U.pr K V at hu
    subst hu
    refine Sim.req (fun h=>?_) fun _=>Sim.ret ?_
    ·simp only [Bool.and_eq_true] at h
     obtain⟨⟨⟨a1,a2⟩,a3⟩,a4⟩:=h
     refine⟨Nat.eq_of_beq_eq_true a1,Nat.eq_of_beq_eq_true a2,?_,by show rf=false;simpa using a3,by simpa using a4,by rw [U.enc_len,hs],a4H ho k,U7 hk ho rl⟩
     show K.size + V.size=1 + iv.size
     rw [a5z hk,hs]
    ·have h1:=a2q (V:=V) (Z2 hk k) d.x rl
     show us.map P2.upd ++ [Upd.r id ⟨rv,some ⟨a2m (Z1 K k) (V.enc d.x) (rl.map (U.pr K V).enc),(U.pr K V).size,re,false⟩⟩]=US (us ++ [_])
     rw [h1]
     simp only [US,List.map_append,List.map_cons,List.map_nil]
     rfl
   ·exact Sim.fail
 ·exact Sim.fail
def b4T (K V:U) (iv:TI) (k:K.den):TV->TQ (List P2)
 | .o (.c (.row id ver))=> .rdR id fun r=>match r.c with
  | some R=>match decEq R.u (.pr K V) with
   | .isTrue h=> .req (Nat.beq ver r.ver && Nat.beq R.e (mE iv.agg) && !R.fr) (.ret [.r id ⟨r.ver,some ⟨.pr K V,a39 K.beq k (h ▸ R.l:List (U.pr K V).den),R.e,false⟩⟩])
   | .isFalse _=> .fail
  | none=> .fail
 | _=> .fail
theorem b1h {K V:U} {ik iv:TI} (hk:isKey K=true) (ho:kOk ik.k K=true) (k:K.den) (x:TV) :
  Sim US (b4T K V iv k x) (b6P ik iv (Z1 K k) x.av):=by
 unfold b4T
 split
 ·rename_i id ver
  refine Sim.rdR fun r=>?_
  obtain⟨rv,c⟩:=r
  cases c with
  | none=>exact Sim.fail
  | some R=>
   obtain⟨ru,rl,re,rf⟩:=R
   simp only
   split
   ·rename_i hu he
    clear he
    change ru=U.pr K V at hu
    subst hu
    refine Sim.req (fun h=>?_) fun _=>Sim.ret ?_
    ·simp only [Bool.and_eq_true] at h
     exact⟨Nat.eq_of_beq_eq_true h.1.1,Nat.eq_of_beq_eq_true h.1.2,by show rf=false;simpa using h.2,a4H ho k,U7 hk ho rl⟩
    ·have h1:=a9I (V:=V) (Z2 hk k) rl
     show [Upd.r id ⟨rv,some ⟨b0b (Z1 K k) (rl.map (U.pr K V).enc),(U.pr K V).size,re,false⟩⟩]=US [_]
     rw [h1]
     rfl
   ·exact Sim.fail
 ·exact Sim.fail
theorem b1i {a b:Nat} (h:(!(Nat.beq a b))=true):a ≠ b:=fun e=>by
 subst e
 rw [Nat.beq_refl] at h
 cases h
def b3e (e:Nat):Bool:=Nat.ble a9b e && Nat.blt e J4
theorem a8A {e:Nat} (h:(!(b3e e))=true):¬ P7 e:=fun k=>by
 have h1:Nat.ble a9b e=true:=Nat.ble_eq_true_of_le k.1
 have h2:Nat.blt e J4=true:=Nat.ble_eq_true_of_le k.2
 unfold b3e at h
 rw [h1,h2] at h
 cases h
def a7w:TV->TQ Nat
 | .o (.c (.row id ver))=> .rdR id fun r=>match r.c with
  | some R=> .req (Nat.beq ver r.ver && Nat.ble Q5 R.e && !(Nat.beq R.e a0H) && !(b3e R.e)) (.ret R.l.length)
  | none=> .fail
 | _=> .fail
theorem a7x (x:TV):Sim id (a7w x) (a43 x.av):=by
 unfold a7w
 split
 ·refine Sim.rdR fun r=>?_
  obtain⟨rv,c⟩:=r
  cases c with
  | none=>exact Sim.fail
  | some R=>exact Sim.req (fun h=>by simp only [Bool.and_eq_true] at h;exact⟨Nat.eq_of_beq_eq_true h.1.1.1,Nat.le_of_ble_eq_true h.1.1.2,b1i h.1.2,a8A h.2⟩) fun _=>Sim.ret (by simp [a2P.row])
 ·exact Sim.fail
def b70 (ok:Bool) (x:TV) (b:Bool):TQ TV:=match ok with
 | true=>match x with
  | .o y=> .ret (.tup [y,.c (.ch .bool b)])
  | _=> .fail
 | false=> .ret x
theorem b3f (ok:Bool) (x:TV) (b:Bool):Sim TV.av (b70 ok x b) (.ret (okV ok x.av b)):=by
 cases ok with
 | true=>
  cases x with
  | o y=>exact Sim.ret rfl
  | _=>exact Sim.fail
 | false=>exact Sim.ret rfl
end Go.Proofs.Ythadhfbkhldblaa.Am
namespace Go.Proofs.Ythadhfbkhldblaa.Am
open Go
def b4W (d:Nat) (K V:U) (iv:TI) (k:K.den):TV->TQ (List P2)
 | .o (.c (.row id ver))=> .rdR id fun r=>match r.c with
  | some R=>match decEq R.u (.pr K V) with
   | .isTrue h=> .req (Nat.beq ver r.ver && Nat.beq R.e (mE iv.agg) && !R.fr) (.rdB (pbx id) fun b=>
    .ret [.r id ⟨r.ver,some ⟨.pr K V,a0K K.beq k (M8 K.beq k V.dflt (h ▸ R.l:List (U.pr K V).den)) (h ▸ R.l:List (U.pr K V).den),R.e + J4,false⟩⟩,.b (pbx id) ⟨b.ver + 1,none⟩,.t d ⟨true,.ent true id (b.ver + 1) K k⟩])
   | .isFalse _=> .fail
  | none=> .fail
 | _=> .fail
theorem b1n {K V:U} {ik iv:TI} (hk:isKey K=true) (ho:kOk ik.k K=true) (hs:V.size=iv.size) (hz:iv.zero=V2 V) (d:Nat) (k:K.den) (x:TV) :
  Sim US (b4W d K V iv k x) (b5N d ik iv (Z1 K k) x.av):=by
 unfold b4W
 split
 ·rename_i id ver
  refine Sim.rdR fun r=>?_
  obtain⟨rv,c⟩:=r
  cases c with
  | none=>exact Sim.fail
  | some R=>
   obtain⟨ru,rl,re,rf⟩:=R
   simp only
   split
   ·rename_i hu he
    clear he
    change ru=U.pr K V at hu
    subst hu
    refine Sim.req (fun h=>?_) fun _=>Sim.rdB fun b=>Sim.ret ?_
    ·simp only [Bool.and_eq_true] at h
     obtain⟨⟨a1,a2⟩,a3⟩:=h
     refine⟨Nat.eq_of_beq_eq_true a1,Nat.eq_of_beq_eq_true a2,?_,by show rf=false;simpa using a3,a4H ho k,U7 hk ho rl⟩
     show K.size + V.size=1 + iv.size
     rw [a5z hk,hs]
    ·have h0:=a3J (V:=V) (Z2 hk k) rl
     have h1:=a2q (V:=V) (Z2 hk k) (M8 K.beq k V.dflt rl) rl
     show [Upd.r id ⟨rv,some ⟨a2m (Z1 K k) ((a1d (Z1 K k) (rl.map (U.pr K V).enc)).getD (iv.zero.map U4)) (rl.map (U.pr K V).enc),(U.pr K V).size,re + J4,false⟩⟩,_,_]=US [_,_,_]
     rw [hz,a2F V,h0,h1]
     rfl
   ·exact Sim.fail
 ·exact Sim.fail
def b4X (K V:U) (iv:TI) (xs:List TC):TV->TV->TQ (List P2)
 | .o (.c (.row id ver)),.ent false id' pv K' k'=>match decEq K' K with
  | .isTrue hK=>(Z6 V xs).bind fun d=>(V1 d.fz).bind fun us=> .rdB (pbx id) fun b=> .rdR id fun r=>match r.c with
   | some R=>match decEq R.u (.pr K V) with
    | .isTrue h=> .req (Nat.beq id' id && Nat.beq pv b.ver && Nat.beq ver r.ver && Nat.beq R.e (mE iv.agg + J4) && !R.fr && !(d.fz.contains id)) (.ret (us ++ [.r id ⟨r.ver,some ⟨.pr K V,a0K K.beq (a0q hK k') d.x (h ▸ R.l:List (U.pr K V).den),mE iv.agg,false⟩⟩]))
    | .isFalse _=> .fail
   | none=> .fail
  | .isFalse _=> .fail
 | _,_=> .fail
theorem b1o {K V:U} {ik iv:TI} (hk:isKey K=true) (ho:kOk ik.k K=true) (hs:V.size=iv.size) (xs:List TC) (x st:TV) :
  Sim US (b4X K V iv xs x st) (b5O ik iv (o7 xs) x.av st.av):=by
 unfold b4X
 split
 ·rename_i id ver id' pv K' k'
  split
  ·rename_i hK _
   subst hK
   refine Sim.bind (O3 V xs) fun d=>Sim.bind (I5 d.fz) fun us=>Sim.rdB fun b=>Sim.rdR fun r=>?_
   obtain⟨rv,c⟩:=r
   cases c with
   | none=>exact Sim.fail
   | some R=>
    obtain⟨ru,rl,re,rf⟩:=R
    simp only
    split
    ·rename_i hu he
     clear he
     change ru=U.pr _ V at hu
     subst hu
     refine Sim.req (fun h=>?_) fun _=>Sim.ret ?_
     ·simp only [Bool.and_eq_true] at h
      obtain⟨⟨⟨⟨⟨a0,a00⟩,a1⟩,a2⟩,a3⟩,a4⟩:=h
      refine⟨Nat.eq_of_beq_eq_true a0,Nat.eq_of_beq_eq_true a00,Nat.eq_of_beq_eq_true a1,Nat.eq_of_beq_eq_true a2,?_,by show rf=false;simpa using a3,by simpa using a4,by rw [U.enc_len,hs],a4H ho k',U7 hk ho rl⟩
      show U.size _ + V.size=1 + iv.size
      rw [a5z hk,hs]
     ·have h1:=a2q (V:=V) (Z2 hk k') d.x rl
      show us.map P2.upd ++ [Upd.r id ⟨rv,some ⟨a2m (Z1 _ k') (V.enc d.x) (rl.map (U.pr _ V).enc),(U.pr _ V).size,mE iv.agg,false⟩⟩]=US (us ++ [_])
      rw [h1]
      simp only [US,List.map_append,List.map_cons,List.map_nil]
      rfl
    ·exact Sim.fail
  ·exact Sim.fail
 ·exact Sim.fail
end Go.Proofs.Ythadhfbkhldblaa.Am
namespace Go.Proofs.Ythadhfbkhldblaa.Am
open Go
def b1j (k:TK) (d:Nat):TV->TQ (List P2)
 | .o (.c (.ch .str s))=>match k with
  | .str=> .rdR d fun r=> .ret [.r d ⟨r.ver + 1,some ⟨.pr .str (.int .i64),[((s:List UInt8),(0:Int))],a0H,false⟩⟩,.t d ⟨true,.o (.c (.row d (r.ver + 1)))⟩]
  | _=> .fail
 | _=> .fail
theorem a9L (k:TK) (d:Nat) (x:TV):Sim US (b1j k d x) (a75 k d x.av):=by
 unfold b1j
 split
 ·cases k <;> first | exact Sim.fail | exact Sim.rdR fun r=>Sim.ret rfl
 ·exact Sim.fail
def b7f (s:List UInt8) (p:Int):Int:=a9i ⟨s.toArray⟩ p
def b7g (s:List UInt8) (p:Int):Int:=((Utf8.decode ⟨s.toArray⟩ p.toNat).1:Nat)
def a2G (l:List (U.pr .str (.int .i64)).den):List UInt8 × Int:=List.headD (l:List (List UInt8 × Int)) ([],0)
def b4U (d:Nat):TV->TQ (List P2)
 | .o (.c (.row id ver))=> .rdR id fun r=>match r.c with
  | some R=>match decEq R.u (.pr .str (.int .i64)) with
   | .isTrue h=> .req (Nat.beq ver r.ver && Nat.beq R.e a0H && !R.fr && Nat.beq R.l.length 1)
    (.ret [.r id ⟨r.ver,some ⟨.pr .str (.int .i64),[((a2G (h ▸ R.l:List (U.pr .str (.int .i64)).den)).1,b7f (a2G (h ▸ R.l:List (U.pr .str (.int .i64)).den)).1 (a2G (h ▸ R.l:List (U.pr .str (.int .i64)).den)).2)],R.e,false⟩⟩,
     .t d ⟨true,.nx (decide ((a2G (h ▸ R.l:List (U.pr .str (.int .i64)).den)).2.toNat < (a2G (h ▸ R.l:List (U.pr .str (.int .i64)).den)).1.length)) (.ch (.int .i64) (a2G (h ▸ R.l:List (U.pr .str (.int .i64)).den)).2) (.ch (.int .i32) (b7g (a2G (h ▸ R.l:List (U.pr .str (.int .i64)).den)).1 (a2G (h ▸ R.l:List (U.pr .str (.int .i64)).den)).2))⟩])
   | .isFalse _=> .fail
  | none=> .fail
 | _=> .fail
theorem b1k (d:Nat) (x:TV):Sim US (b4U d x) (b2v d x.av):=by
 unfold b4U
 split
 ·refine Sim.rdR fun r=>?_
  obtain⟨rv,c⟩:=r
  cases c with
  | none=>exact Sim.fail
  | some R=>
   obtain⟨ru,rl,re,rf⟩:=R
   simp only
   split
   ·rename_i hu he
    clear he
    change ru=U.pr .str (.int .i64) at hu
    subst hu
    refine Sim.req (fun h=>?_) fun h=>?_
    ·simp only [Bool.and_eq_true] at h
     exact⟨Nat.eq_of_beq_eq_true h.1.1.1,Nat.eq_of_beq_eq_true h.1.1.2,by show rf=false;simpa using h.1.2⟩
    ·simp only [Bool.and_eq_true] at h
     have hl:=Nat.eq_of_beq_eq_true h.2
     match rl,hl with
     | [q],_=>exact Sim.ret rfl
   ·exact Sim.fail
 ·exact Sim.fail
def b4V (k:Nat):TV->TQ TV
 | .tup xs=>(TQ.ofOpt xs[k]?).bind fun y=> .ret (.o y)
 | .nx b x y=>match k with
  | 0=> .ret (.o (.c (.ch .bool b)))
  | 1=> .req b (.ret (.o (.c x)))
  | 2=> .req b (.ret (.o (.c y)))
  | _=> .fail
 | .ent true id pv K kv=>match k with
  | 1=> .rdB (pbx id) fun b=> .req (Nat.beq pv b.ver) (.ret (.ent false id pv K kv))
  | _=> .fail
 | _=> .fail
theorem b1l (k:Nat) (x:TV):Sim TV.av (b4V k x) (a2S k x.av):=by
 unfold b4V
 split
 ·rename_i xs
  intro s tr K h
  rw [TQ.wpt_bind] at h
  show(Q.ofOpt (xs.map T1.av)[k]?).wpt _ _ _
  have h1:=a6j (f:=T1.av) (o':=xs[k]?) (o:=(xs.map T1.av)[k]?) (fun a h=>by rw [List.getElem?_map,h];rfl) s tr _ h
  refine Q.wpt_mono h1 ?_
  rintro b rs ⟨a,rfl,hk⟩
  exact⟨_,rfl,hk⟩
 ·split
  ·exact Sim.ret rfl
  ·exact Sim.req (fun h=>h) fun _=>Sim.ret rfl
  ·exact Sim.req (fun h=>h) fun _=>Sim.ret rfl
  ·exact Sim.fail
 ·split
  ·exact Sim.rdB fun b=>Sim.req (fun h=>Nat.eq_of_beq_eq_true h) fun _=>Sim.ret rfl
  ·exact Sim.fail
 ·exact Sim.fail
def b6k (u:U) (x:TC):TQ (Pa u.den):= .req (is1 x && Nat.beq u.size 1) (Z6 u [x])
theorem b1m (u:U) (x:TC):Sim (fun p:Pa u.den=>(a5p (u.enc p.x),p.fz)) (b6k u x) (toD (R9 x.cells)):=by
 refine Sim.chk fun h s tr K hK=>?_
 rw [Bool.and_eq_true] at h
 have e:o7 [x]=[R9 x.cells]:=(List.append_nil _).trans (a2E h.1)
 have h1:=O3 u [x] s tr K hK
 rw [e] at h1
 simp only [a1m,Q.wpt_bind,Q.wpt] at h1
 refine Q.wpt_mono h1 ?_
 rintro⟨d,fz⟩ rs ⟨p,hp,hk⟩
 injection hp with hp1 hp2
 refine⟨p,?_,hk⟩
 simp only [List.append_nil] at hp2
 simp only at hp1 hp2
 rw [<-hp1,hp2]
 rfl
def b71 (t:TypeId) (u:U) (d:Nat) (x:TC):TQ (List P2):=(b6k u x).bind fun y=>(V1 y.fz).bind fun us=> .ret (us ++ [.t d ⟨true,.o (.c (.it t u y.x))⟩])
theorem b3g (t:TypeId) (u:U) (d:Nat) (x:TC):Sim US (b71 t u d x) ((toD (R9 x.cells)).bind fun y=>(R3 y.2).bind fun us=> .ret (us ++ [.t d ⟨true,.c (.d (.it t y.1))⟩])):=by
 refine Sim.bind (b1m u x) fun y=>Sim.bind (I5 y.fz) fun us=>Sim.ret ?_
 simp only [US,List.map_append,List.map_cons,List.map_nil]
 rfl
def a7y (i:TI) (t:TypeId):TV->TQ TV
 | .o (.c (.it t' u x))=> .req (i.k.conc && !i.agg && Nat.beq u.size 1) (match decEq t' t with
  | .isTrue _=> .ret (.tup [.c (.ch u x),.c (.ch .bool true)])
  | .isFalse _=>match i.zero with
   | [z]=>match a9C z with
    | some c=> .ret (.tup [.c c,.c (.ch .bool false)])
    | none=> .fail
   | _=> .fail)
 | _=> .fail
theorem a7z (i:TI) (t:TypeId) (x:TV):Sim TV.av (a7y i t x) (a45 i t x.av):=by
 unfold a7y
 split
 ·rename_i t' u y
  refine Sim.req (fun h=>?_) fun h=>?_
  ·simp only [Bool.and_eq_true] at h
   exact⟨h.1.1,by simpa using h.1.2⟩
  ·simp only [Bool.and_eq_true] at h
   have hz:=Nat.eq_of_beq_eq_true h.2
   have hag:i.agg=false:=by simpa using h.1.2
   show Sim TV.av _ (match decEq t' t with
    | .isTrue _=> .ret (.tup [.c (.d (a5p (u.enc y))),.c (.d (.v (.bool true)))])
    | .isFalse _=>(b0f i).bind fun z=> .ret (.tup [z,.c (.d (.v (.bool false)))]))
   generalize decEq t' t=dd
   cases dd with
   | isTrue e=>
    refine Sim.ret ?_
    show AV.tup [.c (.d (a5p (u.enc y))),.c (.d (.v (.bool true)))]= .tup [.c (R9 ((u.enc y).map .d)),.c (.d (.v (.bool true)))]
    rw [<-a8o (ds:=u.enc y) (by rw [U.enc_len,hz])]
    rfl
   | isFalse e=>
    simp only
    split
    ·rename_i z hz0
     cases hl:a9C z with
     | none=>exact Sim.fail
     | some c=>
      obtain⟨a1,_,a3⟩:=a5r hl
      unfold b0f
      rw [hag,hz0]
      refine Sim.ret ?_
      show AV.tup [.c (M3 z),.c (.d (.v (.bool false)))]= .tup [.c (R9 c.cells),.c (.d (.v (.bool false)))]
      rw [a1];rfl
    ·exact Sim.fail
 ·exact Sim.fail
end Go.Proofs.Ythadhfbkhldblaa.Am
namespace Go.Proofs.Ythadhfbkhldblaa.Am
open Go
def b36 (ou:Option U) (zero:List Value):Option (List TC):=match ou with
 | some u=>match okZ u && a6q (V2 u) zero with
  | true=>some (a9J u)
  | false=>none
 | none=>a3D zero
theorem a7A {ou:Option U} {zero:List Value} {ps:List TC} (h:b36 ou zero=some ps):o7 ps=zero.map M3:=by
 unfold b36 at h
 split at h
 ·split at h
  ·rename_i u _ hz
   rw [Bool.and_eq_true] at hz
   injection h with h
   subst h
   rw [a5x _ hz.1,a07 hz.2]
  ·cases h
 ·exact(a2p h).1
def a8B (place:Nat->Option (Nat × Nat)) (ps:List TC):List (Nat × TV)->TQ (List TC)
 | []=> .ret ps
 | p :: rest=>(a4B p.2).bind fun v=>match place p.1 with
  | some q=> .req (Nat.beq (b0T v) q.2) (match b5x ps q.1 v with | some qs=>a8B place qs rest | none=> .fail)
  | none=> .fail
theorem a2r (place:Nat->Option (Nat × Nat)):∀ (xs:List (Nat × TV)) (ps:List TC),Sim o7 (a8B place ps xs) (a40 place (o7 ps) (xs.map pav))
 | [],ps=>Sim.ret rfl
 | p :: rest,ps=>by
  refine Sim.bind (a04 p.2) fun v=>?_
  show Sim o7 _ (match place p.1 with | some q=> .req ((o7 v).length=q.2/\q.1 + q.2<=(o7 ps).length) (a40 place (setAt (o7 ps) q.1 (o7 v)) (rest.map pav)) | none=> .fail)
  cases place p.1 with
  | none=>exact Sim.fail
  | some q=>
   refine Sim.chk fun h=>?_
   have e:=Nat.eq_of_beq_eq_true h
   rw [<-a13] at e
   simp only
   cases hs:b5x ps q.1 v with
   | none=>exact Sim.fail
   | some qs=>
    obtain⟨h1,h2⟩:=b0U hs
    refine Sim.must ⟨e,by rw [<-e];exact h2⟩ ?_
    rw [<-h1]
    exact a2r place rest qs
structure Pds (α:Type) where
 x:List (Nat × α)
 fz:List Nat
def b7h (u:U):List (Nat × TV)->TQ (Pds u.den)
 | []=> .ret ⟨[],[]⟩
 | p :: ps=>(a4B p.2).bind fun cs=>(Z6 u cs).bind fun d=>(b7h u ps).bind fun ds=> .ret ⟨(p.1,d.x) :: ds.x,d.fz ++ ds.fz⟩
def b6l (u:U) (p:Pds u.den):List (Nat × List DV) × List Nat:=(p.x.map fun q=>(q.1,u.enc q.2),p.fz)
theorem a8C (u:U):∀ (ps:List (Nat × TV)),Sim (b6l u) (b7h u ps) (a9e (ps.map pav))
 | []=>Sim.ret rfl
 | p :: ps=>Sim.bind (a04 p.2) fun cs=>Sim.bind (O3 u cs) fun _d=>Sim.bind (a8C u ps) fun _ds=>Sim.ret rfl
def b1p {α:Type}:List α->List (Nat × α)->TQ (List α)
 | es,[]=> .ret es
 | es,p :: rest=> .req (decide (p.1 < es.length)) (b1p (es.set p.1 p.2) rest)
theorem a4I (u:U):∀ (xs:List (Nat × u.den)) (es:List u.den),Sim (List.map u.enc) (b1p es xs) (a9f u.size (es.map u.enc) (xs.map fun q=>(q.1,u.enc q.2)))
 | [],es=>Sim.ret rfl
 | p :: rest,es=>by
  refine Sim.req (fun h=>⟨u.enc_len _,by rw [List.length_map];exact of_decide_eq_true h⟩) fun _=>?_
  show Sim _ _ (a9f u.size ((es.map u.enc).set p.1 (u.enc p.2)) _)
  rw [<-List.map_set]
  exact a4I u rest _
def LIM:Nat:=140737488355328
def LEN:Nat:=4611686018427387904
def b1q (d:Nat) (e:TypeId) (u:U) (by_:Nat) (x y:TC):TQ (List P2):=
 (a5v u y).bind fun y=> .req (decide (e < Q5)) ((V1 y.fz).bind fun us=> .rdR d fun rd=>match x with
  | .nil=> .req (decide (y.x.length * by_<=LIM/\y.x.length<=LEN)) (.ret (us ++ [.r d ⟨rd.ver + 1,some ⟨u,y.x,e,false⟩⟩,.t d ⟨true,.o (.c (.row d (rd.ver + 1)))⟩]))
  | .row id ver=> .rdR id fun r=>match r.c with
   | some R=>match decEq R.u u with
    | .isTrue h=> .req (Nat.beq ver r.ver && Nat.beq R.e e) (.req (decide ((R.l.length + y.x.length) * by_<=LIM/\R.l.length + y.x.length<=LEN))
     (.ret (us ++ [.r id ⟨r.ver,none⟩,.r d ⟨rd.ver + 1,some ⟨u,(h ▸ R.l:List u.den) ++ y.x,e,R.fr || y.fz.contains id⟩⟩,.t d ⟨true,.o (.c (.row d (rd.ver + 1)))⟩])))
    | .isFalse _=> .fail
   | none=> .fail
  | _=> .fail)
theorem a7B (d:Nat) (e:TypeId) (u:U) (z by_:Nat) (hz:u.size=z) (x y:TC):Sim US (b1q d e u by_ x y) (a42 d e z by_ (R9 x.cells) (R9 y.cells)):=by
 subst hz
 refine Sim.bind (a1E u y) fun y=>?_
 show Sim US _ (.req (a4p u.size (y.x.map u.enc)/\e < Q5) ((R3 y.fz).bind fun us=> .rdR d fun rd=>match R9 x.cells with
   | .nil=> .req ((y.x.map u.enc).length * by_<=140737488355328/\(y.x.map u.enc).length<=4611686018427387904) (.ret (us ++ [.r d ⟨rd.ver + 1,some ⟨y.x.map u.enc,u.size,e,false⟩⟩,.t d ⟨true,.c (.row d (rd.ver + 1))⟩]))
   | .row id ver=> .rdR id fun r=>match r.c with
    | some R=> .req (ver=r.ver/\R.sz=u.size/\R.e=e/\(R.es.length + (y.x.map u.enc).length) * by_<=140737488355328/\R.es.length + (y.x.map u.enc).length<=4611686018427387904)
     (.ret (us ++ [.r id ⟨r.ver,none⟩,.r d ⟨rd.ver + 1,some ⟨R.es ++ y.x.map u.enc,u.size,e,R.fr || y.fz.contains id⟩⟩,.t d ⟨true,.c (.row d (rd.ver + 1))⟩]))
    | none=> .fail
   | _=> .fail))
 refine Sim.req (fun h=>⟨a4G u _,of_decide_eq_true h⟩) fun _=>(Sim.bind (I5 y.fz) fun us=>Sim.rdR fun rd=>?_)
 split
 ·refine Sim.req (fun h=>?_) fun _=>Sim.ret ?_
  ·have h1:=of_decide_eq_true h
   rw [List.length_map]
   exact h1
  ·simp only [US,List.map_append,List.map_cons,List.map_nil]
   rfl
 ·rename_i id ver
  refine Sim.rdR fun r=>?_
  obtain⟨rv,c⟩:=r
  cases c with
  | none=>exact Sim.fail
  | some R=>
   obtain⟨ru,rl,re,rf⟩:=R
   simp only
   split
   ·rename_i hu _
    subst hu
    refine Sim.chk fun h=>Sim.req (fun h0=>?_) fun _=>Sim.ret ?_
    ·rw [Bool.and_eq_true] at h
     have h1:=of_decide_eq_true h0
     refine⟨Nat.eq_of_beq_eq_true h.1,rfl,Nat.eq_of_beq_eq_true h.2,?_⟩
     rw [show(a2P.row ⟨ru,rl,re,rf⟩).es.length=rl.length from List.length_map ..,List.length_map]
     exact h1
    ·simp only [US,List.map_append,List.map_cons,List.map_nil,P2.upd,TRS.rs,Option.map_some,Option.map_none,a2P.row]
     rfl
   ·exact Sim.fail
 ·exact Sim.fail
section
variable (T:TypeId->Option TI) (TU:TypeId->Option U) (cq:Oper->Call->Q (List Upd)) (tcq:Oper->Call->TQ (List P2))
def ttq (t:TypeId):TQ TI:= .ofOpt (T t)
theorem B2 (t:TypeId):Sim id (ttq T t) (tq T t):=H9 _
def a5A (i j:TI) (o:Oper) (_src:TypeId) (x:TV):TQ (List P2):=match i.k,j.k with
 | .int _,.int k=>(b33 x).bind fun n=>a1A o.dst (c1 (.int k) (k.wrap n))
 | .str,.str=>match x with
  | .o (.c (.ch .str s))=>a1A o.dst (c1 .str s)
  | _=> .fail
 | .slice e,.str=>(ttq T e).bind fun ie=>match ie.k with
  | .int .u8=>match x with
   | .o (.c x)=>(a5v .byte x).bind fun y=>a1A o.dst (c1 .str y.x)
   | _=> .fail
  | _=> .fail
 | .str,.slice e=>(ttq T e).bind fun ie=>match ie.k with
  | .int .u8=>match x with
   | .o (.c (.ch .str s))=> .req (decide (List.length s<=maxLen)) (a1A o.dst (c1 (.sl .byte) s))
   | _=> .fail
  | _=> .fail
 | _,_=> .fail
def b5z (o:Oper):TQ (List P2):=match o.op with
 | .move x=>(tev x).bind (a1A o.dst)
 | .assign x=>(tev x).bind (a1A o.dst)
 | .pick c a b=>(tev c).bind fun c=>(b21 c).bind fun c=>(b7a a).bind fun a=>(b7a b).bind fun b=>(b6h c a b).bind (a1A o.dst)
 | .alloc t=>(ttq T t).bind fun i=>(TQ.ofOpt o.dst).bind fun d=>match b36 (TU t) i.zero with
  | some ps=> .rdB d fun b=> .ret [.b d ⟨b.ver + 1,some ps⟩,.t d ⟨true,.o (.c (.ptr d (b.ver + 1) 0))⟩]
  | none=> .fail
 | .box _ x=>(TQ.ofOpt o.dst).bind fun d=>(tev x).bind fun v=>(a4B v).bind fun cs=> .rdB d fun b=> .ret [.b d ⟨b.ver + 1,some cs⟩,.t d ⟨true,.o (.c (.ptr d (b.ver + 1) 0))⟩]
 | .build t parts=>(ttq T t).bind fun i=>(b20 parts.toList).bind fun ps=>match i.k with
  | .struct fs=>match b36 (TU t) i.zero with
   | some zs=>(a8B (fs[·]?) zs ps).bind fun cs=>a1A o.dst (.o (.agg cs))
   | none=> .fail
  | .arr _ e=>(ttq T e).bind fun ie=>match b36 (TU t) i.zero with
   | some zs=>(a8B (fun j=>some (j * ie.size,ie.size)) zs ps).bind fun cs=>a1A o.dst (.o (.agg cs))
   | none=> .fail
  | _=> .fail
 | .buildSlice t len parts=>(ttq T t).bind fun i=>(TQ.ofOpt o.dst).bind fun d=>match i.k with
  | .slice e=>(ttq T e).bind fun ie=>match TU e with
   | some u=> .req (decide (len * ie.size<=16777216/\0 < ie.size/\(len=0->parts.size=0)/\e < Q5) && Nat.beq u.size ie.size && a6q (V2 u) ie.zero) ((b20 parts.toList).bind fun ps=>(b7h u ps).bind fun y=>(V1 y.fz).bind fun us=>(b1p (List.replicate len u.dflt) y.x).bind fun es=>
    .rdR d fun r=> .ret (us ++ [.r d ⟨r.ver + 1,some ⟨u,es,e,false⟩⟩,.t d ⟨true,.o (.c (.row d (r.ver + 1)))⟩]))
   | none=> .fail
  | _=> .fail
 | .load t a=>(ttq T t).bind fun i=>(tev a).bind fun a=>(b24 i a).bind (a1A o.dst)
 | .store t a x=>match o.dst with
  | some _=> .fail
  | none=>(ttq T t).bind fun i=>(tev a).bind fun a=>(tev x).bind fun x=>(a4B x).bind fun cs=>b08 TU t i cs a
 | .nilCheck x=>(tev x).bind fun x=>match x with
  | .o (.c (.ptr id ver off))=> .rdB id fun b=> .req (Nat.beq ver b.ver && b.c.isSome) (a1A o.dst (.o (.c (.ptr id ver off))))
  | .o (.c (.ep u y off))=>a1A o.dst (.o (.c (.ep u y off)))
  | .o (.c (.rp id ver k off sz))=> .rdR id fun r=> .req (Nat.beq ver r.ver && r.c.isSome) (a1A o.dst (.o (.c (.rp id ver k off sz))))
  | .o (.c (.fn f))=>a1A o.dst (.o (.c (.fn f)))
  | .o (.c (.clo f u x))=>a1A o.dst (.o (.c (.clo f u x)))
  | _=> .fail
 | .binOp op t x y _=>(ttq T t).bind fun i=>(tev x).bind fun x=>(tev y).bind fun y=>(b7c TU op t i x y).bind (a1A o.dst)
 | .unOp op _ x=>(tev x).bind fun x=>(tun op x).bind (a1A o.dst)
 | .convert src dst x=>(ttq T src).bind fun i=>(ttq T dst).bind fun j=>(tev x).bind fun x=>a5A T i j o src x
 | .slice t x lo hi none=>(ttq T t).bind fun i=>(tev x).bind fun x=>(b6R lo).bind fun l=>(b6R hi).bind fun h=>match i.k with
   | .slice e=>(ttq T e).bind fun ie=>match TU e with
    | some u=> .req (Nat.beq u.size ie.size) (match x with
     | .o (.c x)=>(TQ.ofOpt o.dst).bind fun d=>if(i.cut && l.isNone)=true then b7Z d u h x else b35 d u l h x
     | _=> .fail)
    | none=> .fail
   | .str=>(a7u l h x).bind (a1A o.dst)
   | .arr n e=>(ttq T e).bind fun ie=>match TU e with
    | some u=>a7n o.dst u n ie l h x
    | none=> .fail
   | _=> .fail
 | .fieldAddr t x f=>(ttq T t).bind fun i=>match i.k with
  | .struct fs=>(TQ.ofOpt fs[f]?).bind fun p=>(tev x).bind fun x=>(b09 p.1 x).bind (a1A o.dst)
  | _=> .fail
 | .indexAddr t x k=>(ttq T t).bind fun i=>(tev x).bind fun x=>(tev k).bind fun k=>(b33 k).bind fun k=>match i.k with
  | .slice e=>(ttq T e).bind fun ie=>(b1b ie.size k x).bind (a1A o.dst)
  | .arr n e=>(ttq T e).bind fun ie=>(a7h n ie.size k x).bind (a1A o.dst)
  | _=> .fail
 | .index t x k=>(ttq T t).bind fun i=>(tev x).bind fun x=>(tev k).bind fun k=>(b33 k).bind fun k=>match i.k with
  | .str=>(a7p k x).bind (a1A o.dst)
  | .arr n e=>(ttq T e).bind fun ie=>match TU e with
   | some u=>(a7j u n ie k x).bind (a1A o.dst)
   | none=> .fail
  | _=> .fail
 | .field t x f=>(ttq T t).bind fun i=>match i.k with
  | .struct fs=>(TQ.ofOpt fs[f]?).bind fun p=>(TQ.ofOpt i.fts[f]?).bind fun ft=>(ttq T ft).bind fun ie=>(tev x).bind fun x=>(a7l p.1 ie x).bind (a1A o.dst)
  | _=> .fail
 | .extract x k=>(tev x).bind fun x=>(b4V k x).bind (a1A o.dst)
 | .range t x=>(ttq T t).bind fun i=>(TQ.ofOpt o.dst).bind fun d=>(tev x).bind fun x=>b1j i.k d x
 | .next x true=>(TQ.ofOpt o.dst).bind fun d=>(tev x).bind fun x=>b4U d x
 | .makeFunc fn first captured=>(TQ.ofOpt o.dst).bind fun d=>match fn,first.toList,captured.toList with
  | .func f,[],[]=> .ret [.t d ⟨true,.o (.c (.fn f))⟩]
  | .func f,[],[.tmp k]=>(tev (.tmp k)).bind fun v=>b4P d k f v
  | _,_,_=> .fail
 | .makeInterface t x=>(ttq T t).bind fun i=>(TQ.ofOpt o.dst).bind fun d=>(tev x).bind fun x=>match x with
  | .o (.c x)=>match TU t with
   | some u=> .req i.k.conc (b71 t u d x)
   | none=> .fail
  | _=> .fail
 | .typeAssert x _ t true=>(ttq T t).bind fun i=>(tev x).bind fun x=>(a7y i t x).bind (a1A o.dst)
 | .makeSlice t l c=>(ttq T t).bind fun i=>(TQ.ofOpt o.dst).bind fun d=>(tev l).bind fun l=>(b33 l).bind fun l=>(tev c).bind fun c=>(b33 c).bind fun c=>match i.k with
  | .slice e=>(ttq T e).bind fun ie=>match TU e with
   | some u=> .req (decide (0 < ie.size/\e < Q5) && Nat.beq u.size ie.size && a6q (V2 u) ie.zero) (.req (decide (0<=l/\l<=c/\(ie.bytes:Int) * c<=281474976710656/\c<=4611686018427387904)) (.rdR d fun r=>
    .ret [.r d ⟨r.ver + 1,some ⟨u,List.replicate l.toNat u.dflt,e,false⟩⟩,.t d ⟨true,.o (.c (.row d (r.ver + 1)))⟩]))
   | none=> .fail
  | _=> .fail
 | .makeMap t r=>(ttq T t).bind fun i=>(TQ.ofOpt o.dst).bind fun d=>(b6R r).bind fun _=>match i.k with
  | .map kt vt=>(ttq T vt).bind fun iv=>match TU kt,TU vt with
   | some K,some V=> .req (isKey K && Nat.beq V.size iv.size) (.rdR d fun r=> .ret [.r d ⟨r.ver + 1,some ⟨.pr K V,[],mE iv.agg,false⟩⟩,.t d ⟨true,.o (.c (.row d (r.ver + 1)))⟩])
   | _,_=> .fail
  | _=> .fail
 | .lookup t m k ok=>(ttq T t).bind fun i=>(tev m).bind fun m=>(tev k).bind fun k=>match i.k with
  | .map kt vt=>(ttq T kt).bind fun ik=>(ttq T vt).bind fun iv=>match TU kt,TU vt with
   | some K,some V=> .req (isKey K && kOk ik.k K && a6q (V2 V) iv.zero) ((a9K K k).bind fun k=>(b4R K V iv k m).bind fun p=>(b2q iv [.ch V p.x]).bind fun x=>(b70 ok x p.b).bind (a1A o.dst))
   | _,_=> .fail
  | _=> .fail
 | .mapUpdate t m k x=>match o.dst with
  | some _=> .fail
  | none=>(ttq T t).bind fun i=>(tev m).bind fun m=>(tev k).bind fun k=>(tev x).bind fun x=>match i.k with
   | .map kt vt=>(ttq T kt).bind fun ik=>(ttq T vt).bind fun iv=>match TU kt,TU vt with
    | some K,some V=> .req (isKey K && kOk ik.k K && Nat.beq V.size iv.size) ((a9K K k).bind fun k=>(a5y iv.agg x).bind fun cs=>b4S K V iv k cs m)
    | _,_=> .fail
   | _=> .fail
 | .mapEntry t m k=>(ttq T t).bind fun i=>(TQ.ofOpt o.dst).bind fun d=>(tev m).bind fun m=>(tev k).bind fun k=>match i.k with
  | .map kt vt=>(ttq T kt).bind fun ik=>(ttq T vt).bind fun iv=>match TU kt,TU vt with
   | some K,some V=> .req (isKey K && kOk ik.k K && Nat.beq V.size iv.size && a6q (V2 V) iv.zero) ((a9K K k).bind fun k=>b4W d K V iv k m)
   | _,_=> .fail
  | _=> .fail
 | .entryStore t m st x=>match o.dst with
  | some _=> .fail
  | none=>(ttq T t).bind fun i=>(tev m).bind fun m=>(tev st).bind fun st=>(tev x).bind fun x=>match i.k with
   | .map kt vt=>(ttq T kt).bind fun ik=>(ttq T vt).bind fun iv=>match TU kt,TU vt with
    | some K,some V=> .req (isKey K && kOk ik.k K && Nat.beq V.size iv.size) ((a5y iv.agg x).bind fun cs=>b4X K V iv cs m st)
    | _,_=> .fail
   | _=> .fail
 | .call c=>tcq o c
 | _=> .fail
end
end Go.Proofs.Ythadhfbkhldblaa.Am
namespace Go.Proofs.Ythadhfbkhldblaa.Am
open Go
section
variable {T:TypeId->Option TI} {TU:TypeId->Option U} {cq:Oper->Call->Q (List Upd)} {tcq:Oper->Call->TQ (List P2)}
theorem a6r (i j:TI) (o:Oper) (src:TypeId) (x:TV):Sim US (a5A T i j o src x) (match i.k,j.k with
  | .int _,.int k=>(Q.int x.av).bind fun n=>one o.dst (.c (.d (.v (.int k (k.wrap n)))))
  | .str,.str=>match x.av with
   | .c (.d (.v (.string _)))=>one o.dst x.av
   | _=> .fail
  | .slice e,.str=>(tq T e).bind fun ie=>match ie.k with
   | .int .u8=>match x.av with
    | .c x=>(toD x).bind fun y=>(a4r y.1).bind fun l=>one o.dst (.c (.d (.v (.string ⟨l.toArray⟩))))
    | _=> .fail
   | _=> .fail
  | .str,.slice e=>(tq T e).bind fun ie=>match ie.k with
   | .int .u8=>match x.av with
    | .c (.d (.v (.string str)))=> .req (str.size<=maxLen) (one o.dst (.c (.d (.sl (str.data.toList.map a0p)))))
    | _=> .fail
   | _=> .fail
  | _,_=> .fail):=by
 unfold a5A
 cases i.k <;> cases j.k <;> try exact Sim.fail
 ·exact Sim.bind (a03 x) fun n=>B8 o.dst _
 ·simp only
  split
  ·exact B8 o.dst _
  ·exact Sim.fail
 ·refine Sim.bind (B2 T _) fun ie=>?_
  show Sim US _ (match ie.k with
   | .int .u8=>match x.av with
    | .c (.d (.v (.string str)))=> .req (str.size<=maxLen) (one o.dst (.c (.d (.sl (str.data.toList.map a0p)))))
    | _=> .fail
   | _=> .fail)
  split
  ·rename_i hk
   try rw [hk]
   split
   ·exact Sim.req (fun h=>of_decide_eq_true h) fun _=>B8 o.dst (c1 (.sl .byte) _)
   ·exact Sim.fail
  ·exact Sim.fail
 ·refine Sim.bind (B2 T _) fun ie=>?_
  show Sim US _ (match ie.k with
   | .int .u8=>match x.av with
    | .c x=>(toD x).bind fun y=>(a4r y.1).bind fun l=>one o.dst (.c (.d (.v (.string ⟨l.toArray⟩))))
    | _=> .fail
   | _=> .fail)
  split
  ·rename_i hk
   try rw [hk]
   split
   ·rename_i c
    refine Sim.bind (a1E .byte c) fun y=>?_
    have e:y.x.map U.byte.enc=List.map a0p y.x:=rfl
    show Sim US _ ((a4r (.sl (y.x.map U.byte.enc))).bind fun l=>one o.dst (.c (.d (.v (.string ⟨l.toArray⟩)))))
    rw [e]
    show Sim US _ (.req (List.map a0p y.x=((List.map a0p y.x).map a1T).map a0p) (one o.dst (.c (.d (.v (.string ⟨((List.map a0p y.x).map a1T).toArray⟩))))))
    have e2:(List.map a0p y.x).map a1T=y.x:=a9B y.x
    rw [e2]
    exact Sim.must rfl (B8 o.dst _)
   ·exact Sim.fail
  ·exact Sim.fail
theorem b3h (hc:∀ o c,o.op= .call c->Sim US (tcq o c) (cq o c)) (o:Oper):Sim US (b5z T TU tcq o) (opQ T cq o):=by
 unfold b5z opQ
 cases ho:o.op <;> try exact Sim.fail
 case move x=>exact Sim.bind (A9 x) fun v=>B8 o.dst v
 case assign x=>exact Sim.bind (A9 x) fun v=>B8 o.dst v
 case pick c a b=>exact Sim.bind (A9 c) fun c=>Sim.bind (a6l c) fun c=>Sim.bind (a8s a) fun a=>Sim.bind (a8s b) fun b=>Sim.bind (b0Y c a b) fun v=>B8 o.dst v
 case alloc t=>
  refine Sim.bind (B2 T t) fun i=>Sim.bind (H9 o.dst) fun d=>?_
  cases hz:b36 (TU t) i.zero with
  | none=>exact Sim.fail
  | some ps=>
   refine Sim.rdB fun b=>Sim.ret ?_
   have e:=a7A hz
   show [Upd.b d ⟨b.ver + 1,some (i.zero.map M3)⟩,_]=_
   rw [<-e]
   rfl
 case box t x=>exact Sim.bind (H9 o.dst) fun d=>Sim.bind (A9 x) fun v=>Sim.bind (a04 v) fun cs=>Sim.rdB fun b=>Sim.ret rfl
 case build t parts=>
  refine Sim.bind (B2 T t) fun i=>Sim.bind (a3E _) fun ps=>?_
  simp only [id]
  cases i.k <;> try exact Sim.fail
  case struct fs=>
   simp only
   cases hz:b36 (TU t) i.zero with
   | none=>exact Sim.fail
   | some zs=>
    have e:=a7A hz
    rw [<-e]
    exact Sim.bind (a2r _ ps zs) fun cs=>B8 o.dst (.o (.agg cs))
  case arr n e=>
   refine Sim.bind (B2 T e) fun ie=>?_
   cases hz:b36 (TU t) i.zero with
   | none=>exact Sim.fail
   | some zs=>
    have e:=a7A hz
    rw [<-e]
    exact Sim.bind (a2r _ ps zs) fun cs=>B8 o.dst (.o (.agg cs))
 case buildSlice t len parts=>
  refine Sim.bind (B2 T t) fun i=>Sim.bind (H9 o.dst) fun d=>?_
  simp only [id]
  cases i.k <;> try exact Sim.fail
  case slice e=>
   refine Sim.bind (B2 T e) fun ie=>?_
   cases TU e with
   | none=>exact Sim.fail
   | some u=>
    refine Sim.req (fun h=>?_) fun h=>?_
    ·simp only [Bool.and_eq_true] at h
     exact of_decide_eq_true h.1.1
    ·simp only [Bool.and_eq_true] at h
     have e2:=Nat.eq_of_beq_eq_true h.1.2
     have e3:=a07 h.2
     refine Sim.bind (a3E _) fun ps=>Sim.bind (a8C u ps) fun y=>Sim.bind (I5 y.fz) fun us=>?_
     simp only [id]
     rw [<-e2,<-e3,a2F u,<-List.map_replicate]
     refine Sim.bind (a4I u y.x _) fun es=>Sim.rdR fun r=>Sim.ret ?_
     simp only [US,List.map_append,List.map_cons,List.map_nil]
     rfl
 case load t a=>exact Sim.bind (B2 T t) fun i=>Sim.bind (A9 a) fun a=>Sim.bind (a6n i a) fun v=>B8 o.dst v
 case store t a x=>
  cases o.dst with
  | some d=>exact Sim.fail
  | none=>exact Sim.bind (B2 T t) fun i=>Sim.bind (A9 a) fun a=>Sim.bind (A9 x) fun x=>Sim.bind (a04 x) fun cs=>a9D TU t i cs a
 case nilCheck x=>
  refine Sim.bind (A9 x) fun x=>?_
  split
  ·refine Sim.rdB fun b=>Sim.req (fun h=>?_) fun _=>B8 o.dst (.o (.c _))
   rw [Bool.and_eq_true] at h
   exact⟨Nat.eq_of_beq_eq_true h.1,by rw [a7g];exact h.2⟩
  ·exact B8 o.dst (.o (.c (.ep _ _ _)))
  ·refine Sim.rdR fun b=>Sim.req (fun h=>?_) fun _=>B8 o.dst (.o (.c _))
   rw [Bool.and_eq_true] at h
   exact⟨Nat.eq_of_beq_eq_true h.1,by rw [b1a];exact h.2⟩
  ·exact B8 o.dst _
  ·exact B8 o.dst (.o (.c (.clo _ _ _)))
  ·exact Sim.fail
 case binOp op t x y t'=>exact Sim.bind (B2 T t) fun i=>Sim.bind (A9 x) fun x=>Sim.bind (A9 y) fun y=>Sim.bind (b29 TU op t i x y) fun v=>B8 o.dst v
 case unOp op t x=>exact Sim.bind (A9 x) fun x=>Sim.bind (b4J op x) fun v=>B8 o.dst v
 case convert src dst x=>exact Sim.bind (B2 T src) fun i=>Sim.bind (B2 T dst) fun j=>Sim.bind (A9 x) fun x=>a6r i j o src x
 case slice t x lo hi m=>
  cases m with
  | some m=>exact Sim.fail
  | none=>
   refine Sim.bind (B2 T t) fun i=>Sim.bind (A9 x) fun x=>Sim.bind (a5s lo) fun l=>Sim.bind (a5s hi) fun h=>?_
   simp only [id]
   cases i.k <;> try exact Sim.fail
   case slice e=>
    refine Sim.bind (B2 T e) fun ie=>?_
    cases TU e with
    | none=>exact Sim.fail
    | some u=>
     refine Sim.chk fun hu=>?_
     have e2:=Nat.eq_of_beq_eq_true hu
     split
     ·refine Sim.bind (H9 o.dst) fun d=>?_
      simp only [id]
      cases i.cut && l.isNone with
      | true=>exact b3c d ie.size u e2 h _
      | false=>exact a9G d ie.size u e2 l h _
     ·exact Sim.fail
   case str=>exact Sim.bind (a7v l h x) fun v=>B8 o.dst v
   case arr n e=>
    refine Sim.bind (B2 T e) fun ie=>?_
    simp only [id]
    cases TU e with
    | none=>exact Sim.fail
    | some u=>exact a7o o.dst u n ie l h x
 case fieldAddr t x f=>
  refine Sim.bind (B2 T t) fun i=>?_
  simp only [id]
  cases i.k <;> try exact Sim.fail
  case struct fs=>exact Sim.bind (H9 _) fun p=>Sim.bind (A9 x) fun x=>Sim.bind (a9E p.1 x) fun v=>B8 o.dst v
 case indexAddr t x k=>
  refine Sim.bind (B2 T t) fun i=>Sim.bind (A9 x) fun x=>Sim.bind (A9 k) fun k=>Sim.bind (a03 k) fun k=>?_
  simp only [id]
  cases i.k <;> try exact Sim.fail
  case slice e=>exact Sim.bind (B2 T e) fun ie=>Sim.bind (a9F ie.size k x) fun v=>B8 o.dst v
  case arr n e=>exact Sim.bind (B2 T e) fun ie=>Sim.bind (a7i _ ie.size k x) fun v=>B8 o.dst v
 case index t x k=>
  refine Sim.bind (B2 T t) fun i=>Sim.bind (A9 x) fun x=>Sim.bind (A9 k) fun k=>Sim.bind (a03 k) fun k=>?_
  simp only [id]
  cases i.k <;> try exact Sim.fail
  case str=>exact Sim.bind (a7r k x) fun v=>B8 o.dst v
  case arr n e=>
   refine Sim.bind (B2 T e) fun ie=>?_
   simp only [id]
   cases TU e with
   | none=>exact Sim.fail
   | some u=>exact Sim.bind (a7k u n ie k x) fun v=>B8 o.dst v
 case field t x f=>
  refine Sim.bind (B2 T t) fun i=>?_
  simp only [id]
  cases i.k <;> try exact Sim.fail
  case struct fs=>exact Sim.bind (H9 _) fun p=>Sim.bind (H9 _) fun ft=>Sim.bind (B2 T ft) fun ie=>Sim.bind (A9 x) fun x=>Sim.bind (a7m p.1 ie x) fun v=>B8 o.dst v
 case extract x k=>exact Sim.bind (A9 x) fun x=>Sim.bind (b1l k x) fun v=>B8 o.dst v
 case range t x=>exact Sim.bind (B2 T t) fun i=>Sim.bind (H9 o.dst) fun d=>Sim.bind (A9 x) fun x=>a9L i.k d x
 case next x b=>
  cases b with
  | true=>exact Sim.bind (H9 o.dst) fun d=>Sim.bind (A9 x) fun x=>b1k d x
  | false=>exact Sim.fail
 case makeFunc fn fs cs=>
  refine Sim.bind (H9 o.dst) fun d=>?_
  split
  ·rename_i f h1 h2
   rw [h1,h2];exact Sim.ret rfl
  ·rename_i f k h1 h2
   rw [h1,h2];exact Sim.bind (A9 _) fun v=>b1c d _ _ v
  ·exact Sim.fail
 case makeInterface t x=>
  refine Sim.bind (B2 T t) fun i=>Sim.bind (H9 o.dst) fun d=>Sim.bind (A9 x) fun x=>?_
  split
  ·rename_i c
   cases TU t with
   | none=>exact Sim.fail
   | some u=>exact Sim.req (fun h=>h) fun _=>b3g t u d c
  ·exact Sim.fail
 case typeAssert x xt t b=>
  cases b with
  | true=>exact Sim.bind (B2 T t) fun i=>Sim.bind (A9 x) fun x=>Sim.bind (a7z i t x) fun v=>B8 o.dst v
  | false=>exact Sim.fail
 case makeSlice t l c=>
  refine Sim.bind (B2 T t) fun i=>Sim.bind (H9 o.dst) fun d=>Sim.bind (A9 l) fun l=>Sim.bind (a03 l) fun l=>Sim.bind (A9 c) fun c=>Sim.bind (a03 c) fun c=>?_
  simp only [id]
  cases i.k <;> try exact Sim.fail
  case slice e=>
   refine Sim.bind (B2 T e) fun ie=>?_
   cases TU e with
   | none=>exact Sim.fail
   | some u=>
    refine Sim.chk fun h=>Sim.req (fun h0=>?_) fun _=>?_
    ·simp only [Bool.and_eq_true] at h
     have h1:=of_decide_eq_true h.1.1
     have h2:=of_decide_eq_true h0
     exact⟨h1.1,h2.1,h2.2.1,h2.2.2.1,h2.2.2.2,h1.2⟩
    ·simp only [Bool.and_eq_true] at h
     have e2:=Nat.eq_of_beq_eq_true h.1.2
     have e3:=a07 h.2
     refine Sim.rdR fun r=>Sim.ret ?_
     simp only [id]
     rw [<-e2,<-e3,a2F u,<-List.map_replicate]
     rfl
 case makeMap t r=>
  refine Sim.bind (B2 T t) fun i=>Sim.bind (H9 o.dst) fun d=>Sim.bind (a5s r) fun _=>?_
  simp only [id]
  cases i.k <;> try exact Sim.fail
  case map kt vt=>
   refine Sim.bind (B2 T vt) fun iv=>?_
   cases TU kt with
   | none=>exact Sim.fail
   | some K=>
    cases TU vt with
    | none=>exact Sim.fail
    | some V=>
     refine Sim.chk fun h=>?_
     rw [Bool.and_eq_true] at h
     refine Sim.rdR fun r=>Sim.ret ?_
     simp only [id]
     rw [<-Nat.eq_of_beq_eq_true h.2,<-a5z h.1]
     rfl
 case lookup t m k ok=>
  refine Sim.bind (B2 T t) fun i=>Sim.bind (A9 m) fun m=>Sim.bind (A9 k) fun k=>?_
  simp only [id]
  cases i.k <;> try exact Sim.fail
  case map kt vt=>
   refine Sim.bind (B2 T kt) fun ik=>Sim.bind (B2 T vt) fun iv=>?_
   cases TU kt with
   | none=>exact Sim.fail
   | some K=>
    cases TU vt with
    | none=>exact Sim.fail
    | some V=>
     refine Sim.chk fun h=>?_
     simp only [Bool.and_eq_true] at h
     refine Sim.bind (a22 h.1.1 k) fun k=>Sim.bind (b1f h.1.1 h.1.2 (a07 h.2).symm k m) fun p=>?_
     have e:=L2 V p.x
     show Sim US _ ((asV iv ((V.enc p.x).map .d)).bind fun x=>one o.dst (okV ok x p.b))
     rw [<-e]
     exact Sim.bind (a0s iv _) fun x=>Sim.bind (b3f ok x p.b) fun v=>B8 o.dst v
 case mapUpdate t m k x=>
  cases o.dst with
  | some d=>exact Sim.fail
  | none=>
   refine Sim.bind (B2 T t) fun i=>Sim.bind (A9 m) fun m=>Sim.bind (A9 k) fun k=>Sim.bind (A9 x) fun x=>?_
   simp only [id]
   cases i.k <;> try exact Sim.fail
   case map kt vt=>
    refine Sim.bind (B2 T kt) fun ik=>Sim.bind (B2 T vt) fun iv=>?_
    cases TU kt with
    | none=>exact Sim.fail
    | some K=>
     cases TU vt with
     | none=>exact Sim.fail
     | some V=>
      refine Sim.chk fun h=>?_
      simp only [Bool.and_eq_true] at h
      exact Sim.bind (a22 h.1.1 k) fun k=>Sim.bind (a3K iv.agg x) fun cs=>b1g h.1.1 h.1.2 (Nat.eq_of_beq_eq_true h.2) k cs m
 case mapEntry t m k=>
  refine Sim.bind (B2 T t) fun i=>Sim.bind (H9 o.dst) fun d=>Sim.bind (A9 m) fun m=>Sim.bind (A9 k) fun k=>?_
  simp only [id]
  cases i.k <;> try exact Sim.fail
  case map kt vt=>
   refine Sim.bind (B2 T kt) fun ik=>Sim.bind (B2 T vt) fun iv=>?_
   cases TU kt with
   | none=>exact Sim.fail
   | some K=>
    cases TU vt with
    | none=>exact Sim.fail
    | some V=>
     refine Sim.chk fun h=>?_
     simp only [Bool.and_eq_true] at h
     exact Sim.bind (a22 h.1.1.1 k) fun k=>b1n h.1.1.1 h.1.1.2 (Nat.eq_of_beq_eq_true h.1.2) (a07 h.2).symm d k m
 case entryStore t m st x=>
  cases o.dst with
  | some d=>exact Sim.fail
  | none=>
   refine Sim.bind (B2 T t) fun i=>Sim.bind (A9 m) fun m=>Sim.bind (A9 st) fun st=>Sim.bind (A9 x) fun x=>?_
   simp only [id]
   cases i.k <;> try exact Sim.fail
   case map kt vt=>
    refine Sim.bind (B2 T kt) fun ik=>Sim.bind (B2 T vt) fun iv=>?_
    cases TU kt with
    | none=>exact Sim.fail
    | some K=>
     cases TU vt with
     | none=>exact Sim.fail
     | some V=>
      refine Sim.chk fun h=>?_
      simp only [Bool.and_eq_true] at h
      exact Sim.bind (a3K iv.agg x) fun cs=>b1o h.1.1 h.1.2 (Nat.eq_of_beq_eq_true h.2) cs m st
 case call c=>exact hc o c ho
end
end Go.Proofs.Ythadhfbkhldblaa.Am
