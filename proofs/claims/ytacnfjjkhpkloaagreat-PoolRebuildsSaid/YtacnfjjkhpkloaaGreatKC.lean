/- Texts laid together: TmDefs, TmQ, TmOps, TmOps2, TmEq, TmOps3, TmMaps, TmEnt, TmStr, TmOps4, TmOps5. No conditions. -/
import Derived.Test.YtacnfjjkhpkloaaGreatKB
namespace Go.Proofs.YtacnfjjkhpkloaaGreat.Am
open Go
inductive U where
 | int (k:IntKind)
 | byte
 | bool
 | str
 | sl (u:U)
 | pr (a b:U)
 | arr (n:Nat) (u:U)
 deriving DecidableEq
def U.den:U->Type
 | .int _=>Int
 | .byte=>UInt8
 | .bool=>Bool
 | .str=>List UInt8
 | .sl u=>List u.den
 | .pr a b=>a.den × b.den
 | .arr n u=>Vector u.den n
def U.size:U->Nat
 | .pr a b=>a.size + b.size
 | .arr n u=>n * u.size
 | _=>1
def U.dflt:(u:U)->u.den
 | .int _=>(0:Int)
 | .byte=>(0:UInt8)
 | .bool=>false
 | .str=>([]:List UInt8)
 | .sl _=>[]
 | .pr a b=>(a.dflt,b.dflt)
 | .arr n u=>Vector.replicate n u.dflt
def U.enc:(u:U)->u.den->List DV
 | .int k,n=>[.v (.int k n)]
 | .byte,x=>[.v (.int .u8 (UInt8.toNat x:Nat))]
 | .bool,b=>[.v (.bool b)]
 | .str,l=>[.v (.string ⟨List.toArray l⟩)]
 | .sl u,l=>[.sl (List.map u.enc l)]
 | .pr a b,x=>a.enc x.1 ++ b.enc x.2
 | .arr _ u,v=>(Vector.toList v).flatMap u.enc
theorem a61 {α β:Type} (f:α->List β) (z:Nat):∀ (l:List α),(∀ x ∈ l,(f x).length=z)->(l.flatMap f).length=l.length * z
 | [],_=>by simp
 | x :: l,h=>by
  rw [List.flatMap_cons,List.length_append,h x (by simp),a61 f z l (fun y hy=>h y (by simp [hy])),List.length_cons,Nat.succ_mul,Nat.add_comm]
theorem U.enc_len:(u:U)->(x:u.den)->(u.enc x).length=u.size
 | .int _,_=>rfl
 | .byte,_=>rfl
 | .bool,_=>rfl
 | .str,_=>rfl
 | .sl _,_=>rfl
 | .pr a b,x=>by rw [U.enc,List.length_append,a.enc_len,b.enc_len];rfl
 | .arr n u,v=>by
  have h:=a61 u.enc u.size (Vector.toList v) (fun x _=>u.enc_len x)
  exact h.trans (congrArg (· * u.size) (Vector.length_toList (xs:=v)))
def b1I (ds:List DV):DV:=ds.headD (.v undef)
theorem b5O {ds:List DV} (h:ds.length=1):[b1I ds]=ds:=by
 match ds,h with
 | [x],_=>rfl
inductive TC where
 | ch (u:U) (x:u.den)
 | nil
 | npt
 | nmap
 | fn (f:FuncId)
 | it (t:TypeId) (u:U) (x:u.den)
 | clo (f:FuncId) (u:U) (x:u.den)
 | row (id ver:Nat)
 | ptr (id ver off:Nat)
 | pa (id ver off:Nat) (z:Nat) (k:Nat)
 | ep (u:U) (x:u.den) (off:Nat)
 | ex (u:U) (x:u.den) (off z k:Nat)
 | rp (id ver:Nat) (i off sz:Nat)
 | junk
def TC.cells:TC->List AC
 | .ch u x=>(u.enc x).map .d
 | .nil=>[.nil]
 | .npt=>[.d (.v (.pointer none))]
 | .nmap=>[.d (.v (.map none))]
 | .fn f=>[.d (.v (.func (.func f) #[] #[]))]
 | .it t u x=>[.d (.it t (b1I (u.enc x)))]
 | .clo f u x=>[.d (.clo f (u.enc x))]
 | .row id ver=>[.row id ver]
 | .ptr id ver off=>[.ptr id ver off]
 | .pa id ver off z k=>[.ptr id ver (off + k * z)]
 | .ep u x off=>[.eptr ((u.enc x).drop off)]
 | .ex u x off z k=>[.eptr ((u.enc x).drop (off + k * z))]
 | .rp id ver i off sz=>[.rptr id ver i off sz]
 | .junk=>[.junk]
def TC.size:TC->Nat
 | .ch u _=>u.size
 | _=>1
theorem TC.cells_len (c:TC):c.cells.length=c.size:=by
 cases c <;> simp only [TC.cells,TC.size,List.length_map,List.length_cons,List.length_nil]
 exact U.enc_len _ _
def B6:List TC->List AC
 | []=>[]
 | c :: cs=>c.cells ++ B6 cs
theorem a0T:∀ (a b:List TC),B6 (a ++ b)=B6 a ++ B6 b
 | [],b=>rfl
 | c :: a,b=>by rw [List.cons_append,B6,a0T a b,B6,List.append_assoc]
def a1U:List AC->AC
 | [x]=>x
 | _=> .junk
inductive T1 where
 | c (x:TC)
 | agg (xs:List TC)
def a3O:(K:U)->K.den->Value
 | .int k,n=> .int k n
 | .str,l=> .string ⟨List.toArray l⟩
 | _,_=>undef
inductive TV where
 | o (x:T1)
 | ent (tup:Bool) (id pv:Nat) (K:U) (k:K.den)
 | tup (xs:List T1)
 | clo (f id ver:Nat)
 | nx (b:Bool) (x y:TC)
 | any
def T1.av:T1->AV
 | .c x=> .c (a1U x.cells)
 | .agg xs=> .agg (B6 xs)
def TV.av:TV->AV
 | .o x=>x.av
 | .tup xs=> .tup (xs.map T1.av)
 | .clo f id ver=> .clo f id ver
 | .ent b id pv K k=> .ent b id pv (a3O K k)
 | .nx b x y=> .nx b (a1U x.cells) (a1U y.cells)
 | .any=> .any
structure TGV where
 g:Bool
 x:TV
def TGV.gv (x:TGV):GV:=⟨x.g,x.x.av⟩
structure a8U where
 u:U
 l:List u.den
 e:TypeId
 fr:Bool
def a8U.row (r:a8U):Row:=⟨r.l.map r.u.enc,r.u.size,r.e,r.fr⟩
structure TBS where
 ver:Nat
 c:Option (List TC)
structure TRS where
 ver:Nat
 c:Option a8U
def TBS.bs (x:TBS):BS:=⟨x.ver,x.c.map B6⟩
def TRS.rs (x:TRS):RS:=⟨x.ver,x.c.map a8U.row⟩
structure TSt where
 n:Nat
 t:Nat->TGV
 b:Nat->TBS
 r:Nat->TRS
def TSt.st (s:TSt):St:=⟨s.n,fun k=>(s.t k).gv,fun k=>(s.b k).bs,fun k=>(s.r k).rs⟩
inductive a0l where
 | t (k:Nat) (x:TGV)
 | b (k:Nat) (x:TBS)
 | r (k:Nat) (x:TRS)
def a0l.upd:a0l->Upd
 | .t k x=> .t k x.gv
 | .b k x=> .b k x.bs
 | .r k x=> .r k x.rs
def TSt.app1 (s:TSt):a0l->TSt
 | .t k x=>⟨s.n,Am.upd s.t k x,s.b,s.r⟩
 | .b k x=>⟨s.n,s.t,Am.upd s.b k x,s.r⟩
 | .r k x=>⟨s.n,s.t,s.b,Am.upd s.r k x⟩
def TSt.app (s:TSt):List a0l->TSt
 | []=>s
 | u :: us=>(s.app1 u).app us
theorem b4f {α β:Type} (f:α->β) (g:Nat->α) (k:Nat) (x:α):(fun j=>f (Am.upd g k x j))=Am.upd (fun j=>f (g j)) k (f x):=by
 funext j
 simp only [Am.upd]
 split <;> rfl
theorem TSt.st_app1 (s:TSt) (u:a0l):(s.app1 u).st=s.st.app1 u.upd:=by
 cases u <;> simp only [TSt.app1,TSt.st,a0l.upd,St.app1,St.setT,St.setB,St.setR]
 ·rw [b4f TGV.gv]
 ·rw [b4f TBS.bs]
 ·rw [b4f TRS.rs]
theorem TSt.st_app:∀ (us:List a0l) (s:TSt),(s.app us).st=s.st.app (us.map a0l.upd)
 | [],s=>rfl
 | u :: us,s=>by rw [TSt.app,TSt.st_app us,TSt.st_app1];rfl
inductive TQ (α:Type):Type 1 where
 | ret (a:α)
 | rdT (k:Nat) (f:TGV->TQ α)
 | rdB (k:Nat) (f:TBS->TQ α)
 | rdR (k:Nat) (f:TRS->TQ α)
 | req (b:Bool) (q:TQ α)
 | call {β:Type} (o:Option β) (f:β->TQ α)
 | fail
def TQ.bind {α β:Type}:TQ α->(α->TQ β)->TQ β
 | .ret a,f=>f a
 | .rdT k g,f=> .rdT k fun x=>(g x).bind f
 | .rdB k g,f=> .rdB k fun x=>(g x).bind f
 | .rdR k g,f=> .rdR k fun x=>(g x).bind f
 | .req p q,f=> .req p (q.bind f)
 | .call o g,f=> .call o fun x=>(g x).bind f
 | .fail,_=> .fail
def TQ.wpt {α:Type}:TQ α->TSt->List N7->(α->List N7->Prop)->Prop
 | .ret a,_,tr,K=>K a tr
 | .rdT k f,s,tr,K=>(f (s.t k)).wpt s (.t k :: tr) K
 | .rdB k f,s,tr,K=>(f (s.b k)).wpt s (.b k :: tr) K
 | .rdR k f,s,tr,K=>(f (s.r k)).wpt s (.r k :: tr) K
 | .req b q,s,tr,K=>b=true/\q.wpt s tr K
 | .call o f,s,tr,K=>∃ x,o=some x/\(f x).wpt s tr K
 | .fail,_,_,_=>False
theorem TQ.wpt_bind {α β:Type} (q:TQ α) (f:α->TQ β) (s:TSt) (tr:List N7) (K:β->List N7->Prop):(q.bind f).wpt s tr K ↔ q.wpt s tr fun a rs=>(f a).wpt s rs K:=by
 induction q generalizing tr with
 | ret a=>rfl
 | rdT k g ih=>exact ih _ _
 | rdB k g ih=>exact ih _ _
 | rdR k g ih=>exact ih _ _
 | req p q ih=>exact and_congr Iff.rfl (ih _)
 | call o g ih=>exact exists_congr fun x=>and_congr Iff.rfl (ih x _)
 | fail=>rfl
theorem Q.wpt_bind {α β:Type} (q:Q α) (f:α->Q β) (s:St) (tr:List N7) (K:β->List N7->Prop):(q.bind f).wpt s tr K ↔ q.wpt s tr fun a rs=>(f a).wpt s rs K:=by
 induction q generalizing tr with
 | ret a=>rfl
 | rdT k g ih=>exact ih _ _
 | rdB k g ih=>exact ih _ _
 | rdR k g ih=>exact ih _ _
 | req p q ih=>exact and_congr Iff.rfl (ih _)
 | fail=>rfl
theorem Q.wpt_mono {α:Type} {q:Q α} {s:St} {K K':α->List N7->Prop}:∀ {tr:List N7},q.wpt s tr K->(∀ a rs,K a rs->K' a rs)->q.wpt s tr K':=by
 induction q with
 | ret a=>exact fun h hk=>hk _ _ h
 | rdT k g ih=>exact fun h hk=>ih _ h hk
 | rdB k g ih=>exact fun h hk=>ih _ h hk
 | rdR k g ih=>exact fun h hk=>ih _ h hk
 | req p q ih=>exact fun h hk=>⟨h.1,ih h.2 hk⟩
 | fail=>exact fun h hk=>h.elim
theorem Q.wp_of_wpt {α:Type} {q:Q α} {s:St} {K:α->Prop}:∀ {tr:List N7},(q.wpt s tr fun a _=>K a)->q.wp s K:=by
 induction q with
 | ret a=>exact fun h=>h
 | rdT k g ih=>exact fun h=>ih _ h
 | rdB k g ih=>exact fun h=>ih _ h
 | rdR k g ih=>exact fun h=>ih _ h
 | req p q ih=>exact fun h=>⟨h.1,ih h.2⟩
 | fail=>exact fun h=>h
def Sim {α β:Type} (f:α->β) (q':TQ α) (q:Q β):Prop:=∀ (s:TSt) (tr:List N7) (K:α->List N7->Prop),q'.wpt s tr K->q.wpt s.st tr fun b rs=>∃ a,b=f a/\K a rs
section
variable {α β γ δ:Type} {f:α->β} {g:γ->δ}
theorem Sim.ret {a:α} {b:β} (h:b=f a):Sim f (.ret a) (.ret b):=fun _ _ _ hk=>⟨a,h,hk⟩
theorem Sim.rdT {k:Nat} {q':TGV->TQ α} {q:GV->Q β} (h:∀ x,Sim f (q' x) (q x.gv)):Sim f (.rdT k q') (.rdT k q):=fun s _ _ hk=>h (s.t k) s _ _ hk
theorem Sim.rdB {k:Nat} {q':TBS->TQ α} {q:BS->Q β} (h:∀ x,Sim f (q' x) (q x.bs)):Sim f (.rdB k q') (.rdB k q):=fun s _ _ hk=>h (s.b k) s _ _ hk
theorem Sim.rdR {k:Nat} {q':TRS->TQ α} {q:RS->Q β} (h:∀ x,Sim f (q' x) (q x.rs)):Sim f (.rdR k q') (.rdR k q):=fun s _ _ hk=>h (s.r k) s _ _ hk
theorem Sim.req {b:Bool} {p:Prop} {q':TQ α} {q:Q β} (hp:b=true->p) (h:b=true->Sim f q' q):Sim f (.req b q') (.req p q):=fun s tr K hk=>⟨hp hk.1,h hk.1 s tr K hk.2⟩
theorem Sim.chk {b:Bool} {q':TQ α} {q:Q β} (h:b=true->Sim f q' q):Sim f (.req b q') q:=fun s tr K hk=>h hk.1 s tr K hk.2
theorem Sim.must {p:Prop} {q':TQ α} {q:Q β} (hp:p) (h:Sim f q' q):Sim f q' (.req p q):=fun s tr K hk=>⟨hp,h s tr K hk⟩
theorem Sim.fail {q:Q β}:Sim f .fail q:=fun _ _ _ hk=>hk.elim
theorem Sim.bind {q':TQ α} {q:Q β} {k':α->TQ γ} {k:β->Q δ} (h:Sim f q' q) (hk:∀ a,Sim g (k' a) (k (f a))):Sim g (q'.bind k') (q.bind k):=fun s tr K hK=>by
 rw [TQ.wpt_bind] at hK
 rw [Q.wpt_bind]
 refine Q.wpt_mono (h s tr _ hK) ?_
 rintro b rs ⟨a,rfl,h1⟩
 exact hk a s rs K h1
end
def chk {α:Type} (b:Bool) (k:Option α):Option α:=match b with
 | true=>k
 | false=>none
def TQ.run {α R:Type}:TQ α->TSt->List N7->(α->List N7->Option R)->Option R
 | .ret a,_,tr,K=>K a tr
 | .rdT k f,s,tr,K=>(f (s.t k)).run s (.t k :: tr) K
 | .rdB k f,s,tr,K=>(f (s.b k)).run s (.b k :: tr) K
 | .rdR k f,s,tr,K=>(f (s.r k)).run s (.r k :: tr) K
 | .req b q,s,tr,K=>Am.chk b (q.run s tr K)
 | .call o f,s,tr,K=>o.bind fun x=>(f x).run s tr K
 | .fail,_,_,_=>none
theorem X3 {α:Type} {b:Bool} {k:Option α} {r:α} (h:chk b k=some r):b=true/\k=some r:=by
 cases b
 ·cases h
 ·exact⟨rfl,h⟩
theorem TQ.run_wpt {α R:Type} {r:R} {s:TSt} {K:α->List N7->Option R} {q:TQ α}:∀ {tr:List N7},q.run s tr K=some r->q.wpt s tr fun a rs=>K a rs=some r:=by
 induction q with
 | ret a=>exact fun h=>h
 | rdT k f ih=>exact fun h=>ih _ h
 | rdB k f ih=>exact fun h=>ih _ h
 | rdR k f ih=>exact fun h=>ih _ h
 | req b q ih=>exact fun h=>⟨(X3 h).1,ih (X3 h).2⟩
 | call o f ih=>
  intro tr h
  simp only [TQ.run,Option.bind_eq_some_iff] at h
  obtain⟨x,h1,h2⟩:=h
  exact⟨x,h1,ih x h2⟩
 | fail=>intro tr h;cases h
end Go.Proofs.YtacnfjjkhpkloaaGreat.Am
namespace Go.Proofs.YtacnfjjkhpkloaaGreat.Am
open Go
def a4H {u v:U} (h:u=v) (x:u.den):v.den:=h ▸ x
theorem a6i {u v:U} (h:u=v) (x:u.den):v.enc (a4H h x)=u.enc x:=by subst h;rfl
def O5 {α:Type} {n:Nat} (v:Vector α n) (i:Nat) (d:α):α:=v.toList.getD i d
theorem b8K {α:Type} {n:Nat} (v:Vector α n) (d:α):(List.range n).map (fun i=>O5 v i d)=v.toList:=by
 refine List.ext_getElem (by simp) fun i h1 h2=>?_
 have:i < n:=by simpa using h1
 simp [this,O5]
def c7V {n:Nat} {u:U} (v:Vector u.den n) (i:Nat):TC:= .ch u (O5 v i u.dflt)
def a5Q:(u:U)->u.den->List TC
 | .pr a b,x=> .ch a x.1 :: a5Q b x.2
 | .arr n _,v=>(List.range n).map fun i=>c7V v i
 | .int k,x=>[.ch (.int k) x]
 | .byte,x=>[.ch .byte x]
 | .bool,x=>[.ch .bool x]
 | .str,x=>[.ch .str x]
 | .sl u,x=>[.ch (.sl u) x]
theorem a7E (u:U):∀ (l:List u.den),B6 (l.map (TC.ch u))=(l.flatMap u.enc).map .d
 | []=>rfl
 | x :: l=>by rw [List.map_cons,B6,a7E u l,List.flatMap_cons,List.map_append];rfl
theorem a3D:∀ (u:U) (x:u.den),B6 (a5Q u x)=(u.enc x).map .d
 | .pr a b,x=>by
  show TC.cells (.ch a x.1) ++ B6 (a5Q b x.2)=((a.enc x.1) ++ b.enc x.2).map .d
  rw [a3D b,List.map_append];rfl
 | .arr n u,v=>by
  have h:(List.range n).map (fun i=>c7V (u:=u) v i)=(Vector.toList v).map (TC.ch u):=by
   have:=congrArg (List.map (TC.ch u)) (b8K (n:=n) (α:=u.den) v u.dflt)
   rw [List.map_map] at this
   exact this
  show B6 ((List.range n).map (fun i=>c7V (u:=u) v i))=_
  rw [h,a7E];rfl
 | .int _,_=>by simp only [a5Q,B6,TC.cells,List.append_nil]
 | .byte,_=>by simp only [a5Q,B6,TC.cells,List.append_nil]
 | .bool,_=>by simp only [a5Q,B6,TC.cells,List.append_nil]
 | .str,_=>by simp only [a5Q,B6,TC.cells,List.append_nil]
 | .sl _,_=>by simp only [a5Q,B6,TC.cells,List.append_nil]
def big:U->Bool
 | .pr _ _=>true
 | .arr _ _=>true
 | _=>false
def b4g:Nat->Nat->List TC->Option (List TC)
 | 0,_,_=>none
 | f + 1,k,ps=>match k,ps with
  | 0,ps=>some ps
  | _ + 1,[]=>none
  | k + 1,p :: ps=>match Nat.ble p.size (k + 1) with
   | true=>b4g f (k + 1 - p.size) ps
   | false=>match p with
    | .ch u x=>match big u with
     | true=>b4g f (k + 1) (a5Q u x ++ ps)
     | false=>none
    | _=>none
def b4h:Nat->Nat->List TC->Option (List TC)
 | 0,_,_=>none
 | f + 1,k,ps=>match k,ps with
  | 0,_=>some []
  | _ + 1,[]=>none
  | k + 1,p :: ps=>match Nat.ble p.size (k + 1) with
   | true=>(b4h f (k + 1 - p.size) ps).map (p :: ·)
   | false=>match p with
    | .ch u x=>match big u with
     | true=>b4h f (k + 1) (a5Q u x ++ ps)
     | false=>none
    | _=>none
theorem a7F:∀ {f k:Nat} {ps qs:List TC},b4g f k ps=some qs->B6 qs=(B6 ps).drop k/\k<=(B6 ps).length
 | 0,_,_,_,h=>by cases h
 | f + 1,k,ps,qs,h=>by
  unfold b4g at h
  split at h
  ·injection h with h;subst h;simp
  ·cases h
  ·rename_i k p ps
   split at h
   ·rename_i hb
    have hb':=Nat.le_of_ble_eq_true hb
    obtain⟨h1,h2⟩:=a7F h
    have hp:=TC.cells_len p
    rw [B6,h1,List.drop_append,List.drop_eq_nil_of_le (as:=p.cells) (by rw [hp];exact hb'),hp]
    refine⟨rfl,?_⟩
    rw [List.length_append,hp];omega
   ·split at h
    ·rename_i u x _
     split at h
     ·obtain⟨h1,h2⟩:=a7F h
      rw [a0T,a3D] at h1 h2
      exact⟨h1,h2⟩
     ·cases h
    ·cases h
theorem a7G:∀ {f k:Nat} {ps qs:List TC},b4h f k ps=some qs->B6 qs=(B6 ps).take k/\(B6 qs).length=k
 | 0,_,_,_,h=>by cases h
 | f + 1,k,ps,qs,h=>by
  unfold b4h at h
  split at h
  ·injection h with h;subst h;simp [B6]
  ·cases h
  ·rename_i k p ps
   split at h
   ·rename_i hb
    have hb':=Nat.le_of_ble_eq_true hb
    rw [Option.map_eq_some_iff] at h
    obtain⟨q,h0,rfl⟩:=h
    obtain⟨h1,h2⟩:=a7G h0
    have hp:=TC.cells_len p
    rw [B6,B6,h1,List.take_append,List.take_of_length_le (l:=p.cells) (by rw [hp];exact hb'),hp]
    refine⟨rfl,?_⟩
    rw [<-h1,List.length_append,hp,h2];omega
   ·split at h
    ·rename_i u x _
     split at h
     ·obtain⟨h1,h2⟩:=a7G h
      rw [a0T,a3D] at h1
      exact⟨h1,h2⟩
     ·cases h
    ·cases h
def FU:Nat:=1000
def c2W (k n:Nat) (ps:List TC):Option (List TC):=(b4g FU k ps).bind fun qs=>b4h FU n qs
theorem b8L {k n:Nat} {ps qs:List TC} (h:c2W k n ps=some qs):B6 qs=((B6 ps).drop k).take n/\k + n<=(B6 ps).length:=by
 unfold c2W at h
 rw [Option.bind_eq_some_iff] at h
 obtain⟨q,h1,h2⟩:=h
 obtain⟨a1,a2⟩:=a7F h1
 obtain⟨b1,b2⟩:=a7G h2
 rw [a1] at b1
 refine⟨b1,?_⟩
 rw [b1,List.length_take,List.length_drop] at b2
 omega
def b8M:List TC->Nat
 | []=>0
 | p :: ps=>p.size + b8M ps
theorem a7H:∀ (ps:List TC),(B6 ps).length=b8M ps
 | []=>rfl
 | p :: ps=>by rw [B6,List.length_append,TC.cells_len,a7H ps];rfl
def c41 (ps:List TC) (k:Nat) (xs:List TC):Option (List TC):=(b4h FU k ps).bind fun a=>(b4g FU (k + b8M xs) ps).map fun b=>a ++ xs ++ b
theorem b8N {ps qs xs:List TC} {k:Nat} (h:c41 ps k xs=some qs):B6 qs=setAt (B6 ps) k (B6 xs)/\k + (B6 xs).length<=(B6 ps).length:=by
 unfold c41 at h
 simp only [Option.bind_eq_some_iff,Option.map_eq_some_iff] at h
 obtain⟨a,h1,b,h2,rfl⟩:=h
 obtain⟨a1,a2⟩:=a7G h1
 obtain⟨b1,b2⟩:=a7F h2
 rw [a0T,a0T,a1,b1,a7H]
 refine⟨?_,b2⟩
 unfold setAt
 rw [a7H]
structure Pk (α:Type) where
 x:α
 rest:List TC
 fz:List Nat
def TQ.ofOpt {α:Type}:Option α->TQ α
 | some a=> .ret a
 | none=> .fail
def c1v {α:Type} (p:List TC->TQ (Pk α)):(n:Nat)->List TC->TQ (Pk (Vector α n))
 | 0,ps=> .ret ⟨#v[],ps,[]⟩
 | n + 1,ps=>(c1v p n ps).bind fun a=>(p a.rest).bind fun b=> .ret ⟨a.x.push b.x,b.rest,a.fz ++ b.fz⟩
def c3L (n:Int) (rest:List TC):TQ (Pk UInt8):= .req (decide (0<=n/\n < 256)) (.ret ⟨UInt8.ofNat n.toNat,rest,[]⟩)
def c3M:(u:U)->u.den->List TC->TQ (Pk UInt8)
 | .byte,x,rest=> .ret ⟨x,rest,[]⟩
 | .int k,n,rest=>match decEq k IntKind.u8 with
  | .isTrue _=>c3L n rest
  | .isFalse _=> .fail
 | _,_,_=> .fail
def a9K:List TC->Option (Sigma U.den × List TC)
 | .ch u x :: rest=>match big u with
  | true=>some (⟨u,x⟩,rest)
  | false=>none
 | _=>none
theorem a8g {ps rest:List TC} {c:Sigma U.den} (h:a9K ps=some (c,rest)):ps= .ch c.1 c.2 :: rest:=by
 unfold a9K at h
 split at h
 ·split at h
  ·injection h with h;injection h with h1 h2;subst h1;subst h2;rfl
  ·cases h
 ·cases h
def b5P (u:U) (ps:List TC) (q:TQ (Pk u.den)):TQ (Pk u.den):=match a9K ps with
 | some c=>match decEq c.1.1 u with
  | .isTrue h=> .ret ⟨a4H h c.1.2,c.2,[]⟩
  | .isFalse _=>q
 | none=>q
def c0R:(u:U)->List TC->TQ (Pk u.den)
 | .int k,ps=>match ps with
  | .ch (.int k') n :: rest=>match decEq k' k with
   | .isTrue _=> .ret ⟨n,rest,[]⟩
   | .isFalse _=> .fail
  | .ch .byte x :: rest=>match decEq IntKind.u8 k with
   | .isTrue _=> .ret ⟨((UInt8.toNat x:Nat):Int),rest,[]⟩
   | .isFalse _=> .fail
  | _=> .fail
 | .byte,ps=>match ps with
  | .ch u x :: rest=>c3M u x rest
  | _=> .fail
 | .bool,ps=>match ps with
  | .ch .bool x :: rest=> .ret ⟨x,rest,[]⟩
  | _=> .fail
 | .str,ps=>match ps with
  | .ch .str x :: rest=> .ret ⟨x,rest,[]⟩
  | _=> .fail
 | .sl u,ps=>match ps with
  | .ch (.sl v) x :: rest=>match decEq v u with
   | .isTrue h=> .ret ⟨(h ▸ x:List u.den),rest,[]⟩
   | .isFalse _=> .fail
  | .nil :: rest=> .ret ⟨([]:List u.den),rest,[]⟩
  | .row id ver :: rest=> .rdR id fun r=>match r.c with
   | some R=>match decEq R.u u with
    | .isTrue h=> .req (decide (ver=r.ver/\R.e < a0S)) (.ret ⟨(h ▸ R.l:List u.den),rest,[id]⟩)
    | .isFalse _=> .fail
   | none=> .fail
  | _=> .fail
 | .pr a b,ps=>b5P (.pr a b) ps <| (c0R a ps).bind fun p=>(c0R b p.rest).bind fun q=> .ret ⟨(p.x,q.x),q.rest,p.fz ++ q.fz⟩
 | .arr n u,ps=>b5P (.arr n u) ps (c1v (c0R u) n ps)
theorem b1J {s:St} {K:List DV × List Nat->List N7->Prop}:∀ (a b:List AC) {tr:List N7},((a6K a).wpt s tr fun d rs=>(a6K b).wpt s rs fun e rs'=>K (d.1 ++ e.1,d.2 ++ e.2) rs')->(a6K (a ++ b)).wpt s tr K
 | [],b,tr,h=>by
  simpa only [a6K,Q.wpt,List.nil_append] using h
 | x :: a,b,tr,h=>by
  simp only [List.cons_append,a6K,Q.wpt_bind,Q.wpt] at h ⊢
  refine Q.wpt_mono h fun d rs h1=>?_
  refine b1J a b (Q.wpt_mono h1 fun e rs' h2=>?_)
  refine Q.wpt_mono h2 fun g rs'' h3=>?_
  simpa only [List.cons_append,List.append_assoc] using h3
theorem b4i (s:St) {tr:List N7} {K:List DV × List Nat->List N7->Prop}:∀ {ds:List DV},K (ds,[]) tr->(a6K (ds.map .d)).wpt s tr K
 | [],h=>h
 | d :: ds,h=>by
  simp only [List.map_cons,a6K,Q.wpt_bind,Q.wpt,toD]
  exact b4i s (ds:=ds) (K:=fun e rs=>K (d :: e.1,[] ++ e.2) rs) h
def b7U {α:Type} (f:α->List DV) (p:List TC->TQ (Pk α)):Prop:=∀ (ps:List TC) (s:TSt) (tr:List N7) (K:Pk α->List N7->Prop),(p ps).wpt s tr K->
 ∃ pre k rs,B6 ps=pre ++ B6 k.rest/\K k rs/\(a6K pre).wpt s.st tr fun d rs'=>d=(f k.x,k.fz)/\rs'=rs
theorem b5Q {α:Type} {f:α->List DV} {p:List TC->TQ (Pk α)} (hp:b7U f p):∀ (n:Nat),b7U (fun v:Vector α n=>v.toList.flatMap f) (c1v p n)
 | 0,ps,s,tr,K,h=>⟨[],_,tr,rfl,h,rfl,rfl⟩
 | n + 1,ps,s,tr,K,h=>by
  simp only [c1v,TQ.wpt_bind] at h
  obtain⟨pre1,k1,rs1,e1,h,d1⟩:=b5Q hp n ps s tr _ h
  obtain⟨pre2,k2,rs2,e2,h,d2⟩:=hp _ s rs1 _ h
  refine⟨pre1 ++ pre2,_,rs2,?_,h,b1J _ _ (Q.wpt_mono d1 ?_)⟩
  ·rw [e1,e2,List.append_assoc]
  ·rintro d rs ⟨rfl,rfl⟩
   refine Q.wpt_mono d2 ?_
   rintro d rs ⟨rfl,rfl⟩
   simp [Vector.toList_push]
theorem b7U.ch {u:U} {x:u.den} {α:Type} {f:α->List DV} {y:α} {ps rest:List TC} {s:TSt} {tr:List N7} {K:Pk α->List N7->Prop} (hps:ps= .ch u x :: rest) (h:K ⟨y,rest,[]⟩ tr) (e:f y=u.enc x) :
  ∃ pre k rs,B6 ps=pre ++ B6 k.rest/\K k rs/\(a6K pre).wpt s.st tr fun d rs'=>d=(f k.x,k.fz)/\rs'=rs:=
 ⟨(u.enc x).map .d,_,tr,by rw [hps];rfl,h,b4i _ ⟨by rw [e],rfl⟩⟩
theorem ofNat_toNat {n:Int} (h0:0<=n) (h:n < 256):((UInt8.toNat (UInt8.ofNat n.toNat):Nat):Int)=n:=by
 have:n.toNat < 256:=by omega
 have h2:(UInt8.ofNat n.toNat).toNat=n.toNat:=UInt8.toNat_ofNat_of_lt' this
 rw [h2]
 omega
theorem b5R {n:Int} (h:decide (0<=n/\n < 256)=true):[DV.v (.int .u8 ((UInt8.toNat (UInt8.ofNat n.toNat):Nat):Int))]=[DV.v (.int .u8 n)]:=by
 have h1:=of_decide_eq_true h
 rw [ofNat_toNat h1.1 h1.2]
theorem b26 {u:U} {ps:List TC} {q:TQ (Pk u.den)} {s:TSt} {tr:List N7} {K:Pk u.den->List N7->Prop} (hq:q.wpt s tr K->∃ pre k rs,B6 ps=pre ++ B6 k.rest/\K k rs/\(a6K pre).wpt s.st tr fun d rs'=>d=(u.enc k.x,k.fz)/\rs'=rs)
  (h:(b5P u ps q).wpt s tr K):∃ pre k rs,B6 ps=pre ++ B6 k.rest/\K k rs/\(a6K pre).wpt s.st tr fun d rs'=>d=(u.enc k.x,k.fz)/\rs'=rs:=by
 unfold b5P at h
 split at h
 ·rename_i c hc
  split at h
  ·rename_i hk _
   exact b7U.ch (a8g hc) h (a6i hk _)
  ·exact hq h
 ·exact hq h
theorem a9L:∀ (u:U),b7U u.enc (c0R u)
 | .int k,ps,s,tr,K,h=>by
  unfold c0R at h
  split at h
  ·split at h
   ·rename_i hk _;subst hk;exact b7U.ch rfl h rfl
   ·exact h.elim
  ·split at h
   ·rename_i hk _;subst hk;exact b7U.ch rfl h rfl
   ·exact h.elim
  ·exact h.elim
 | .byte,ps,s,tr,K,h=>by
  cases ps with
  | nil=>exact h.elim
  | cons p rest=>
   cases p with
   | ch u x=>
    replace h:(c3M u x rest).wpt s tr K:=h
    cases u with
    | byte=>exact b7U.ch rfl h rfl
    | int k=>
     unfold c3M at h
     simp only at h
     split at h
     ·rename_i hk _
      subst hk
      obtain⟨h1,h2⟩:=h
      exact b7U.ch (u:= .int .u8) rfl h2 (b5R (n:=x) h1)
     ·exact h.elim
    | _=>exact h.elim
   | _=>exact h.elim
 | .bool,ps,s,tr,K,h=>by
  unfold c0R at h
  split at h
  ·exact b7U.ch rfl h rfl
  ·exact h.elim
 | .str,ps,s,tr,K,h=>by
  unfold c0R at h
  split at h
  ·exact b7U.ch rfl h rfl
  ·exact h.elim
 | .sl u,ps,s,tr,K,h=>by
  unfold c0R at h
  split at h
  ·split at h
   ·rename_i hk _;subst hk;exact b7U.ch rfl h rfl
   ·exact h.elim
  ·exact⟨[.nil],_,tr,rfl,h,rfl,rfl⟩
  ·rename_i id ver rest
   simp only [TQ.wpt] at h
   split at h
   ·rename_i R hR
    split at h
    ·rename_i hk _
     obtain⟨h1,h2⟩:=h
     rw [decide_eq_true_eq] at h1
     refine⟨[.row id ver],_,_,rfl,h2,?_⟩
     have hc:(s.st.r id).c=some R.row:=by show(s.r id).c.map a8U.row=_;rw [hR];rfl
     simp only [a6K,toD,Q.bind,Q.wpt]
     rw [hc]
     refine⟨h1,?_,rfl⟩
     subst hk
     rfl
    ·exact h.elim
   ·exact h.elim
  ·exact h.elim
 | .pr a b,ps,s,tr,K,h=>b26 (by
   intro h
   simp only [TQ.wpt_bind] at h
   obtain⟨pre1,k1,rs1,e1,h,d1⟩:=a9L a _ s tr _ h
   obtain⟨pre2,k2,rs2,e2,h,d2⟩:=a9L b _ s rs1 _ h
   refine⟨pre1 ++ pre2,_,rs2,by rw [e1,e2,List.append_assoc],h,b1J _ _ (Q.wpt_mono d1 ?_)⟩
   rintro d rs ⟨rfl,rfl⟩
   refine Q.wpt_mono d2 ?_
   rintro d rs ⟨rfl,rfl⟩
   exact⟨rfl,rfl⟩) h
 | .arr n u,ps,s,tr,K,h=>b26 (b5Q (a9L u) n _ s tr K) h
structure Pa (α:Type) where
 x:α
 fz:List Nat
def a4q (u:U) (ps:List TC):TQ (Pa u.den):=(c0R u ps).bind fun p=> .req p.rest.isEmpty (.ret ⟨p.x,p.fz⟩)
theorem a0O (u:U) (ps:List TC):Sim (fun p:Pa u.den=>(u.enc p.x,p.fz)) (a4q u ps) (a6K (B6 ps)):=fun s tr K h=>by
 unfold a4q at h
 rw [TQ.wpt_bind] at h
 obtain⟨pre,k,rs,e,h,d⟩:=a9L u ps s tr _ h
 obtain⟨h1,h2⟩:=h
 rw [List.isEmpty_iff] at h1
 rw [h1,B6,List.append_nil] at e
 rw [e]
 refine Q.wpt_mono d ?_
 rintro d rs ⟨rfl,rfl⟩
 exact⟨_,rfl,h2⟩
end Go.Proofs.YtacnfjjkhpkloaaGreat.Am
namespace Go.Proofs.YtacnfjjkhpkloaaGreat.Am
open Go
def US:List a0l->List Upd:=List.map a0l.upd
def c7z (d:Option Nat) (x:TV):List a0l:=match d with
 | some d=>[.t d ⟨true,x⟩]
 | none=>[]
def a62 (d:Option Nat) (x:TV):TQ (List a0l):= .ret (c7z d x)
theorem H3 (d:Option Nat) (x:TV):Sim US (a62 d x) (one d x.av):=Sim.ret (by cases d <;> rfl)
theorem b27 {α β:Type} {f:α->β} {o':Option α} {o:Option β} (h:∀ a,o'=some a->o=some (f a)):Sim f (TQ.ofOpt o') (Q.ofOpt o):=by
 cases o' with
 | none=>exact Sim.fail
 | some a=>rw [h a rfl];exact Sim.ret rfl
theorem P2 {α:Type} (o:Option α):Sim id (TQ.ofOpt o) (Q.ofOpt o):=b27 fun _ h=>h
def b69:Value->Option TC
 | .int k n=>some (.ch (.int k) n)
 | .bool b=>some (.ch .bool b)
 | .string s=>some (.ch .str s.data.toList)
 | .slice none 0 0=>some .nil
 | .pointer none=>some .npt
 | .map none=>some .nmap
 | .func (.func f) xs ys=>match xs.toList,ys.toList with
  | [],[]=>some (.fn f)
  | _,_=>none
 | _=>none
theorem b1K {v:Value} {c:TC} (h:b69 v=some c):c.cells=[a0c v]/\v.oneCell'=true/\a6J v= .c (a0c v):=by
 unfold b69 at h
 split at h
 ·injection h with h;subst h;exact⟨rfl,rfl,rfl⟩
 ·injection h with h;subst h;exact⟨rfl,rfl,rfl⟩
 ·rename_i s
  injection h with h;subst h
  refine⟨?_,rfl,rfl⟩
  show [AC.d (.v (.string ⟨s.data.toList.toArray⟩))]=[AC.d (.v (.string s))]
  rw [Array.toArray_toList]
 ·injection h with h;subst h;exact⟨rfl,rfl,rfl⟩
 ·injection h with h;subst h;exact⟨rfl,rfl,rfl⟩
 ·injection h with h;subst h;exact⟨rfl,rfl,rfl⟩
 ·rename_i f xs ys
  split at h
  ·rename_i hx hy
   injection h with h;subst h
   have ex:xs= #[]:=by cases xs;simp only at hx;subst hx;rfl
   have ey:ys= #[]:=by cases ys;simp only at hy;subst hy;rfl
   subst ex;subst ey
   exact⟨rfl,rfl,rfl⟩
  ·cases h
 ·cases h
def a9M:List Value->Option (List TC)
 | []=>some []
 | v :: vs=>(b69 v).bind fun c=>(a9M vs).map (c :: ·)
theorem a8h:∀ {vs:List Value} {cs:List TC},a9M vs=some cs->B6 cs=vs.map a0c/\(vs.all Value.oneCell')=true
 | [],cs,h=>by injection h with h;subst h;exact⟨rfl,rfl⟩
 | v :: vs,cs,h=>by
  simp only [a9M,Option.bind_eq_some_iff,Option.map_eq_some_iff] at h
  obtain⟨c,h1,ds,h2,rfl⟩:=h
  obtain⟨a1,a2,_⟩:=b1K h1
  obtain⟨b1,b2⟩:=a8h h2
  exact⟨by rw [B6,a1,b1];rfl,by rw [List.all_cons,a2,b2];rfl⟩
def a8G:Value->Option TV
 | .agg cs=>(a9M cs.toList).map fun ps=> .o (.agg ps)
 | v=>(b69 v).map fun c=> .o (.c c)
theorem b28 {v:Value} {x:TV} (h:a8G v=some x):a6J v=x.av:=by
 unfold a8G at h
 split at h
 ·rename_i cs
  rw [Option.map_eq_some_iff] at h
  obtain⟨ps,h1,rfl⟩:=h
  obtain⟨b1,b2⟩:=a8h h1
  simp only [a6J,b2,if_true,TV.av,T1.av,b1]
 ·rw [Option.map_eq_some_iff] at h
  obtain⟨c,h1,rfl⟩:=h
  obtain⟨a1,_,a3⟩:=b1K h1
  rw [a3]
  simp only [TV.av,T1.av,a1,a1U]
def tev:Operand->TQ TV
 | .tmp k=> .rdT k fun x=> .req x.g (.ret x.x)
 | .const v=> .ofOpt (a8G v)
 | .func f=> .ret (.o (.c (.fn f)))
 | .global _=> .fail
theorem D9:(x:Operand)->Sim TV.av (tev x) (ev x)
 | .tmp k=>Sim.rdT fun x=>Sim.req id fun _=>Sim.ret rfl
 | .const v=>by
  show Sim TV.av (TQ.ofOpt (a8G v)) (.ret (a6J v))
  cases h:a8G v with
  | none=>exact Sim.fail
  | some x=>exact Sim.ret (b28 h)
 | .func f=>Sim.ret rfl
 | .global _=>Sim.fail
def c5Q:List Operand->TQ (List TV)
 | []=> .ret []
 | x :: xs=>(tev x).bind fun v=>(c5Q xs).bind fun vs=> .ret (v :: vs)
theorem a9c:(xs:List Operand)->Sim (List.map TV.av) (c5Q xs) (evs xs)
 | []=>Sim.ret rfl
 | x :: xs=>Sim.bind (D9 x) fun _v=>Sim.bind (a9c xs) fun _vs=>Sim.ret rfl
def pav (p:Nat × TV):Nat × AV:=(p.1,p.2.av)
def c1w:List (Nat × Operand)->TQ (List (Nat × TV))
 | []=> .ret []
 | p :: xs=>(tev p.2).bind fun v=>(c1w xs).bind fun vs=> .ret ((p.1,v) :: vs)
theorem a9N:(xs:List (Nat × Operand))->Sim (List.map pav) (c1w xs) (c2J xs)
 | []=>Sim.ret rfl
 | p :: xs=>Sim.bind (D9 p.2) fun _v=>Sim.bind (a9N xs) fun _vs=>Sim.ret rfl
def c2X:TV->TQ Int
 | .o (.c (.ch (.int _) n))=> .ret n
 | .o (.c (.ch .byte x))=> .ret ((UInt8.toNat x:Nat):Int)
 | _=> .fail
theorem a6j (x:TV):Sim id (c2X x) (Q.int x.av):=by
 unfold c2X
 split
 ·exact Sim.ret rfl
 ·exact Sim.ret rfl
 ·exact Sim.fail
def c1x:TV->TQ Bool
 | .o (.c (.ch .bool b))=> .ret b
 | _=> .fail
theorem b29 (x:TV):Sim id (c1x x) (Q.bool x.av):=by
 unfold c1x
 split
 ·exact Sim.ret rfl
 ·exact Sim.fail
def c7A:Option Operand->TQ (Option Int)
 | none=> .ret none
 | some x=>(tev x).bind fun v=>(c2X v).bind fun n=> .ret (some n)
theorem b1L:(x:Option Operand)->Sim id (c7A x) (evo x)
 | none=>Sim.ret rfl
 | some x=>Sim.bind (D9 x) fun v=>Sim.bind (a6j v) fun _n=>Sim.ret rfl
def c7W:Operand->TQ TGV
 | .tmp k=> .rdT k .ret
 | .const v=>(TQ.ofOpt (a8G v)).bind fun x=> .ret ⟨true,x⟩
 | .func f=> .ret ⟨true,.o (.c (.fn f))⟩
 | .global _=> .fail
theorem b5S:(x:Operand)->Sim TGV.gv (c7W x) (evG x)
 | .tmp k=>Sim.rdT fun x=>Sim.ret rfl
 | .const v=>by
  show Sim TGV.gv ((TQ.ofOpt (a8G v)).bind fun x=> .ret ⟨true,x⟩) (.ret ⟨true,a6J v⟩)
  cases h:a8G v with
  | none=>exact Sim.fail
  | some x=>exact Sim.ret (congrArg (GV.mk true) (b28 h))
 | .func f=>Sim.ret rfl
 | .global _=>Sim.fail
def is1 (x:TC):Bool:=Nat.beq x.size 1
theorem a8H {x:TC} (h:is1 x=true):x.cells=[a1U x.cells]:=by
 have h1:=Nat.eq_of_beq_eq_true h
 rw [<-TC.cells_len] at h1
 match hc:x.cells,h1 with
 | [y],_=>rfl
def b0U:TV->TQ (List TC)
 | .o (.c x)=> .req (is1 x) (.ret [x])
 | .o (.agg xs)=> .ret xs
 | _=> .fail
theorem a6k (x:TV):Sim B6 (b0U x) x.av.cells:=by
 unfold b0U
 split
 ·rename_i x
  refine Sim.chk fun h=>Sim.ret ?_
  show [a1U x.cells]=x.cells ++ []
  rw [List.append_nil]
  exact(a8H h).symm
 ·exact Sim.ret rfl
 ·exact Sim.fail
def c0S (a b:Bool):Bool:=a == b
def notI (k:IntKind) (n:Int):Int:=k.wrap (BitVec.ofInt k.bits (if k.signed then -1 else k.max) ^^^ BitVec.ofInt k.bits n).toNat
def c97 (k:IntKind) (n:Int):Int:=k.wrap (0 - n)
def c1 (u:U) (x:u.den):TV:= .o (.c (.ch u x))
def a9O (op:BinOp) (k:IntKind) (a b:Int):TQ TV:=match op with
 | .add=> .ret (c1 (.int k) (k.wrap (a + b)))
 | .sub=> .ret (c1 (.int k) (k.wrap (a - b)))
 | .mul=> .ret (c1 (.int k) (k.wrap (a * b)))
 | .quo=> .req (!decide (b=0)) (.ret (c1 (.int k) (k.wrap (a.tdiv b))))
 | .rem=> .req (!decide (b=0)) (.ret (c1 (.int k) (a.tmod b)))
 | .and=> .ret (c1 (.int k) (bits .and k a b))
 | .or=> .ret (c1 (.int k) (bits .or k a b))
 | .xor=> .ret (c1 (.int k) (bits .xor k a b))
 | .andNot=> .ret (c1 (.int k) (bits .andNot k a b))
 | .eql=> .ret (c1 .bool (decide (a=b)))
 | .neq=> .ret (c1 .bool (!decide (a=b)))
 | .lss=> .ret (c1 .bool (decide (a < b)))
 | .leq=> .ret (c1 .bool (decide (a<=b)))
 | .gtr=> .ret (c1 .bool (decide (b < a)))
 | .geq=> .ret (c1 .bool (decide (b<=a)))
 | _=> .fail
def fin (v:Value):Q AV:= .req (v.oneCell'=true) (.ret (.c (.d (.v v))))
theorem a65 {α:Type} {f:α->AV} {a:α} {v:Value} (h1:v.oneCell'=true) (h:AV.c (.d (.v v))=f a):Sim f (.ret a) (fin v):=Sim.must h1 (Sim.ret h)
theorem a5b (op:BinOp) (k:IntKind) (a b:Int):Sim TV.av (a9O op k a b) ((a8A op k a b).bind fin):=by
 have hne:(!decide (b=0))=true->b ≠ 0:=by simp
 cases op
 case quo=>exact Sim.req hne fun _=>a65 rfl rfl
 case rem=>exact Sim.req hne fun _=>a65 rfl rfl
 all_goals first | exact Sim.fail | exact a65 rfl rfl
def b3a (op:BinOp) (k:IntKind) (a b:Int):TQ TV:=match op with
 | .shl=> .req (decide (0<=b)) (.ret (c1 (.int k) (k.wrap (a * 2 ^ (min b.toNat k.bits)))))
 | .shr=> .req (decide (0<=b)) (.ret (c1 (.int k) (a / (2 ^ (min b.toNat k.bits)))))
 | _=> .fail
theorem a6l (op:BinOp) (k:IntKind) (a b:Int):Sim TV.av (b3a op k a b) ((a7u op k a b).bind fin):=by
 cases op
 case shl=>exact Sim.req of_decide_eq_true fun _=>a65 rfl rfl
 case shr=>
  rw [c5P]
  exact Sim.req of_decide_eq_true fun _=>a65 rfl rfl
 all_goals exact Sim.fail
def b8O (op:BinOp) (a b:List UInt8):TQ TV:=match op with
 | .add=> .req (decide (a.length + b.length<=4611686018427387904)) (.ret (c1 .str (a ++ b)))
 | .eql=> .ret (c1 .bool (decide (a=b)))
 | .neq=> .ret (c1 .bool (!decide (a=b)))
 | .lss=> .ret (c1 .bool (Op.bytesLess a b))
 | .leq=> .ret (c1 .bool (Op.bytesLess a b || decide (a=b)))
 | .gtr=> .ret (c1 .bool (!(Op.bytesLess a b || decide (a=b))))
 | .geq=> .ret (c1 .bool (!Op.bytesLess a b))
 | _=> .fail
theorem b8P (a b:List UInt8):(⟨a.toArray⟩:ByteArray) ++ ⟨b.toArray⟩=⟨(a ++ b).toArray⟩:=by
 apply ByteArray.ext
 rw [ByteArray.data_append]
 simp
theorem b4j (op:BinOp) (a b:List UInt8):Sim TV.av (b8O op a b) ((b5s op ⟨a.toArray⟩ ⟨b.toArray⟩).bind fin):=by
 cases op
 case add=>
  refine Sim.req (fun h=>?_) fun _=>a65 rfl ?_
  ·have:=of_decide_eq_true h
   simpa [ByteArray.size] using this
  ·rw [b8P];rfl
 all_goals first | exact Sim.fail | exact a65 rfl rfl
def c1y (op:BinOp) (k:TK):TV->TV->TQ TV
 | .o (.c (.ch (.int i) a)),.o (.c (.ch (.int j) b))=>match a0N op with
  | true=>b3a op i a b
  | false=>match decEq i j with
   | .isTrue _=>a9O op i a b
   | .isFalse _=> .fail
 | .o (.c (.ch .byte a)),.o (.c (.ch (.int j) b))=>match a0N op with
  | true=>b3a op .u8 ((UInt8.toNat a:Nat):Int) b
  | false=>match decEq IntKind.u8 j with
   | .isTrue _=>a9O op .u8 ((UInt8.toNat a:Nat):Int) b
   | .isFalse _=> .fail
 | .o (.c (.ch (.int j) a)),.o (.c (.ch .byte b))=>match a0N op with
  | true=>b3a op j a ((UInt8.toNat b:Nat):Int)
  | false=>match decEq j IntKind.u8 with
   | .isTrue _=>a9O op .u8 a ((UInt8.toNat b:Nat):Int)
   | .isFalse _=> .fail
 | .o (.c (.ch .byte a)),.o (.c (.ch .byte b))=>match a0N op with
  | true=>b3a op .u8 ((UInt8.toNat a:Nat):Int) ((UInt8.toNat b:Nat):Int)
  | false=>a9O op .u8 ((UInt8.toNat a:Nat):Int) ((UInt8.toNat b:Nat):Int)
 | .o (.c (.ch .str a)),.o (.c (.ch .str b))=>b8O op a b
 | .o (.c (.ch .bool a)),.o (.c (.ch .bool b))=>match k,b7Z op with
  | .bool,some e=> .ret (c1 .bool (match e with | true=>c0S a b | false=> !(c0S a b)))
  | _,_=> .fail
 | .o (.c (.ptr id ver _)),.o (.c .npt)=>match k,b7Z op with
  | .ptr _,some e=> .rdB id fun b=> .req (Nat.beq ver b.ver && b.c.isSome) (.ret (c1 .bool (match e with | true=>false | false=>true)))
  | _,_=> .fail
 | .o (.c .npt),.o (.c .npt)=>match k,b7Z op with
  | .ptr _,some e=> .ret (c1 .bool (match e with | true=>true | false=>false))
  | _,_=> .fail
 | _,_=> .fail
theorem b8Q (op:BinOp) (i:TI) (x y:TV):Sim TV.av (c1y op i.k x y) (c5i op i x.av y.av):=by
 obtain⟨k,sz,bs,zr,cm⟩:=i
 show Sim TV.av (c1y op k x y) _
 unfold c1y
 split
 ·rename_i i a j b
  show Sim TV.av _ ((match a0N op with | true=>a7u op i a b | false=> .req (i=j) (a8A op i a b)).bind fin)
  cases a0N op with
  | true=>exact a6l op i a b
  | false=>
   simp only
   split
   ·rename_i h _;exact Sim.must h (a5b op i a b)
   ·exact Sim.fail
 ·rename_i a j b
  show Sim TV.av _ ((match a0N op with | true=>a7u op .u8 ((UInt8.toNat a:Nat):Int) b | false=> .req (IntKind.u8=j) (a8A op .u8 ((UInt8.toNat a:Nat):Int) b)).bind fin)
  cases a0N op with
  | true=>exact a6l op .u8 _ b
  | false=>
   simp only
   split
   ·rename_i h _;exact Sim.must h (a5b op .u8 _ b)
   ·exact Sim.fail
 ·rename_i j a b
  show Sim TV.av _ ((match a0N op with | true=>a7u op j a ((UInt8.toNat b:Nat):Int) | false=> .req (j=IntKind.u8) (a8A op j a ((UInt8.toNat b:Nat):Int))).bind fin)
  cases a0N op with
  | true=>exact a6l op j a _
  | false=>
   simp only
   split
   ·rename_i h _;subst h;exact Sim.must rfl (a5b op .u8 a _)
   ·exact Sim.fail
 ·rename_i a b
  show Sim TV.av _ ((match a0N op with | true=>a7u op .u8 ((UInt8.toNat a:Nat):Int) ((UInt8.toNat b:Nat):Int) | false=> .req (IntKind.u8=IntKind.u8) (a8A op .u8 ((UInt8.toNat a:Nat):Int) ((UInt8.toNat b:Nat):Int))).bind fin)
  cases a0N op with
  | true=>exact a6l op .u8 _ _
  | false=>exact Sim.must rfl (a5b op .u8 _ _)
 ·rename_i a b
  exact b4j op a b
 ·rename_i a b
  split
  ·rename_i e he
   show Sim TV.av _ (match b7Z op with | some e=>(Q.ret (c0S a b)).bind fun b=> .ret (AV.c (.d (.v (.bool (match e with | true=>b | false=> !b))))) | none=> .fail)
   rw [he]
   exact Sim.ret rfl
  ·exact Sim.fail
 ·rename_i id ver _
  split
  ·rename_i t e he
   show Sim TV.av _ (match b7Z op with | some e=>(Q.rdB id fun b=> .req (ver=b.ver/\b.c.isSome=true) (.ret false)).bind fun b=> .ret (AV.c (.d (.v (.bool (match e with | true=>b | false=> !b))))) | none=> .fail)
   rw [he]
   refine Sim.rdB fun b=>Sim.req (fun h=>?_) fun _=>Sim.ret ?_
   ·rw [Bool.and_eq_true] at h
    exact⟨Nat.eq_of_beq_eq_true h.1,by rw [<-h.2];simp [TBS.bs]⟩
   ·cases e <;> rfl
  ·exact Sim.fail
 ·split
  ·rename_i t e he
   show Sim TV.av _ (match b7Z op with | some e=>(Q.ret true).bind fun b=> .ret (AV.c (.d (.v (.bool (match e with | true=>b | false=> !b))))) | none=> .fail)
   rw [he]
   exact Sim.ret (by cases e <;> rfl)
  ·exact Sim.fail
 ·exact Sim.fail
def tun (op:UnOp):TV->TQ TV
 | .o (.c (.ch .bool b))=>match op with | .not=> .ret (c1 .bool (!b)) | _=> .fail
 | .o (.c (.ch (.int k) n))=>match op with | .neg=> .ret (c1 (.int k) (c97 k n)) | .xor=> .ret (c1 (.int k) (notI k n)) | _=> .fail
 | _=> .fail
theorem c3N (op:UnOp) (x:TV):Sim TV.av (tun op x) (unQ op x.av):=by
 unfold tun
 split
 ·cases op <;> first | exact Sim.ret rfl | exact Sim.fail
 ·cases op <;> first | exact Sim.ret rfl | exact Sim.fail
 ·exact Sim.fail
def c5R (c:Bool) (x y:TGV):TQ TV:=match c with
 | true=> .req x.g (.ret x.x)
 | false=> .req y.g (.ret y.x)
theorem b8R (c:Bool) (x y:TGV):Sim TV.av (c5R c x y) (c0Y c x.gv y.gv):=by
 cases c <;> exact Sim.req id fun _=>Sim.ret rfl
end Go.Proofs.YtacnfjjkhpkloaaGreat.Am
namespace Go.Proofs.YtacnfjjkhpkloaaGreat.Am
open Go
def a3i:List Nat->TQ (List a0l)
 | []=> .ret []
 | id :: ids=> .rdR id fun r=>match r.c with
  | some R=> .req (decide (R.e < a0S)) ((a3i ids).bind fun us=> .ret (match R.fr with | true=>us | false=> .r id ⟨r.ver,some ⟨R.u,R.l,R.e,true⟩⟩ :: us))
  | none=> .fail
theorem S0:(ids:List Nat)->Sim US (a3i ids) (a1K ids)
 | []=>Sim.ret rfl
 | id :: ids=>Sim.rdR fun r=>by
  obtain⟨ver,c⟩:=r
  cases c with
  | none=>exact Sim.fail
  | some R=>exact Sim.req of_decide_eq_true fun _=>Sim.bind (S0 ids) fun us=>Sim.ret (by obtain⟨u,l,e,f⟩:=R;cases f <;> rfl)
def c0T (i:TI) (ps:List TC):TQ TV:=match i.agg with
 | true=> .ret (.o (.agg ps))
 | false=>match ps with
  | [x]=> .req (is1 x) (.ret (.o (.c x)))
  | _=> .fail
theorem a5c (i:TI) (ps:List TC):Sim TV.av (c0T i ps) (asV i (B6 ps)):=by
 unfold c0T asV
 cases i.agg with
 | true=>exact Sim.ret rfl
 | false=>
  simp only
  split
  ·rename_i x
   refine Sim.chk fun h=>?_
   have e:B6 [x]=[a1U x.cells]:=(List.append_nil _).trans (a8H h)
   rw [e]
   exact Sim.ret rfl
  ·exact Sim.fail
structure c5S where
 pre:List TC
 n:Nat
 u:U
 v:Vector u.den n
 post:List TC
def b8S (off:Nat) (ps:List TC):Option c5S:=(b4h FU off ps).bind fun a=>(b4g FU off ps).bind fun b=>match b with
 | .ch (.arr n u) v :: post=>some ⟨a,n,u,v,post⟩
 | _=>none
theorem b5T {off:Nat} {ps:List TC} {A:c5S} (h:b8S off ps=some A):B6 ps=B6 A.pre ++ ((U.arr A.n A.u).enc A.v).map .d ++ B6 A.post/\(B6 A.pre).length=off:=by
 unfold b8S at h
 simp only [Option.bind_eq_some_iff] at h
 obtain⟨a,h1,b,h2,h3⟩:=h
 obtain⟨a1,a2⟩:=a7G h1
 obtain⟨b1,b2⟩:=a7F h2
 split at h3
 ·injection h3 with h3
  subst h3
  refine⟨?_,a2⟩
  have:=List.take_append_drop off (B6 ps)
  rw [<-a1,<-b1] at this
  rw [<-this,List.append_assoc]
  rfl
 ·cases h3
theorem b5U {α β:Type} {f:α->List β} {z:Nat}:∀ {l:List α} {k:Nat} {x:α},(∀ y ∈ l,(f y).length=z)->l[k]?=some x->((l.flatMap f).drop (k * z)).take z=f x
 | [],_,_,_,h=>by simp at h
 | y :: l,0,x,hz,h=>by
  simp at h
  subst h
  have h1:=hz y (by simp)
  rw [List.flatMap_cons,Nat.zero_mul,List.drop_zero,<-h1,List.take_left]
 | y :: l,k + 1,x,hz,h=>by
  have h1:=hz y (by simp)
  rw [List.flatMap_cons,Nat.succ_mul,Nat.add_comm,<-List.drop_drop]
  have:((f y ++ l.flatMap f).drop z)=l.flatMap f:=by rw [<-h1,List.drop_left]
  rw [this]
  exact b5U (fun y hy=>hz y (by simp [hy])) (by simpa using h)
theorem a67 {α:Type} (a b:List α) (k:Nat) (x:List α):setAt (a ++ b) (a.length + k) x=a ++ setAt b k x:=by
 unfold setAt
 rw [show a.length + k + x.length=a.length + (k + x.length) from by omega,<-List.drop_drop,List.drop_left]
 rw [List.take_append,List.take_of_length_le (l:=a) (Nat.le_add_right _ _),Nat.add_sub_cancel_left]
 simp
theorem b0V {α:Type} (b c:List α) (k:Nat) (x:List α) (h:k + x.length<=b.length):setAt (b ++ c) k x=setAt b k x ++ c:=by
 unfold setAt
 rw [List.take_append,show k - b.length=0 from by omega,List.take_zero,List.append_nil,List.drop_append,show k + x.length - b.length=0 from by omega,List.drop_zero]
 simp
theorem b8T {α:Type} (a b c:List α) (k:Nat) (x:List α) (h:k + x.length<=b.length):setAt (a ++ b ++ c) (a.length + k) x=a ++ setAt b k x ++ c:=by
 rw [List.append_assoc,a67,b0V b c k x h,List.append_assoc]
theorem b5V {α β:Type} {f:α->List β} {z:Nat}:∀ {l:List α} {k:Nat} {x:α},(∀ y ∈ l,(f y).length=z)->(f x).length=z->k < l.length->(l.set k x).flatMap f=setAt (l.flatMap f) (k * z) (f x)
 | [],_,_,_,_,h=>by simp at h
 | y :: l,0,x,hz,hx,h=>by
  have h1:=hz y (by simp)
  rw [List.set_cons_zero,List.flatMap_cons,List.flatMap_cons,Nat.zero_mul]
  unfold setAt
  rw [List.take_zero,List.nil_append,Nat.zero_add,hx,<-h1,List.drop_left]
 | y :: l,k + 1,x,hz,hx,h=>by
  have h1:=hz y (by simp)
  have ih:=b5V (l:=l) (k:=k) (x:=x) (fun y hy=>hz y (by simp [hy])) hx (by simpa using h)
  rw [List.set_cons_succ,List.flatMap_cons,List.flatMap_cons,ih]
  have e:(k + 1) * z=(f y).length + k * z:=by rw [h1,Nat.succ_mul,Nat.add_comm]
  rw [e,a67]
theorem b8U {α β:Type} (f:α->β) (l:List α) (k:Nat) (x:List α):(setAt l k x).map f=setAt (l.map f) k (x.map f):=by
 unfold setAt
 simp [List.map_take,List.map_drop]
theorem c1z {α:Type} {n:Nat} {v:Vector α n} {k:Nat} {d:α} (h:k < n):v.toList[k]?=some (O5 v k d):=by
 have:k < v.toList.length:=by simpa using h
 rw [List.getElem?_eq_getElem this]
 unfold O5
 rw [List.getD_eq_getElem?_getD,List.getElem?_eq_getElem this];rfl
theorem b5W {n:Nat} {u:U} {v:Vector u.den n} {k:Nat} (h:k < n):(((U.arr n u).enc v).drop (k * u.size)).take u.size=u.enc (O5 v k u.dflt):=
 b5U (l:=v.toList) (fun y _=>u.enc_len y) (c1z h)
def b5X (off z k:Nat) (i:TI) (ps:List TC):TQ TV:=match b8S off ps with
 | some A=> .req (Nat.beq z A.u.size && Nat.beq i.size A.u.size) (.req (decide (k < A.n)) (c0T i [.ch A.u (O5 A.v k A.u.dflt)]))
 | none=> .fail
theorem b0W (off z k:Nat) (i:TI) (ps:List TC):Sim TV.av (b5X off z k i ps) (.req (off + k * z + i.size<=(B6 ps).length) (asV i (((B6 ps).drop (off + k * z)).take i.size))):=by
 unfold b5X
 cases h:b8S off ps with
 | none=>exact Sim.fail
 | some A=>
  refine Sim.chk fun h1=>Sim.chk fun h2=>?_
  rw [Bool.and_eq_true] at h1
  have e1:=Nat.eq_of_beq_eq_true h1.1
  have e2:=Nat.eq_of_beq_eq_true h1.2
  have hk:=of_decide_eq_true h2
  obtain⟨c1,c2⟩:=b5T h
  have hlen:((U.arr A.n A.u).enc A.v).length=A.n * A.u.size:=U.enc_len _ _
  have hle:(k + 1) * A.u.size<=A.n * A.u.size:=Nat.mul_le_mul_right _ hk
  rw [Nat.succ_mul] at hle
  have key:((B6 ps).drop (off + k * z)).take i.size=B6 [.ch A.u (O5 A.v k A.u.dflt)]:=by
   rw [c1,e2,e1,<-c2,<-List.drop_drop,List.append_assoc,List.drop_left,List.drop_append,List.length_map,hlen,show k * A.u.size - A.n * A.u.size=0 from by omega,List.drop_zero,List.take_append,List.length_drop,List.length_map,hlen,show A.u.size - (A.n * A.u.size - k * A.u.size)=0 from by omega,List.take_zero,List.append_nil,<-List.map_drop,<-List.map_take,b5W hk]
   exact(List.append_nil _).symm
  refine Sim.must ?_ ?_
  ·rw [c1,e2,e1]
   simp only [List.length_append,List.length_map,hlen,c2]
   omega
  ·rw [key]
   exact a5c i _
def c1A (i:TI):TV->TQ TV
 | .o (.c (.ptr id ver off))=> .rdB id fun b=>match b.c with
  | some ps=> .req (Nat.beq ver b.ver) ((TQ.ofOpt (c2W off i.size ps)).bind fun qs=>c0T i qs)
  | none=> .fail
 | .o (.c (.pa id ver off z k))=> .rdB id fun b=>match b.c with
  | some ps=> .req (Nat.beq ver b.ver) (b5X off z k i ps)
  | none=> .fail
 | .o (.c (.ep u x off))=>(TQ.ofOpt (c2W off i.size [.ch u x])).bind fun qs=>c0T i qs
 | .o (.c (.ex u x off z k))=>b5X off z k i [.ch u x]
 | .o (.c (.rp id ver k off sz))=> .rdR id fun r=>match r.c with
  | some R=> .req (Nat.beq ver r.ver && Nat.beq sz R.u.size) (.req (decide (k < R.l.length)) ((TQ.ofOpt (c2W off i.size [.ch R.u (R.l.getD k R.u.dflt)])).bind fun qs=>c0T i qs))
  | none=> .fail
 | _=> .fail
theorem Y1 (u:U) (x:u.den):B6 [.ch u x]=(u.enc x).map .d:=List.append_nil _
theorem a9d {α β:Type} {f:α->β} {k n:Nat} {ps:List TC} {q':List TC->TQ α} {q:Q β} (h:∀ qs,B6 qs=((B6 ps).drop k).take n->k + n<=(B6 ps).length->Sim f (q' qs) q):Sim f ((TQ.ofOpt (c2W k n ps)).bind q') q:=by
 cases e:c2W k n ps with
 | none=>exact Sim.fail
 | some qs=>exact h qs (b8L e).1 (b8L e).2
theorem a68 {α β:Type} (f:α->β) {l:List α} {k:Nat} (h:k < l.length) (d:β) (d':α):(l.map f).getD k d=f (l.getD k d'):=b4e f h d d'
theorem b3b (i:TI) (x:TV):Sim TV.av (c1A i x) (b6K i x.av):=by
 unfold c1A
 split
 ·rename_i id ver off
  refine Sim.rdB fun b=>?_
  obtain⟨bv,c⟩:=b
  cases c with
  | none=>exact Sim.fail
  | some ps=>
   refine Sim.chk fun h=>a9d fun qs h1 h2=>Sim.must ⟨Nat.eq_of_beq_eq_true h,h2⟩ ?_
   have:=a5c i qs
   rw [h1] at this
   exact this
 ·rename_i id ver off z k
  refine Sim.rdB fun b=>?_
  obtain⟨bv,c⟩:=b
  cases c with
  | none=>exact Sim.fail
  | some ps=>
   refine Sim.chk fun h s tr K hK=>?_
   obtain⟨h1,h2⟩:=b0W off z k i ps s tr K hK
   exact⟨⟨Nat.eq_of_beq_eq_true h,h1⟩,h2⟩
 ·rename_i u x off
  refine a9d fun qs h1 h2=>?_
  rw [Y1,List.length_map] at h2
  show Sim TV.av _ (.req (i.size<=((u.enc x).drop off).length) (asV i ((((u.enc x).drop off).take i.size).map .d)))
  refine Sim.must (by rw [List.length_drop];omega) ?_
  rw [Y1] at h1
  rw [List.map_take,List.map_drop,<-h1]
  exact a5c i qs
 ·rename_i u x off z k
  intro s tr K hK
  obtain⟨h1,h2⟩:=b0W off z k i [.ch u x] s tr K hK
  rw [Y1,List.length_map] at h1
  rw [Y1] at h2
  show Q.wpt (.req (i.size<=((u.enc x).drop (off + k * z)).length) (asV i ((((u.enc x).drop (off + k * z)).take i.size).map .d))) _ _ _
  refine⟨by rw [List.length_drop];omega,?_⟩
  rw [List.map_take,List.map_drop]
  exact h2
 ·rename_i id ver k off sz
  refine Sim.rdR fun r=>?_
  obtain⟨rv,c⟩:=r
  cases c with
  | none=>exact Sim.fail
  | some R=>
   refine Sim.chk fun h=>Sim.chk fun h0=>a9d fun qs h1 h2=>?_
   rw [Bool.and_eq_true] at h
   have hk:=of_decide_eq_true h0
   have e1:=Nat.eq_of_beq_eq_true h.1
   have e2:=Nat.eq_of_beq_eq_true h.2
   have hg:(R.l.map R.u.enc).getD k []=R.u.enc (R.l.getD k R.u.dflt):=a68 _ hk _ _
   rw [Y1,List.length_map,U.enc_len] at h2
   refine Sim.must ⟨e1,e2,?_,by rw [e2];exact h2⟩ ?_
   ·show k < (R.l.map R.u.enc).length
    rw [List.length_map];exact hk
   ·show Sim TV.av _ (asV i (((((R.l.map R.u.enc).getD k []).drop off).take i.size).map .d))
    rw [hg,List.map_take,List.map_drop,<-Y1,<-h1]
    exact a5c i qs
 ·exact Sim.fail
def c5T (n:Int):TQ UInt8:= .req (decide (0<=n/\n < 256)) (.ret (UInt8.ofNat n.toNat))
def c98:(v:U)->v.den->TQ UInt8
 | .int k,n=>match decEq k IntKind.u8 with
  | .isTrue _=>c5T n
  | .isFalse _=> .fail
 | _,_=> .fail
def c9i (u v:U) (y:v.den):TQ u.den:=match u with
 | .byte=>c98 v y
 | _=> .fail
theorem c3O {u v:U} {y:v.den} {s:TSt} {tr:List N7} {K:u.den->List N7->Prop} (h:(c9i u v y).wpt s tr K):∃ x,v.enc y=u.enc x/\K x tr:=by
 cases u with
 | byte=>
  cases v with
  | int k=>
   replace h:((match decEq k IntKind.u8 with | .isTrue _=>c5T y | .isFalse _=> .fail):TQ UInt8).wpt s tr K:=h
   split at h
   ·rename_i hk _
    subst hk
    obtain⟨h1,h2⟩:=h
    exact⟨_,(b5R (n:=y) h1).symm,h2⟩
   ·exact h.elim
  | _=>exact h.elim
 | _=>exact h.elim
def b8V (u:U):List TC->TQ u.den
 | [.ch v y]=>match decEq v u with
  | .isTrue h=> .ret (a4H h y)
  | .isFalse _=>c9i u v y
 | _=> .fail
theorem b1M {u:U} {ps:List TC} {s:TSt} {tr:List N7} {K:u.den->List N7->Prop} (h:(b8V u ps).wpt s tr K):∃ x,B6 ps=(u.enc x).map .d/\K x tr:=by
 unfold b8V at h
 split at h
 ·rename_i v y
  split at h
  ·rename_i e _
   exact⟨_,by rw [Y1,a6i],h⟩
  ·obtain⟨x,h1,h2⟩:=c3O h
   exact⟨x,by rw [Y1,h1],h2⟩
 ·exact h.elim
def b8W:(u:U)->List TC->Option (u.den × List TC)
 | .pr a b,ps=>(b8W a ps).bind fun p=>(b8W b p.2).map fun q=>((p.1,q.1),q.2)
 | u,.ch v y :: ps=>match decEq v u with
  | .isTrue h=>some (a4H h y,ps)
  | .isFalse _=>none
 | _,[]=>none
 | _,_ :: _=>none
theorem a4I {u:U} {ps:List TC} {p:u.den × List TC} (h:(match ps with
  | .ch v y :: ps=>match decEq v u with
   | .isTrue h=>some (a4H h y,ps)
   | .isFalse _=>none
  | _=>none)=some p):B6 ps=(u.enc p.1).map .d ++ B6 p.2:=by
 split at h
 ·split at h
  ·rename_i e _
   injection h with h
   subst h
   rw [a6i];rfl
  ·cases h
 ·cases h
theorem b1N:∀ {u:U} {ps:List TC} {p:u.den × List TC},b8W u ps=some p->B6 ps=(u.enc p.1).map .d ++ B6 p.2
 | .pr a b,ps,p,h=>by
  unfold b8W at h
  obtain⟨q,h1,h2⟩:=Option.bind_eq_some_iff.1 h
  obtain⟨q2,h3,rfl⟩:=Option.map_eq_some_iff.1 h2
  rw [b1N h1,b1N h3]
  show _=((a.enc q.1 ++ b.enc q2.1).map AC.d) ++ _
  rw [List.map_append,List.append_assoc]
 | .int k,ps,p,h=>a4I (by cases ps with | nil=>exact h | cons c r=>cases c <;> exact h)
 | .byte,ps,p,h=>a4I (by cases ps with | nil=>exact h | cons c r=>cases c <;> exact h)
 | .bool,ps,p,h=>a4I (by cases ps with | nil=>exact h | cons c r=>cases c <;> exact h)
 | .str,ps,p,h=>a4I (by cases ps with | nil=>exact h | cons c r=>cases c <;> exact h)
 | .sl u,ps,p,h=>a4I (by cases ps with | nil=>exact h | cons c r=>cases c <;> exact h)
 | .arr n u,ps,p,h=>a4I (by cases ps with | nil=>exact h | cons c r=>cases c <;> exact h)
def c1B (u:U) (ps:List TC):TQ u.den:=match b8W u ps with
 | some p=>match p.2 with
  | []=> .ret p.1
  | _=>b8V u ps
 | none=>b8V u ps
theorem b5Y {u:U} {ps:List TC} {s:TSt} {tr:List N7} {K:u.den->List N7->Prop} (h:(c1B u ps).wpt s tr K):∃ x,B6 ps=(u.enc x).map .d/\K x tr:=by
 unfold c1B at h
 split at h
 ·rename_i p hp
  split at h
  ·rename_i e
   have:=b1N hp
   rw [e] at this
   exact⟨p.1,by rw [this];exact List.append_nil _,h⟩
  ·exact b1M h
 ·exact b1M h
def c42 {α:Type} {n:Nat} (v:Vector α n) (k:Nat) (x:α):Vector α n:=⟨(v.toList.set k x).toArray,by simp⟩
def c43:(u:U)->u.den->Nat->(v:U)->v.den->Option u.den
 | .pr a b,x,off,v,y=>match decEq v (.pr a b) with
  | .isTrue h=>match off with
   | 0=>some (a4H h y)
   | _ + 1=>none
  | .isFalse _=>match Nat.blt off a.size with
   | true=>(c43 a x.1 off v y).map fun p=>(p,x.2)
   | false=>(c43 b x.2 (off - a.size) v y).map fun p=>(x.1,p)
 | u,_,off,v,y=>match decEq v u with
  | .isTrue h=>match off with
   | 0=>some (a4H h y)
   | _ + 1=>none
  | .isFalse _=>none
end Go.Proofs.YtacnfjjkhpkloaaGreat.Am
namespace Go.Proofs.YtacnfjjkhpkloaaGreat.Am
open Go
def eqL {α:Type} (f:α->α->Bool):List α->List α->Bool
 | [],[]=>true
 | x :: xs,y :: ys=>f x y && eqL f xs ys
 | _,_=>false
def J8 (a b:Int):Bool:=decide (a=b)
def b5Z (a b:UInt8):Bool:=decide (a=b)
def c2Y (a b:Bool):Bool:=a == b
def D3 (a b:List UInt8):Bool:=decide (a=b)
def U.beq:(u:U)->u.den->u.den->Bool
 | .int _,a,b=>J8 a b
 | .byte,a,b=>b5Z a b
 | .bool,a,b=>c2Y a b
 | .str,a,b=>D3 a b
 | .sl _,_,_=>false
 | .pr a b,x,y=>a.beq x.1 y.1 && b.beq x.2 y.2
 | .arr _ u,v,w=>eqL u.beq (Vector.toList v) (Vector.toList w)
def U.cks:U->Option (List CK)
 | .int k=>some [.i k]
 | .byte=>some [.i .u8]
 | .bool=>some [.b]
 | .str=>some [.s]
 | .sl _=>none
 | .pr a b=>match a.cks,b.cks with
  | some x,some y=>some (x ++ y)
  | _,_=>none
 | .arr n u=>match u.cks with
  | some x=>some (List.replicate n x).flatten
  | none=>none
def U.vals:(u:U)->u.den->List Value
 | .int k,n=>[.int k n]
 | .byte,x=>[.int .u8 (UInt8.toNat x:Nat)]
 | .bool,b=>[.bool b]
 | .str,l=>[.string ⟨List.toArray l⟩]
 | .sl _,_=>[]
 | .pr a b,x=>a.vals x.1 ++ b.vals x.2
 | .arr _ u,v=>(Vector.toList v).flatMap u.vals
theorem a9P {α:Type} {f:α->List Value} {ks:List CK} (h:∀ x,(f x).map a6w=ks.map some):∀ l:List α,(l.flatMap f).map a6w=((List.replicate l.length ks).flatten).map some
 | []=>rfl
 | x :: l=>by rw [List.flatMap_cons,List.map_append,h x,a9P h l,List.length_cons,List.replicate_succ,List.flatten_cons,List.map_append]
theorem U.vals_cks:∀ (u:U) (ks:List CK),u.cks=some ks->∀ x:u.den,(u.vals x).map a6w=ks.map some
 | .int _,_,h,_=>by injection h with h;subst h;rfl
 | .byte,_,h,_=>by injection h with h;subst h;rfl
 | .bool,_,h,_=>by injection h with h;subst h;rfl
 | .str,_,h,_=>by injection h with h;subst h;rfl
 | .sl _,_,h,_=>by cases h
 | .pr a b,ks,h,x=>by
  unfold U.cks at h
  split at h
  ·rename_i p q hp hq
   injection h with h;subst h
   show(a.vals x.1 ++ b.vals x.2).map a6w=_
   rw [List.map_append,List.map_append,U.vals_cks a p hp,U.vals_cks b q hq]
  ·cases h
 | .arr n u,ks,h,v=>by
  unfold U.cks at h
  split at h
  ·rename_i p hp
   injection h with h;subst h
   have:=a9P (U.vals_cks u p hp) (Vector.toList v)
   have e:(Vector.toList v).length=n:=Vector.length_toList (xs:=v)
   exact this.trans (by rw [e])
  ·cases h
theorem U.enc_vals:∀ (u:U) (ks:List CK),u.cks=some ks->∀ x:u.den,u.enc x=(u.vals x).map .v
 | .int _,_,_,_=>rfl
 | .byte,_,_,_=>rfl
 | .bool,_,_,_=>rfl
 | .str,_,_,_=>rfl
 | .sl _,_,h,_=>by cases h
 | .pr a b,ks,h,x=>by
  unfold U.cks at h
  split at h
  ·rename_i p q hp hq
   show a.enc x.1 ++ b.enc x.2=(a.vals x.1 ++ b.vals x.2).map .v
   rw [List.map_append,U.enc_vals a p hp,U.enc_vals b q hq]
  ·cases h
 | .arr n u,ks,h,v=>by
  unfold U.cks at h
  split at h
  ·rename_i p hp
   show(Vector.toList v).flatMap u.enc=((Vector.toList v).flatMap u.vals).map .v
   rw [List.map_flatMap]
   exact congrArg (fun f=>(Vector.toList v).flatMap f) (funext fun x=>U.enc_vals u p hp x)
  ·cases h
theorem b0X {a b:List Value} {ks:List CK} (h1:a.map a6w=ks.map some) (h2:b.map a6w=ks.map some):a.length=b.length:=by
 have:=congrArg List.length (h1.trans h2.symm)
 simpa using this
theorem b3c {α:Type} {f:α->List Value} {g:α->α->Bool} {ks:List CK} (hk:∀ x,(f x).map a6w=ks.map some) (h:∀ x y,N1 (f x) (f y)=g x y):∀ (l l':List α),l.length=l'.length->N1 (l.flatMap f) (l'.flatMap f)=eqL g l l'
 | [],[],_=>rfl
 | x :: l,y :: l',hl=>by
  simp only [List.length_cons,Nat.add_right_cancel_iff] at hl
  rw [List.flatMap_cons,List.flatMap_cons,a48 _ _ _ _ (b0X (hk x) (hk y)),h,b3c hk h l l' hl];rfl
theorem b8X (x y:Int):((x == y) && true)=J8 x y:=by rw [Bool.and_true];rfl
theorem c1C (x y:UInt8):((((UInt8.toNat x:Nat):Int) == ((UInt8.toNat y:Nat):Int)) && true)=b5Z x y:=by
 unfold b5Z
 rw [Bool.and_true,Bool.eq_iff_iff]
 simp only [beq_iff_eq,decide_eq_true_eq,Int.natCast_inj]
 exact UInt8.toNat_inj
theorem c1D (x y:Bool):((x == y) && true)=c2Y x y:=by rw [Bool.and_true];rfl
theorem c3P (x y:List UInt8):(((ByteArray.mk (List.toArray x)).toList == (ByteArray.mk (List.toArray y)).toList) && true)=D3 x y:=by
 unfold D3
 rw [Bool.and_true,Bool.eq_iff_iff]
 simp [ByteArray.toList_eq]
theorem U.vals_beq:∀ (u:U) (ks:List CK),u.cks=some ks->∀ x y:u.den,N1 (u.vals x) (u.vals y)=u.beq x y
 | .int _,_,_,x,y=>b8X x y
 | .byte,_,_,x,y=>c1C x y
 | .bool,_,_,x,y=>c1D x y
 | .str,_,_,x,y=>c3P x y
 | .sl _,_,h,_,_=>by cases h
 | .pr a b,ks,h,x,y=>by
  unfold U.cks at h
  split at h
  ·rename_i p q hp hq
   show N1 (a.vals x.1 ++ b.vals x.2) (a.vals y.1 ++ b.vals y.2)=(a.beq x.1 y.1 && b.beq x.2 y.2)
   rw [a48 _ _ _ _ (b0X (U.vals_cks a p hp _) (U.vals_cks a p hp _)),U.vals_beq a p hp,U.vals_beq b q hq]
  ·cases h
 | .arr n u,ks,h,v,w=>by
  unfold U.cks at h
  split at h
  ·rename_i p hp
   exact b3c (U.vals_cks u p hp) (U.vals_beq u p hp) _ _ ((Vector.length_toList (xs:=v)).trans (Vector.length_toList (xs:=w)).symm)
  ·cases h
theorem b4k:∀ l:List Value,dvs (l.map fun v=> .d (.v v))=some l
 | []=>rfl
 | v :: l=>by rw [List.map_cons,dvs,b4k l];rfl
def c7X (u:U) (i:TI) (xs ys:List TC):TQ Bool:=(c1B u xs).bind fun a=>(c1B u ys).bind fun b=> .req (match u.cks with
 | some ks=>i.agg && !ks.isEmpty && decide (i.cmp=ks)
 | none=>false) (.ret (u.beq a b))
theorem c1E (u:U) (i:TI) (xs ys:List TC):Sim id (c7X u i xs ys) (eqA i (B6 xs) (B6 ys)):=by
 intro s tr K h
 unfold c7X at h
 rw [TQ.wpt_bind] at h
 obtain⟨a,e1,h⟩:=b5Y h
 rw [TQ.wpt_bind] at h
 obtain⟨b,e2,h⟩:=b5Y h
 obtain⟨hk,h⟩:=h
 split at hk
 ·rename_i ks hks
  simp only [Bool.and_eq_true,decide_eq_true_eq,Bool.not_eq_true'] at hk
  obtain⟨⟨h1,h2⟩,h3⟩:=hk
  have d1:dvs (B6 xs)=some (u.vals a):=by rw [e1,U.enc_vals u ks hks,List.map_map];exact b4k _
  have d2:dvs (B6 ys)=some (u.vals b):=by rw [e2,U.enc_vals u ks hks,List.map_map];exact b4k _
  unfold eqA
  rw [d1,d2]
  refine⟨⟨h1,?_,by rw [h3];exact U.vals_cks u ks hks a,by rw [h3];exact U.vals_cks u ks hks b⟩,?_⟩
  ·rw [h3];intro e;rw [e] at h2;cases h2
  ·exact⟨_,U.vals_beq u ks hks a b,h⟩
 ·cases hk
def c7Y (TU:TypeId->Option U) (op:BinOp) (t:TypeId) (i:TI) (x y:TV):TQ TV:=match x,y with
 | .o (.agg xs),.o (.agg ys)=>match TU t,b7Z op with
  | some u,some e=>(c7X u i xs ys).bind fun b=> .ret (c1 .bool (match e with | true=>b | false=> !b))
  | _,_=> .fail
 | x,y=>c1y op i.k x y
theorem c1F (TU:TypeId->Option U) (op:BinOp) (t:TypeId) (i:TI) (x y:TV):Sim TV.av (c7Y TU op t i x y) (c5i op i x.av y.av):=by
 unfold c7Y
 split
 ·rename_i xs ys
  split
  ·rename_i u e hu he
   show Sim TV.av _ (match b7Z op with | some e=>(eqA i (B6 xs) (B6 ys)).bind fun b=> .ret (AV.c (.d (.v (.bool (match e with | true=>b | false=> !b))))) | none=> .fail)
   rw [he]
   exact Sim.bind (c1E u i xs ys) fun b=>Sim.ret (by cases e <;> rfl)
  ·exact Sim.fail
 ·exact b8Q op i _ _
theorem b8Y {α:Type} {f:α->α->Bool} (h:∀ x y,f x y=true ↔ x=y):∀ l l':List α,eqL f l l'=true ↔ l=l'
 | [],[]=>by simp [eqL]
 | [],_ :: _=>by simp [eqL]
 | _ :: _,[]=>by simp [eqL]
 | x :: l,y :: l'=>by simp only [eqL,Bool.and_eq_true,h,b8Y h l l',List.cons.injEq]
theorem c3Q (x y:Int):J8 x y=true ↔ x=y:=decide_eq_true_iff
theorem c1G (x y:UInt8):b5Z x y=true ↔ x=y:=decide_eq_true_iff
theorem c3R (x y:List UInt8):D3 x y=true ↔ x=y:=decide_eq_true_iff
theorem U.beq_iff:∀ (u:U) (ks:List CK),u.cks=some ks->∀ x y:u.den,u.beq x y=true ↔ x=y
 | .int _,_,_,x,y=>c3Q x y
 | .byte,_,_,x,y=>c1G x y
 | .bool,_,_,x,y=>beq_iff_eq (α:=Bool) (a:=x) (b:=y)
 | .str,_,_,x,y=>c3R x y
 | .sl _,_,h,_,_=>by cases h
 | .pr a b,ks,h,x,y=>by
  unfold U.cks at h
  split at h
  ·rename_i p q hp hq
   show(a.beq x.1 y.1 && b.beq x.2 y.2)=true ↔ x=y
   rw [Bool.and_eq_true,U.beq_iff a p hp,U.beq_iff b q hq]
   exact Prod.ext_iff.symm
  ·cases h
 | .arr n u,ks,h,v,w=>by
  unfold U.cks at h
  split at h
  ·rename_i p hp
   show eqL u.beq (Vector.toList v) (Vector.toList w)=true ↔ v=w
   rw [b8Y (U.beq_iff u p hp)]
   exact Vector.toList_inj
  ·cases h
end Go.Proofs.YtacnfjjkhpkloaaGreat.Am
namespace Go.Proofs.YtacnfjjkhpkloaaGreat.Am
open Go
theorem c3S:∀ {u:U} {x:u.den} {off:Nat} {v:U} {y:v.den} {r:u.den},c43 u x off v y=some r->u.enc r=setAt (u.enc x) off (v.enc y)/\off + v.size<=u.size:=by
 have base:∀ (u:U) (x:u.den) (off:Nat) (v:U) (y:v.den) (r:u.den),(match decEq v u with | .isTrue h=>(match off with | 0=>some (a4H h y) | _ + 1=>none) | .isFalse _=>(none:Option u.den))=some r->u.enc r=setAt (u.enc x) off (v.enc y)/\off + v.size<=u.size:=by
  intro u x off v y r h
  split at h
  ·rename_i e _
   subst e
   split at h
   ·injection h with h
    subst h
    refine⟨?_,by omega⟩
    show v.enc y=_
    unfold setAt
    rw [List.take_zero,Nat.zero_add,List.drop_eq_nil_of_le (by rw [U.enc_len,U.enc_len];exact Nat.le_refl _)]
    simp
   ·cases h
  ·cases h
 intro u
 induction u with
 | pr a b iha ihb=>
  intro x off v y r h
  unfold c43 at h
  split at h
  ·rename_i e he
   refine base (.pr a b) x off v y r ?_
   rw [he]
   exact h
  ·split at h
   ·rename_i hb
    obtain⟨p,h1,rfl⟩:=Option.map_eq_some_iff.1 h
    obtain⟨h2,h3⟩:=iha h1
    refine⟨?_,by simp only [U.size];omega⟩
    show a.enc p ++ b.enc x.2=setAt (a.enc x.1 ++ b.enc x.2) off (v.enc y)
    rw [h2,b0V _ _ _ _ (by rw [U.enc_len,U.enc_len];exact h3)]
   ·rename_i hb
    obtain⟨p,h1,rfl⟩:=Option.map_eq_some_iff.1 h
    obtain⟨h2,h3⟩:=ihb h1
    have hlt:a.size<=off:=by
     have:¬ off < a.size:=fun hl=>by have:=(Nat.blt_eq:(Nat.blt off a.size=true)=(off < a.size)).mpr hl;rw [this] at hb;cases hb
     omega
    refine⟨?_,by simp only [U.size];omega⟩
    show a.enc x.1 ++ b.enc p=setAt (a.enc x.1 ++ b.enc x.2) off (v.enc y)
    rw [h2]
    have:=a67 (a.enc x.1) (b.enc x.2) (off - a.size) (v.enc y)
    rw [U.enc_len,show a.size + (off - a.size)=off from by omega] at this
    exact this.symm
 | _=>intro x off v y r h;exact base _ x off v y r h
def b8Z (off z k:Nat) (i:TI) (ps xs:List TC):TQ (List TC):=match b8S off ps with
 | some A=> .req (Nat.beq z A.u.size && Nat.beq i.size A.u.size) (.req (decide (k < A.n)) ((b8V A.u xs).bind fun x=> .ret (A.pre ++ .ch (.arr A.n A.u) (c42 A.v k x) :: A.post)))
 | none=> .fail
theorem b80 {off z k:Nat} {i:TI} {ps xs:List TC} {s:TSt} {tr:List N7} {K:List TC->List N7->Prop} (h:(b8Z off z k i ps xs).wpt s tr K) :
  ∃ qs,B6 qs=setAt (B6 ps) (off + k * z) (B6 xs)/\(B6 xs).length=i.size/\off + k * z + i.size<=(B6 ps).length/\K qs tr:=by
 unfold b8Z at h
 split at h
 ·rename_i A hA
  obtain⟨h1,h2,h⟩:=h
  rw [TQ.wpt_bind] at h
  obtain⟨x,e,h⟩:=b1M h
  rw [Bool.and_eq_true] at h1
  have e1:=Nat.eq_of_beq_eq_true h1.1
  have e2:=Nat.eq_of_beq_eq_true h1.2
  have hk:=of_decide_eq_true h2
  obtain⟨c1,c2⟩:=b5T hA
  have hlen:((U.arr A.n A.u).enc A.v).length=A.n * A.u.size:=U.enc_len _ _
  have hle:(k + 1) * A.u.size<=A.n * A.u.size:=Nat.mul_le_mul_right _ hk
  rw [Nat.succ_mul] at hle
  have hx:(B6 xs).length=A.u.size:=by rw [e,List.length_map,U.enc_len]
  refine⟨_,?_,by rw [hx,e2],?_,h⟩
  ·rw [a0T,B6,c1,e1,<-c2]
   have hs:(U.arr A.n A.u).enc (c42 A.v k x)=setAt ((U.arr A.n A.u).enc A.v) (k * A.u.size) (A.u.enc x):=
    b5V (f:=A.u.enc) (l:=A.v.toList) (fun y _=>A.u.enc_len y) (A.u.enc_len x) (by simpa using hk)
   rw [b8T _ _ _ _ _ (by rw [hx,List.length_map,hlen];omega),e,<-b8U,<-hs,List.append_assoc]
   rfl
  ·rw [c1,e1,e2]
   simp only [List.length_append,List.length_map,hlen,c2]
   omega
 ·exact h.elim
def c7Z (u:U) (x:u.den) (off:Nat) (v:U) (y:v.den):TQ u.den:=match decEq v u with
 | .isTrue h=>match off with
  | 0=> .ret (a4H h y)
  | _ + 1=> .fail
 | .isFalse _=> .ofOpt (c43 u x off v y)
theorem c3T {u:U} {x:u.den} {off:Nat} {v:U} {y:v.den} {s:TSt} {tr:List N7} {K:u.den->List N7->Prop} (h:(c7Z u x off v y).wpt s tr K):∃ r,u.enc r=setAt (u.enc x) off (v.enc y)/\off + v.size<=u.size/\K r tr:=by
 unfold c7Z at h
 split at h
 ·rename_i e _
  split at h
  ·refine⟨_,?_,by rw [e];omega,h⟩
   rw [a6i]
   unfold setAt
   rw [List.take_zero,Nat.zero_add,List.drop_eq_nil_of_le (by rw [U.enc_len,U.enc_len,e];exact Nat.le_refl _)]
   simp
  ·exact h.elim
 ·cases he:c43 u x off v y with
  | none=>rw [he] at h;exact h.elim
  | some r=>
   rw [he] at h
   obtain⟨h1,h2⟩:=c3S he
   exact⟨r,h1,h2,h⟩
def b81 (TU:TypeId->Option U) (t:TypeId) (i:TI) (xs:List TC):TV->TQ (List a0l)
 | .o (.c (.ptr id ver off))=> .rdB id fun b=>match b.c with
  | some ps=> .req (Nat.beq ver b.ver && Nat.beq (b8M xs) i.size) ((TQ.ofOpt (c41 ps off xs)).bind fun qs=> .ret [.b id ⟨b.ver,some qs⟩])
  | none=> .fail
 | .o (.c (.pa id ver off z k))=> .rdB id fun b=>match b.c with
  | some ps=> .req (Nat.beq ver b.ver) ((b8Z off z k i ps xs).bind fun qs=> .ret [.b id ⟨b.ver,some qs⟩])
  | none=> .fail
 | .o (.c (.rp id ver k off sz))=>match TU t with
  | some v=>(a4q v xs).bind fun d=>(a3i d.fz).bind fun us=> .rdR id fun r=>match r.c with
   | some R=> .req (Nat.beq ver r.ver && Nat.beq sz R.u.size && !R.fr && !(d.fz.contains id) && Nat.beq v.size i.size) (.req (decide (k < R.l.length))
    ((c7Z R.u (R.l.getD k R.u.dflt) off v d.x).bind fun x=> .ret (us ++ [.r id ⟨r.ver,some ⟨R.u,R.l.set k x,R.e,false⟩⟩])))
   | none=> .fail
  | none=> .fail
 | _=> .fail
theorem c1H {α β:Type} (f:α->β) (l:List α) (k:Nat) (x:α):(l.set k x).map f=(l.map f).set k (f x):=by
 rw [List.map_set]
theorem b7a (TU:TypeId->Option U) (t:TypeId) (i:TI) (xs:List TC) (x:TV):Sim US (b81 TU t i xs x) (b2I i (B6 xs) x.av):=by
 unfold b81
 split
 ·rename_i id ver off
  refine Sim.rdB fun b=>?_
  obtain⟨bv,c⟩:=b
  cases c with
  | none=>exact Sim.fail
  | some ps=>
   refine Sim.chk fun h=>?_
   rw [Bool.and_eq_true] at h
   have e1:=Nat.eq_of_beq_eq_true h.1
   have e2:=Nat.eq_of_beq_eq_true h.2
   rw [<-a7H] at e2
   simp only
   cases hs:c41 ps off xs with
   | none=>exact Sim.fail
   | some qs=>
    obtain⟨h1,h2⟩:=b8N hs
    refine Sim.must ⟨e1,e2,by rw [<-e2];exact h2⟩ (Sim.ret ?_)
    show _=[Upd.b id ⟨bv,some (B6 qs)⟩]
    rw [h1]
    rfl
 ·rename_i id ver off z k
  refine Sim.rdB fun b=>?_
  obtain⟨bv,c⟩:=b
  cases c with
  | none=>exact Sim.fail
  | some ps=>
   refine Sim.chk fun h s tr K hK=>?_
   simp only at hK
   rw [TQ.wpt_bind] at hK
   obtain⟨qs,h1,h2,h3,hK⟩:=b80 hK
   refine⟨⟨Nat.eq_of_beq_eq_true h,h2,h3⟩,?_⟩
   refine⟨_,?_,hK⟩
   show _=[Upd.b id ⟨bv,some (B6 qs)⟩]
   rw [h1]
   rfl
 ·rename_i id ver k off sz
  cases TU t with
  | none=>exact Sim.fail
  | some v=>
   show Sim US _ ((a6K (B6 xs)).bind fun d=>(a1K d.2).bind fun us=> .rdR id fun r=>match r.c with
    | some R=> .req (ver=r.ver/\sz=R.sz/\R.fr=false/\id ∉ d.2/\k < R.es.length/\d.1.length=i.size/\off + i.size<=sz) (.ret (us ++ [.r id ⟨r.ver,some ⟨R.es.set k (setAt (R.es.getD k []) off d.1),R.sz,R.e,false⟩⟩]))
    | none=> .fail)
   refine Sim.bind (a0O v xs) fun d=>Sim.bind (S0 d.fz) fun us=>Sim.rdR fun r=>?_
   obtain⟨rv,c⟩:=r
   cases c with
   | none=>exact Sim.fail
   | some R=>
    refine Sim.chk fun h=>Sim.chk fun h0 s tr K hK=>?_
    simp only [Bool.and_eq_true] at h
    obtain⟨⟨⟨⟨a1,a2⟩,a3⟩,a4⟩,a5⟩:=h
    have e1:=Nat.eq_of_beq_eq_true a1
    have e2:=Nat.eq_of_beq_eq_true a2
    have e5:=Nat.eq_of_beq_eq_true a5
    have hk:=of_decide_eq_true h0
    simp only at hK
    rw [TQ.wpt_bind] at hK
    obtain⟨x,h1,h2,hK⟩:=c3T hK
    have hg:(R.l.map R.u.enc).getD k []=R.u.enc (R.l.getD k R.u.dflt):=a68 _ hk _ _
    refine⟨⟨e1,e2,by show R.fr=false;simpa using a3,by simpa using a4,?_,?_,?_⟩,⟨_,?_,hK⟩⟩
    ·show k < (R.l.map R.u.enc).length
     rw [List.length_map];exact hk
    ·rw [U.enc_len,e5]
    ·rw [e2,<-e5];exact h2
    ·show us.map a0l.upd ++ [Upd.r id ⟨rv,some ⟨(R.l.map R.u.enc).set k (setAt ((R.l.map R.u.enc).getD k []) off (v.enc d.x)),R.u.size,R.e,false⟩⟩]=US (us ++ [_])
     rw [hg,<-h1,<-c1H]
     simp only [US,List.map_append,List.map_cons,List.map_nil]
     rfl
 ·exact Sim.fail
def b82 (o:Nat):TV->TQ TV
 | .o (.c (.ptr id ver off))=> .rdB id fun b=> .req (Nat.beq ver b.ver && b.c.isSome) (.ret (.o (.c (.ptr id ver (off + o)))))
 | .o (.c (.ep u x off))=> .ret (.o (.c (.ep u x (off + o))))
 | .o (.c (.rp id ver k off sz))=> .rdR id fun r=> .req (Nat.beq ver r.ver && r.c.isSome) (.ret (.o (.c (.rp id ver k (off + o) sz))))
 | _=> .fail
theorem b4l (b:TBS):(b.bs.c.isSome)=b.c.isSome:=by simp [TBS.bs]
theorem b83 (b:TRS):(b.rs.c.isSome)=b.c.isSome:=by simp [TRS.rs]
theorem b7b (o:Nat) (x:TV):Sim TV.av (b82 o x) (b2J o x.av):=by
 unfold b82
 split
 ·refine Sim.rdB fun b=>Sim.req (fun h=>?_) fun _=>Sim.ret rfl
  rw [Bool.and_eq_true] at h
  exact⟨Nat.eq_of_beq_eq_true h.1,by rw [b4l];exact h.2⟩
 ·refine Sim.ret ?_
  simp only [TV.av,T1.av,TC.cells,a1U,List.drop_drop]
 ·refine Sim.rdR fun b=>Sim.req (fun h=>?_) fun _=>Sim.ret rfl
  rw [Bool.and_eq_true] at h
  exact⟨Nat.eq_of_beq_eq_true h.1,by rw [b83];exact h.2⟩
 ·exact Sim.fail
def b84 (z:Nat) (k:Int):TV->TQ TV
 | .o (.c (.ch (.sl u) l))=> .req (Nat.beq u.size z) (.req (decide (0<=k/\k < (List.length l:Nat))) (.ret (.o (.c (.ep u (List.getD l k.toNat u.dflt) 0)))))
 | .o (.c (.row id ver))=> .rdR id fun r=>match r.c with
  | some R=> .req (Nat.beq ver r.ver && Nat.beq R.u.size z && decide (R.e < a0S)) (.req (decide (0<=k/\k < (R.l.length:Nat))) (.ret (.o (.c (.rp id ver k.toNat 0 z)))))
  | none=> .fail
 | _=> .fail
theorem b7c (z:Nat) (k:Int) (x:TV):Sim TV.av (b84 z k x) (b2K z k x.av):=by
 unfold b84
 split
 ·rename_i u l
  refine Sim.chk fun h=>Sim.chk fun h0=>?_
  have e1:=Nat.eq_of_beq_eq_true h
  have hk:=of_decide_eq_true h0
  have hk2:k.toNat < List.length l:=by omega
  have hg:(List.map u.enc l).getD k.toNat []=u.enc (List.getD l k.toNat u.dflt):=a68 _ hk2 _ _
  show Sim TV.av _ (.req (0<=k/\k < (List.map u.enc l).length/\((List.map u.enc l).getD k.toNat []).length=z) (.ret (.c (.eptr ((List.map u.enc l).getD k.toNat [])))))
  rw [hg]
  have hlen:(List.map u.enc l).length=List.length l:=List.length_map ..
  exact Sim.must ⟨hk.1,by rw [hlen];exact hk.2,by rw [U.enc_len,e1]⟩ (Sim.ret rfl)
 ·rename_i id ver
  refine Sim.rdR fun r=>?_
  obtain⟨rv,c⟩:=r
  cases c with
  | none=>exact Sim.fail
  | some R=>
   refine Sim.chk fun h=>Sim.chk fun h0=>?_
   rw [Bool.and_eq_true,Bool.and_eq_true] at h
   have hk:=of_decide_eq_true h0
   refine Sim.must ⟨Nat.eq_of_beq_eq_true h.1.1,hk.1,?_,Nat.eq_of_beq_eq_true h.1.2,of_decide_eq_true h.2⟩ (Sim.ret rfl)
   show k < (R.l.map R.u.enc).length
   rw [List.length_map];exact hk.2
 ·exact Sim.fail
def b4m (n z:Nat) (k:Int):TV->TQ TV
 | .o (.c (.ptr id ver off))=> .rdB id fun b=> .req (Nat.beq ver b.ver && b.c.isSome) (.req (decide (0<=k/\k < (n:Int))) (.ret (.o (.c (.pa id ver off z k.toNat)))))
 | .o (.c (.ep u x off))=> .req (decide (0<=k/\k < (n:Int))) (.ret (.o (.c (.ex u x off z k.toNat))))
 | _=> .fail
theorem b4n (n z:Nat) (k:Int) (x:TV):Sim TV.av (b4m n z k x) (a9r n z k x.av):=by
 unfold b4m
 split
 ·refine Sim.rdB fun b=>Sim.chk fun h=>Sim.req (fun h0=>?_) fun _=>Sim.ret rfl
  rw [Bool.and_eq_true] at h
  have hk:=of_decide_eq_true h0
  exact⟨hk.1,hk.2,Nat.eq_of_beq_eq_true h.1,by rw [b4l];exact h.2⟩
 ·refine Sim.req of_decide_eq_true fun _=>Sim.ret ?_
  simp only [TV.av,T1.av,TC.cells,a1U,List.drop_drop]
 ·exact Sim.fail
def b4o (u:U) (n:Nat) (ie:TI) (k:Int):TV->TQ TV
 | .o (.agg ps)=>(a4q (.arr n u) ps).bind fun d=> .req (d.fz.isEmpty && Nat.beq u.size ie.size && decide (0<=k/\k < n)) (c0T ie [.ch u (O5 (d.x:Vector u.den n) k.toNat u.dflt)])
 | _=> .fail
theorem b4p (u:U) (n:Nat) (ie:TI) (k:Int) (x:TV):Sim TV.av (b4o u n ie k x) (b1i n ie k x.av):=by
 unfold b4o
 split
 ·rename_i ps
  refine Sim.bind (a0O (.arr n u) ps) fun d=>Sim.chk fun h=>?_
  simp only [Bool.and_eq_true] at h
  obtain⟨⟨h1,h2⟩,h3⟩:=h
  have h2:=Nat.eq_of_beq_eq_true h2
  have h3:=of_decide_eq_true h3
  have hk:k.toNat < n:=by omega
  refine Sim.must ⟨List.isEmpty_iff.1 h1,h3.1,h3.2,by rw [<-h2];exact U.enc_len (.arr n u) d.x⟩ ?_
  have key:((((U.arr n u).enc d.x).drop (k.toNat * ie.size)).take ie.size).map AC.d=B6 [.ch u (O5 (d.x:Vector u.den n) k.toNat u.dflt)]:=by
   rw [<-h2]
   exact(congrArg (List.map AC.d) (b5W (v:=(d.x:Vector u.den n)) hk)).trans (List.append_nil _).symm
  rw [key]
  exact a5c ie _
 ·exact Sim.fail
def b4q (off:Nat) (ie:TI):TV->TQ TV
 | .o (.agg ps)=>(TQ.ofOpt (c2W off ie.size ps)).bind fun qs=>c0T ie qs
 | _=> .fail
theorem b4r (off:Nat) (ie:TI) (x:TV):Sim TV.av (b4q off ie x) (a9s off ie x.av):=by
 unfold b4q
 split
 ·rename_i ps
  refine a9d (q:=a9s off ie (TV.av (.o (.agg ps)))) fun qs h1 h2=>?_
  show Sim TV.av (c0T ie qs) (asV ie (((B6 ps).drop off).take ie.size))
  rw [<-h1]
  exact a5c ie _
 ·exact Sim.fail
theorem b0Y {u:U}:∀ (l:List u.den) (n:Nat),l.length=n->a9t u.size n (l.flatMap u.enc)=l.map u.enc
 | [],n,h=>by subst h;rfl
 | a :: l,n,h=>by
  subst h
  have e:(u.enc a).length=u.size:=u.enc_len a
  show((u.enc a ++ l.flatMap u.enc).take u.size) :: a9t u.size l.length ((u.enc a ++ l.flatMap u.enc).drop u.size)=u.enc a :: l.map u.enc
  rw [<-e,List.take_left,List.drop_left,e,b0Y l _ rfl]
def c3U (d k:Nat) (f:FuncId):TV->TQ (List a0l)
 | .o (.c (.ptr id ver off))=> .rdB id fun b=>match b.c with
  | some [.ch u x]=> .req (Nat.beq off 0 && Nat.beq ver b.ver && !(Nat.beq k d)) (.ret [.b id ⟨b.ver,none⟩,.t k ⟨true,.o (.c (.ep u x 0))⟩,.t d ⟨true,.o (.c (.clo f u x))⟩])
  | _=> .fail
 | .o (.c (.ep u x off))=> .req (Nat.beq off 0) (.ret [.t d ⟨true,.o (.c (.clo f u x))⟩])
 | _=> .fail
theorem b85 (d k:Nat) (f:FuncId) (x:TV):Sim US (c3U d k f x) (c7w d k f x.av):=by
 unfold c3U
 split
 ·refine Sim.rdB fun b=>?_
  obtain⟨bv,c⟩:=b
  simp only
  split
  ·rename_i u x
   show Sim US _ ((a6K (B6 [.ch u x])).bind fun y=>Q.req _ (.ret _))
   have e:B6 [.ch u x]=(u.enc x).map .d:=List.append_nil _
   rw [e]
   intro s tr K h
   rw [Q.wpt_bind]
   refine b4i s.st ⟨?_,?_⟩
   ·have h1:=h.1
    rw [Bool.and_eq_true,Bool.and_eq_true] at h1
    exact⟨Nat.eq_of_beq_eq_true h1.1.1,Nat.eq_of_beq_eq_true h1.1.2,rfl,fun e=>by have h2:=h1.2;rw [e,Nat.beq_refl] at h2;cases h2⟩
   ·exact⟨_,rfl,h.2⟩
  ·exact Sim.fail
 ·exact Sim.chk fun h=>by rw [Nat.eq_of_beq_eq_true h];exact Sim.ret rfl
 ·exact Sim.fail
def b4s (d:Option Nat) (u:U) (n:Nat) (ie:TI) (l h:Option Int):TV->TQ (List a0l)
 | .o (.c (.ptr id ver off))=> .req (l.isNone && h.isNone) ((TQ.ofOpt d).bind fun d=> .rdB id fun b=>match b.c with
  | some ps=>(a4q (.arr n u) ps).bind fun y=> .req (Nat.beq off 0 && Nat.beq ver b.ver && y.fz.isEmpty && Nat.beq u.size ie.size && Nat.blt 0 u.size && Nat.ble n maxLen) (.ret [.b id ⟨b.ver,none⟩,.t d ⟨true,.o (.c (.ch (.sl u) (Vector.toList (y.x:Vector u.den n))))⟩])
  | none=> .fail)
 | _=> .fail
theorem b4t (d:Option Nat) (u:U) (n:Nat) (ie:TI) (l h:Option Int) (x:TV):Sim US (b4s d u n ie l h x) (a6W d n ie.size l h x.av):=by
 unfold b4s
 split
 ·rename_i id ver off
  refine Sim.req (fun h0=>?_) fun _=>?_
  ·simp only [Bool.and_eq_true,Option.isNone_iff_eq_none] at h0
   exact h0
  refine Sim.bind (P2 d) fun d=>?_
  show Sim US _ (b1j d n ie.size (.ptr id ver off))
  unfold b1j
  refine Sim.rdB fun b=>?_
  obtain⟨bv,c⟩:=b
  cases c with
  | none=>exact Sim.fail
  | some ps=>
   refine Sim.bind (a0O (.arr n u) ps) fun y=>Sim.chk fun h1=>?_
   simp only [Bool.and_eq_true] at h1
   obtain⟨⟨⟨⟨⟨a1,a2⟩,a3⟩,a4⟩,a5⟩,a6⟩:=h1
   have a4:=Nat.eq_of_beq_eq_true a4
   refine Sim.must ⟨Nat.eq_of_beq_eq_true a1,Nat.eq_of_beq_eq_true a2,List.isEmpty_iff.1 a3,by rw [<-a4];exact U.enc_len (.arr n u) y.x,by rw [<-a4];exact Nat.le_of_ble_eq_true a5,Nat.le_of_ble_eq_true a6⟩ (Sim.ret ?_)
   have key:a9t ie.size n ((U.arr n u).enc y.x)=(Vector.toList (y.x:Vector u.den n)).map u.enc:=by
    rw [<-a4]
    exact b0Y (Vector.toList (y.x:Vector u.den n)) n (Vector.length_toList)
   exact congrArg (fun z=>[Upd.b id ⟨bv,none⟩,Upd.t d ⟨true,.c (.d (.sl z))⟩]) key
 ·exact Sim.fail
def b4u (k:Int):TV->TQ TV
 | .o (.c (.ch .str l))=> .req (decide (0<=k/\k < (List.length l:Nat))) (.ret (c1 .byte (List.getD l k.toNat (0:UInt8))))
 | _=> .fail
theorem b4v (l:List UInt8):(⟨l.toArray⟩:ByteArray).size=l.length:=by simp [ByteArray.size]
theorem b4w (k:Int) (x:TV):Sim TV.av (b4u k x) (a9u k x.av):=by
 unfold b4u
 split
 ·refine Sim.req (fun h0=>?_) fun _=>Sim.ret rfl
  have hk:=of_decide_eq_true h0
  exact⟨hk.1,(congrArg (fun n:Nat=>k < (n:Int)) (b4v _)).mpr hk.2⟩
 ·exact Sim.fail
def c70:TV->TQ Nat
 | .o (.c (.ch (.sl _) l))=> .ret (List.length l)
 | .o (.c .nil)=> .ret 0
 | .o (.c (.row id ver))=> .rdR id fun r=>match r.c with
  | some R=> .req (Nat.beq ver r.ver && decide (R.e < a0S)) (.ret R.l.length)
  | none=> .fail
 | _=> .fail
theorem c1I (x:TV):Sim id (c70 x) (c7v x.av):=by
 unfold c70
 split
 ·exact Sim.ret (List.length_map ..)
 ·exact Sim.ret rfl
 ·refine Sim.rdR fun r=>?_
  obtain⟨rv,c⟩:=r
  cases c with
  | none=>exact Sim.fail
  | some R=>exact Sim.req (fun h=>by rw [Bool.and_eq_true] at h;exact⟨Nat.eq_of_beq_eq_true h.1,of_decide_eq_true h.2⟩) fun _=>Sim.ret (by simp [a8U.row])
 ·exact Sim.fail
def b4x:TV->TQ Nat
 | .o (.c (.ch .str l))=> .ret (List.length l)
 | _=> .fail
theorem b4y (x:TV):Sim id (b4x x) (b3W x.av):=by
 unfold b4x
 split
 ·exact Sim.ret (b4v _)
 ·exact Sim.fail
def b1O (u:U) (x:TC):TQ (Pa (List u.den)):= .req (is1 x) (a4q (.sl u) [x])
theorem a69 (u:U) (x:TC):Sim (fun p:Pa (List u.den)=>(DV.sl (p.x.map u.enc),p.fz)) (b1O u x) (toD (a1U x.cells)):=by
 refine Sim.chk fun h s tr K hK=>?_
 have e:B6 [x]=[a1U x.cells]:=(List.append_nil _).trans (a8H h)
 have h1:=a0O (.sl u) [x] s tr K hK
 rw [e] at h1
 simp only [a6K,Q.wpt_bind,Q.wpt] at h1
 refine Q.wpt_mono h1 ?_
 rintro⟨d,fz⟩ rs ⟨p,hp,hk⟩
 injection hp with hp1 hp2
 refine⟨p,?_,hk⟩
 simp only [List.append_nil] at hp2
 injection hp1 with hp1 _
 simp only at hp1 hp2
 rw [hp1,hp2]
def c2Z (d:Nat) (u:U) (lo hi:Option Int) (x:TC):TQ (List a0l):=(b1O u x).bind fun y=>(a3i y.fz).bind fun us=>
 .req (decide (0<=lo.getD 0/\lo.getD 0<=hi.getD (y.x.length:Nat)/\hi.getD (y.x.length:Nat)<=(y.x.length:Nat))) (.ret (us ++ [.t d ⟨true,c1 (.sl u) ((y.x.take (hi.getD (y.x.length:Nat)).toNat).drop (lo.getD 0).toNat)⟩]))
def c9j (d:Nat) (u:U) (hi:Option Int):TC->TQ (List a0l)
 | .row id ver=> .rdR d fun rd=> .rdR id fun r=>match r.c with
  | some R=>match decEq R.u u with
   | .isTrue h=> .req (Nat.beq ver r.ver && Nat.blt R.e a0S && !R.fr && decide (0<=hi.getD ((h ▸ R.l:List u.den).length:Nat)/\hi.getD ((h ▸ R.l:List u.den).length:Nat)<=((h ▸ R.l:List u.den).length:Nat)))
    (.ret [.r id ⟨r.ver,none⟩,.r d ⟨rd.ver + 1,some ⟨u,(h ▸ R.l:List u.den).take (hi.getD ((h ▸ R.l:List u.den).length:Nat)).toNat,R.e,false⟩⟩,.t d ⟨true,.o (.c (.row d (rd.ver + 1)))⟩])
   | .isFalse _=> .fail
  | none=> .fail
 | _=> .fail
theorem c1J (d z:Nat) (u:U) (hz:u.size=z) (hi:Option Int) (x:TC):Sim US (c9j d u hi x) (c3q d z hi (a1U x.cells)):=by
 cases x <;> try exact Sim.fail
 case row id ver=>
  refine Sim.rdR fun rd=>Sim.rdR fun r=>?_
  obtain⟨rv,c⟩:=r
  cases c with
  | none=>exact Sim.fail
  | some R=>
   obtain⟨ru,rl,re,rf⟩:=R
   simp only
   split
   ·rename_i hu he
    clear he
    change ru=u at hu
    subst hu
    have hl:((rl.map ru.enc).length:Int)=(rl.length:Nat):=by rw [List.length_map]
    show Sim US _ (.req (_/\_/\_/\_/\0<=hi.getD ((rl.map ru.enc).length:Nat)/\hi.getD ((rl.map ru.enc).length:Nat)<=((rl.map ru.enc).length:Nat)) (.ret [.r id ⟨rv,none⟩,.r d ⟨_,some ⟨(rl.map ru.enc).take (hi.getD ((rl.map ru.enc).length:Nat)).toNat,ru.size,re,false⟩⟩,_]))
    rw [hl]
    refine Sim.req (fun h=>?_) fun _=>Sim.ret ?_
    ·simp only [Bool.and_eq_true] at h
     obtain⟨⟨⟨a1,a2⟩,a3⟩,a4⟩:=h
     exact⟨Nat.eq_of_beq_eq_true a1,Nat.le_of_ble_eq_true a2,by show rf=false;simpa using a3,hz,of_decide_eq_true a4⟩
    ·simp only [US,List.map_cons,List.map_nil,<-List.map_take]
     rfl
   ·exact Sim.fail
theorem b0Z (u:U) (l:List u.den):b0G u.size (l.map u.enc):=fun e he=>by
 obtain⟨x,_,rfl⟩:=List.mem_map.1 he
 exact u.enc_len x
theorem b7d (d z:Nat) (u:U) (hz:u.size=z) (lo hi:Option Int) (x:TC):Sim US (c2Z d u lo hi x) (b0H d z lo hi (a1U x.cells)):=by
 refine Sim.bind (a69 u x) fun y=>Sim.bind (S0 y.fz) fun us=>?_
 have hl:((y.x.map u.enc).length:Int)=(y.x.length:Nat):=by rw [List.length_map]
 show Sim US _ (.req (b0G z (y.x.map u.enc)/\0<=lo.getD 0/\lo.getD 0<=hi.getD ((y.x.map u.enc).length:Nat)/\hi.getD ((y.x.map u.enc).length:Nat)<=((y.x.map u.enc).length:Nat)) (.ret (US us ++ [.t d ⟨true,.c (.d (.sl (((y.x.map u.enc).take (hi.getD ((y.x.map u.enc).length:Nat)).toNat).drop (lo.getD 0).toNat)))⟩])))
 rw [hl]
 refine Sim.req (fun h=>?_) fun _=>Sim.ret ?_
 ·have h1:=of_decide_eq_true h
  exact⟨hz ▸ b0Z u _,h1⟩
 ·simp only [US,List.map_append,List.map_cons,List.map_nil,<-List.map_take,<-List.map_drop]
  rfl
def b4z (lo hi:Option Int):TV->TQ TV
 | .o (.c (.ch .str l))=> .req (decide (0<=lo.getD 0/\lo.getD 0<=hi.getD (List.length l:Nat)/\hi.getD (List.length l:Nat)<=(List.length l:Nat))) (.ret (c1 .str ((List.take (hi.getD (List.length l:Nat)).toNat l).drop (lo.getD 0).toNat)))
 | _=> .fail
theorem b7e (l:List UInt8) (a b:Nat):(⟨l.toArray⟩:ByteArray).extract a b=⟨((l.take b).drop a).toArray⟩:=by
 apply ByteArray.ext
 rw [ByteArray.data_extract]
 simp only [List.extract_toArray,List.extract_eq_take_drop]
 rw [List.drop_take]
theorem b4A (lo hi:Option Int) (x:TV):Sim TV.av (b4z lo hi x) (a6V lo hi x.av):=by
 unfold b4z
 split
 ·rename_i l
  have hl:((⟨List.toArray l⟩:ByteArray).size:Int)=(List.length l:Nat):=congrArg Nat.cast (b4v l)
  show Sim TV.av _ (.req (0<=lo.getD 0/\lo.getD 0<=hi.getD ((⟨List.toArray l⟩:ByteArray).size:Nat)/\hi.getD ((⟨List.toArray l⟩:ByteArray).size:Nat)<=((⟨List.toArray l⟩:ByteArray).size:Nat)) (.ret (.c (.d (.v (.string ((⟨List.toArray l⟩:ByteArray).extract (lo.getD 0).toNat (hi.getD ((⟨List.toArray l⟩:ByteArray).size:Nat)).toNat)))))))
  rw [hl]
  refine Sim.req (fun h=>of_decide_eq_true h) fun _=>Sim.ret ?_
  exact congrArg (fun b=>AV.c (AC.d (DV.v (Value.string b)))) (b7e l _ _)
 ·exact Sim.fail
end Go.Proofs.YtacnfjjkhpkloaaGreat.Am
namespace Go.Proofs.YtacnfjjkhpkloaaGreat.Am
open Go
def a1r {α β:Type} (eq:α->α->Bool) (k:α):List (α × β)->Option Nat
 | []=>none
 | p :: l=>if eq k p.1 then some 0 else(a1r eq k l).map (· + 1)
def a1V {α β:Type} (eq:α->α->Bool) (k:α) (v:β) (l:List (α × β)):List (α × β):=match a1r eq k l with
 | some i=>l.set i (k,v)
 | none=>l ++ [(k,v)]
def a5u {α β:Type} (eq:α->α->Bool) (k:α) (l:List (α × β)):List (α × β):=match a1r eq k l with
 | some i=>l.eraseIdx i
 | none=>l
def W4 {α β:Type} (eq:α->α->Bool) (k:α) (d:β) (l:List (α × β)):β:=((a1r eq k l).bind fun i=>(l[i]?).map (·.2)).getD d
def b86:(K:U)->K.den->Option Value
 | .int k,n=>some (.int k n)
 | .str,l=>some (.string ⟨List.toArray l⟩)
 | _,_=>none
theorem b1P:∀ {K:U} {k:K.den} {v:Value},b86 K k=some v->K.enc k=[.v v]
 | .int _,_,_,h=>by injection h with h;subst h;rfl
 | .str,_,_,h=>by injection h with h;subst h;rfl
theorem a9Q:∀ {K:U} {a b:K.den} {x y:Value},b86 K a=some x->b86 K b=some y->a0M x y=K.beq a b
 | .int _,a,b,_,_,h1,h2=>by
  injection h1 with h1;injection h2 with h2;subst h1;subst h2
  have e:∀ m n:Int,decide (m=n)=J8 m n:=fun m n=>by rw [<-b8X,Bool.and_true];rfl
  exact e a b
 | .str,a,b,_,_,h1,h2=>by
  injection h1 with h1;injection h2 with h2;subst h1;subst h2
  have e:∀ m n:List UInt8,decide ((⟨m.toArray⟩:ByteArray).data.toList=(⟨n.toArray⟩:ByteArray).data.toList)=D3 m n:=fun m n=>by
   rfl
  exact e a b
theorem b50:∀ {K:U} {a:K.den} {x:Value},b86 K a=some x->∀ b:K.den,∃ y,b86 K b=some y
 | .int _,_,_,_,_=>⟨_,rfl⟩
 | .str,_,_,_,_=>⟨_,rfl⟩
theorem a4J {K V:U} {k:K.den} {kv:Value} (hk:b86 K k=some kv):∀ l:List (K.den × V.den),a4z kv (l.map (U.pr K V).enc)=a1r K.beq k l
 | []=>rfl
 | p :: l=>by
  obtain⟨y,hy⟩:=b50 hk p.1
  have e1:(U.pr K V).enc p= .v y :: V.enc p.2:=by show K.enc p.1 ++ V.enc p.2=_;rw [b1P hy];rfl
  have e2:a4z kv ((U.pr K V).enc p :: List.map (U.pr K V).enc l)=a1r K.beq k (p :: l):=by
   rw [e1]
   unfold a4z a1r
   show(if a0M kv y=true then some 0 else(a4z kv (List.map (U.pr K V).enc l)).map (· + 1))=_
   rw [a9Q hk hy,a4J hk l]
  exact e2
theorem b87 {K V:U} {k:K.den} {kv:Value} (hk:b86 K k=some kv) (v:V.den):(U.pr K V).enc (k,v)= .v kv :: V.enc v:=by
 show K.enc k ++ V.enc v=_
 rw [b1P hk];rfl
theorem a8i {K V:U} {k:K.den} {kv:Value} (hk:b86 K k=some kv) (v:V.den) (l:List (K.den × V.den)):a8e kv (V.enc v) (l.map (U.pr K V).enc)=(a1V K.beq k v l).map (U.pr K V).enc:=by
 unfold a8e a1V
 rw [a4J hk]
 cases a1r K.beq k l with
 | none=>
  show l.map (U.pr K V).enc ++ [.v kv :: V.enc v]=(l ++ [(k,v)]).map (U.pr K V).enc
  rw [<-b87 hk v]
  exact(@List.map_append (U.pr K V).den _ (U.pr K V).enc l [(k,v)]).symm
 | some i=>
  show(l.map (U.pr K V).enc).set i (.v kv :: V.enc v)=(l.set i (k,v)).map (U.pr K V).enc
  rw [<-b87 hk v]
  exact(@List.map_set (U.pr K V).den _ (U.pr K V).enc l i (k,v)).symm
theorem a7I {α β:Type} (f:α->β):∀ (l:List α) (i:Nat),(l.map f).eraseIdx i=(l.eraseIdx i).map f
 | [],_=>rfl
 | _ :: _,0=>rfl
 | x :: l,i + 1=>by
  show f x :: (l.map f).eraseIdx i=f x :: (l.eraseIdx i).map f
  rw [a7I f l i]
theorem b7f {K V:U} {k:K.den} {kv:Value} (hk:b86 K k=some kv) (l:List (K.den × V.den)):b70 kv (l.map (U.pr K V).enc)=(a5u K.beq k l).map (U.pr K V).enc:=by
 unfold b70 a5u
 rw [a4J hk]
 cases a1r K.beq k l with
 | none=>rfl
 | some i=>
  show(l.map (U.pr K V).enc).eraseIdx i=(l.eraseIdx i).map (U.pr K V).enc
  exact a7I (U.pr K V).enc l i
theorem a9R {α β:Type} {eq:α->α->Bool} {k:α}:∀ {l:List (α × β)} {i:Nat},a1r eq k l=some i->i < l.length
 | [],_,h=>by cases h
 | p :: l,i,h=>by
  unfold a1r at h
  split at h
  ·injection h with h;subst h;simp
  ·obtain⟨j,h1,rfl⟩:=Option.map_eq_some_iff.1 h
   have:=a9R h1
   simpa using this
theorem b3d {α β:Type} (f:α->β) {l:List α} {i:Nat} (hi:i < l.length) (d:β):(l.map f).getD i d=f l[i]:=by simp [List.getD_eq_getElem?_getD,hi]
theorem a9S {K V:U} {k:K.den} {kv:Value} (hk:b86 K k=some kv) (l:List (K.den × V.den)):(a6x kv (l.map (U.pr K V).enc)).getD (V.enc V.dflt)=V.enc (W4 K.beq k V.dflt l):=by
 unfold a6x W4
 rw [a4J hk]
 cases h:a1r K.beq k l with
 | none=>rfl
 | some i=>
  have hi:=a9R h
  have e:(l.map (U.pr K V).enc).getD i []=(U.pr K V).enc l[i]:=b3d (U.pr K V).enc hi []
  have hm:(((some i:Option Nat).bind fun i=>(l[i]?).map (·.2)).getD V.dflt)=l[i].2:=by rw [Option.bind_some,List.getElem?_eq_getElem hi];rfl
  obtain⟨y,hy⟩:=b50 hk l[i].1
  have e2:((U.pr K V).enc l[i]).drop 1=V.enc l[i].2:=by
   show(K.enc l[i].1 ++ V.enc l[i].2).drop 1=V.enc l[i].2
   rw [b1P hy];rfl
  exact(congrArg (List.drop 1) e).trans (e2.trans (congrArg V.enc hm.symm))
def a3j:U->List Value
 | .int k=>[.int k 0]
 | .byte=>[.int .u8 0]
 | .bool=>[.bool false]
 | .str=>[.string ⟨#[]⟩]
 | .sl _=>[.slice none 0 0]
 | .pr a b=>a3j a ++ a3j b
 | .arr n u=>(List.replicate n (a3j u)).flatten
def noSl:U->Bool
 | .sl _=>false
 | .pr a b=>noSl a && noSl b
 | .arr _ u=>noSl u
 | _=>true
def okZ:U->Bool
 | .pr a b=>okZ a && okZ b
 | .arr _ u=>noSl u
 | _=>true
def b7g:U->List TC
 | .sl _=>[.nil]
 | .pr a b=>b7g a ++ b7g b
 | .int k=>[.ch (.int k) (0:Int)]
 | .byte=>[.ch .byte (0:UInt8)]
 | .bool=>[.ch .bool false]
 | .str=>[.ch .str ([]:List UInt8)]
 | .arr n u=>[.ch (.arr n u) (U.arr n u).dflt]
theorem a8I:∀ (u:U),(a3j u).map a2S=u.enc u.dflt
 | .int _=>rfl
 | .byte=>rfl
 | .bool=>rfl
 | .str=>rfl
 | .sl _=>rfl
 | .pr a b=>by
  show(a3j a ++ a3j b).map a2S=a.enc a.dflt ++ b.enc b.dflt
  rw [List.map_append,a8I a,a8I b]
 | .arr n u=>by
  show((List.replicate n (a3j u)).flatten).map a2S=(Vector.toList (Vector.replicate n u.dflt)).flatMap u.enc
  rw [Vector.toList_replicate,List.map_flatten,List.map_replicate,a8I u,List.flatMap_def,List.map_replicate]
theorem a6m:∀ (u:U),noSl u=true->(a3j u).map a0c=((a3j u).map a2S).map .d
 | .int _,_=>rfl
 | .byte,_=>rfl
 | .bool,_=>rfl
 | .str,_=>rfl
 | .sl _,h=>by cases h
 | .pr a b,h=>by
  simp only [noSl,Bool.and_eq_true] at h
  show(a3j a ++ a3j b).map a0c=((a3j a ++ a3j b).map a2S).map .d
  rw [List.map_append,List.map_append,List.map_append,a6m a h.1,a6m b h.2]
 | .arr n u,h=>by
  show((List.replicate n (a3j u)).flatten).map a0c=(((List.replicate n (a3j u)).flatten).map a2S).map .d
  rw [List.map_flatten,List.map_replicate,a6m u h,List.map_flatten,List.map_replicate,List.map_flatten,List.map_replicate]
theorem b1Q:∀ (u:U),okZ u=true->B6 (b7g u)=(a3j u).map a0c
 | .int _,_=>rfl
 | .byte,_=>rfl
 | .bool,_=>rfl
 | .str,_=>rfl
 | .sl _,_=>rfl
 | .pr a b,h=>by
  simp only [okZ,Bool.and_eq_true] at h
  show B6 (b7g a ++ b7g b)=(a3j a ++ a3j b).map a0c
  rw [a0T,b1Q a h.1,b1Q b h.2,List.map_append]
 | .arr n u,h=>by
  rw [a6m (.arr n u) h,a8I]
  exact Y1 _ _
def c3V:Value->Value->Bool
 | .int k n,.int k' n'=>decide (k=k') && decide (n=n')
 | .bool a,.bool b=>a == b
 | .string a,.string b=>decide (a.data.toList=b.data.toList)
 | .slice none 0 0,.slice none 0 0=>true
 | _,_=>false
theorem c1K {a b:Value} (h:c3V a b=true):a=b:=by
 unfold c3V at h
 split at h
 ·rw [Bool.and_eq_true,decide_eq_true_eq,decide_eq_true_eq] at h;rw [h.1,h.2]
 ·rw [beq_iff_eq] at h;rw [h]
 ·rename_i a b
  have h:=of_decide_eq_true h
  obtain⟨⟨a⟩⟩:=a
  obtain⟨⟨b⟩⟩:=b
  simp only at h
  rw [h]
 ·rfl
 ·cases h
def b3e:List Value->List Value->Bool
 | [],[]=>true
 | a :: as,b :: bs=>c3V a b && b3e as bs
 | _,_=>false
theorem a6n:∀ {a b:List Value},b3e a b=true->a=b
 | [],[],_=>rfl
 | a :: as,b :: bs,h=>by
  simp only [b3e,Bool.and_eq_true] at h
  rw [c1K h.1,a6n h.2]
def isKey:U->Bool
 | .int _=>true
 | .str=>true
 | _=>false
def kOk:TK->U->Bool
 | .int q,.int k=>decide (k=q)
 | .str,.str=>true
 | .arr n _,.str=>Nat.ble n 1000
 | _,_=>false
def kU:U->U
 | .arr _ .byte=> .str
 | u=>u
theorem a4a:∀ {K:U},isKey K=true->∀ k:K.den,b86 K k=some (a3O K k)
 | .int _,_,_=>rfl
 | .str,_,_=>rfl
theorem b88 {n:Nat} {e:TypeId} (h:Nat.ble n 1000=true):wid (.arr n e)=some n:=if_pos (Nat.le_of_ble_eq_true h)
theorem b3f:∀ {q:TK} {K:U},kOk q K=true->∀ k:K.den,wid q=none->KK q (a3O K k)
 | .int q,.int k,h,_,_=>(of_decide_eq_true h:k=q)
 | .str,.str,_,_,_=>trivial
 | .arr n _,.str,h,_,hw=>by rw [b88 h] at hw;cases hw
theorem c5U:∀ {q:TK} {K:U},kOk q K=true->∀ k:K.den,KA q (a3O K k)
 | .int q,.int k,h,_=>(of_decide_eq_true h:k=q)
 | .str,.str,_,_=>trivial
 | .arr n e,.str,h,_=>by unfold KA;rw [b88 h];trivial
theorem a2V {q:TK} {K V:U} (hk:isKey K=true) (ho:kOk q K=true) (l:List (K.den × V.den)):a5s q (l.map (U.pr K V).enc):=fun e he=>by
 obtain⟨p,_,rfl⟩:=List.mem_map.1 he
 exact⟨a3O K p.1,V.enc p.2,b87 (a4a hk p.1) p.2,c5U ho p.1⟩
def c9k:TK->Bool
 | .int .u8=>true
 | _=>false
theorem c3W:∀ {k:TK},c9k k=true->k= .int .u8
 | .int .u8,_=>rfl
def b7h (T:TypeId->Option TI) (ik:TI) (K:U) (x:TV):TQ K.den:=match ik.k with
 | .arr n e=>(TQ.ofOpt (T e)).bind fun ie=>match x with
  | .o (.agg [.ch (.arr m .byte) v])=>match decEq U.str K with
   | .isTrue h=> .req (c9k ie.k && Nat.ble n 1000 && Nat.beq ie.size 1 && Nat.beq ik.size n && decide (ik.cmp=List.replicate n (.i .u8)) && Nat.blt 0 n && Nat.beq m n) (.req true (.ret (a4H h (Vector.toList v))))
   | .isFalse _=> .fail
  | _=> .fail
 | _=>match x with
  | .o (.c (.ch u x))=>match decEq u K with
   | .isTrue h=> .req true (.ret (a4H h x))
   | .isFalse _=> .fail
  | _=> .fail
theorem c3X (b:UInt8):unB (bAC b)=b:=by
 show UInt8.ofNat ((b.toNat:Int)).toNat=b
 rw [Int.toNat_natCast];exact UInt8.ofNat_toNat
theorem b89 (l:List UInt8):(l.map bAC).map unB=l:=by
 rw [List.map_map]
 conv=>rhs;rw [<-List.map_id l]
 exact List.map_congr_left fun b _=>c3X b
theorem b4B {m:Nat} (v:Vector UInt8 m):B6 [.ch (.arr m .byte) v]=(Vector.toList v).map bAC:=by
 show(((Vector.toList v).flatMap fun b=>[DV.v (.int .u8 (b.toNat:Int))]).map AC.d) ++ []=_
 rw [List.append_nil,List.map_flatMap]
 generalize Vector.toList v=l
 induction l with
 | nil=>rfl
 | cons b l ih=>rw [List.flatMap_cons,ih];rfl
theorem b4C {T:TypeId->Option TI} {ik:TI} (h:∀ n e,ik.k= .arr n e->False) (x:AV):b6N T ik x=match x with
  | .c x=> .req (wid ik.k=none) (c7x x)
  | _=> .fail:=by
 unfold b6N
 split
 ·rename_i hk;exact(h _ _ hk).elim
 ·rfl
theorem a9e {K:U} {T:TypeId->Option TI} {ik:TI} (hk:isKey K=true) (x:TV):Sim (a3O K) (b7h T ik K x) (b6N T ik x.av):=by
 unfold b7h
 split
 ·rename_i n e hki
  unfold b6N
  simp only [hki]
  refine Sim.bind (P2 (T e)) fun ie=>?_
  simp only [id]
  split
  ·rename_i m v
   split
   ·rename_i h _
    subst h
    have hc:=b4B v
    refine Sim.req (fun h=>?_) fun h=>?_
    ·simp only [Bool.and_eq_true,decide_eq_true_eq] at h
     obtain⟨⟨⟨⟨⟨⟨h1,h2⟩,h3⟩,h4⟩,h5⟩,h6⟩,h7⟩:=h
     refine⟨Nat.le_of_ble_eq_true h2,c3W h1,Nat.eq_of_beq_eq_true h3,Nat.eq_of_beq_eq_true h4,h5,Nat.le_of_ble_eq_true h6,?_⟩
     rw [hc,List.length_map]
     exact(show(Vector.toList (v:Vector UInt8 m)).length=m from Vector.length_toList).trans (Nat.eq_of_beq_eq_true h7)
    ·refine Sim.req (fun _=>?_) fun _=>Sim.ret ?_
     ·rw [hc,b89]
     ·exact congrArg (fun l:List UInt8=>Value.string ⟨l.toArray⟩) ((congrArg (List.map unB) hc).trans (b89 _))
   ·exact Sim.fail
  ·exact Sim.fail
 ·rename_i hna
  rw [b4C hna]
  split
  ·rename_i u y
   split
   ·rename_i h _
    subst h
    refine Sim.req (fun _=>c1b hna) fun _=>?_
    cases u <;> first | exact Sim.ret rfl | cases hk
   ·exact Sim.fail
  ·exact Sim.fail
structure Lk (α:Type) where
 x:α
 b:Bool
def c3Y (K V:U) (ik iv:TI) (k:K.den):TV->TQ (Lk V.den)
 | .o (.c (.row id ver))=> .rdR id fun r=>match r.c with
  | some R=>match decEq R.u (.pr K V) with
   | .isTrue h=> .req (Nat.beq ver r.ver && Nat.beq R.e (mW ik.k iv.agg)) (.ret ⟨W4 K.beq k V.dflt (h ▸ R.l:List (U.pr K V).den),(a1r K.beq k (h ▸ R.l:List (U.pr K V).den)).isSome⟩)
   | .isFalse _=> .fail
  | none=> .fail
 | _=> .fail
theorem b9a {K V:U} {ik iv:TI} (hk:isKey K=true) (ho:kOk ik.k K=true) (hz:iv.zero=a3j V) (k:K.den) (x:TV) :
  Sim (fun p:Lk V.den=>(V.enc p.x,p.b)) (c3Y K V ik iv k x) (b71 ik iv (a3O K k) x.av):=by
 unfold c3Y
 split
 ·refine Sim.rdR fun r=>?_
  obtain⟨rv,c⟩:=r
  cases c with
  | none=>exact Sim.fail
  | some R=>
   obtain⟨ru,rl,re,rf⟩:=R
   simp only
   split
   ·rename_i hu he
    clear he
    change ru=U.pr K V at hu
    subst hu
    refine Sim.req (fun h=>?_) fun _=>Sim.ret ?_
    ·rw [Bool.and_eq_true] at h
     exact⟨Nat.eq_of_beq_eq_true h.1,Nat.eq_of_beq_eq_true h.2,b3f ho k,a2V hk ho rl⟩
    ·have h1:=a9S (V:=V) (a4a hk k) rl
     have h2:=a4J (V:=V) (a4a hk k) rl
     rw [hz,a8I V]
     exact Prod.ext h1 (congrArg Option.isSome h2)
   ·exact Sim.fail
 ·exact Sim.fail
def b1R (ag:Bool):TV->TQ (List TC)
 | .o (.c x)=> .req (!ag && is1 x) (.ret [x])
 | .o (.agg xs)=> .req ag (.ret xs)
 | _=> .fail
theorem a9T (ag:Bool) (x:TV):Sim B6 (b1R ag x) (a9v ag x.av):=by
 unfold b1R
 split
 ·rename_i x
  refine Sim.req (fun h=>by rw [Bool.and_eq_true] at h;simpa using h.1) fun h=>Sim.ret ?_
  rw [Bool.and_eq_true] at h
  show [a1U x.cells]=x.cells ++ []
  rw [List.append_nil]
  exact(a8H h.2).symm
 ·exact Sim.req id fun _=>Sim.ret rfl
 ·exact Sim.fail
def c3Z (K V:U) (ik iv:TI) (k:K.den) (xs:List TC):TV->TQ (List a0l)
 | .o (.c (.row id ver))=>(a4q V xs).bind fun d=>(a3i d.fz).bind fun us=> .rdR id fun r=>match r.c with
  | some R=>match decEq R.u (.pr K V) with
   | .isTrue h=> .req (Nat.beq ver r.ver && Nat.beq R.e (mW ik.k iv.agg) && !R.fr && !(d.fz.contains id)) (.ret (us ++ [.r id ⟨r.ver,some ⟨.pr K V,a1V K.beq k d.x (h ▸ R.l:List (U.pr K V).den),R.e,false⟩⟩]))
   | .isFalse _=> .fail
  | none=> .fail
 | _=> .fail
theorem b1S:∀ {K:U},isKey K=true->K.size=1
 | .int _,_=>rfl
 | .str,_=>rfl
theorem b9b {K V:U} {ik iv:TI} (hk:isKey K=true) (ho:kOk ik.k K=true) (hs:V.size=iv.size) (k:K.den) (xs:List TC) (x:TV) :
  Sim US (c3Z K V ik iv k xs x) (c5m ik iv (a3O K k) (B6 xs) x.av):=by
 unfold c3Z
 split
 ·rename_i id ver
  refine Sim.bind (a0O V xs) fun d=>Sim.bind (S0 d.fz) fun us=>Sim.rdR fun r=>?_
  obtain⟨rv,c⟩:=r
  cases c with
  | none=>exact Sim.fail
  | some R=>
   obtain⟨ru,rl,re,rf⟩:=R
   simp only
   split
   ·rename_i hu he
    clear he
    change ru=U.pr K V at hu
    subst hu
    refine Sim.req (fun h=>?_) fun _=>Sim.ret ?_
    ·simp only [Bool.and_eq_true] at h
     obtain⟨⟨⟨a1,a2⟩,a3⟩,a4⟩:=h
     refine⟨Nat.eq_of_beq_eq_true a1,Nat.eq_of_beq_eq_true a2,?_,by show rf=false;simpa using a3,by simpa using a4,by rw [U.enc_len,hs],b3f ho k,a2V hk ho rl⟩
     show K.size + V.size=1 + iv.size
     rw [b1S hk,hs]
    ·have h1:=a8i (V:=V) (a4a hk k) d.x rl
     show us.map a0l.upd ++ [Upd.r id ⟨rv,some ⟨a8e (a3O K k) (V.enc d.x) (rl.map (U.pr K V).enc),(U.pr K V).size,re,false⟩⟩]=US (us ++ [_])
     rw [h1]
     simp only [US,List.map_append,List.map_cons,List.map_nil]
     rfl
   ·exact Sim.fail
 ·exact Sim.fail
def c30 (K V:U) (ik iv:TI) (k:K.den):TV->TQ (List a0l)
 | .o (.c (.row id ver))=> .rdR id fun r=>match r.c with
  | some R=>match decEq R.u (.pr K V) with
   | .isTrue h=> .req (Nat.beq ver r.ver && Nat.beq R.e (mW ik.k iv.agg) && !R.fr) (.ret [.r id ⟨r.ver,some ⟨.pr K V,a5u K.beq k (h ▸ R.l:List (U.pr K V).den),R.e,false⟩⟩])
   | .isFalse _=> .fail
  | none=> .fail
 | _=> .fail
theorem b9c {K V:U} {ik iv:TI} (hk:isKey K=true) (ho:kOk ik.k K=true) (k:K.den) (x:TV) :
  Sim US (c30 K V ik iv k x) (c7y ik iv (a3O K k) x.av):=by
 unfold c30
 split
 ·rename_i id ver
  refine Sim.rdR fun r=>?_
  obtain⟨rv,c⟩:=r
  cases c with
  | none=>exact Sim.fail
  | some R=>
   obtain⟨ru,rl,re,rf⟩:=R
   simp only
   split
   ·rename_i hu he
    clear he
    change ru=U.pr K V at hu
    subst hu
    refine Sim.req (fun h=>?_) fun _=>Sim.ret ?_
    ·simp only [Bool.and_eq_true] at h
     exact⟨Nat.eq_of_beq_eq_true h.1.1,Nat.eq_of_beq_eq_true h.1.2,by show rf=false;simpa using h.2,b3f ho k,a2V hk ho rl⟩
    ·have h1:=b7f (V:=V) (a4a hk k) rl
     show [Upd.r id ⟨rv,some ⟨b70 (a3O K k) (rl.map (U.pr K V).enc),(U.pr K V).size,re,false⟩⟩]=US [_]
     rw [h1]
     rfl
   ·exact Sim.fail
 ·exact Sim.fail
theorem b9d {a b:Nat} (h:(!(Nat.beq a b))=true):a ≠ b:=fun e=>by
 subst e
 rw [Nat.beq_refl] at h
 cases h
def c1L (e:Nat):Bool:=Nat.ble b3U e && Nat.blt e R7
theorem b51 {e:Nat} (h:(!(c1L e))=true):¬ a0L e:=fun k=>by
 have h1:Nat.ble b3U e=true:=Nat.ble_eq_true_of_le k.1
 have h2:Nat.blt e R7=true:=Nat.ble_eq_true_of_le k.2
 unfold c1L at h
 rw [h1,h2] at h
 cases h
def b4D:TV->TQ Nat
 | .o (.c (.row id ver))=> .rdR id fun r=>match r.c with
  | some R=> .req (Nat.beq ver r.ver && Nat.ble a0S R.e && !(Nat.beq R.e a4A) && !(c1L R.e)) (.ret R.l.length)
  | none=> .fail
 | _=> .fail
theorem b4E (x:TV):Sim id (b4D x) (b1m x.av):=by
 unfold b4D
 split
 ·refine Sim.rdR fun r=>?_
  obtain⟨rv,c⟩:=r
  cases c with
  | none=>exact Sim.fail
  | some R=>exact Sim.req (fun h=>by simp only [Bool.and_eq_true] at h;exact⟨Nat.eq_of_beq_eq_true h.1.1.1,Nat.le_of_ble_eq_true h.1.1.2,b9d h.1.2,b51 h.2⟩) fun _=>Sim.ret (by simp [a8U.row])
 ·exact Sim.fail
def c9l (ok:Bool) (x:TV) (b:Bool):TQ TV:=match ok with
 | true=>match x with
  | .o y=> .ret (.tup [y,.c (.ch .bool b)])
  | _=> .fail
 | false=> .ret x
theorem c1M (ok:Bool) (x:TV) (b:Bool):Sim TV.av (c9l ok x b) (.ret (okV ok x.av b)):=by
 cases ok with
 | true=>
  cases x with
  | o y=>exact Sim.ret rfl
  | _=>exact Sim.fail
 | false=>exact Sim.ret rfl
end Go.Proofs.YtacnfjjkhpkloaaGreat.Am
namespace Go.Proofs.YtacnfjjkhpkloaaGreat.Am
open Go
def c33 (d:Nat) (K V:U) (ik iv:TI) (k:K.den):TV->TQ (List a0l)
 | .o (.c (.row id ver))=> .rdR id fun r=>match r.c with
  | some R=>match decEq R.u (.pr K V) with
   | .isTrue h=> .req (Nat.beq ver r.ver && Nat.beq R.e (mW ik.k iv.agg) && !R.fr) (.rdB (pbx id) fun b=>
    .ret [.r id ⟨r.ver,some ⟨.pr K V,a1V K.beq k (W4 K.beq k V.dflt (h ▸ R.l:List (U.pr K V).den)) (h ▸ R.l:List (U.pr K V).den),R.e + R7,false⟩⟩,.b (pbx id) ⟨b.ver + 1,none⟩,.t d ⟨true,.ent true id (b.ver + 1) K k⟩])
   | .isFalse _=> .fail
  | none=> .fail
 | _=> .fail
theorem b9i {K V:U} {ik iv:TI} (hk:isKey K=true) (ho:kOk ik.k K=true) (hs:V.size=iv.size) (hz:iv.zero=a3j V) (d:Nat) (k:K.den) (x:TV) :
  Sim US (c33 d K V ik iv k x) (c5n d ik iv (a3O K k) x.av):=by
 unfold c33
 split
 ·rename_i id ver
  refine Sim.rdR fun r=>?_
  obtain⟨rv,c⟩:=r
  cases c with
  | none=>exact Sim.fail
  | some R=>
   obtain⟨ru,rl,re,rf⟩:=R
   simp only
   split
   ·rename_i hu he
    clear he
    change ru=U.pr K V at hu
    subst hu
    refine Sim.req (fun h=>?_) fun _=>Sim.rdB fun b=>Sim.ret ?_
    ·simp only [Bool.and_eq_true] at h
     obtain⟨⟨a1,a2⟩,a3⟩:=h
     refine⟨Nat.eq_of_beq_eq_true a1,Nat.eq_of_beq_eq_true a2,?_,by show rf=false;simpa using a3,b3f ho k,a2V hk ho rl⟩
     show K.size + V.size=1 + iv.size
     rw [b1S hk,hs]
    ·have h0:=a9S (V:=V) (a4a hk k) rl
     have h1:=a8i (V:=V) (a4a hk k) (W4 K.beq k V.dflt rl) rl
     show [Upd.r id ⟨rv,some ⟨a8e (a3O K k) ((a6x (a3O K k) (rl.map (U.pr K V).enc)).getD (iv.zero.map a2S)) (rl.map (U.pr K V).enc),(U.pr K V).size,re + R7,false⟩⟩,_,_]=US [_,_,_]
     rw [hz,a8I V,h0,h1]
     rfl
   ·exact Sim.fail
 ·exact Sim.fail
def c34 (K V:U) (ik iv:TI) (xs:List TC):TV->TV->TQ (List a0l)
 | .o (.c (.row id ver)),.ent false id' pv K' k'=>match decEq K' K with
  | .isTrue hK=>(a4q V xs).bind fun d=>(a3i d.fz).bind fun us=> .rdB (pbx id) fun b=> .rdR id fun r=>match r.c with
   | some R=>match decEq R.u (.pr K V) with
    | .isTrue h=> .req (Nat.beq id' id && Nat.beq pv b.ver && Nat.beq ver r.ver && Nat.beq R.e (mW ik.k iv.agg + R7) && !R.fr && !(d.fz.contains id)) (.ret (us ++ [.r id ⟨r.ver,some ⟨.pr K V,a1V K.beq (a4H hK k') d.x (h ▸ R.l:List (U.pr K V).den),mW ik.k iv.agg,false⟩⟩]))
    | .isFalse _=> .fail
   | none=> .fail
  | .isFalse _=> .fail
 | _,_=> .fail
theorem b9j {K V:U} {ik iv:TI} (hk:isKey K=true) (ho:kOk ik.k K=true) (hs:V.size=iv.size) (xs:List TC) (x st:TV) :
  Sim US (c34 K V ik iv xs x st) (c5o ik iv (B6 xs) x.av st.av):=by
 unfold c34
 split
 ·rename_i id ver id' pv K' k'
  split
  ·rename_i hK _
   subst hK
   refine Sim.bind (a0O V xs) fun d=>Sim.bind (S0 d.fz) fun us=>Sim.rdB fun b=>Sim.rdR fun r=>?_
   obtain⟨rv,c⟩:=r
   cases c with
   | none=>exact Sim.fail
   | some R=>
    obtain⟨ru,rl,re,rf⟩:=R
    simp only
    split
    ·rename_i hu he
     clear he
     change ru=U.pr _ V at hu
     subst hu
     refine Sim.req (fun h=>?_) fun _=>Sim.ret ?_
     ·simp only [Bool.and_eq_true] at h
      obtain⟨⟨⟨⟨⟨a0,a00⟩,a1⟩,a2⟩,a3⟩,a4⟩:=h
      refine⟨Nat.eq_of_beq_eq_true a0,Nat.eq_of_beq_eq_true a00,Nat.eq_of_beq_eq_true a1,Nat.eq_of_beq_eq_true a2,?_,by show rf=false;simpa using a3,by simpa using a4,by rw [U.enc_len,hs],b3f ho k',a2V hk ho rl⟩
      show U.size _ + V.size=1 + iv.size
      rw [b1S hk,hs]
     ·have h1:=a8i (V:=V) (a4a hk k') d.x rl
      show us.map a0l.upd ++ [Upd.r id ⟨rv,some ⟨a8e (a3O _ k') (V.enc d.x) (rl.map (U.pr _ V).enc),(U.pr _ V).size,mW ik.k iv.agg,false⟩⟩]=US (us ++ [_])
      rw [h1]
      simp only [US,List.map_append,List.map_cons,List.map_nil]
      rfl
    ·exact Sim.fail
  ·exact Sim.fail
 ·exact Sim.fail
end Go.Proofs.YtacnfjjkhpkloaaGreat.Am
namespace Go.Proofs.YtacnfjjkhpkloaaGreat.Am
open Go
def b9e (k:TK) (d:Nat):TV->TQ (List a0l)
 | .o (.c (.ch .str s))=>match k with
  | .str=> .rdR d fun r=> .ret [.r d ⟨r.ver + 1,some ⟨.pr .str (.int .i64),[((s:List UInt8),(0:Int))],a4A,false⟩⟩,.t d ⟨true,.o (.c (.row d (r.ver + 1)))⟩]
  | _=> .fail
 | _=> .fail
theorem b7i (k:TK) (d:Nat) (x:TV):Sim US (b9e k d x) (b5t k d x.av):=by
 unfold b9e
 split
 ·cases k <;> first | exact Sim.fail | exact Sim.rdR fun r=>Sim.ret rfl
 ·exact Sim.fail
def c71 (s:List UInt8) (p:Int):Int:=b6O ⟨s.toArray⟩ p
def c72 (s:List UInt8) (p:Int):Int:=((Utf8.decode ⟨s.toArray⟩ p.toNat).1:Nat)
def a8J (l:List (U.pr .str (.int .i64)).den):List UInt8 × Int:=List.headD (l:List (List UInt8 × Int)) ([],0)
def c31 (d:Nat):TV->TQ (List a0l)
 | .o (.c (.row id ver))=> .rdR id fun r=>match r.c with
  | some R=>match decEq R.u (.pr .str (.int .i64)) with
   | .isTrue h=> .req (Nat.beq ver r.ver && Nat.beq R.e a4A && !R.fr && Nat.beq R.l.length 1)
    (.ret [.r id ⟨r.ver,some ⟨.pr .str (.int .i64),[((a8J (h ▸ R.l:List (U.pr .str (.int .i64)).den)).1,c71 (a8J (h ▸ R.l:List (U.pr .str (.int .i64)).den)).1 (a8J (h ▸ R.l:List (U.pr .str (.int .i64)).den)).2)],R.e,false⟩⟩,
     .t d ⟨true,.nx (decide ((a8J (h ▸ R.l:List (U.pr .str (.int .i64)).den)).2.toNat < (a8J (h ▸ R.l:List (U.pr .str (.int .i64)).den)).1.length)) (.ch (.int .i64) (a8J (h ▸ R.l:List (U.pr .str (.int .i64)).den)).2) (.ch (.int .i32) (c72 (a8J (h ▸ R.l:List (U.pr .str (.int .i64)).den)).1 (a8J (h ▸ R.l:List (U.pr .str (.int .i64)).den)).2))⟩])
   | .isFalse _=> .fail
  | none=> .fail
 | _=> .fail
theorem b9f (d:Nat) (x:TV):Sim US (c31 d x) (c0Z d x.av):=by
 unfold c31
 split
 ·refine Sim.rdR fun r=>?_
  obtain⟨rv,c⟩:=r
  cases c with
  | none=>exact Sim.fail
  | some R=>
   obtain⟨ru,rl,re,rf⟩:=R
   simp only
   split
   ·rename_i hu he
    clear he
    change ru=U.pr .str (.int .i64) at hu
    subst hu
    refine Sim.req (fun h=>?_) fun h=>?_
    ·simp only [Bool.and_eq_true] at h
     exact⟨Nat.eq_of_beq_eq_true h.1.1.1,Nat.eq_of_beq_eq_true h.1.1.2,by show rf=false;simpa using h.1.2⟩
    ·simp only [Bool.and_eq_true] at h
     have hl:=Nat.eq_of_beq_eq_true h.2
     match rl,hl with
     | [q],_=>exact Sim.ret rfl
   ·exact Sim.fail
 ·exact Sim.fail
def c32 (k:Nat):TV->TQ TV
 | .tup xs=>(TQ.ofOpt xs[k]?).bind fun y=> .ret (.o y)
 | .nx b x y=>match k with
  | 0=> .ret (.o (.c (.ch .bool b)))
  | 1=> .req b (.ret (.o (.c x)))
  | 2=> .req b (.ret (.o (.c y)))
  | _=> .fail
 | .ent true id pv K kv=>match k with
  | 1=> .rdB (pbx id) fun b=> .req (Nat.beq pv b.ver) (.ret (.ent false id pv K kv))
  | _=> .fail
 | _=> .fail
theorem b9g (k:Nat) (x:TV):Sim TV.av (c32 k x) (a84 k x.av):=by
 unfold c32
 split
 ·rename_i xs
  intro s tr K h
  rw [TQ.wpt_bind] at h
  show(Q.ofOpt (xs.map T1.av)[k]?).wpt _ _ _
  have h1:=b27 (f:=T1.av) (o':=xs[k]?) (o:=(xs.map T1.av)[k]?) (fun a h=>by rw [List.getElem?_map,h];rfl) s tr _ h
  refine Q.wpt_mono h1 ?_
  rintro b rs ⟨a,rfl,hk⟩
  exact⟨_,rfl,hk⟩
 ·split
  ·exact Sim.ret rfl
  ·exact Sim.req (fun h=>h) fun _=>Sim.ret rfl
  ·exact Sim.req (fun h=>h) fun _=>Sim.ret rfl
  ·exact Sim.fail
 ·split
  ·exact Sim.rdB fun b=>Sim.req (fun h=>Nat.eq_of_beq_eq_true h) fun _=>Sim.ret rfl
  ·exact Sim.fail
 ·exact Sim.fail
def c5V (u:U) (x:TC):TQ (Pa u.den):= .req (is1 x && Nat.beq u.size 1) (a4q u [x])
theorem b9h (u:U) (x:TC):Sim (fun p:Pa u.den=>(b1I (u.enc p.x),p.fz)) (c5V u x) (toD (a1U x.cells)):=by
 refine Sim.chk fun h s tr K hK=>?_
 rw [Bool.and_eq_true] at h
 have e:B6 [x]=[a1U x.cells]:=(List.append_nil _).trans (a8H h.1)
 have h1:=a0O u [x] s tr K hK
 rw [e] at h1
 simp only [a6K,Q.wpt_bind,Q.wpt] at h1
 refine Q.wpt_mono h1 ?_
 rintro⟨d,fz⟩ rs ⟨p,hp,hk⟩
 injection hp with hp1 hp2
 refine⟨p,?_,hk⟩
 simp only [List.append_nil] at hp2
 simp only at hp1 hp2
 rw [<-hp1,hp2]
 rfl
def c9m (t:TypeId) (u:U) (d:Nat) (x:TC):TQ (List a0l):=(c5V u x).bind fun y=>(a3i y.fz).bind fun us=> .ret (us ++ [.t d ⟨true,.o (.c (.it t u y.x))⟩])
theorem c1N (t:TypeId) (u:U) (d:Nat) (x:TC):Sim US (c9m t u d x) ((toD (a1U x.cells)).bind fun y=>(a1K y.2).bind fun us=> .ret (us ++ [.t d ⟨true,.c (.d (.it t y.1))⟩])):=by
 refine Sim.bind (b9h u x) fun y=>Sim.bind (S0 y.fz) fun us=>Sim.ret ?_
 simp only [US,List.map_append,List.map_cons,List.map_nil]
 rfl
def b4F (i:TI) (t:TypeId):TV->TQ TV
 | .o (.c (.it t' u x))=> .req (i.k.conc && !i.agg && Nat.beq u.size 1) (match decEq t' t with
  | .isTrue _=> .ret (.tup [.c (.ch u x),.c (.ch .bool true)])
  | .isFalse _=>match i.zero with
   | [z]=>match b69 z with
    | some c=> .ret (.tup [.c c,.c (.ch .bool false)])
    | none=> .fail
   | _=> .fail)
 | _=> .fail
theorem b4G (i:TI) (t:TypeId) (x:TV):Sim TV.av (b4F i t x) (b1n i t x.av):=by
 unfold b4F
 split
 ·rename_i t' u y
  refine Sim.req (fun h=>?_) fun h=>?_
  ·simp only [Bool.and_eq_true] at h
   exact⟨h.1.1,by simpa using h.1.2⟩
  ·simp only [Bool.and_eq_true] at h
   have hz:=Nat.eq_of_beq_eq_true h.2
   have hag:i.agg=false:=by simpa using h.1.2
   show Sim TV.av _ (match decEq t' t with
    | .isTrue _=> .ret (.tup [.c (.d (b1I (u.enc y))),.c (.d (.v (.bool true)))])
    | .isFalse _=>(b74 i).bind fun z=> .ret (.tup [z,.c (.d (.v (.bool false)))]))
   generalize decEq t' t=dd
   cases dd with
   | isTrue e=>
    refine Sim.ret ?_
    show AV.tup [.c (.d (b1I (u.enc y))),.c (.d (.v (.bool true)))]= .tup [.c (a1U ((u.enc y).map .d)),.c (.d (.v (.bool true)))]
    rw [<-b5O (ds:=u.enc y) (by rw [U.enc_len,hz])]
    rfl
   | isFalse e=>
    simp only
    split
    ·rename_i z hz0
     cases hl:b69 z with
     | none=>exact Sim.fail
     | some c=>
      obtain⟨a1,_,a3⟩:=b1K hl
      unfold b74
      rw [hag,hz0]
      refine Sim.ret ?_
      show AV.tup [.c (a0c z),.c (.d (.v (.bool false)))]= .tup [.c (a1U c.cells),.c (.d (.v (.bool false)))]
      rw [a1];rfl
    ·exact Sim.fail
 ·exact Sim.fail
end Go.Proofs.YtacnfjjkhpkloaaGreat.Am
namespace Go.Proofs.YtacnfjjkhpkloaaGreat.Am
open Go
def c20 (ou:Option U) (zero:List Value):Option (List TC):=match ou with
 | some u=>match okZ u && b3e (a3j u) zero with
  | true=>some (b7g u)
  | false=>none
 | none=>a9M zero
theorem b4H {ou:Option U} {zero:List Value} {ps:List TC} (h:c20 ou zero=some ps):B6 ps=zero.map a0c:=by
 unfold c20 at h
 split at h
 ·split at h
  ·rename_i u _ hz
   rw [Bool.and_eq_true] at hz
   injection h with h
   subst h
   rw [b1Q _ hz.1,a6n hz.2]
  ·cases h
 ·exact(a8h h).1
def b52 (place:Nat->Option (Nat × Nat)) (ps:List TC):List (Nat × TV)->TQ (List TC)
 | []=> .ret ps
 | p :: rest=>(b0U p.2).bind fun v=>match place p.1 with
  | some q=> .req (Nat.beq (b8M v) q.2) (match c41 ps q.1 v with | some qs=>b52 place qs rest | none=> .fail)
  | none=> .fail
theorem a8j (place:Nat->Option (Nat × Nat)):∀ (xs:List (Nat × TV)) (ps:List TC),Sim B6 (b52 place ps xs) (b1k place (B6 ps) (xs.map pav))
 | [],ps=>Sim.ret rfl
 | p :: rest,ps=>by
  refine Sim.bind (a6k p.2) fun v=>?_
  show Sim B6 _ (match place p.1 with | some q=> .req ((B6 v).length=q.2/\q.1 + q.2<=(B6 ps).length) (b1k place (setAt (B6 ps) q.1 (B6 v)) (rest.map pav)) | none=> .fail)
  cases place p.1 with
  | none=>exact Sim.fail
  | some q=>
   refine Sim.chk fun h=>?_
   have e:=Nat.eq_of_beq_eq_true h
   rw [<-a7H] at e
   simp only
   cases hs:c41 ps q.1 v with
   | none=>exact Sim.fail
   | some qs=>
    obtain⟨h1,h2⟩:=b8N hs
    refine Sim.must ⟨e,by rw [<-e];exact h2⟩ ?_
    rw [<-h1]
    exact a8j place rest qs
structure Pds (α:Type) where
 x:List (Nat × α)
 fz:List Nat
def c73 (u:U):List (Nat × TV)->TQ (Pds u.den)
 | []=> .ret ⟨[],[]⟩
 | p :: ps=>(b0U p.2).bind fun cs=>(a4q u cs).bind fun d=>(c73 u ps).bind fun ds=> .ret ⟨(p.1,d.x) :: ds.x,d.fz ++ ds.fz⟩
def c5W (u:U) (p:Pds u.den):List (Nat × List DV) × List Nat:=(p.x.map fun q=>(q.1,u.enc q.2),p.fz)
theorem b53 (u:U):∀ (ps:List (Nat × TV)),Sim (c5W u) (c73 u ps) (b6L (ps.map pav))
 | []=>Sim.ret rfl
 | p :: ps=>Sim.bind (a6k p.2) fun cs=>Sim.bind (a0O u cs) fun _d=>Sim.bind (b53 u ps) fun _ds=>Sim.ret rfl
def b9k {α:Type}:List α->List (Nat × α)->TQ (List α)
 | es,[]=> .ret es
 | es,p :: rest=> .req (decide (p.1 < es.length)) (b9k (es.set p.1 p.2) rest)
theorem b00 (u:U):∀ (xs:List (Nat × u.den)) (es:List u.den),Sim (List.map u.enc) (b9k es xs) (b6M u.size (es.map u.enc) (xs.map fun q=>(q.1,u.enc q.2)))
 | [],es=>Sim.ret rfl
 | p :: rest,es=>by
  refine Sim.req (fun h=>⟨u.enc_len _,by rw [List.length_map];exact of_decide_eq_true h⟩) fun _=>?_
  show Sim _ _ (b6M u.size ((es.map u.enc).set p.1 (u.enc p.2)) _)
  rw [<-List.map_set]
  exact b00 u rest _
def LIM:Nat:=140737488355328
def LEN:Nat:=4611686018427387904
def b9l (d:Nat) (e:TypeId) (u:U) (by_:Nat) (x y:TC):TQ (List a0l):=
 (b1O u y).bind fun y=> .req (decide (e < a0S)) ((a3i y.fz).bind fun us=> .rdR d fun rd=>match x with
  | .nil=> .req (decide (y.x.length * by_<=LIM/\y.x.length<=LEN)) (.ret (us ++ [.r d ⟨rd.ver + 1,some ⟨u,y.x,e,false⟩⟩,.t d ⟨true,.o (.c (.row d (rd.ver + 1)))⟩]))
  | .row id ver=> .rdR id fun r=>match r.c with
   | some R=>match decEq R.u u with
    | .isTrue h=> .req (Nat.beq ver r.ver && Nat.beq R.e e) (.req (decide ((R.l.length + y.x.length) * by_<=LIM/\R.l.length + y.x.length<=LEN))
     (.ret (us ++ [.r id ⟨r.ver,none⟩,.r d ⟨rd.ver + 1,some ⟨u,(h ▸ R.l:List u.den) ++ y.x,e,R.fr || y.fz.contains id⟩⟩,.t d ⟨true,.o (.c (.row d (rd.ver + 1)))⟩])))
    | .isFalse _=> .fail
   | none=> .fail
  | _=> .fail)
theorem b4I (d:Nat) (e:TypeId) (u:U) (z by_:Nat) (hz:u.size=z) (x y:TC):Sim US (b9l d e u by_ x y) (b1l d e z by_ (a1U x.cells) (a1U y.cells)):=by
 subst hz
 refine Sim.bind (a69 u y) fun y=>?_
 show Sim US _ (.req (b0G u.size (y.x.map u.enc)/\e < a0S) ((a1K y.fz).bind fun us=> .rdR d fun rd=>match a1U x.cells with
   | .nil=> .req ((y.x.map u.enc).length * by_<=140737488355328/\(y.x.map u.enc).length<=4611686018427387904) (.ret (us ++ [.r d ⟨rd.ver + 1,some ⟨y.x.map u.enc,u.size,e,false⟩⟩,.t d ⟨true,.c (.row d (rd.ver + 1))⟩]))
   | .row id ver=> .rdR id fun r=>match r.c with
    | some R=> .req (ver=r.ver/\R.sz=u.size/\R.e=e/\(R.es.length + (y.x.map u.enc).length) * by_<=140737488355328/\R.es.length + (y.x.map u.enc).length<=4611686018427387904)
     (.ret (us ++ [.r id ⟨r.ver,none⟩,.r d ⟨rd.ver + 1,some ⟨R.es ++ y.x.map u.enc,u.size,e,R.fr || y.fz.contains id⟩⟩,.t d ⟨true,.c (.row d (rd.ver + 1))⟩]))
    | none=> .fail
   | _=> .fail))
 refine Sim.req (fun h=>⟨b0Z u _,of_decide_eq_true h⟩) fun _=>(Sim.bind (S0 y.fz) fun us=>Sim.rdR fun rd=>?_)
 split
 ·refine Sim.req (fun h=>?_) fun _=>Sim.ret ?_
  ·have h1:=of_decide_eq_true h
   rw [List.length_map]
   exact h1
  ·simp only [US,List.map_append,List.map_cons,List.map_nil]
   rfl
 ·rename_i id ver
  refine Sim.rdR fun r=>?_
  obtain⟨rv,c⟩:=r
  cases c with
  | none=>exact Sim.fail
  | some R=>
   obtain⟨ru,rl,re,rf⟩:=R
   simp only
   split
   ·rename_i hu _
    subst hu
    refine Sim.chk fun h=>Sim.req (fun h0=>?_) fun _=>Sim.ret ?_
    ·rw [Bool.and_eq_true] at h
     have h1:=of_decide_eq_true h0
     refine⟨Nat.eq_of_beq_eq_true h.1,rfl,Nat.eq_of_beq_eq_true h.2,?_⟩
     rw [show(a8U.row ⟨ru,rl,re,rf⟩).es.length=rl.length from List.length_map ..,List.length_map]
     exact h1
    ·simp only [US,List.map_append,List.map_cons,List.map_nil,a0l.upd,TRS.rs,Option.map_some,Option.map_none,a8U.row]
     rfl
   ·exact Sim.fail
 ·exact Sim.fail
section
variable (T:TypeId->Option TI) (TU:TypeId->Option U) (cq:Oper->Call->Q (List Upd)) (tcq:Oper->Call->TQ (List a0l))
def ttq (t:TypeId):TQ TI:= .ofOpt (T t)
theorem E6 (t:TypeId):Sim id (ttq T t) (tq T t):=P2 _
def b1T (i j:TI) (o:Oper) (_src:TypeId) (x:TV):TQ (List a0l):=match i.k,j.k with
 | .int _,.int k=>(c2X x).bind fun n=>a62 o.dst (c1 (.int k) (k.wrap n))
 | .str,.str=>match x with
  | .o (.c (.ch .str s))=>a62 o.dst (c1 .str s)
  | _=> .fail
 | .slice e,.str=>(ttq T e).bind fun ie=>match ie.k with
  | .int .u8=>match x with
   | .o (.c x)=>(b1O .byte x).bind fun y=>a62 o.dst (c1 .str y.x)
   | _=> .fail
  | _=> .fail
 | .str,.slice e=>(ttq T e).bind fun ie=>match ie.k with
  | .int .u8=>match x with
   | .o (.c (.ch .str s))=> .req (decide (List.length s<=maxLen)) (a62 o.dst (c1 (.sl .byte) s))
   | _=> .fail
  | _=> .fail
 | _,_=> .fail
def c44 (o:Oper):TQ (List a0l):=match o.op with
 | .move x=>(tev x).bind (a62 o.dst)
 | .assign x=>(tev x).bind (a62 o.dst)
 | .pick c a b=>(tev c).bind fun c=>(c1x c).bind fun c=>(c7W a).bind fun a=>(c7W b).bind fun b=>(c5R c a b).bind (a62 o.dst)
 | .alloc t=>(ttq T t).bind fun i=>(TQ.ofOpt o.dst).bind fun d=>match c20 (TU t) i.zero with
  | some ps=> .rdB d fun b=> .ret [.b d ⟨b.ver + 1,some ps⟩,.t d ⟨true,.o (.c (.ptr d (b.ver + 1) 0))⟩]
  | none=> .fail
 | .box _ x=>(TQ.ofOpt o.dst).bind fun d=>(tev x).bind fun v=>(b0U v).bind fun cs=> .rdB d fun b=> .ret [.b d ⟨b.ver + 1,some cs⟩,.t d ⟨true,.o (.c (.ptr d (b.ver + 1) 0))⟩]
 | .build t parts=>(ttq T t).bind fun i=>(c1w parts.toList).bind fun ps=>match i.k with
  | .struct fs=>match c20 (TU t) i.zero with
   | some zs=>(b52 (fs[·]?) zs ps).bind fun cs=>a62 o.dst (.o (.agg cs))
   | none=> .fail
  | .arr _ e=>(ttq T e).bind fun ie=>match c20 (TU t) i.zero with
   | some zs=>(b52 (fun j=>some (j * ie.size,ie.size)) zs ps).bind fun cs=>a62 o.dst (.o (.agg cs))
   | none=> .fail
  | _=> .fail
 | .buildSlice t len parts=>(ttq T t).bind fun i=>(TQ.ofOpt o.dst).bind fun d=>match i.k with
  | .slice e=>(ttq T e).bind fun ie=>match TU e with
   | some u=> .req (decide (len * ie.size<=16777216/\0 < ie.size/\(len=0->parts.size=0)/\e < a0S) && Nat.beq u.size ie.size && b3e (a3j u) ie.zero) ((c1w parts.toList).bind fun ps=>(c73 u ps).bind fun y=>(a3i y.fz).bind fun us=>(b9k (List.replicate len u.dflt) y.x).bind fun es=>
    .rdR d fun r=> .ret (us ++ [.r d ⟨r.ver + 1,some ⟨u,es,e,false⟩⟩,.t d ⟨true,.o (.c (.row d (r.ver + 1)))⟩]))
   | none=> .fail
  | _=> .fail
 | .load t a=>(ttq T t).bind fun i=>(tev a).bind fun a=>(c1A i a).bind (a62 o.dst)
 | .store t a x=>match o.dst with
  | some _=> .fail
  | none=>(ttq T t).bind fun i=>(tev a).bind fun a=>(tev x).bind fun x=>(b0U x).bind fun cs=>b81 TU t i cs a
 | .nilCheck x=>(tev x).bind fun x=>match x with
  | .o (.c (.ptr id ver off))=> .rdB id fun b=> .req (Nat.beq ver b.ver && b.c.isSome) (a62 o.dst (.o (.c (.ptr id ver off))))
  | .o (.c (.ep u y off))=>a62 o.dst (.o (.c (.ep u y off)))
  | .o (.c (.rp id ver k off sz))=> .rdR id fun r=> .req (Nat.beq ver r.ver && r.c.isSome) (a62 o.dst (.o (.c (.rp id ver k off sz))))
  | .o (.c (.fn f))=>a62 o.dst (.o (.c (.fn f)))
  | .o (.c (.clo f u x))=>a62 o.dst (.o (.c (.clo f u x)))
  | _=> .fail
 | .binOp op t x y _=>(ttq T t).bind fun i=>(tev x).bind fun x=>(tev y).bind fun y=>(c7Y TU op t i x y).bind (a62 o.dst)
 | .unOp op _ x=>(tev x).bind fun x=>(tun op x).bind (a62 o.dst)
 | .convert src dst x=>(ttq T src).bind fun i=>(ttq T dst).bind fun j=>(tev x).bind fun x=>b1T T i j o src x
 | .slice t x lo hi none=>(ttq T t).bind fun i=>(tev x).bind fun x=>(c7A lo).bind fun l=>(c7A hi).bind fun h=>match i.k with
   | .slice e=>(ttq T e).bind fun ie=>match TU e with
    | some u=> .req (Nat.beq u.size ie.size) (match x with
     | .o (.c x)=>(TQ.ofOpt o.dst).bind fun d=>if(i.cut && l.isNone)=true then c9j d u h x else c2Z d u l h x
     | _=> .fail)
    | none=> .fail
   | .str=>(b4z l h x).bind (a62 o.dst)
   | .arr n e=>(ttq T e).bind fun ie=>match TU e with
    | some u=>b4s o.dst u n ie l h x
    | none=> .fail
   | _=> .fail
 | .fieldAddr t x f=>(ttq T t).bind fun i=>match i.k with
  | .struct fs=>(TQ.ofOpt fs[f]?).bind fun p=>(tev x).bind fun x=>(b82 p.1 x).bind (a62 o.dst)
  | _=> .fail
 | .indexAddr t x k=>(ttq T t).bind fun i=>(tev x).bind fun x=>(tev k).bind fun k=>(c2X k).bind fun k=>match i.k with
  | .slice e=>(ttq T e).bind fun ie=>(b84 ie.size k x).bind (a62 o.dst)
  | .arr n e=>(ttq T e).bind fun ie=>(b4m n ie.size k x).bind (a62 o.dst)
  | _=> .fail
 | .index t x k=>(ttq T t).bind fun i=>(tev x).bind fun x=>(tev k).bind fun k=>(c2X k).bind fun k=>match i.k with
  | .str=>(b4u k x).bind (a62 o.dst)
  | .arr n e=>(ttq T e).bind fun ie=>match TU e with
   | some u=>(b4o u n ie k x).bind (a62 o.dst)
   | none=> .fail
  | _=> .fail
 | .field t x f=>(ttq T t).bind fun i=>match i.k with
  | .struct fs=>(TQ.ofOpt fs[f]?).bind fun p=>(TQ.ofOpt i.fts[f]?).bind fun ft=>(ttq T ft).bind fun ie=>(tev x).bind fun x=>(b4q p.1 ie x).bind (a62 o.dst)
  | _=> .fail
 | .extract x k=>(tev x).bind fun x=>(c32 k x).bind (a62 o.dst)
 | .range t x=>(ttq T t).bind fun i=>(TQ.ofOpt o.dst).bind fun d=>(tev x).bind fun x=>b9e i.k d x
 | .next x true=>(TQ.ofOpt o.dst).bind fun d=>(tev x).bind fun x=>c31 d x
 | .makeFunc fn first captured=>(TQ.ofOpt o.dst).bind fun d=>match fn,first.toList,captured.toList with
  | .func f,[],[]=> .ret [.t d ⟨true,.o (.c (.fn f))⟩]
  | .func f,[],[.tmp k]=>(tev (.tmp k)).bind fun v=>c3U d k f v
  | _,_,_=> .fail
 | .makeInterface t x=>(ttq T t).bind fun i=>(TQ.ofOpt o.dst).bind fun d=>(tev x).bind fun x=>match x with
  | .o (.c x)=>match TU t with
   | some u=> .req i.k.conc (c9m t u d x)
   | none=> .fail
  | _=> .fail
 | .typeAssert x _ t true=>(ttq T t).bind fun i=>(tev x).bind fun x=>(b4F i t x).bind (a62 o.dst)
 | .makeSlice t l c=>(ttq T t).bind fun i=>(TQ.ofOpt o.dst).bind fun d=>(tev l).bind fun l=>(c2X l).bind fun l=>(tev c).bind fun c=>(c2X c).bind fun c=>match i.k with
  | .slice e=>(ttq T e).bind fun ie=>match TU e with
   | some u=> .req (decide (0 < ie.size/\e < a0S) && Nat.beq u.size ie.size && b3e (a3j u) ie.zero) (.req (decide (0<=l/\l<=c/\(ie.bytes:Int) * c<=281474976710656/\c<=4611686018427387904)) (.rdR d fun r=>
    .ret [.r d ⟨r.ver + 1,some ⟨u,List.replicate l.toNat u.dflt,e,false⟩⟩,.t d ⟨true,.o (.c (.row d (r.ver + 1)))⟩]))
   | none=> .fail
  | _=> .fail
 | .makeMap t r=>(ttq T t).bind fun i=>(TQ.ofOpt o.dst).bind fun d=>(c7A r).bind fun _=>match i.k with
  | .map kt vt=>(ttq T kt).bind fun ik=>(ttq T vt).bind fun iv=>match TU kt,TU vt with
   | some K,some V=> .req (isKey (kU K) && Nat.beq V.size iv.size) (.rdR d fun r=> .ret [.r d ⟨r.ver + 1,some ⟨.pr (kU K) V,[],mW ik.k iv.agg,false⟩⟩,.t d ⟨true,.o (.c (.row d (r.ver + 1)))⟩])
   | _,_=> .fail
  | _=> .fail
 | .lookup t m k ok=>(ttq T t).bind fun i=>(tev m).bind fun m=>(tev k).bind fun k=>match i.k with
  | .map kt vt=>(ttq T kt).bind fun ik=>(ttq T vt).bind fun iv=>match TU kt,TU vt with
   | some K,some V=> .req (isKey (kU K) && kOk ik.k (kU K) && b3e (a3j V) iv.zero) ((b7h T ik (kU K) k).bind fun k=>(c3Y (kU K) V ik iv k m).bind fun p=>(c0T iv [.ch V p.x]).bind fun x=>(c9l ok x p.b).bind (a62 o.dst))
   | _,_=> .fail
  | _=> .fail
 | .mapUpdate t m k x=>match o.dst with
  | some _=> .fail
  | none=>(ttq T t).bind fun i=>(tev m).bind fun m=>(tev k).bind fun k=>(tev x).bind fun x=>match i.k with
   | .map kt vt=>(ttq T kt).bind fun ik=>(ttq T vt).bind fun iv=>match TU kt,TU vt with
    | some K,some V=> .req (isKey (kU K) && kOk ik.k (kU K) && Nat.beq V.size iv.size) ((b7h T ik (kU K) k).bind fun k=>(b1R iv.agg x).bind fun cs=>c3Z (kU K) V ik iv k cs m)
    | _,_=> .fail
   | _=> .fail
 | .mapEntry t m k=>(ttq T t).bind fun i=>(TQ.ofOpt o.dst).bind fun d=>(tev m).bind fun m=>(tev k).bind fun k=>match i.k with
  | .map kt vt=>(ttq T kt).bind fun ik=>(ttq T vt).bind fun iv=>match TU kt,TU vt with
   | some K,some V=> .req (isKey (kU K) && kOk ik.k (kU K) && Nat.beq V.size iv.size && b3e (a3j V) iv.zero) ((b7h T ik (kU K) k).bind fun k=>c33 d (kU K) V ik iv k m)
   | _,_=> .fail
  | _=> .fail
 | .entryStore t m st x=>match o.dst with
  | some _=> .fail
  | none=>(ttq T t).bind fun i=>(tev m).bind fun m=>(tev st).bind fun st=>(tev x).bind fun x=>match i.k with
   | .map kt vt=>(ttq T kt).bind fun ik=>(ttq T vt).bind fun iv=>match TU kt,TU vt with
    | some K,some V=> .req (isKey (kU K) && kOk ik.k (kU K) && Nat.beq V.size iv.size) ((b1R iv.agg x).bind fun cs=>c34 (kU K) V ik iv cs m st)
    | _,_=> .fail
   | _=> .fail
 | .call c=>tcq o c
 | _=> .fail
end
end Go.Proofs.YtacnfjjkhpkloaaGreat.Am
namespace Go.Proofs.YtacnfjjkhpkloaaGreat.Am
open Go
section
variable {T:TypeId->Option TI} {TU:TypeId->Option U} {cq:Oper->Call->Q (List Upd)} {tcq:Oper->Call->TQ (List a0l)}
theorem b3g (i j:TI) (o:Oper) (src:TypeId) (x:TV):Sim US (b1T T i j o src x) (match i.k,j.k with
  | .int _,.int k=>(Q.int x.av).bind fun n=>one o.dst (.c (.d (.v (.int k (k.wrap n)))))
  | .str,.str=>match x.av with
   | .c (.d (.v (.string _)))=>one o.dst x.av
   | _=> .fail
  | .slice e,.str=>(tq T e).bind fun ie=>match ie.k with
   | .int .u8=>match x.av with
    | .c x=>(toD x).bind fun y=>(b0I y.1).bind fun l=>one o.dst (.c (.d (.v (.string ⟨l.toArray⟩))))
    | _=> .fail
   | _=> .fail
  | .str,.slice e=>(tq T e).bind fun ie=>match ie.k with
   | .int .u8=>match x.av with
    | .c (.d (.v (.string str)))=> .req (str.size<=maxLen) (one o.dst (.c (.d (.sl (str.data.toList.map a49)))))
    | _=> .fail
   | _=> .fail
  | _,_=> .fail):=by
 unfold b1T
 cases i.k <;> cases j.k <;> try exact Sim.fail
 ·exact Sim.bind (a6j x) fun n=>H3 o.dst _
 ·simp only
  split
  ·exact H3 o.dst _
  ·exact Sim.fail
 ·refine Sim.bind (E6 T _) fun ie=>?_
  show Sim US _ (match ie.k with
   | .int .u8=>match x.av with
    | .c (.d (.v (.string str)))=> .req (str.size<=maxLen) (one o.dst (.c (.d (.sl (str.data.toList.map a49)))))
    | _=> .fail
   | _=> .fail)
  split
  ·rename_i hk
   try rw [hk]
   split
   ·exact Sim.req (fun h=>of_decide_eq_true h) fun _=>H3 o.dst (c1 (.sl .byte) _)
   ·exact Sim.fail
  ·exact Sim.fail
 ·refine Sim.bind (E6 T _) fun ie=>?_
  show Sim US _ (match ie.k with
   | .int .u8=>match x.av with
    | .c x=>(toD x).bind fun y=>(b0I y.1).bind fun l=>one o.dst (.c (.d (.v (.string ⟨l.toArray⟩))))
    | _=> .fail
   | _=> .fail)
  split
  ·rename_i hk
   try rw [hk]
   split
   ·rename_i c
    refine Sim.bind (a69 .byte c) fun y=>?_
    have e:y.x.map U.byte.enc=List.map a49 y.x:=rfl
    show Sim US _ ((b0I (.sl (y.x.map U.byte.enc))).bind fun l=>one o.dst (.c (.d (.v (.string ⟨l.toArray⟩)))))
    rw [e]
    show Sim US _ (.req (List.map a49 y.x=((List.map a49 y.x).map a7v).map a49) (one o.dst (.c (.d (.v (.string ⟨((List.map a49 y.x).map a7v).toArray⟩))))))
    have e2:(List.map a49 y.x).map a7v=y.x:=b68 y.x
    rw [e2]
    exact Sim.must rfl (H3 o.dst _)
   ·exact Sim.fail
  ·exact Sim.fail
theorem c1O (hc:∀ o c,o.op= .call c->Sim US (tcq o c) (cq o c)) (o:Oper):Sim US (c44 T TU tcq o) (opQ T cq o):=by
 unfold c44 opQ
 cases ho:o.op <;> try exact Sim.fail
 case move x=>exact Sim.bind (D9 x) fun v=>H3 o.dst v
 case assign x=>exact Sim.bind (D9 x) fun v=>H3 o.dst v
 case pick c a b=>exact Sim.bind (D9 c) fun c=>Sim.bind (b29 c) fun c=>Sim.bind (b5S a) fun a=>Sim.bind (b5S b) fun b=>Sim.bind (b8R c a b) fun v=>H3 o.dst v
 case alloc t=>
  refine Sim.bind (E6 T t) fun i=>Sim.bind (P2 o.dst) fun d=>?_
  cases hz:c20 (TU t) i.zero with
  | none=>exact Sim.fail
  | some ps=>
   refine Sim.rdB fun b=>Sim.ret ?_
   have e:=b4H hz
   show [Upd.b d ⟨b.ver + 1,some (i.zero.map a0c)⟩,_]=_
   rw [<-e]
   rfl
 case box t x=>exact Sim.bind (P2 o.dst) fun d=>Sim.bind (D9 x) fun v=>Sim.bind (a6k v) fun cs=>Sim.rdB fun b=>Sim.ret rfl
 case build t parts=>
  refine Sim.bind (E6 T t) fun i=>Sim.bind (a9N _) fun ps=>?_
  simp only [id]
  cases i.k <;> try exact Sim.fail
  case struct fs=>
   simp only
   cases hz:c20 (TU t) i.zero with
   | none=>exact Sim.fail
   | some zs=>
    have e:=b4H hz
    rw [<-e]
    exact Sim.bind (a8j _ ps zs) fun cs=>H3 o.dst (.o (.agg cs))
  case arr n e=>
   refine Sim.bind (E6 T e) fun ie=>?_
   cases hz:c20 (TU t) i.zero with
   | none=>exact Sim.fail
   | some zs=>
    have e:=b4H hz
    rw [<-e]
    exact Sim.bind (a8j _ ps zs) fun cs=>H3 o.dst (.o (.agg cs))
 case buildSlice t len parts=>
  refine Sim.bind (E6 T t) fun i=>Sim.bind (P2 o.dst) fun d=>?_
  simp only [id]
  cases i.k <;> try exact Sim.fail
  case slice e=>
   refine Sim.bind (E6 T e) fun ie=>?_
   cases TU e with
   | none=>exact Sim.fail
   | some u=>
    refine Sim.req (fun h=>?_) fun h=>?_
    ·simp only [Bool.and_eq_true] at h
     exact of_decide_eq_true h.1.1
    ·simp only [Bool.and_eq_true] at h
     have e2:=Nat.eq_of_beq_eq_true h.1.2
     have e3:=a6n h.2
     refine Sim.bind (a9N _) fun ps=>Sim.bind (b53 u ps) fun y=>Sim.bind (S0 y.fz) fun us=>?_
     simp only [id]
     rw [<-e2,<-e3,a8I u,<-List.map_replicate]
     refine Sim.bind (b00 u y.x _) fun es=>Sim.rdR fun r=>Sim.ret ?_
     simp only [US,List.map_append,List.map_cons,List.map_nil]
     rfl
 case load t a=>exact Sim.bind (E6 T t) fun i=>Sim.bind (D9 a) fun a=>Sim.bind (b3b i a) fun v=>H3 o.dst v
 case store t a x=>
  cases o.dst with
  | some d=>exact Sim.fail
  | none=>exact Sim.bind (E6 T t) fun i=>Sim.bind (D9 a) fun a=>Sim.bind (D9 x) fun x=>Sim.bind (a6k x) fun cs=>b7a TU t i cs a
 case nilCheck x=>
  refine Sim.bind (D9 x) fun x=>?_
  split
  ·refine Sim.rdB fun b=>Sim.req (fun h=>?_) fun _=>H3 o.dst (.o (.c _))
   rw [Bool.and_eq_true] at h
   exact⟨Nat.eq_of_beq_eq_true h.1,by rw [b4l];exact h.2⟩
  ·exact H3 o.dst (.o (.c (.ep _ _ _)))
  ·refine Sim.rdR fun b=>Sim.req (fun h=>?_) fun _=>H3 o.dst (.o (.c _))
   rw [Bool.and_eq_true] at h
   exact⟨Nat.eq_of_beq_eq_true h.1,by rw [b83];exact h.2⟩
  ·exact H3 o.dst _
  ·exact H3 o.dst (.o (.c (.clo _ _ _)))
  ·exact Sim.fail
 case binOp op t x y t'=>exact Sim.bind (E6 T t) fun i=>Sim.bind (D9 x) fun x=>Sim.bind (D9 y) fun y=>Sim.bind (c1F TU op t i x y) fun v=>H3 o.dst v
 case unOp op t x=>exact Sim.bind (D9 x) fun x=>Sim.bind (c3N op x) fun v=>H3 o.dst v
 case convert src dst x=>exact Sim.bind (E6 T src) fun i=>Sim.bind (E6 T dst) fun j=>Sim.bind (D9 x) fun x=>b3g i j o src x
 case slice t x lo hi m=>
  cases m with
  | some m=>exact Sim.fail
  | none=>
   refine Sim.bind (E6 T t) fun i=>Sim.bind (D9 x) fun x=>Sim.bind (b1L lo) fun l=>Sim.bind (b1L hi) fun h=>?_
   simp only [id]
   cases i.k <;> try exact Sim.fail
   case slice e=>
    refine Sim.bind (E6 T e) fun ie=>?_
    cases TU e with
    | none=>exact Sim.fail
    | some u=>
     refine Sim.chk fun hu=>?_
     have e2:=Nat.eq_of_beq_eq_true hu
     split
     ·refine Sim.bind (P2 o.dst) fun d=>?_
      simp only [id]
      cases i.cut && l.isNone with
      | true=>exact c1J d ie.size u e2 h _
      | false=>exact b7d d ie.size u e2 l h _
     ·exact Sim.fail
   case str=>exact Sim.bind (b4A l h x) fun v=>H3 o.dst v
   case arr n e=>
    refine Sim.bind (E6 T e) fun ie=>?_
    simp only [id]
    cases TU e with
    | none=>exact Sim.fail
    | some u=>exact b4t o.dst u n ie l h x
 case fieldAddr t x f=>
  refine Sim.bind (E6 T t) fun i=>?_
  simp only [id]
  cases i.k <;> try exact Sim.fail
  case struct fs=>exact Sim.bind (P2 _) fun p=>Sim.bind (D9 x) fun x=>Sim.bind (b7b p.1 x) fun v=>H3 o.dst v
 case indexAddr t x k=>
  refine Sim.bind (E6 T t) fun i=>Sim.bind (D9 x) fun x=>Sim.bind (D9 k) fun k=>Sim.bind (a6j k) fun k=>?_
  simp only [id]
  cases i.k <;> try exact Sim.fail
  case slice e=>exact Sim.bind (E6 T e) fun ie=>Sim.bind (b7c ie.size k x) fun v=>H3 o.dst v
  case arr n e=>exact Sim.bind (E6 T e) fun ie=>Sim.bind (b4n _ ie.size k x) fun v=>H3 o.dst v
 case index t x k=>
  refine Sim.bind (E6 T t) fun i=>Sim.bind (D9 x) fun x=>Sim.bind (D9 k) fun k=>Sim.bind (a6j k) fun k=>?_
  simp only [id]
  cases i.k <;> try exact Sim.fail
  case str=>exact Sim.bind (b4w k x) fun v=>H3 o.dst v
  case arr n e=>
   refine Sim.bind (E6 T e) fun ie=>?_
   simp only [id]
   cases TU e with
   | none=>exact Sim.fail
   | some u=>exact Sim.bind (b4p u n ie k x) fun v=>H3 o.dst v
 case field t x f=>
  refine Sim.bind (E6 T t) fun i=>?_
  simp only [id]
  cases i.k <;> try exact Sim.fail
  case struct fs=>exact Sim.bind (P2 _) fun p=>Sim.bind (P2 _) fun ft=>Sim.bind (E6 T ft) fun ie=>Sim.bind (D9 x) fun x=>Sim.bind (b4r p.1 ie x) fun v=>H3 o.dst v
 case extract x k=>exact Sim.bind (D9 x) fun x=>Sim.bind (b9g k x) fun v=>H3 o.dst v
 case range t x=>exact Sim.bind (E6 T t) fun i=>Sim.bind (P2 o.dst) fun d=>Sim.bind (D9 x) fun x=>b7i i.k d x
 case next x b=>
  cases b with
  | true=>exact Sim.bind (P2 o.dst) fun d=>Sim.bind (D9 x) fun x=>b9f d x
  | false=>exact Sim.fail
 case makeFunc fn fs cs=>
  refine Sim.bind (P2 o.dst) fun d=>?_
  split
  ·rename_i f h1 h2
   rw [h1,h2];exact Sim.ret rfl
  ·rename_i f k h1 h2
   rw [h1,h2];exact Sim.bind (D9 _) fun v=>b85 d _ _ v
  ·exact Sim.fail
 case makeInterface t x=>
  refine Sim.bind (E6 T t) fun i=>Sim.bind (P2 o.dst) fun d=>Sim.bind (D9 x) fun x=>?_
  split
  ·rename_i c
   cases TU t with
   | none=>exact Sim.fail
   | some u=>exact Sim.req (fun h=>h) fun _=>c1N t u d c
  ·exact Sim.fail
 case typeAssert x xt t b=>
  cases b with
  | true=>exact Sim.bind (E6 T t) fun i=>Sim.bind (D9 x) fun x=>Sim.bind (b4G i t x) fun v=>H3 o.dst v
  | false=>exact Sim.fail
 case makeSlice t l c=>
  refine Sim.bind (E6 T t) fun i=>Sim.bind (P2 o.dst) fun d=>Sim.bind (D9 l) fun l=>Sim.bind (a6j l) fun l=>Sim.bind (D9 c) fun c=>Sim.bind (a6j c) fun c=>?_
  simp only [id]
  cases i.k <;> try exact Sim.fail
  case slice e=>
   refine Sim.bind (E6 T e) fun ie=>?_
   cases TU e with
   | none=>exact Sim.fail
   | some u=>
    refine Sim.chk fun h=>Sim.req (fun h0=>?_) fun _=>?_
    ·simp only [Bool.and_eq_true] at h
     have h1:=of_decide_eq_true h.1.1
     have h2:=of_decide_eq_true h0
     exact⟨h1.1,h2.1,h2.2.1,h2.2.2.1,h2.2.2.2,h1.2⟩
    ·simp only [Bool.and_eq_true] at h
     have e2:=Nat.eq_of_beq_eq_true h.1.2
     have e3:=a6n h.2
     refine Sim.rdR fun r=>Sim.ret ?_
     simp only [id]
     rw [<-e2,<-e3,a8I u,<-List.map_replicate]
     rfl
 case makeMap t r=>
  refine Sim.bind (E6 T t) fun i=>Sim.bind (P2 o.dst) fun d=>Sim.bind (b1L r) fun _=>?_
  simp only [id]
  cases i.k <;> try exact Sim.fail
  case map kt vt=>
   refine Sim.bind (E6 T kt) fun ik=>Sim.bind (E6 T vt) fun iv=>?_
   cases TU kt with
   | none=>exact Sim.fail
   | some K=>
    cases TU vt with
    | none=>exact Sim.fail
    | some V=>
     refine Sim.chk fun h=>?_
     rw [Bool.and_eq_true] at h
     refine Sim.rdR fun r=>Sim.ret ?_
     simp only [id]
     rw [<-Nat.eq_of_beq_eq_true h.2,<-b1S h.1]
     rfl
 case lookup t m k ok=>
  refine Sim.bind (E6 T t) fun i=>Sim.bind (D9 m) fun m=>Sim.bind (D9 k) fun k=>?_
  simp only [id]
  cases i.k <;> try exact Sim.fail
  case map kt vt=>
   refine Sim.bind (E6 T kt) fun ik=>Sim.bind (E6 T vt) fun iv=>?_
   cases TU kt with
   | none=>exact Sim.fail
   | some K=>
    cases TU vt with
    | none=>exact Sim.fail
    | some V=>
     refine Sim.chk fun h=>?_
     simp only [Bool.and_eq_true] at h
     refine Sim.bind (a9e h.1.1 k) fun k=>Sim.bind (b9a h.1.1 h.1.2 (a6n h.2).symm k m) fun p=>?_
     have e:=Y1 V p.x
     show Sim US _ ((asV iv ((V.enc p.x).map .d)).bind fun x=>one o.dst (okV ok x p.b))
     rw [<-e]
     exact Sim.bind (a5c iv _) fun x=>Sim.bind (c1M ok x p.b) fun v=>H3 o.dst v
 case mapUpdate t m k x=>
  cases o.dst with
  | some d=>exact Sim.fail
  | none=>
   refine Sim.bind (E6 T t) fun i=>Sim.bind (D9 m) fun m=>Sim.bind (D9 k) fun k=>Sim.bind (D9 x) fun x=>?_
   simp only [id]
   cases i.k <;> try exact Sim.fail
   case map kt vt=>
    refine Sim.bind (E6 T kt) fun ik=>Sim.bind (E6 T vt) fun iv=>?_
    cases TU kt with
    | none=>exact Sim.fail
    | some K=>
     cases TU vt with
     | none=>exact Sim.fail
     | some V=>
      refine Sim.chk fun h=>?_
      simp only [Bool.and_eq_true] at h
      exact Sim.bind (a9e h.1.1 k) fun k=>Sim.bind (a9T iv.agg x) fun cs=>b9b h.1.1 h.1.2 (Nat.eq_of_beq_eq_true h.2) k cs m
 case mapEntry t m k=>
  refine Sim.bind (E6 T t) fun i=>Sim.bind (P2 o.dst) fun d=>Sim.bind (D9 m) fun m=>Sim.bind (D9 k) fun k=>?_
  simp only [id]
  cases i.k <;> try exact Sim.fail
  case map kt vt=>
   refine Sim.bind (E6 T kt) fun ik=>Sim.bind (E6 T vt) fun iv=>?_
   cases TU kt with
   | none=>exact Sim.fail
   | some K=>
    cases TU vt with
    | none=>exact Sim.fail
    | some V=>
     refine Sim.chk fun h=>?_
     simp only [Bool.and_eq_true] at h
     exact Sim.bind (a9e h.1.1.1 k) fun k=>b9i h.1.1.1 h.1.1.2 (Nat.eq_of_beq_eq_true h.1.2) (a6n h.2).symm d k m
 case entryStore t m st x=>
  cases o.dst with
  | some d=>exact Sim.fail
  | none=>
   refine Sim.bind (E6 T t) fun i=>Sim.bind (D9 m) fun m=>Sim.bind (D9 st) fun st=>Sim.bind (D9 x) fun x=>?_
   simp only [id]
   cases i.k <;> try exact Sim.fail
   case map kt vt=>
    refine Sim.bind (E6 T kt) fun ik=>Sim.bind (E6 T vt) fun iv=>?_
    cases TU kt with
    | none=>exact Sim.fail
    | some K=>
     cases TU vt with
     | none=>exact Sim.fail
     | some V=>
      refine Sim.chk fun h=>?_
      simp only [Bool.and_eq_true] at h
      exact Sim.bind (a9T iv.agg x) fun cs=>b9j h.1.1 h.1.2 (Nat.eq_of_beq_eq_true h.2) cs m st
 case call c=>exact hc o c ho
end
end Go.Proofs.YtacnfjjkhpkloaaGreat.Am
