/- Texts laid together: AmGt, AmDefs, AmRel, AmEqual, AmQ, AmRun, AmOk, AmMem, AmOps, AmOps2, AmOps3, AmOps4, AmOps5, AmStr, AmMaps, AmKey, AmMaps2, AmMaps3, AmMaps4, AmMaps5, AmClo. No conditions. -/
import Derived.Test.YtjbgdpjgfjnkbaaGreatDoorAL
import Derived.WalkKit
import Derived.Lib.DecodeN
import Derived.WalkSpells
import Derived.Lib.Hide
import Derived.Orders
import Derived.Maps.AppendAt
import Derived.Deep.AppendLies
import Derived.ChangeKeysEq
import Derived.DeepKeys
import Derived.Laws.BytesArg
import Derived.Laws.BytesString
import Derived.Laws.Tables
import Derived.Great.BuildSlice
import Derived.Lib.ConvBytes
import Derived.Laws.MakeOwn
import Derived.MapKept
import Derived.WideKeyArr
namespace Go.Proofs.YtjbgdpjgfjnkbaaGreatDoor.Am
open Go
def GT:Nat->Nat->Option Value
 |2,j=>if j<256 then some (.int .u8 (Lib.firstT j))else none
 |3,j=>if j<32 then some (.int .u8 (if j%2=0 then Lib.accLo (j / 2)else Lib.accHi (j / 2)))else none
 |_,_=>none
inductive DV where
 |v (x:Value)
 |sl (es:List (List DV))
 |it (t:TypeId) (x:DV)
 |clo (f:FuncId) (cs:List DV)
inductive AC where
 |d (x:DV)
 |nil
 |row (id ver:Nat)
 |ptr (id ver off:Nat)
 |eptr (cs:List DV)
 |rptr (id ver i off sz:Nat)
 |junk
inductive AV where
 |c (x:AC)
 |agg (xs:List AC)
 |tup (xs:List AV)
 |clo (f id ver:Nat)
 |nx (b:Bool) (x y:AC)
 |ent (tup:Bool) (id pv:Nat) (k:Value)
 |rtl (id ver i z:Nat)
 |any
structure GV where
 g:Bool
 x:AV
structure Row where
 es:List (List DV)
 sz:Nat
 e:TypeId
 fr:Bool
structure BS where
 ver:Nat
 c:Option (List AC)
structure RS where
 ver:Nat
 c:Option Row
structure St where
 n:Nat
 t:Nat->GV
 b:Nat->BS
 r:Nat->RS
def upd{α:Type}(f:Nat->α) (k:Nat) (x:α):Nat->α:=λj=>if j=k then x else f j
def St.setT(s:St) (k:Nat) (x:GV):St:=⟨s.n,upd s.t k x,s.b,s.r⟩
def St.setB(s:St) (k:Nat) (x:BS):St:=⟨s.n,s.t,upd s.b k x,s.r⟩
def St.setR(s:St) (k:Nat) (x:RS):St:=⟨s.n,s.t,s.b,upd s.r k x⟩
inductive Upd where
 |t (k:Nat) (x:GV)
 |b (k:Nat) (x:BS)
 |r (k:Nat) (x:RS)
def St.app1(s:St):Upd->St
 |.t k x=>s.setT k x
 |.b k x=>s.setB k x
 |.r k x=>s.setR k x
def St.app(s:St):List Upd->St
 |[]=>s
 |u::us=>(s.app1 u).app us
inductive Q (α:Type) where
 |ret (a:α)
 |rdT (k:Nat) (f:GV->Q α)
 |rdB (k:Nat) (f:BS->Q α)
 |rdR (k:Nat) (f:RS->Q α)
 |req (p:Prop) (q:Q α)
 |fail
def Q.bind{α β:Type}:Q α->(α->Q β)->Q β
 |.ret a,f=>f a
 |.rdT k g,f=>.rdT k λx=>(g x).bind f
 |.rdB k g,f=>.rdB k λx=>(g x).bind f
 |.rdR k g,f=>.rdR k λx=>(g x).bind f
 |.req p q,f=>.req p (q.bind f)
 |.fail,_=>.fail
def Q.wp{α:Type}:Q α->St->(α->Prop)->Prop
 |.ret a,_,K=>K a
 |.rdT k f,s,K=>(f (s.t k)).wp s K
 |.rdB k f,s,K=>(f (s.b k)).wp s K
 |.rdR k f,s,K=>(f (s.r k)).wp s K
 |.req p q,s,K=>p/\q.wp s K
 |.fail,_,_=>False
theorem Q.wp_bind{α β:Type}(q:Q α) (f:α->Q β) (s:St) (K:β->Prop):(q.bind f).wp s K↔q.wp s λa=>(f a).wp s K:=by
 induction q with
 |ret a=>rfl
 |rdT k g ih=>exact ih _
 |rdB k g ih=>exact ih _
 |rdR k g ih=>exact ih _
 |req p q ih=>exact and_congr Iff.rfl ih
 |fail=>rfl
def Q.den{α:Type}:Q α->St->Option α
 |.ret a,_=>some a
 |.rdT k f,s=>(f (s.t k)).den s
 |.rdB k f,s=>(f (s.b k)).den s
 |.rdR k f,s=>(f (s.r k)).den s
 |.req _ q,s=>q.den s
 |.fail,_=>none
inductive aQ where
 |t (k:Nat)
 |b (k:Nat)
 |r (k:Nat)
 deriving DecidableEq
def Q.reads{α:Type}:Q α->St->List aQ
 |.ret _,_=>[]
 |.rdT k f,s=>.t k::(f (s.t k)).reads s
 |.rdB k f,s=>.b k::(f (s.b k)).reads s
 |.rdR k f,s=>.r k::(f (s.r k)).reads s
 |.req _ q,s=>q.reads s
 |.fail,_=>[]
def aQ.same(s s':St):aQ->Prop
 |.t k=>s.t k=s'.t k
 |.b k=>s.b k=s'.b k
 |.r k=>s.r k=s'.r k
theorem Q.wp_same{α:Type}{q:Q α}{s s':St}{K:α->Prop}(h:q.wp s K) (hs:∀c∈q.reads s,c.same s s'):q.wp s' K:=by
 induction q with
 |ret a=>exact h
 |rdT k g ih=>
  have e:s.t k=s'.t k:=hs (.t k) (by simp[Q.reads]);simp only[Q.wp]at h⊢;rw[<-e];exact ih _ h (λc hc=>hs c (by simp[Q.reads,hc]))
 |rdB k g ih=>
  have e:s.b k=s'.b k:=hs (.b k) (by simp[Q.reads]);simp only[Q.wp]at h⊢;rw[<-e];exact ih _ h (λc hc=>hs c (by simp[Q.reads,hc]))
 |rdR k g ih=>
  have e:s.r k=s'.r k:=hs (.r k) (by simp[Q.reads]);simp only[Q.wp]at h⊢;rw[<-e];exact ih _ h (λc hc=>hs c (by simp[Q.reads,hc]))
 |req p q ih=>exact⟨h.1,ih h.2 hs⟩
 |fail=>exact h
mutual
def DVr(I:Nat->Nat->Prop) (w:World):DV->Value->Prop
 |.v y,x=>x=y/\y.oneCell'=true
 |.it t d,x=>∃y,x= .iface t y/\DVr I w d y
 |.clo f cs,x=>∃ad xs,x= .func (.func f) #[] #[.pointer (some ad)]/\bo I w cs xs/\∀j u,xs[j]?=some u->w.cell? (ad.add j)=some u/\I ad.block (ad.off+j)
 |.sl es,x=>∃A c z xs,x= .slice A es.length c/\es.length<=c/\c<=maxLen/\0<z/\(∀e∈es,e.length=z)/\
   (0<es.length->∃ad,A=some ad/\∀j u,xs[j]?=some u->w.cell? (ad.add j)=some u/\I ad.block (ad.off+j))/\V2 I w es xs
def bo(I:Nat->Nat->Prop) (w:World):List DV->List Value->Prop
 |[],xs=>xs=[]
 |d::ds,xs=>∃x r,xs=x::r/\DVr I w d x/\bo I w ds r
def V2(I:Nat->Nat->Prop) (w:World):List (List DV)->List Value->Prop
 |[],xs=>xs=[]
 |e::es,xs=>∃c r,xs=c++r/\bo I w e c/\V2 I w es r
end
def pF(I:Nat->Nat->Prop) (w w':World):Prop:=∀b o,I b o->w'.cell? ⟨b,o,none⟩=w.cell? ⟨b,o,none⟩
def Wi(I:Nat->Nat->Prop) (w:World):Prop:=∀g j v,GT g j=some v->w.cell? ⟨g,j,none⟩=some v/\I g j
theorem Wi.mono{I I':Nat->Nat->Prop}{w w':World}(h:Wi I w) (hi:∀b o,I b o->I' b o) (hk:pF I w w'):Wi I' w':=λg j v e=>by
 obtain⟨h1,h2⟩:=h g j v e;exact⟨(hk g j h2).trans h1,hi g j h2⟩
theorem pF.refl(I:Nat->Nat->Prop) (w:World):pF I w w:=λ_ _ _=>rfl
theorem NP{w:World}{a:Addr}{u:Value}(h:w.cell? a=some u):a=⟨a.block,a.off,none⟩:=by
 obtain⟨b,o,s⟩:=a;cases s with
 |none=>rfl
 |some k=>simp[World.cell?]at h;split at h <;> simp_all
theorem du(a:Addr) (j:Nat) (hs:a.spot=none):a.add j=⟨a.block,a.off+j,none⟩:=by
 obtain⟨b,o,s⟩:=a;simp only at hs;subst hs;unfold Addr.add;split <;> simp_all
theorem nz(a:Addr) (n:Nat):(a.add n).block=a.block:=by unfold Addr.add;split <;> rfl
theorem xm(a:Addr) (n:Nat):(a.add n).off=a.off+n:=by unfold Addr.add;split <;> simp_all
theorem add_add(a:Addr) (i j:Nat):(a.add i).add j=a.add (i+j):=by
 unfold Addr.add;by_cases hi:i=0 <;> by_cases hj:j=0 <;> simp[hi,hj,a6D]
theorem add_zero(a:Addr):a.add 0=a:=by simp[Addr.add]
theorem pF.at_{I:Nat->Nat->Prop}{w w':World}(h:pF I w w'){a:Addr}{u:Value}(hc:w.cell? a=some u) (hi:I a.block a.off):w'.cell? a=some u:=by
 have e:=NP hc;rw[e]at hc⊢;rw[h _ _ hi];exact hc
section
variable {I I':Nat->Nat->Prop}{w w':World}
mutual
theorem DVr.mono(hi:∀b o,I b o->I' b o) (hk:pF I w w'):∀(d:DV){x:Value},DVr I w d x->DVr I' w' d x
 |.v _,_,h=>h
 |.it _ d,_,h=>by
  simp only[DVr]at h⊢;obtain⟨y,h1,h2⟩:=h;exact⟨y,h1,DVr.mono hi hk d h2⟩
 |.clo _ cs,_,h=>by
  simp only[DVr]at h⊢;obtain⟨ad,xs,h1,h2,h3⟩:=h;refine⟨ad,xs,h1,bo.mono hi hk cs h2,λj u hu=>?_⟩;obtain⟨k1,k2⟩:=h3 j u hu;exact⟨hk.at_ k1 (by rw[nz,xm];exact k2),hi _ _ k2⟩
 |.sl es,_,h=>by
  simp only[DVr]at h⊢;obtain⟨A,c,z,xs,h1,h2,h3,h4,h5,h6,h7⟩:=h;refine⟨A,c,z,xs,h1,h2,h3,h4,h5,λh0=>?_,V2.mono hi hk es h7⟩;obtain⟨ad,e,hc⟩:=h6 h0;refine⟨ad,e,λj u hu=>?_⟩;obtain⟨k1,k2⟩:=hc j u hu;exact⟨hk.at_ k1 (by rw[nz,xm];exact k2),hi _ _ k2⟩
theorem bo.mono(hi:∀b o,I b o->I' b o) (hk:pF I w w'):∀(ds:List DV){xs:List Value},bo I w ds xs->bo I' w' ds xs
 |[],_,h=>h
 |d::ds,_,h=>by
  simp only[bo]at h⊢;obtain⟨x,r,h1,h2,h3⟩:=h;exact⟨x,r,h1,DVr.mono hi hk d h2,bo.mono hi hk ds h3⟩
theorem V2.mono(hi:∀b o,I b o->I' b o) (hk:pF I w w'):∀(es:List (List DV)){xs:List Value},V2 I w es xs->V2 I' w' es xs
 |[],_,h=>h
 |e::es,_,h=>by
  simp only[V2]at h⊢;obtain⟨c,r,h1,h2,h3⟩:=h;exact⟨c,r,h1,bo.mono hi hk e h2,V2.mono hi hk es h3⟩
end
theorem bo.len:∀{ds:List DV}{xs:List Value},bo I w ds xs->xs.length=ds.length
 |[],xs,h=>by simp only[bo]at h;subst h;rfl
 |d::ds,xs,h=>by
  simp only[bo]at h;obtain⟨x,r,rfl,_,h3⟩:=h;simp[bo.len h3]
theorem bo.app:∀{ds es:List DV}{xs ys:List Value},bo I w ds xs->bo I w es ys->bo I w (ds++es) (xs++ys)
 |[],es,xs,ys,h,k=>by simp only[bo]at h;subst h;exact k
 |d::ds,es,xs,ys,h,k=>by
  simp only[bo]at h;obtain⟨x,r,rfl,h2,h3⟩:=h;simp only[a6l,bo];exact⟨x,r++ys,rfl,h2,bo.app h3 k⟩
theorem bo.drop:∀{ds:List DV}{xs:List Value}(n:Nat),bo I w ds xs->bo I w (ds.drop n) (xs.drop n)
 |_,_,0,h=>by simpa using h
 |[],xs,n+1,h=>by simp only[bo]at h;subst h;simp[bo]
 |d::ds,xs,n+1,h=>by
  simp only[bo]at h;obtain⟨x,r,rfl,h2,h3⟩:=h;simpa using bo.drop n h3
theorem bo.take:∀{ds:List DV}{xs:List Value}(n:Nat),bo I w ds xs->bo I w (ds.take n) (xs.take n)
 |_,_,0,h=>by simp[bo]
 |[],xs,n+1,h=>by simp only[bo]at h;subst h;simp[bo]
 |d::ds,xs,n+1,h=>by
  simp only[bo]at h;obtain⟨x,r,rfl,h2,h3⟩:=h;simp only[a6N,bo];exact⟨x,r.take n,rfl,h2,bo.take n h3⟩
theorem V2.len{z:Nat}:∀{es:List (List DV)}{xs:List Value},V2 I w es xs->(∀e∈es,e.length=z)->xs.length=es.length*z
 |[],xs,h,_=>by simp only[V2]at h;subst h;simp
 |e::es,xs,h,hu=>by
  simp only[V2]at h;obtain⟨c,r,rfl,h2,h3⟩:=h;rw[a5K,h2.len,hu e (by simp),V2.len h3 (λe he=>hu e (by simp[he])),a54,a6r,a6I]
theorem V2.app:∀{es fs:List (List DV)}{xs ys:List Value},V2 I w es xs->V2 I w fs ys->V2 I w (es++fs) (xs++ys)
 |[],fs,xs,ys,h,k=>by simp only[V2]at h;subst h;exact k
 |e::es,fs,xs,ys,h,k=>by
  simp only[V2]at h;obtain⟨c,r,rfl,h2,h3⟩:=h;simp only[a6l,V2];exact⟨c,r++ys,by simp,h2,V2.app h3 k⟩
theorem V2.get{z:Nat}:∀{es:List (List DV)}{xs:List Value},V2 I w es xs->(∀e∈es,e.length=z)->∀{i:Nat}{e:List DV},es[i]?=some e->bo I w e ((xs.drop (i*z)).take z)
 |[],_,_,_,i,e,he=>by simp at he
 |e0::es,xs,h,hu,i,e,he=>by
  simp only[V2]at h;obtain⟨c,r,rfl,h2,h3⟩:=h;have hl:c.length=z:=by rw[h2.len,hu e0 (by simp)]
  cases i with
  |zero=>
   simp at he;subst he;have e1:(c++r).take z=c:=by rw[<-hl];exact a6H
   rw[a7A,a7T,e1];exact h2
  |succ i=>
   have:=V2.get h3 (λe he=>hu e (by simp[he])) (i:=i) (by simpa using he);rw[a6r,a6I,<-hl,<-a6A,a6s];rw[<-hl]at this;exact this
theorem V2.drop{z:Nat}:∀{es:List (List DV)}{xs:List Value},V2 I w es xs->(∀e∈es,e.length=z)->∀(i:Nat),V2 I w (es.drop i) (xs.drop (i*z))
 |es,xs,h,_,0=>by simpa using h
 |[],xs,h,_,i+1=>by simp only[V2]at h;subst h;simp[V2]
 |e0::es,xs,h,hu,i+1=>by
  simp only[V2]at h;obtain⟨c,r,rfl,h2,h3⟩:=h;have hl:c.length=z:=by rw[h2.len,hu e0 (by simp)]
  have:=V2.drop h3 (λe he=>hu e (by simp[he])) i;rw[List.drop_succ_cons,a6r,a6I,<-hl,<-a6A,a6s];rw[<-hl]at this;exact this
theorem V2.take{z:Nat}:∀{es:List (List DV)}{xs:List Value},V2 I w es xs->(∀e∈es,e.length=z)->∀(i:Nat),V2 I w (es.take i) (xs.take (i*z))
 |es,xs,h,_,0=>by simp[V2]
 |[],xs,h,_,i+1=>by simp only[V2]at h;subst h;simp[V2]
 |e0::es,xs,h,hu,i+1=>by
  simp only[V2]at h;obtain⟨c,r,rfl,h2,h3⟩:=h;have hl:c.length=z:=by rw[h2.len,hu e0 (by simp)]
  have:=V2.take h3 (λe he=>hu e (by simp[he])) i;simp only[a6N,V2];refine⟨c,r.take (i*z),?_,h2,this⟩;rw[a6r,a7o,a6u (by omega)];congr 2;omega
theorem V2.set{z:Nat}:∀{es:List (List DV)}{xs:List Value},V2 I w es xs->(∀e∈es,e.length=z)->∀(i:Nat){e:List DV}{c:List Value},i<es.length->bo I w e c->V2 I w (es.set i e) (xs.take (i*z)++c++xs.drop ((i+1)*z))
 |[],xs,h,_,i,e,c,hi,_=>by simp at hi
 |e0::es,xs,h,hu,i,e,c',hi,hc=>by
  simp only[V2]at h;obtain⟨c,r,rfl,h2,h3⟩:=h;have hl:c.length=z:=by rw[h2.len,hu e0 (by simp)]
  cases i with
  |zero=>
   simp only[a7z,V2];refine⟨c',r,?_,hc,h3⟩;have e1:(c++r).drop z=r:=by rw[<-hl];exact a6s
   simp[e1]
  |succ i=>
   have:=V2.set h3 (λe he=>hu e (by simp[he])) i (by simpa using hi) hc;simp only[a7K,V2];refine⟨c,_,?_,h2,this⟩;have e1:(c++r).take ((i+1)*z)=c++r.take (i*z):=by
    rw[a6r,a7o,a6u (by omega)];congr 2;omega
   have e2:(c++r).drop ((i+1+1)*z)=r.drop ((i+1)*z):=by
    rw[a6r (i+1),a6I,<-hl,<-a6A,a6s]
   rw[e1,e2];simp
end
structure Gh where
 I:Nat->Nat->Prop
 bx:Nat->Nat
 rw:Nat->Value
 st:Nat->Value×Int
 ex:Nat->List Nat
def pbx(id:Nat):Nat:=id+50000000
def LR(f:FuncId) (b:Nat):Value:=.func (.func f) #[] #[.pointer (some ⟨b,0,none⟩)]
def ACr(G:Gh) (s:St) (w:World):AC->Value->Prop
 |.d x,v=>DVr G.I w x v
 |.nil,v=>v= .slice none 0 0
 |.row id ver,v=>v.oneCell'=true/\ver<=(s.r id).ver/\(ver=(s.r id).ver->(s.r id).c.isSome=true->v=G.rw id)
 |.ptr id ver off,v=>v.oneCell'=true/\ver<=(s.b id).ver/\(ver=(s.b id).ver->(s.b id).c.isSome=true->v= .pointer (some ⟨G.bx id,off,none⟩))
 |.eptr cs,v=>∃ad xs,v= .pointer (some ad)/\bo G.I w cs xs/\∀j u,xs[j]?=some u->w.cell? (ad.add j)=some u/\G.I ad.block (ad.off+j)
 |.rptr id ver i off sz,v=>v.oneCell'=true/\ver<=(s.r id).ver/\(ver=(s.r id).ver->(s.r id).c.isSome=true->∃ad n c,G.rw id= .slice (some ad) n c/\v= .pointer (some (ad.add (i*sz+off))))
 |.junk,v=>v.oneCell'=true
def ACs(G:Gh) (s:St) (w:World):List AC->List Value->Prop
 |[],xs=>xs=[]
 |d::ds,xs=>∃x r,xs=x::r/\ACr G s w d x/\ACs G s w ds r
mutual
def AVr(G:Gh) (s:St) (w:World):AV->Value->Prop
 |.c x,v=>ACr G s w x v
 |.agg xs,v=>∃vs,v= .agg vs/\ACs G s w xs vs.toList
 |.tup xs,v=>∃vs,v= .tuple vs/\AVs G s w xs vs.toList
 |.clo f id ver,v=>ver<=(s.b id).ver/\(ver=(s.b id).ver->(s.b id).c.isSome=true->v=LR f (G.bx id))
 |.ent tup id pv k,v=>pv<=(s.b (pbx id)).ver/\(pv=(s.b (pbx id)).ver->k=(G.st id).1/\(tup=true->∃x,v= .tuple #[x,.int .i64 (G.st id).2])/\(tup=false->v= .int .i64 (G.st id).2))
 |.rtl id ver i z,v=>ver<=(s.r id).ver/\(ver=(s.r id).ver->(s.r id).c.isSome=true->∃A n c,G.rw id= .slice A n c/\i<=n/\v= .slice (if c=i then A else A.map (·.add (i*z))) (n-i) (c-i))
 |.nx b x y,v=>(b=true->∃vx vy,v= .tuple #[.bool true,vx,vy]/\ACr G s w x vx/\ACr G s w y vy)/\(b=false->v= .tuple #[.bool false])
 |.any,_=>True
def AVs(G:Gh) (s:St) (w:World):List AV->List Value->Prop
 |[],xs=>xs=[]
 |d::ds,xs=>∃x r,xs=x::r/\AVr G s w d x/\AVs G s w ds r
end
def GVr(G:Gh) (s:St) (w:World) (x:GV) (v:Value):Prop:=(x.g=true->AVr G s w x.x v)/\(x.g=false->v=undef)
theorem DVr.one{I:Nat->Nat->Prop}{w:World}:∀{d:DV}{x:Value},DVr I w d x->x.oneCell'=true
 |.v _,_,h=>by simp only[DVr]at h;rw[h.1];exact h.2
 |.it _ _,_,h=>by simp only[DVr]at h;obtain⟨y,rfl,_⟩:=h;rfl
 |.clo _ _,_,h=>by simp only[DVr]at h;obtain⟨ad,xs,rfl,_⟩:=h;rfl
 |.sl _,_,h=>by simp only[DVr]at h;obtain⟨A,c,z,xs,rfl,_⟩:=h;rfl
section
variable {G G':Gh}{s s':St}{w w':World}
theorem ACr.one{x:AC}{v:Value}(h:ACr G s w x v):v.oneCell'=true:=by
 cases x <;> simp only[ACr]at h
 case d=>exact DVr.one h
 case nil=>rw[h];rfl
 case row=>exact h.1
 case ptr=>exact h.1
 case eptr=>obtain⟨ad,xs,rfl,_⟩:=h;rfl
 case rptr=>exact h.1
 case junk=>exact h
structure Ext (G:Gh) (s:St) (w:World) (G':Gh) (s':St) (w':World):Prop where
 I:∀b o,G.I b o->G'.I b o
 keep:pF G.I w w'
 b:∀id,(s.b id).ver<=(s'.b id).ver/\((s.b id).ver=(s'.b id).ver->(s'.b id).c.isSome=true->(s.b id).c.isSome=true/\G'.bx id=G.bx id)
 r:∀id,(s.r id).ver<=(s'.r id).ver/\((s.r id).ver=(s'.r id).ver->(s'.r id).c.isSome=true->(s.r id).c.isSome=true/\G'.rw id=G.rw id)
 st:∀id,(s.b (pbx id)).ver=(s'.b (pbx id)).ver->G'.st id=G.st id
theorem Ext.refl(G:Gh) (s:St) (w:World):Ext G s w G s w:=⟨λ_ _ h=>h,pF.refl _ _,λ_=>⟨a56 _,λ_ h=>⟨h,rfl⟩⟩,λ_=>⟨a56 _,λ_ h=>⟨h,rfl⟩⟩,λ_ _=>rfl⟩
theorem Ext.ac(E:Ext G s w G' s' w'){x:AC}{v:Value}(h:ACr G s w x v):ACr G' s' w' x v:=by
 cases x <;> simp only[ACr]at h⊢
 case d x=>exact DVr.mono E.I E.keep x h
 case nil=>exact h
 case row id ver=>
  obtain⟨h0,h1,h2⟩:=h;refine⟨h0,a6c h1 (E.r id).1,λe hs=>?_⟩;have e1:(s.r id).ver=(s'.r id).ver:=by have:=(E.r id).1;omega
  obtain⟨k1,k2⟩:=(E.r id).2 e1 hs;rw[k2];exact h2 (by omega) k1
 case ptr id ver off=>
  obtain⟨h0,h1,h2⟩:=h;refine⟨h0,a6c h1 (E.b id).1,λe hs=>?_⟩;have e1:(s.b id).ver=(s'.b id).ver:=by have:=(E.b id).1;omega
  obtain⟨k1,k2⟩:=(E.b id).2 e1 hs;rw[k2];exact h2 (by omega) k1
 case eptr cs=>
  obtain⟨ad,xs,h1,h2,h3⟩:=h;refine⟨ad,xs,h1,bo.mono E.I E.keep _ h2,λj u hu=>?_⟩;obtain⟨k1,k2⟩:=h3 j u hu;exact⟨E.keep.at_ k1 (by rw[nz,xm];exact k2),E.I _ _ k2⟩
 case rptr id ver i off sz=>
  obtain⟨h0,h1,h2⟩:=h;refine⟨h0,a6c h1 (E.r id).1,λe hs=>?_⟩;have e1:(s.r id).ver=(s'.r id).ver:=by have:=(E.r id).1;omega
  obtain⟨k1,k2⟩:=(E.r id).2 e1 hs;rw[k2];exact h2 (by omega) k1
 case junk=>exact h
theorem Ext.acs(E:Ext G s w G' s' w'):∀{xs:List AC}{vs:List Value},ACs G s w xs vs->ACs G' s' w' xs vs
 |[],_,h=>h
 |x::xs,_,h=>by
  simp only[ACs]at h⊢;obtain⟨v,r,h1,h2,h3⟩:=h;exact⟨v,r,h1,E.ac h2,E.acs h3⟩
mutual
theorem Ext.av(E:Ext G s w G' s' w'):∀(x:AV){v:Value},AVr G s w x v->AVr G' s' w' x v
 |.c _,_,h=>by simp only[AVr]at h⊢;exact E.ac h
 |.agg _,_,h=>by simp only[AVr]at h⊢;obtain⟨vs,h1,h2⟩:=h;exact⟨vs,h1,E.acs h2⟩
 |.tup xs,_,h=>by simp only[AVr]at h⊢;obtain⟨vs,h1,h2⟩:=h;exact⟨vs,h1,Ext.avs E xs h2⟩
 |.clo f id ver,_,h=>by
  simp only[AVr]at h⊢;obtain⟨h1,h2⟩:=h;refine⟨a6c h1 (E.b id).1,λe hs=>?_⟩;have e1:(s.b id).ver=(s'.b id).ver:=by have:=(E.b id).1;omega
  obtain⟨k1,k2⟩:=(E.b id).2 e1 hs;rw[k2];exact h2 (by omega) k1
 |.ent tup id pv k,_,h=>by
  simp only[AVr]at h⊢;obtain⟨h1,h2⟩:=h;refine⟨a6c h1 (E.b (pbx id)).1,λe=>?_⟩;have e1:(s.b (pbx id)).ver=(s'.b (pbx id)).ver:=by have:=(E.b (pbx id)).1;omega
  rw[E.st id e1];exact h2 (by omega)
 |.rtl id ver i z,_,h=>by
  simp only[AVr]at h⊢;obtain⟨h1,h2⟩:=h;refine⟨a6c h1 (E.r id).1,λe hs=>?_⟩;have e1:(s.r id).ver=(s'.r id).ver:=by have:=(E.r id).1;omega
  obtain⟨k1,k2⟩:=(E.r id).2 e1 hs;rw[k2];exact h2 (by omega) k1
 |.nx b x y,_,h=>by
  simp only[AVr]at h⊢;refine⟨λe=>?_,h.2⟩;obtain⟨vx,vy,h1,h2,h3⟩:=h.1 e;exact⟨vx,vy,h1,E.ac h2,E.ac h3⟩
 |.any,_,_=>by simp only[AVr]
theorem Ext.avs(E:Ext G s w G' s' w'):∀(xs:List AV){vs:List Value},AVs G s w xs vs->AVs G' s' w' xs vs
 |[],_,h=>h
 |x::xs,_,h=>by
  simp only[AVs]at h⊢;obtain⟨v,r,h1,h2,h3⟩:=h;exact⟨v,r,h1,Ext.av E x h2,Ext.avs E xs h3⟩
end
theorem Ext.gv(E:Ext G s w G' s' w'){x:GV}{v:Value}(h:GVr G s w x v):GVr G' s' w' x v:=⟨λe=>E.av _ (h.1 e),h.2⟩
theorem Ext.trans{G1 G2 G3:Gh}{s1 s2 s3:St}{w1 w2 w3:World}(h:Ext G1 s1 w1 G2 s2 w2) (k:Ext G2 s2 w2 G3 s3 w3):Ext G1 s1 w1 G3 s3 w3:=by
 refine⟨λb o h1=>k.I b o (h.I b o h1),λb o h1=>(k.keep b o (h.I b o h1)).trans (h.keep b o h1),λid=>?_,λid=>?_,λid e=>?_⟩
 rotate_right
 ·have a1:=(h.b (pbx id)).1;have a2:=(k.b (pbx id)).1;exact(k.st id (by omega)).trans (h.st id (by omega))
 ·have a1:=h.b id;have a2:=k.b id;refine⟨a6c a1.1 a2.1,λe hs=>?_⟩;obtain⟨b1,b2⟩:=a2.2 (by omega) hs;obtain⟨c1,c2⟩:=a1.2 (by omega) b1;exact⟨c1,b2.trans c2⟩
 ·have a1:=h.r id;have a2:=k.r id;refine⟨a6c a1.1 a2.1,λe hs=>?_⟩;obtain⟨b1,b2⟩:=a2.2 (by omega) hs;obtain⟨c1,c2⟩:=a1.2 (by omega) b1;exact⟨c1,b2.trans c2⟩
theorem Ext.slots(G:Gh) (s:St) (w:World) (n:Nat) (t:Nat->GV):Ext G s w G ⟨n,t,s.b,s.r⟩ w:=⟨λ_ _ h=>h,pF.refl _ _,λ_=>⟨a56 _,λ_ h=>⟨h,rfl⟩⟩,λ_=>⟨a56 _,λ_ h=>⟨h,rfl⟩⟩,λ_ _=>rfl⟩
theorem ACs.len:∀{ds:List AC}{xs:List Value},ACs G s w ds xs->xs.length=ds.length
 |[],xs,h=>by simp only[ACs]at h;subst h;rfl
 |d::ds,xs,h=>by
  simp only[ACs]at h;obtain⟨x,r,rfl,_,h3⟩:=h;simp[ACs.len h3]
theorem ACs.app:∀{ds es:List AC}{xs ys:List Value},ACs G s w ds xs->ACs G s w es ys->ACs G s w (ds++es) (xs++ys)
 |[],es,xs,ys,h,k=>by simp only[ACs]at h;subst h;exact k
 |d::ds,es,xs,ys,h,k=>by
  simp only[ACs]at h;obtain⟨x,r,rfl,h2,h3⟩:=h;simp only[a6l,ACs];exact⟨x,r++ys,rfl,h2,ACs.app h3 k⟩
theorem ACs.drop:∀{ds:List AC}{xs:List Value}(n:Nat),ACs G s w ds xs->ACs G s w (ds.drop n) (xs.drop n)
 |_,_,0,h=>by simpa using h
 |[],xs,n+1,h=>by simp only[ACs]at h;subst h;simp[ACs]
 |d::ds,xs,n+1,h=>by
  simp only[ACs]at h;obtain⟨x,r,rfl,h2,h3⟩:=h;simpa using ACs.drop n h3
theorem ACs.take:∀{ds:List AC}{xs:List Value}(n:Nat),ACs G s w ds xs->ACs G s w (ds.take n) (xs.take n)
 |_,_,0,h=>by simp[ACs]
 |[],xs,n+1,h=>by simp only[ACs]at h;subst h;simp[ACs]
 |d::ds,xs,n+1,h=>by
  simp only[ACs]at h;obtain⟨x,r,rfl,h2,h3⟩:=h;simp only[a6N,ACs];exact⟨x,r.take n,rfl,h2,ACs.take n h3⟩
theorem ACs.one:∀{ds:List AC}{xs:List Value},ACs G s w ds xs->∀u∈xs,u.oneCell'=true
 |[],xs,h,u,hu=>by simp only[ACs]at h;subst h;simp at hu
 |d::ds,xs,h,u,hu=>by
  simp only[ACs]at h;obtain⟨x,r,rfl,h2,h3⟩:=h;rcases List.mem_cons.1 hu with rfl|hu
  ·exact h2.one
  ·exact ACs.one h3 u hu
theorem ACs.of_dv:∀{ds:List DV}{xs:List Value},bo G.I w ds xs->ACs G s w (ds.map .d) xs
 |[],xs,h=>by simp only[bo]at h;subst h;simp[ACs]
 |d::ds,xs,h=>by
  simp only[bo]at h;obtain⟨x,r,rfl,h2,h3⟩:=h;simp only[a55,ACs,ACr];exact⟨x,r,rfl,h2,ACs.of_dv h3⟩
theorem bo.one{I:Nat->Nat->Prop}:∀{ds:List DV}{xs:List Value},bo I w ds xs->∀u∈xs,u.oneCell'=true
 |[],xs,h,u,hu=>by simp only[bo]at h;subst h;simp at hu
 |d::ds,xs,h,u,hu=>by
  simp only[bo]at h;obtain⟨x,r,rfl,h2,h3⟩:=h;rcases List.mem_cons.1 hu with rfl|hu
  ·exact h2.one
  ·exact bo.one h3 u hu
theorem V2.one{I:Nat->Nat->Prop}:∀{es:List (List DV)}{xs:List Value},V2 I w es xs->∀u∈xs,u.oneCell'=true
 |[],xs,h,u,hu=>by simp only[V2]at h;subst h;simp at hu
 |e::es,xs,h,u,hu=>by
  simp only[V2]at h;obtain⟨c,r,rfl,h2,h3⟩:=h;rcases List.mem_append.1 hu with hu|hu
  ·exact h2.one u hu
  ·exact V2.one h3 u hu
end
def obk:Value->Option Nat
 |.slice (some a) _ _=>some a.block
 |.map (some r)=>some r
 |.pointer (some a)=>some a.block
 |_=>none
theorem jJ{w:World}{base:Nat}{e:TypeId}{sz:Nat}{v:Value}{n:Nat}{xs:List Value}(h:w.ownsRow base e sz v n xs):obk v=v.ownBlock:=by
 rcases h.2 with⟨rfl,_⟩|⟨g,cap,cur,rfl,_⟩ <;> rfl
def LS:Nat:=10000000
def qD:Nat:=20000000
def lS(e:Nat):Prop:=LS<=e/\e<qD
instance (e:Nat):Decidable (lS e):=by unfold lS;exact inferInstance
theorem eU{e n:Nat}(h:e<n) (hn:n<=LS:=by decide):¬lS e:=λk=>by have:=k.1;omega
def own(G:Gh) (s:St):Nat⊕Nat->List Nat
 |.inl id=>if(s.b id).c.isSome then [G.bx id]else []
 |.inr id=>match(s.r id).c with
  |some R=>(obk (G.rw id)).toList++(if lS R.e then G.ex id else [])
  |none=>[]
theorem BO{G:Gh}{s:St}{id:Nat}(h:(s.b id).c.isSome=true):G.bx id∈own G s (.inl id):=by simp[own,h]
theorem pg{G:Gh}{s:St}{id g:Nat}{R:Row}(h:(s.r id).c=some R) (hg:obk (G.rw id)=some g):g∈own G s (.inr id):=by simp[own,h,hg]
theorem vY{G:Gh}{s:St}{id g:Nat}{R:Row}(h:(s.r id).c=some R) (he:lS R.e) (hg:g∈G.ex id):g∈own G s (.inr id):=by simp[own,h,he,hg]
theorem CS{G:Gh}{s:St}{id g:Nat}:g∈own G s (.inl id)↔(s.b id).c.isSome=true/\g=G.bx id:=by
 simp only[own];split
 ·rename_i h;simp[h]
 ·rename_i h;simp[h]
theorem sK{G:Gh}{s:St}{id g:Nat}:g∈own G s (.inr id)↔∃R,(s.r id).c=some R/\(obk (G.rw id)=some g\/(lS R.e/\g∈G.ex id)):=by
 simp only[own];cases h:(s.r id).c with
 |none=>simp
 |some R=>
  simp only[a6Z,Option.mem_toList,Option.some.injEq,exists_eq_left'];by_cases he:lS R.e <;> simp[he]
structure Fr (W0:World) (M:Nat->Prop) (w:World):Prop where
 os:w.os=W0.os
 tape:w.tape=W0.tape
 output:w.output=W0.output
 size:W0.heap.size<=w.heap.size
 block:∀k,k<W0.heap.size->¬M k->w.heap[k]?=W0.heap[k]?
def ZP(G:Gh) (s:St) (w:World) (g:Nat) (cs:List AC):Prop:=∃cur ty,w.heap[g]?=some (.cells cur ty (0,0))/\ACs G s w cs cur.toList
def jn:Nat:=4000000
def mKs(e:Nat):Nat:=e / 4%1000000
def mKa(e:Nat):Bool:=decide (e / 2%2=1)
def mVa(e:Nat):Bool:=decide (e%2=1)
def CV(I:Nat->Nat->Prop) (w:World):Bool->List DV->Value->Prop
 |true,ds,x=>∃vs,x= .agg vs/\bo I w ds vs.toList
 |false,ds,x=>∃d,ds=[d]/\DVr I w d x
def zD(l:List UInt8):Value:=.agg (l.map λb=>Value.int .u8 (b.toNat:Int)).toArray
def KV(I:Nat->Nat->Prop) (w:World) (n:Nat):Bool->List DV->Value->Prop
 |true,ds,x=>∃s:ByteArray,ds=[.v (.string s)]/\x=zD s.data.toList/\s.data.toList.length=n
 |false,ds,x=>∃d,ds=[d]/\DVr I w d x
def ME(I:Nat->Nat->Prop) (w:World) (e:Nat) (c:List DV) (m:MapEntry):Prop:=KV I w (mKs e) (mKa e) (c.take 1) m.key/\CV I w (mVa e) (c.drop 1) m.val
def MEs(I:Nat->Nat->Prop) (w:World) (e:Nat):List (List DV)->List MapEntry->Prop
 |[],ms=>ms=[]
 |c::cs,ms=>∃m r,ms=m::r/\ME I w e c m/\MEs I w e cs r
def NQ(ms:List MapEntry) (clock:Nat):Prop:=ms.Pairwise (λa b=>a.born<b.born)/\∀m∈ms,m.born<clock
def a29(I:Nat->Nat->Prop) (w:World) (v:Value) (R:Row):Prop:=∃g entries clock,v= .map (some g)/\w.heap[g]?=some (.map entries clock)/\MEs I w R.e R.es entries.toList/\NQ entries.toList clock
def sw:Nat:=9000000
def kOf:List DV->Value
 |.v x::_=>x
 |_=>undef
def uN:Value->Value->Bool
 |.int _ a,.int _ b=>decide (a=b)
 |.string a,.string b=>decide (a.data.toList=b.data.toList)
 |_,_=>false
def CT(k:Value):List (List DV)->Option Nat
 |[]=>none
 |e::es=>if uN k (kOf e)then some 0 else(CT k es).map (· + 1)
def a2Q(w:World) (v:Value) (k:Value×Int) (R:Row):Prop:=∃(g:Nat) (entries:Array MapEntry) (clock i:Nat) (m:MapEntry),v= .map (some g)/\w.heap[g]?=some (.map entries clock)/\CT k.1 R.es=some i/\entries.toList[i]?=some m/\(m.born:Int)=k.2
def a5b(e:Nat):Prop:=jn<=e/\e≠sw/\¬lS e
def ZQ(w:World) (v:Value) (R:Row):Prop:=∃(g:Nat) (s:ByteArray) (pos:Nat),v= .pointer (some ⟨g,0,none⟩)/\w.heap[g]?=some (.stringIter s pos)/\R.es=[[.v (.string s),.v (.int .i64 (pos:Int))]]
def jK(I:Nat->Nat->Prop) (w:World) (v:Value) (R:Row):Prop:=0<R.sz/\(∀e∈R.es,e.length=R.sz)/\((R.e<jn/\∃xs,w.ownsRow 0 R.e R.sz v R.es.length xs/\V2 I w R.es xs)\/(a5b R.e/\a29 I w v R)\/(R.e=sw/\ZQ w v R)\/(lS R.e/\∃g,v= .map (some g)/\g<w.heap.size))
def SEs(w:World) (tp:TypeId):List (List DV)->List MapEntry->List Nat->Prop
 |[],ms,xs=>ms=[]/\xs=[]
 |c::cs,ms,xs=>∃m r x y k ps vs,ms=m::r/\xs=x::y/\c=[.v (.string k),.sl ps]/\m.key= .string k/\obk m.val=some x/\w.ownsRow 0 tp 2 m.val ps.length vs/\(∀p∈ps,p.length=2)/\V2 (λ_ _=>False) w ps vs/\SEs w tp cs r y
def sL(w:World) (v:Value) (ex:List Nat) (R:Row):Prop:=∃g entries clock,v= .map (some g)/\w.heap[g]?=some (.map entries clock)/\NQ entries.toList clock/\(g::ex).Nodup/\SEs w (R.e-LS) R.es entries.toList ex
theorem jK.sl{I:Nat->Nat->Prop}{w:World}{v:Value}{R:Row}(h:jK I w v R) (he:R.e<jn):0<R.sz/\(∀e∈R.es,e.length=R.sz)/\∃xs,w.ownsRow 0 R.e R.sz v R.es.length xs/\V2 I w R.es xs:=by
 obtain⟨h1,h2,⟨_,h3⟩|⟨h3,_⟩|⟨h3,_⟩|⟨h3,_⟩⟩:=h
 ·exact⟨h1,h2,h3⟩
 ·exact absurd he (Nat.not_lt.2 h3.1)
 ·rw[h3]at he;exact absurd he (by decide)
 ·exact absurd h3 (eU he)
theorem jK.slv{I:Nat->Nat->Prop}{w:World}{v:Value}{R:Row}(h:jK I w v R) (hv:∃A n c,v= .slice A n c):0<R.sz/\(∀e∈R.es,e.length=R.sz)/\∃xs,w.ownsRow 0 R.e R.sz v R.es.length xs/\V2 I w R.es xs:=by
 obtain⟨h1,h2,⟨_,h3⟩|⟨_,g,_,_,h3,_⟩|⟨_,g,_,_,h3,_⟩|⟨_,g,h3,_⟩⟩:=h
 ·exact⟨h1,h2,h3⟩
 ·obtain⟨A,n,c,rfl⟩:=hv;cases h3
 ·obtain⟨A,n,c,rfl⟩:=hv;cases h3
 ·obtain⟨A,n,c,rfl⟩:=hv;cases h3
theorem jK.lte{I:Nat->Nat->Prop}{w:World}{v:Value}{R:Row}(h:jK I w v R) (hv:∃A n c,v= .slice A n c):R.e<jn:=by
 obtain⟨h1,h2,⟨h3,_⟩|⟨_,g,_,_,h3,_⟩|⟨_,g,_,_,h3,_⟩|⟨_,g,h3,_⟩⟩:=h
 ·exact h3
 ·obtain⟨A,n,c,rfl⟩:=hv;cases h3
 ·obtain⟨A,n,c,rfl⟩:=hv;cases h3
 ·obtain⟨A,n,c,rfl⟩:=hv;cases h3
theorem jK.as{I:Nat->Nat->Prop}{w:World}{v:Value}{R R':Row}(h:jK I w v R) (e1:R.es=R'.es) (e2:R.sz=R'.sz) (e3:R.e=R'.e):jK I w v R':=by
 obtain⟨a,b,c,d⟩:=R;obtain⟨a',b',c',d'⟩:=R';simp only at e1 e2 e3;subst e1;subst e2;subst e3;exact h
theorem jK.one{I:Nat->Nat->Prop}{w:World}{v:Value}{R:Row}(h:jK I w v R):v.oneCell'=true:=by
 obtain⟨_,_,⟨_,xs,ho,_⟩|⟨_,g,_,_,rfl,_⟩|⟨_,g,_,_,rfl,_⟩|⟨_,g,rfl,_⟩⟩:=h
 ·rcases ho.2 with⟨rfl,_⟩|⟨g,cap,cur,rfl,_⟩ <;> rfl
 ·rfl
 ·rfl
 ·rfl
theorem jK.lt{I:Nat->Nat->Prop}{w:World}{v:Value}{R:Row}(h:jK I w v R){b:Nat}(hb:obk v=some b):b<w.heap.size:=by
 obtain⟨_,_,⟨_,xs,ho,_⟩|⟨_,g,_,_,rfl,hg,_⟩|⟨_,g,_,_,rfl,hg,_⟩|⟨_,g,rfl,hg⟩⟩:=h
 ·rw[jJ ho]at hb;exact(ho.lt b hb).2
 ·injection hb with hb;subst hb;exact(Array.getElem?_eq_some_iff.1 hg).1
 ·injection hb with hb;subst hb;exact(Array.getElem?_eq_some_iff.1 hg).1
 ·injection hb with hb;subst hb;exact hg
theorem CV.mono{I I':Nat->Nat->Prop}{w w':World}(hi:∀b o,I b o->I' b o) (hk:pF I w w'):∀{ag:Bool}{ds:List DV}{x:Value},CV I w ag ds x->CV I' w' ag ds x
 |true,_,_,⟨vs,h1,h2⟩=>⟨vs,h1,bo.mono hi hk _ h2⟩
 |false,_,_,⟨d,h1,h2⟩=>⟨d,h1,DVr.mono hi hk d h2⟩
theorem KV.mono{I I':Nat->Nat->Prop}{w w':World}{n:Nat}(hi:∀b o,I b o->I' b o) (hk:pF I w w'):∀{ag:Bool}{ds:List DV}{x:Value},KV I w n ag ds x->KV I' w' n ag ds x
 |true,_,_,h=>h
 |false,_,_,⟨d,h1,h2⟩=>⟨d,h1,DVr.mono hi hk d h2⟩
theorem ME.mono{I I':Nat->Nat->Prop}{w w':World}{e:Nat}(hi:∀b o,I b o->I' b o) (hk:pF I w w'){c:List DV}{m:MapEntry}(h:ME I w e c m):ME I' w' e c m:=by
 unfold ME at h⊢;exact⟨KV.mono hi hk h.1,CV.mono hi hk h.2⟩
theorem MEs.mono{I I':Nat->Nat->Prop}{w w':World}{e:Nat}(hi:∀b o,I b o->I' b o) (hk:pF I w w'):∀{cs:List (List DV)}{ms:List MapEntry},MEs I w e cs ms->MEs I' w' e cs ms
 |[],_,h=>h
 |c::cs,ms,h=>by
  simp only[MEs]at h⊢;obtain⟨m,r,h1,h2,h3⟩:=h;exact⟨m,r,h1,ME.mono hi hk h2,MEs.mono hi hk h3⟩
theorem jK.mono{I I':Nat->Nat->Prop}{w:World}{v:Value}{R:Row}(h:jK I w v R) (hi:∀b o,I b o->I' b o):jK I' w v R:=by
 obtain⟨h1,h2,⟨h3,xs,ho,hd⟩|⟨h3,g,es,c,k1,k2,k3,k4⟩|h3⟩:=h
 ·exact⟨h1,h2,.inl ⟨h3,xs,ho,V2.mono hi (pF.refl _ _) _ hd⟩⟩
 ·exact⟨h1,h2,.inr (.inl ⟨h3,g,es,c,k1,k2,k3.mono hi (pF.refl _ _),k4⟩)⟩
 ·exact⟨h1,h2,.inr (.inr h3)⟩
structure Own where
 m:Nat->Prop
 I:Nat->Nat->Prop
 pin:Nat->Value
instance:CoeFun Own λ_=>Nat->Prop:=⟨Own.m⟩
theorem CU{w w':World}{tp sz:Nat}{v:Value}{n:Nat}{xs:List Value}{row:Option Nat}(h:w.ownsRow 0 tp sz v n xs) (hg:w.grownBy w' row) (hne:∀b,obk v=some b->row≠some b):w'.ownsRow 0 tp sz v n xs:=by
 refine h.kept hg ?_;rcases hv:v.ownBlock with _|b
 ·exact .inl rfl
 ·exact .inr λe=>hne b (by rw[jJ h];exact hv) e.symm
theorem SEs.kept{w w':World}{tp:TypeId}{row:Option Nat}(hg:w.grownBy w' row):∀{cs:List (List DV)}{ms:List MapEntry}{xs:List Nat},SEs w tp cs ms xs->(∀b∈xs,row≠some b)->SEs w' tp cs ms xs
 |[],_,_,h,_=>h
 |c::cs,ms,xs,h,hne=>by
  simp only[SEs]at h⊢;obtain⟨m,r,x,y,k,ps,vs,rfl,rfl,h1,h2,h3,h4,h5,h6,h7⟩:=h;exact⟨m,r,x,y,k,ps,vs,rfl,rfl,h1,h2,h3,CU h4 hg (λb hb=>hne b (by rw[h3]at hb;injection hb with hb;simp[hb])),h5,V2.mono (λ_ _ h=>h) (λ_ _ h=>h.elim) _ h6,h7.kept hg λb hb=>hne b (by simp[hb])⟩
theorem SEs.lt{w:World}{tp:TypeId}:∀{cs:List (List DV)}{ms:List MapEntry}{xs:List Nat},SEs w tp cs ms xs->∀b∈xs,b<w.heap.size
 |[],_,_,h,b,hb=>by simp only[SEs]at h;rw[h.2]at hb;cases hb
 |c::cs,ms,xs,h,b,hb=>by
  simp only[SEs]at h;obtain⟨m,r,x,y,k,ps,vs,rfl,rfl,h1,h2,h3,h4,h5,h6,h7⟩:=h;rcases List.mem_cons.1 hb with rfl|hb
  ·exact(h4.lt b (by rw[<-jJ h4];exact h3)).2
  ·exact h7.lt b hb
theorem sL.kept{w w':World}{v:Value}{ex:List Nat}{R:Row}{row:Option Nat}(h:sL w v ex R) (hg:w.grownBy w' row) (hne:∀b,obk v=some b\/b∈ex->row≠some b):sL w' v ex R:=by
 obtain⟨g,es,c,rfl,h1,h2,h3,h4⟩:=h;exact⟨g,es,c,rfl,(hg.block g (Array.getElem?_eq_some_iff.1 h1).1 (λe=>hne g (.inl rfl) e.symm)).trans h1,h2,h3,h4.kept hg λb hb=>hne b (.inr hb)⟩
theorem sL.lt{w:World}{v:Value}{ex:List Nat}{R:Row}(h:sL w v ex R){b:Nat}(hb:b∈ex):b<w.heap.size:=by
 obtain⟨g,es,c,rfl,h1,h2,h3,h4⟩:=h;exact h4.lt b hb
structure Mem (W0:World) (M:Own) (G:Gh) (s:St) (w:World):Prop where
 bx:∀id cs,(s.b id).c=some cs->ZP G s w (G.bx id) cs
 rw:∀id R,(s.r id).c=some R->jK G.I w (G.rw id) R
 dj:∀x y b,b∈own G s x->b∈own G s y->x=y
 bI:∀id,(s.b id).c.isSome=true->∀o,¬G.I (G.bx id) o
 rI:∀id R g,(s.r id).c=some R->obk (G.rw id)=some g->∀o,G.I g o->R.fr=true/\o<R.es.length*R.sz
 oM:∀x b,b∈own G s x->W0.heap.size<=b\/M b
 In:∀b o,G.I b o->b<w.heap.size
 fr:Fr W0 M.m w
 ii:(∀b o,M.I b o->G.I b o)/\∀b o,G.I b o->M.I b o\/M b\/W0.heap.size<=b
 gl:Wi G.I w
 pe:∀id R,(s.r id).c=some R->qD<=R.e->a2Q w (G.rw id) (G.st id) R
 sx:∀id R,(s.r id).c=some R->lS R.e->sL w (G.rw id) (G.ex id) R/\∀b∈G.ex id,∀o,¬G.I b o
structure Rel (W0:World) (M:Own) (G:Gh) (s:St) (a:Act) (w:World):Prop where
 sz:a.tmps.size=s.n
 df:a.defers=[]
 tm:∀k,GVr G s w (s.t k) (a.tmps.getD k undef)
 mem:Mem W0 M G s w
 pin:∀k,AVr G s w (s.t (s.n+k)).x (M.pin k)
def uX(W0:World) (M:Own) (s:St) (a:Act) (w:World):Prop:=∃G,Rel W0 M G s a w
section
variable {W0:World}{M:Own}{G G':Gh}{s s':St}{a:Act}{w w':World}
theorem Mem.ownlt(h:Mem W0 M G s w){x:Nat⊕Nat}{b:Nat}(hx:b∈own G s x):b<w.heap.size:=by
 rcases x with id|id
 ·obtain⟨hs,rfl⟩:=CS.1 hx;obtain⟨cs,hc⟩:=Option.isSome_iff_exists.1 hs;obtain⟨cur,ty,hh,_⟩:=h.bx id cs hc;exact(Array.getElem?_eq_some_iff.1 hh).1
 ·obtain⟨R,hc,hx|⟨he,hx⟩⟩:=sK.1 hx
  ·exact(h.rw id R hc).lt hx
  ·exact(h.sx id R hc he).1.lt hx
theorem Mem.slots(h:Mem W0 M G s w) (n:Nat) (t:Nat->GV):Mem W0 M G ⟨n,t,s.b,s.r⟩ w:=
 ⟨λid cs hc=>by obtain⟨cur,ty,h1,h2⟩:=h.bx id cs hc;exact⟨cur,ty,h1,(Ext.slots G s w n t).acs h2⟩,h.rw,λx y b hx hy=>h.dj x y b (by cases x <;> exact hx) (by cases y <;> exact hy),h.bI,h.rI,λx b hx=>h.oM x b (by cases x <;> exact hx),h.In,h.fr,h.ii,h.gl,h.pe,h.sx⟩
theorem Fr.grown(h:Fr W0 M.m w){row:Option Nat}(hg:w.grownBy w' row) (hr:∀b,row=some b->b<W0.heap.size->M b):Fr W0 M.m w':=
 ⟨hg.os.trans h.os,hg.tape.trans h.tape,hg.output.trans h.output,a6c h.size hg.size,λk hk hm=>
  (hg.block k (a6L hk h.size) (λe=>hm (hr k e.symm hk))).trans (h.block k hk hm)⟩
theorem ownsRow.kept'{R:Row}{I:Nat->Nat->Prop}{v:Value}{row:Option Nat}(h:jK I w v R) (hg:w.grownBy w' row) (hne:∀b,obk v=some b->row≠some b) (hk:pF I w w'):jK I w' v R:=by
 obtain⟨h1,h2,⟨h3,xs,ho,hd⟩|⟨h3,g,es,c,rfl,k2,k3,k4⟩|⟨h3,g,s,p,rfl,k2,k3⟩|⟨h3,g,rfl,k2⟩⟩:=h
 rotate_right
 ·exact⟨h1,h2,.inr (.inr (.inr ⟨h3,g,rfl,a6L k2 hg.size⟩))⟩
 ·refine⟨h1,h2,.inl ⟨h3,xs,ho.kept hg ?_,V2.mono (λ_ _ h=>h) hk _ hd⟩⟩;rcases hv:v.ownBlock with _|b
  ·exact .inl rfl
  ·exact .inr λe=>hne b (by rw[jJ ho];exact hv) e.symm
 ·exact⟨h1,h2,.inr (.inl ⟨h3,g,es,c,rfl,(hg.block g (Array.getElem?_eq_some_iff.1 k2).1 (λe=>hne g rfl e.symm)).trans k2,k3.mono (λ_ _ h=>h) hk,k4⟩)⟩
 ·exact⟨h1,h2,.inr (.inr (.inl ⟨h3,g,s,p,rfl,(hg.block g (Array.getElem?_eq_some_iff.1 k2).1 (λe=>hne g rfl e.symm)).trans k2,k3⟩))⟩
theorem a2Q.kept{v:Value}{k:Value×Int}{R:Row}{row:Option Nat}(h:a2Q w v k R) (hg:w.grownBy w' row) (hne:∀b,obk v=some b->row≠some b):a2Q w' v k R:=by
 obtain⟨g,es,c,i,m,rfl,k2,k3⟩:=h;exact⟨g,es,c,i,m,rfl,(hg.block g (Array.getElem?_eq_some_iff.1 k2).1 (λe=>hne g rfl e.symm)).trans k2,k3⟩
theorem Mem.world(h:Mem W0 M G s w){row:Option Nat}(hg:w.grownBy w' row) (hk:pF G.I w w') (hne:∀x b,b∈own G s x->row≠some b) (hr:∀b,row=some b->b<W0.heap.size->M b):Mem W0 M G s w':=by
 have E:Ext G s w G s w':=⟨λ_ _ h=>h,hk,λ_=>⟨a56 _,λ_ h=>⟨h,rfl⟩⟩,λ_=>⟨a56 _,λ_ h=>⟨h,rfl⟩⟩,λ_ _=>rfl⟩;refine⟨λid cs hc=>?_,λid R hc=>?_,h.dj,h.bI,h.rI,h.oM,λb o hi=>a6L (h.In b o hi) hg.size,h.fr.grown hg hr,h.ii,h.gl.mono E.I E.keep,λid R hc hp=>(h.pe id R hc hp).kept hg (λb hb=>hne (.inr id) b (pg hc hb)),λid R hc he=>⟨(h.sx id R hc he).1.kept hg (λb hb=>hne (.inr id) b (by
  rcases hb with hb|hb
  ·exact pg hc hb
  ·exact vY hc he hb)),(h.sx id R hc he).2⟩⟩
 ·obtain⟨cur,ty,h1,h2⟩:=h.bx id cs hc;have hlt:=(Array.getElem?_eq_some_iff.1 h1).1;refine⟨cur,ty,(hg.block _ hlt (λe=>hne (.inl id) (G.bx id) (BO (by rw[hc];rfl)) e.symm)).trans h1,E.acs h2⟩
 ·exact ownsRow.kept' (h.rw id R hc) hg (λb hb=>hne (.inr id) b (pg hc hb)) hk
theorem Mem.grow(h:Mem W0 M G s w) (hg:w.grownBy w' none):Mem W0 M G s w'/\Ext G s w G s w':=by
 have hk:pF G.I w w':=λb o hi=>World.cell?_of_block (a:=⟨b,o,none⟩) (hg.block b (h.In b o hi) (by simp));exact⟨h.world hg hk (λ_ _ _=>by simp) (λ_ h=>by cases h),⟨λ_ _ h=>h,hk,λ_=>⟨a56 _,λ_ h=>⟨h,rfl⟩⟩,λ_=>⟨a56 _,λ_ h=>⟨h,rfl⟩⟩,λ_ _=>rfl⟩⟩
theorem pF.alloc(I:Nat->Nat->Prop) (hI:∀b o,I b o->b<w.heap.size) (o:Obj):pF I w (w.alloc o):=λb _ hi=>World.cell?_of_block (heap_alloc_old w o (hI b _ hi))
theorem mY(w:World) (o:Obj):w.grownBy (w.alloc o) none:=⟨rfl,rfl,rfl,by simp,λk hk _=>heap_alloc_old w o hk⟩
theorem sg(w:World) (o:Obj):w.grownBy (w.drew.alloc o) none:=⟨rfl,rfl,rfl,by simp,λk hk _=>heap_alloc_old w.drew o hk⟩
theorem Mem.addBox(h:Mem W0 M G s w) (id ver g:Nat) (cs:List AC) (hv:(s.b id).ver<ver) (hb:ZP G s w g cs) (hown:∀x,g∉own G s x) (hI:∀o,¬G.I g o) (hM:W0.heap.size<=g\/M g) :
  Mem W0 M ⟨G.I,upd G.bx id g,G.rw,G.st,G.ex⟩ (s.setB id ⟨ver,some cs⟩) w/\Ext G s w ⟨G.I,upd G.bx id g,G.rw,G.st,G.ex⟩ (s.setB id ⟨ver,some cs⟩) w:=by
 have E:Ext G s w ⟨G.I,upd G.bx id g,G.rw,G.st,G.ex⟩ (s.setB id ⟨ver,some cs⟩) w:=by
  refine⟨λ_ _ h=>h,pF.refl _ _,λk=>?_,λ_=>⟨a56 _,λ_ h=>⟨h,rfl⟩⟩,λ_ _=>rfl⟩;simp only[St.setB,upd];by_cases e:k=id
  ·subst e;simp only[a6x];exact⟨by omega,λe=>by omega⟩
  ·simp only[e,a6o];exact⟨a56 _,λ_ h=>⟨h,trivial⟩⟩
 have ho:∀x b,b∈own ⟨G.I,upd G.bx id g,G.rw,G.st,G.ex⟩ (s.setB id ⟨ver,some cs⟩) x->(x= .inl id/\b=g)\/(x ≠ .inl id/\b∈own G s x):=by
  intro x b hx;rcases x with k|k
  ·by_cases e:k=id
   ·subst e;simp[own,St.setB,upd]at hx;exact .inl ⟨rfl,hx⟩
   ·right;refine⟨by simp[e],?_⟩;simpa [own,St.setB,upd,e]using hx
  ·right;exact⟨by simp,hx⟩
 refine⟨⟨λk c hc=>?_,λk R hc=>h.rw k R hc,λx y b hx hy=>?_,λk hc=>?_,h.rI,λx b hx=>?_,h.In,h.fr,h.ii,h.gl.mono E.I E.keep,h.pe,h.sx⟩,E⟩
 ·simp only[St.setB,upd]at hc⊢;by_cases e:k=id
  ·subst e;simp only[a6x]at hc⊢;injection hc with hc;subst hc;obtain⟨cur,ty,h1,h2⟩:=hb;exact⟨cur,ty,h1,E.acs h2⟩
  ·simp only[e,a6o]at hc⊢;obtain⟨cur,ty,h1,h2⟩:=h.bx k c hc;exact⟨cur,ty,h1,E.acs h2⟩
 ·rcases ho x b hx with⟨rfl,rfl⟩|⟨n1,k1⟩ <;> rcases ho y b hy with⟨rfl,e2⟩|⟨n2,k2⟩
  ·rfl
  ·exact(hown y k2).elim
  ·subst e2;exact(hown x k1).elim
  ·exact h.dj x y b k1 k2
 ·simp only[St.setB,upd]at hc⊢;by_cases e:k=id
  ·simp only[e,a6x];exact hI
  ·simp only[e,a6o]at hc⊢;exact h.bI k hc
 ·rcases ho x b hx with⟨rfl,rfl⟩|⟨_,k1⟩
  ·exact hM
  ·exact h.oM x b k1
theorem Mem.addRowX(h:Mem W0 M G s w) (id ver:Nat) (v:Value) (R:Row) (hv:(s.r id).ver<ver) (hb:jK G.I w v R) (hown:∀x b,obk v=some b->b∉own G s x)
  (hI:∀g,obk v=some g->∀o,G.I g o->R.fr=true/\o<R.es.length*R.sz) (hM:∀g,obk v=some g->W0.heap.size<=g\/M g) (hpe:R.e<qD:=by first | assumption | (refine a7W ?_ (show(jn:Nat)<qD by decide);assumption)) {ex:Nat->List Nat} (hex:∀k,k≠id->ex k=G.ex k)
  (hsx:lS R.e->sL w v (ex id) R/\∀b∈ex id,(∀x,b∉own G s x)/\(∀o,¬G.I b o)/\(W0.heap.size<=b\/M b)) :
  Mem W0 M ⟨G.I,G.bx,upd G.rw id v,G.st,ex⟩ (s.setR id ⟨ver,some R⟩) w/\Ext G s w ⟨G.I,G.bx,upd G.rw id v,G.st,ex⟩ (s.setR id ⟨ver,some R⟩) w:=by
 have E:Ext G s w ⟨G.I,G.bx,upd G.rw id v,G.st,ex⟩ (s.setR id ⟨ver,some R⟩) w:=by
  refine⟨λ_ _ h=>h,pF.refl _ _,λ_=>⟨a56 _,λ_ h=>⟨h,rfl⟩⟩,λk=>?_,λ_ _=>rfl⟩;simp only[St.setR,upd];by_cases e:k=id
  ·subst e;simp only[a6x];exact⟨by omega,λe=>by omega⟩
  ·simp only[e,a6o];exact⟨a56 _,λ_ h=>⟨h,trivial⟩⟩
 have ho:∀x b,b∈own ⟨G.I,G.bx,upd G.rw id v,G.st,ex⟩ (s.setR id ⟨ver,some R⟩) x->(x= .inr id/\(obk v=some b\/(lS R.e/\b∈ex id)))\/(x ≠ .inr id/\b∈own G s x):=by
  intro x b hx;rcases x with k|k
  ·right;exact⟨by simp,hx⟩
  ·by_cases e:k=id
   ·subst e;obtain⟨R',h1,h2⟩:=sK.1 hx;simp only[St.setR,upd,a6x]at h1 h2;injection h1 with h1;subst h1;exact .inl ⟨rfl,h2⟩
   ·right;refine⟨by simp[e],?_⟩;obtain⟨R',h1,h2⟩:=sK.1 hx;simp only[St.setR,upd,e,a6o]at h1 h2;exact sK.2 ⟨R',h1,by rw[hex k e]at h2;exact h2⟩
 have hno:∀x b,(obk v=some b\/(lS R.e/\b∈ex id))->b∉own G s x:=λx b hb=>by
  rcases hb with hb|⟨he,hb⟩
  ·exact hown x b hb
  ·exact((hsx he).2 b hb).1 x
 refine⟨⟨λk c hc=>?_,λk R' hc=>?_,λx y b hx hy=>?_,h.bI,λk R' g hc hg=>?_,λx b hx=>?_,h.In,h.fr,h.ii,h.gl.mono E.I E.keep,λk R' hc hp=>by
  simp only[St.setR,upd]at hc⊢;by_cases e:k=id
  ·simp only[e,a6x]at hc;injection hc with hc;subst hc;exact absurd hpe (Nat.not_lt.2 hp)
  ·simp only[e,a6o]at hc⊢;exact h.pe k R' hc hp,λk R' hc hp=>by
  simp only[St.setR,upd]at hc⊢;by_cases e:k=id
  ·simp only[e,a6x]at hc⊢;injection hc with hc;subst hc;exact⟨(hsx hp).1,λb hb=>((hsx hp).2 b hb).2.1⟩
  ·simp only[e,a6o]at hc⊢;rw[hex k e];exact h.sx k R' hc hp⟩,E⟩
 ·obtain⟨cur,ty,h1,h2⟩:=h.bx k c hc;exact⟨cur,ty,h1,E.acs h2⟩
 ·simp only[St.setR,upd]at hc⊢;by_cases e:k=id
  ·simp only[e,a6x]at hc⊢;injection hc with hc;subst hc;exact hb
  ·simp only[e,a6o]at hc⊢;exact h.rw k R' hc
 ·rcases ho x b hx with⟨rfl,e1⟩|⟨n1,k1⟩ <;> rcases ho y b hy with⟨rfl,e2⟩|⟨n2,k2⟩
  ·rfl
  ·exact(hno y b e1 k2).elim
  ·exact(hno x b e2 k1).elim
  ·exact h.dj x y b k1 k2
 ·simp only[St.setR,upd]at hc hg⊢;by_cases e:k=id
  ·simp only[e,a6x]at hc hg;injection hc with hc;subst hc;exact hI g hg
  ·simp only[e,a6o]at hc hg;exact h.rI k R' g hc hg
 ·rcases ho x b hx with⟨rfl,e1|⟨e0,e1⟩⟩|⟨_,k1⟩
  ·exact hM b e1
  ·exact((hsx e0).2 b e1).2.2
  ·exact h.oM x b k1
theorem Mem.addRow(h:Mem W0 M G s w) (id ver:Nat) (v:Value) (R:Row) (hv:(s.r id).ver<ver) (hb:jK G.I w v R) (hown:∀x b,obk v=some b->b∉own G s x)
  (hI:∀g,obk v=some g->∀o,G.I g o->R.fr=true/\o<R.es.length*R.sz) (hM:∀g,obk v=some g->W0.heap.size<=g\/M g) (hpe:R.e<qD:=by first | assumption | (refine a7W ?_ (show(jn:Nat)<qD by decide);assumption)) (hns:¬lS R.e:=by first | assumption | exact eU (n:=jn) (by assumption)) :
  Mem W0 M ⟨G.I,G.bx,upd G.rw id v,G.st,G.ex⟩ (s.setR id ⟨ver,some R⟩) w/\Ext G s w ⟨G.I,G.bx,upd G.rw id v,G.st,G.ex⟩ (s.setR id ⟨ver,some R⟩) w:=
 h.addRowX id ver v R hv hb hown hI hM hpe (λ_ _=>rfl) (λk=>absurd k hns)
theorem Mem.dropRow(h:Mem W0 M G s w) (id:Nat):Mem W0 M G (s.setR id ⟨(s.r id).ver,none⟩) w/\Ext G s w G (s.setR id ⟨(s.r id).ver,none⟩) w:=by
 have E:Ext G s w G (s.setR id ⟨(s.r id).ver,none⟩) w:=by
  refine⟨λ_ _ h=>h,pF.refl _ _,λ_=>⟨a56 _,λ_ h=>⟨h,rfl⟩⟩,λk=>?_,λ_ _=>rfl⟩;simp only[St.setR,upd];by_cases e:k=id
  ·subst e;simp
  ·simp only[e,a6o];exact⟨a56 _,λ_ h=>⟨h,trivial⟩⟩
 have ho:∀x b,b∈own G (s.setR id ⟨(s.r id).ver,none⟩) x->b∈own G s x:=by
  intro x b hx;rcases x with k|k
  ·exact hx
  ·by_cases e:k=id
   ·subst e;simp[own,St.setR,upd]at hx
   ·simpa [own,St.setR,upd,e]using hx
 refine⟨⟨λk c hc=>?_,λk R hc=>?_,λx y b hx hy=>h.dj x y b (ho x b hx) (ho y b hy),h.bI,λk R g hc hg=>?_,λx b hx=>h.oM x b (ho x b hx),h.In,h.fr,h.ii,h.gl.mono E.I E.keep,λk R' hc hp=>by
  simp only[St.setR,upd]at hc;by_cases e:k=id
  ·simp[e]at hc
  ·simp only[e,a6o]at hc;exact h.pe k R' hc hp,λk R' hc hp=>by
  simp only[St.setR,upd]at hc;by_cases e:k=id
  ·simp[e]at hc
  ·simp only[e,a6o]at hc;exact h.sx k R' hc hp⟩,E⟩
 ·obtain⟨cur,ty,h1,h2⟩:=h.bx k c hc;exact⟨cur,ty,h1,E.acs h2⟩
 ·simp only[St.setR,upd]at hc;by_cases e:k=id
  ·simp[e]at hc
  ·simp only[e,a6o]at hc;exact h.rw k R hc
 ·simp only[St.setR,upd]at hc;by_cases e:k=id
  ·simp[e]at hc
  ·simp only[e,a6o]at hc;exact h.rI k R g hc hg
theorem Rel.put(h:Rel W0 M G s a w){d:Nat}(hd:d<s.n){x:GV}{v:Value}(hx:GVr G s w x v):Rel W0 M G (s.setT d x) (a.put (some d) v) w:=by
 have E:Ext G s w G (s.setT d x) w:=Ext.slots G s w s.n _;refine⟨by simp[Act.put,h.sz,St.setT],h.df,λk=>?_,h.mem.slots _ _,λk=>?_⟩
 case refine_2=>
  have e:s.n+k≠d:=by omega
  simp only[St.setT,upd,e,a6o];exact E.av _ (h.pin k)
 have hlt:d<a.tmps.size:=by rw[h.sz];exact hd
 simp only[St.setT,upd,Act.put];by_cases e:k=d
 ·subst e;simp only[a6x];have:(a.tmps.setIfInBounds k v).getD k undef=v:=by simp[Array.getD,hlt]
  rw[this];exact E.gv hx
 ·simp only[e,a6o];have:(a.tmps.setIfInBounds d v).getD k undef=a.tmps.getD k undef:=by
   simp only[Array.getD_eq_getD_getElem?,Array.getElem?_setIfInBounds];rw[a5U (by omega)]
  rw[this];exact E.gv (h.tm k)
theorem Rel.mem'(h:Rel W0 M G s a w) (E:Ext G s w G' s' w') (hm:Mem W0 M G' s' w') (hn:s'.n=s.n) (ht:s'.t=s.t):Rel W0 M G' s' a w':=
 ⟨by rw[hn];exact h.sz,h.df,λk=>by rw[ht];exact E.gv (h.tm k),hm,λk=>by rw[hn,ht];exact E.av _ (h.pin k)⟩
end
inductive CK where
 |b
 |i (k:IntKind)
 |s
 deriving DecidableEq
def uq:Value->Option CK
 |.bool _=>some .b
 |.int k _=>some (.i k)
 |.string _=>some .s
 |_=>none
def ER:Value->Value->Bool
 |.bool a,.bool b=>a==b
 |.int _ a,.int _ b=>a==b
 |.string a,.string b=>a.toList==b.toList
 |_,_=>false
def aK:List Value->List Value->Bool
 |[],[]=>true
 |x::xs,y::ys=>ER x y&&aK xs ys
 |_,_=>false
theorem ry:∀(a c b d:List Value),a.length=c.length->aK (a++b) (c++d)=(aK a c&&aK b d)
 |[],[],b,d,_=>by simp[aK]
 |x::a,y::c,b,d,h=>by
  simp only[a54,Nat.add_right_cancel_iff]at h;simp only[a6l,aK,ry a c b d h,Bool.and_assoc]
def SI(rec:TypeId->Option (List CK)) (cells:TypeId->Nat):Nat->List Field->Option (List CK)
 |_,[]=>some []
 |off,f::fs=>match decide (f.name≠ "_" /\f.offset=off) with
  |true=>(rec f.type).bind λks=>match ks.length==cells f.type with
   |true=>(SI rec cells (off+ks.length) fs).map (ks ++ ·)
   |false=>none
  |false=>none
def JC(P:Program):Nat->TypeId->Option (List CK)
 |0,_=>none
 |d+1,t=>match P.underlying t with
  |some .bool=>some [.b]
  |some (.int k)=>some [.i k]
  |some .string=>some [.s]
  |some (.array n e)=>(JC P d e).bind λks=>match ks.length==P.cellsOf e with
   |true=>some (List.replicate n ks).flatten
   |false=>none
  |some (.struct fs)=>match P.stoodInHeld t with
   |true=>none
   |false=>SI (JC P d) P.cellsOf 0 fs.toList
  |_=>none
def fmd(P:Program) (t:TypeId) (x:Value):Prop:=match P.underlying t with
 |some (.array _ _)|some (.struct _)=>∃cs,x= .agg cs
 |_=>x.cells.toList=[x]
def a2R(P:Program) (d:Nat) (t:TypeId) (ks:List CK):Prop:=∀(w:World) (x y:Value),fmd P t x->fmd P t y->x.cells.toList.map uq=ks.map some->y.cells.toList.map uq=ks.map some->(Op.equalIn d t x y).run P w= .ok (aK x.cells.toList y.cells.toList) w
section
variable {P:Program}
theorem JD{d:Nat}{e:TypeId}{ks:List CK}(h:JC P d e=some ks) (hl:ks.length=P.cellsOf e) (w:World) (xs:Array Value) (off:Nat) (hc:((xs.toList.drop off).take ks.length).map uq=ks.map some) :
  ∃a,(part e xs off).run P w= .ok a w/\fmd P e a/\a.cells.toList=(xs.toList.drop off).take ks.length:=by
 cases d with
 |zero=>cases h
 |succ d=>
  unfold JC at h;have agg:∀kd,P.underlying e=some kd->(match kd with | .array _ _ | .struct _=>true | _=>false)=true->∃a,(part e xs off).run P w= .ok a w/\fmd P e a/\a.cells.toList=(xs.toList.drop off).take ks.length:=by
   intro kd hu hk;obtain⟨i,hi⟩:=info_of_underlying hu;have e1:(xs.extract off (off+P.cellsOf e)).toList=(xs.toList.drop off).take ks.length:=by
    rw[Array.toList_extract,hl];simp[List.extract]
   refine⟨.agg (xs.extract off (off+P.cellsOf e)),?_,?_,e1⟩
   ·cases kd <;> simp at hk <;> simp[part,isAgg,run_underlying hu,run_sizeOf w hi]
   ·unfold fmd;rw[hu];cases kd <;> simp at hk <;> exact⟨_,rfl⟩
  have one:∀kd k,P.underlying e=some kd->P.plainKey e=true->(match kd with | .array _ _ | .struct _=>false | _=>true)=true->ks=[k]->∃a,(part e xs off).run P w= .ok a w/\fmd P e a/\a.cells.toList=(xs.toList.drop off).take ks.length:=by
   rintro kd k hu hp hk rfl;have hlen:((xs.toList.drop off).take 1).length=1:=by
    have:=congrArg List.length hc;simpa using this
   match hxs:(xs.toList.drop off).take 1,hlen with
   |[v],_=>
    have hx:xs[off]?=some v:=by
     have h0:((xs.toList.drop off).take 1)[0]?=some v:=by rw[hxs];rfl
     rw[List.getElem?_take]at h0;simpa using h0
    have hv:v.cells.toList=[v]:=by
     simp only[a54,a6v,a6j,hxs,a55,a6B,List.cons.injEq,and_true]at hc;cases v <;> simp[uq]at hc <;> rfl
    refine⟨v,run_part_plain w hp hx,?_,by rw[hv];first | done | exact hxs.symm⟩
    unfold fmd;rw[hu];cases kd <;> simp at hk <;> exact hv
  cases hu:P.underlying e with
  |none=>rw[hu]at h;cases h
  |some kd=>
   rw[hu]at h;cases kd <;> try (cases h;done)
   case bool=>injection h with h;exact one _ _ hu (by simp[Program.plainKey,hu]) rfl h.symm
   case int k=>injection h with h;exact one _ _ hu (by simp[Program.plainKey,hu]) rfl h.symm
   case string=>injection h with h;exact one _ _ hu (by simp[Program.plainKey,hu]) rfl h.symm
   case array n e'=>exact agg _ hu rfl
   case struct fs=>exact agg _ hu rfl
theorem JE{d m:Nat}{e:TypeId}{ks:List CK}(h:JC P d e=some ks) (hl:ks.length=P.cellsOf e) (he:a2R P m e ks) (w:World) (xs ys:Array Value) (off:Nat)
  (hx:((xs.toList.drop off).take ks.length).map uq=ks.map some) (hy:((ys.toList.drop off).take ks.length).map uq=ks.map some) :
  ∃a b,(part e xs off).run P w= .ok a w/\(part e ys off).run P w= .ok b w/\(Op.equalIn m e a b).run P w= .ok (aK ((xs.toList.drop off).take ks.length) ((ys.toList.drop off).take ks.length)) w:=by
 obtain⟨a,p1,f1,c1⟩:=JD h hl w xs off hx;obtain⟨b,p2,f2,c2⟩:=JD h hl w ys off hy;refine⟨a,b,p1,p2,?_⟩;rw[he w a b f1 f2 (by rw[c1];exact hx) (by rw[c2];exact hy),c1,c2]
theorem pc{xs:List Value}{off:Nat}{ks ks':List CK}(h:(xs.drop off).map uq=(ks++ks').map some) :
  ((xs.drop off).take ks.length).map uq=ks.map some/\(xs.drop (off+ks.length)).map uq=ks'.map some:=by
 rw[a53]at h;have hl:(ks.map some).length=ks.length:=a5X ..;constructor
 ·rw[a65,h,<-hl,a6H]
 ·rw[<-a6A,a7p,h,<-hl,a6s]
theorem JF{xs ys:List Value}{off:Nat}{ks ks':List CK}(hx:(xs.drop off).map uq=(ks++ks').map some) (hy:(ys.drop off).map uq=(ks++ks').map some) :
  aK (xs.drop off) (ys.drop off)=(aK ((xs.drop off).take ks.length) ((ys.drop off).take ks.length)&&aK (xs.drop (off+ks.length)) (ys.drop (off+ks.length))):=by
 have e:∀l:List Value,l.drop off=(l.drop off).take ks.length++l.drop (off+ks.length):=λl=>by rw[<-a6A,a6d]
 conv=>lhs;rw[e xs,e ys]
 refine ry _ _ _ _ ?_;have h1:=congrArg List.length (pc hx).1;have h2:=congrArg List.length (pc hy).1;simp only[a5X]at h1 h2;rw[h1,h2]
theorem ye{d m:Nat}(IH:∀e ks,JC P d e=some ks->a2R P m e ks) (w:World) (xs ys:Array Value):∀(fs:List Field) (off:Nat) (ks:List CK),SI (JC P d) P.cellsOf off fs=some ks->
  (xs.toList.drop off).map uq=ks.map some->(ys.toList.drop off).map uq=ks.map some->(Op.eqFields m xs ys fs).run P w= .ok (aK (xs.toList.drop off) (ys.toList.drop off)) w
 |[],off,ks,h,hx,hy=>by
  injection h with h;subst h;simp only[a6B,List.map_eq_nil_iff]at hx hy;rw[hx,hy];simp[Op.eqFields,aK]
 |f::fs,off,ks,h,hx,hy=>by
  unfold SI at h;split at h
  ·rename_i hd;obtain⟨hn,ho⟩:=a5P hd;obtain⟨k1,hk,h⟩:=Option.bind_eq_some_iff.1 h;split at h
   ·rename_i hl;obtain⟨k2,h2,rfl⟩:=Option.map_eq_some_iff.1 h;obtain⟨x1,x2⟩:=pc hx;obtain⟨y1,y2⟩:=pc hy;obtain⟨a,b,p1,p2,p3⟩:=JE hk (beq_iff_eq.1 hl) (IH _ _ hk) w xs ys off x1 y1;have r:=ye IH w xs ys fs _ k2 h2 x2 y2;rw[JF hx hy];simp only[Op.eqFields,hn,ne_eq,not_false_eq_true,a6x,Sem.run_bind,ho,p1,p2,p3,Result.andThen_ok];cases aK ((xs.toList.drop off).take k1.length) ((ys.toList.drop off).take k1.length)
    ·simp
    ·simpa using r
   ·cases h
  ·cases h
theorem zE{d m:Nat}{e:TypeId}{ks:List CK}(hk:JC P d e=some ks) (hl:ks.length=P.cellsOf e) (IH:a2R P m e ks) (w:World) (xs ys:Array Value):∀(n j:Nat),
  (xs.toList.drop (j*P.cellsOf e)).map uq=((List.replicate n ks).flatten).map some->(ys.toList.drop (j*P.cellsOf e)).map uq=((List.replicate n ks).flatten).map some->
  (Op.eqItems m e (P.cellsOf e) xs ys (List.range' j n)).run P w= .ok (aK (xs.toList.drop (j*P.cellsOf e)) (ys.toList.drop (j*P.cellsOf e))) w
 |0,j,hx,hy=>by
  simp only[a79,List.flatten_nil,a6B,List.map_eq_nil_iff]at hx hy;rw[hx,hy];simp[Op.eqItems,aK]
 |n+1,j,hx,hy=>by
  rw[a7c,a7O]at hx hy;obtain⟨x1,x2⟩:=pc hx;obtain⟨y1,y2⟩:=pc hy;obtain⟨a,b,p1,p2,p3⟩:=JE hk hl IH w xs ys _ x1 y1;have ej:j*P.cellsOf e+ks.length=(j+1)*P.cellsOf e:=by rw[hl,a6r]
  rw[ej]at x2 y2;have r:=zE hk hl IH w xs ys n (j+1) x2 y2;rw[JF hx hy,ej];simp only[List.range'_succ,Op.eqItems,Sem.run_bind,p1,p2,p3,Result.andThen_ok];cases aK ((xs.toList.drop (j*P.cellsOf e)).take ks.length) ((ys.toList.drop (j*P.cellsOf e)).take ks.length)
  ·simp
  ·simpa using r
theorem tO{v:Value}{k:CK}(h1:v.cells.toList=[v]) (h:v.cells.toList.map uq=[k].map some):uq v=some k:=by
 rw[h1]at h;simpa using h
theorem vZ(m:Nat):∀(d:Nat) (t:TypeId) (ks:List CK),JC P d t=some ks->a2R P (m+d) t ks
 |0,_,_,h=>by cases h
 |d+1,t,ks,h=>by
  intro w x y fx fy hx hy;unfold JC at h;unfold fmd at fx fy;cases hu:P.underlying t with
  |none=>rw[hu]at h;cases h
  |some kd=>
   rw[hu]at h fx fy;cases kd <;> try (cases h;done)
   case bool=>
    injection h with h;subst h;have a:=tO fx hx;have b:=tO fy hy;rw[fx,fy];cases x <;> simp[uq]at a;cases y <;> simp[uq]at b;simp only[aK,ER,a7e];exact run_equalIn_bool' w (m+d) t _ _ hu
   case int k=>
    injection h with h;subst h;have a:=tO fx hx;have b:=tO fy hy;rw[fx,fy];cases x <;> simp[uq]at a;cases y <;> simp[uq]at b;subst a;subst b;simp only[aK,ER,a7e];exact run_equalIn_int w (m+d) t _ _ _ _ hu
   case string=>
    injection h with h;subst h;have a:=tO fx hx;have b:=tO fy hy;rw[fx,fy];cases x <;> simp[uq]at a;cases y <;> simp[uq]at b;simp only[aK,ER,a7e];exact run_equalIn_string w (m+d) t _ _ hu
   case array n e=>
    obtain⟨xs,rfl⟩:=fx;obtain⟨ys,rfl⟩:=fy;obtain⟨k1,hk,h⟩:=Option.bind_eq_some_iff.1 h;split at h
    ·rename_i hl;injection h with h;subst h;have hi:∃i,P.info? e=some i:=by
      cases d with
      |zero=>cases hk
      |succ d=>
       unfold JC at hk;cases hue:P.underlying e with
       |none=>rw[hue]at hk;cases hk
       |some _=>exact info_of_underlying hue
     obtain⟨i,hi⟩:=hi;have:=zE hk (beq_iff_eq.1 hl) (vZ m d e k1 hk) w xs ys n 0 (by simpa [Value.cells]using hx) (by simpa [Value.cells]using hy);rw[show m+(d+1)=(m+d)+1 from rfl,run_equalIn_array w (m+d) xs ys hu hi,List.range_eq_range',this];simp[Value.cells]
    ·cases h
   case struct fs=>
    obtain⟨xs,rfl⟩:=fx;obtain⟨ys,rfl⟩:=fy;have hfs:P.fieldsOf t=fs:=by simp[Program.fieldsOf,hu]
    simp only at h;split at h
    ·cases h
    ·rename_i hst;have:=ye (vZ m d) w xs ys fs.toList 0 ks h (by simpa [Value.cells]using hx) (by simpa [Value.cells]using hy);rw[show m+(d+1)=(m+d)+1 from rfl,run_equalIn_struct w (m+d) t xs ys (by rw[hfs];exact hu) hst,hfs,this];simp[Value.cells]
end
inductive TK where
 |int (k:IntKind)
 |bool
 |str
 |slice (e:TypeId)
 |arr (n:Nat) (e:TypeId)
 |struct (fs:List (Nat×Nat))
 |ptr (e:TypeId)
 |map (k v:TypeId)
 |other
structure TI where
 k:TK
 size:Nat
 bytes:Nat
 zero:List Value
 cmp:List CK:=[]
 cut:Bool:=false
 fts:List TypeId:=[]
def TI.agg(i:TI):Bool:=match i.k with | .struct _ | .arr _ _=>true | _=>false
def iG:Value->AC
 |.slice none 0 0=>.nil
 |x=>.d (.v x)
def uO:Value->AV
 |.agg cs=>if cs.toList.all Value.oneCell' then .agg (cs.toList.map iG)else .any
 |.tuple _=>.any
 |x=>.c (iG x)
def ph:Value->DV
 |.slice none 0 0=>.sl []
 |x=>.v x
def Q.ofOpt{α:Type}:Option α->Q α
 |some a=>.ret a
 |none=>.fail
def ev:Operand->Q AV
 |.tmp k=>.rdT k λx=>.req (x.g=true) (.ret x.x)
 |.const v=>.ret (uO v)
 |.func f=>.ret (.c (.d (.v (.func (.func f) #[] #[]))))
 |.global _=>.fail
def evs:List Operand->Q (List AV)
 |[]=>.ret []
 |x::xs=>(ev x).bind λv=>(evs xs).bind λvs=>.ret (v::vs)
def Wj:List (Nat×Operand)->Q (List (Nat×AV))
 |[]=>.ret []
 |p::xs=>(ev p.2).bind λv=>(Wj xs).bind λvs=>.ret ((p.1,v)::vs)
def Q.bool:AV->Q Bool
 |.c (.d (.v (.bool b)))=>.ret b
 |_=>.fail
def Q.int:AV->Q Int
 |.c (.d (.v (.int _ n)))=>.ret n
 |_=>.fail
def evo:Option Operand->Q (Option Int)
 |none=>.ret none
 |some x=>(ev x).bind λv=>(Q.int v).bind λn=>.ret (some n)
def AV.cells:AV->Q (List AC)
 |.c x=>.ret [x]
 |.agg xs=>.ret xs
 |_=>.fail
def toD:AC->Q (DV×List Nat)
 |.d x=>.ret (x,[])
 |.nil=>.ret (.sl [],[])
 |.row id ver=>.rdR id λr=>match r.c with
  |some R=>.req (ver=r.ver/\R.e<jn) (.ret (.sl R.es,[id]))
  |none=>.fail
 |_=>.fail
def ur:List AC->Q (List DV×List Nat)
 |[]=>.ret ([],[])
 |x::xs=>(toD x).bind λd=>(ur xs).bind λds=>.ret (d.1::ds.1,d.2++ds.2)
def lV:List Nat->Q (List Upd)
 |[]=>.ret []
 |id::ids=>.rdR id λr=>match r.c with
  |some R=>.req (R.e<jn) ((lV ids).bind λus=>.ret (match R.fr with|true=>us|false=>.r id ⟨r.ver,some ⟨R.es,R.sz,R.e,true⟩⟩::us))
  |none=>.fail
def asV(sh:TI) (cs:List AC):Q AV:=match sh.agg with
 |true=>.ret (.agg cs)
 |false=>match cs with
  |[x]=>.ret (.c x)
  |_=>.fail
def Hr(d:Option Nat) (x:AV):List Upd:=match d with
 |some d=>[.t d ⟨true,x⟩]
 |none=>[]
def one(d:Option Nat) (x:AV):Q (List Upd):=.ret (Hr d x)
def yf(op:BinOp) (k:IntKind) (a b:Int):Q Value:=match op with
 |.add=>.ret (.int k (k.wrap (a+b)))
 |.sub=>.ret (.int k (k.wrap (a-b)))
 |.mul=>.ret (.int k (k.wrap (a*b)))
 |.quo=>.req (b≠0) (.ret (.int k (k.wrap (a.tdiv b))))
 |.rem=>.req (b≠0) (.ret (.int k (a.tmod b)))
 |.and=>.ret (.int k (k.wrap (BitVec.ofInt k.bits a &&& BitVec.ofInt k.bits b).toNat))
 |.or=>.ret (.int k (k.wrap (BitVec.ofInt k.bits a ||| BitVec.ofInt k.bits b).toNat))
 |.xor=>.ret (.int k (k.wrap (BitVec.ofInt k.bits a ^^^ BitVec.ofInt k.bits b).toNat))
 |.andNot=>.ret (.int k (k.wrap (BitVec.ofInt k.bits a &&& ~~~(BitVec.ofInt k.bits b)).toNat))
 |.eql=>.ret (.bool (decide (a=b)))
 |.neq=>.ret (.bool (!decide (a=b)))
 |.lss=>.ret (.bool (decide (a<b)))
 |.leq=>.ret (.bool (decide (a<=b)))
 |.gtr=>.ret (.bool (decide (b<a)))
 |.geq=>.ret (.bool (decide (b<=a)))
 |_=>.fail
def wa(op:BinOp) (k:IntKind) (a b:Int):Q Value:=match op with
 |.shl=>.req (0<=b) (.ret (.int k (k.wrap (a*2^(min b.toNat k.bits)))))
 |.shr=>.req (0<=b) (.ret (.int k (a.fdiv (2^(min b.toNat k.bits)))))
 |_=>.fail
def JG(op:BinOp) (a b:ByteArray):Q Value:=match op with
 |.add=>.req (a.size+b.size<=4611686018427387904) (.ret (.string (a++b)))
 |.eql=>.ret (.bool (decide (a.data.toList=b.data.toList)))
 |.neq=>.ret (.bool (!decide (a.data.toList=b.data.toList)))
 |.lss=>.ret (.bool (Op.bytesLess a.data.toList b.data.toList))
 |.leq=>.ret (.bool (Op.bytesLess a.data.toList b.data.toList||decide (a.data.toList=b.data.toList)))
 |.gtr=>.ret (.bool (!(Op.bytesLess a.data.toList b.data.toList||decide (a.data.toList=b.data.toList))))
 |.geq=>.ret (.bool (!Op.bytesLess a.data.toList b.data.toList))
 |_=>.fail
def js:BinOp->Bool
 |.shl|.shr=>true
 |_=>false
def a4g(op:BinOp):Value->Value->Q Value
 |.int k a,.int k' b=>match js op with
  |true=>wa op k a b
  |false=>.req (k=k') (yf op k a b)
 |.string a,.string b=>JG op a b
 |_,_=>.fail
def dvs:List AC->Option (List Value)
 |[]=>some []
 |.d (.v v)::cs=>(dvs cs).map (v :: ·)
 |_::_=>none
def eqA(i:TI) (xs ys:List AC):Q Bool:=match dvs xs,dvs ys with
 |some vs,some us=>.req (i.agg=true/\i.cmp≠[]/\vs.map uq=i.cmp.map some/\us.map uq=i.cmp.map some) (.ret (aK vs us))
 |_,_=>.fail
def eqV(i:TI) (k:TK):AV->AV->Q Bool
 |.agg xs,.agg ys=>eqA i xs ys
 |.c (.d (.v (.bool a))),.c (.d (.v (.bool b)))=>match k with|.bool=>.ret (a==b)|_=>.fail
 |.c (.ptr id ver _),.c (.d (.v (.pointer none)))=>match k with|.ptr _=>.rdB id λb=>.req (ver=b.ver/\b.c.isSome=true) (.ret false)|_=>.fail
 |.c (.d (.v (.pointer none))),.c (.d (.v (.pointer none)))=>match k with|.ptr _=>.ret true|_=>.fail
 |_,_=>.fail
def NR:BinOp->Option Bool
 |.eql=>some true
 |.neq=>some false
 |_=>none
def SJ:AV->Bool
 |.c (.d (.v (.int _ _)))=>true
 |.c (.d (.v (.string _)))=>true
 |_=>false
def ZR(op:BinOp) (i:TI) (x y:AV):Q AV:=match SJ x with
 |true=>match x,y with
  |.c (.d (.v a)),.c (.d (.v b))=>(a4g op a b).bind λv=>.req (v.oneCell'=true) (.ret (.c (.d (.v v))))
  |_,_=>.fail
 |false=>match NR op with
  |some e=>(eqV i i.k x y).bind λb=>.ret (.c (.d (.v (.bool (match e with|true=>b|false=> !b)))))
  |none=>.fail
def unQ(op:UnOp):AV->Q AV
 |.c (.d (.v (.bool b)))=>match op with|.not=>.ret (.c (.d (.v (.bool (!b)))))|_=>.fail
 |.c (.d (.v (.int k n)))=>match op with|.neg=>.ret (.c (.d (.v (.int k (k.wrap (0-n))))))|.xor=>.ret (.c (.d (.v (.int k (k.wrap (BitVec.ofInt k.bits (if k.signed then -1 else k.max) ^^^ BitVec.ofInt k.bits n).toNat)))))|_=>.fail
 |_=>.fail
def evG:Operand->Q GV
 |.tmp k=>.rdT k .ret
 |.const v=>.ret ⟨true,uO v⟩
 |.func f=>.ret ⟨true,.c (.d (.v (.func (.func f) #[] #[])))⟩
 |.global _=>.fail
def SK(c:Bool) (x y:GV):Q AV:=match c with
 |true=>.req (x.g=true) (.ret x.x)
 |false=>.req (y.g=true) (.ret y.x)
def LT(i:TI):AV->Q AV
 |.c (.ptr id ver off)=>.rdB id λb=>match b.c with
  |some cs=>.req (ver=b.ver/\off+i.size<=cs.length) (asV i ((cs.drop off).take i.size))
  |none=>.fail
 |.c (.eptr cs)=>.req (i.size<=cs.length) (asV i ((cs.take i.size).map .d))
 |.c (.rptr id ver k off sz)=>.rdR id λr=>match r.c with
  |some R=>.req (ver=r.ver/\sz=R.sz/\k<R.es.length/\off+i.size<=sz) (asV i ((((R.es.getD k []).drop off).take i.size).map .d))
  |none=>.fail
 |_=>.fail
def setAt{α:Type}(l:List α) (off:Nat) (xs:List α):List α:=l.take off++xs++l.drop (off+xs.length)
def BP(i:TI) (x:List AC):AV->Q (List Upd)
 |.c (.ptr id ver off)=>.rdB id λb=>match b.c with
  |some cs=>.req (ver=b.ver/\x.length=i.size/\off+i.size<=cs.length) (.ret [.b id ⟨b.ver,some (setAt cs off x)⟩])
  |none=>.fail
 |.c (.rptr id ver k off sz)=>(ur x).bind λd=>(lV d.2).bind λus=>.rdR id λr=>match r.c with
  |some R=>.req (ver=r.ver/\sz=R.sz/\R.fr=false/\id∉d.2/\k<R.es.length/\d.1.length=i.size/\off+i.size<=sz) (.ret (us++[.r id ⟨r.ver,some ⟨R.es.set k (setAt (R.es.getD k []) off d.1),R.sz,R.e,false⟩⟩]))
  |none=>.fail
 |_=>.fail
def ES(o:Nat):AV->Q AV
 |.c (.ptr id ver off)=>.rdB id λb=>.req (ver=b.ver/\b.c.isSome=true) (.ret (.c (.ptr id ver (off+o))))
 |.c (.eptr cs)=>.ret (.c (.eptr (cs.drop o)))
 |.c (.rptr id ver k off sz)=>.rdR id λr=>.req (ver=r.ver/\r.c.isSome=true) (.ret (.c (.rptr id ver k (off+o) sz)))
 |_=>.fail
def ET(z:Nat) (k:Int):AV->Q AV
 |.c (.d (.sl es))=>.req (0<=k/\k<es.length/\(es.getD k.toNat []).length=z) (.ret (.c (.eptr (es.getD k.toNat []))))
 |.c (.row id ver)=>.rdR id λr=>match r.c with
  |some R=>.req (ver=r.ver/\0<=k/\k<R.es.length/\R.sz=z/\R.e<jn) (.ret (.c (.rptr id ver k.toNat 0 z)))
  |none=>.fail
 |_=>.fail
def zF(n z:Nat) (k:Int):AV->Q AV
 |.c (.ptr id ver off)=>.rdB id λb=>.req (0<=k/\k<n/\ver=b.ver/\b.c.isSome=true) (.ret (.c (.ptr id ver (off+k.toNat*z))))
 |.c (.eptr cs)=>.req (0<=k/\k<n) (.ret (.c (.eptr (cs.drop (k.toNat*z)))))
 |.c (.rptr id ver i off sz)=>.rdR id λr=>.req (0<=k/\k<n/\ver=r.ver/\r.c.isSome=true) (.ret (.c (.rptr id ver i (off+k.toNat*z) sz)))
 |_=>.fail
def a2S:AV->Q Nat
 |.c (.d (.sl es))=>.ret es.length
 |.c .nil=>.ret 0
 |.c (.row id ver)=>.rdR id λr=>match r.c with
  |some R=>.req (ver=r.ver/\R.e<jn) (.ret R.es.length)
  |none=>.fail
 |_=>.fail
def Hs:AV->Q Nat
 |.c (.d (.v (.string s)))=>.ret s.size
 |_=>.fail
def BQ(z:Nat) (es:List (List DV)):Prop:=∀e∈es,e.length=z
def BR(d z:Nat) (lo hi:Option Int) (x:AC):Q (List Upd):=(toD x).bind λy=>(lV y.2).bind λus=>match y.1 with
 |.sl es=>.req (BQ z es/\0<=lo.getD 0/\lo.getD 0<=hi.getD es.length/\hi.getD es.length<=es.length) (.ret (us++[.t d ⟨true,.c (.d (.sl ((es.take (hi.getD es.length).toNat).drop (lo.getD 0).toNat)))⟩]))
 |_=>.fail
def Xv(d z:Nat) (hi:Option Int):AC->Q (List Upd)
 |.row id ver=>.rdR d λrd=>.rdR id λr=>match r.c with
  |some R=>.req (ver=r.ver/\R.e<jn/\R.fr=false/\R.sz=z/\0<=hi.getD R.es.length/\hi.getD R.es.length<=R.es.length) (.ret [.r id ⟨r.ver,none⟩,.r d ⟨rd.ver+1,some ⟨R.es.take (hi.getD R.es.length).toNat,R.sz,R.e,false⟩⟩,.t d ⟨true,.c (.row d (rd.ver+1))⟩])
  |none=>.fail
 |_=>.fail
def Ht(z:Nat) (l:Option Int):AC->Q AV
 |.row id ver=>.rdR id λr=>match r.c with
  |some R=>.req (ver=r.ver/\R.e<jn/\R.sz=z/\0<=l.getD 0/\l.getD 0<=R.es.length) (.ret (.rtl id ver (l.getD 0).toNat z))
  |none=>.fail
 |_=>.fail
def a2T(ie:TI):AV->Q (List Upd)
 |.rtl id ver i z=>.rdR id λr=>match r.c with
  |some R=>.req (ver=r.ver/\R.e<jn/\R.fr=false/\R.sz=z/\ie.size=z/\i<R.es.length) (.ret [.r id ⟨r.ver,some ⟨R.es.take i++List.replicate (R.es.length-i) (ie.zero.map ph),R.sz,R.e,false⟩⟩])
  |none=>.fail
 |_=>.fail
def uY(lo hi:Option Int):AV->Q AV
 |.c (.d (.v (.string s)))=>.req (0<=lo.getD 0/\lo.getD 0<=hi.getD s.size/\hi.getD s.size<=s.size) (.ret (.c (.d (.v (.string (s.extract (lo.getD 0).toNat (hi.getD s.size).toNat))))))
 |_=>.fail
def CW(n:Nat) (ie:TI) (k:Int):AV->Q AV
 |.agg xs=>(ur xs).bind λd=>.req (d.2=[]/\0<=k/\k<n/\d.1.length=n*ie.size) (asV ie (((d.1.drop (k.toNat*ie.size)).take ie.size).map .d))
 |_=>.fail
def zG(off:Nat) (ie:TI):AV->Q AV
 |.agg xs=>asV ie ((xs.drop off).take ie.size)
 |_=>.fail
def rz(z:Nat):Nat->List DV->List (List DV)
 |0,_=>[]
 |n+1,ds=>ds.take z::rz z n (ds.drop z)
def rA:Operand->Option Nat
 |.tmp k=>some k
 |_=>none
def LU{α:Type}(l h:Option Int) (n:Nat) (xs:List α):List α:=match l,h with
 |none,none=>xs
 |_,_=>(xs.take (h.getD n).toNat).drop (l.getD 0).toNat
def eK(k:Option Nat) (ds:List DV):List Upd:=match k with
 |some k=>[.t k ⟨true,.c (.eptr ds)⟩]
 |none=>[]
def xn(d:Nat) (k:Option Nat) (n z:Nat) (l h:Option Int):AC->Q (List Upd)
 |.ptr id ver off=>.rdB id λb=>match b.c with
  |some cs=>(ur cs).bind λy=>.req (off=0/\ver=b.ver/\y.2=[]/\y.1.length=n*z/\0<z/\n<=maxLen/\0<=l.getD 0/\l.getD 0<=h.getD n/\h.getD n<=n) (.ret (.b id ⟨b.ver,none⟩::(eK k y.1++[.t d ⟨true,.c (.d (.sl (LU l h n (rz z n y.1))))⟩])))
  |none=>.fail
 |.eptr cs=>.req (cs.length=n*z/\0<z/\n<=maxLen/\0<=l.getD 0/\l.getD 0<=h.getD n/\h.getD n<=n) (.ret [.t d ⟨true,.c (.d (.sl (LU l h n (rz z n cs))))⟩])
 |_=>.fail
def a2U(d k:Nat) (f:FuncId):AV->Q (List Upd)
 |.c (.ptr id ver off)=>.rdB id λb=>match b.c with
  |some cs=>(ur cs).bind λy=>.req (off=0/\ver=b.ver/\y.2=[]/\k≠d) (.ret [.b id ⟨b.ver,none⟩,.t k ⟨true,.c (.eptr y.1)⟩,.t d ⟨true,.c (.d (.clo f y.1))⟩])
  |none=>.fail
 |.c (.eptr cs)=>.ret [.t d ⟨true,.c (.d (.clo f cs))⟩]
 |_=>.fail
def Xw:TK->Bool
 |.arr _ _=>true
 |_=>false
def Xx:List AC->Option (List DV)
 |[]=>some []
 |.d x::xs=>(Xx xs).map (x :: ·)
 |_=>none
def Xy(k:Option Nat) (a:AV) (us:List Upd):Q (List Upd):=match a with
 |.c (.ptr id ver off)=>match us with
  |[.b _ ⟨_,some cs⟩]=>(Q.ofOpt (Xx cs)).bind λds=>.req (off=0) (.ret (.b id ⟨ver,none⟩::eK k ds))
  |_=>.fail
 |_=>.ret us
def wb(i:TI) (k:Option Nat) (a:AV) (us:List Upd):Q (List Upd):=if(i.cut&&Xw i.k)=true then Xy k a us else .ret us
def uZ(d k:Option Nat) (n z:Nat) (l h:Option Int):AV->Q (List Upd)
 |.c x=>(Q.ofOpt d).bind λd=>xn d k n z l h x
 |_=>.fail
def zH(k:Int):AV->Q AV
 |.c (.d (.v (.string s)))=>.req (0<=k/\k<s.size) (.ret (.c (.d (.v (.int .u8 ((s.data.toList.getD k.toNat 0).toNat:Int))))))
 |_=>.fail
def CX(place:Nat->Option (Nat×Nat)) (cs:List AC):List (Nat×AV)->Q (List AC)
 |[]=>.ret cs
 |p::rest=>p.2.cells.bind λv=>match place p.1 with
  |some q=>.req (v.length=q.2/\q.1+q.2<=cs.length) (CX place (setAt cs q.1 v) rest)
  |none=>.fail
def LV:List (Nat×AV)->Q (List (Nat×List DV)×List Nat)
 |[]=>.ret ([],[])
 |p::ps=>p.2.cells.bind λcs=>(ur cs).bind λd=>(LV ps).bind λds=>.ret ((p.1,d.1)::ds.1,d.2++ds.2)
def LW(z:Nat) (es:List (List DV)):List (Nat×List DV)->Q (List (List DV))
 |[]=>.ret es
 |p::rest=>.req (p.2.length=z/\p.1<es.length) (LW z (es.set p.1 p.2) rest)
def CY(d e z by_:Nat) (x y:AC):Q (List Upd):=
 (toD y).bind λy=>match y.1 with
  |.sl ys=>.req (BQ z ys/\e<jn) ((lV y.2).bind λus=>.rdR d λrd=>match x with
   |.nil=>.req (ys.length*by_<=140737488355328/\ys.length<=4611686018427387904) (.ret (us++[.r d ⟨rd.ver+1,some ⟨ys,z,e,false⟩⟩,.t d ⟨true,.c (.row d (rd.ver+1))⟩]))
   |.row id ver=>.rdR id λr=>match r.c with
    |some R=>.req (ver=r.ver/\R.sz=z/\R.e=e/\(R.es.length+ys.length)*by_<=140737488355328/\R.es.length+ys.length<=4611686018427387904)
     (.ret (us++[.r id ⟨r.ver,none⟩,.r d ⟨rd.ver+1,some ⟨R.es++ys,z,e,R.fr||y.2.contains id⟩⟩,.t d ⟨true,.c (.row d (rd.ver+1))⟩]))
    |none=>.fail
   |_=>.fail)
  |_=>.fail
def rB(x:UInt8):List DV:=[.v (.int .u8 x.toNat)]
def wc:List DV->UInt8
 |[.v (.int _ n)]=>UInt8.ofNat n.toNat
 |_=>0
def BT:DV->Q (List UInt8)
 |.sl es=>.req (es=(es.map wc).map rB) (.ret (es.map wc))
 |_=>.fail
def mE(b:Bool):Nat:=jn+4+b.toNat
theorem ZS(b:Bool):mE b<qD:=by cases b <;> decide
theorem a3a(b:Bool):¬lS (mE b):=by cases b <;> decide
def KK(k:TK) (v:Value):Prop:=match k,v with
 |.int q,.int q' _=>q'=q
 |.str,.string _=>True
 |_,_=>False
def wid:TK->Option Nat
 |.arr n _=>if n<=1000 then some n else none
 |_=>none
def mW(k:TK) (b:Bool):Nat:=match wid k with
 |some n=>jn+4*n+2+b.toNat
 |none=>mE b
def mZ(k:TK) (v:Value):Value:=match wid k,v with
 |some _,.string s=>zD s.data.toList
 |_,v=>v
def ZT:Value->Prop
 |.string _=>True
 |_=>False
def KA(k:TK) (v:Value):Prop:=match wid k with
 |some _=>ZT v
 |none=>KK k v
def KL(k:TK) (v:Value):Prop:=match wid k with
 |some n=>∃s:ByteArray,v= .string s/\s.data.toList.length=n
 |none=>KK k v
def unB:AC->UInt8
 |.d (.v (.int _ n))=>UInt8.ofNat n.toNat
 |_=>0
def bAC(b:UInt8):AC:=.d (.v (.int .u8 (b.toNat:Int)))
def ZU(xs:List AC):Q (List UInt8):=.req (xs=(xs.map unB).map bAC) (.ret (xs.map unB))
def a2V:AC->Q Value
 |.d (.v (.int k n))=>.ret (.int k n)
 |.d (.v (.string s))=>.ret (.string s)
 |_=>.fail
def a3b(k:Value) (es:List (List DV)):Option (List DV):=(CT k es).map λi=>(es.getD i []).drop 1
def SA(k:Value) (x:List DV) (es:List (List DV)):List (List DV):=match CT k es with
 |some i=>es.set i (.v k::x)
 |none=>es++[.v k::x]
def BU(k:TK) (es:List (List DV)):Prop:=∀e∈es,∃v r,e= .v v::r/\KA k v
def Wk(T:TypeId->Option TI) (ik:TI) (x:AV):Q Value:=match ik.k with
 |.arr n e=>(Q.ofOpt (T e)).bind λie=>match x with
  |.agg xs=>.req (n<=1000/\ie.k= .int .u8/\ie.size=1/\ik.size=n/\ik.cmp=List.replicate n (.i .u8)/\0<n/\xs.length=n) ((ZU xs).bind λl=>.ret (.string ⟨l.toArray⟩))
  |_=>.fail
 |_=>match x with
  |.c x=>.req (wid ik.k=none) (a2V x)
  |_=>.fail
def a5c(ik iv:TI) (kv:Value):AV->Q (List DV×Bool)
 |.c (.row id ver)=>.rdR id λr=>match r.c with
  |some R=>.req (ver=r.ver/\R.e=mW ik.k iv.agg/\(wid ik.k=none->KK ik.k kv)/\BU ik.k R.es) (.ret ((a3b kv R.es).getD (iv.zero.map ph),(CT kv R.es).isSome))
  |none=>.fail
 |_=>.fail
def EU(ag:Bool):AV->Q (List AC)
 |.c x=>.req (ag=false) (.ret [x])
 |.agg xs=>.req (ag=true) (.ret xs)
 |_=>.fail
def ZV(ik iv:TI) (kv:Value) (x:List AC):AV->Q (List Upd)
 |.c (.row id ver)=>(ur x).bind λd=>(lV d.2).bind λus=>.rdR id λr=>match r.c with
  |some R=>.req (ver=r.ver/\R.e=mW ik.k iv.agg/\R.sz=1+iv.size/\R.fr=false/\id∉d.2/\d.1.length=iv.size/\(wid ik.k=none->KK ik.k kv)/\BU ik.k R.es) (.ret (us++[.r id ⟨r.ver,some ⟨SA kv d.1 R.es,R.sz,R.e,false⟩⟩]))
  |none=>.fail
 |_=>.fail
def CZ:AV->Q Nat
 |.c (.row id ver)=>.rdR id λr=>match r.c with
  |some R=>.req (ver=r.ver/\jn<=R.e/\R.e≠sw/\¬lS R.e) (.ret R.es.length)
  |none=>.fail
 |_=>.fail
def yR(k:Nat):AV->Q AV
 |.tup xs=>Q.ofOpt xs[k]?
 |.nx b x y=>match k with
  |0=>.ret (.c (.d (.v (.bool b))))
  |1=>.req (b=true) (.ret (.c x))
  |2=>.req (b=true) (.ret (.c y))
  |_=>.fail
 |.ent true id pv kv=>match k with
  |1=>.rdB (pbx id) λb=>.req (pv=b.ver) (.ret (.ent false id pv kv))
  |_=>.fail
 |_=>.fail
def JH(k:TK) (d:Nat) (x:AV):Q (List Upd):=match k,x with
 |.str,.c (.d (.v (.string s)))=>.rdR d λr=>.ret [.r d ⟨r.ver+1,some ⟨[[.v (.string s),.v (.int .i64 0)]],2,sw,false⟩⟩,.t d ⟨true,.c (.row d (r.ver+1))⟩]
 |_,_=>.fail
def NS:List (List DV)->ByteArray
 |[.v (.string s),_]::_=>s
 |_=>⟨#[]⟩
def NT:List (List DV)->Int
 |[_,.v (.int _ p)]::_=>p
 |_=>0
def Hu(s:ByteArray) (p:Int):Int:=if p.toNat<s.size then((p.toNat+(Utf8.decode s p.toNat).2:Nat):Int)else p
def SL(d:Nat):AV->Q (List Upd)
 |.c (.row id ver)=>.rdR id λr=>match r.c with
  |some R=>.req (ver=r.ver/\R.e=sw/\R.fr=false) (.ret [.r id ⟨r.ver,some ⟨[[.v (.string (NS R.es)),.v (.int .i64 (Hu (NS R.es) (NT R.es)))]],R.sz,R.e,false⟩⟩,
   .t d ⟨true,.nx (decide ((NT R.es).toNat<(NS R.es).size)) (.d (.v (.int .i64 (NT R.es)))) (.d (.v (.int .i32 (((Utf8.decode (NS R.es) (NT R.es).toNat).1:Nat):Int))))⟩])
  |none=>.fail
 |_=>.fail
def TK.conc:TK->Bool
 |.other=>false
 |_=>true
def NU(i:TI):Q AV:=match i.agg with
 |true=>.ret (.agg (i.zero.map iG))
 |false=>match i.zero with
  |[z]=>.ret (.c (iG z))
  |_=>.fail
def Da(i:TI) (t:TypeId):AV->Q AV
 |.c (.d (.it t' x))=>.req (i.k.conc=true/\i.agg=false) (match decEq t' t with
  |.isTrue _=>.ret (.tup [.c (.d x),.c (.d (.v (.bool true)))])
  |.isFalse _=>(NU i).bind λz=>.ret (.tup [z,.c (.d (.v (.bool false)))]))
 |_=>.fail
section
variable (T:TypeId->Option TI) (cq:Oper->Call->Q (List Upd))
def tq(t:TypeId):Q TI:=.ofOpt (T t)
def opQ(o:Oper):Q (List Upd):=match o.op with
 |.move x=>(ev x).bind (one o.dst)
 |.assign x=>(ev x).bind (one o.dst)
 |.pick c a b=>(ev c).bind λc=>(Q.bool c).bind λc=>(evG a).bind λa=>(evG b).bind λb=>(SK c a b).bind (one o.dst)
 |.alloc t=>(tq T t).bind λi=>(Q.ofOpt o.dst).bind λd=>.rdB d λb=>.ret [.b d ⟨b.ver+1,some (i.zero.map iG)⟩,.t d ⟨true,.c (.ptr d (b.ver+1) 0)⟩]
 |.box _t x=>(Q.ofOpt o.dst).bind λd=>(ev x).bind λv=>v.cells.bind λcs=>.rdB d λb=>.ret [.b d ⟨b.ver+1,some cs⟩,.t d ⟨true,.c (.ptr d (b.ver+1) 0)⟩]
 |.build t parts=>(tq T t).bind λi=>(Wj parts.toList).bind λps=>match i.k with
  |.struct fs=>(CX (fs[·]?) (i.zero.map iG) ps).bind λcs=>one o.dst (.agg cs)
  |.arr _ e=>(tq T e).bind λie=>(CX (λj=>some (j*ie.size,ie.size)) (i.zero.map iG) ps).bind λcs=>one o.dst (.agg cs)
  |_=>.fail
 |.buildSlice t len parts=>(tq T t).bind λi=>(Q.ofOpt o.dst).bind λd=>match i.k with
  |.slice e=>(tq T e).bind λie=>.req (len*ie.size<=16777216/\0<ie.size/\(len=0->parts.size=0)/\e<jn) ((Wj parts.toList).bind λps=>(LV ps).bind λy=>(lV y.2).bind λus=>(LW ie.size (List.replicate len (ie.zero.map ph)) y.1).bind λes=>
   .rdR d λr=>.ret (us++[.r d ⟨r.ver+1,some ⟨es,ie.size,e,false⟩⟩,.t d ⟨true,.c (.row d (r.ver+1))⟩]))
  |_=>.fail
 |.load t a=>(tq T t).bind λi=>(ev a).bind λa=>(LT i a).bind (one o.dst)
 |.store t a x=>match o.dst with
  |some _=>.fail
  |none=>(tq T t).bind λi=>(ev a).bind λa'=>(ev x).bind λx=>x.cells.bind λcs=>(BP i cs a').bind λus=>wb i (rA a) a' us
 |.nilCheck x=>(ev x).bind λx=>match x with
  |.c (.ptr id ver _off)=>.rdB id λb=>.req (ver=b.ver/\b.c.isSome=true) (one o.dst x)
  |.c (.eptr _)=>one o.dst x
  |.c (.rptr id ver _ _ _)=>.rdR id λr=>.req (ver=r.ver/\r.c.isSome=true) (one o.dst x)
  |.c (.d (.v (.func (.func _) _ _)))=>one o.dst x
  |.c (.d (.clo _ _))=>one o.dst x
  |_=>.fail
 |.binOp op t x y _=>(tq T t).bind λi=>(ev x).bind λx=>(ev y).bind λy=>(ZR op i x y).bind (one o.dst)
 |.unOp op _ x=>(ev x).bind λx=>(unQ op x).bind (one o.dst)
 |.convert src dst x=>(tq T src).bind λi=>(tq T dst).bind λj=>(ev x).bind λx=>match i.k,j.k with
  |.int _,.int k=>(Q.int x).bind λn=>one o.dst (.c (.d (.v (.int k (k.wrap n)))))
  |.str,.str=>match x with
   |.c (.d (.v (.string _)))=>one o.dst x
   |_=>.fail
  |.slice e,.str=>(tq T e).bind λie=>match ie.k with
   |.int .u8=>match x with
    |.c x=>(toD x).bind λy=>(BT y.1).bind λl=>one o.dst (.c (.d (.v (.string ⟨l.toArray⟩))))
    |_=>.fail
   |_=>.fail
  |.str,.slice e=>(tq T e).bind λie=>match ie.k with
   |.int .u8=>match x with
    |.c (.d (.v (.string str)))=>.req (str.size<=maxLen) (one o.dst (.c (.d (.sl (str.data.toList.map rB)))))
    |_=>.fail
   |_=>.fail
  |_,_=>.fail
 |.slice t o' lo hi none=>(tq T t).bind λi=>(ev o').bind λx=>(evo lo).bind λl=>(evo hi).bind λh=>match i.k with
   |.slice e=>(tq T e).bind λie=>match x with
    |.c x=>(Q.ofOpt o.dst).bind λd=>if(i.cut&&l.isNone)=true then Xv d ie.size h x else if(i.cut&&h.isNone)=true then(Ht ie.size l x).bind (one o.dst)else BR d ie.size l h x
    |_=>.fail
   |.str=>(uY l h x).bind (one o.dst)
   |.arr n e=>(tq T e).bind λie=>uZ o.dst (rA o') n ie.size l h x
   |_=>.fail
 |.fieldAddr t x f=>(tq T t).bind λi=>match i.k with
  |.struct fs=>(Q.ofOpt fs[f]?).bind λp=>(ev x).bind λx=>(ES p.1 x).bind (one o.dst)
  |_=>.fail
 |.indexAddr t x k=>(tq T t).bind λi=>(ev x).bind λx=>(ev k).bind λk=>(Q.int k).bind λk=>match i.k with
  |.slice e=>(tq T e).bind λie=>(ET ie.size k x).bind (one o.dst)
  |.arr n e=>(tq T e).bind λie=>(zF n ie.size k x).bind (one o.dst)
  |_=>.fail
 |.index t x k=>(tq T t).bind λi=>(ev x).bind λx=>(ev k).bind λk=>(Q.int k).bind λk=>match i.k with
  |.str=>(zH k x).bind (one o.dst)
  |.arr n e=>(tq T e).bind λie=>(CW n ie k x).bind (one o.dst)
  |_=>.fail
 |.field t x f=>(tq T t).bind λi=>match i.k with
  |.struct fs=>(Q.ofOpt fs[f]?).bind λp=>(Q.ofOpt i.fts[f]?).bind λft=>(tq T ft).bind λie=>(ev x).bind λx=>(zG p.1 ie x).bind (one o.dst)
  |_=>.fail
 |.extract x k=>(ev x).bind λx=>(yR k x).bind (one o.dst)
 |.makeSlice t l c=>(tq T t).bind λi=>(Q.ofOpt o.dst).bind λd=>(ev l).bind λl=>(Q.int l).bind λl=>(ev c).bind λc=>(Q.int c).bind λc=>match i.k with
  |.slice e=>(tq T e).bind λie=>.req (0<ie.size/\0<=l/\l<=c/\(ie.bytes:Int)*c<=281474976710656/\c<=4611686018427387904/\e<jn) (.rdR d λr=>
   .ret [.r d ⟨r.ver+1,some ⟨List.replicate l.toNat (ie.zero.map ph),ie.size,e,false⟩⟩,.t d ⟨true,.c (.row d (r.ver+1))⟩])
  |_=>.fail
 |.makeMap t r=>(tq T t).bind λi=>(Q.ofOpt o.dst).bind λd=>(evo r).bind λ_=>match i.k with
  |.map kt vt=>(tq T kt).bind λik=>(tq T vt).bind λiv=>.rdR d λr=>.ret [.r d ⟨r.ver+1,some ⟨[],1+iv.size,mW ik.k iv.agg,false⟩⟩,.t d ⟨true,.c (.row d (r.ver+1))⟩]
  |_=>.fail
 |.mapUpdate t m k x=>match o.dst with
  |some _=>.fail
  |none=>(tq T t).bind λi=>(ev m).bind λm=>(ev k).bind λk=>(ev x).bind λx=>match i.k with
   |.map kt vt=>(tq T kt).bind λik=>(tq T vt).bind λiv=>(Wk T ik k).bind λkv=>(EU iv.agg x).bind λcs=>ZV ik iv kv cs m
   |_=>.fail
 |.range t x=>(tq T t).bind λi=>(Q.ofOpt o.dst).bind λd=>(ev x).bind λx=>JH i.k d x
 |.next x true=>(Q.ofOpt o.dst).bind λd=>(ev x).bind λx=>SL d x
 |.makeFunc fn first captured=>(Q.ofOpt o.dst).bind λd=>match fn,first.toList,captured.toList with
  |.func f,[],[]=>.ret [.t d ⟨true,.c (.d (.v (.func (.func f) #[] #[])))⟩]
  |.func f,[],[.tmp k]=>(ev (.tmp k)).bind λv=>a2U d k f v
  |_,_,_=>.fail
 |.makeInterface t x=>(tq T t).bind λi=>(Q.ofOpt o.dst).bind λd=>(ev x).bind λx=>match x with
  |.c x=>.req (i.k.conc=true) ((toD x).bind λy=>(lV y.2).bind λus=>.ret (us++[.t d ⟨true,.c (.d (.it t y.1))⟩]))
  |_=>.fail
 |.typeAssert x _ t true=>(tq T t).bind λi=>(ev x).bind λx=>(Da i t x).bind (one o.dst)
 |.call c=>cq o c
 |_=>.fail
def Db(d:Option Nat):List Upd:=match d with
 |some d=>[.t d ⟨false,.any⟩]
 |none=>[]
def opD(ops:List Oper) (o:Oper):Q (List Upd):=match o.guard with
 |none=>opQ T cq o
 |some (j,want)=>match(ops[j]?).bind (·.dst) with
  |some d=>.rdT d λx=>match x.g with
   |false=>.ret (Db o.dst)
   |true=>(Q.bool x.x).bind λb=>match b==want with
    |true=>opQ T cq o
    |false=>.ret (Db o.dst)
  |none=>.fail
def wpO(ops:List Oper) (o:Oper) (s:St) (K:List Upd->Prop):Prop:=(opD T cq ops o).wp s K
end
def NV:Value->Bool
 |.agg _=>true
 |_=>false
structure TOk (P:Program) (t:TypeId) (i:TI):Prop where
 info:∃inf z,P.info? t=some inf/\inf.size=i.size/\inf.bytes=i.bytes/\inf.zero=some z/\z.cells.toList=i.zero/\i.zero.length=i.size/\(i.zero.all Value.oneCell')=true
 und:∃d,P.underlying t=some d/\match i.k with
  |.int k=>d= .int k
  |.bool=>d= .bool
  |.str=>d= .string
  |.slice e=>d= .slice e
  |.arr n e=>d= .array n e
  |.struct fs=>∃fields:Array Field,d= .struct fields/\fields.toList.map (λf=>(f.offset,P.cellsOf f.type))=fs/\(fields.toList.all λf=>decide (0<P.cellsOf f.type)&&(P.info? f.type).isSome)=true
  |.ptr e=>d= .pointer e
  |.map k v=>d= .map k v
  |.other=>(match d with|.struct _|.array _ _=>false|_=>true)=true
 agg:∀inf z,P.info? t=some inf->inf.zero=some z->NV z=i.agg
 cmp:i.cmp≠[]->(∃d,d<=10000/\JC P d t=some i.cmp)/\P.eqGuardType P.depth t=false
 fts:i.fts≠[]->∃fields:Array Field,P.underlying t=some (.struct fields)/\fields.toList.map (·.type)=i.fts
theorem TOk.mk'{P:Program}{t:TypeId}{i:TI}(hinfo:(P.info? t).map (λj=>(j.zero.map (λz=>(z.cells.toList,NV z)),j.size,j.bytes))=some (some (i.zero,i.agg),i.size,i.bytes)) (hlen:i.zero.length=i.size) (hone:(i.zero.all Value.oneCell')=true)
  (und:∃d,P.underlying t=some d/\match i.k with
  |.int k=>d= .int k
  |.bool=>d= .bool
  |.str=>d= .string
  |.slice e=>d= .slice e
  |.arr n e=>d= .array n e
  |.struct fs=>∃fields:Array Field,d= .struct fields/\fields.toList.map (λf=>(f.offset,P.cellsOf f.type))=fs/\(fields.toList.all λf=>decide (0<P.cellsOf f.type)&&(P.info? f.type).isSome)=true
  |.ptr e=>d= .pointer e
  |.map k v=>d= .map k v
  |.other=>(match d with|.struct _|.array _ _=>false|_=>true)=true)
  (cmp:i.cmp≠[]->(∃d,d<=10000/\JC P d t=some i.cmp)/\P.eqGuardType P.depth t=false:=by exact λh=>(h rfl).elim)
  (fts:i.fts≠[]->∃fields:Array Field,P.underlying t=some (.struct fields)/\fields.toList.map (·.type)=i.fts:=by exact λh=>(h rfl).elim):TOk P t i:=by
 refine⟨?_,und,λinf z hi hz=>?_,cmp,fts⟩
 rotate_left
 ·rw[hi]at hinfo;simp only[a6e,hz,Option.some.injEq,Prod.mk.injEq]at hinfo;exact hinfo.1.2
 cases hi:P.info? t with
 |none=>rw[hi]at hinfo;cases hinfo
 |some inf=>
  rw[hi]at hinfo;simp only[a6e,Option.some.injEq,Prod.mk.injEq]at hinfo;obtain⟨h1,h2,h3⟩:=hinfo;cases hz:inf.zero with
  |none=>rw[hz]at h1;cases h1
  |some z=>
   rw[hz]at h1;simp only[a6e,Option.some.injEq,Prod.mk.injEq]at h1;exact⟨inf,z,rfl,h2,h3,hz,h1.1,hlen,hone⟩
section
variable {P:Program}{t:TypeId}{i:TI}
theorem TOk.sizeOf(h:TOk P t i) (w:World):(Go.sizeOf t).run P w= .ok i.size w:=by
 obtain⟨inf,z,h1,h2,_⟩:=h.info;simp[Go.sizeOf,typeInfo,h1,h2]
theorem TOk.zeroV(h:TOk P t i) (w:World):∃z,(zeroValue t).run P w= .ok z w/\z.cells.toList=i.zero:=by
 obtain⟨inf,z,h1,_,_,h4,h5,_⟩:=h.info;exact⟨z,by simp[zeroValue,typeInfo,h1,h4],h5⟩
theorem TOk.isAgg(h:TOk P t i) (w:World):(Go.isAgg t).run P w= .ok i.agg w:=by
 obtain⟨d,h1,h2⟩:=h.und;have hu:=run_underlying h1 w;unfold Go.isAgg;rw[Sem.run_bind,hu,Result.andThen_ok];unfold TI.agg;cases hk:i.k <;> rw[hk]at h2 <;> simp only at h2
 case struct fs=>obtain⟨fields,rfl,_⟩:=h2;rfl
 case other=>cases d <;> simp_all
 all_goals subst h2;rfl
theorem Hv(h:TOk P t i){w:World}{ad:Addr}{xs:List Value}(hl:xs.length=i.size) (hc:∀j u,xs[j]?=some u->w.cell? (ad.add j)=some u) :
  (i.agg=true->(loadVar t ad).run P w= .ok (.agg xs.toArray) w)/\(i.agg=false->∀x,xs=[x]->(loadVar t ad).run P w= .ok x w):=by
 refine⟨λha=>?_,λha x hx=>?_⟩
 ·unfold loadVar;simp only[Sem.run_bind,h.isAgg,Result.andThen_ok,ha,a6x,h.sizeOf];rw[<-hl,run_loadCells_list w ad xs hc];rfl
 ·subst hx;have h0:=hc 0 x rfl;rw[add_zero]at h0;unfold loadVar;simp only[Sem.run_bind,h.isAgg,Result.andThen_ok,ha];simp[h0]
theorem nA(g:Nat) (ty:TypeId):∀(vs:List Value) (o:Nat) (w:World) (cur:Array Value),w.heap[g]?=some (.cells cur ty (0,0))->o+vs.length<=cur.size->
  ∃cur':Array Value,(w.setCells g o vs).heap[g]?=some (.cells cur' ty (0,0))/\cur'.toList=setAt cur.toList o vs
 |[],o,w,cur,h,hl=>⟨cur,h,by simp[setAt]⟩
 |v::vs,o,w,cur,h,hl=>by
  simp only[a54]at hl;have h1:=heap_setCell_same w g o cur ty v h;obtain⟨cur',h2,h3⟩:=nA g ty vs (o+1) (w.setCell ⟨g,o,none⟩ v) (cur.setIfInBounds o v) h1 (by simp;omega);refine⟨cur',h2,?_⟩;rw[h3];simp only[setAt,Array.toList_setIfInBounds,a54];have hs:cur.toList.length=cur.size:=a59;rw[List.take_set,List.drop_set,a5W (by omega)];have e1:(cur.toList.take (o+1)).set o v=cur.toList.take o++[v]:=by
   rw[a7t (by omega),a7B _ _ (by simp;omega)];simp[a7u (show o<=cur.size by omega)]
  rw[e1];simp[a6D,a6I 1]
theorem uP(g:Nat) (k:Nat) (hk:k≠g):∀(vs:List Value) (o:Nat) (w:World),(w.setCells g o vs).heap[k]?=w.heap[k]?
 |[],_,_=>rfl
 |v::vs,o,w=>(uP g k hk vs (o+1) _).trans (heap_setCell_other w ⟨g,o,none⟩ k v hk)
theorem uQ(g:Nat):∀(vs:List Value) (o:Nat) (w:World),(w.setCells g o vs).os=w.os/\(w.setCells g o vs).tape=w.tape/\(w.setCells g o vs).output=w.output/\(w.setCells g o vs).heap.size=w.heap.size
 |[],_,_=>⟨rfl,rfl,rfl,rfl⟩
 |v::vs,o,w=>by
  obtain⟨h1,h2,h3,h4⟩:=uQ g vs (o+1) (w.setCell ⟨g,o,none⟩ v);exact⟨h1,h2,h3,h4.trans (by simp[World.setCell])⟩
theorem nl(g o:Nat) (vs:List Value) (w:World):w.grownBy (w.setCells g o vs) (some g):=by
 obtain⟨h1,h2,h3,h4⟩:=uQ g vs o w;exact⟨h1,h2,h3,Nat.le_of_eq h4.symm,λk _ hk=>uP g k (λe=>hk (by rw[e])) vs o w⟩
theorem sM(h:TOk P t i){w:World}{g off:Nat}{cur:Array Value}{ty:TypeId}(hg:w.heap[g]?=some (.cells cur ty (0,0))){v:Value}{vs:List Value}(hv:v.cells.toList=vs) (hl:vs.length=i.size) (hr:off+vs.length<=cur.size) (h1:∀u∈vs,u.oneCell'=true) :
  (storeVar t ⟨g,off,none⟩ v).run P w= .ok () (w.setCells g off vs):=by
 have hsz:v.cells.size=i.size:=by rw[<-hl,<-hv,a59]
 unfold storeVar;simp only[Sem.run_bind,h.sizeOf,Result.andThen_ok,hsz,ne_eq,not_true_eq_false,a6o];rw[hv];exact run_storeCells_cells (P:=P) g off vs 0 w (λj hj=>by rw[cell_of_row w g _ cur ty _ hg];simp;omega) (λj _=>frozen_of_row w g _ cur ty hg) h1
end
def NW(P:Program) (o:Oper) (q:Q (List Upd)):Prop:=∀(W0:World) (M:Own) (s:St) (a:Act) (w:World) (K:List Upd->Prop) (Q':Exit->Act->World->Prop),
 (∀d,o.dst=some d->d<s.n)->uX W0 M s a w->q.wp s K->o.wp P a w (λa' w'=>∃us,K us/\uX W0 M (s.app us) a' w') Q'
section
variable {P:Program}{W0:World}{M:Own}{G:Gh}{s:St}{a:Act}{w:World}{o:Oper}{K:List Upd->Prop}{Q':Exit->Act->World->Prop}
theorem eV{w':World}{v:Value}{next:Act->World->Prop}(h:(execOp a.eval o).run P w= .ok (.value v) w') (hn:next (a.put o.dst v) w'):o.wp P a w next Q':=by
 unfold Oper.wp;rw[h];exact hn
theorem Dc{w':World}{next:Act->World->Prop}(h:(execOp a.eval o).run P w= .ok .skip w') (hn:next (a.put o.dst undef) w'):o.wp P a w next Q':=by
 unfold Oper.wp;rw[h];exact hn
theorem Rel.putOne(h:Rel W0 M G s a w) (hd:∀d,o.dst=some d->d<s.n){x:AV}{v:Value}(hx:AVr G s w x v):uX W0 M (s.app (Hr o.dst x)) (a.put o.dst v) w:=by
 cases hod:o.dst with
 |none=>exact⟨G,h⟩
 |some d=>exact⟨G,h.put (hd d hod) ⟨λ_=>hx,λe=>by cases e⟩⟩
theorem fO(h:Rel W0 M G s a w) (hd:∀d,o.dst=some d->d<s.n){x:AV}{v:Value}(hx:AVr G s w x v) (hK:K (Hr o.dst x)) (hr:(execOp a.eval o).run P w= .ok (.value v) w) :
  o.wp P a w (λa' w'=>∃us,K us/\uX W0 M (s.app us) a' w') Q':=eV hr ⟨_,hK,h.putOne hd hx⟩
theorem zI{v:Value}(h:v.oneCell'=true):ACr G s w (iG v) v:=by
 unfold iG;split
 ·simp[ACr]
 ·simp[ACr,DVr,h]
theorem tP:∀{vs:List Value},(vs.all Value.oneCell')=true->ACs G s w (vs.map iG) vs
 |[],_=>by simp[ACs]
 |v::vs,h=>by
  simp only[a61,a5S]at h;simp only[a55,ACs];exact⟨v,vs,rfl,zI h.1,tP h.2⟩
theorem EV(v:Value):AVr G s w (uO v) v:=by
 unfold uO;split
 ·split
  ·simp only[AVr];exact⟨_,rfl,tP (by assumption)⟩
  ·simp only[AVr]
 ·simp only[AVr]
 ·rename_i h1 h2;simp only[AVr];refine zI ?_;cases v <;> first | rfl | exact(h1 _ rfl).elim | exact(h2 _ rfl).elim
theorem eW(h:Rel W0 M G s a w){x:Operand}{K:AV->Prop}(hq:(ev x).wp s K):∃v,K v/\AVr G s w v (a.eval x):=by
 cases x with
 |tmp k=>
  simp only[ev,Q.wp]at hq;exact⟨_,hq.2,(h.tm k).1 hq.1⟩
 |const v=>exact⟨_,hq,EV v⟩
 |global g=>exact hq.elim
 |func f=>
  refine⟨_,hq,?_⟩;simp only[AVr,ACr,DVr];exact⟨rfl,rfl⟩
theorem Wl(h:Rel W0 M G s a w){x:Operand}{K:GV->Prop}(hq:(evG x).wp s K):∃v,K v/\GVr G s w v (a.eval x):=by
 cases x with
 |tmp k=>exact⟨_,hq,h.tm k⟩
 |const v=>exact⟨_,hq,λ_=>EV v,λe=>by cases e⟩
 |global g=>exact hq.elim
 |func f=>
  refine⟨_,hq,λ_=>?_,λe=>by cases e⟩;simp only[AVr,ACr,DVr];exact⟨rfl,rfl⟩
theorem JI(h:Rel W0 M G s a w):∀{xs:List Operand}{K:List AV->Prop},(evs xs).wp s K->∃vs,K vs/\AVs G s w vs (xs.map a.eval)
 |[],K,hq=>⟨[],hq,by simp[AVs]⟩
 |x::xs,K,hq=>by
  simp only[evs,Q.wp_bind,Q.wp]at hq;obtain⟨v,hq,h1⟩:=eW h hq;obtain⟨vs,hq,h2⟩:=JI h hq;exact⟨_,hq,by simp only[AVs,a55];exact⟨_,_,rfl,h1,h2⟩⟩
theorem BV{x:AV}{v:Value}{K:Int->Prop}(hx:AVr G s w x v) (hq:(Q.int x).wp s K):∃k n,v= .int k n/\K n:=by
 unfold Q.int at hq;split at hq
 ·rename_i k n;simp only[AVr,ACr,DVr]at hx;exact⟨k,n,hx.1,hq⟩
 ·exact hq.elim
theorem NX(h:Rel W0 M G s a w){x:Option Operand}{K:Option Int->Prop}(hq:(evo x).wp s K):(x=none/\K none)\/∃y k n,x=some y/\K (some n)/\a.eval y= .int k n:=by
 cases x with
 |none=>exact .inl ⟨rfl,hq⟩
 |some y=>
  simp only[evo,Q.wp_bind,Q.wp]at hq;obtain⟨v,hq,h1⟩:=eW h hq;obtain⟨k,n,h2,hq⟩:=BV h1 hq;exact .inr ⟨y,k,n,rfl,hq,h2⟩
theorem NY{x:AV}{v:Value}{K:Bool->Prop}(hx:AVr G s w x v) (hq:(Q.bool x).wp s K):∃b,v= .bool b/\x= .c (.d (.v (.bool b)))/\K b:=by
 unfold Q.bool at hq;split at hq
 ·rename_i b;simp only[AVr,ACr,DVr]at hx;exact⟨b,hx.1,rfl,hq⟩
 ·exact hq.elim
theorem yS{x:AV}{v:Value}{K:List AC->Prop}(hx:AVr G s w x v) (hq:x.cells.wp s K):∃cs,K cs/\ACs G s w cs v.cells.toList:=by
 unfold AV.cells at hq;split at hq
 ·simp only[AVr]at hx;refine⟨_,hq,?_⟩;have h1:=hx.one;have hc:v.cells= #[v]:=by cases v <;> first | rfl | (simp[Value.oneCell']at h1)
  rw[hc];simp only[ACs];exact⟨v,[],rfl,hx,rfl⟩
 ·simp only[AVr]at hx;obtain⟨vs,rfl,h2⟩:=hx;exact⟨_,hq,h2⟩
 ·exact hq.elim
theorem NZ{t:TypeId}{i:TI}(hT:TOk P t i){cs:List AC}{xs:List Value}{K:AV->Prop}(hq:(asV i cs).wp s K) (hc:ACs G s w cs xs) (hl:xs.length=i.size){ad:Addr}(hcell:∀j u,xs[j]?=some u->w.cell? (ad.add j)=some u) :
  ∃x v,K x/\AVr G s w x v/\(loadVar t ad).run P w= .ok v w:=by
 obtain⟨h1,h2⟩:=Hv hT hl hcell;unfold asV at hq;split at hq
 ·rename_i hg;exact⟨_,_,hq,by simp only[AVr];exact⟨xs.toArray,rfl,by simpa using hc⟩,h1 hg⟩
 ·rename_i hg;split at hq
  ·rename_i x;simp only[ACs]at hc;obtain⟨v,r,rfl,h3,rfl⟩:=hc;exact⟨_,v,hq,by simp only[AVr];exact h3,h2 hg v rfl⟩
  ·exact hq.elim
theorem oL{α:Type}{l:List α}{o n j:Nat}{u:α}(h:((l.drop o).take n)[j]?=some u):l[o+j]?=some u:=by
 rw[List.getElem?_take]at h;split at h
 ·rw[List.getElem?_drop]at h;exact h
 ·cases h
theorem Mem.rowAddr(h:Mem W0 M G s w){id:Nat}{R:Row}(hr:(s.r id).c=some R) (hl:0<R.es.length) (hE:R.e<jn):∃g n c,G.rw id= .slice (some ⟨g,0,none⟩) n c/\n=R.es.length:=by
 obtain⟨_,_,xs,ho,_⟩:=(h.rw id R hr).sl hE;rcases ho.2 with⟨_,h0⟩|⟨g,cap,cur,hv,_⟩
 ·omega
 ·exact⟨g,_,_,hv,rfl⟩
theorem Oa(h:Rel W0 M G s a w){t:TypeId}{i:TI}(hT:TOk P t i){x:AV}{p:Value}{K:AV->Prop}(hx:AVr G s w x p) (hq:(LT i x).wp s K):∃y v ad,p= .pointer (some ad)/\K y/\AVr G s w y v/\(loadVar t ad).run P w= .ok v w:=by
 unfold LT at hq;split at hq
 ·rename_i id ver off;simp only[Q.wp]at hq;split at hq
  ·rename_i cs hcs;simp only[Q.wp]at hq;obtain⟨⟨rfl,hlen⟩,hq⟩:=hq;simp only[AVr,ACr]at hx;obtain rfl:=hx.2.2 trivial (by rw[hcs];rfl);obtain⟨cur,ty,hh,hac⟩:=h.mem.bx id cs hcs;have hal:=hac.len;obtain⟨y,v,hy,hv,hrun⟩:=NZ (P:=P) hT (ad:=⟨G.bx id,off,none⟩) hq ((hac.drop off).take i.size) (by rw[a5T,a5Y,hal];omega) (λj u hu=>by
    rw[du _ _ rfl,cell_of_row w _ _ cur ty _ hh];have:=oL hu;simpa using this)
   exact⟨y,v,_,rfl,hy,hv,hrun⟩
  ·exact hq.elim
 ·rename_i cs;simp only[Q.wp]at hq;obtain⟨hlen,hq⟩:=hq;simp only[AVr,ACr]at hx;obtain⟨ad,xs,rfl,hdv,hcell⟩:=hx;have hl:=hdv.len;obtain⟨y,v,hy,hv,hrun⟩:=NZ (P:=P) hT (ad:=ad) hq (ACs.of_dv (hdv.take i.size)) (by rw[a5T,hl];omega) (λj u hu=>by
   have:xs[j]?=some u:=by rw[List.getElem?_take]at hu;split at hu;exact hu;cases hu
   exact(hcell j u this).1)
  exact⟨y,v,ad,rfl,hy,hv,hrun⟩
 ·rename_i id ver k off sz;simp only[Q.wp]at hq;split at hq
  ·rename_i R hR;simp only[Q.wp]at hq;obtain⟨⟨rfl,rfl,hk,hoff⟩,hq⟩:=hq;simp only[AVr,ACr]at hx;obtain⟨ad,n,c,hrw,rfl⟩:=hx.2.2 trivial (by rw[hR];rfl);obtain⟨hz,hu,xs,ho,hd⟩:=(h.mem.rw id R hR).slv ⟨_,_,_,hrw⟩;obtain⟨g,n',c',hrw',_⟩:=h.mem.rowAddr hR (by omega) ((h.mem.rw id R hR).lte ⟨_,_,_,hrw⟩);rw[hrw]at hrw';injection hrw' with e1 _ _;injection e1 with e1;subst e1;have hcells:=ho.cells (g:=g) (by rw[hrw];rfl);have he:R.es[k]?=some (R.es.getD k []):=by rw[List.getD_eq_getElem?_getD,List.getElem?_eq_getElem hk];rfl
   have hget:=V2.get hd hu he;have hlk:(R.es.getD k []).length=R.sz:=hu _ (List.mem_of_getElem? he);have hxl:=V2.len hd hu;have hll:=hget.len;obtain⟨y,v,hy,hv,hrun⟩:=NZ (P:=P) hT (ad:=(⟨g,0,none⟩:Addr).add (k*R.sz+off)) hq (ACs.of_dv ((hget.drop off).take i.size)) (by rw[a5T,a5Y,hll,hlk];omega) (λj u hj=>by
    have h1:=oL hj;have h2:=oL h1;have:=hcells _ _ h2;rw[add_add];rw[a6D];exact this)
   exact⟨y,v,_,rfl,hy,hv,hrun⟩
  ·exact hq.elim
 ·exact hq.elim
end
theorem St.app_append(s:St):∀(us vs:List Upd),s.app (us++vs)=(s.app us).app vs
 |[],_=>rfl
 |u::us,vs=>by simp only[a6l,St.app];exact St.app_append _ us vs
section
variable {P:Program}{W0:World}{M:Own}{G:Gh}{s:St}{a:Act}{w w':World}{o:Oper}
theorem Mem.freeze1(h:Mem W0 M G s w){id:Nat}{R:Row}(hR:(s.r id).c=some R) (hE:R.e<jn) :
  ∃I':Nat->Nat->Prop,Mem W0 M ⟨I',G.bx,G.rw,G.st,G.ex⟩ (s.setR id ⟨(s.r id).ver,some ⟨R.es,R.sz,R.e,true⟩⟩) w/\Ext G s w ⟨I',G.bx,G.rw,G.st,G.ex⟩ (s.setR id ⟨(s.r id).ver,some ⟨R.es,R.sz,R.e,true⟩⟩) w/\DVr I' w (.sl R.es) (G.rw id):=by
 let I':Nat->Nat->Prop:=λb o=>G.I b o\/(obk (G.rw id)=some b/\o<R.es.length*R.sz);have hI:∀b o,G.I b o->I' b o:=λb o hi=>.inl hi;have hown:∀b,obk (G.rw id)=some b->b∈own G s (.inr id):=λb hb=>by simp[own,hR,hb]
 have E:Ext G s w ⟨I',G.bx,G.rw,G.st,G.ex⟩ (s.setR id ⟨(s.r id).ver,some ⟨R.es,R.sz,R.e,true⟩⟩) w:=by
  refine⟨hI,pF.refl _ _,λ_=>⟨a56 _,λ_ h=>⟨h,rfl⟩⟩,λk=>?_,λ_ _=>rfl⟩;simp only[St.setR,upd];by_cases e:k=id
  ·subst e;simp only[a6x];exact⟨a56 _,λ_ _=>⟨by rw[hR];rfl,trivial⟩⟩
  ·simp only[e,a6o];exact⟨a56 _,λ_ h=>⟨h,trivial⟩⟩
 have ho:∀x,own ⟨I',G.bx,G.rw,G.st,G.ex⟩ (s.setR id ⟨(s.r id).ver,some ⟨R.es,R.sz,R.e,true⟩⟩) x=own G s x:=by
  intro x;rcases x with k|k
  ·rfl
  ·by_cases e:k=id
   ·subst e;simp[own,St.setR,upd,hR]
   ·simp[own,St.setR,upd,e]
 obtain⟨hz,hu,xs,how,hd⟩:=(h.rw id R hR).sl hE;refine⟨I',⟨λk c hc=>?_,λk R' hc=>?_,λx y b hx hy=>h.dj x y b (by rw[ho]at hx;exact hx) (by rw[ho]at hy;exact hy),λk hc o hi=>?_,λk R' g hc hg o hi=>?_,λx b hx=>h.oM x b (by rw[ho]at hx;exact hx),λb o hi=>?_,h.fr,⟨λb o hi=>.inl (h.ii.1 b o hi),λb o hi=>?_⟩,h.gl.mono E.I E.keep,λk R' hc hp=>by
  simp only[St.setR,upd]at hc;by_cases e:k=id
  ·simp only[e,a6x]at hc;injection hc with hc;subst hc;exact absurd (a6L hE (Nat.le_of_lt (by decide))) (Nat.not_lt.2 hp)
  ·simp only[e,a6o]at hc;exact h.pe k R' hc hp,λk R' hc hp=>by
  simp only[St.setR,upd]at hc;by_cases e:k=id
  ·simp only[e,a6x]at hc;injection hc with hc;subst hc;exact absurd hp (eU hE)
  ·simp only[e,a6o]at hc;refine⟨(h.sx k R' hc hp).1,λb hb o hi=>?_⟩;rcases hi with hi|⟨hb',_⟩
   ·exact(h.sx k R' hc hp).2 b hb o hi
   ·have:=h.dj (.inr k) (.inr id) b (vY hc hp hb) (hown _ hb');injection this with this;exact e this⟩,E,?_⟩
 ·obtain⟨cur,ty,h1,h2⟩:=h.bx k c hc;exact⟨cur,ty,h1,E.acs h2⟩
 ·simp only[St.setR,upd]at hc;by_cases e:k=id
  ·subst e;simp only[a6x]at hc;injection hc with hc;subst hc;exact⟨hz,hu,.inl ⟨hE,xs,how,V2.mono hI (pF.refl _ _) _ hd⟩⟩
  ·simp only[e,a6o]at hc;exact(h.rw k R' hc).mono hI
 ·rcases hi with hi|⟨hb,_⟩
  ·exact h.bI k hc o hi
  ·have:=h.dj (.inl k) (.inr id) (G.bx k) (BO hc) (hown _ hb);cases this
 ·simp only[St.setR,upd]at hc;by_cases e:k=id
  ·subst e;simp only[a6x]at hc;injection hc with hc;subst hc;refine⟨rfl,?_⟩;rcases hi with hi|⟨_,hb⟩
   ·exact(h.rI k R g hR hg o hi).2
   ·exact hb
  ·simp only[e,a6o]at hc;rcases hi with hi|⟨hb,_⟩
   ·exact h.rI k R' g hc hg o hi
   ·have:=h.dj (.inr k) (.inr id) g (pg hc hg) (hown _ hb);injection this with this;exact(e this).elim
 ·rcases hi with hi|⟨hb,_⟩
  ·exact h.In b o hi
  ·exact h.ownlt (hown _ hb)
 ·rcases hi with hi|⟨hb,_⟩
  ·exact h.ii.2 b o hi
  ·rcases h.oM _ _ (hown _ hb)with h1|h1
   ·exact .inr (.inr h1)
   ·exact .inr (.inl h1)
 ·simp only[DVr];have hxl:=hd.len hu;have hd':V2 I' w R.es xs:=V2.mono hI (pF.refl _ _) _ hd;rcases how.2 with⟨hv,h0⟩|⟨g,cap,cur,hv,_,hg,h1,h2,_⟩
  ·exact⟨none,0,R.sz,xs,by rw[hv,h0],by omega,by simp[maxLen],hz,hu,λh=>by omega,hd'⟩
  ·refine⟨some ⟨g,0,none⟩,cap,R.sz,xs,hv,h1,h2,hz,hu,λ_=>⟨_,rfl,λj u hj=>⟨how.cells (g:=g) (by rw[hv];rfl) j u hj,.inr ⟨by rw[hv];rfl,?_⟩⟩⟩,hd'⟩;have:j<xs.length:=by
    rcases a6y j xs.length with h|h
    ·exact h
    ·rw[List.getElem?_eq_none h]at hj;cases hj
   simp only;omega
theorem Mem.give(h:Mem W0 M G s w){id:Nat}{cs:List AC}(hc:(s.b id).c=some cs) :
  ∃I':Nat->Nat->Prop,Mem W0 M ⟨I',G.bx,G.rw,G.st,G.ex⟩ (s.setB id ⟨(s.b id).ver,none⟩) w/\Ext G s w ⟨I',G.bx,G.rw,G.st,G.ex⟩ (s.setB id ⟨(s.b id).ver,none⟩) w/\
   ∃cur ty,w.heap[G.bx id]?=some (.cells cur ty (0,0))/\ACs G s w cs cur.toList/\∀o,o<cur.size->I' (G.bx id) o:=by
 obtain⟨cur0,ty0,hh0,hcs0⟩:=h.bx id cs hc;let I':Nat->Nat->Prop:=λb o=>G.I b o\/(G.bx id=b/\o<cur0.size);have hI:∀b o,G.I b o->I' b o:=λb o hi=>.inl hi;have hown:(G.bx id)∈own G s (.inl id):=by simp[own,hc]
 have E:Ext G s w ⟨I',G.bx,G.rw,G.st,G.ex⟩ (s.setB id ⟨(s.b id).ver,none⟩) w:=by
  refine⟨hI,pF.refl _ _,λk=>?_,λ_=>⟨a56 _,λ_ h=>⟨h,rfl⟩⟩,λ_ _=>rfl⟩;simp only[St.setB,upd];by_cases e:k=id
  ·subst e;simp only[a6x];exact⟨a56 _,λ_ h=>(by cases h)⟩
  ·simp only[e,a6o];exact⟨a56 _,λ_ h=>⟨h,trivial⟩⟩
 have ho:∀x b,b∈own ⟨I',G.bx,G.rw,G.st,G.ex⟩ (s.setB id ⟨(s.b id).ver,none⟩) x->b∈own G s x:=by
  intro x b hx;rcases x with k|k
  ·by_cases e:k=id
   ·subst e;simp[own,St.setB,upd]at hx
   ·simpa [own,St.setB,upd,e]using hx
  ·exact hx
 have hb0:∀{k:Nat} {c:List AC},((s.setB id ⟨(s.b id).ver,none⟩).b k).c=some c->k≠id/\(s.b k).c=some c:=fun {k c} hc=>by
  simp only[St.setB,upd]at hc;by_cases e:k=id
  ·simp only[e,a6x]at hc;cases hc
  ·simp only[e,a6o]at hc;exact⟨e,hc⟩
 refine⟨I',⟨λk c hc=>?_,λk R' hc=>(h.rw k R' hc).mono hI,λx y b hx hy=>h.dj x y b (ho x b hx) (ho y b hy),λk hc o hi=>?_,λk R' g hc hg o hi=>?_,λx b hx=>h.oM x b (ho x b hx),λb o hi=>?_,h.fr,⟨λb o hi=>.inl (h.ii.1 b o hi),λb o hi=>?_⟩,h.gl.mono E.I E.keep,h.pe,λk R' hc hp=>⟨(h.sx k R' hc hp).1,λb hb o hi=>by
  rcases hi with hi|⟨hb',_⟩
  ·exact(h.sx k R' hc hp).2 b hb o hi
  ·have:=h.dj (.inr k) (.inl id) b (vY hc hp hb) (hb'▸hown);cases this⟩⟩,E,cur0,ty0,hh0,hcs0,λo ho=>.inr ⟨rfl,ho⟩⟩
 ·obtain⟨_,hc⟩:=hb0 hc;obtain⟨cur,ty,h1,h2⟩:=h.bx k c hc;exact⟨cur,ty,h1,E.acs h2⟩
 ·obtain⟨c,hc⟩:=Option.isSome_iff_exists.1 hc;obtain⟨hne,hc⟩:=hb0 hc;rcases hi with hi|⟨hb,_⟩
  ·exact h.bI k (by rw[hc];rfl) o hi
  ·have:=h.dj (.inl k) (.inl id) (G.bx k) (by simp[own,hc]) (hb▸hown);injection this with this;exact hne this
 ·rcases hi with hi|⟨hb,_⟩
  ·exact h.rI k R' g hc hg o hi
  ·have hc':(s.r k).c=some R':=hc;have:=h.dj (.inr k) (.inl id) g (pg hc' hg) (hb▸hown);cases this
 ·rcases hi with hi|⟨hb,_⟩
  ·exact h.In b o hi
  ·subst hb;exact h.ownlt hown
 ·rcases hi with hi|⟨hb,_⟩
  ·exact h.ii.2 b o hi
  ·subst hb;rcases h.oM _ _ hown with h1|h1
   ·exact .inr (.inr h1)
   ·exact .inr (.inl h1)
def Frz(s s':St):Prop:=s'.n=s.n/\s'.t=s.t/\s'.b=s.b/\∀id,(s'.r id).ver=(s.r id).ver/\((s.r id).c=none->(s'.r id).c=none)/\∀R,(s.r id).c=some R->∃fr,(s'.r id).c=some ⟨R.es,R.sz,R.e,fr⟩/\(fr=false->R.fr=false)
theorem Frz.refl(s:St):Frz s s:=⟨rfl,rfl,rfl,λ_id=>⟨rfl,λh=>h,λR hR=>⟨R.fr,hR,λh=>h⟩⟩⟩
theorem Frz.trans{s1 s2 s3:St}(h:Frz s1 s2) (k:Frz s2 s3):Frz s1 s3:=by
 obtain⟨h1,h2,h3,h4⟩:=h;obtain⟨k1,k2,k3,k4⟩:=k;refine⟨k1.trans h1,k2.trans h2,k3.trans h3,λid=>⟨(k4 id).1.trans (h4 id).1,λe=>(k4 id).2.1 ((h4 id).2.1 e),λR hR=>?_⟩⟩;obtain⟨fr,e1,e2⟩:=(h4 id).2.2 R hR;obtain⟨fr',e3,e4⟩:=(k4 id).2.2 _ e1;exact⟨fr',e3,λe=>e2 (e4 e)⟩
theorem pi(s0:St):∀{ids:List Nat}{K:List Upd->Prop}{s:St}{G:Gh},(lV ids).wp s0 K->Mem W0 M G s w->Frz s0 s->
  ∃us G',K us/\Mem W0 M G' (s.app us) w/\Ext G s w G' (s.app us) w/\(∀id∈ids,∀R,(s0.r id).c=some R->DVr G'.I w (.sl R.es) (G.rw id))/\Frz s (s.app us)/\G'.bx=G.bx/\G'.rw=G.rw/\
   (∀id R,((s.app us).r id).c=some R->R.fr=true->(∃R',(s.r id).c=some R'/\R'.fr=true)\/id∈ids)/\G'.ex=G.ex
 |[],K,s,G,hq,hm,_=>⟨[],G,hq,hm,Ext.refl _ _ _,by simp,Frz.refl s,rfl,rfl,λid R h1 h2=>.inl ⟨R,h1,h2⟩,rfl⟩
 |id::ids,K,s,G,hq,hm,hf=>by
  simp only[lV,Q.wp]at hq;split at hq
  ·rename_i R hR;obtain⟨hE,hq⟩:=hq;rw[Q.wp_bind]at hq;obtain⟨fr,hR',hfr'⟩:=(hf.2.2.2 id).2.2 R hR;have hver:=(hf.2.2.2 id).1;obtain⟨I',m1,e1,d1⟩:=hm.freeze1 hR' hE;simp only at m1 e1 d1;rw[hver]at m1 e1;have hf1:Frz s (s.setR id ⟨(s0.r id).ver,some ⟨R.es,R.sz,R.e,true⟩⟩):=by
    refine⟨rfl,rfl,rfl,λk=>?_⟩;simp only[St.setR,upd];by_cases e:k=id
    ·subst e;simp only[a6x];exact⟨hver.symm,(λh=>by rw[hR']at h;cases h),λR2 h2=>by rw[hR']at h2;injection h2 with h2;subst h2;exact⟨true,rfl,λh=>by cases h⟩⟩
    ·simp only[e,a6o];exact⟨trivial,λh=>h,λR hR=>⟨R.fr,hR,λh=>h⟩⟩
   cases hfr:R.fr with
   |true=>
    rw[hfr]at hq;have hs:s.setR id ⟨(s0.r id).ver,some ⟨R.es,R.sz,R.e,true⟩⟩=s:=by
     have:upd s.r id ⟨(s0.r id).ver,some ⟨R.es,R.sz,R.e,true⟩⟩=s.r:=by
      funext k;simp only[upd];split
      ·rename_i e;subst e;have hfr2:fr=true:=by
        cases fr with
        |true=>rfl
        |false=>have:=hfr' rfl;rw[hfr]at this;cases this
       rw[hfr2]at hR';rw[<-hver,<-hR']
      ·rfl
     unfold St.setR;rw[this]
    rw[hs]at m1 e1;obtain⟨us,G',k1,k2,k3,k4,k5,k6,k7,k8,k9⟩:=pi s0 hq m1 hf;simp only at k6 k7;refine⟨_,G',k1,k2,e1.trans k3,?_,k5,k6,k7,?_,k9⟩
    ·intro j hj R2 hR2;rcases List.mem_cons.1 hj with rfl|hj
     ·rw[hR]at hR2;injection hR2 with hR2;subst hR2;exact DVr.mono k3.I k3.keep _ d1
     ·exact k4 j hj R2 hR2
    ·intro j R2 h1 h2;rcases k8 j R2 h1 h2 with h|h
     ·exact .inl h
     ·right;simp[h]
   |false=>
   rw[hfr]at hq;obtain⟨us,G',k1,k2,k3,k4,k5,k6,k7,k8,k9⟩:=pi s0 hq m1 (hf.trans hf1);simp only at k6 k7;refine⟨_,G',k1,k2,e1.trans k3,?_,hf1.trans k5,k6,k7,?_,k9⟩
   ·intro j hj R2 hR2;rcases List.mem_cons.1 hj with rfl|hj
    ·rw[hR]at hR2;injection hR2 with hR2;subst hR2;exact DVr.mono k3.I k3.keep _ d1
    ·exact k4 j hj R2 hR2
   ·intro j R2 h1 h2;rcases k8 j R2 h1 h2 with⟨R',h3,h4⟩|h
    ·simp only[St.setR,upd]at h3;by_cases e:j=id
     ·right;simp[e]
     ·simp only[e,a6o]at h3;exact .inl ⟨R',h3,h4⟩
    ·right;simp[h]
  ·exact hq.elim
theorem BW{x:AC}{v:Value}{K:DV×List Nat->Prop}(hx:ACr G s w x v) (hq:(toD x).wp s K) :
  ∃d,K d/\(∀id∈d.2,x= .row id (s.r id).ver/\∀R,(s.r id).c=some R->R.e<jn)/\(∀I':Nat->Nat->Prop,(∀b o,G.I b o->I' b o)->(∀id∈d.2,∀R,(s.r id).c=some R->DVr I' w (.sl R.es) (G.rw id))->DVr I' w d.1 v):=by
 unfold toD at hq;split at hq
 ·rename_i d;simp only[ACr]at hx;exact⟨_,hq,by simp,λ_ hi _=>DVr.mono hi (pF.refl _ _) _ hx⟩
 ·simp only[ACr]at hx;refine⟨_,hq,by simp,λ_ _ _=>?_⟩;subst hx;simp only[DVr];exact⟨none,0,1,[],rfl,a56 _,by simp[maxLen],by omega,by simp,by simp,by simp[V2]⟩
 ·rename_i id ver;simp only[Q.wp]at hq;split at hq
  ·rename_i R hR;simp only[Q.wp]at hq;obtain⟨⟨rfl,hE⟩,hq⟩:=hq;simp only[ACr]at hx;have hv:=hx.2.2 trivial (by rw[hR];rfl);refine⟨_,hq,λi hi=>by simp at hi;subst hi;exact⟨rfl,λR' hR'=>by rw[hR]at hR';injection hR' with e;subst e;exact hE⟩,λ_ _ hf=>?_⟩;rw[hv];exact hf id (by simp) R hR
  ·exact hq.elim
 ·exact hq.elim
theorem sN:∀{cs:List AC}{xs:List Value}{K:List DV×List Nat->Prop},ACs G s w cs xs->(ur cs).wp s K->
  ∃d,K d/\d.1.length=cs.length/\(∀I':Nat->Nat->Prop,(∀b o,G.I b o->I' b o)->(∀id∈d.2,∀R,(s.r id).c=some R->DVr I' w (.sl R.es) (G.rw id))->bo I' w d.1 xs)
 |[],xs,K,hx,hq=>by
  simp only[ACs]at hx;subst hx;exact⟨_,hq,rfl,λ_ _ _=>by simp[bo]⟩
 |c::cs,xs,K,hx,hq=>by
  simp only[ACs]at hx;obtain⟨v,r,rfl,h1,h2⟩:=hx;simp only[ur,Q.wp_bind,Q.wp]at hq;obtain⟨d,hq,_,hd⟩:=BW h1 hq;obtain⟨ds,hq,hl,hds⟩:=sN h2 hq;refine⟨_,hq,by simp[hl],λI' hi hf=>?_⟩;simp only[bo];exact⟨v,r,rfl,hd I' hi (λid hm=>hf id (by simp[hm])),hds I' hi (λid hm=>hf id (by simp[hm]))⟩
theorem Mem.setBox(h:Mem W0 M G s w){id:Nat}{cs cs':List AC}(hc:(s.b id).c=some cs) (hg:w.grownBy w' (some (G.bx id))){cur':Array Value}{ty:TypeId}(hh:w'.heap[G.bx id]?=some (.cells cur' ty (0,0))) (hac:ACs G s w cs' cur'.toList) :
  Mem W0 M G (s.setB id ⟨(s.b id).ver,some cs'⟩) w'/\Ext G s w G (s.setB id ⟨(s.b id).ver,some cs'⟩) w':=by
 have hlive:(s.b id).c.isSome=true:=by rw[hc];rfl
 have hown:(G.bx id)∈own G s (.inl id):=by simp[own,hc]
 have hk:pF G.I w w':=λb o hi=>World.cell?_of_block (a:=⟨b,o,none⟩) (hg.block b (h.In b o hi) (λe=>by injection e with e;subst e;exact h.bI id hlive o hi));have E:Ext G s w G (s.setB id ⟨(s.b id).ver,some cs'⟩) w':=by
  refine⟨λ_ _ h=>h,hk,λk=>?_,λ_=>⟨a56 _,λ_ h=>⟨h,rfl⟩⟩,λ_ _=>rfl⟩;simp only[St.setB,upd];by_cases e:k=id
  ·subst e;simp only[a6x];exact⟨a56 _,λ_ _=>⟨hlive,trivial⟩⟩
  ·simp only[e,a6o];exact⟨a56 _,λ_ h=>⟨h,trivial⟩⟩
 have ho:∀x,own G (s.setB id ⟨(s.b id).ver,some cs'⟩) x=own G s x:=by
  intro x;rcases x with k|k
  ·by_cases e:k=id
   ·subst e;simp[own,St.setB,upd,hc]
   ·simp[own,St.setB,upd,e]
  ·rfl
 refine⟨⟨λk c hck=>?_,λk R hR=>?_,λx y b hx hy=>h.dj x y b (by rw[ho]at hx;exact hx) (by rw[ho]at hy;exact hy),λk hck=>?_,h.rI,λx b hx=>h.oM x b (by rw[ho]at hx;exact hx),λb o hi=>a6L (h.In b o hi) hg.size,h.fr.grown hg (λb hb hlt=>?_),h.ii,h.gl.mono E.I E.keep,λk R hR hp=>(h.pe k R hR hp).kept hg (λb hb e1=>by injection e1 with e1;subst e1;cases h.dj (.inr k) (.inl id) _ (by have h3:(s.r k).c=some R:=hR;simp[own,h3,hb]) hown),λk R hR hp=>⟨(h.sx k R hR hp).1.kept hg (λb hb e1=>by
  injection e1 with e1;subst e1;cases h.dj (.inr k) (.inl id) _ (by
   rcases hb with hb|hb
   ·exact pg (R:=R) hR hb
   ·exact vY (R:=R) hR hp hb) hown),(h.sx k R hR hp).2⟩⟩,E⟩
 ·simp only[St.setB,upd]at hck;by_cases e:k=id
  ·subst e;simp only[a6x]at hck;injection hck with hck;subst hck;exact⟨cur',ty,hh,E.acs hac⟩
  ·simp only[e,a6o]at hck;obtain⟨cur,ty',h1,h2⟩:=h.bx k c hck;have hlt:=(Array.getElem?_eq_some_iff.1 h1).1;refine⟨cur,ty',(hg.block _ hlt (λe1=>?_)).trans h1,E.acs h2⟩;injection e1 with e1;have:=h.dj (.inl k) (.inl id) (G.bx id) (by rw[<-e1];exact BO (by rw[hck];rfl)) hown;injection this with this;exact e this
 ·exact ownsRow.kept' (h.rw k R hR) hg (λb hb e1=>by injection e1 with e1;subst e1;cases h.dj (.inr k) (.inl id) _ (by have h3:(s.r k).c=some R:=hR;simp[own,h3,hb]) hown) hk
 ·simp only[St.setB,upd]at hck;by_cases e:k=id
  ·subst e;exact h.bI k hlive
  ·simp only[e,a6o]at hck;exact h.bI k hck
 ·injection hb with hb;subst hb;rcases h.oM _ _ hown with h1|h1
  ·omega
  ·exact h1
theorem wd{α:Type}{l xs:List α}{o:Nat}(h:o+xs.length<=l.length):(setAt l o xs).length=l.length:=by
 simp[setAt];omega
theorem ACs.setAt{cs x:List AC}{cur vs:List Value}{o:Nat}(h:ACs G s w cs cur) (k:ACs G s w x vs):ACs G s w (Am.setAt cs o x) (Am.setAt cur o vs):=by
 unfold Am.setAt;rw[k.len];exact((h.take o).app k).app (h.drop _)
theorem bo.setAt{I:Nat->Nat->Prop}{cs x:List DV}{cur vs:List Value}{o:Nat}(h:bo I w cs cur) (k:bo I w x vs):bo I w (Am.setAt cs o x) (Am.setAt cur o vs):=by
 unfold Am.setAt;rw[k.len];exact((h.take o).app k).app (h.drop _)
theorem ltp{e:Nat}(h:e<jn):e<qD:=a7W h (by decide)
theorem Mem.setRow(h:Mem W0 M G s w){id:Nat}{R:Row}{es':List (List DV)}(hR:(s.r id).c=some R) (hnf:R.fr=false) (hpe:R.e<qD) (hns:¬lS R.e){g:Nat}(hrg:obk (G.rw id)=some g) (hg:w.grownBy w' (some g)) (hnew:pF G.I w w'->jK G.I w' (G.rw id) ⟨es',R.sz,R.e,false⟩) :
  Mem W0 M G (s.setR id ⟨(s.r id).ver,some ⟨es',R.sz,R.e,false⟩⟩) w'/\Ext G s w G (s.setR id ⟨(s.r id).ver,some ⟨es',R.sz,R.e,false⟩⟩) w':=by
 have hlive:(s.r id).c.isSome=true:=by rw[hR];rfl
 have hown:g∈own G s (.inr id):=by simp[own,hR,hrg]
 have hno:∀o,¬G.I g o:=λo hi=>by have:=(h.rI id R g hR hrg o hi).1;rw[hnf]at this;cases this
 have hk:pF G.I w w':=λb o hi=>World.cell?_of_block (a:=⟨b,o,none⟩) (hg.block b (h.In b o hi) (λe=>by injection e with e;subst e;exact hno o hi));have E:Ext G s w G (s.setR id ⟨(s.r id).ver,some ⟨es',R.sz,R.e,false⟩⟩) w':=by
  refine⟨λ_ _ h=>h,hk,λ_=>⟨a56 _,λ_ h=>⟨h,rfl⟩⟩,λk=>?_,λ_ _=>rfl⟩;simp only[St.setR,upd];by_cases e:k=id
  ·subst e;simp only[a6x];exact⟨a56 _,λ_ _=>⟨hlive,trivial⟩⟩
  ·simp only[e,a6o];exact⟨a56 _,λ_ h=>⟨h,trivial⟩⟩
 have ho:∀x,own G (s.setR id ⟨(s.r id).ver,some ⟨es',R.sz,R.e,false⟩⟩) x=own G s x:=by
  intro x;rcases x with k|k
  ·rfl
  ·by_cases e:k=id
   ·subst e;simp[own,St.setR,upd,hR]
   ·simp[own,St.setR,upd,e]
 refine⟨⟨λk c hck=>?_,λk R' hck=>?_,λx y b hx hy=>h.dj x y b (by rw[ho]at hx;exact hx) (by rw[ho]at hy;exact hy),h.bI,λk R' g' hck hg'=>?_,λx b hx=>h.oM x b (by rw[ho]at hx;exact hx),λb o hi=>a6L (h.In b o hi) hg.size,h.fr.grown hg (λb hb hlt=>?_),h.ii,h.gl.mono E.I E.keep,λk R' hck hp=>by
  simp only[St.setR,upd]at hck;by_cases e:k=id
  ·simp only[e,a6x]at hck;injection hck with hck;subst hck;exact absurd hpe (Nat.not_lt.2 hp)
  ·simp only[e,a6o]at hck;refine(h.pe k R' hck hp).kept hg (λb hb e1=>?_);injection e1 with e1;subst e1;have:=h.dj (.inr k) (.inr id) g (by simp[own,hck,hb]) hown;injection this with this;exact e this,λk R' hck hp=>by
  simp only[St.setR,upd]at hck;by_cases e:k=id
  ·simp only[e,a6x]at hck;injection hck with hck;subst hck;exact absurd hp hns
  ·simp only[e,a6o]at hck;refine⟨(h.sx k R' hck hp).1.kept hg (λb hb e1=>?_),(h.sx k R' hck hp).2⟩;injection e1 with e1;subst e1;have:=h.dj (.inr k) (.inr id) g (by
    rcases hb with hb|hb
    ·exact pg hck hb
    ·exact vY hck hp hb) hown
   injection this with this;exact e this⟩,E⟩
 ·have hck':(s.b k).c=some c:=hck;obtain⟨cur,ty',h1,h2⟩:=h.bx k c hck';have hlt:=(Array.getElem?_eq_some_iff.1 h1).1;refine⟨cur,ty',(hg.block _ hlt (λe1=>?_)).trans h1,E.acs h2⟩;injection e1 with e1;cases h.dj (.inl k) (.inr id) g (by simp[own,hck',e1]) hown
 ·simp only[St.setR,upd]at hck;by_cases e:k=id
  ·subst e;simp only[a6x]at hck;injection hck with hck;subst hck;exact hnew hk
  ·simp only[e,a6o]at hck;refine ownsRow.kept' (h.rw k R' hck) hg (λb hb e1=>?_) hk;injection e1 with e1;subst e1;have:=h.dj (.inr k) (.inr id) g (by simp[own,hck,hb]) hown;injection this with this;exact e this
 ·simp only[St.setR,upd]at hck;by_cases e:k=id
  ·subst e;rw[hrg]at hg';injection hg' with hg';subst hg';intro o hi;exact(hno o hi).elim
  ·simp only[e,a6o]at hck;exact h.rI k R' g' hck hg'
 ·injection hb with hb;subst hb;rcases h.oM _ _ hown with h1|h1
  ·omega
  ·exact h1
theorem BX{α:Type}(l xs:List α) (o m:Nat) (h1:o+xs.length<=m) (h2:m<=l.length):(setAt l o xs).take m=setAt (l.take m) o xs:=by
 obtain⟨A,X,D,E,rfl,hA,hX,hD⟩:∃A X D E:List α,l=A++(X++(D++E))/\A.length=o/\X.length=xs.length/\D.length=m-o-xs.length:=
  ⟨l.take o,(l.drop o).take xs.length,((l.drop o).drop xs.length).take (m-o-xs.length),((l.drop o).drop xs.length).drop (m-o-xs.length),by rw[a6d,a6d,a6d],by rw[a5T];omega,by rw[a5T,a5Y];omega,by rw[a5T,a5Y,a5Y];omega⟩
 have t1:(A++(X++(D++E))).take o=A:=by rw[<-hA];exact a6H
 have t2:(A++(X++(D++E))).drop (o+xs.length)=D++E:=by rw[<-hA,<-hX,<-a5K,<-a50];exact a6s
 have t3:(A++(X++(D++E))).take m=A++(X++D):=by
  have e:m=(A++(X++D)).length:=by simp only[a5K];omega
  rw[e,show A++(X++(D++E))=(A++(X++D))++E from by simp];exact a6H
 have t4:(A++(X++D)).take o=A:=by rw[<-hA];exact a6H
 have t5:(A++(X++D)).drop (o+xs.length)=D:=by rw[<-hA,<-hX,<-a5K,<-a50];exact a6s
 unfold setAt;rw[t3,t1,t2,t4,t5];have e:m=(A++xs++D).length:=by simp only[a5K];omega
 rw[e,show A++xs++(D++E)=(A++xs++D)++E from by simp];exact a6H
theorem Hw{α:Type}(xs vs:List α) (k z off:Nat) (hk:(k+1)*z<=xs.length) (ho:off+vs.length<=z) :
  setAt xs (k*z+off) vs=xs.take (k*z)++setAt ((xs.drop (k*z)).take z) off vs++xs.drop ((k+1)*z):=by
 rw[a6r]at hk⊢;have e0:xs=xs.take (k*z)++((xs.drop (k*z)).take z++xs.drop (k*z+z)):=by
  rw[<-a6A,a6d,a6d]
 have l1:(xs.take (k*z)).length=k*z:=by rw[a5T];omega
 have l2:((xs.drop (k*z)).take z).length=z:=by rw[a5T,a5Y];omega
 generalize xs.take (k*z)=A at *
 generalize (xs.drop (k*z)).take z=B at *
 generalize xs.drop (k*z+z)=C at *
 subst e0;unfold setAt;rw[a7o,a71];simp only[l1];rw[a6u (by omega),a6X (by omega),show k*z+off-k*z=off from by omega,show k*z+off+vs.length-k*z=off+vs.length from by omega];rw[a62 (by omega),a7h (by omega)];simp
theorem SM(h:Rel W0 M G s a w){t:TypeId}{i:TI}(hT:TOk P t i) (hdst:o.dst=none){x:List AC}{p v:Value}{K:List Upd->Prop}{y:AV}(hx:ACs G s w x v.cells.toList) (hp:AVr G s w y p) (hq:(BP i x y).wp s K) :
  ∃us ad w',p= .pointer (some ad)/\(storeVar t ad v).run P w= .ok () w'/\K us/\uX W0 M (s.app us) (a.put o.dst undef) w':=by
 have hput:a.put o.dst undef=a:=by rw[hdst];rfl
 rw[hput];unfold BP at hq;split at hq
 ·rename_i id ver off;simp only[Q.wp]at hq;split at hq
  ·rename_i cs hcs;simp only[Q.wp]at hq;obtain⟨⟨rfl,hl,hoff⟩,hq⟩:=hq;simp only[AVr,ACr]at hp;obtain rfl:=hp.2.2 trivial (by rw[hcs];rfl);obtain⟨cur,ty,hh,hac⟩:=h.mem.bx id cs hcs;have hsz:cur.size=cs.length:=by rw[<-a59];exact hac.len
   have hxl:=hx.len;have hrun:=sM hT hh rfl (by rw[hxl];exact hl) (by omega) hx.one (off:=off);obtain⟨cur',hh',htl⟩:=nA (G.bx id) ty v.cells.toList off w cur hh (by omega);obtain⟨m1,e1⟩:=h.mem.setBox hcs (nl (G.bx id) off v.cells.toList w) hh' (cs':=setAt cs off x) (by rw[htl];exact hac.setAt hx);exact⟨_,_,_,rfl,hrun,hq,G,h.mem' e1 m1 rfl rfl⟩
  ·exact hq.elim
 ·rename_i id ver k off sz;rw[Q.wp_bind]at hq;obtain⟨d,hq1,hdl,hds⟩:=sN hx hq;clear hq;have hq:=hq1;clear hq1;rw[Q.wp_bind]at hq;obtain⟨us,G',hK,m1,e1,hf,hfrz,hb',hr',hfr,_⟩:=pi s hq h.mem (Frz.refl s);clear hq;have hq:=hK;clear hK;simp only[Q.wp]at hq;split at hq
  ·rename_i R hR;simp only[Q.wp]at hq;obtain⟨⟨rfl,rfl,hnf,hnot,hk,hdi,hoff⟩,hq⟩:=hq;simp only[AVr,ACr]at hp;obtain⟨ad,n,c,hrw,rfl⟩:=hp.2.2 trivial (by rw[hR];rfl);have hdv:=hds G'.I e1.I hf;obtain⟨fr,hR1,_⟩:=(hfrz.2.2.2 id).2.2 R hR;have hfr0:fr=false:=by
    cases fr with
    |false=>rfl
    |true=>
     rcases hfr id _ hR1 rfl with⟨R',h1,h2⟩|h1
     ·rw[hR]at h1;injection h1 with h1;subst h1;rw[hnf]at h2;cases h2
     ·exact(hnot h1).elim
   subst hfr0;have hver:=(hfrz.2.2.2 id).1;have hrw':G'.rw id= .slice (some ad) n c:=by rw[hr'];exact hrw
   have hE:=(m1.rw id _ hR1).lte ⟨_,_,_,hrw'⟩;obtain⟨hz,hu,xs,ho,hd⟩:=(m1.rw id _ hR1).sl hE;simp only at hz hu ho hd hE;rcases ho.2 with⟨_,h0⟩|⟨g,cap,cur,hv,_,hg,hnc,hcm,hcs,htk⟩
   ·omega
   rw[hrw']at hv;injection hv with hv1 hv2 hv3;injection hv1 with hv1;subst hv1;subst hv2;subst hv3;have hxl:=hd.len hu;have hxv:=hx.len;have hchunk:(k+1)*R.sz<=R.es.length*R.sz:=a6k _ hk;have hcap:R.es.length*R.sz<=cur.size:=by rw[hcs];exact a6k _ hnc
   rw[a6r]at hchunk;have hdl':v.cells.toList.length=i.size:=by rw[hxv,<-hdl];exact hdi
   have hrun:=sM hT hg (v:=v) rfl hdl' (by rw[hdl'];omega) hx.one (off:=k*R.sz+off);obtain⟨cur',hh',htl⟩:=nA g R.e v.cells.toList (k*R.sz+off) w cur hg (by rw[hdl'];omega);have he:R.es[k]?=some (R.es.getD k []):=by rw[List.getD_eq_getElem?_getD,List.getElem?_eq_getElem hk];rfl
   have hget:=V2.get hd hu he;have hlk:(R.es.getD k []).length=R.sz:=hu _ (List.mem_of_getElem? he);have hset:=V2.set hd hu k hk (hget.setAt (o:=off) hdv);rw[<-Hw xs v.cells.toList k R.sz off (by rw[hxl,a6r];exact hchunk) (by rw[hdl'];exact hoff)]at hset;have hxs:xs=cur.toList.take (R.es.length*R.sz):=htk.symm;have hcl:cur.toList.length=cur.size:=a59;have hxs':cur'.toList.take (R.es.length*R.sz)=setAt xs (k*R.sz+off) v.cells.toList:=by
    rw[htl,hxs];exact BX _ _ _ _ (by rw[hdl'];omega) (by rw[hcl];exact hcap)
   obtain⟨m2,e2⟩:=m1.setRow hR1 rfl (ltp hE) (eU hE) (g:=g) (by rw[hrw'];rfl) (nl g (k*R.sz+off) v.cells.toList w) (es':=R.es.set k (setAt (R.es.getD k []) off d.1)) (λhkp=>⟨hz,λe hm=>by
    rcases a6C hm with hm|rfl
    ·exact hu e hm
    ·rw[wd (by omega)];exact hlk,.inl ⟨hE,setAt xs (k*R.sz+off) v.cells.toList,⟨by rw[wd (by rw[hdl'];omega),a6z];exact ho.1,.inr ⟨g,_,cur',by rw[hrw'];simp,a6p _,hh',by simpa using hnc,hcm,by rw[<-a59,htl,wd (by rw[hdl'];omega)];exact hcs,by rw[a6z];exact hxs'⟩⟩,V2.mono (λ_ _ h=>h) hkp _ hset⟩⟩)
   rw[hver]at m2 e2;refine⟨_,_,w.setCells g (k*R.sz+off) v.cells.toList,rfl,?_,hq,G',?_⟩
   ·rw[du _ _ rfl];simpa using hrun
   ·rw[St.app_append];exact h.mem' (e1.trans e2) m2 hfrz.1 hfrz.2.1
  ·exact hq.elim
 ·exact hq.elim
end
section
variable {P:Program}{T:TypeId->Option TI}{W0:World}{M:Own}{G:Gh}{s:St}{a:Act}{w:World}{o:Oper}{K:List Upd->Prop}{Q':Exit->Act->World->Prop}
def pK(P:Program) (W0:World) (M:Own) (s:St) (o:Oper) (a:Act) (w:World) (K:List Upd->Prop) (Q':Exit->Act->World->Prop):Prop:=o.wp P a w (λa' w'=>∃us,K us/\uX W0 M (s.app us) a' w') Q'
theorem V7{α:Type}{x:Option α}{K:α->Prop}(h:(Q.ofOpt x).wp s K):∃y,x=some y/\K y:=by
 cases x with
 |none=>exact h.elim
 |some y=>exact⟨y,rfl,h⟩
theorem jo{t:TypeId}{K:TI->Prop}(h:(tq T t).wp s K):∃y,T t=some y/\K y:=V7 h
theorem Ob(h:Rel W0 M G s a w){d:Nat}(hod:o.dst=some d) (hd:d<s.n){cs:List AC}{vs:Array Value}{ty:TypeId}(hac:ACs G s w cs vs.toList)
  (hK:K [.b d ⟨(s.b d).ver+1,some cs⟩,.t d ⟨true,.c (.ptr d ((s.b d).ver+1) 0)⟩]) (hr:(execOp a.eval o).run P w= .ok (.value (.pointer (some ⟨w.heap.size,0,none⟩))) (w.alloc (.cells vs ty))):pK P W0 M s o a w K Q':=by
 obtain⟨m1,e1⟩:=h.mem.grow (mY w (.cells vs ty));obtain⟨m2,e2⟩:=m1.addBox d ((s.b d).ver+1) w.heap.size cs (a7i _) ⟨vs,ty,heap_alloc_new w _,e1.acs hac⟩ (λx hx=>by have:=h.mem.ownlt hx;omega) (λo hi=>by have:=h.mem.In _ _ hi;omega) (.inl h.mem.fr.size);refine eV hr ⟨_,hK,?_⟩;have h2:=h.mem' (e1.trans e2) m2 rfl rfl;rw[hod];refine⟨_,h2.put (show d<(s.setB d _).n from hd) ⟨λ_=>?_,λe=>by cases e⟩⟩;simp only[AVr,ACr,St.setB,upd,a6x];exact⟨rfl,a56 _,λ_ _=>trivial⟩
theorem zJ{W1:World}(h:Rel W0 M G s a w){d:Nat}(hod:o.dst=some d) (hd:d<s.n){R:Row}{v:Value}(hg:w.grownBy W1 none) (hrow:jK G.I W1 v R) (hb:∀b,obk v=some b->w.heap.size<=b){us:List Upd}{s0:St}(hs:s0.app us=s)
  (hK:K (us++[.r d ⟨(s.r d).ver+1,some R⟩,.t d ⟨true,.c (.row d ((s.r d).ver+1))⟩])) (hr:(execOp a.eval o).run P w= .ok (.value v) W1) (hpe:R.e<qD:=by first | (refine a7W ?_ (show(jn:Nat)<qD by decide);assumption) | exact ZS _ | exact(show(sw:Nat)<qD by decide)) (hns:¬lS R.e:=by first | exact eU (n:=jn) (by assumption) | exact a3a _ | exact(show ¬lS sw by decide)):pK P W0 M s0 o a w K Q':=by
 obtain⟨m1,e1⟩:=h.mem.grow hg;obtain⟨m2,e2⟩:=m1.addRow d ((s.r d).ver+1) v R (a7i _) hrow (λx b hv hx=>by have:=h.mem.ownlt hx;have:=hb b hv;omega) (λg hv o hi=>by have:=h.mem.In _ _ hi;have:=hb g hv;omega) (λg hv=>.inl (a6c h.mem.fr.size (hb g hv))) hpe hns;refine eV hr ⟨_,hK,?_⟩;have h2:=h.mem' (e1.trans e2) m2 rfl rfl;rw[St.app_append,hs,hod];have hone:v.oneCell'=true:=hrow.one;refine⟨_,h2.put (show d<(s.setR d _).n from hd) ⟨λ_=>?_,λe=>by cases e⟩⟩;simp only[AVr,ACr,St.setR,upd,a6x];exact⟨hone,a56 _,λ_ _=>trivial⟩
theorem Oc{x:Operand}(ho:o.op= .move x\/o.op= .assign x) (h:Rel W0 M G s a w) (hd:∀d,o.dst=some d->d<s.n) (hq:((ev x).bind (one o.dst)).wp s K):pK P W0 M s o a w K Q':=by
 rw[Q.wp_bind]at hq;obtain⟨v,hq,hv⟩:=eW h hq;refine fO h hd hv hq ?_;rcases ho with ho|ho <;> (unfold execOp;rw[ho];rfl)
theorem Xz{c x y:Operand}(ho:o.op= .pick c x y) (h:Rel W0 M G s a w) (hd:∀d,o.dst=some d->d<s.n)
  (hq:((ev c).bind λc=>(Q.bool c).bind λc=>(evG x).bind λx=>(evG y).bind λy=>(SK c x y).bind (one o.dst)).wp s K):pK P W0 M s o a w K Q':=by
 simp only[Q.wp_bind]at hq;obtain⟨cv,hq,hc⟩:=eW h hq;obtain⟨b,hcb,_,hq⟩:=NY hc hq;obtain⟨xv,hq,hx⟩:=Wl h hq;obtain⟨yv,hq,hy⟩:=Wl h hq;have hr:(execOp a.eval o).run P w= .ok (.value (if b then a.eval x else a.eval y)) w:=by
  unfold execOp;rw[ho];simp only[hcb];rfl
 unfold SK at hq;cases b with
 |true=>exact fO h hd (hx.1 hq.1) hq.2 hr
 |false=>exact fO h hd (hy.1 hq.1) hq.2 hr
theorem SN{t:TypeId}{i:TI}(hT:TOk P t i):(i.zero.all Value.oneCell')=true/\i.zero.length=i.size:=by
 obtain⟨inf,z,_,_,_,_,_,h6,h7⟩:=hT.info;exact⟨h7,h6⟩
theorem SO{t:TypeId}(ho:o.op= .alloc t) (hT:∀t i,T t=some i->TOk P t i) (h:Rel W0 M G s a w) (hd:∀d,o.dst=some d->d<s.n)
  (hq:((tq T t).bind λi=>(Q.ofOpt o.dst).bind λd=>.rdB d λb=>.ret [.b d ⟨b.ver+1,some (i.zero.map iG)⟩,.t d ⟨true,.c (.ptr d (b.ver+1) 0)⟩]).wp s K):pK P W0 M s o a w K Q':=by
 simp only[Q.wp_bind]at hq;obtain⟨i,hi,hq⟩:=jo hq;obtain⟨d,hdd,hq⟩:=V7 hq;simp only[Q.wp]at hq;obtain⟨z,hz,hzl⟩:=(hT t i hi).zeroV w;refine Ob h hdd (hd d hdd) (vs:=z.cells) (ty:=t) (by rw[hzl];exact tP (SN (hT t i hi)).1) hq ?_;unfold execOp;rw[ho];simp only[Instr.alloc,Sem.run_bind,hz,Result.andThen_ok];rfl
theorem ZW{t:TypeId}{x:Operand}(ho:o.op= .box t x) (h:Rel W0 M G s a w) (hd:∀d,o.dst=some d->d<s.n)
  (hq:((Q.ofOpt o.dst).bind λd=>(ev x).bind λv=>v.cells.bind λcs=>.rdB d λb=>.ret [.b d ⟨b.ver+1,some cs⟩,.t d ⟨true,.c (.ptr d (b.ver+1) 0)⟩]).wp s K):pK P W0 M s o a w K Q':=by
 simp only[Q.wp_bind]at hq;obtain⟨d,hdd,hq⟩:=V7 hq;obtain⟨v,hq,hv⟩:=eW h hq;obtain⟨cs,hq,hcs⟩:=yS hv hq;simp only[Q.wp]at hq;refine Ob h hdd (hd d hdd) (vs:=(a.eval x).cells) (ty:=t) hcs hq ?_;unfold execOp;rw[ho];rfl
theorem XB{t:TypeId}{x:Operand}(ho:o.op= .load t x) (hT:∀t i,T t=some i->TOk P t i) (h:Rel W0 M G s a w) (hd:∀d,o.dst=some d->d<s.n)
  (hq:((tq T t).bind λi=>(ev x).bind λx=>(LT i x).bind (one o.dst)).wp s K):pK P W0 M s o a w K Q':=by
 simp only[Q.wp_bind]at hq;obtain⟨i,hi,hq⟩:=jo hq;obtain⟨v,hq,hv⟩:=eW h hq;obtain⟨y,u,ad,hp,hq,hy,hrun⟩:=Oa h (hT t i hi) hv hq;refine fO h hd hy hq ?_;unfold execOp;rw[ho];simp only[hp,Instr.loadAt,Instr.sureAddr,Sem.run_bind,Sem.run_pure,Result.andThen_ok,hrun]
theorem AVs.get:∀{xs:List AV}{l:List Value},AVs G s w xs l->∀{k:Nat}{y:AV},xs[k]?=some y->∃u,l[k]?=some u/\AVr G s w y u
 |[],_,_,k,y,hk=>by simp at hk
 |x::xs,l,hl,k,y,hk=>by
  simp only[AVs]at hl;obtain⟨u,r,rfl,h1,h2⟩:=hl;cases k with
  |zero=>simp at hk;subst hk;exact⟨u,rfl,h1⟩
  |succ k=>exact AVs.get h2 (by simpa using hk)
theorem LX{x:Operand}{k:Nat}(ho:o.op= .extract x k) (h:Rel W0 M G s a w) (hd:∀d,o.dst=some d->d<s.n)
  (hq:((ev x).bind λx=>(yR k x).bind (one o.dst)).wp s K):pK P W0 M s o a w K Q':=by
 simp only[Q.wp_bind]at hq;obtain⟨v,hq,hv⟩:=eW h hq;have fin:∀{y:AV} {u:Value},AVr G s w y u->(one o.dst y).wp s K->(Instr.extract (a.eval x) k).run P w= .ok u w->pK P W0 M s o a w K Q':=λhur hq he=>fO h hd hur hq (by
  unfold execOp;rw[ho];simp only[Sem.run_bind,he,Result.andThen_ok];rfl)
 unfold yR at hq;split at hq
 ·rename_i xs;obtain⟨y,hy,hq⟩:=V7 hq;simp only[AVr]at hv;obtain⟨vs,he,hvs⟩:=hv;obtain⟨u,hu,hur⟩:=AVs.get hvs hy;refine fin hur hq ?_;simp only[he,Instr.extract];have:vs[k]?=some u:=by simpa using hu
  rw[this];rfl
 ·rename_i b y z;simp only[AVr]at hv;split at hq
  ·refine fin (u:=.bool b) (by simp only[AVr,ACr,DVr];exact⟨trivial,rfl⟩) hq ?_;cases b with
   |true=>obtain⟨vx,vy,he,_⟩:=hv.1 rfl;rw[he];rfl
   |false=>rw[hv.2 rfl];rfl
  ·obtain⟨hb,hq⟩:=hq;obtain⟨vx,vy,he,h1,h2⟩:=hv.1 hb;refine fin (u:=vx) (by simp only[AVr];exact h1) hq ?_;rw[he];rfl
  ·obtain⟨hb,hq⟩:=hq;obtain⟨vx,vy,he,h1,h2⟩:=hv.1 hb;refine fin (u:=vy) (by simp only[AVr];exact h2) hq ?_;rw[he];rfl
  ·exact hq.elim
 ·rename_i id pv kv;simp only[AVr]at hv;split at hq
  ·simp only[Q.wp]at hq;obtain⟨e0,hq⟩:=hq;obtain⟨h1,h2,h3⟩:=hv.2 e0;obtain⟨u,he⟩:=h2 trivial;refine fin (u:=.int .i64 (G.st id).2) (y:=.ent false id pv kv) ?_ hq ?_
   ·rw[AVr];exact⟨hv.1,λ_=>⟨h1,λh=>(by cases h),λ_=>rfl⟩⟩
   ·simp only[he,Instr.extract];rfl
  ·exact hq.elim
 ·exact hq.elim
theorem lc(_h:Rel W0 M G s a w){id ver off:Nat}{v:Value}(hv:AVr G s w (.c (.ptr id ver off)) v) (h1:ver=(s.b id).ver) (h2:(s.b id).c.isSome=true):v= .pointer (some ⟨G.bx id,off,none⟩):=by
 simp only[AVr,ACr]at hv;exact hv.2.2 h1 h2
theorem va(_h:Rel W0 M G s a w){id ver i off sz:Nat}{v:Value}(hv:AVr G s w (.c (.rptr id ver i off sz)) v) (h1:ver=(s.r id).ver) (h2:(s.r id).c.isSome=true):∃ad n c,G.rw id= .slice (some ad) n c/\v= .pointer (some (ad.add (i*sz+off))):=by
 simp only[AVr,ACr]at hv;exact hv.2.2 h1 h2
theorem EW{cs:List DV}{v:Value}(n:Nat) (hv:ACr G s w (.eptr cs) v):∃ad,v= .pointer (some ad)/\ACr G s w (.eptr (cs.drop n)) (.pointer (some (ad.add n))):=by
 simp only[ACr]at hv⊢;obtain⟨ad,xs,rfl,h1,h2⟩:=hv;refine⟨ad,rfl,_,xs.drop n,rfl,h1.drop n,λj u hu=>?_⟩;rw[List.getElem?_drop]at hu;obtain⟨k1,k2⟩:=h2 _ _ hu;rw[add_add,nz,xm,a6D];exact⟨k1,k2⟩
theorem SP(h:Rel W0 M G s a w){n:Nat}{x:AV}{v:Value}{K:AV->Prop}(hv:AVr G s w x v) (hq:(ES n x).wp s K):∃y ad,K y/\v= .pointer (some ad)/\AVr G s w y (.pointer (some (ad.add n))):=by
 unfold ES at hq;split at hq
 ·rename_i id ver off;simp only[Q.wp]at hq;obtain⟨⟨h1,h2⟩,hq⟩:=hq;obtain rfl:=lc h hv h1 h2;refine⟨_,_,hq,rfl,?_⟩;rw[du _ _ rfl];simp only[AVr,ACr]at hv⊢;exact⟨rfl,hv.2.1,λ_ _=>trivial⟩
 ·rename_i cs;obtain⟨ad,e,h2⟩:=EW n (by simpa only[AVr]using hv);exact⟨_,ad,hq,e,by simpa only[AVr]using h2⟩
 ·rename_i id ver k off sz;simp only[Q.wp]at hq;obtain⟨⟨h1,h2⟩,hq⟩:=hq;obtain⟨ad,m,c,h3,rfl⟩:=va h hv h1 h2;refine⟨_,_,hq,rfl,?_⟩;simp only[AVr,ACr]at hv⊢;refine⟨rfl,hv.2.1,λ_ _=>⟨ad,m,c,h3,?_⟩⟩;rw[add_add,a6D]
 ·exact hq.elim
theorem SQ{t:TypeId}{x:Operand}{f:Nat}(ho:o.op= .fieldAddr t x f) (hT:∀t i,T t=some i->TOk P t i) (h:Rel W0 M G s a w) (hd:∀d,o.dst=some d->d<s.n)
  (hq:((tq T t).bind λi=>match i.k with | .struct fs=>(Q.ofOpt fs[f]?).bind λp=>(ev x).bind λx=>(ES p.1 x).bind (one o.dst) | _=>.fail).wp s K):pK P W0 M s o a w K Q':=by
 simp only[Q.wp_bind]at hq;obtain⟨i,hi,hq⟩:=jo hq;split at hq
 ·rename_i fs hk;simp only[Q.wp_bind]at hq;obtain⟨p,hp,hq⟩:=V7 hq;obtain⟨v,hq,hv⟩:=eW h hq;obtain⟨y,ad,hq,he,hy⟩:=SP h hv hq;refine fO h hd hy hq ?_;obtain⟨d,hu,hdk⟩:=(hT t i hi).und;rw[hk]at hdk;obtain⟨fields,rfl,hmap,hall⟩:=hdk;rw[<-hmap,List.getElem?_map]at hp;obtain⟨fl,hfl,rfl⟩:=Option.map_eq_some_iff.1 hp;have hfl':fields[f]?=some fl:=by simpa using hfl
  have hpos:=List.all_eq_true.1 hall fl (List.mem_of_getElem? hfl);simp only[a5S,a5M]at hpos;obtain⟨inf,hinf⟩:=Option.isSome_iff_exists.1 hpos.2;have hsz:(Go.sizeOf fl.type).run P w= .ok (P.cellsOf fl.type) w:=run_sizeOf w hinf;have hne:¬P.cellsOf fl.type=0:=by omega
  unfold execOp;rw[ho];simp only[he,Instr.fieldAt,Sem.run_bind,run_underlying hu,Result.andThen_ok,hfl',Instr.sureAddr,Sem.run_pure,fieldPlace,hsz,hne,a6o]
 ·exact hq.elim
end
section
variable {P:Program}{T:TypeId->Option TI}{W0:World}{M:Own}{G:Gh}{s:St}{a:Act}{w:World}{o:Oper}{K:List Upd->Prop}{Q':Exit->Act->World->Prop}
theorem J2{x:AC}{v:Value}(hv:AVr G s w (.c x) v):ACr G s w x v:=by simpa only[AVr]using hv
theorem Hx{x:Operand}(ho:o.op= .nilCheck x) (h:Rel W0 M G s a w) (hd:∀d,o.dst=some d->d<s.n)
  (hq:((ev x).bind λx=>match x with
   |.c (.ptr id ver _off)=>.rdB id λb=>.req (ver=b.ver/\b.c.isSome=true) (one o.dst x)
   |.c (.eptr _)=>one o.dst x
   |.c (.rptr id ver _ _ _)=>.rdR id λr=>.req (ver=r.ver/\r.c.isSome=true) (one o.dst x)
   |.c (.d (.v (.func (.func _) _ _)))=>one o.dst x
   |.c (.d (.clo _ _))=>one o.dst x
   |_=>.fail).wp s K):pK P W0 M s o a w K Q':=by
 rw[Q.wp_bind]at hq;obtain⟨v,hq,hv⟩:=eW h hq;have key:∀ad,a.eval x= .pointer (some ad)->(execOp a.eval o).run P w= .ok (.value (a.eval x)) w:=by
  intro ad he;unfold execOp;rw[ho];simp only[he];rfl
 split at hq
 ·simp only[Q.wp]at hq;obtain⟨⟨h1,h2⟩,hq⟩:=hq;exact fO h hd hv hq (key _ (lc h hv h1 h2))
 ·have:=J2 hv;simp only[ACr]at this;obtain⟨ad,xs,h1,_⟩:=this;exact fO h hd hv hq (key _ h1)
 ·simp only[Q.wp]at hq;obtain⟨⟨h1,h2⟩,hq⟩:=hq;obtain⟨ad,m,c,_,h3⟩:=va h hv h1 h2;exact fO h hd hv hq (key _ h3)
 rotate_left 1
 ·have:=J2 hv;simp only[ACr,DVr]at this;obtain⟨ad,xs,h1,_⟩:=this;refine fO h hd hv hq ?_;unfold execOp;rw[ho];simp only[h1];rfl
 rotate_right 1
 ·rename_i f fi ca;have:=J2 hv;simp only[ACr,DVr]at this;refine fO h hd hv hq ?_;unfold execOp;rw[ho];simp only[this.1];rfl
 ·exact hq.elim
theorem Od(op:BinOp) (t:TypeId) (k:IntKind) (a b:Int){K:Value->Prop}(hop:js op=false) (hq:(yf op k a b).wp s K):∃r,K r/\(binOp op t (.int k a) (.int k b)).run P w= .ok r w:=by
 cases op <;> simp only[js]at hop <;> simp only[yf,Q.wp]at hq <;> (try exact hq.elim)
 case quo=>exact⟨_,hq.2,by simp[binOp,Op.intDiv,hq.1]⟩
 case rem=>exact⟨_,hq.2,by simp[binOp,Op.intDiv,hq.1]⟩
 all_goals first
  |exact⟨_,hq,by simp[binOp,Op.intArith,Op.intBits,Op.intCmp];rfl⟩
  |exact⟨_,hq,by simp[binOp,Op.intArith,Op.intBits,Op.intCmp]⟩
  |cases hop
theorem SR(op:BinOp) (t:TypeId) (k k':IntKind) (a b:Int){K:Value->Prop}(hop:js op=true) (hq:(wa op k a b).wp s K):∃r,K r/\(binOp op t (.int k a) (.int k' b)).run P w= .ok r w:=by
 cases op <;> simp only[js]at hop <;> (try cases hop) <;> simp only[wa,Q.wp]at hq
 ·exact⟨_,hq.2,by simp[binOp,Op.shift,Int.not_lt.2 hq.1]⟩
 ·exact⟨_,hq.2,by simp[binOp,Op.shift,Int.not_lt.2 hq.1]⟩
theorem Oe(op:BinOp) (t:TypeId) (a b:ByteArray){K:Value->Prop}(hq:(JG op a b).wp s K):∃r,K r/\(binOp op t (.string a) (.string b)).run P w= .ok r w:=by
 cases op <;> simp only[JG,Q.wp]at hq <;> (try exact hq.elim)
 case add=>
  refine⟨_,hq.2,?_⟩;have:¬(9223372036854775807<(a.size:Int)+(b.size:Int)):=by have:=hq.1;omega
  simp[binOp,Op.stringOp,IntKind.max,IntKind.signed,IntKind.bits,this]
 all_goals
  have hb:(a.toList==b.toList)=decide (a.data.toList=b.data.toList):=by rw[ByteArray.toList_eq,ByteArray.toList_eq,Bool.eq_iff_iff];simp
  exact⟨_,hq,by simp only[binOp,Op.stringOp,hb];(try simp only[ByteArray.toList_eq]);rfl⟩
theorem iN(op:BinOp) (t:TypeId) (x y:Operand) (u v:Value) (hu:(match u with | .nilIface | .agg _=>false | _=>true)=true):(eqGuard op t x y u v).run P w= .ok () w:=by
 unfold eqGuard;cases u <;> first | (cases op <;> first | rfl | (cases v <;> rfl)) | cases hu
def Wm:Value->Bool
 |.bool _|.pointer _|.agg _=>true
 |_=>false
theorem LY{t:TypeId}(hu:P.underlying t=some .bool) (n:Nat) (a b:Bool):(Op.equalIn (n+1) t (.bool a) (.bool b)).run P w= .ok (a==b) w:=by
 simp only[Op.equalIn,Sem.run_bind,run_underlying hu,Result.andThen_ok];rfl
theorem Of{t e:TypeId}(hu:P.underlying t=some (.pointer e)) (n:Nat) (a:Addr):(Op.equalIn (n+1) t (.pointer (some a)) (.pointer none)).run P w= .ok false w:=by
 simp only[Op.equalIn,Sem.run_bind,run_underlying hu,Result.andThen_ok];rfl
theorem LZ{t e:TypeId}(hu:P.underlying t=some (.pointer e)) (n:Nat):(Op.equalIn (n+1) t (.pointer none) (.pointer none)).run P w= .ok true w:=by
 simp only[Op.equalIn,Sem.run_bind,run_underlying hu,Result.andThen_ok];rfl
theorem Og{G:Gh}{s:St}{w:World}:∀(xs:List AC) (us vs:List Value),ACs G s w xs us->dvs xs=some vs->us=vs
 |[],us,vs,h,e=>by
  injection e with e;subst e;simpa [ACs]using h
 |x::xs,us,vs,h,e=>by
  simp only[ACs]at h;obtain⟨u,r,rfl,h3,h4⟩:=h;cases x with
  |d y=>
   cases y with
   |v y=>
    obtain⟨vs',e',rfl⟩:=Option.map_eq_some_iff.1 e;simp only[ACr,DVr]at h3;rw[h3.1,Og xs r vs' h4 e']
   |_=>cases e
  |_=>cases e
theorem ZX{t:TypeId}{i:TI}(hT:TOk P t i) (h:Rel W0 M G s a w){x y:AV}{u v:Value}{K:Bool->Prop}(hx:AVr G s w x u) (hy:AVr G s w y v) (hq:(eqV i i.k x y).wp s K) :
  ∃b,K b/\(Op.equal t u v).run P w= .ok b w/\Wm u=true/\∀op x y,(eqGuard op t x y u v).run P w= .ok () w:=by
 obtain⟨d,hu,hdk⟩:=hT.und;unfold eqV at hq;split at hq
 ·rename_i xs ys;simp only[AVr]at hx hy;obtain⟨vs,rfl,hx⟩:=hx;obtain⟨us,rfl,hy⟩:=hy;unfold eqA at hq;split at hq
  ·rename_i vs' us' e1 e2;obtain⟨⟨ha,h0,h1,h2⟩,hq⟩:=hq;obtain⟨⟨dd,hd,hc⟩,hg⟩:=hT.cmp h0;have a1:=Og _ _ _ hx e1;have a2:=Og _ _ _ hy e2;have hag:∀zs:Array Value,fmd P t (.agg zs):=λzs=>by
    unfold fmd;rw[hu];unfold TI.agg at ha;split at ha
    ·rename_i hk;rw[hk]at hdk;obtain⟨_,rfl,_⟩:=hdk;exact⟨_,rfl⟩
    ·rename_i hk;rw[hk]at hdk;simp only at hdk;subst hdk;exact⟨_,rfl⟩
    ·cases ha
   have:=vZ (10000-dd) dd t i.cmp hc w (.agg vs) (.agg us) (hag vs) (hag us) (by simpa [Value.cells,a1]using h1) (by simpa [Value.cells,a2]using h2);rw[a7L hd]at this;refine⟨_,hq,?_,rfl,λop x y=>run_eqGuard_agg w op t x y vs us hg⟩;rw[<-a1,<-a2];exact this
  ·exact hq.elim
 ·rename_i p q;split at hq
  ·rename_i hk;rw[hk]at hdk;simp only at hdk;subst hdk;have h1:=(J2 hx);have h2:=(J2 hy);simp only[ACr,DVr]at h1 h2;obtain⟨rfl,_⟩:=h1;obtain⟨rfl,_⟩:=h2;exact⟨_,hq,LY hu 9999 p q,rfl,λop x y=>iN op t x y _ _ rfl⟩
  ·exact hq.elim
 ·rename_i id ver off;split at hq
  ·rename_i e hk;rw[hk]at hdk;simp only at hdk;subst hdk;simp only[Q.wp]at hq;obtain⟨⟨e1,e2⟩,hq⟩:=hq;obtain rfl:=lc h hx e1 e2;have h2:=(J2 hy);simp only[ACr,DVr]at h2;obtain⟨rfl,_⟩:=h2;exact⟨_,hq,Of hu 9999 _,rfl,λop x y=>iN op t x y _ _ rfl⟩
  ·exact hq.elim
 ·split at hq
  ·rename_i e hk;rw[hk]at hdk;simp only at hdk;subst hdk;have h1:=(J2 hx);have h2:=(J2 hy);simp only[ACr,DVr]at h1 h2;obtain⟨rfl,_⟩:=h1;obtain⟨rfl,_⟩:=h2;exact⟨_,hq,LZ hu 9999,rfl,λop x y=>iN op t x y _ _ rfl⟩
  ·exact hq.elim
 ·exact hq.elim
theorem EX{op:BinOp}{t:TypeId}{u v:Value}{e b:Bool}(hop:NR op=some e) (hr:(Op.equal t u v).run P w= .ok b w) (hu:Wm u=true) :
  (binOp op t u v).run P w= .ok (.bool (match e with | true=>b | false=> !b)) w:=by
 cases op <;> simp only[NR]at hop <;> first | cases hop | (injection hop with hop;subst hop)
 ·cases u <;> first | (simp only[binOp,Sem.run_bind,hr,Result.andThen_ok];rfl) | cases hu
 ·cases u <;> first | (simp only[binOp,Sem.run_bind,hr,Result.andThen_ok];rfl) | cases hu
theorem SS{op:BinOp}{t t':TypeId}{x y:Operand}(ho:o.op= .binOp op t x y t') (hT:∀t i,T t=some i->TOk P t i) (h:Rel W0 M G s a w) (hd:∀d,o.dst=some d->d<s.n)
  (hq:((tq T t).bind λi=>(ev x).bind λx=>(ev y).bind λy=>(ZR op i x y).bind (one o.dst)).wp s K):pK P W0 M s o a w K Q':=by
 simp only[Q.wp_bind]at hq;obtain⟨i,hi,hq⟩:=jo hq;obtain⟨u,hq,hu⟩:=eW h hq;obtain⟨v,hq,hv⟩:=eW h hq;have fin:∀(r:Value) (z:AV),AVr G s w z r->K (Hr o.dst z)->(eqGuard op t x y (a.eval x) (a.eval y)).run P w= .ok () w->(binOp op t (a.eval x) (a.eval y)).run P w= .ok r w->pK P W0 M s o a w K Q':=by
  intro r z hz hK hg hb;refine fO h hd hz hK ?_;unfold execOp;rw[ho];simp only[Sem.run_bind,hg,Result.andThen_ok,hb];rfl
 unfold ZR at hq;split at hq
 ·rename_i hsc;split at hq
  ·rename_i p q;have h1:=J2 hu;have h2:=J2 hv;simp only[ACr,DVr]at h1 h2;simp only[Q.wp_bind]at hq;unfold a4g at hq;split at hq
   ·rename_i k m k' n;have hg:(eqGuard op t x y (a.eval x) (a.eval y)).run P w= .ok () w:=iN op t x y _ _ (by rw[h1.1]);split at hq
    ·rename_i hsh;obtain⟨r,hq,hr⟩:=SR (P:=P) (w:=w) op t k k' m n hsh hq;exact fin r _ (by simp only[AVr,ACr,DVr];exact⟨trivial,hq.1⟩) hq.2 hg (by rw[h1.1,h2.1];exact hr)
    ·rename_i hsh;obtain⟨rfl,hq⟩:=hq;obtain⟨r,hq,hr⟩:=Od (P:=P) (w:=w) op t k m n hsh hq;exact fin r _ (by simp only[AVr,ACr,DVr];exact⟨trivial,hq.1⟩) hq.2 hg (by rw[h1.1,h2.1];exact hr)
   ·rename_i m n;have hg:(eqGuard op t x y (a.eval x) (a.eval y)).run P w= .ok () w:=iN op t x y _ _ (by rw[h1.1]);obtain⟨r,hq,hr⟩:=Oe (P:=P) (w:=w) op t m n hq;exact fin r _ (by simp only[AVr,ACr,DVr];exact⟨trivial,hq.1⟩) hq.2 hg (by rw[h1.1,h2.1];exact hr)
   ·exact hq.elim
  ·exact hq.elim
 ·split at hq
  ·rename_i e hop;rw[Q.wp_bind]at hq;obtain⟨b,hq,hr,hsh,hg⟩:=ZX (hT t i hi) h hu hv hq;refine fin _ _ ?_ hq (hg op x y) (EX hop hr hsh);simp only[AVr,ACr,DVr];exact⟨by cases e <;> rfl,rfl⟩
  ·exact hq.elim
theorem XC{op:UnOp}{t:TypeId}{x:Operand}(ho:o.op= .unOp op t x) (h:Rel W0 M G s a w) (hd:∀d,o.dst=some d->d<s.n) (hq:((ev x).bind λx=>(unQ op x).bind (one o.dst)).wp s K):pK P W0 M s o a w K Q':=by
 simp only[Q.wp_bind]at hq;obtain⟨u,hq,hu⟩:=eW h hq;have fin:∀(r:Value) (z:AV),AVr G s w z r->K (Hr o.dst z)->(Op.unary op (a.eval x)).run P w= .ok r w->pK P W0 M s o a w K Q':=by
  intro r z hz hK hb;refine fO h hd hz hK ?_;unfold execOp;rw[ho];simp only[Sem.run_bind,hb,Result.andThen_ok];rfl
 unfold unQ at hq;split at hq
 ·rename_i b;have h1:=J2 hu;simp only[ACr,DVr]at h1;split at hq
  ·exact fin _ _ (by simp only[AVr,ACr,DVr];exact⟨rfl,rfl⟩) hq (by rw[h1.1];rfl)
  ·exact hq.elim
 ·rename_i k n;have h1:=J2 hu;simp only[ACr,DVr]at h1;split at hq
  ·exact fin _ _ (by simp only[AVr,ACr,DVr];exact⟨rfl,rfl⟩) hq (by rw[h1.1];rfl)
  ·exact fin _ _ (by simp only[AVr,ACr,DVr];exact⟨rfl,rfl⟩) hq (by rw[h1.1];rfl)
  ·exact hq.elim
 ·exact hq.elim
end
section
variable {P:Program}{T:TypeId->Option TI}{W0:World}{M:Own}{G:Gh}{s:St}{a:Act}{w:World}{o:Oper}{K:List Upd->Prop}{Q':Exit->Act->World->Prop}
theorem row_dv{I:Nat->Nat->Prop}{v:Value}{R:Row}(h:jK I w v R) (hE:R.e<jn):DVr (λ_ _=>True) w (.sl R.es) v:=by
 obtain⟨hz,hu,xs,how,hd⟩:=h.sl hE;have hd':V2 (λ_ _=>True) w R.es xs:=V2.mono (λ_ _ _=>trivial) (pF.refl _ _) _ hd;simp only[DVr];rcases how.2 with⟨hv,h0⟩|⟨g,cap,cur,hv,_,hg,h1,h2,_⟩
 ·exact⟨none,0,R.sz,xs,by rw[hv,h0],by omega,by simp[maxLen],hz,hu,λh=>by omega,hd'⟩
 ·exact⟨some ⟨g,0,none⟩,cap,R.sz,xs,hv,h1,h2,hz,hu,λ_=>⟨_,rfl,λj u hj=>⟨how.cells (g:=g) (by rw[hv];rfl) j u hj,trivial⟩⟩,hd'⟩
theorem zK{I:Nat->Nat->Prop}:∀{l:List UInt8}{xs:List Value},V2 I w (l.map rB) xs->xs=l.map λb=>Value.int .u8 b.toNat
 |[],xs,h=>by simp only[a6B,V2]at h;rw[h];rfl
 |b::l,xs,h=>by
  simp only[a55,V2,rB,bo,DVr]at h;obtain⟨c,r,rfl,⟨x,r',rfl,⟨rfl,_⟩,rfl⟩,h3⟩:=h;rw[zK h3];rfl
theorem Dd{src e dst:TypeId}(hs:P.underlying src=some (.slice e)) (he:P.underlying e=some (.int .u8)) (hd:P.underlying dst=some .string){I:Nat->Nat->Prop}{l:List UInt8}{v:Value}(h:DVr I w (.sl (l.map rB)) v) :
  (convert src dst v).run P w= .ok (.string ⟨l.toArray⟩) w:=by
 simp only[DVr]at h;obtain⟨A,c,z,xs,rfl,h1,h2,h3,h4,h5,h6⟩:=h;have hxs:=zK h6;rw[a5X]at h1 h5⊢;rcases A with _|ad
 ·have h0:l=[]:=by
   rcases a66 l.length with h0|h0
   ·exact a6f h0
   ·obtain⟨_,h,_⟩:=h5 h0;cases h
  subst h0;simp only[convert,Sem.run_bind,run_underlying hs,run_underlying hd,run_underlying he,Result.andThen_ok];rfl
 ·have hl:(loadCells ad l.length).run P w= .ok ((l.map λa=>(a.toNat:Int)).map (Value.int .u8)).toArray w:=by
   have:=run_loadCells_list (P:=P) w ad xs (λj v hj=>by
    have h0:0<l.length:=by
     rcases a66 l.length with h0|h0
     ·have:=a6f h0;subst this;rw[hxs]at hj;simp at hj
     ·exact h0
    obtain⟨ad',h,hc⟩:=h5 h0;injection h with h;subst h;exact(hc j v hj).1)
   rw[hxs]at this;rw[a7v];simpa [Function.comp_def]using this
  rw[run_convert_bytes_string w src dst e _ _ c hs he hd,run_bytesToString w ad _ c _ hl,foldl_push_bytes];have e1:(l.map λa=>(a.toNat:Int)).map (λn=>UInt8.ofNat n.toNat)=l:=by
   rw[a7v]
   conv=>rhs;rw[<-List.map_id l]
   apply a7d;intro a _;simp
  rw[e1];simp
theorem Mem.newI(h:Mem W0 M G s w){w':World}(hg:w.grownBy w' none) (n:Nat) (hlt:w.heap.size<w'.heap.size) :
  Mem W0 M ⟨λb o=>G.I b o\/(b=w.heap.size/\o<n),G.bx,G.rw,G.st,G.ex⟩ s w'/\Ext G s w ⟨λb o=>G.I b o\/(b=w.heap.size/\o<n),G.bx,G.rw,G.st,G.ex⟩ s w':=by
 obtain⟨m,e⟩:=h.grow hg;have E:Ext G s w ⟨λb o=>G.I b o\/(b=w.heap.size/\o<n),G.bx,G.rw,G.st,G.ex⟩ s w':=⟨λ_ _ h=>.inl h,e.keep,e.b,e.r,λ_ _=>rfl⟩;have E':Ext G s w' ⟨λb o=>G.I b o\/(b=w.heap.size/\o<n),G.bx,G.rw,G.st,G.ex⟩ s w':=⟨λ_ _ h=>.inl h,pF.refl _ _,e.b,e.r,λ_ _=>rfl⟩;have ho:∀x,own ⟨λb o=>G.I b o\/(b=w.heap.size/\o<n),G.bx,G.rw,G.st,G.ex⟩ s x=own G s x:=λx=>by cases x <;> rfl
 refine⟨⟨λk c hc=>?_,λk R hc=>(m.rw k R hc).mono (λ_ _ h=>.inl h),λx y b hx hy=>m.dj x y b (by rw[ho]at hx;exact hx) (by rw[ho]at hy;exact hy),λk hc o hi=>?_,λk R g hc hg' o hi=>?_,λx b hx=>m.oM x b (by rw[ho]at hx;exact hx),λb o hi=>?_,m.fr,⟨λb o hi=>.inl (m.ii.1 b o hi),λb o hi=>?_⟩,m.gl.mono E'.I E'.keep,m.pe,λk R hc hp=>⟨(m.sx k R hc hp).1,λb hb o hi=>by
  rcases hi with hi|⟨hi,_⟩
  ·exact(m.sx k R hc hp).2 b hb o hi
  ·have:=h.ownlt (x:=.inr k) (b:=b) (vY hc hp hb);omega⟩⟩,E⟩
 ·obtain⟨cur,ty,h1,h2⟩:=m.bx k c hc;exact⟨cur,ty,h1,E'.acs h2⟩
 ·rcases hi with hi|⟨hb,_⟩
  ·exact m.bI k hc o hi
  ·have:=h.ownlt (x:=.inl k) (b:=G.bx k) (BO hc);simp only at hb;omega
 ·rcases hi with hi|⟨hb,_⟩
  ·exact m.rI k R g hc hg' o hi
  ·have:=h.ownlt (x:=.inr k) (b:=g) (pg hc hg');omega
 ·rcases hi with hi|⟨hb,_⟩
  ·exact m.In b o hi
  ·rw[hb];exact hlt
 ·rcases hi with hi|⟨hb,_⟩
  ·exact m.ii.2 b o hi
  ·exact .inr (.inr (by rw[hb];exact h.fr.size))
theorem V2.bytes{I:Nat->Nat->Prop}:∀l:List UInt8,V2 I w (l.map rB) (l.map λb=>Value.int .u8 b.toNat)
 |[]=>by simp[V2]
 |b::l=>by
  simp only[a55,V2];exact⟨[.int .u8 b.toNat],_,rfl,⟨_,[],rfl,⟨rfl,rfl⟩,rfl⟩,V2.bytes l⟩
theorem Hy(w:World) (e:TypeId) (str:ByteArray):w.grownBy (Go.Lib.bytesWorld w e str) none:=
 ⟨rfl,rfl,rfl,by rw[Go.Lib.bytesWorld_size];exact Nat.le_succ _,λk hk _=>Go.Lib.bytesWorld_at_old w e str k hk⟩
theorem Ma{t t':TypeId}{x:Operand}(ho:o.op= .convert t t' x) (hT:∀t i,T t=some i->TOk P t i) (h:Rel W0 M G s a w) (hd:∀d,o.dst=some d->d<s.n)
  (hq:((tq T t).bind λi=>(tq T t').bind λj=>(ev x).bind λx=>match i.k,j.k with
  |.int _,.int k=>(Q.int x).bind λn=>one o.dst (.c (.d (.v (.int k (k.wrap n)))))
  |.str,.str=>match x with
   |.c (.d (.v (.string _)))=>one o.dst x
   |_=>.fail
  |.slice e,.str=>(tq T e).bind λie=>match ie.k with
   |.int .u8=>match x with
    |.c x=>(toD x).bind λy=>(BT y.1).bind λl=>one o.dst (.c (.d (.v (.string ⟨l.toArray⟩))))
    |_=>.fail
   |_=>.fail
  |.str,.slice e=>(tq T e).bind λie=>match ie.k with
   |.int .u8=>match x with
    |.c (.d (.v (.string str)))=>.req (str.size<=maxLen) (one o.dst (.c (.d (.sl (str.data.toList.map rB)))))
    |_=>.fail
   |_=>.fail
  |_,_=>.fail).wp s K):pK P W0 M s o a w K Q':=by
 simp only[Q.wp_bind]at hq;obtain⟨i,hi,hq⟩:=jo hq;obtain⟨j,hj,hq⟩:=jo hq;obtain⟨u,hq,hu⟩:=eW h hq;obtain⟨d1,hu1,hk1⟩:=(hT t i hi).und;obtain⟨d2,hu2,hk2⟩:=(hT t' j hj).und;have fin:∀(r:Value) (z:AV),AVr G s w z r->K (Hr o.dst z)->(convert t t' (a.eval x)).run P w= .ok r w->pK P W0 M s o a w K Q':=by
  intro r z hz hK hb;refine fO h hd hz hK ?_;unfold execOp;rw[ho];simp only[Sem.run_bind,hb,Result.andThen_ok];rfl
 split at hq
 ·rename_i k0 k e1 e2;rw[e1]at hk1;rw[e2]at hk2;simp only at hk1 hk2;subst hk1;subst hk2;rw[Q.wp_bind]at hq;obtain⟨k',n,he,hq⟩:=BV hu hq;exact fin _ _ (by simp only[AVr,ACr,DVr];exact⟨rfl,rfl⟩) hq (by rw[he];simp only[convert,Sem.run_bind,run_underlying hu1,run_underlying hu2,Result.andThen_ok];rfl)
 ·rename_i e1 e2;rw[e1]at hk1;rw[e2]at hk2;simp only at hk1 hk2;subst hk1;subst hk2;split at hq
  ·have h1:=J2 hu;simp only[ACr,DVr]at h1;exact fin _ _ hu hq (by rw[h1.1];simp only[convert,Sem.run_bind,run_underlying hu1,run_underlying hu2,Result.andThen_ok];rfl)
  ·exact hq.elim
 ·rename_i e e1 e2;rw[e1]at hk1;rw[e2]at hk2;simp only at hk1 hk2;subst hk1;subst hk2;rw[Q.wp_bind]at hq;obtain⟨ie,hie,hq1⟩:=jo hq;clear hq;obtain⟨d3,hu3,hk3⟩:=(hT e ie hie).und;split at hq1
  ·rename_i e3;rw[e3]at hk3;simp only at hk3;subst hk3;split at hq1
   ·rename_i xc;rw[Q.wp_bind]at hq1;obtain⟨y,hq2,hE,hy⟩:=BW (J2 hu) hq1;clear hq1;rw[Q.wp_bind]at hq2;have hdv:=hy (λ_ _=>True) (λ_ _ _=>trivial) (λid hm R hR=>row_dv (h.mem.rw id R hR) ((hE id hm).2 R hR));unfold BT at hq2;split at hq2
    ·rename_i es hes;obtain⟨hby,hq3⟩:=hq2;rw[hes]at hdv;refine fin (.string ⟨(es.map wc).toArray⟩) _ (by simp only[AVr,ACr,DVr];exact⟨trivial,rfl⟩) hq3 ?_;rw[hby]at hdv;exact Dd hu1 hu3 hu2 hdv
    ·exact hq2.elim
   ·exact hq1.elim
  ·exact hq1.elim
 ·rename_i e e1 e2;rw[e1]at hk1;rw[e2]at hk2;simp only at hk1 hk2;subst hk1;subst hk2;rw[Q.wp_bind]at hq;obtain⟨ie,hie,hq1⟩:=jo hq;clear hq;obtain⟨d3,hu3,hk3⟩:=(hT e ie hie).und;split at hq1
  ·rename_i e3;rw[e3]at hk3;simp only at hk3;subst hk3;split at hq1
   ·rename_i str;obtain⟨hsz,hq2⟩:=hq1;simp only[AVr,ACr,DVr]at hu;obtain⟨m1,E1⟩:=h.mem.newI (Hy w e str) str.size (by rw[Go.Lib.bytesWorld_size];exact a7i _);have hR:=h.mem' E1 m1 rfl rfl;have hrun:=Go.Lib.run_convert_string_bytes w t t' e str hu1 hu2 hu3;have hln:(str.data.toList.map rB).length=str.size:=by simp
    refine eV (w':=Go.Lib.bytesWorld w e str) (v:=.slice (some ⟨w.heap.size,0,none⟩) str.size (grownCap w str.size 0 e)) ?_ ⟨_,hq2,?_⟩
    ·unfold execOp;rw[ho];simp only[hu.1,Sem.run_bind,hrun,Result.andThen_ok];rfl
    ·unfold Hr;cases hod:o.dst with
     |none=>exact⟨_,hR⟩
     |some d=>
      refine⟨_,hR.put (hd d hod) ⟨λ_=>?_,λe=>by cases e⟩⟩;simp only[AVr,ACr,DVr];refine⟨some ⟨w.heap.size,0,none⟩,grownCap w str.size 0 e,1,str.data.toList.map λb=>Value.int .u8 b.toNat,by rw[hln],by rw[hln];exact grownCap_ge _ _ _ _,grownCap_le_maxLen _ _ _ _ hsz,Nat.one_pos,λe he=>?_,λ_=>⟨_,rfl,λj u hj=>?_⟩,V2.bytes _⟩
      ·obtain⟨b,_,rfl⟩:=List.mem_map.1 he;rfl
      ·have hj':j<str.size:=by
        rcases a6y j str.size with h|h
        ·exact h
        ·rw[List.getElem?_eq_none (by simpa using h)]at hj;cases hj
       refine⟨?_,.inr ⟨rfl,show 0+j<str.size by omega⟩⟩;rw[du _ _ rfl,a6j,Go.Lib.bytesWorld_cell w e str j hj'];simp only[List.getElem?_map,a6Y]at hj;obtain⟨b,hb,rfl⟩:=hj;simp[List.getD,hb]
   ·exact hq1.elim
  ·exact hq1.elim
 ·exact hq.elim
theorem DVr.slice{I:Nat->Nat->Prop}{es:List (List DV)}{A:Option Addr}{n c z l h:Nat}(hx:DVr I w (.sl es) (.slice A n c)) (hz:∀e∈es,e.length=z) (hlh:l<=h) (hh:h<=es.length) :
  n=es.length/\n<=c/\DVr I w (.sl ((es.take h).drop l)) (.slice (if c=l then A else A.map (·.add (l*z))) (h-l) (c-l)):=by
 simp only[DVr]at hx;obtain⟨A',c',z',xs,hv,h1,h2,h3,h4,h5,h6⟩:=hx;injection hv with e1 e2 e3;subst e1;subst e2;subst e3;refine⟨rfl,h1,?_⟩;simp only[DVr];have hlen:((es.take h).drop l).length=h-l:=by rw[a5Y,a5T];omega
 by_cases h0:l<h
 ·obtain⟨ad,hA,hc⟩:=h5 (by omega);subst hA;obtain⟨e0,he0⟩:∃e,e∈es:=by
   cases es with
   |nil=>simp at hh;omega
   |cons e es=>exact⟨e,by simp⟩
  have hzz:z'=z:=(h4 e0 he0).symm.trans (hz e0 he0);subst hzz;have hx2:=V2.drop (V2.take h6 h4 h) (λe he=>h4 e (a6V he)) l;rw[a5U (by omega)];refine⟨some (ad.add (l*z')),c-l,z',_,by rw[hlen];rfl,by omega,by omega,h3,λe he=>h4 e (a6V (a7E he)),λ_=>⟨_,rfl,λj u hu=>?_⟩,hx2⟩;rw[List.getElem?_drop,List.getElem?_take]at hu;split at hu
  ·obtain⟨k1,k2⟩:=hc _ _ hu;rw[add_add,nz,xm,a6D];exact⟨k1,k2⟩
  ·cases hu
 ·have hnil:(es.take h).drop l=[]:=by
   apply a6f;rw[hlen];omega
  rw[hnil];exact⟨(if c=l then A else A.map (·.add (l*z))),c-l,1,[],by rw[show h-l=0 from by omega];rfl,a6p _,by omega,by omega,by simp,by simp,by simp[V2]⟩
theorem xp{t e:TypeId}{i:TI}(hT:TOk P e i) (hu:P.underlying t=some (.slice e)) (A:Option Addr) (n c:Nat) (lo hi:Option Value) (l h:Nat)
  (hlo:(lo=none/\l=0)\/∃k,lo=some (.int k (l:Int))) (hhi:(hi=none/\h=n)\/∃k,hi=some (.int k (h:Int))) (hlh:l<=h) (hhc:h<=c) :
  (Instr.sliceAt t (.slice A n c) lo hi none).run P w= .ok (.slice (if c=l then A else A.map (·.add (l*i.size))) (h-l) (c-l)) w:=by
 have hsz:=hT.sizeOf w;have b1:∀(k:IntKind) (code:BoundsCode),(Instr.sliceBound (.int k (h:Int)) c code).run P w= .ok h w:=λk code=>by
  have:=run_sliceBound (P:=P) (w:=w) k (h:Int) c code (by omega) (by omega);simpa using this
 have b2:∀(k:IntKind) (code:BoundsCode),(Instr.sliceBound (.int k (l:Int)) h code).run P w= .ok l w:=λk code=>by
  have:=run_sliceBound (P:=P) (w:=w) k (l:Int) h code (by omega) (by omega);simpa using this
 rcases hlo with⟨rfl,rfl⟩|⟨k1,rfl⟩ <;> rcases hhi with⟨rfl,rfl⟩|⟨k2,rfl⟩ <;>
  simp[Instr.sliceAt,Instr.slice,run_underlying hu,Instr.sliceBounds,b1,b2,hsz]
theorem qE(h:Rel W0 M G s a w){ids:List Nat}{K:List Upd->Prop}(hq:(lV ids).wp s K) :
  ∃us G',K us/\Rel W0 M G' (s.app us) a w/\Ext G s w G' (s.app us) w/\(∀id∈ids,∀R,(s.r id).c=some R->DVr G'.I w (.sl R.es) (G.rw id))/\Frz s (s.app us)/\G'.bx=G.bx/\G'.rw=G.rw/\
   (∀id R,((s.app us).r id).c=some R->R.fr=true->(∃R',(s.r id).c=some R'/\R'.fr=true)\/id∈ids):=by
 obtain⟨us,G',k1,k2,k3,k4,k5,k6,k7,k8,_⟩:=pi s hq h.mem (Frz.refl s);exact⟨us,G',k1,h.mem' k3 k2 k5.1 k5.2.1,k3,k4,k5,k6,k7,k8⟩
theorem Oh{l h:Option Int}{x:AV}{K:AV->Prop}(hq:(uY l h x).wp s K):∃str,x= .c (.d (.v (.string str)))/\0<=l.getD 0/\l.getD 0<=h.getD str.size/\h.getD str.size<=str.size/\K (.c (.d (.v (.string (str.extract (l.getD 0).toNat (h.getD str.size).toNat))))):=by
 unfold uY at hq;split at hq
 ·rename_i str;exact⟨str,rfl,hq.1.1,hq.1.2.1,hq.1.2.2,hq.2⟩
 ·exact hq.elim
theorem jK.cut{I:Nat->Nat->Prop}{A:Option Addr}{n c k:Nat}{R:Row}(h:jK I w (.slice A n c) R) (hk:k<=R.es.length):n=R.es.length/\k<=c/\jK I w (.slice A k c) ⟨R.es.take k,R.sz,R.e,false⟩:=by
 obtain⟨hz,hl,xs,ho,hd⟩:=h.slv ⟨_,_,_,rfl⟩;have he:=h.lte ⟨_,_,_,rfl⟩;have hlen:(R.es.take k).length=k:=by rw[a5T];omega
 have hx:(xs.take (k*R.sz)).length=(R.es.take k).length*R.sz:=by
  rw[a5T,ho.1,hlen];exact a7u (a6k _ hk)
 have hmem:∀e∈R.es.take k,e.length=R.sz:=λe he=>hl e (a6V he);rcases ho.2 with⟨hv,h0⟩|⟨g,cap,cur,hv,hb,hg,h1,h2,h3,h4⟩
 ·injection hv with a1 a2 a3;subst a1;subst a2;subst a3;have hk0:k=0:=by omega
  subst hk0;exact⟨by omega,a56 _,hz,hmem,.inl ⟨he,_,⟨hx,.inl ⟨rfl,hlen⟩⟩,V2.take hd hl 0⟩⟩
 ·injection hv with a1 a2 a3;subst a1;subst a2;subst a3;refine⟨rfl,by omega,hz,hmem,.inl ⟨he,_,⟨hx,.inr ⟨g,c,cur,by rw[hlen],hb,hg,by rw[hlen];omega,h2,h3,?_⟩⟩,V2.take hd hl k⟩⟩;rw[<-h4,hlen,a7U,a7u (a6k _ hk)]
theorem ZY{t e:TypeId}{ie:TI}(hT:TOk P e ie) (hu:P.underlying t=some (.slice e)) (h:Rel W0 M G s a w){d:Nat}(hdd:o.dst=some d) (hd:d<s.n){v:Value}{c:AC}(hv:ACr G s w c v){hh:Option Int}{hi':Option Value}
  (hhl:(hi'=none/\hh=none)\/∃k n,hi'=some (.int k n)/\hh=some n) (hrun0:∀r,(Instr.sliceAt t v none hi' none).run P w= .ok r w->(execOp a.eval o).run P w= .ok (.value r) w) (hq:(Xv d ie.size hh c).wp s K):pK P W0 M s o a w K Q':=by
 unfold Xv at hq;split at hq
 ·rename_i id ver;simp only[Q.wp]at hq;split at hq
  ·rename_i R hR;obtain⟨⟨e1,e2,e3,e4,b0,b1⟩,hq⟩:=hq;simp only[ACr]at hv;have hu':=hv.2.2 e1 (by rw[hR];rfl);have hrow:=h.mem.rw id R hR;obtain⟨A,n,cp,hvv⟩:∃A n cp,v= .slice A n cp:=by
    obtain⟨_,_,xs,ho,_⟩:=hrow.sl e2;rw[hu'];rcases ho.2 with⟨hv,_⟩|⟨g,cap,cur,hv,_⟩
    ·exact⟨_,_,_,hv⟩
    ·exact⟨_,_,_,hv⟩
   rw[<-hu',hvv]at hrow;obtain⟨n1,n2,n3⟩:=hrow.cut (k:=(hh.getD R.es.length).toNat) (by omega);have hrun:=xp (P:=P) (w:=w) hT hu A n cp none hi' 0 (hh.getD R.es.length).toNat (.inl ⟨rfl,rfl⟩) (by
    rcases hhl with⟨rfl,rfl⟩|⟨k,m,hm,rfl⟩
    ·exact .inl ⟨rfl,by simp[n1]⟩
    ·refine .inr ⟨k,?_⟩;rw[hm];simp only[a6m]at b0 b1⊢;rw[a6R (by omega)]) (a6p _) n2
   have hA:(if cp=0 then A else A.map (·.add (0*ie.size)))=A:=by
    split
    ·rfl
    ·cases A with
     |none=>rfl
     |some ad=>simp[Addr.add]
   rw[hA,a8e,a8e]at hrun;generalize (hh.getD R.es.length).toNat=k at *
   obtain⟨m1,x1⟩:=h.mem.dropRow id;have hob:obk (.slice A k cp)=obk (.slice A n cp):=by cases A <;> rfl
   have hownu:∀g,obk (.slice A n cp)=some g->g∈own G s (.inr id):=λg hg=>pg hR (by rw[<-hu',hvv];exact hg);obtain⟨m2,x2⟩:=m1.addRow d ((s.r d).ver+1) (.slice A k cp) ⟨R.es.take k,R.sz,R.e,false⟩ (by
     simp only[St.setR,upd];by_cases e:d=id
     ·subst e;simp
     ·simp[e]) n3 (λx b hb hx=>by
     rw[hob]at hb;have h1:b∈own G s x:=by
      rcases x with j|j
      ·exact hx
      ·by_cases e:j=id
       ·subst e;simp[own,St.setR,upd]at hx
       ·simpa [own,St.setR,upd,e]using hx
     have:=h.mem.dj x (.inr id) b h1 (hownu b hb);subst this;simp[own,St.setR,upd]at hx) (λg hg o' hi=>by
     rw[hob]at hg;have:=(h.mem.rI id R g hR (by rw[<-hu',hvv];exact hg) o' hi).1;rw[e3]at this;cases this) (λg hg=>by
     rw[hob]at hg;exact h.mem.oM _ g (hownu g hg))
   refine eV (hrun0 _ (by rw[hvv];exact hrun)) ⟨_,hq,?_⟩;have hR3:=h.mem' (x1.trans x2) m2 rfl rfl;rw[hdd];refine⟨_,hR3.put (show d<s.n from hd) ⟨λ_=>?_,λe=>by cases e⟩⟩;simp only[AVr,ACr,St.setR,upd,a6x];exact⟨rfl,a56 _,λ_ _=>trivial⟩
  ·exact hq.elim
 ·exact hq.elim
theorem XD{t e:TypeId}{ie:TI}(hT:TOk P e ie) (hu:P.underlying t=some (.slice e)) (h:Rel W0 M G s a w) (hd:∀d,o.dst=some d->d<s.n){v:Value}{c:AC}(hv:ACr G s w c v){l:Option Int}{lo':Option Value}
  (hll:(lo'=none/\l=none)\/∃k n,lo'=some (.int k n)/\l=some n) (hrun0:∀r,(Instr.sliceAt t v lo' none none).run P w= .ok r w->(execOp a.eval o).run P w= .ok (.value r) w) (hq:((Ht ie.size l c).bind (one o.dst)).wp s K):pK P W0 M s o a w K Q':=by
 rw[Q.wp_bind]at hq;unfold Ht at hq;split at hq
 ·rename_i id ver;simp only[Q.wp]at hq;split at hq
  ·rename_i R hR;obtain⟨⟨e1,e2,e4,b0,b1⟩,hq⟩:=hq;simp only[ACr]at hv;have hu':=hv.2.2 e1 (by rw[hR];rfl);have hrow:=h.mem.rw id R hR;obtain⟨A,n,cp,hvv⟩:∃A n cp,v= .slice A n cp:=by
    obtain⟨_,_,xs,ho,_⟩:=hrow.sl e2;rw[hu'];rcases ho.2 with⟨hv,_⟩|⟨g,cap,cur,hv,_⟩
    ·exact⟨_,_,_,hv⟩
    ·exact⟨_,_,_,hv⟩
   rw[<-hu',hvv]at hrow;obtain⟨n1,n2,_⟩:=hrow.cut (k:=R.es.length) (by omega);have hrun:=xp (P:=P) (w:=w) hT hu A n cp lo' none (l.getD 0).toNat n (by
    rcases hll with⟨rfl,rfl⟩|⟨k,m,hm,rfl⟩
    ·exact .inl ⟨rfl,rfl⟩
    ·refine .inr ⟨k,?_⟩;rw[hm];simp only[a6m]at b0⊢;rw[a6R b0]) (.inl ⟨rfl,rfl⟩) (by omega) (by omega)
   refine fO (v:=.slice (if cp=(l.getD 0).toNat then A else A.map (·.add ((l.getD 0).toNat*ie.size))) (n-(l.getD 0).toNat) (cp-(l.getD 0).toNat)) h hd ?_ hq (hrun0 _ (by rw[hvv];exact hrun))
   simp only[AVr];exact⟨hv.2.1,λ_ _=>⟨A,n,cp,by rw[<-hu',hvv],by omega,rfl⟩⟩
  ·exact hq.elim
 ·exact hq.elim
theorem we(z:Nat):∀(n:Nat) (ds:List DV),(rz z n ds).length=n
 |0,_=>rfl
 |n+1,_ds=>congrArg Nat.succ (we z n _)
theorem wg{z:Nat}:∀{n:Nat}{ds:List DV},ds.length=n*z->∀e∈rz z n ds,e.length=z
 |0,_,_,e,he=>by cases he
 |n+1,ds,h,e,he=>by
  rw[a6r]at h;rcases List.mem_cons.1 he with rfl|he
  ·rw[a5T];omega
  ·exact wg (n:=n) (ds:=ds.drop z) (by rw[a5Y];omega) e he
theorem JJ{I:Nat->Nat->Prop}{z:Nat}:∀{n:Nat}{ds:List DV}{xs:List Value},xs.length=n*z->bo I w ds xs->V2 I w (rz z n ds) xs
 |0,_,xs,hl,_=>by
  simp only[a7A]at hl;simp only[rz,V2];exact a6f hl
 |n+1,ds,xs,hl,h=>by
  rw[a6r]at hl;simp only[rz,V2];exact⟨xs.take z,xs.drop z,(a6d z xs).symm,bo.take z h,JJ (by rw[a5Y];omega) (bo.drop z h)⟩
theorem Rel.reT(h:Rel W0 M G s a w){k:Nat}(hk:k<s.n){x:AV}(hx:AVr G s w x (a.tmps.getD k undef)):Rel W0 M G (s.setT k ⟨true,x⟩) a w:=by
 have E:Ext G s w G (s.setT k ⟨true,x⟩) w:=Ext.slots G s w s.n _;refine⟨h.sz,h.df,λj=>?_,h.mem.slots _ _,λj=>?_⟩
 ·simp only[St.setT,upd];by_cases e:j=k
  ·subst e;simp only[a6x];exact E.gv ⟨λ_=>hx,λe=>by cases e⟩
  ·simp only[e,a6o];exact E.gv (h.tm j)
 ·have e:s.n+j≠k:=by omega
  simp only[St.setT,upd,e,a6o];exact E.av _ (h.pin j)
theorem Mb{t e:TypeId}{i:TI}{n:Nat}(hT:TOk P e i) (hu:P.underlying t=some (.array n e)) (ad:Addr) (lo hi:Option Value) (l h:Nat)
  (hlo:(lo=none/\l=0)\/∃k,lo=some (.int k (l:Int))) (hhi:(hi=none/\h=n)\/∃k,hi=some (.int k (h:Int))) (hlh:l<=h) (hhc:h<=n) :
  (Instr.sliceAt t (.pointer (some ad)) lo hi none).run P w= .ok (.slice (some (if n=l then ad else ad.add (l*i.size))) (h-l) (n-l)) w:=by
 have hsz:=hT.sizeOf w;have b1:∀(k:IntKind) (code:BoundsCode),(Instr.sliceBound (.int k (h:Int)) n code).run P w= .ok h w:=λk code=>by
  have:=run_sliceBound (P:=P) (w:=w) k (h:Int) n code (by omega) (by omega);simpa using this
 have b2:∀(k:IntKind) (code:BoundsCode),(Instr.sliceBound (.int k (l:Int)) h code).run P w= .ok l w:=λk code=>by
  have:=run_sliceBound (P:=P) (w:=w) k (l:Int) h code (by omega) (by omega);simpa using this
 rcases hlo with⟨rfl,rfl⟩|⟨k1,rfl⟩ <;> rcases hhi with⟨rfl,rfl⟩|⟨k2,rfl⟩ <;>
  simp[Instr.sliceAt,Instr.sureAddr,run_underlying hu,Instr.sliceBounds,b1,b2,hsz]
theorem Oi{α:Type}{l h:Option Int}{n:Nat}{xs:List α}(hn:xs.length=n):LU l h n xs=(xs.take (h.getD n).toNat).drop (l.getD 0).toNat:=by
 unfold LU;split
 ·subst hn;simp
 ·rfl
theorem JK{I:Nat->Nat->Prop}{ad:Addr}{xs:List Value}{ds:List DV}{n z:Nat}(hl:ds.length=n*z) (hz:0<z) (hn:n<=maxLen) (hd:bo I w ds xs) (hc:∀j u,xs[j]?=some u->w.cell? (ad.add j)=some u/\I ad.block (ad.off+j)):DVr I w (.sl (rz z n ds)) (.slice (some ad) n n):=by
 have hclen:(rz z n ds).length=n:=we _ _ _;have hxl:xs.length=n*z:=by rw[<-hl,hd.len]
 simp only[DVr];exact⟨some ad,n,z,xs,by rw[hclen],by rw[hclen];omega,hn,hz,λe he=>wg hl e he,λ_=>⟨_,rfl,hc⟩,JJ hxl hd⟩
theorem Oj{t e:TypeId}{n:Nat}{ie:TI}(hT:TOk P e ie) (hu1:P.underlying t=some (.array n e)) (h:Rel W0 M G s a w) (hd:∀d,o.dst=some d->d<s.n){x:Operand}{u:AV}(hu:AVr G s w u (a.eval x)){l hh:Option Int}{lo hi:Option Value}
  (hl:(lo=none/\l=none)\/∃k n,lo=some (.int k n)/\l=some n) (hhl:(hi=none/\hh=none)\/∃k n,hi=some (.int k n)/\hh=some n) (hrun0:∀r,(Instr.sliceAt t (a.eval x) lo hi none).run P w= .ok r w->(execOp a.eval o).run P w= .ok (.value r) w) (hq:(uZ o.dst (rA x) n ie.size l hh u).wp s K):pK P W0 M s o a w K Q':=by
 have hrun:∀ad:Addr,0<=l.getD 0->l.getD 0<=hh.getD n->hh.getD n<=n->(Instr.sliceAt t (.pointer (some ad)) lo hi none).run P w= .ok (.slice (if n=(l.getD 0).toNat then some ad else(some ad).map (·.add ((l.getD 0).toNat*ie.size))) ((hh.getD n).toNat-(l.getD 0).toNat) (n-(l.getD 0).toNat)) w:=λad b0 b1 b2=>by
  have hr:=Mb (P:=P) (w:=w) hT hu1 ad lo hi (l.getD 0).toNat (hh.getD n).toNat (by
   rcases hl with⟨rfl,rfl⟩|⟨k,m,hm,rfl⟩
   ·exact .inl ⟨rfl,rfl⟩
   ·refine .inr ⟨k,?_⟩;rw[hm];simp only[a6m]at b0⊢;rw[a6R b0]) (by
   rcases hhl with⟨rfl,rfl⟩|⟨k,m,hm,rfl⟩
   ·exact .inl ⟨rfl,by simp⟩
   ·refine .inr ⟨k,?_⟩;rw[hm];simp only[a6m]at b1 b2⊢;rw[a6R (by omega)]) (by omega) (by omega)
  rw[hr];split <;> rfl
 unfold uZ at hq;split at hq
 ·rename_i c;rw[Q.wp_bind]at hq;obtain⟨d,hdd,hq⟩:=V7 hq;unfold xn at hq;split at hq
  ·rename_i id ver off _hq0;simp only[Q.wp]at hq;split at hq
   ·rename_i cs hcs;rw[Q.wp_bind]at hq;obtain⟨I',hm,E,cur,ty,hh',hac,hfix⟩:=h.mem.give hcs;obtain⟨y,hq,hyl,hyv⟩:=sN hac hq;obtain⟨⟨h0,h1,h2,h3,h4,h5,b0,b1,b2⟩,hq⟩:=hq;have hv:=lc h hu h1 (by rw[hcs];rfl);rw[h0]at hv;have hR:=h.mem' E hm rfl rfl;have hdv:=hyv I' E.I (λid hid=>by rw[h2]at hid;cases hid);have hcl:∀j u,cur.toList[j]?=some u->w.cell? (Addr.add ⟨G.bx id,0,none⟩ j)=some u/\I' (G.bx id) (0+j):=λj u hj=>by
     refine⟨?_,?_⟩
     ·rw[du _ _ rfl,a6j];simp only[World.cell?,hh'];simpa using hj
     ·rw[a6j];refine hfix _ ?_;have:=(List.getElem?_eq_some_iff.1 hj).1;simpa using this
    have hsl:=JK (w:=w) (ad:=⟨G.bx id,0,none⟩) h3 h4 h5 hdv hcl;have hclen:(rz ie.size n y.1).length=n:=we _ _ _;obtain⟨_,_,e3⟩:=DVr.slice (l:=(l.getD 0).toNat) (h:=(hh.getD n).toNat) hsl (λe he=>wg h3 e he) (by omega) (by rw[hclen];omega);rw[<-Oi hclen]at e3;have hrr:=hrun ⟨G.bx id,0,none⟩ b0 b1 b2;rw[<-hv]at hrr;refine eV (hrun0 _ hrr) ⟨_,hq,⟨I',G.bx,G.rw,G.st,G.ex⟩,?_⟩;have hR2:Rel W0 M ⟨I',G.bx,G.rw,G.st,G.ex⟩ ((s.setB id ⟨(s.b id).ver,none⟩).app (eK (rA x) y.1)) a w/\((s.setB id ⟨(s.b id).ver,none⟩).app (eK (rA x) y.1)).n=s.n:=by
     cases x with
     |tmp k=>
      have hk:k<s.n:=by
       rw[<-h.sz];refine Nat.lt_of_not_le λhle=>?_;have hev:a.eval (.tmp k)=a.tmps.getD k undef:=rfl;rw[hev]at hv;have:a.tmps.getD k undef=undef:=by simp[Array.getD,Nat.not_lt.2 hle]
       rw[this]at hv;cases hv
      refine⟨hR.reT (k:=k) hk (x:=.c (.eptr y.1)) (by
       simp only[AVr,ACr];exact⟨_,_,hv,hdv,hcl⟩),rfl⟩
     |_=>exact⟨hR,rfl⟩
    obtain⟨hR2,hn2⟩:=hR2;have e:s.app (Upd.b id ⟨(s.b id).ver,none⟩::(eK (rA x) y.1++[.t d ⟨true,.c (.d (.sl (LU l hh n (rz ie.size n y.1))))⟩]))=((s.setB id ⟨(s.b id).ver,none⟩).app (eK (rA x) y.1)).setT d ⟨true,.c (.d (.sl (LU l hh n (rz ie.size n y.1))))⟩:=by
     show(s.setB id ⟨(s.b id).ver,none⟩).app (eK (rA x) y.1++_)=_;rw[St.app_append];rfl
    rw[e,hdd];refine hR2.put (by rw[hn2];exact hd d hdd) ⟨λ_=>?_,λe=>by cases e⟩;simp only[AVr,ACr];exact e3
   ·exact hq.elim
  ·rename_i cs _hq0;obtain⟨⟨h3,h4,h5,b0,b1,b2⟩,hq⟩:=hq;have hc:=J2 hu;simp only[ACr]at hc;obtain⟨ad,xs,hv,hdv,hcl⟩:=hc;have hsl:=JK (w:=w) (ad:=ad) h3 h4 h5 hdv hcl;have hclen:(rz ie.size n cs).length=n:=we _ _ _;obtain⟨_,_,e3⟩:=DVr.slice (l:=(l.getD 0).toNat) (h:=(hh.getD n).toNat) hsl (λe he=>wg h3 e he) (by omega) (by rw[hclen];omega);rw[<-Oi hclen]at e3;have hrr:=hrun ad b0 b1 b2;rw[<-hv]at hrr;refine eV (hrun0 _ hrr) ⟨_,hq,G,?_⟩;rw[hdd];refine h.put (hd d hdd) ⟨λ_=>?_,λe=>by cases e⟩;simp only[AVr,ACr];exact e3
  ·exact hq.elim
 ·exact hq.elim
theorem Ol:∀{cs:List AC}{ds:List DV},Xx cs=some ds->cs=ds.map .d
 |[],ds,h=>by cases h;rfl
 |.d x::xs,ds,h=>by
  simp only[Xx,a6Y]at h;obtain⟨l,h1,rfl⟩:=h;rw[Ol h1];rfl
 |.nil::_,_,h=>by cases h
 |.row _ _::_,_,h=>by cases h
 |.ptr _ _ _::_,_,h=>by cases h
 |.rptr _ _ _ _ _::_,_,h=>by cases h
 |.eptr _::_,_,h=>by cases h
theorem Wn{K:List DV×List Nat->Prop}:∀{ds:List DV},K (ds,[])->(ur (ds.map .d)).wp s K
 |[],h=>h
 |d::ds,h=>by
  simp only[a55,ur,Q.wp_bind,Q.wp,toD];exact Wn (ds:=ds) (K:=λe=>K (d::e.1,[]++e.2)) h
theorem Om(s:St) (id:Nat) (A B:BS):(s.setB id A).setB id B=s.setB id B:=by
 unfold St.setB;congr 1;funext k;simp only[upd];split <;> rfl
theorem ST{t:TypeId}{x y:Operand}(ho:o.op= .store t x y) (hT:∀t i,T t=some i->TOk P t i) (h:Rel W0 M G s a w) (hdst:o.dst=none)
  (hq:((tq T t).bind λi=>(ev x).bind λa'=>(ev y).bind λx'=>x'.cells.bind λcs=>(BP i cs a').bind λus=>wb i (rA x) a' us).wp s K):pK P W0 M s o a w K Q':=by
 simp only[Q.wp_bind]at hq;obtain⟨i,hi,hq⟩:=jo hq;obtain⟨v,hq,hv⟩:=eW h hq;obtain⟨u,hq,hu⟩:=eW h hq;obtain⟨cs,hq,hcs⟩:=yS hu hq;have fin:(∀us,wb i (rA x) v us= .ret us)->pK P W0 M s o a w K Q':=λe=>by
  simp only[e,Q.wp]at hq;obtain⟨us,ad,w',hp,hrun,hK,hR⟩:=SM h (hT t i hi) hdst hcs hv hq;refine Dc ?_ ⟨us,hK,hR⟩;unfold execOp;rw[ho];simp only[hp,Instr.storeAt,Instr.sureAddr,Sem.run_bind,Sem.run_pure,Result.andThen_ok,hrun]
 by_cases hc:(i.cut&&Xw i.k)=true
 ·cases v with
  |c z=>cases z with
   |ptr id ver off=>
    clear fin;unfold BP at hq;simp only[Q.wp]at hq;split at hq
    ·rename_i cs0 hcs0;simp only[Q.wp]at hq;obtain⟨⟨e1,hl,hoff⟩,hq⟩:=hq;unfold wb at hq;rw[a5W hc]at hq;unfold Xy at hq;simp only[Q.wp_bind]at hq;obtain⟨ds,hds,h0,hK⟩:=V7 hq;subst h0;have hp:=lc h hv e1 (by rw[hcs0];rfl);obtain⟨cur,ty,hh,hac⟩:=h.mem.bx id cs0 hcs0;have hsz:cur.size=cs0.length:=by rw[<-a59];exact hac.len
     have hxl:=hcs.len;have hrun:=sM (hT t i hi) hh rfl (by rw[hxl];exact hl) (by omega) hcs.one (off:=0);obtain⟨cur',hh',htl⟩:=nA (G.bx id) ty (a.eval y).cells.toList 0 w cur hh (by omega);obtain⟨m1,E1⟩:=h.mem.setBox hcs0 (nl (G.bx id) 0 (a.eval y).cells.toList w) hh' (cs':=setAt cs0 0 cs) (by rw[htl];exact hac.setAt hcs);have h1:=h.mem' E1 m1 rfl rfl;obtain⟨I',hm,E,cur2,ty2,hh2,hac2,hfix⟩:=h1.mem.give (id:=id) (cs:=setAt cs0 0 cs) (by simp only[St.setB,upd,a6x]);have hR:=h1.mem' E hm rfl rfl;rw[Ol hds]at hac2;obtain⟨q,hy,hyl,hyv⟩:=sN (K:=λq=>q=(ds,[])) hac2 (Wn rfl);subst hy;have hdv:=hyv I' E.I (λid hid=>by cases hid);have hcl:∀j u,cur2.toList[j]?=some u->(w.setCells (G.bx id) 0 (a.eval y).cells.toList).cell? (Addr.add ⟨G.bx id,0,none⟩ j)=some u/\I' (G.bx id) (0+j):=λj u hj=>by
      refine⟨?_,?_⟩
      ·rw[du _ _ rfl,a6j];simp only[World.cell?,hh2];simpa using hj
      ·rw[a6j];refine hfix _ ?_;have:=(List.getElem?_eq_some_iff.1 hj).1;simpa using this
     have hR2:Rel W0 M ⟨I',G.bx,G.rw,G.st,G.ex⟩ (((s.setB id ⟨(s.b id).ver,some (setAt cs0 0 cs)⟩).setB id ⟨((s.setB id ⟨(s.b id).ver,some (setAt cs0 0 cs)⟩).b id).ver,none⟩).app (eK (rA x) ds)) a (w.setCells (G.bx id) 0 (a.eval y).cells.toList):=by
      cases x with
      |tmp k=>
       have hk:k<s.n:=by
        rw[<-h.sz];refine Nat.lt_of_not_le λhle=>?_;have hev:a.eval (.tmp k)=a.tmps.getD k undef:=rfl;rw[hev]at hp;have:a.tmps.getD k undef=undef:=by simp[Array.getD,Nat.not_lt.2 hle]
        rw[this]at hp;cases hp
       refine hR.reT (k:=k) hk (x:=.c (.eptr ds)) (by
        simp only[AVr,ACr];exact⟨_,_,hp,hdv,hcl⟩)
      |_=>exact hR
     have e:s.app (Upd.b id ⟨ver,none⟩::eK (rA x) ds)=((s.setB id ⟨(s.b id).ver,some (setAt cs0 0 cs)⟩).setB id ⟨((s.setB id ⟨(s.b id).ver,some (setAt cs0 0 cs)⟩).b id).ver,none⟩).app (eK (rA x) ds):=by
      rw[Om,e1];have e2:((s.setB id ⟨(s.b id).ver,some (setAt cs0 0 cs)⟩).b id).ver=(s.b id).ver:=by simp only[St.setB,upd,a6x]
      rw[e2];rfl
     refine Dc (w':=w.setCells (G.bx id) 0 (a.eval y).cells.toList) ?_ ⟨_,hK,⟨I',G.bx,G.rw,G.st,G.ex⟩,?_⟩
     ·unfold execOp;rw[ho];simp only[hp,Instr.storeAt,Instr.sureAddr,Sem.run_bind,Sem.run_pure,Result.andThen_ok,hrun]
     ·rw[e,hdst];exact hR2
    ·exact hq.elim
   |_=>exact fin λus=>by unfold wb;rw[a5W hc];rfl
  |_=>exact fin λus=>by unfold wb;rw[a5W hc];rfl
 ·exact fin λus=>by unfold wb;rw[a5U hc]
theorem SU{t:TypeId}{xo:Operand}{lo hi:Option Operand}(ho:o.op= .slice t xo lo hi none) (hT:∀t i,T t=some i->TOk P t i) (h:Rel W0 M G s a w) (hd:∀d,o.dst=some d->d<s.n)
  (hq:((tq T t).bind λi=>(ev xo).bind λx=>(evo lo).bind λl=>(evo hi).bind λh=>match i.k with
   |.slice e=>(tq T e).bind λie=>match x with
    |.c x=>(Q.ofOpt o.dst).bind λd=>if(i.cut&&l.isNone)=true then Xv d ie.size h x else if(i.cut&&h.isNone)=true then(Ht ie.size l x).bind (one o.dst)else BR d ie.size l h x
    |_=>.fail
   |.str=>(uY l h x).bind (one o.dst)
   |.arr n e=>(tq T e).bind λie=>uZ o.dst (rA xo) n ie.size l h x
   |_=>.fail).wp s K):pK P W0 M s o a w K Q':=by
 simp only[Q.wp_bind]at hq;obtain⟨i,hi',hq⟩:=jo hq;obtain⟨u,hq,hu⟩:=eW h hq;have hrun0:∀r,(Instr.sliceAt t (a.eval xo) (lo.map a.eval) (hi.map a.eval) none).run P w= .ok r w->(execOp a.eval o).run P w= .ok (.value r) w:=by
  intro r hr;unfold execOp;rw[ho];simp only[Option.map_none,Sem.run_bind,hr,Result.andThen_ok];rfl
 obtain⟨l,hl,hq⟩:∃l:Option Int,((lo=none/\l=none)\/∃k n,lo.map a.eval=some (.int k n)/\l=some n)/\((evo hi).wp s λh=>(match i.k with
   |.slice e=>(tq T e).bind λie=>match u with
    |.c x=>(Q.ofOpt o.dst).bind λd=>if(i.cut&&l.isNone)=true then Xv d ie.size h x else if(i.cut&&h.isNone)=true then(Ht ie.size l x).bind (one o.dst)else BR d ie.size l h x
    |_=>.fail
   |.str=>(uY l h u).bind (one o.dst)
   |.arr n e=>(tq T e).bind λie=>uZ o.dst (rA xo) n ie.size l h u
   |_=>.fail).wp s K):=by
  rcases NX h hq with⟨e,hq⟩|⟨y,k,n,e,hq,hy⟩
  ·exact⟨none,.inl ⟨e,rfl⟩,hq⟩
  ·exact⟨some n,.inr ⟨k,n,by rw[e];simp[hy],rfl⟩,hq⟩
 obtain⟨hh,hhl,hq⟩:∃hh:Option Int,((hi=none/\hh=none)\/∃k n,hi.map a.eval=some (.int k n)/\hh=some n)/\((match i.k with
   |.slice e=>(tq T e).bind λie=>match u with
    |.c x=>(Q.ofOpt o.dst).bind λd=>if(i.cut&&l.isNone)=true then Xv d ie.size hh x else if(i.cut&&hh.isNone)=true then(Ht ie.size l x).bind (one o.dst)else BR d ie.size l hh x
    |_=>.fail
   |.str=>(uY l hh u).bind (one o.dst)
   |.arr n e=>(tq T e).bind λie=>uZ o.dst (rA xo) n ie.size l hh u
   |_=>.fail).wp s K):=by
  rcases NX h hq with⟨e,hq⟩|⟨y,k,n,e,hq,hy⟩
  ·exact⟨none,.inl ⟨e,rfl⟩,hq⟩
  ·exact⟨some n,.inr ⟨k,n,by rw[e];simp[hy],rfl⟩,hq⟩
 obtain⟨d1,hu1,hk1⟩:=(hT t i hi').und;split at hq
 ·rename_i e hk;rw[hk]at hk1;simp only at hk1;subst hk1;rw[Q.wp_bind]at hq;obtain⟨ie,hie,hq⟩:=jo hq;split at hq
  ·rename_i c;rw[Q.wp_bind]at hq;obtain⟨d,hdd,hq⟩:=V7 hq;split at hq
   ·rename_i hcut;have hl0:lo.map a.eval=none:=by
     rcases hl with⟨e,_⟩|⟨_,_,_,e⟩
     ·rw[e];rfl
     ·subst e;simp at hcut
    rw[hl0]at hrun0;exact ZY (hT e ie hie) hu1 h hdd (hd d hdd) (J2 hu) (hi':=hi.map a.eval) (by
     rcases hhl with⟨e,e'⟩|hx
     ·exact .inl ⟨by rw[e];rfl,e'⟩
     ·exact .inr hx) hrun0 hq
   split at hq
   ·rename_i hcut;have hh0:hi.map a.eval=none:=by
     rcases hhl with⟨e,_⟩|⟨_,_,_,e⟩
     ·rw[e];rfl
     ·subst e;simp at hcut
    rw[hh0]at hrun0;exact XD (hT e ie hie) hu1 h hd (J2 hu) (lo':=lo.map a.eval) (by
     rcases hl with⟨e,e'⟩|hx
     ·exact .inl ⟨by rw[e];rfl,e'⟩
     ·exact .inr hx) hrun0 hq
   unfold BR at hq;rw[Q.wp_bind]at hq;obtain⟨y,hq,_,hy⟩:=BW (J2 hu) hq;rw[Q.wp_bind]at hq;obtain⟨us,G',hq,hR,hE,hf,hfrz,hb',hr',_⟩:=qE h hq;have hdv:=hy G'.I hE.I hf;split at hq
   ·rename_i es hes;rw[hes]at hdv;obtain⟨⟨hal,b0,b1,b2⟩,hq⟩:=hq;obtain⟨A,n,cp,hv⟩:∃A n cp,a.eval xo= .slice A n cp:=by
     simp only[DVr]at hdv;obtain⟨A,cp,_,_,hv,_⟩:=hdv;exact⟨A,_,cp,hv⟩
    rw[hv]at hdv;have hn:=hdv;obtain⟨e1,e2,e3⟩:=DVr.slice (l:=(l.getD 0).toNat) (h:=(hh.getD es.length).toNat) hdv hal (by omega) (by omega);have hrun:=xp (P:=P) (w:=w) (hT e ie hie) hu1 A n cp (lo.map a.eval) (hi.map a.eval) (l.getD 0).toNat (hh.getD es.length).toNat (by
     rcases hl with⟨rfl,rfl⟩|⟨k,m,hm,rfl⟩
     ·exact .inl ⟨rfl,rfl⟩
     ·refine .inr ⟨k,?_⟩;rw[hm];simp only[a6m]at b0⊢;rw[a6R b0]) (by
     rcases hhl with⟨rfl,rfl⟩|⟨k,m,hm,rfl⟩
     ·exact .inl ⟨rfl,by simp[e1]⟩
     ·refine .inr ⟨k,?_⟩;rw[hm];simp only[a6m]at b1 b2⊢;rw[a6R (by omega)]) (by omega) (by omega)
    refine eV (hrun0 _ (by rw[hv];exact hrun)) ⟨_,hq,G',?_⟩;rw[St.app_append,hdd];refine hR.put (by rw[hfrz.1];exact hd d hdd) ⟨λ_=>?_,λe=>by cases e⟩;simp only[AVr,ACr];exact e3
   ·exact hq.elim
  ·exact hq.elim
 ·rename_i hk;rw[hk]at hk1;simp only at hk1;subst hk1;rw[Q.wp_bind]at hq;obtain⟨str,rfl,b0,b1,b2,hq⟩:=Oh hq
  ·have h1:=J2 hu;simp only[ACr,DVr]at h1;refine fO h hd (by simp only[AVr,ACr,DVr];exact⟨rfl,rfl⟩) hq (hrun0 _ ?_);rw[h1.1];have c1:∀(k:IntKind) (n:Int) (y:Nat) (code:BoundsCode),0<=n->n<=y->(Instr.sliceBound (.int k n) y code).run P w= .ok n.toNat w:=λk n y code p q=>run_sliceBound (P:=P) (w:=w) k n y code p q;rcases hl with⟨rfl,rfl⟩|⟨k1,m1,hm1,rfl⟩ <;> rcases hhl with⟨rfl,rfl⟩|⟨k2,m2,hm2,rfl⟩
   ·simp[Instr.sliceAt,Instr.slice,run_underlying hu1,Instr.sliceBounds]
   ·simp only[a6m,a7H]at b1 b2⊢;rw[hm2];simp[Instr.sliceAt,Instr.slice,run_underlying hu1,Instr.sliceBounds,c1 k2 m2 str.size _ (by omega) (by omega)]
   ·simp only[a6m,a7H]at b0 b1 b2⊢;rw[hm1];simp[Instr.sliceAt,Instr.slice,run_underlying hu1,Instr.sliceBounds,c1 k1 m1 str.size _ (by omega) (by omega)]
   ·simp only[a6m]at b0 b1 b2⊢;rw[hm1,hm2];have e2:((m2.toNat:Nat):Int)=m2:=a6R (by omega);simp[Instr.sliceAt,Instr.slice,run_underlying hu1,Instr.sliceBounds,c1 k2 m2 str.size _ (by omega) (by omega),c1 k1 m1 m2.toNat _ (by omega) (by omega)]
 ·rename_i n e hk;rw[hk]at hk1;simp only at hk1;subst hk1;rw[Q.wp_bind]at hq;obtain⟨ie,hie,hq⟩:=jo hq;exact Oj (hT e ie hie) hu1 h hd hu (lo:=lo.map a.eval) (hi:=hi.map a.eval) (by
   rcases hl with⟨e,e'⟩|hx
   ·exact .inl ⟨by rw[e];rfl,e'⟩
   ·exact .inr hx) (by
   rcases hhl with⟨e,e'⟩|hx
   ·exact .inl ⟨by rw[e];rfl,e'⟩
   ·exact .inr hx) hrun0 hq
 ·exact hq.elim
end
section
variable {P:Program}{T:TypeId->Option TI}{W0:World}{M:Own}{G:Gh}{s:St}{a:Act}{w:World}{o:Oper}{K:List Upd->Prop}{Q':Exit->Act->World->Prop}
theorem SV{t e:TypeId}{i:TI}(hT:TOk P e i) (hu:P.underlying t=some (.slice e)) (h:Rel W0 M G s a w){x:AV}{v:Value}{k:IntKind}{n:Int}{K:AV->Prop}(hx:AVr G s w x v) (hq:(ET i.size n x).wp s K) :
  ∃y r,K y/\AVr G s w y r/\(Instr.indexAt t v (.int k n)).run P w= .ok r w:=by
 have hsz:=hT.sizeOf w;have hrun:∀(ad:Addr) (m c:Nat),0<=n->n<m->(Instr.indexAt t (.slice (some ad) m c) (.int k n)).run P w= .ok (.pointer (some (ad.add (n.toNat*i.size)))) w:=λad m c h1 h2=>by
  simp[Instr.indexAt,asIntOf,run_underlying hu,h1,h2,hsz]
 unfold ET at hq;split at hq
 ·rename_i es;obtain⟨⟨h0,h1,h2⟩,hq⟩:=hq;have hx':=J2 hx;simp only[ACr,DVr]at hx';obtain⟨A,c,z,xs,rfl,a1,a2,a3,a4,a5,a6⟩:=hx';obtain⟨ad,rfl,hc⟩:=a5 (by omega);refine⟨_,_,hq,?_,hrun ad _ c h0 h1⟩;have hi:n.toNat<es.length:=by omega
  have he:es[n.toNat]?=some (es.getD n.toNat []):=by rw[List.getD_eq_getElem?_getD,List.getElem?_eq_getElem hi];rfl
  have hget:=V2.get a6 a4 he;have hzz:z=i.size:=(a4 _ (List.mem_of_getElem? he)).symm.trans h2;subst hzz;simp only[AVr,ACr];refine⟨_,_,rfl,hget,λj u hj=>?_⟩;have:=oL hj;obtain⟨k1,k2⟩:=hc _ _ this;rw[add_add,nz,xm,a6D];exact⟨k1,k2⟩
 ·rename_i id ver;simp only[Q.wp]at hq;split at hq
  ·rename_i R hR;obtain⟨⟨h1,h2,h3,h4,hE⟩,hq⟩:=hq;have hx':=J2 hx;simp only[ACr]at hx';obtain rfl:=hx'.2.2 h1 (by rw[hR];rfl);obtain⟨g,m,c,hv,hm⟩:=h.mem.rowAddr hR (by omega) hE;refine⟨_,_,hq,?_,by rw[hv];exact hrun _ m c h2 (by omega)⟩;simp only[AVr,ACr];exact⟨rfl,hx'.2.1,λ_ _=>⟨_,m,c,hv,by simp⟩⟩
  ·exact hq.elim
 ·exact hq.elim
theorem On{t e:TypeId}{m:Nat}{i:TI}(hT:TOk P e i) (hu:P.underlying t=some (.array m e)) (h:Rel W0 M G s a w){x:AV}{v:Value}{k:IntKind}{n:Int}{K:AV->Prop}(hx:AVr G s w x v) (hq:(zF m i.size n x).wp s K) :
  ∃y r,K y/\AVr G s w y r/\(Instr.indexAt t v (.int k n)).run P w= .ok r w:=by
 have hsz:=hT.sizeOf w;have hrun:∀(ad:Addr),0<=n->n<m->(Instr.indexAt t (.pointer (some ad)) (.int k n)).run P w= .ok (.pointer (some (ad.add (n.toNat*i.size)))) w:=λad h1 h2=>by
  simp[Instr.indexAt,asIntOf,run_underlying hu,h1,h2,hsz,Instr.sureAddr]
 unfold zF at hq;split at hq
 ·rename_i id ver off;obtain⟨⟨h0,h1,h2,h3⟩,hq⟩:=hq;obtain rfl:=lc h hx h2 h3;refine⟨_,_,hq,?_,hrun _ h0 h1⟩;rw[du _ _ rfl];have hx':=J2 hx;simp only[ACr]at hx';simp only[AVr,ACr];exact⟨rfl,hx'.2.1,λ_ _=>trivial⟩
 ·rename_i cs;obtain⟨⟨h0,h1⟩,hq⟩:=hq;obtain⟨ad,rfl,h3⟩:=EW (n.toNat*i.size) (J2 hx);exact⟨_,_,hq,by simp only[AVr];exact h3,hrun ad h0 h1⟩
 ·rename_i id ver j off sz;obtain⟨⟨h0,h1,h2,h3⟩,hq⟩:=hq;obtain⟨ad,m',c,h4,rfl⟩:=va h hx h2 h3;refine⟨_,_,hq,?_,hrun _ h0 h1⟩;have hx':=J2 hx;simp only[ACr]at hx';simp only[AVr,ACr];refine⟨rfl,hx'.2.1,λ_ _=>⟨ad,m',c,h4,?_⟩⟩;rw[add_add,a6D]
 ·exact hq.elim
theorem SW{t:TypeId}{x y:Operand}(ho:o.op= .indexAddr t x y) (hT:∀t i,T t=some i->TOk P t i) (h:Rel W0 M G s a w) (hd:∀d,o.dst=some d->d<s.n)
  (hq:((tq T t).bind λi=>(ev x).bind λx=>(ev y).bind λk=>(Q.int k).bind λk=>match i.k with
  |.slice e=>(tq T e).bind λie=>(ET ie.size k x).bind (one o.dst)
  |.arr n e=>(tq T e).bind λie=>(zF n ie.size k x).bind (one o.dst)
  |_=>.fail).wp s K):pK P W0 M s o a w K Q':=by
 simp only[Q.wp_bind]at hq;obtain⟨i,hi,hq⟩:=jo hq;obtain⟨u,hq,hu⟩:=eW h hq;obtain⟨v,hq,hv⟩:=eW h hq;obtain⟨k,n,hkn,hq⟩:=BV hv hq;obtain⟨d1,hu1,hk1⟩:=(hT t i hi).und;have hrun0:∀r,(Instr.indexAt t (a.eval x) (.int k n)).run P w= .ok r w->(execOp a.eval o).run P w= .ok (.value r) w:=by
  intro r hr;unfold execOp;rw[ho];simp only[hkn,Sem.run_bind,hr,Result.andThen_ok];rfl
 split at hq
 ·rename_i e hk;rw[hk]at hk1;simp only at hk1;subst hk1;simp only[Q.wp_bind]at hq;obtain⟨ie,hie,hq⟩:=jo hq;obtain⟨y',r,hq,hr,hrun⟩:=SV (k:=k) (hT e ie hie) hu1 h hu hq;exact fO h hd hr hq (hrun0 _ hrun)
 ·rename_i m e hk;rw[hk]at hk1;simp only at hk1;subst hk1;simp only[Q.wp_bind]at hq;obtain⟨ie,hie,hq⟩:=jo hq;obtain⟨y',r,hq,hr,hrun⟩:=On (k:=k) (hT e ie hie) hu1 h hu hq;exact fO h hd hr hq (hrun0 _ hrun)
 ·exact hq.elim
theorem Oo{n:Int}{x:AV}{K:AV->Prop}(hq:(zH n x).wp s K):∃str,x= .c (.d (.v (.string str)))/\0<=n/\n<str.size/\K (.c (.d (.v (.int .u8 ((str.data.toList.getD n.toNat 0).toNat:Int))))):=by
 unfold zH at hq;split at hq
 ·rename_i str;exact⟨str,rfl,hq.1.1,hq.1.2,hq.2⟩
 ·exact hq.elim
theorem Oq{e:TypeId}{i:TI}(hT:TOk P e i){cs:List AC}{xs:List Value}{K:AV->Prop}(hq:(asV i cs).wp s K) (hc:ACs G s w cs xs){vs:Array Value}{o:Nat}(he:(vs.toList.drop o).take i.size=xs) :
  ∃x v,K x/\AVr G s w x v/\(part e vs o).run P w= .ok v w:=by
 unfold part;simp only[Sem.run_bind,hT.isAgg,Result.andThen_ok];unfold asV at hq;split at hq
 ·rename_i hg;rw[hg];refine⟨_,.agg (vs.extract o (o+i.size)),hq,?_,?_⟩
  ·simp only[AVr];refine⟨vs.extract o (o+i.size),rfl,?_⟩;rw[Array.toList_extract,List.extract_eq_take_drop,Nat.add_sub_cancel_left,he];exact hc
  ·simp only[a6x,Sem.run_bind,hT.sizeOf,Result.andThen_ok];rfl
 ·rename_i hg;rw[hg];split at hq
  ·rename_i x;simp only[ACs]at hc;obtain⟨v,r,rfl,h3,rfl⟩:=hc;refine⟨_,v,hq,by simp only[AVr];exact h3,?_⟩;have h0:((vs.toList.drop o).take i.size)[0]?=some v:=by rw[he];rfl
   have h1:vs[o]?=some v:=by
    rw[List.getElem?_take]at h0;split at h0
    ·rw[List.getElem?_drop]at h0;simpa using h0
    ·cases h0
   simp[h1]
  ·exact hq.elim
theorem Ot{t:TypeId}{x y:Operand}(ho:o.op= .index t x y) (hT:∀t i,T t=some i->TOk P t i) (h:Rel W0 M G s a w) (hd:∀d,o.dst=some d->d<s.n)
  (hq:((tq T t).bind λi=>(ev x).bind λx=>(ev y).bind λk=>(Q.int k).bind λk=>match i.k with
  |.str=>(zH k x).bind (one o.dst)
  |.arr n e=>(tq T e).bind λie=>(CW n ie k x).bind (one o.dst)
  |_=>.fail).wp s K):pK P W0 M s o a w K Q':=by
 simp only[Q.wp_bind]at hq;obtain⟨i,hi,hq⟩:=jo hq;obtain⟨u,hq,hu⟩:=eW h hq;obtain⟨v,hq,hv⟩:=eW h hq;obtain⟨k,n,hkn,hq⟩:=BV hv hq;obtain⟨d1,hu1,hk1⟩:=(hT t i hi).und;split at hq
 ·rename_i hk;rw[hk]at hk1;simp only at hk1;subst hk1;rw[Q.wp_bind]at hq;obtain⟨str,rfl,h0,h1,hq⟩:=Oo hq
  ·have h2:=J2 hu;simp only[ACr,DVr]at h2;refine fO h hd (by simp only[AVr,ACr,DVr];exact⟨rfl,rfl⟩) hq ?_;unfold execOp;rw[ho];simp only[hkn,h2.1];have hlt:n.toNat<str.size:=by omega
   have hl2:n.toNat<str.data.toList.length:=by simpa using hlt
   have hg:str[n.toNat]?=some (str.data.toList.getD n.toNat 0):=by
    rw[List.getD_eq_getElem?_getD,List.getElem?_eq_getElem hl2];simp only[a6m];rw[getElem?_pos str n.toNat hlt];rfl
   simp[Instr.index,asIntOf,run_underlying hu1,h0,hg]
 ·rename_i len e hk;rw[hk]at hk1;simp only at hk1;subst hk1;simp only[Q.wp_bind]at hq;obtain⟨ie,hie,hq⟩:=jo hq;unfold CW at hq;split at hq
  ·rename_i xs;simp only[AVr]at hu;obtain⟨vs,hvs,hxs⟩:=hu;rw[Q.wp_bind]at hq;obtain⟨d,hq,_,hdv⟩:=sN hxs hq;obtain⟨⟨hd2,h0,h1,hl⟩,hq⟩:=hq;have hds:=hdv G.I (λ_ _ h=>h) (λid hid=>by rw[hd2]at hid;cases hid);have hac:ACs G s w (((d.1.drop (n.toNat*ie.size)).take ie.size).map .d) ((vs.toList.drop (n.toNat*ie.size)).take ie.size):=by
    rw[a65,a7p];exact ACs.take _ (ACs.drop _ (ACs.of_dv hds))
   obtain⟨x',v',hq,hx',hp⟩:=Oq (hT e ie hie) hq hac (vs:=vs) (o:=n.toNat*ie.size) rfl;refine fO h hd hx' hq ?_;unfold execOp;rw[ho];simp only[hkn,hvs];simp only[Instr.index,asIntOf,Sem.run_bind,Sem.run_pure,Result.andThen_ok,run_underlying hu1,(hT e ie hie).sizeOf,h0,h1,and_self,a6x,hp]
  ·exact hq.elim
 ·exact hq.elim
theorem Ou{t:TypeId}{x:Operand}{f:Nat}(ho:o.op= .field t x f) (hT:∀t i,T t=some i->TOk P t i) (h:Rel W0 M G s a w) (hd:∀d,o.dst=some d->d<s.n)
  (hq:((tq T t).bind λi=>match i.k with
  |.struct fs=>(Q.ofOpt fs[f]?).bind λp=>(Q.ofOpt i.fts[f]?).bind λft=>(tq T ft).bind λie=>(ev x).bind λx=>(zG p.1 ie x).bind (one o.dst)
  |_=>.fail).wp s K):pK P W0 M s o a w K Q':=by
 simp only[Q.wp_bind]at hq;obtain⟨i,hi,hq⟩:=jo hq;split at hq
 ·rename_i fs hk;simp only[Q.wp_bind]at hq;obtain⟨p,hp,hq⟩:=V7 hq;obtain⟨ft,hft,hq⟩:=V7 hq;obtain⟨ie,hie,hq⟩:=jo hq;obtain⟨v,hq,hv⟩:=eW h hq;obtain⟨d,hu,hdk⟩:=(hT t i hi).und;rw[hk]at hdk;obtain⟨fields,rfl,hmap,hall⟩:=hdk;obtain⟨fields',hu',hmap'⟩:=(hT t i hi).fts (λe=>by rw[e]at hft;cases hft);rw[hu]at hu';injection hu' with hu';injection hu' with hu';subst hu';rw[<-hmap,List.getElem?_map]at hp;obtain⟨fl,hfl,rfl⟩:=Option.map_eq_some_iff.1 hp;rw[<-hmap',List.getElem?_map,hfl]at hft;have hft:fl.type=ft:=by injection hft
  have hfl':fields[f]?=some fl:=by simpa using hfl
  unfold zG at hq;split at hq
  ·rename_i xs;simp only[AVr]at hv;obtain⟨vs,hvs,hxs⟩:=hv;obtain⟨x',v',hq,hx',hp⟩:=Oq (hT ft ie hie) hq (ACs.take _ (ACs.drop _ hxs)) (vs:=vs) (o:=fl.offset) rfl;refine fO h hd hx' hq ?_;unfold execOp;rw[ho];simp only[hvs];simp only[Instr.field,Sem.run_bind,run_underlying hu,Result.andThen_ok,hfl',asAgg,Sem.run_pure,hft,hp]
  ·exact hq.elim
 ·exact hq.elim
def PVs(G:Gh) (s:St) (w:World):List (Nat×AV)->List (Nat×Value)->Prop
 |[],vs=>vs=[]
 |p::ps,vs=>∃v r,vs=(p.1,v)::r/\AVr G s w p.2 v/\PVs G s w ps r
theorem Hz(h:Rel W0 M G s a w):∀{xs:List (Nat×Operand)}{K:List (Nat×AV)->Prop},(Wj xs).wp s K->∃vs,K vs/\PVs G s w vs (xs.map λp=>(p.1,a.eval p.2))
 |[],K,hq=>⟨[],hq,by simp[PVs]⟩
 |x::xs,K,hq=>by
  simp only[Wj,Q.wp_bind,Q.wp]at hq;obtain⟨v,hq,h1⟩:=eW h hq;obtain⟨vs,hq,h2⟩:=Hz h hq;exact⟨_,hq,by simp only[PVs,a55];exact⟨_,_,rfl,h1,h2⟩⟩
theorem zL(off:Nat):∀(l:List Value) (n:Nat) (cs:Array Value),off+n+l.length<=cs.size->((l.zipIdx n).foldl (λcs p=>cs.setIfInBounds (off+p.2) p.1) cs).toList=setAt cs.toList (off+n) l
 |[],n,cs,_=>by simp[setAt]
 |v::l,n,cs,hl=>by
  simp only[a54]at hl;rw[List.zipIdx_cons,a67];rw[zL off l (n+1) _ (by simp;omega)];have hs:cs.toList.length=cs.size:=a59;simp only[setAt,Array.toList_setIfInBounds,a54];rw[List.take_set,List.drop_set,a5W (by omega)];have e1:(cs.toList.take (off+(n+1))).set (off+n) v=cs.toList.take (off+n)++[v]:=by
   rw[show off+(n+1)=off+n+1 from by omega,a7t (by omega),a7B _ _ (by simp;omega)];simp[a7u (show off+n<=cs.size by omega)]
  rw[e1];simp[a6D,a6I 1]
theorem EY(place:Nat->Option (Nat×Nat)) (cells:Array Value) (i:Nat) (v:Value) (rest:List (Nat×Value)){off size:Nat}(hp:place i=some (off,size)) (h1:v.cells.size=size) (h2:off+size<=cells.size) :
  ∃cells':Array Value,Instr.fill place cells ((i,v)::rest)=Instr.fill place cells' rest/\cells'.toList=setAt cells.toList off v.cells.toList:=by
 refine⟨_,by simp only[Instr.fill,hp];rw[a5U (by simp;omega)],?_⟩;have:=zL off v.cells.toList 0 cells (by simp;omega);rw[a7w]at this;rw[<-this];rw[<-Array.foldl_toList,Array.toList_zipIdx]
theorem De(place:Nat->Option (Nat×Nat)):∀{ps:List (Nat×AV)}{vs:List (Nat×Value)}{cs:List AC}{cells:Array Value}{K:List AC->Prop},PVs G s w ps vs->ACs G s w cs cells.toList->(CX place cs ps).wp s K->
  ∃cs' cells',K cs'/\Instr.fill place cells vs=some cells'/\ACs G s w cs' cells'.toList
 |[],vs,cs,cells,K,hp,hc,hq=>by
  simp only[PVs]at hp;subst hp;exact⟨cs,cells,hq,rfl,hc⟩
 |p::ps,vs,cs,cells,K,hp,hc,hq=>by
  simp only[PVs]at hp;obtain⟨v,r,rfl,h1,h2⟩:=hp;simp only[CX,Q.wp_bind]at hq;obtain⟨vc,hq,hvc⟩:=yS h1 hq;split at hq
  ·rename_i q hpl;obtain⟨off,size⟩:=q;obtain⟨⟨e1,e2⟩,hq⟩:=hq;simp only at e1 e2;have hl:=hvc.len;have hcl:=hc.len;obtain⟨cells',e3,e4⟩:=EY place cells p.1 v r hpl (by rw[<-a59,hl];exact e1) (by rw[<-a59,hcl];exact e2);obtain⟨cs',cells'',k1,k2,k3⟩:=De place h2 (cells:=cells') (by rw[e4];exact hc.setAt hvc) hq;exact⟨cs',cells'',k1,by rw[e3];exact k2,k3⟩
  ·exact hq.elim
theorem EZ(P:Program):∀(fs:List Field),(fs.all λf=>decide (0<P.cellsOf f.type)&&(P.info? f.type).isSome)=true->fs.mapM (λf=>(P.info? f.type).map λi=>(f.offset,i.size))=some (fs.map λf=>(f.offset,P.cellsOf f.type))
 |[],_=>rfl
 |f::fs,h=>by
  simp only[a61,a5S]at h;obtain⟨i,hi⟩:=Option.isSome_iff_exists.1 h.1.2;have:=EZ P fs h.2;simp[hi,this,Program.cellsOf]
theorem SX{t:TypeId}{parts:Array (Nat×Operand)}(ho:o.op= .build t parts) (hT:∀t i,T t=some i->TOk P t i) (h:Rel W0 M G s a w) (hd:∀d,o.dst=some d->d<s.n)
  (hq:((tq T t).bind λi=>(Wj parts.toList).bind λps=>match i.k with
  |.struct fs=>(CX (fs[·]?) (i.zero.map iG) ps).bind λcs=>one o.dst (.agg cs)
  |.arr _ e=>(tq T e).bind λie=>(CX (λj=>some (j*ie.size,ie.size)) (i.zero.map iG) ps).bind λcs=>one o.dst (.agg cs)
  |_=>.fail).wp s K):pK P W0 M s o a w K Q':=by
 simp only[Q.wp_bind]at hq;obtain⟨i,hi,hq⟩:=jo hq;obtain⟨ps,hq,hps⟩:=Hz h hq;obtain⟨d1,hu1,hk1⟩:=(hT t i hi).und;obtain⟨inf,z,hinf,hsz,hby,hz,hzl,hzn,hz1⟩:=(hT t i hi).info;have hpt:(parts.map λ(i,x)=>(i,a.eval x)).toList=parts.toList.map λp=>(p.1,a.eval p.2):=by simp
 have hc0:ACs G s w (i.zero.map iG) z.cells.toList:=by rw[hzl];exact tP hz1
 have fin:∀(cs:List AC) (cells:Array Value),ACs G s w cs cells.toList->K (Hr o.dst (.agg cs))->P.built t (parts.toList.map λp=>(p.1,a.eval p.2))=some cells->pK P W0 M s o a w K Q':=by
  intro cs cells hcs hK hb;refine fO h hd (x:=.agg cs) (v:=.agg cells) (by simp only[AVr];exact⟨cells,rfl,hcs⟩) hK ?_;unfold execOp;rw[ho];simp only[Sem.run_bind,run_build w t _ cells (by rw[hpt];exact hb),Result.andThen_ok];rfl
 split at hq
 ·rename_i fs hk;rw[hk]at hk1;obtain⟨fields,rfl,hmap,hall⟩:=hk1;rw[Q.wp_bind]at hq;obtain⟨cs,cells,hq,hf,hcs⟩:=De (fs[·]?) hps hc0 hq;refine fin cs cells hcs hq ?_;simp only[Program.built,hinf,hu1,hz,EZ P _ hall,hmap];have:(λj:Nat=>fs.toArray[j]?)=(λj:Nat=>fs[j]?):=by funext j;simp
  rw[this];exact hf
 ·rename_i n e hk;rw[hk]at hk1;simp only at hk1;subst hk1;simp only[Q.wp_bind]at hq;obtain⟨ie,hie,hq⟩:=jo hq;obtain⟨cs,cells,hq,hf,hcs⟩:=De (λj=>some (j*ie.size,ie.size)) hps hc0 hq;refine fin cs cells hcs hq ?_;obtain⟨inf2,z2,hinf2,hsz2,_⟩:=(hT e ie hie).info;simp only[Program.built,hinf,hu1,hz,hinf2,hsz2];exact hf
 ·exact hq.elim
end
section
variable {P:Program}{T:TypeId->Option TI}{W0:World}{M:Own}{G:Gh}{s:St}{a:Act}{w:World}{o:Oper}{K:List Upd->Prop}{Q':Exit->Act->World->Prop}
def PDs(I:Nat->Nat->Prop) (w:World):List (Nat×List DV)->List (Nat×Value)->Prop
 |[],vs=>vs=[]
 |p::ps,vs=>∃v r,vs=(p.1,v)::r/\bo I w p.2 v.cells.toList/\PDs I w ps r
theorem JL:∀{ps:List (Nat×AV)}{vs:List (Nat×Value)}{K:List (Nat×List DV)×List Nat->Prop},PVs G s w ps vs->(LV ps).wp s K->
  ∃d,K d/\(∀I':Nat->Nat->Prop,(∀b o,G.I b o->I' b o)->(∀id∈d.2,∀R,(s.r id).c=some R->DVr I' w (.sl R.es) (G.rw id))->PDs I' w d.1 vs)
 |[],vs,K,hp,hq=>by
  simp only[PVs]at hp;subst hp;exact⟨_,hq,λ_ _ _=>by simp[PDs]⟩
 |p::ps,vs,K,hp,hq=>by
  simp only[PVs]at hp;obtain⟨v,r,rfl,h1,h2⟩:=hp;simp only[LV,Q.wp_bind,Q.wp]at hq;obtain⟨cs,hq,hcs⟩:=yS h1 hq;obtain⟨d,hq,_,hd⟩:=sN hcs hq;obtain⟨ds,hq,hds⟩:=JL h2 hq;refine⟨_,hq,λI' hi hf=>?_⟩;simp only[PDs];exact⟨v,r,rfl,hd I' hi (λid hm=>hf id (by simp[hm])),hds I' hi (λid hm=>hf id (by simp[hm]))⟩
theorem yT{I:Nat->Nat->Prop}:∀{vs:List Value},(vs.all Value.oneCell')=true->bo I w (vs.map ph) vs
 |[],_=>by simp[bo]
 |v::vs,h=>by
  simp only[a61,a5S]at h;simp only[a55,bo];refine⟨v,vs,rfl,?_,yT h.2⟩;unfold ph;split
  ·simp only[DVr];exact⟨none,0,1,[],rfl,a56 _,by simp[maxLen],by omega,by simp,by simp,by simp[V2]⟩
  ·simp only[DVr];exact⟨trivial,h.1⟩
theorem V2.replicate{I:Nat->Nat->Prop}{e:List DV}{c:List Value}(h:bo I w e c):∀n:Nat,V2 I w (List.replicate n e) (List.replicate n c).flatten
 |0=>by simp[V2]
 |n+1=>by
  rw[a7c,a7c,a7O];simp only[V2];exact⟨c,_,rfl,h,V2.replicate h n⟩
theorem nB{α:Type}(l:List α):∀(n j:Nat),j<n*l.length->(List.replicate n l).flatten[j]?=l[j%l.length]?
 |0,j,h=>by simp at h
 |n+1,j,h=>by
  rw[a7c,a7O];by_cases hj:j<l.length
  ·rw[List.getElem?_append_left hj,a7j hj]
  ·have h2:(n+1)*l.length=n*l.length+l.length:=by rw[a7x,Nat.one_mul]
   rw[List.getElem?_append_right (by omega),nB l n _ (by omega)];congr 1;exact(Nat.mod_eq_sub_mod (by omega)).symm
theorem sO(zero:Array Value) (n k:Nat) (hk:zero.size=k) (h0:0<k):((Array.range (n*k)).map (zero[· % zero.size]!)).toList=(List.replicate n zero.toList).flatten:=by
 have hl:zero.toList.length=k:=by rw[a59,hk]
 apply List.ext_getElem?;intro j;by_cases hj:j<n*k
 ·rw[nB _ _ _ (by rw[hl];exact hj),hl];have hm:j%k<zero.size:=by rw[hk];exact a8P _ h0
  have h1:j%zero.size<zero.size:=by rw[hk]at hm⊢;exact hm
  simp[hj,hk,getElem!_pos zero (j%k) hm]
 ·rw[List.getElem?_eq_none (by simp;omega),List.getElem?_eq_none (by simp[hl];omega)]
theorem JM{I:Nat->Nat->Prop}{z:Nat}:∀{ps:List (Nat×List DV)}{vs:List (Nat×Value)}{es:List (List DV)}{cells:Array Value}{K:List (List DV)->Prop},PDs I w ps vs->V2 I w es cells.toList->(∀e∈es,e.length=z)->(LW z es ps).wp s K->
  ∃es' cells',K es'/\Instr.fill (λi=>some (i*z,z)) cells vs=some cells'/\V2 I w es' cells'.toList/\(∀e∈es',e.length=z)/\es'.length=es.length
 |[],vs,es,cells,K,hp,he,hu,hq=>by
  simp only[PDs]at hp;subst hp;exact⟨es,cells,hq,rfl,he,hu,rfl⟩
 |p::ps,vs,es,cells,K,hp,he,hu,hq=>by
  simp only[PDs]at hp;obtain⟨v,r,rfl,h1,h2⟩:=hp;obtain⟨⟨e1,e2⟩,hq⟩:=hq;have hl:=h1.len;have hcl:=he.len hu;have hle:(p.1+1)*z<=es.length*z:=a6k _ e2;rw[a6r]at hle;obtain⟨cells',k3,k4⟩:=EY (λi=>some (i*z,z)) cells p.1 v r rfl (by rw[<-a59,hl];exact e1) (by rw[<-a59,hcl];exact hle);have hset:=V2.set he hu p.1 e2 h1;have e4:cells'.toList=cells.toList.take (p.1*z)++v.cells.toList++cells.toList.drop ((p.1+1)*z):=by
   rw[k4];unfold setAt;rw[hl,e1,a6r]
  obtain⟨es',cells'',j1,j2,j3,j4,j5⟩:=JM (cells:=cells') h2 (by rw[e4];exact hset) (λe hm=>by
   rcases a6C hm with hm|rfl
   ·exact hu e hm
   ·exact e1) hq
  exact⟨es',cells'',j1,by rw[k3];exact j2,j3,j4,by rw[j5,a6z]⟩
theorem Df{t:TypeId}{len:Nat}{parts:Array (Nat×Operand)}(ho:o.op= .buildSlice t len parts) (hT:∀t i,T t=some i->TOk P t i) (h:Rel W0 M G s a w) (hd:∀d,o.dst=some d->d<s.n)
  (hq:((tq T t).bind λi=>(Q.ofOpt o.dst).bind λd=>match i.k with
  |.slice e=>(tq T e).bind λie=>.req (len*ie.size<=16777216/\0<ie.size/\(len=0->parts.size=0)/\e<jn) ((Wj parts.toList).bind λps=>(LV ps).bind λy=>(lV y.2).bind λus=>(LW ie.size (List.replicate len (ie.zero.map ph)) y.1).bind λes=>
   .rdR d λr=>.ret (us++[.r d ⟨r.ver+1,some ⟨es,ie.size,e,false⟩⟩,.t d ⟨true,.c (.row d (r.ver+1))⟩]))
  |_=>.fail).wp s K):pK P W0 M s o a w K Q':=by
 simp only[Q.wp_bind]at hq;obtain⟨i,hi,hq⟩:=jo hq;obtain⟨d,hdd,hq⟩:=V7 hq;obtain⟨d1,hu1,hk1⟩:=(hT t i hi).und;split at hq
 ·rename_i e hk;rw[hk]at hk1;simp only at hk1;subst hk1;rw[Q.wp_bind]at hq;obtain⟨ie,hie,hq⟩:=jo hq;obtain⟨⟨hsm,hz0,hp0,heF⟩,hq⟩:=hq;rw[Q.wp_bind]at hq;obtain⟨ps,hq,hps⟩:=Hz h hq;rw[Q.wp_bind]at hq;obtain⟨y,hq,hy⟩:=JL hps hq;rw[Q.wp_bind]at hq;obtain⟨us,G',hq,hR,hE,hf,hfrz,hb',hr',_⟩:=qE h hq;have hpd:=hy G'.I hE.I hf;rw[Q.wp_bind]at hq;obtain⟨inf,z,hinf,hsz,hby,hz,hzl,hzn,hz1⟩:=(hT e ie hie).info;have hzs:z.cells.size=ie.size:=by rw[<-a59,hzl];exact hzn
  have hinit:V2 G'.I w (List.replicate len (ie.zero.map ph)) ((Array.range (len*ie.size)).map (z.cells[· % z.cells.size]!)).toList:=by
   rw[sO z.cells len ie.size hzs hz0,hzl];exact V2.replicate (yT hz1) len
  obtain⟨es,cells,hq,hfill,hes,hu,hlen⟩:=JM hpd hinit (λe' hm=>by rw[a6Q hm];simpa using hzn) hq;rw[a6t]at hlen;simp only[Q.wp]at hq;have hver:(s.r d).ver=((s.app us).r d).ver:=((hfrz.2.2.2 d).1).symm;rw[hver]at hq;have hcl:=hes.len hu;refine zJ (s0:=s) (us:=us) hR hdd (by rw[hfrz.1];exact hd d hdd) (R:=⟨es,ie.size,e,false⟩) (v:=.slice (some ⟨w.heap.size,0,none⟩) len len) (mY w (.cells cells e)) ?_ (λb hb=>by simp[obk]at hb;omega) rfl hq ?_
  ·have hk:pF G'.I w (w.alloc (.cells cells e)):=pF.alloc _ hR.mem.In _;refine⟨hz0,hu,.inl ⟨heF,cells.toList,⟨hcl,.inr ⟨w.heap.size,len,cells,by simp only[hlen],a6p _,heap_alloc_new w _,by simp only[hlen];exact a56 _,?_,?_,?_⟩⟩,V2.mono (λ_ _ h=>h) hk _ hes⟩⟩
   ·have:len<=len*ie.size:=Nat.le_mul_of_pos_right _ hz0;simp only[maxLen];omega
   ·rw[<-a59,hcl,hlen]
   ·rw[hcl.symm];exact a52
  ·unfold execOp;rw[ho];have hpt:(parts.map λ(i,x)=>(i,a.eval x)).toList=parts.toList.map λp=>(p.1,a.eval p.2):=by simp
   by_cases h0:len*ie.size=0
   ·have hl0:len=0:=by rcases Nat.mul_eq_zero.1 h0 with h|h <;> omega
    subst hl0;have hc0:cells= #[]:=by
     have:cells.toList.length=0:=by rw[hcl,hlen];simp
     exact Array.toList_inj.1 (a6f this)
    subst hc0;have hparts:parts= #[]:=a7X (hp0 rfl);have hn0:es.length=0:=hlen;have hr0:Array.range 0= #[]:=a7X (by simp);simp[Instr.buildSlice,run_underlying hu1,Go.sizeOf,typeInfo,hinf,hparts,Instr.fill,newRow,hr0]
   ·have hrun:=run_buildSlice (P:=P) w t e len (parts.map λ(i,x)=>(i,a.eval x)) cells inf z hu1 hinf hz (by rw[hsz];omega) (by rw[hsz];exact h0) (by rw[hpt,hsz];exact hfill);simp only[Sem.run_bind,hrun,Result.andThen_ok];rfl
 ·exact hq.elim
theorem Fa{t:TypeId}{x y:Operand}(ho:o.op= .makeSlice t x y) (hT:∀t i,T t=some i->TOk P t i) (h:Rel W0 M G s a w) (hd:∀d,o.dst=some d->d<s.n)
  (hq:((tq T t).bind λi=>(Q.ofOpt o.dst).bind λd=>(ev x).bind λl=>(Q.int l).bind λl=>(ev y).bind λc=>(Q.int c).bind λc=>match i.k with
  |.slice e=>(tq T e).bind λie=>.req (0<ie.size/\0<=l/\l<=c/\(ie.bytes:Int)*c<=281474976710656/\c<=4611686018427387904/\e<jn) (.rdR d λr=>
   .ret [.r d ⟨r.ver+1,some ⟨List.replicate l.toNat (ie.zero.map ph),ie.size,e,false⟩⟩,.t d ⟨true,.c (.row d (r.ver+1))⟩])
  |_=>.fail).wp s K):pK P W0 M s o a w K Q':=by
 simp only[Q.wp_bind]at hq;obtain⟨i,hi,hq⟩:=jo hq;obtain⟨d,hdd,hq⟩:=V7 hq;obtain⟨d1,hu1,hk1⟩:=(hT t i hi).und;obtain⟨u,hq,hu⟩:=eW h hq;obtain⟨k1,l,e1,hq⟩:=BV hu hq;obtain⟨v,hq,hv⟩:=eW h hq;obtain⟨k2,c,e2,hq⟩:=BV hv hq;split at hq
 ·rename_i e hk;rw[hk]at hk1;simp only at hk1;subst hk1;rw[Q.wp_bind]at hq;obtain⟨ie,hie,hq1⟩:=jo hq;clear hq;obtain⟨⟨hz0,hl0,hlc,hb,hc,heF⟩,hq⟩:=hq1;simp only[Q.wp]at hq;obtain⟨inf,z,hinf,hsz,hby,hz,hzl,hzn,hz1⟩:=(hT e ie hie).info;have hzs:z.cells.size=ie.size:=by rw[<-a59,hzl];exact hzn
  have hr:=run_make (P:=P) w t e inf z hu1 hinf hz k1 k2 l c hl0 hlc (by rw[hby];exact hb) (by omega);rw[hsz]at hr;have hcells:(madeCells z.cells (c.toNat*ie.size)).toList=(List.replicate c.toNat ie.zero).flatten:=by
   unfold madeCells;rw[sO z.cells c.toNat ie.size hzs hz0,hzl]
  have hlen:(madeCells z.cells (c.toNat*ie.size)).size=c.toNat*ie.size:=size_madeCells _ _;have hde:V2 G.I w (List.replicate c.toNat (ie.zero.map ph)) (madeCells z.cells (c.toNat*ie.size)).toList:=by
   rw[hcells];exact V2.replicate (yT hz1) c.toNat
  have hlen2:∀e'∈List.replicate c.toNat (ie.zero.map ph),e'.length=ie.size:=λe' hm=>by rw[a6Q hm];simpa using hzn
  have htake:=V2.take hde hlen2 l.toNat
  have hle:l.toNat<=c.toNat:=by omega
  rw[List.take_replicate,a7u hle]at htake;refine zJ (s0:=s) (us:=[]) h hdd (hd d hdd) (R:=⟨List.replicate l.toNat (ie.zero.map ph),ie.size,e,false⟩) (v:=.slice (some ⟨w.heap.size,0,none⟩) l.toNat c.toNat) (mY w (.cells (madeCells z.cells (c.toNat*ie.size)) e)) ?_ (λb hb=>by simp[obk]at hb;omega) rfl hq ?_
  ·have hk:pF G.I w (w.alloc (.cells (madeCells z.cells (c.toNat*ie.size)) e)):=pF.alloc _ h.mem.In _;refine⟨hz0,λe' hm=>by rw[a6Q hm];simpa using hzn,.inl ⟨heF,_,⟨?_,.inr ⟨w.heap.size,c.toNat,_,by simp only[a6t],a6p _,heap_alloc_new w _,by simp only[a6t];exact hle,?_,?_,rfl⟩⟩,?_⟩⟩
   ·simp only[a6t,a5T,a59,hlen];exact a7u (a6k _ hle)
   ·simp only[maxLen];omega
   ·exact hlen
   ·simp only[a6t];exact V2.mono (λ_ _ h=>h) hk _ htake
  ·unfold execOp;rw[ho];simp only[e1,e2,Sem.run_bind,hr,Result.andThen_ok];rfl
 ·exact hq.elim
end
section
variable {P:Program}{T:TypeId->Option TI}{W0:World}{M:Own}{G:Gh}{s:St}{a:Act}{w:World}{o:Oper}{K:List Upd->Prop}{Q':Exit->Act->World->Prop}
theorem uR{w:World}{r:Nat}{s:ByteArray}{p:Nat}(hb:w.heap[r]?=some (.stringIter s p)):(getObj r).run P w= .ok (.stringIter s p) w:=by
 simp[getObj,Sem.run,hb]
theorem Bm{w:World}{r:Nat}{s:ByteArray}{p:Nat}(ob':Obj) (hb:w.heap[r]?=some (.stringIter s p)):(setObj r ob').run P w= .ok () {w with heap:=w.heap.setIfInBounds r ob'}:=by
 simp[setObj,Sem.run,hb]
theorem OD{w:World}{g:Nat}{ob ob':Obj}(hh:w.heap[g]?=some ob):w.grownBy {w with heap:=w.heap.setIfInBounds g ob'} (some g)/\({w with heap:=w.heap.setIfInBounds g ob'}:World).heap[g]?=some ob':=by
 have hlt:=(Array.getElem?_eq_some_iff.1 hh).1;refine⟨⟨rfl,rfl,rfl,by simp,λk hk hne=>?_⟩,by simp[hlt]⟩;have:g≠k:=λe=>hne (by rw[e]);simp[this]
theorem TK.conc_und{t:TypeId}{i:TI}(hT:TOk P t i) (hc:i.k.conc=true):∃d,P.underlying t=some d/\(∀ms,d ≠ .interface ms)/\d ≠ .tuple #[]:=by
 obtain⟨d,hu,hk⟩:=hT.und;refine⟨d,hu,?_,?_⟩
 ·intro ms e;subst e;cases hik:i.k <;> rw[hik]at hk hc <;> simp[TK.conc]at hk hc
 ·intro e;subst e;cases hik:i.k <;> rw[hik]at hk hc <;> simp[TK.conc]at hk hc
theorem Mg{t:TypeId}{x:Operand}(ho:o.op= .range t x) (hT:∀t i,T t=some i->TOk P t i) (h:Rel W0 M G s a w) (hd:∀d,o.dst=some d->d<s.n)
  (hq:((tq T t).bind λi=>(Q.ofOpt o.dst).bind λd=>(ev x).bind λx=>JH i.k d x).wp s K):pK P W0 M s o a w K Q':=by
 simp only[Q.wp_bind]at hq;obtain⟨i,hi,hq⟩:=jo hq;obtain⟨d,hdd,hq⟩:=V7 hq;obtain⟨v,hq,hv⟩:=eW h hq;obtain⟨d1,hu1,hk1⟩:=(hT t i hi).und;unfold JH at hq;split at hq
 ·rename_i str hk;have hk1':d1= .string:=by rw[hk]at hk1;exact hk1
  subst hk1';simp only[AVr,ACr,DVr]at hv;simp only[Q.wp]at hq;refine zJ (s0:=s) (us:=[]) h hdd (hd d hdd) (R:=⟨[[.v (.string str),.v (.int .i64 0)]],2,sw,false⟩) (v:=.pointer (some ⟨w.heap.size,0,none⟩)) (mY w (.stringIter str 0)) ⟨Nat.zero_lt_two,by simp,.inr (.inr (.inl ⟨rfl,w.heap.size,str,0,rfl,heap_alloc_new w _,rfl⟩))⟩ (λb hb=>by simp[obk]at hb;omega) rfl hq ?_;unfold execOp;rw[ho];simp[Instr.range,hv.1,run_underlying hu1]
 ·exact hq.elim
theorem XJ{x:Operand}(ho:o.op= .next x true) (h:Rel W0 M G s a w) (hd:∀d,o.dst=some d->d<s.n)
  (hq:((Q.ofOpt o.dst).bind λd=>(ev x).bind λx=>SL d x).wp s K):pK P W0 M s o a w K Q':=by
 simp only[Q.wp_bind]at hq;obtain⟨d,hdd,hq⟩:=V7 hq;obtain⟨v,hq,hv⟩:=eW h hq;unfold SL at hq;split at hq
 ·rename_i id ver;simp only[Q.wp]at hq;split at hq
  ·rename_i R hR;obtain⟨⟨e1,e2,e3⟩,hq⟩:=hq;have hx':=J2 hv;simp only[ACr]at hx';have hval:=hx'.2.2 e1 (by rw[hR];rfl);obtain⟨hz,hl,⟨h3,_⟩|⟨hm,_⟩|⟨_,g,str,pos,hg,hh,hes⟩|⟨hm,_⟩⟩:=h.mem.rw id R hR
   rotate_right
   ·rw[e2]at hm;exact absurd hm (by decide)
   ·rw[e2]at h3;exact absurd h3 (by decide)
   ·exact absurd e2 hm.2.1
   ·rw[hg]at hval;have hS:NS R.es=str:=by rw[hes];rfl
    have hP:NT R.es=(pos:Int):=by rw[hes];rfl
    rw[hS,hP,a5J]at hq;have hobk:obk (G.rw id)=some g:=by rw[hg];rfl
    have hone:∀p:Int,∀e∈[[DV.v (.string str),DV.v (.int .i64 p)]],e.length=R.sz:=λp e he=>by
     have h1:=hl [.v (.string str),.v (.int .i64 (pos:Int))] (by rw[hes];simp);simp only[a54,a6v]at h1;rw[List.mem_singleton.1 he];simp[<-h1]
    have hgrow:∀pos':Nat,uX W0 M (s.app [.r id ⟨(s.r id).ver,some ⟨[[.v (.string str),.v (.int .i64 (pos':Int))]],R.sz,R.e,false⟩⟩]) a {w with heap:=w.heap.setIfInBounds g (.stringIter str pos')}:=λpos'=>by
     obtain⟨hgr,hnew⟩:=OD (ob':=.stringIter str pos') hh;obtain⟨m2,e5⟩:=h.mem.setRow hR e3 (show R.e<qD by rw[e2];decide) (by rw[e2];decide) (g:=g) hobk hgr (es':=[[.v (.string str),.v (.int .i64 (pos':Int))]]) (λ_=>⟨hz,hone _,.inr (.inr (.inl ⟨e2,g,str,pos',hg,hnew,rfl⟩))⟩);exact⟨G,h.mem' e5 m2 rfl rfl⟩
    by_cases hlt:pos<str.size
    ·have hnp:Hu str (pos:Int)=((pos+(Utf8.decode str pos).2:Nat):Int):=by
      unfold Hu;rw[a5J,a5W hlt]
     rw[hnp,a5H hlt]at hq;obtain⟨G2,hR2⟩:=hgrow (pos+(Utf8.decode str pos).2);refine eV (w':={w with heap:=w.heap.setIfInBounds g (.stringIter str (pos+(Utf8.decode str pos).2))}) (v:=.tuple #[.bool true,.int .i64 pos,.int .i32 (Utf8.decode str pos).1]) ?_ ⟨_,hq,?_⟩
     ·unfold execOp;rw[ho];simp[Instr.next,hval,uR hh,Bm _ hh,hlt,goInt]
     ·rw[show([Upd.r id _,Upd.t d _]:List Upd)=[Upd.r id _]++[Upd.t d _]from rfl,St.app_append,hdd];refine⟨G2,hR2.put (d:=d) (show d<s.n from hd d hdd) ⟨λ_=>?_,λe=>by cases e⟩⟩;simp only[AVr,ACr,DVr];exact⟨λ_=>⟨_,_,rfl,⟨rfl,rfl⟩,⟨rfl,rfl⟩⟩,λe=>by cases e⟩
    ·have hnp:Hu str (pos:Int)=(pos:Int):=by
      unfold Hu;rw[a5J,a5U hlt]
     rw[hnp,a5N hlt]at hq;have hsame:({w with heap:=w.heap.setIfInBounds g (.stringIter str pos)}:World)=w:=by
      have:w.heap.setIfInBounds g (.stringIter str pos)=w.heap:=by
       apply Array.ext_getElem?;intro j;rw[Array.getElem?_setIfInBounds];split
       ·rename_i e;subst e;split
        ·exact hh.symm
        ·rw[Array.getElem?_eq_none (by omega)]
       ·rfl
      rw[this]
     obtain⟨G2,hR2⟩:=hgrow pos;rw[hsame]at hR2;refine eV (w':=w) (v:=.tuple #[.bool false]) ?_ ⟨_,hq,?_⟩
     ·unfold execOp;rw[ho];simp[Instr.next,hval,uR hh,hlt]
     ·rw[show([Upd.r id _,Upd.t d _]:List Upd)=[Upd.r id _]++[Upd.t d _]from rfl,St.app_append,hdd];refine⟨G2,hR2.put (d:=d) (show d<s.n from hd d hdd) ⟨λ_=>?_,λe=>by cases e⟩⟩;simp only[AVr];exact⟨(λe=>by cases e),λ_=>trivial⟩
  ·exact hq.elim
 ·exact hq.elim
theorem yD{t:TypeId}{x:Operand}(ho:o.op= .makeInterface t x) (hT:∀t i,T t=some i->TOk P t i) (h:Rel W0 M G s a w) (hd:∀d,o.dst=some d->d<s.n)
  (hq:((tq T t).bind λi=>(Q.ofOpt o.dst).bind λd=>(ev x).bind λx=>match x with
  |.c x=>.req (i.k.conc=true) ((toD x).bind λy=>(lV y.2).bind λus=>.ret (us++[.t d ⟨true,.c (.d (.it t y.1))⟩]))
  |_=>.fail).wp s K):pK P W0 M s o a w K Q':=by
 simp only[Q.wp_bind]at hq;obtain⟨i,hi,hq⟩:=jo hq;obtain⟨d,hdd,hq⟩:=V7 hq;obtain⟨v,hq,hv⟩:=eW h hq;split at hq
 ·rename_i c;obtain⟨hc,hq⟩:=hq;obtain⟨d1,hu,hni,_⟩:=TK.conc_und (hT t i hi) hc;rw[Q.wp_bind]at hq;obtain⟨y,hq,_,hy⟩:=BW (J2 hv) hq;rw[Q.wp_bind]at hq;obtain⟨us,G',hq,hR',hE,hf,hfrz,_⟩:=qE h hq;have hyd:=hy G'.I hE.I hf;refine eV (w':=w) (v:=.iface t (a.eval x)) ?_ ⟨_,hq,?_⟩
  ·unfold execOp;rw[ho];simp only[Instr.makeInterface,Sem.run_bind,run_underlying hu,Result.andThen_ok];cases d1 <;> first | rfl | exact(hni _ rfl).elim
  ·rw[St.app_append,hdd];refine⟨G',hR'.put (show d<(s.app us).n by rw[hfrz.1];exact hd d hdd) ⟨λ_=>?_,λe=>by cases e⟩⟩;simp only[AVr,ACr,DVr];exact⟨_,rfl,hyd⟩
 ·exact hq.elim
theorem Td{t:TypeId}{i:TI}(hT:TOk P t i) (hag:i.agg=false){K:AV->Prop}(hq:(NU i).wp s K):∃y z,K y/\(zeroValue t).run P w= .ok z w/\AVr G s w y z:=by
 unfold NU at hq;rw[hag]at hq;simp only at hq;split at hq
 ·rename_i z0 hz0;obtain⟨inf,z,h1,h2,h3,h4,h5,h6,h7⟩:=hT.info;have hz:(zeroValue t).run P w= .ok z w:=by simp[zeroValue,typeInfo,h1,h4]
  have hna:=hT.agg inf z h1 h4;rw[hag]at hna;have hzz:z=z0:=by
   rw[hz0]at h5;cases z <;> simp[NV,Value.cells]at hna h5 <;> exact h5
  subst hzz;rw[hz0]at h7;simp only[a61,List.all_nil,a7e]at h7;exact⟨_,z,hq,hz,by simp only[AVr];exact zI h7⟩
 ·exact hq.elim
theorem Di{x:Operand}{xt t:TypeId}(ho:o.op= .typeAssert x xt t true) (hT:∀t i,T t=some i->TOk P t i) (h:Rel W0 M G s a w) (hd:∀d,o.dst=some d->d<s.n)
  (hq:((tq T t).bind λi=>(ev x).bind λx=>(Da i t x).bind (one o.dst)).wp s K):pK P W0 M s o a w K Q':=by
 simp only[Q.wp_bind]at hq;obtain⟨i,hi,hq⟩:=jo hq;obtain⟨v,hq,hv⟩:=eW h hq;unfold Da at hq;split at hq
 ·rename_i t' x';obtain⟨⟨hc,hag⟩,hq⟩:=hq;obtain⟨d1,hu,hni,_⟩:=TK.conc_und (hT t i hi) hc;simp only[AVr,ACr,DVr]at hv;obtain⟨y,hy,hyd⟩:=hv;have hrun:∀r,(if t'=t then Sem.run P (pure (.tuple #[y,.bool true])) w else Sem.run P (do pure (.tuple #[<-zeroValue t,.bool false])) w)= .ok r w->(execOp a.eval o).run P w= .ok (.value r) w:=λr hr=>by
   unfold execOp;rw[ho];simp only[hy,Instr.typeAssert,Sem.run_bind,run_underlying hu,Result.andThen_ok];split at hr
   ·rename_i he;rw[a5W he,a5W trivial,hr];rfl
   ·rename_i he;rw[a5U he,a5W trivial,hr];rfl
  split at hq
  ·rename_i he _;refine fO h hd (v:=.tuple #[y,.bool true]) ?_ hq (hrun _ (by rw[a5W he];rfl));simp only[AVr,AVs,ACr,DVr];exact⟨_,rfl,y,[.bool true],rfl,hyd,.bool true,[],rfl,⟨rfl,rfl⟩,rfl⟩
  ·rename_i he _;rw[Q.wp_bind]at hq;obtain⟨z,zv,hq,hz,hzr⟩:=Td (w:=w) (G:=G) (hT t i hi) hag hq;refine fO h hd (v:=.tuple #[zv,.bool false]) ?_ hq (hrun _ (by rw[a5U he];simp[hz]));simp only[AVr,AVs,ACr,DVr];exact⟨_,rfl,zv,[.bool false],rfl,hzr,.bool false,[],rfl,⟨rfl,rfl⟩,rfl⟩
 ·exact hq.elim
end
end Go.Proofs.YtjbgdpjgfjnkbaaGreatDoor.Am
namespace Go.Proofs.YtjbgdpjgfjnkbaaGreatDoor.Am
open Go Go.MapKept
theorem JO(b:Bool):mKs (mE b)=1/\mKa (mE b)=false/\mVa (mE b)=b/\jn<=mE b/\mE b≠sw/\¬lS (mE b):=by cases b <;> decide
section
variable {P:Program}{T:TypeId->Option TI}{W0:World}{M:Own}{G:Gh}{s:St}{a:Act}{w:World}{o:Oper}{K:List Upd->Prop}{Q':Exit->Act->World->Prop}
theorem XF{x:AC}{v:Value}{K:Value->Prop}(hx:ACr G s w x v) (hq:(a2V x).wp s K):K v:=by
 unfold a2V at hq;split at hq
 ·simp only[ACr,DVr]at hx;rw[hx.1];exact hq
 ·simp only[ACr,DVr]at hx;rw[hx.1];exact hq
 ·exact hq.elim
theorem SY{k:TK}(h:∀n e,k ≠ .arr n e):wid k=none:=by
 cases k <;> first | rfl | exact absurd rfl (h _ _)
theorem lw{k:TK}(h:wid k=none) (v:Value):mZ k v=v:=by
 unfold mZ;rw[h]
theorem zM{k:TK}(h:wid k=none){v:Value}:KA k v↔KK k v:=by
 unfold KA;rw[h]
theorem qF{k:TK}(h:wid k=none){v:Value}:KL k v↔KK k v:=by
 unfold KL;rw[h]
theorem KK.one{k:TK}{v:Value}(h:KK k v):v.oneCell'=true:=by
 unfold KK at h;split at h
 ·rfl
 ·rfl
 ·exact h.elim
theorem Fb{k:TK}(h:wid k=none) (b:Bool):mW k b=mE b:=by unfold mW;rw[h]
theorem Dg(k:TK) (b:Bool):mKs (mW k b)=(wid k).getD 1/\mKa (mW k b)=(wid k).isSome/\mVa (mW k b)=b/\jn<=mW k b/\mW k b≠sw/\¬lS (mW k b):=by
 cases h:wid k with
 |none=>rw[Fb h];exact JO b
 |some n=>
  have hn:n<=1000:=by
   unfold wid at h;split at h
   ·split at h
    ·injection h with h;omega
    ·cases h
   ·cases h
  have hb:b.toNat<=1:=by cases b <;> decide
  have e:mW k b=4000000+4*n+2+b.toNat:=by unfold mW;rw[h];rfl
  rw[e];refine⟨?_,?_,?_,?_,?_,?_⟩
  ·simp only[mKs,a6m];omega
  ·simp only[mKa,a8f,a5M];omega
  ·simp only[mVa];cases b <;> simp <;> omega
  ·simp only[jn];omega
  ·simp only[sw];omega
  ·simp only[lS,LS];omega
theorem a0b(k:TK) (b:Bool):mW k b<qD:=by
 cases h:wid k with
 |none=>rw[Fb h];exact ZS b
 |some n=>
  have hn:n<=1000:=by
   unfold wid at h;split at h
   ·split at h
    ·injection h with h;omega
    ·cases h
   ·cases h
  have hb:b.toNat<=1:=by cases b <;> decide
  have e:mW k b=4000000+4*n+2+b.toNat:=by unfold mW;rw[h];rfl
  rw[e];simp only[qD];omega
theorem KK.isKey{k:TypeId}{ik:TI}{v:Value}(hT:TOk P k ik) (h:KK ik.k v):∃d,P.underlying k=some d/\IsKey d v/\((∃q,d= .int q)\/d= .string)/\∀u,KK ik.k u->IsKey d u:=by
 obtain⟨d,h1,h2⟩:=hT.und;unfold KK at h;split at h
 ·rename_i q q' n hk;rw[hk]at h2;simp only at h2;subst h2;refine⟨_,h1,h,.inl ⟨q,rfl⟩,λu hu=>?_⟩;rw[hk]at hu;cases u <;> simp only[KK]at hu;exact hu
 ·rename_i b hk;rw[hk]at h2;simp only at h2;subst h2;refine⟨_,h1,trivial,.inr rfl,λu hu=>?_⟩;rw[hk]at hu;cases u <;> simp only[KK]at hu;trivial
 ·exact h.elim
theorem BY{d:TypeDesc}{x y:Value}(hd:(∃q,d= .int q)\/d= .string) (hx:IsKey d x) (hy:IsKey d y):uN x y=true↔x=y:=by
 rcases hd with⟨q,rfl⟩|rfl
 ·cases x <;> simp only[IsKey]at hx;cases y <;> simp only[IsKey]at hy;subst hx;subst hy;simp[uN]
 ·cases x <;> simp only[IsKey]at hx;cases y <;> simp only[IsKey]at hy;rename_i p q;obtain⟨⟨p⟩⟩:=p;obtain⟨⟨q⟩⟩:=q;simp[uN]
theorem Ov{d:TypeDesc}{x y:Value}(hd:(∃q,d= .int q)\/d= .string) (hx:IsKey d x) (hy:IsKey d y):Instr.sameNow d x y=some (uN x y):=by
 obtain⟨r,h1,h2⟩:=sameNow_of_keys hx hy;rw[h1];congr 1;exact Bool.eq_iff_iff.2 (h2.trans (BY hd hx hy).symm)
theorem MEs.len{I:Nat->Nat->Prop}{e:Nat}:∀{es:List (List DV)}{ms:List MapEntry},MEs I w e es ms->ms.length=es.length
 |[],_,h=>by simp only[MEs]at h;subst h;rfl
 |c::es,ms,h=>by
  simp only[MEs]at h;obtain⟨m,r,rfl,_,h3⟩:=h;simp[MEs.len h3]
theorem MEs.get{I:Nat->Nat->Prop}{e:Nat}:∀{es:List (List DV)}{ms:List MapEntry},MEs I w e es ms->∀{j:Nat},j<es.length->∃m,ms[j]?=some m/\ME I w e (es.getD j []) m
 |[],_,_,j,hj=>by simp at hj
 |c::es,ms,h,j,hj=>by
  simp only[MEs]at h;obtain⟨m,r,rfl,h2,h3⟩:=h;cases j with
  |zero=>exact⟨m,rfl,h2⟩
  |succ j=>exact MEs.get h3 (by simpa using hj)
theorem MEs.app{I:Nat->Nat->Prop}{e:Nat}{c:List DV}{m:MapEntry}(hc:ME I w e c m):∀{es:List (List DV)}{ms:List MapEntry},MEs I w e es ms->MEs I w e (es++[c]) (ms++[m])
 |[],_,h=>by
  simp only[MEs]at h;subst h;simp only[a6w,MEs];exact⟨m,[],rfl,hc,rfl⟩
 |x::es,ms,h=>by
  simp only[MEs]at h;obtain⟨y,r,rfl,h2,h3⟩:=h;simp only[a6l,MEs];exact⟨y,r++[m],rfl,h2,MEs.app hc h3⟩
theorem MEs.set{I:Nat->Nat->Prop}{e:Nat}{c:List DV}{m:MapEntry}(hc:ME I w e c m):∀{es:List (List DV)}{ms:List MapEntry}(i:Nat),MEs I w e es ms->MEs I w e (es.set i c) (ms.set i m)
 |[],_,i,h=>by
  simp only[MEs]at h;subst h;simp[MEs]
 |x::es,ms,i,h=>by
  simp only[MEs]at h;obtain⟨y,r,rfl,h2,h3⟩:=h;cases i with
  |zero=>simp only[a7z,MEs];exact⟨m,r,rfl,hc,h3⟩
  |succ i=>simp only[a7K,MEs];exact⟨y,r.set i m,rfl,h2,MEs.set hc i h3⟩
theorem Ow{k:Value}:∀{es:List (List DV)}{j:Nat},CT k es=some j->j<es.length/\uN k (kOf (es.getD j []))=true
 |[],j,h=>by cases h
 |e::es,j,h=>by
  unfold CT at h;split at h
  ·injection h with h;subst h;rename_i hs;exact⟨by simp,hs⟩
  ·obtain⟨i,h1,rfl⟩:=Option.map_eq_some_iff.1 h;obtain⟨h2,h3⟩:=Ow h1;exact⟨by simpa using h2,h3⟩
theorem Ox{I:Nat->Nat->Prop}{k:TK}{e:Nat}(_h1:mKs e=1) (h2:mKa e=false){c:List DV}{m:MapEntry}(hm:ME I w e c m) (hk:∃v r,c= .v v::r/\KK k v):m.key=kOf c/\KK k m.key:=by
 obtain⟨v,r,rfl,hv⟩:=hk;have h3:=hm.1;rw[h2]at h3;obtain⟨d,h4,h5⟩:=h3;simp only[a6N,a6E,List.cons.injEq,and_true]at h4;subst h4;simp only[DVr]at h5;exact⟨h5.1,by rw[h5.1];exact hv⟩
theorem zN{I:Nat->Nat->Prop}{d:TypeDesc}{kv:Value}{k:TK}{e:Nat}(h1:mKs e=1) (h2:mKa e=false) (hd:(∃q,d= .int q)\/d= .string) (hkv:IsKey d kv) (hK:∀u,KK k u->IsKey d u) :
  ∀{es:List (List DV)} {ms:List MapEntry} (i:Nat),MEs I w e es ms->(∀c∈es,∃v r,c= .v v::r/\KK k v)->Instr.findNow d kv ms i=some ((CT kv es).map λj=>(i+j,(ms.getD j default).val))
 |[],ms,i,h,_=>by simp only[MEs]at h;subst h;rfl
 |c::es,ms,i,h,hall=>by
  simp only[MEs]at h;obtain⟨m,r,rfl,h3,h4⟩:=h;obtain⟨e1,e2⟩:=Ox h1 h2 h3 (hall c (by simp));have ih:=zN h1 h2 hd hkv hK (i+1) h4 (λx hx=>hall x (by simp[hx]));unfold Instr.findNow CT;rw[Ov hd hkv (hK _ e2),e1];cases hs:uN kv (kOf c) with
  |true=>simp
  |false=>
   simp only[a7M,a6o];rw[ih,Option.map_map];congr 1;cases CT kv es with
   |none=>rfl
   |some j=>simp[a6D,a6I 1]
theorem Mem.map_at(h:Mem W0 M G s w){id:Nat}{R:Row}(hR:(s.r id).c=some R) (hE:jn<=R.e) (hne:R.e≠sw/\¬lS R.e):∃g entries clock,G.rw id= .map (some g)/\w.heap[g]?=some (.map entries clock)/\MEs G.I w R.e R.es entries.toList/\NQ entries.toList clock/\0<R.sz/\∀e∈R.es,e.length=R.sz:=by
 obtain⟨h1,h2,⟨h3,_⟩|⟨_,g,es,c,k1,k2,k3,k4⟩|⟨h3,_⟩|⟨h3,_⟩⟩:=h.rw id R hR
 ·exact absurd h3 (Nat.not_lt.2 hE)
 ·exact⟨g,es,c,k1,k2,k3,k4,h1,h2⟩
 ·exact(hne.1 h3).elim
 ·exact(hne.2 h3).elim
end
structure Oy (P:Program) (kt:TypeId) (k:TK):Prop where
 check:∀{kv:Value},KL k kv->∀(w:World) em,(Instr.checkKey em 10000 kt (mZ k kv)).run P w= .ok () w
 find:∀{kv:Value} {I:Nat->Nat->Prop} {w:World} {e:Nat} {es:List (List DV)} {ms:List MapEntry},KL k kv->mKs e=(wid k).getD 1->mKa e=(wid k).isSome->MEs I w e es ms->BU k es->∀w':World,(Instr.findKey kt (mZ k kv) ms).run P w'= .ok ((CT kv es).map λj=>(0+j,(ms.getD j default).val)) w'
 stays:∀{kv:Value},KL k kv->∀w:World,(Instr.keyThatStays (mZ k kv) (mZ k kv)).run P w= .ok (mZ k kv) w
 same:∀{kv u:Value},KL k kv->KA k u->uN kv u=true->u=kv
 one:∀{kv:Value},KL k kv->kv.oneCell'=true
theorem Wo{I:Nat->Nat->Prop}{w:World}{k:TK}{e:Nat}(h1:mKs e=(wid k).getD 1) (h2:mKa e=(wid k).isSome){c:List DV}{m:MapEntry}(hm:ME I w e c m) (hk:∃v r,c= .v v::r/\KA k v):m.key=mZ k (kOf c)/\KA k (kOf c)/\KL k (kOf c):=by
 obtain⟨v,r,rfl,hv⟩:=hk;refine⟨?_,hv,?_⟩
 ·have h3:=hm.1;cases hw:wid k with
  |none=>
   rw[h2,hw]at h3;obtain⟨d,h4,h5⟩:=h3;simp only[a6N,a6E,List.cons.injEq,and_true]at h4;subst h4;simp only[DVr]at h5;rw[lw hw];exact h5.1
  |some n=>
   rw[h2,hw]at h3;obtain⟨s,h4,h5,_⟩:=h3;simp only[a6N,a6E,List.cons.injEq,and_true]at h4;injection h4 with h4;subst h4;unfold mZ;rw[hw];exact h5
 ·have h3:=hm.1;unfold KL;cases hw:wid k with
  |none=>exact(zM hw).1 hv
  |some n=>
   rw[h2,hw,h1,hw]at h3;obtain⟨s,h4,h5,h6⟩:=h3;simp only[a6N,a6E,List.cons.injEq,and_true]at h4;injection h4 with h4;exact⟨s,h4,h6⟩
theorem a0c{I:Nat->Nat->Prop}{w:World}{k:TK}{e:Nat}{b:Bool}(f1:mKs e=(wid k).getD 1) (f2:mKa e=(wid k).isSome) (f3:mVa e=b){kv v:Value}{x:List DV}(hk:KL k kv) (hcv:CV I w b x v) (n:Nat):ME I w e (.v kv::x) ⟨mZ k kv,v,n⟩:=by
 unfold ME;rw[f1,f2,f3];refine⟨?_,hcv⟩;unfold KL at hk;cases hw:wid k with
 |none=>
  rw[hw]at hk;rw[lw hw];exact⟨.v kv,rfl,by simp only[DVr];exact⟨trivial,KK.one hk⟩⟩
 |some n=>
  rw[hw]at hk;obtain⟨s,rfl,hs⟩:=hk;exact⟨s,rfl,by unfold mZ;rw[hw],hs⟩
section
variable {P:Program}
theorem Fc{kt:TypeId}{ik:TI}(hT:TOk P kt ik) (hw:wid ik.k=none):Oy P kt ik.k where
 check h w em:=by
  rw[lw hw];obtain⟨d,hd,hkd,_⟩:=((qF hw).1 h).isKey hT;exact run_checkKey hd hkd em 9999
 find {kv I w e es ms} h h1 h2 hme hall w':=by
  rw[lw hw];obtain⟨d,hd,hkd,hdd,hK⟩:=((qF hw).1 h).isKey hT;rw[hw]at h1 h2;exact run_findKey hd (zN h1 h2 hdd hkd hK 0 hme λc hc=>by
   obtain⟨v,r,h3,h4⟩:=hall c hc;exact⟨v,r,h3,(zM hw).1 h4⟩)
 stays h w:=by
  rw[lw hw];obtain⟨d,hd,hkd,_⟩:=((qF hw).1 h).isKey hT;exact run_keyThatStays hkd
 same h hu hs:=by
  obtain⟨d,hd,hkd,hdd,hK⟩:=((qF hw).1 h).isKey hT;exact((BY hdd hkd (hK _ ((zM hw).1 hu))).1 hs).symm
 one h:=KK.one ((qF hw).1 h)
theorem qG(l:List UInt8):(zD l).cells.toList=l.map λb=>Value.int .u8 (b.toNat:Int):=rfl
theorem Dh:∀(l:List UInt8),(l.map λb=>Value.int .u8 (b.toNat:Int)).map uq=(List.replicate l.length (CK.i .u8)).map some
 |[]=>rfl
 |b::l=>by
  rw[a55,a55,Dh l];rfl
theorem JP:∀(l m:List UInt8),l.length=m.length->aK (l.map λb=>Value.int .u8 (b.toNat:Int)) (m.map λb=>Value.int .u8 (b.toNat:Int))=decide (l=m)
 |[],[],_=>rfl
 |a::l,b::m,h=>by
  have ih:=JP l m (by simpa using h);simp only[a55,aK,ih,ER];by_cases hab:a=b
  ·subst hab;simp
  ·have:((a.toNat:Int)==(b.toNat:Int))=false:=by
    simp only[beq_eq_false_iff_ne,ne_eq];intro e;exact hab (UInt8.toNat_inj.1 (by omega))
   rw[this,Bool.false_and,a5N λe=>hab (by injection e)]
structure xq (P:Program) (kt:TypeId) (ik:TI) (n:Nat) (e:TypeId):Prop where
 k:ik.k= .arr n e
 le:n<=1000
 pos:0<n
 und:P.underlying kt=some (.array n e)
 elem:P.underlying e=some (.int .u8)
 one:P.cellsOf e=1
 size:P.cellsOf kt=n
 cmp:∃d,d<=10000/\JC P d kt=some (List.replicate n (.i .u8))
theorem xq.arr{kt:TypeId}{ik:TI}{n:Nat}{e:TypeId}(h:xq P kt ik n e):WideMaps.ArrKey P kt e n:=⟨h.und,by unfold Program.plainKey;rw[h.elem],h.one,h.size⟩
theorem xq.wid{kt:TypeId}{ik:TI}{n:Nat}{e:TypeId}(h:xq P kt ik n e):wid ik.k=some n:=by
 unfold Am.wid;rw[h.k];exact a5W h.le
theorem Mc{e:TypeId}(he:P.underlying e=some (.int .u8)) (D:Nat) (l:List UInt8):∀(m:Nat) (L:List Nat),L=(List.range' m (l.length-m))->L.mapM (λi=>P.keyLits (D+1) e (((l.map λb=>Value.int .u8 (b.toNat:Int)).drop (i*1)).take 1))=some ((l.drop m).map λb=>[Lit.int .u8 (b.toNat:Int)]):=by
 intro m L
 induction L generalizing m with
 |nil=>
  intro h;have:l.length-m=0:=by
   cases hn:l.length-m with
   |zero=>rfl
   |succ k=>rw[hn]at h;cases h
  rw[a6X (by omega)];rfl
 |cons i L ih=>
  intro h;obtain⟨k,hk⟩:∃k,l.length-m=k+1:=by
   cases hn:l.length-m with
   |zero=>rw[hn]at h;cases h
   |succ k=>exact⟨k,rfl⟩
  rw[hk,List.range'_succ]at h;injection h with h1 h2;subst h1;have hi:i<l.length:=by omega
  have ih':=ih (i+1) (by rw[h2];congr 1;omega);have hb:=l[i].toNat_lt;rw[a8k,ih',Nat.mul_one,a6n (by simpa using hi),a6n hi];have hwf:(Lit.int .u8 (l[i].toNat:Int)).wf=true:=by
   simp[Lit.wf,IntKind.min,IntKind.max,IntKind.signed,IntKind.bits];omega
  simp only[a6J,a6N,a6E,a55];unfold Program.keyLits;simp only[he,hwf];rw[a5W ⟨trivial,trivial⟩];rfl
theorem xq.key{kt:TypeId}{ik:TI}{n:Nat}{e:TypeId}(h:xq P kt ik n e){l:List UInt8}(hl:l.length=n):∃x,P.keyLits 2 kt (zD l).cells.toList=some x:=by
 rw[qG];unfold Program.keyLits;simp only[h.und];rw[a5W (by rw[h.size];simpa using hl),h.one];have hb:=Mc h.elem 0 l 0 (List.range n) (by rw[a8e,hl,List.range_eq_range']);rw[hb];exact⟨_,rfl⟩
theorem xq.check{kt:TypeId}{ik:TI}{n:Nat}{e:TypeId}(h:xq P kt ik n e){l:List UInt8}(hl:l.length=n) (w:World) (em:Bool):(Instr.checkKey em 10000 kt (zD l)).run P w= .ok () w:=by
 obtain⟨x,hx⟩:=h.key hl;exact run_checkKey_deep em 9998 2 kt (h.arr.at 0) w 2 (zD l) x (by simp[Value.formed,zD,h.und,h.size,hl]) hx
theorem HB(l:List UInt8) (w:World):(Instr.keyThatStays (zD l) (zD l)).run P w= .ok (zD l) w:=by
 have hs:Instr.sameBits 10000 (zD l) (zD l)=true:=by
  show Instr.sameBits (9999+1) (.agg _) (.agg _)=true;simp only[Instr.sameBits,beq_self_eq_true,a8r,a7a];intro p hp;obtain⟨i,hi,e⟩:=a6O hp;rw[List.getElem_zip]at e;rw[<-e];simp only[a6J];exact sameBits_self (show IsKey (.int .u8) (.int .u8 _)from rfl) 9999
 unfold Instr.keyThatStays;rw[a5W hs];rfl
theorem xq.equal{kt:TypeId}{ik:TI}{n:Nat}{e:TypeId}(h:xq P kt ik n e){l m:List UInt8}(hl:l.length=n) (hm:m.length=n) (w:World):(Op.equal kt (zD l) (zD m)).run P w= .ok (decide (l=m)) w:=by
 obtain⟨d,hd,hc⟩:=h.cmp;have hag:∀zs:Array Value,fmd P kt (.agg zs):=λzs=>by
  unfold fmd;rw[h.und];exact⟨_,rfl⟩
 have:=vZ (10000-d) d kt _ hc w (zD l) (zD m) (hag _) (hag _) (by rw[qG,Dh,hl]) (by rw[qG,Dh,hm]);rw[a7L hd,qG,qG,JP l m (hl.trans hm.symm)]at this;exact this
theorem Oz{kt:TypeId}{ik:TI}{n:Nat}{e:TypeId}(h:xq P kt ik n e){s:ByteArray}(hs:s.data.toList.length=n){I:Nat->Nat->Prop}{w:World}{te:Nat}(h1:mKs te=(wid ik.k).getD 1) (h2:mKa te=(wid ik.k).isSome) (w':World) :
  ∀{es:List (List DV)} {ms:List MapEntry} (i:Nat),MEs I w te es ms->BU ik.k es->(Instr.findAsking kt (zD s.data.toList) ms i).run P w'= .ok ((CT (.string s) es).map λj=>(i+j,(ms.getD j default).val)) w'
 |[],ms,i,hme,_=>by simp only[MEs]at hme;subst hme;rfl
 |c::es,ms,i,hme,hall=>by
  simp only[MEs]at hme;obtain⟨m,r,rfl,h3,h4⟩:=hme;obtain⟨e1,_,e3⟩:=Wo h1 h2 h3 (hall c (by simp));have ih:=Oz h hs h1 h2 w' (i+1) h4 (λx hx=>hall x (by simp[hx]));unfold KL at e3;rw[h.wid]at e3;obtain⟨u,hu,hul⟩:=e3;have e1':m.key=zD u.data.toList:=by rw[e1,hu];unfold mZ;rw[h.wid]
  unfold Instr.findAsking CT;rw[e1',hu,Sem.run_bind,h.equal hs hul w',Result.andThen_ok];show Sem.run P (if decide (s.data.toList=u.data.toList)=true then _ else _) w'= .ok ((if decide (s.data.toList=u.data.toList)=true then some 0 else _).map _) w'
  by_cases hq:s.data.toList=u.data.toList
  ·rw[a5H hq,a5W rfl,a5W rfl];rfl
  ·rw[a5N hq,a5U (by decide),a5U (by decide),ih,Option.map_map];congr 1;cases CT (.string s) es with
   |none=>rfl
   |some j=>simp[a6D,a6I 1]
theorem Md{kt:TypeId}{ik:TI}{n:Nat}{e:TypeId}(h:xq P kt ik n e):Oy P kt ik.k where
 check {kv} hk w em:=by
  unfold KL at hk;rw[h.wid]at hk;obtain⟨s,rfl,hs⟩:=hk;have:mZ ik.k (.string s)=zD s.data.toList:=by unfold mZ;rw[h.wid]
  rw[this];exact h.check hs w em
 find {kv I w te es ms} hk h1 h2 hme hall w':=by
  unfold KL at hk;rw[h.wid]at hk;obtain⟨s,rfl,hs⟩:=hk;have:mZ ik.k (.string s)=zD s.data.toList:=by unfold mZ;rw[h.wid]
  rw[this,run_findKey_eq (w:=w') (by rw[h.und])];exact Oz h hs h1 h2 w' 0 hme hall
 stays {kv} hk w:=by
  unfold KL at hk;rw[h.wid]at hk;obtain⟨s,rfl,hs⟩:=hk;have:mZ ik.k (.string s)=zD s.data.toList:=by unfold mZ;rw[h.wid]
  rw[this];exact HB _ w
 same {kv u} hk hu hs:=by
  unfold KL at hk;unfold KA at hu;rw[h.wid]at hk hu;obtain⟨s,rfl,_⟩:=hk;cases u <;> simp only[ZT]at hu;rename_i q;have hs:s.data.toList=q.data.toList:=a5P hs;obtain⟨⟨s⟩⟩:=s;obtain⟨⟨q⟩⟩:=q;simp only at hs;rw[hs]
 one {kv} hk:=by
  unfold KL at hk;rw[h.wid]at hk;obtain⟨s,rfl,_⟩:=hk;rfl
end
section
variable {P:Program}{T:TypeId->Option TI}{G:Gh}{s:St}{w:World}
theorem SZ{xs:List AC}(h:xs=(xs.map unB).map bAC){vs:List Value}(hv:ACs G s w xs vs):vs=(xs.map unB).map λb=>Value.int .u8 (b.toNat:Int):=by
 have key:∀(l:List UInt8) (vs:List Value),ACs G s w (l.map bAC) vs->vs=l.map λb=>Value.int .u8 (b.toNat:Int):=by
  intro l
  induction l with
  |nil=>intro vs h;simp only[a6B,ACs]at h;rw[h];rfl
  |cons b l ih=>
   intro vs h;simp only[a55,ACs]at h;obtain⟨v,r,rfl,h1,h2⟩:=h;have h1:ACr G s w (.d (.v (.int .u8 (b.toNat:Int)))) v:=h1;simp only[ACr,DVr]at h1;rw[h1.1,ih r h2];rfl
 rw[h]at hv;exact key _ _ hv
theorem Fd{P:Program}{t:TypeId}{i:TI}(h:TOk P t i):P.cellsOf t=i.size:=by
 obtain⟨inf,z,h1,h2,_⟩:=h.info;unfold Program.cellsOf;rw[h1];exact h2
theorem XG{kt:TypeId}{ik:TI}(hT:∀t i,T t=some i->TOk P t i) (hk:TOk P kt ik){x:AV}{v:Value}{K:Value->Prop}(hx:AVr G s w x v) (hq:(Wk T ik x).wp s K):∃kv,K kv/\v=mZ ik.k kv/\Oy P kt ik.k/\((wid ik.k=none->KK ik.k kv)->KL ik.k kv):=by
 unfold Wk at hq;split at hq
 ·rename_i n e hki;rw[Q.wp_bind]at hq;obtain⟨ie,hie,hq⟩:=V7 hq;split at hq
  ·rename_i xs;simp only[Q.wp]at hq;obtain⟨⟨h1,h2,h3,h4,h5,h6,h7⟩,hq⟩:=hq;simp only[AVr]at hx;obtain⟨vs,rfl,hx⟩:=hx;unfold ZU at hq;rw[Q.wp_bind]at hq;obtain⟨h8,hq⟩:=hq;have hvs:=SZ h8 hx;have hTe:=hT e ie hie;obtain⟨d1,u1,k1⟩:=hk.und;rw[hki]at k1;simp only at k1;subst k1;obtain⟨d2,u2,k2⟩:=hTe.und;rw[h2]at k2;simp only at k2;subst k2;have hne:ik.cmp≠[]:=by
    rw[h5];intro e;have:=congrArg List.length e;rw[a6t]at this;simp at this;omega
   obtain⟨⟨d,hd,hc⟩,_⟩:=hk.cmp hne;rw[h5]at hc;have hW:xq P kt ik n e:=⟨hki,h1,h6,u1,u2,(Fd hTe).trans h3,(Fd hk).trans h4,d,hd,hc⟩;refine⟨_,hq,?_,Md hW,λ_=>?_⟩
   ·unfold mZ;rw[hW.wid];show Value.agg vs=zD _;unfold zD;rw[<-hvs]
   ·unfold KL;rw[hW.wid];exact⟨_,rfl,by simp[h7]⟩
  ·exact hq.elim
 ·split at hq
  ·obtain⟨hw,hq⟩:=hq;simp only[AVr]at hx;have:=XF hx hq;exact⟨v,this,(lw hw v).symm,Fc hk hw,λh=>(qF hw).2 (h hw)⟩
  ·exact hq.elim
end
section
variable {P:Program}{T:TypeId->Option TI}{W0:World}{M:Own}{G:Gh}{s:St}{a:Act}{w:World}{o:Oper}{K:List Upd->Prop}{Q':Exit->Act->World->Prop}
theorem Me{t:TypeId}{r:Option Operand}(ho:o.op= .makeMap t r) (hT:∀t i,T t=some i->TOk P t i) (h:Rel W0 M G s a w) (hd:∀d,o.dst=some d->d<s.n)
  (hq:((tq T t).bind λi=>(Q.ofOpt o.dst).bind λd=>(evo r).bind λ_=>match i.k with
  |.map kt vt=>(tq T kt).bind λik=>(tq T vt).bind λiv=>.rdR d λr=>.ret [.r d ⟨r.ver+1,some ⟨[],1+iv.size,mW ik.k iv.agg,false⟩⟩,.t d ⟨true,.c (.row d (r.ver+1))⟩]
  |_=>.fail).wp s K):pK P W0 M s o a w K Q':=by
 simp only[Q.wp_bind]at hq;obtain⟨i,hi,hq⟩:=jo hq;obtain⟨d,hdd,hq⟩:=V7 hq;obtain⟨d1,hu1,hk1⟩:=(hT t i hi).und;obtain⟨hr,hq⟩:(r=none\/∃y k n,r=some y/\a.eval y= .int k n)/\Q.wp (α:=List Upd) (match i.k with
  |.map kt vt=>(tq T kt).bind λik=>(tq T vt).bind λiv=>.rdR d λr=>.ret [.r d ⟨r.ver+1,some ⟨[],1+iv.size,mW ik.k iv.agg,false⟩⟩,.t d ⟨true,.c (.row d (r.ver+1))⟩]
  |_=>.fail) s K:=by
  rcases NX h hq with⟨e,hq⟩|⟨y,k,n,e,hq,hy⟩
  ·exact⟨.inl e,hq⟩
  ·exact⟨.inr ⟨y,k,n,e,hy⟩,hq⟩
 split at hq
 ·rename_i kt vt hk;rw[hk]at hk1;simp only at hk1;subst hk1;rw[Q.wp_bind]at hq;obtain⟨ik,hik,hq⟩:=jo hq;rw[Q.wp_bind]at hq;obtain⟨iv,hiv,hq⟩:=jo hq;simp only[Q.wp]at hq;refine zJ (hpe:=a0b _ _) (hns:=(Dg _ _).2.2.2.2.2) (s0:=s) (us:=[]) h hdd (hd d hdd) (R:=⟨[],1+iv.size,mW ik.k iv.agg,false⟩) (v:=.map (some w.heap.size)) (mY w (.map #[] 0)) ⟨by simp only;omega,by simp,.inr (.inl ⟨(Dg _ _).2.2.2,w.heap.size,#[],0,rfl,heap_alloc_new w _,by simp[MEs],by simp[NQ]⟩)⟩ (λb hb=>by simp[obk]at hb;omega) rfl hq ?_;unfold execOp;rw[ho];rcases hr with rfl|⟨y,k,n,rfl,hy⟩
  ·simp[Instr.makeMap]
  ·simp[Instr.makeMap,hy,run_underlying hu1,asInt,asIntOf]
 ·exact hq.elim
end
section
variable {P:Program}{T:TypeId->Option TI}{W0:World}{M:Own}{G:Gh}{s:St}{a:Act}{w:World}{o:Oper}{K:List Upd->Prop}{Q':Exit->Act->World->Prop}
theorem OB{ag:Bool}{x:AV}{v:Value}{K:List AC->Prop}(hx:AVr G s w x v) (hq:(EU ag x).wp s K):∃cs,K cs/\ACs G s w cs v.cells.toList/\∀(I:Nat->Nat->Prop) (ds:List DV),bo I w ds v.cells.toList->CV I w ag ds v:=by
 unfold EU at hq;split at hq
 ·obtain⟨rfl,hq⟩:=hq;have h0:=J2 hx;have h1:=h0.one;have hc:v.cells= #[v]:=by cases v <;> first|rfl|(simp[Value.oneCell']at h1)
  refine⟨_,hq,?_,λI ds hds=>?_⟩
  ·rw[hc];simp only[ACs];exact⟨v,[],rfl,h0,rfl⟩
  ·rw[hc]at hds
   match ds,hds with
   |[],hds=>simp[bo]at hds
   |[d],hds=>
    simp only[bo]at hds;obtain⟨x,r,e,h2,rfl⟩:=hds;injection e with e _;subst e;exact⟨d,rfl,h2⟩
   |d::e::ds,hds=>
    simp only[bo]at hds;obtain⟨x,r,e,h2,x',r',rfl,_⟩:=hds;simp at e
 ·obtain⟨rfl,hq⟩:=hq;simp only[AVr]at hx;obtain⟨vs,rfl,h2⟩:=hx;exact⟨_,hq,h2,λI ds hds=>⟨vs,rfl,hds⟩⟩
 ·exact hq.elim
theorem Mf{z:Nat}{es:List (List DV)}{x:List DV}(hu:∀e∈es,e.length=z) (hx:x.length=z) (i:Nat):∀e∈es.set i x,e.length=z:=λe hm=>by
 rcases a6C hm with hm|rfl
 ·exact hu e hm
 ·exact hx
theorem XH{z:Nat}{kv:Value}{x:List DV}{es:List (List DV)}(hu:∀e∈es,e.length=z) (hx:1+x.length=z):∀e∈SA kv x es,e.length=z:=by
 unfold SA;split
 ·exact Mf hu (by simp;omega) _
 ·intro e hm;rcases List.mem_append.1 hm with hm|hm
  ·exact hu e hm
  ·simp only[a6b]at hm;subst hm;simp;omega
theorem Bl{w:World}{g:Nat}{o o':Obj}(hh:w.heap[g]?=some o):w.grownBy {w with heap:=w.heap.setIfInBounds g o'} (some g):=
 ⟨rfl,rfl,rfl,by simp,λk _ hk=>(heap_set hh).2 k (λe=>hk (by rw[e]))⟩
end
section
variable {P:Program}{T:TypeId->Option TI}{W0:World}{M:Own}{G:Gh}{s:St}{a:Act}{w:World}{o:Oper}{K:List Upd->Prop}{Q':Exit->Act->World->Prop}
theorem zO(es:Array MapEntry) (j:Nat) (f:MapEntry->MapEntry){m:MapEntry}(hm:es.toList[j]?=some m):(es.modify j f).toList=es.toList.set j (f m):=by
 have hj:j<es.toList.length:=by
  rcases a6y j es.toList.length with h|h
  ·exact h
  ·rw[List.getElem?_eq_none h]at hm;cases hm
 apply List.ext_getElem?;intro i;rw[List.getElem?_set];have h1:(es.modify j f).toList[i]?=(es.modify j f)[i]?:=Array.getElem?_toList;rw[h1,Array.getElem?_modify];have h2:es[i]?=es.toList[i]?:=by simp
 rw[h2];by_cases e:j=i
 ·subst e;simp[hm];have h3:j<es.size:=by simpa using hj
  simp[h3]
 ·simp[e]
theorem Tb{ms:List MapEntry}{c j:Nat}{m m':MapEntry}(h:NQ ms c) (hm:ms[j]?=some m) (hb:m'.born=m.born):NQ (ms.set j m') c:=by
 have hmap:(ms.set j m').map (·.born)=ms.map (·.born):=by
  apply List.ext_getElem?;intro i;rw[List.getElem?_map,List.getElem?_map,List.getElem?_set];by_cases e:j=i
  ·subst e;rw[hm];have hj:j<ms.length:=by
    rcases a6y j ms.length with h|h
    ·exact h
    ·rw[List.getElem?_eq_none h]at hm;cases hm
   simp[hj,hb]
  ·simp[e]
 obtain⟨h1,h2⟩:=h;have h1':(ms.map (·.born)).Pairwise (· < ·):=List.pairwise_map.2 h1;refine⟨?_,λx hx=>?_⟩
 ·rw[<-hmap]at h1';exact List.pairwise_map.1 h1'
 ·have:x.born∈ms.map (·.born):=by rw[<-hmap];exact a6S hx
  obtain⟨y,hy,e⟩:=List.mem_map.1 this;rw[<-e];exact h2 y hy
theorem XI{t kt vt:TypeId}{k:TK}(hm:P.underlying t=some (.map kt vt)) (hK:Oy P kt k){g:Nat}{entries:Array MapEntry}{clock:Nat}(hh:w.heap[g]?=some (.map entries clock)){I:Nat->Nat->Prop}{e:Nat}{b:Bool}{es:List (List DV)}(f1:mKs e=(wid k).getD 1) (f2:mKa e=(wid k).isSome) (f3:mVa e=b)
  (hme:MEs I w e es entries.toList) (hb:NQ entries.toList clock) {kv v:Value} (hkk:KL k kv) (hall:BU k es) {x:List DV} (hcv:CV I w b x v) :
  ∃entries' clock',(Instr.mapUpdate t (.map (some g)) (mZ k kv) v).run P w= .ok () {w with heap:=w.heap.setIfInBounds g (.map entries' clock')}/\MEs I w e (SA kv x es) entries'.toList/\NQ entries'.toList clock':=by
 have hf:=hK.find hkk f1 f2 hme hall w;have hck:=λem=>hK.check hkk w em;cases hidx:CT kv es with
 |none=>
  rw[hidx]at hf;simp only[Option.map_none]at hf;refine⟨entries.push ⟨mZ k kv,v,clock⟩,clock+1,?_,?_,?_⟩
  ·simp[Instr.mapUpdate,run_underlying hm,MapKept.run_getObj_map hh,hck,hf,MapKept.run_setObj_map _ hh]
  ·simp only[SA,hidx,Array.toList_push];exact MEs.app (a0c f1 f2 f3 hkk hcv clock) hme
  ·rw[Array.toList_push];refine⟨List.pairwise_append.2 ⟨hb.1,by simp,λx hx y hy=>?_⟩,λx hx=>?_⟩
   ·simp only[a6b]at hy;subst hy;exact hb.2 x hx
   ·rcases List.mem_append.1 hx with hx|hx
    ·have:=hb.2 x hx;omega
    ·simp only[a6b]at hx;subst hx;exact a7i _
 |some j=>
  rw[hidx]at hf;simp only[a6e]at hf;obtain⟨hj,hsv⟩:=Ow hidx;obtain⟨m,hmj,hM⟩:=hme.get hj;have hmem:es.getD j []∈es:=by rw[List.getD_eq_getElem?_getD,List.getElem?_eq_getElem hj];exact a5V hj
  obtain⟨k1,k2,_⟩:=Wo f1 f2 hM (hall _ hmem);have hkey:m.key=mZ k kv:=by rw[k1,hK.same hkk k2 hsv]
  have hold:((entries[0+j]?).map (·.key)).getD (mZ k kv)=mZ k kv:=by
   have h2:entries[0+j]?=entries.toList[j]?:=by simp
   rw[h2,hmj];simp[hkey]
  refine⟨entries.modify (0+j) λe=>{e with key:=mZ k kv,val:=v},clock,?_,?_,?_⟩
  ·simp only[Instr.mapUpdate,run_underlying hm,MapKept.run_getObj_map hh,hck,hf,MapKept.run_setObj_map _ hh,Sem.run_bind,Result.andThen_ok,hold,hK.stays hkk]
  ·rw[a6j,zO entries j _ hmj];simp only[SA,hidx];exact MEs.set (a0c f1 f2 f3 hkk hcv m.born) j hme
  ·rw[a6j,zO entries j _ hmj];exact Tb hb hmj rfl
theorem Fe{g:Nat}{o o':Obj}(hh:w.heap[g]?=some o):w.grownBy {w with heap:=w.heap.setIfInBounds g o'} (some g)/\({w with heap:=w.heap.setIfInBounds g o'}:World).heap[g]?=some o':=
 ⟨Bl hh,(heap_set hh).1⟩
theorem a0d{t kt vt:TypeId}{ik iv:TI}{x y z:Operand}(ho:o.op= .mapUpdate t x y z) (hdst:o.dst=none) (hu1:P.underlying t=some (.map kt vt)) (hTk:Oy P kt ik.k){kv:Value}(hkv:a.eval y=mZ ik.k kv) (hL:(wid ik.k=none->KK ik.k kv)->KL ik.k kv) (h:Rel W0 M G s a w){m:AV}{cs:List AC}(hm:AVr G s w m (a.eval x)) (hcs:ACs G s w cs (a.eval z).cells.toList)
  (hcv0:∀(I:Nat->Nat->Prop) (ds:List DV),bo I w ds (a.eval z).cells.toList->CV I w iv.agg ds (a.eval z)) (hq:(ZV ik iv kv cs m).wp s K):pK P W0 M s o a w K Q':=by
 have hput:a.put o.dst undef=a:=by rw[hdst];rfl
 unfold ZV at hq;split at hq
 ·rename_i id ver;rw[Q.wp_bind]at hq;obtain⟨d,hq1,hdl,hds⟩:=sN hcs hq;rw[Q.wp_bind]at hq1;obtain⟨us,G',hq2,hR',hE,hf,hfrz,hb',hr',hfr⟩:=qE h hq1;simp only[Q.wp]at hq2;split at hq2
  ·rename_i R hR;obtain⟨⟨e1,e2,e3,e4,hnot,hdi,hkq,hall⟩,hq3⟩:=hq2;have hm':=J2 hm;simp only[ACr]at hm';have hv:=hm'.2.2 e1 (by rw[hR];rfl);have hcv:=hcv0 G'.I d.1 (hds G'.I hE.I hf);obtain⟨fr,hR1,_⟩:=(hfrz.2.2.2 id).2.2 R hR;have hfr0:fr=false:=by
    cases fr with
    |false=>rfl
    |true=>
     rcases hfr id _ hR1 rfl with⟨R',h1,h2⟩|h1
     ·rw[hR]at h1;injection h1 with h1;subst h1;rw[e4]at h2;cases h2
     ·exact(hnot h1).elim
   subst hfr0;have hver:=(hfrz.2.2.2 id).1;obtain⟨f1,f2,f3,f4,f5⟩:=Dg ik.k iv.agg;rw[<-e2]at f1 f2 f3 f4 f5;obtain⟨g,entries,clock,hg,hh,hme,hbn,hz,hlen⟩:=hR'.mem.map_at hR1 f4 f5;obtain⟨en',cl',hrun,hme',hbn'⟩:=XI hu1 hTk hh f1 f2 f3 hme hbn (hL hkq) hall hcv;obtain⟨hgr,hnew⟩:=Fe (o':=.map en' cl') hh;obtain⟨m2,e5⟩:=hR'.mem.setRow hR1 rfl (show R.e<qD by rw[e2];exact a0b _ _) f5.2 (g:=g) (by rw[hg];rfl) hgr (es':=SA kv d.1 R.es) (λhkp=>⟨hz,XH hlen (by simp only;omega),.inr (.inl ⟨⟨f4,f5⟩,g,en',cl',hg,hnew,hme'.mono (λ_ _ h=>h) hkp,hbn'⟩)⟩);rw[hver]at m2 e5;have hex:(execOp a.eval o).run P w= .ok .skip {w with heap:=w.heap.setIfInBounds g (.map en' cl')}:=by
    unfold execOp;rw[ho];have hv':a.eval x= .map (some g):=by rw[hv,<-hr',hg]
    simp only[Sem.run_bind,hv',hkv,hrun,Result.andThen_ok];rfl
   refine Dc hex ⟨_,hq3,G',?_⟩;rw[hput,St.app_append];exact hR'.mem' e5 m2 rfl rfl
  ·exact hq2.elim
 ·exact hq.elim
theorem Ff{t:TypeId}{x y z:Operand}(ho:o.op= .mapUpdate t x y z) (hdst:o.dst=none) (hT:∀t i,T t=some i->TOk P t i) (h:Rel W0 M G s a w)
  (hq:((tq T t).bind λi=>(ev x).bind λm=>(ev y).bind λk=>(ev z).bind λx=>match i.k with
   |.map kt vt=>(tq T kt).bind λik=>(tq T vt).bind λiv=>(Wk T ik k).bind λkv=>(EU iv.agg x).bind λcs=>ZV ik iv kv cs m
   |_=>.fail).wp s K):pK P W0 M s o a w K Q':=by
 simp only[Q.wp_bind]at hq;obtain⟨i,hi,hq⟩:=jo hq;obtain⟨d1,hu1,hk1⟩:=(hT t i hi).und;obtain⟨m,hq,hm⟩:=eW h hq;obtain⟨k,hq,hk⟩:=eW h hq;obtain⟨u,hq,hu⟩:=eW h hq;split at hq
 ·rename_i kt vt hkk;rw[hkk]at hk1;simp only at hk1;subst hk1;simp only[Q.wp_bind]at hq;obtain⟨ik,hik,hq⟩:=jo hq;obtain⟨iv,hiv,hq⟩:=jo hq;obtain⟨kv,hq,hkv,hKO,hL⟩:=XG hT (hT kt ik hik) hk hq;obtain⟨cs,hq,hcs,hcv0⟩:=OB hu hq;exact a0d ho hdst hu1 hKO hkv hL h hm hcs hcv0 hq
 ·exact hq.elim
end
section
variable {P:Program}{T:TypeId->Option TI}{W0:World}{M:Own}{G:Gh}{s:St}{a:Act}{w:World}{o:Oper}
theorem OP(h:Rel W0 M G s a w){x:AV}{v:Value}{K:Nat->Prop}(hx:AVr G s w x v) (hq:(CZ x).wp s K):∃g entries clock,v= .map (some g)/\w.heap[g]?=some (.map entries clock)/\K entries.size:=by
 unfold CZ at hq;split at hq
 ·rename_i id ver;simp only[Q.wp]at hq;split at hq
  ·rename_i R hR;obtain⟨⟨e1,e2,e3⟩,hq⟩:=hq;have hx':=J2 hx;simp only[ACr]at hx';obtain rfl:=hx'.2.2 e1 (by rw[hR];rfl);obtain⟨g,entries,clock,hg,hh,hme,_⟩:=h.mem.map_at hR e2 e3;refine⟨g,entries,clock,hg,hh,?_⟩;rw[<-a59,hme.len];exact hq
  ·exact hq.elim
 ·exact hq.elim
theorem Mo{t kt vt:TypeId}{d:TypeDesc}(hd:d= .map kt vt) (hu:P.underlying t=some d) (ty:TypeId){g:Nat}{entries:Array MapEntry}{clock:Nat}(hh:w.heap[g]?=some (.map entries clock)) :
  (Builtin.len_ #[t] ty #[.map (some g)]).run P w= .ok (.int .i64 (entries.size:Int)) w:=by
 subst hd;simp[Builtin.len_,run_underlying hu,MapKept.run_getObj_map hh,goInt]
end
end Go.Proofs.YtjbgdpjgfjnkbaaGreatDoor.Am
namespace Go.Proofs.YtjbgdpjgfjnkbaaGreatDoor.Am
open Go
section
variable {P:Program}{T:TypeId->Option TI}{o:Oper}{W0:World}{M:Own}{G:Gh}{s:St}{a:Act}{w:World}{K:List Upd->Prop}{Q':Exit->Act->World->Prop}
theorem HC{fn:Fn}{fs cs:Array Operand}(ho:o.op= .makeFunc fn fs cs) (h:Rel W0 M G s a w) (hd:∀d,o.dst=some d->d<s.n)
  (hq:((Q.ofOpt o.dst).bind λd=>match fn,fs.toList,cs.toList with
  |.func f,[],[]=>.ret [.t d ⟨true,.c (.d (.v (.func (.func f) #[] #[])))⟩]
  |.func f,[],[.tmp k]=>(ev (.tmp k)).bind λv=>a2U d k f v
  |_,_,_=>.fail).wp s K):pK P W0 M s o a w K Q':=by
 rw[Q.wp_bind]at hq;obtain⟨d,hdd,hq1⟩:=V7 hq;clear hq;have hq:=hq1;clear hq1;have hrun:(execOp a.eval o).run P w= .ok (.value (.func fn (fs.map a.eval) (cs.map a.eval))) w:=by
  unfold execOp;rw[ho];rfl
 have hdn:=hd d hdd;split at hq
 ·rename_i f hfs hcs;have e1:fs= #[]:=Array.toList_inj.1 hfs;have e2:cs= #[]:=Array.toList_inj.1 hcs;subst e1;subst e2;refine eV hrun ⟨_,hq,G,?_⟩;rw[hdd];refine h.put hdn ⟨λ_=>?_,λe=>by cases e⟩;simp only[AVr,ACr,DVr];exact⟨by simp,rfl⟩
 ·rename_i f k hfs hcs;have e1:fs= #[]:=Array.toList_inj.1 hfs;have e2:cs= #[.tmp k]:=Array.toList_inj.1 hcs;subst e1;subst e2;rw[Q.wp_bind]at hq;obtain⟨v,hq,hv⟩:=eW h hq;have hev:a.eval (.tmp k)=a.tmps.getD k undef:=rfl;unfold a2U at hq;split at hq
  ·rename_i id ver off;simp only[Q.wp]at hq;split at hq
   ·rename_i bs hbs;rw[Q.wp_bind]at hq;obtain⟨I',hm,E,cur,ty,hh,hac,hfix⟩:=h.mem.give hbs;obtain⟨y,hq,hyl,hyv⟩:=sN hac hq;obtain⟨⟨h0,h1,h2,h3⟩,hq⟩:=hq;have hpv:=lc h hv h1 (by rw[hbs];rfl);have hR:=h.mem' E hm rfl rfl;have hdv:=hyv I' E.I (λid hid=>by rw[h2]at hid;cases hid);rw[h0]at hpv;have hcl:∀j u,cur.toList[j]?=some u->w.cell? (Addr.add ⟨G.bx id,0,none⟩ j)=some u/\I' (G.bx id) (0+j):=λj u hj=>by
     refine⟨?_,?_⟩
     ·rw[du _ _ rfl,a6j];simp only[World.cell?,hh];simpa using hj
     ·rw[a6j];refine hfix _ ?_;have:=(List.getElem?_eq_some_iff.1 hj).1;simpa using this
    have hk:k<s.n:=by
     rw[<-h.sz];refine Nat.lt_of_not_le λhle=>?_;rw[hev]at hpv;have:a.tmps.getD k undef=undef:=by simp[Array.getD,Nat.not_lt.2 hle]
     rw[this]at hpv;cases hpv
    have hR2:=hR.reT (k:=k) hk (x:=.c (.eptr y.1)) (by
     simp only[AVr,ACr];exact⟨_,_,hpv,hdv,hcl⟩)
    refine eV hrun ⟨_,hq,⟨I',G.bx,G.rw,G.st,G.ex⟩,?_⟩;show Rel W0 M ⟨I',G.bx,G.rw,G.st,G.ex⟩ (((s.setB id ⟨(s.b id).ver,none⟩).setT k _).setT d _) (a.put o.dst _) w;rw[hdd];refine hR2.put (show d<s.n from hdn) ⟨λ_=>?_,λe=>by cases e⟩;simp only[AVr,ACr,DVr];refine⟨⟨G.bx id,0,none⟩,cur.toList,?_,hdv,hcl⟩;simp[hpv]
   ·exact hq.elim
  ·rename_i ds;refine eV hrun ⟨_,hq,G,?_⟩;rw[hdd];refine h.put hdn ⟨λ_=>?_,λe=>by cases e⟩;simp only[AVr,ACr,DVr]at hv⊢;obtain⟨ad,xs,h1,h2,h3⟩:=hv;refine⟨ad,xs,?_,h2,h3⟩;simp[h1]
  ·exact hq.elim
 ·exact hq.elim
end
end Go.Proofs.YtjbgdpjgfjnkbaaGreatDoor.Am
