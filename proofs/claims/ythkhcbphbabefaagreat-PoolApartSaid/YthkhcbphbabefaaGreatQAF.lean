/- Texts laid together: PSortR, PSlab, PPlace, PNum, PSameI, PExp, PRefP, PCfg, PSend, PSendJ, PHeap, PHeapJ, PPool, PPool2. No conditions. -/
import Derived.Test.YthkhcbphbabefaaGreatFAll
import Derived.KernelRfl
import Derived.Test.YthkhcbphbabefaaGreatQAE
namespace Go.Proofs.YthkhcbphbabefaaGreat.Am
open Go
def Il(x y:Int):Int:=if x<y then -1 else if y<x then 1 else 0
def cE(a b:o8):Int:=if Il b.2.2.2.2.2.1 a.2.2.2.2.2.1=0 then Il a.2.2.2.2.2.2.2.2.1 b.2.2.2.2.2.2.2.2.1 else Il b.2.2.2.2.2.1 a.2.2.2.2.2.1
theorem Bk{a b:o8}:ltc cE a b=true↔b.2.2.2.2.2.1<a.2.2.2.2.2.1\/(a.2.2.2.2.2.1=b.2.2.2.2.2.1/\a.2.2.2.2.2.2.2.2.1<b.2.2.2.2.2.2.2.2.1):=by
 unfold ltc cE Il;rw[PX];generalize a.2.2.2.2.2.1=x;generalize b.2.2.2.2.2.1=y;generalize a.2.2.2.2.2.2.2.2.1=p;generalize b.2.2.2.2.2.2.2.2.1=q;by_cases h1:y<x
 ·simp[h1]
 ·by_cases h2:x<y
  ·simp[h1,h2];omega
  ·simp only[h1,h2,Qr,Qy];by_cases h3:p<q
   ·simp[h3];omega
   ·by_cases h4:q<p <;> simp[h3,h4]
theorem DY{a b:o8}:ltc cE a b=false↔¬(b.2.2.2.2.2.1<a.2.2.2.2.2.1\/(a.2.2.2.2.2.1=b.2.2.2.2.2.1/\a.2.2.2.2.2.2.2.2.1<b.2.2.2.2.2.2.2.2.1)):=by
 rw[<-Bk,RY]
def DZ(l:List o8):List o8:=jH (ltc cE) l
def Im(e:o8):Prop:=e.2.1.length<=140737488351232/\e.2.2.2.2.2.2.2.2.2.length*8<=140737488351232
theorem rm{u:U}{by_:Nat}{l:List u.den}(h:l.length*by_<=140737488351232) (hb:1<=by_):bP by_ l=some l:=by
 unfold bP;have h1:l.length*1<=l.length*by_:=Nat.mul_le_mul_left _ hb;rw[Qo,PT (by unfold LIM LEN;omega)];rfl
theorem KO{n:Nat}(h:n<=977343669105):n*144<=LIM/\n<=LEN:=by unfold LIM LEN;omega
theorem mm{e:o8}(h:Im e):cz e=some e:=by
 have h1:au e.2.1=some e.2.1:=rm (u:=.byte) (by_:=1) (by rw[Nat.mul_one];exact h.1) (by omega);have h2:bd e.2.2.2.2.2.2.2.2.2=some e.2.2.2.2.2.2.2.2.2:=rm (u:=.int .i64) (by_:=8) h.2 (by omega);simp only[cz,h1,h2,PS]
abbrev ED:=o8
abbrev SlD:=A1
abbrev HD:=Int×Int
def e0:ED:=((Vector.replicate 32 (0:UInt8)),[],[],(0:Int),(0:Int),(0:Int),(0:Int),(0:Int),(0:Int),[])
def qf(e:ED):Nat:=e.2.1.length
def jI(s:SlD):Nat:=s.1.2.1.length
def ro(sl:List SlD):Int->List Nat->Prop
 |f,[]=>f= -1
 |f,i::fl=>f=(i:Int)/\i∉fl/\∃u nx,sl[i]?=some (e0,u,false,nx)/\ro sl nx fl
theorem rq{sl:List SlD}{i:Nat}{x:SlD}:∀{fl:List Nat}{f:Int},ro sl f fl->i∉fl->ro (sl.set i x) f fl
 |[],_,h,_=>h
 |j::fl,f,⟨h1,h2,u,nx,h3,h4⟩,hi=>by
  simp only[QY,not_or]at hi;exact⟨h1,h2,u,nx,by rw[List.getElem?_set_ne hi.1];exact h3,rq h4 hi.2⟩
theorem Bm{α:Type}(f:α->Nat) (x:α):∀{l:List α}{i:Nat}{y:α},l[i]?=some y->((l.set i x).map f).sum+f y=(l.map f).sum+f x
 |[],_,_,h=>by cases h
 |a::l,0,y,h=>by
  injection h with h;subst h;simp only[Rx,PQ,Sq];omega
 |a::l,i+1,y,h=>by
  have ih:=Bm f x (l:=l) (i:=i) (y:=y) (by simpa using h);simp only[Ry,PQ,Sq];omega
structure SJ (c:Nat) (size:Int) (sl:List SlD) (free:Int) (live:List (HD×ED)):Prop where
 size:size=((live.length:Nat):Int)
 at_:∀x∈live,∃(i:Nat) (nx:Int),x.1.1=(i:Int)/\sl[i]?=some (x.2,x.1.2,true,nx)
 uniq:(live.map λx=>x.1.1).Nodup
 fr:∃fl,ro sl free fl
 bytes:(sl.map jI).sum=(live.map λx=>qf x.2).sum
 len:sl.length<=c
 cnt:live.length<=c
 ents:∀x∈live,Im x.2/\qf x.2<=1000
theorem sj0:SJ 0 0 [] (-1) []:=⟨rfl,by simp,QM,⟨[],rfl⟩,rfl,PW _,PW _,by simp⟩
theorem SJ.le{c d:Nat}{size:Int}{sl:List SlD}{free:Int}{live:List (HD×ED)}(h:SJ c size sl free live) (hd:c<=d):SJ d size sl free live:={h with len:=Qt h.len hd,cnt:=Qt h.cnt hd}
theorem SJ.perm{c:Nat}{size:Int}{sl:List SlD}{free:Int}{live live':List (HD×ED)}(h:SJ c size sl free live) (hp:live.Perm live'):SJ c size sl free live' where
 size:=by rw[<-hp.length_eq];exact h.size
 at_ x hx:=h.at_ x (hp.mem_iff.2 hx)
 uniq:=(hp.map _).nodup_iff.1 h.uniq
 fr:=h.fr
 bytes:=by rw[h.bytes];exact(hp.map _).sum_nat
 len:=h.len
 cnt:=by rw[<-hp.length_eq];exact h.cnt
 ents x hx:=h.ents x (hp.mem_iff.2 hx)
theorem SJ.put{c:Nat}{size:Int}{sl:List SlD}{free free':Int}{live:List (HD×ED)}(h:SJ c size sl free live){i:Nat}{u nx:Int}{fl:List Nat}(hi:sl[i]?=some (e0,u,false,nx)) (hfl:ro sl free' fl) (hn:i∉fl){e:ED}(he:Im e/\qf e<=1000) :
  SJ (c+1) (size+1) (sl.set i (e,u,true,nx)) free' ((((i:Int),u),e)::live):=by
 have hil:=(List.getElem?_eq_some_iff.1 hi).1;have hne:∀x∈live,∀(j:Nat) (n:Int),sl[j]?=some (x.2,x.1.2,true,n)->j≠i:=λx _ j n hj e=>by
  subst e;rw[hi]at hj;injection hj with hj;injection hj with _ hj;injection hj with _ hj;injection hj with hj;cases hj
 refine⟨?_,λx hx=>?_,?_,⟨fl,rq hfl hn⟩,?_,?_,?_,λx hx=>?_⟩
 ·rw[h.size,Qg];omega
 ·rcases List.mem_cons.1 hx with rfl|hx
  ·exact⟨i,nx,rfl,List.getElem?_set_self hil⟩
  ·obtain⟨j,n,h1,h2⟩:=h.at_ x hx;exact⟨j,n,h1,by rw[List.getElem?_set_ne (hne x hx j n h2).symm];exact h2⟩
 ·rw[PQ,Qz];refine⟨λhm=>?_,h.uniq⟩;obtain⟨x,hx,e1⟩:=List.mem_map.1 hm;obtain⟨j,n,h1,h2⟩:=h.at_ x hx;have h3:(j:Int)=(i:Int):=h1.symm.trans e1;exact hne x hx j n h2 (by omega)
 ·have h1:=Bm jI (e,u,true,nx) hi;have h2:jI (e0,u,false,nx)=0:=rfl;have h3:jI (e,u,true,nx)=qf e:=rfl;have h4:=h.bytes;rw[PQ,Sq];rw[h2,h3]at h1;show _=qf e+_;omega
 ·rw[QW];have:=h.len;omega
 ·rw[Qg];have:=h.cnt;omega
 ·rcases List.mem_cons.1 hx with rfl|hx
  ·exact he
  ·exact h.ents x hx
theorem SJ.app{c:Nat}{size:Int}{sl:List SlD}{live:List (HD×ED)}(h:SJ c size sl (-1) live):SJ (c+1) size (sl++[(e0,0,false,0)]) (-1) live where
 size:=h.size
 at_ x hx:=by
  obtain⟨j,n,h1,h2⟩:=h.at_ x hx;exact⟨j,n,h1,by rw[List.getElem?_append_left (List.getElem?_eq_some_iff.1 h2).1];exact h2⟩
 uniq:=h.uniq
 fr:=⟨[],rfl⟩
 bytes:=by
  rw[PV,So,h.bytes];rfl
 len:=by rw[PU];have:=h.len;simp;omega
 cnt:=SZ h.cnt
 ents:=h.ents
theorem Ed{α:Type}{l:List α}{i:Nat}(h:i<l.length) (x d:α):(l.set i x).getD i d=x:=by
 rw[List.getD_eq_getElem?_getD,List.getElem?_set_self h];rfl
theorem Fx{sl:List SlD}{i:Nat}{u nx:Int}(hi:sl[i]?=some (e0,u,false,nx)){e:ED}(he:Im e) (most size free:Int) (h0:HD):M7 (i:Int) most size free e h0 sl=some (most,D1 (size+1),sl.set i (e,u,true,nx),free,((i:Int),u),true):=by
 have hil:=(List.getElem?_eq_some_iff.1 hi).1;have g1:List.getD sl i A5=(e0,u,false,nx):=by rw[List.getD_eq_getElem?_getD,hi];rfl
 have g2:∀x,(sl.set i x).getD i A5=x:=λx=>Ed hil x _;refine iZ.1 ?_;unfold M7;rw[mm he,D6,C6];simp only[M1,C6,PY,QW,g1,g2,List.set_set,PX];refine⟨by omega,by omega,by omega,by omega,by omega,by omega,trivial⟩
theorem SJ.add{c:Nat}{size:Int}{sl:List SlD}{free:Int}{live:List (HD×ED)}(h:SJ c size sl free live){most:Int}(hm:size≠most) (hc:c<=100000){e:ED}(he:Im e/\qf e<=1000) :
  ∃sl' free' hd,Z3 most size sl free e=some (most,size+1,sl',free',hd,true)/\SJ (c+2) (size+1) sl' free' ((hd,e)::live):=by
 have hs:=h.size;have hcnt:=h.cnt;have hlen:=h.len;have hw:D1 (size+1)=size+1:=I4 (by omega) (by omega);obtain⟨fl,hfl⟩:=h.fr;unfold Z3;rw[Qw hm,dV];cases fl with
 |nil=>
  have hfl:free= -1:=hfl;subst hfl;have hz:(sl++[(e0,(0:Int),false,(0:Int))])[sl.length]?=some (e0,0,false,0):=by simp
  rw[PT (by omega),aZ,PT (by unfold LIM LEN;omega),aC];have ha:=Fx hz he.1 most size (-1) ((0:Int),(0:Int));refine⟨_,_,_,ha.trans (by rw[hw]),?_⟩;exact h.app.put hz (fl:=[]) rfl (by simp) he
 |cons i fl=>
  obtain⟨rfl,h2,u,nx,h3,h4⟩:=hfl;have hil:=(List.getElem?_eq_some_iff.1 h3).1;have g1:List.getD sl i A5=(e0,u,false,nx):=by rw[List.getD_eq_getElem?_getD,h3];rfl
  rw[Qw (by omega),dV,PT (by omega),aC,PY,PT hil,aC,g1];have ha:=Fx h3 he.1 most size nx ((0:Int),(0:Int));refine⟨_,_,_,ha.trans (by rw[hw]),?_⟩;exact(h.put h3 h4 h2 he).le (by omega)
section
variable {c:Nat}{size:Int}{sl:List SlD}{free:Int}{live:List (HD×ED)}
theorem SJ.has(h:SJ c size sl free live) (most:Int){x:HD×ED}(hx:x∈live):Z5 most size sl free x.1=some (most,size,sl,free,true):=by
 obtain⟨i,nx,h1,h2⟩:=h.at_ x hx;have hil:=(List.getElem?_eq_some_iff.1 h2).1;have g1:List.getD sl i A5=(x.2,x.1.2,true,nx):=by rw[List.getD_eq_getElem?_getD,h2];rfl
 unfold Z5;rw[h1,PY,g1,PT (by omega),aZ,PT (by omega),aZ,PT (by omega),aC,PT hil,aC,aZ,aC,aC,PT rfl]
theorem SJ.get(h:SJ c size sl free live) (most:Int){x:HD×ED}(hx:x∈live):N9 most size sl free x.1=some (most,size,sl,free,x.2,true):=by
 obtain⟨i,nx,h1,h2⟩:=h.at_ x hx;have hil:=(List.getElem?_eq_some_iff.1 h2).1;have g1:List.getD sl i A5=(x.2,x.1.2,true,nx):=by rw[List.getD_eq_getElem?_getD,h2];rfl
 unfold N9;rw[h.has most hx,PS];dsimp only;rw[RE,dV,h1,PY,PT (by omega),aC,PT hil,aC,g1,mm (h.ents x hx).1,PS]
theorem Bn{α:Type}(f:α->Nat) (B:Nat):∀(l:List α),(∀x∈l,f x<=B)->(l.map f).sum<=l.length*B
 |[],_=>by simp
 |a::l,h=>by
  have ih:=Bn f B l λx hx=>h x (by simp[hx]);have h1:=h a (by simp);rw[PQ,Sq,Qg,QD];omega
theorem pM{α:Type}(f:α->Nat):∀(l:List α) (i:Nat),((l.take i).map f).sum<=(l.map f).sum
 |[],_=>by simp
 |a::l,0=>by simp
 |a::l,i+1=>by
  have ih:=pM f l i;rw[QS,PQ,PQ,Sq,Sq];omega
theorem pN{sl:List SlD}{most size free:Int}(hl:sl.length<=1000000) (hb:(sl.map jI).sum<=4611686018427387904):H5 most size sl free=some (most,size,sl,free,(((sl.map jI).sum:Nat):Int)):=by
 refine iZ.1 ?_;unfold H5 bc;refine eI sl (λi (j:Nat)=>(((j:Nat):Int),((sl.length:Nat):Int),((i:Nat):Int),most,size,free,sl)) (λi j=>j=((sl.take i).map jI).sum) (λi j hi hinv=>?_) (λj hinv=>?_) (b0:=0) (by simp) (by omega)
 ·have h1:=pM jI sl (i+1);have h2:((sl.take (i+1)).map jI).sum=j+jI sl[i]:=by rw[cu hi,PV,So,hinv];simp
  simp only[O4,Y4 (i:=i) (by omega),K6,M1,C6,F9,E5,PX,Qa,PY,eJ hi];refine⟨λ_=>⟨by omega,hi,j+jI sl[i],?_,h2.symm⟩,λh=>by omega⟩;have:D1 ((j:Int)+((sl[i].1.2.1.length:Nat):Int))=((j+jI sl[i]:Nat):Int):=by
   show D1 ((j:Int)+((jI sl[i]:Nat):Int))=_;rw[I4] <;> omega
  rw[this]
 ·rw[Ro]at hinv;simp only[O4,K6,M1,C6,F9,E5,PX,Qa,PY];exact⟨λh=>by omega,λ_=>by rw[hinv]⟩
theorem SJ.bytes_ok(h:SJ c size sl free live) (most:Int) (hc:c<=100000):H5 most size sl free=some (most,size,sl,free,(((live.map λx=>qf x.2).sum:Nat):Int))/\(live.map λx=>qf x.2).sum<=100000000:=by
 have hb:=Bn (λx:HD×ED=>qf x.2) 1000 live λx hx=>(h.ents x hx).2;have hcnt:=h.cnt;have:live.length*1000<=100000*1000:=QA _ (by omega);have hs:=h.bytes;have hlen:=h.len;refine⟨?_,by omega⟩;rw[pN (by omega) (by omega),hs]
end
theorem Ee{x n:Int}(hn:1<=n) (hn2:n<=4611686018427387904):Ok (R1 x n) λr=>0<=r/\r<n/\r=x%n:=by
 have h1:=Int.tmod_eq_emod (a:=x) (b:=n);have h2:=Int.emod_nonneg x (show n≠0 by omega);have h3:=Int.emod_lt_of_pos x (show 0<n by omega);have h4:((n.natAbs:Nat):Int)=n:=by omega
 simp only[R1,K6,M1,C6,PX,Qa,Qf];refine⟨by omega,λh=>?_,λh=>?_⟩
 ·rw[I4]
  ·split at h1 <;> omega
  ·split at h1 <;> omega
  ·split at h1 <;> omega
 ·split at h1 <;> omega
theorem HB{s:A7}{n:Int}(hn:1<=n) (hn2:n<=4611686018427387904) (h0:0<=s.2) (h1:s.2<4611686018427387904):Ok (B5 s n) λr=>r.1.1=s.1/\r.1.2=s.2+1/\0<=r.2/\r.2<n:=by
 have hw:D1 (s.2+1)=s.2+1:=I4 (by omega) (by omega);have hp:∀x,Ok (E2 n x s) λr=>r.1.1=s.1/\r.1.2=s.2+1/\0<=r.2/\r.2<n:=λx=>by
  unfold E2;rw[D6];refine(Ee hn hn2).mono λr hr=>?_;rw[C6,hw];exact⟨rfl,rfl,hr.1,hr.2.1⟩
 simp only[B5,K6,M1,PX,Qa];exact⟨λh=>⟨⟨h0,h⟩,hp _⟩,λ_=>hp _⟩
def Bo(L:List Int) (k:Int) (s:A7):Prop:=s.1=L/\0<=s.2/\s.2<=k
theorem fw{L:List Int}{k:Int}{s:A7}{n:Int}(hs:Bo L k s) (hn:1<=n) (hn2:n<=4611686018427387904) (hk:k<4611686018427387904):Ok (B5 s n) λr=>Bo L (k+1) r.1/\s.2<r.1.2/\0<=r.2/\r.2<n:=by
 obtain⟨h1,h2,h3⟩:=hs;refine(HB hn hn2 h2 (by omega)).mono λr hr=>?_;obtain⟨a1,a2,a3,a4⟩:=hr;exact⟨⟨a1.trans h1,by omega,by omega⟩,by omega,a3,a4⟩
theorem Bo.le{L:List Int}{k m:Int}{s:A7}(h:Bo L k s) (hkm:k<=m):Bo L m s:=⟨h.1,h.2.1,by have:=h.2.2;omega⟩
def KP(L:List Int):A7:=(L,0)
theorem HC(L:List Int):aR L=some (KP L):=rfl
theorem pO{l:List Int}(h:l.length<9223372036854775807):N2 l l=some true:=by
 refine iZ.1 ?_;simp only[N2,K6,C6,PX,Qa,Qf,Qj];refine⟨λh=>(h trivial).elim,λ_=>?_⟩;unfold X6;refine eI l (λi (_:Unit)=>(l,l,((l.length:Nat):Int),((i:Nat):Int))) (λ_ _=>True) (λi b hi _=>?_) (λb _=>?_) (b0:=()) trivial (by omega)
 ·simp only[J9,Y4 (i:=i) (by omega),K6,M1,C6,F9,E5,PX,Qa,Qf,Qj,PY];refine⟨λ_=>⟨by omega,by omega,?_⟩,λh=>by omega⟩;simp
 ·simp only[J9,K6,M1,C6,F9,E5,PX,Qa,Qf,Qj,PY];exact⟨λh=>by omega,λ_=>trivial⟩
abbrev W3:=Int×Int×Int
def xE(now then_ limit:Int):Bool:=decide (0<limit)&&(decide (then_<now)&&decide (dX limit<dX (dX now-dX then_)))
theorem HE(a b c:Int):aN a b c=some (xE a b c):=by
 unfold aN xE;cases decide (0<c) <;> cases decide (b<a) <;> rfl
def Ca(b s h t:Int) (w:W3):Bool:=xE h w.2.1 b||xE t w.2.2 s
def Bp(b s h t:Int) (m:List W3):List Int:=(m.filter (Ca b s h t)).map λw=>w.1
def tQ(m:List W3):Prop:=m.Pairwise λa b=>a.1<b.1
theorem Ef(b s h t:Int) (m:List W3):(Bp b s h t m).length<=m.length:=by
 unfold Bp;rw[PR];exact Sb ..
theorem Bq(b s h t:Int) (m:List W3) (w:W3):Bp b s h t (m++[w])=Bp b s h t m++(if Ca b s h t w then [w.1]else []):=by
 unfold Bp;rw[Sr,PV];congr 1;cases he:Ca b s h t w <;> simp[List.filter,he]
theorem nR{m:List W3}(h:tQ m):(B9 m).Pairwise λa b=>a<b:=List.pairwise_map.2 h
theorem tR{m:List W3}(h:tQ m):(B9 m).Nodup:=(nR h).imp λh=>by omega
theorem tS{l m:List W3}(hp:l.Perm m) (h:tQ m):bX (B9 l)=B9 m:=
 bW kR kS pm ((nR h).imp λh=>PT (by omega)) (I6 hp)
structure QJ (n:Nat) (l m:List W3):Prop where
 perm:l.Perm m
 sort:tQ m
 len:m.length<=n
 ids:∀w∈m,-1000<=w.1/\w.1<=1000
theorem QJ.nodup{n:Nat}{l m:List W3}(h:QJ n l m):(B9 l).Nodup:=(I6 h.perm).nodup_iff.2 (tR h.sort)
theorem KQ{n:Nat}{l m:List W3}(hj:QJ n l m) (hn:n<=1000000) (b s h t:Int):M9 b s l h t=some (b,s,l,Bp b s h t m):=by
 have hl:=hj.len;have hnd:=hj.nodup;have hg:cR (B9 l)=true:=PT ⟨hnd,λx hx=>by
  obtain⟨v,hv⟩:=E3.1 hx;have:=hj.ids _ (hj.perm.mem_iff.1 hv);dsimp only at this;omega,by rw[dW,hj.perm.length_eq];unfold LIM;omega⟩
 refine iZ.1 ?_;unfold M9;rw[hg,aC,tS hj.perm hj.sort,dW];unfold X5;refine eI m (λi (acc:List Int)=>(h,t,((m.length:Nat):Int),((i:Nat):Int),b,s,l,acc,B9 m)) (λi acc=>acc=Bp b s h t (m.take i)) (λi acc hi hinv=>?_) (λacc hinv=>?_) (b0:=[]) rfl (by omega)
 ·have hb:=Ef b s h t (m.take i);rw[Qb]at hb;have hs:Bp b s h t (m.take (i+1))=Bp b s h t (m.take i)++(if Ca b s h t m[i]then [m[i].1]else []):=by rw[cu hi,Bq]
  rw[<-hinv]at hb hs;have hk:(B9 m).getD i 0=m[i].1:=by rw[eJ (by rw[dW];exact hi)];simp[B9]
  have hget:Q5 L0 m[i].1 O1 l=m[i].2:=fU Z6 hnd (hj.perm.mem_iff.2 (RK hi));have hkl:=dW m;simp only[J8,HE,Y4 (i:=i) (by omega),K6,M1,D6,C6,F9,E5,PX,Qa,PY,hk,hget];refine⟨λ_=>⟨by omega,by omega,λh1=>⟨⟨by unfold LIM;omega,by unfold LEN;omega⟩,_,rfl,?_⟩,λh1=>⟨λh2=>⟨⟨by unfold LIM;omega,by unfold LEN;omega⟩,_,rfl,?_⟩,λh2=>⟨_,rfl,?_⟩⟩⟩,λh=>by omega⟩
  ·rw[hs,Qx (by simp[Ca,h1])]
  ·rw[hs,Qx (by simp[Ca,h2])]
  ·rw[hs,Ql (by simp[Ca,h1,h2]),PO]
 ·subst hinv;simp only[J8,K6,M1,D6,C6,F9,E5,PX,Qa,PY];exact⟨λh=>by omega,λ_=>by rw[Ro]⟩
def ltW(x:Int) (w:W3):Bool:=decide (w.1<x)
def KR(m:List W3) (x:W3):List W3×Bool:=if x.1∈B9 m then(m,false) else(m.filter (ltW x.1)++[x]++m.filter (λy=> !ltW x.1 y),true)
theorem QJ.has{n:Nat}{l m:List W3}(h:QJ n l m) (id:Int):(aG L0 id l).isSome=decide (id∈B9 m):=by
 have h1:=bj Z6 id l;have h2:=(I6 h.perm).mem_iff (a:=id);cases hb:(aG L0 id l).isSome with
 |true=>exact(PT (h2.1 (h1.1 hb))).symm
 |false=>exact(Qw (λhm=>by rw[h1.2 (h2.2 hm)]at hb;cases hb)).symm
theorem Eg{m:List W3}(hs:tQ m){x:W3}(hx:x.1∉B9 m):tQ (m.filter (ltW x.1)++[x]++m.filter (λy=> !ltW x.1 y)):=by
 have lt1:∀y∈m.filter (ltW x.1),y.1<x.1:=λy hy=>PN (List.mem_filter.1 hy).2;have lt2:∀y∈m.filter (λy=> !ltW x.1 y),x.1<y.1:=λy hy=>by
  obtain⟨h1,h2⟩:=List.mem_filter.1 hy;have h3:¬y.1<x.1:=by simpa [ltW]using h2
  have:y.1≠x.1:=λe=>hx (by rw[<-e];exact E3.2 ⟨y.2,h1⟩);omega
 unfold tQ;rw[Qe,QI,Rw,QZ];refine⟨hs.filter _,⟨lt2,hs.filter _⟩,λa ha b hb=>?_⟩;rcases List.mem_cons.1 hb with rfl|hb
 ·exact lt1 a ha
 ·have:=lt1 a ha;have:=lt2 b hb;omega
theorem QJ.add{n:Nat}{l m:List W3}(h:QJ n l m){x:W3}(hx: -1000<=x.1/\x.1<=1000):∃l',(∀b s,K8 b s l x.1 x.2.1 x.2.2=some (b,s,l',(KR m x).2))/\QJ (n+1) l' (KR m x).1:=by
 have hh:=h.has x.1;unfold KR;by_cases hm:x.1∈B9 m
 ·rw[PT hm]at hh;refine⟨l,λb s=>?_,?_⟩
  ·unfold K8;rw[hh,Qx hm];rfl
  ·rw[Qx hm];exact⟨h.perm,h.sort,SZ h.len,h.ids⟩
 ·rw[Qw hm]at hh;have hml:x.1∉B9 l:=λhl=>hm ((I6 h.perm).mem_iff.1 hl);refine⟨l++[x],λb s=>?_,?_⟩
  ·unfold K8;rw[hh,Ql hm,jb Z6 hml];rfl
  ·rw[Ql hm];have hp:=jd (ltW x.1) m x;refine⟨?_,Eg h.sort hm,by rw[hp.length_eq];simp;exact h.len,λw hw=>?_⟩
   ·refine List.Perm.trans ?_ hp.symm;exact List.Perm.trans (QX (l₁:=l) (l₂:=[x])) (h.perm.cons x)
   ·rcases List.mem_cons.1 (hp.mem_iff.1 hw)with rfl|hw
    ·exact hx
    ·exact h.ids w hw
abbrev KD:=Vector UInt8 32
def bG(l:List ED):Nat:=(l.map qf).sum
def ke(l:List ED) (k:KD):Prop:=∃e∈l,e.1=k
def nS(l:List ED) (n:List UInt8) (q:Int):Prop:=∃e∈l,e.2.2.1=n/\e.2.2.2.1=q
instance (l:List ED) (k:KD):Decidable (ke l k):=by unfold ke;infer_instance
instance (l:List ED) (n:List UInt8) (q:Int):Decidable (nS l n q):=by unfold nS;infer_instance
def mV(c:eu) (l:List ED) (e:ED):List ED×Int:=
 if ke l e.1 then(l,8)else if nS l e.2.2.1 e.2.2.2.1 then(l,9)else if c.1<=(l.length:Int)\/c.2.1<((bG l+qf e:Nat):Int) then(l,24) else(l++[e],0)
def mX(c:eu) (h t:Int) (e:ED):Bool:=xE h e.2.2.2.2.2.2.1 c.2.2.2.2.1||xE t e.2.2.2.2.2.2.2.1 c.2.2.2.2.2.1
def Br(c:eu) (l:List ED) (h t:Int):List KD:=(l.filter (mX c h t)).map (·.1)
def cS(a b:ED):Int:=Il a.2.2.2.1 b.2.2.2.1
theorem Bs{a b:ED}:ltc cS a b=true↔a.2.2.2.1<b.2.2.2.1:=by
 unfold ltc cS Il;rw[PX];split
 ·simp;omega
 ·split <;> simp <;> omega
theorem Eh{a b:ED}:ltc cS a b=false↔¬a.2.2.2.1<b.2.2.2.1:=by rw[<-Bs,RY]
def isN(n:List UInt8) (e:ED):Bool:=decide (e.2.2.1=n)
def xF(l:List ED) (n:List UInt8):List ED:=jH (ltc cS) (l.filter (isN n))
def bnd(c:eu):Nat->Bool
 |0=>decide (1<=c.1/\c.1<=512)
 |1=>decide (1<=c.2.1/\c.2.1<=1048576)
 |2=>decide (1<=c.2.2.1/\c.2.2.1<=4096)
 |3=>decide (0<=c.2.2.2.1/\c.2.2.2.1<=1024)
 |4=>decide (0<=c.2.2.2.2.1/\c.2.2.2.2.1<=1073741824)
 |5=>decide (0<=c.2.2.2.2.2.1/\c.2.2.2.2.2.1<=1073741824)
 |7=>decide (1<=c.2.2.2.2.2.2.2.1/\c.2.2.2.2.2.2.2.1<=1048576)
 |8=>decide (-1<=c.2.2.2.2.2.2.2.2.1/\c.2.2.2.2.2.2.2.2.1<=1125899906842624)
 |10=>decide (0<=c.2.2.2.2.2.2.2.2.2.2.1/\c.2.2.2.2.2.2.2.2.2.2.1<=7)
 |11=>decide (1<=c.2.2.2.2.2.2.2.2.2.2.2/\c.2.2.2.2.2.2.2.2.2.2.2<=8)
 |_=>true
def hU(c:eu):Prop:=(∀i,i<12->bnd c i=true)/\c.2.2.2.2.2.2.2.2.2.2.1<c.2.2.2.2.2.2.2.2.2.2.2
instance (c:eu):Decidable (hU c):=by unfold hU;infer_instance
def KS(c:eu):Prop:=(∀i x,BZ c i=some x-> -9223372036854775808<=x/\x<=9223372036854775807)/\0<=c.2.2.2.2.2.2.2.2.2.1/\c.2.2.2.2.2.2.2.2.2.1<18446744073709551616
theorem Ei{c:eu}{S:Type}{G:S->Option (S⊕Int)}(st:Nat->S) (step:∀i,i<12->G (st i)=if bnd c i=true then some (.inl (st (i+1)))else some (.inr 1)) (stop:G (st 12)=some (.inr (if c.2.2.2.2.2.2.2.2.2.2.1<c.2.2.2.2.2.2.2.2.2.2.2 then 0 else 1))) :
  aH G (st 0)=some (if hU c then 0 else 1):=by
 refine iZ.1 (S2 (λn x=>∃i,i+n=12/\x=st i/\∀j,j<i->bnd c j=true) ?_ (n:=12) ⟨0,rfl,rfl,λj h=>by omega⟩ (by omega));rintro n x ⟨i,hn,rfl,hb⟩;by_cases h:i<12
 ·rw[step i h];by_cases hi:bnd c i=true
  ·rw[Qx hi,C6,F9];refine⟨n-1,by omega,i+1,by omega,rfl,λj hj=>?_⟩;by_cases e:j=i
   ·rw[e];exact hi
   ·exact hb j (by omega)
  ·rw[Ql hi,C6,E5,Ql (λhc=>hi (hc.1 i h))]
 ·have e:i=12:=by omega
  subst e;rw[stop,C6,E5];by_cases hs:c.2.2.2.2.2.2.2.2.2.2.1<c.2.2.2.2.2.2.2.2.2.2.2
  ·rw[Qx hs,Qx ⟨hb,hs⟩]
  ·rw[Ql hs,Ql λhc=>hs hc.2]
def pP(a b:D5):Bool:=if a.2||b.2 then a.2 && !b.2 else decide (a.1<b.1)
theorem Bt(a b:D5):W6 a b=some (pP a b):=by
 unfold W6 Z2 pP;cases a.2 <;> cases b.2 <;> rfl
def mq(r:H4) (v:D5):Bool:= !pP v r.2.1 && !pP r.2.2.1 v
theorem Bu(r:H4) (v:D5):aL r v=some (mq r v):=by
 unfold aL mq;rw[Bt,PS];cases pP v r.2.1
 ·show(W6 r.2.2.1 v).bind _=_;rw[Bt];rfl
 ·rfl
def rowsV:Vector H4 12:= #v[(([109,97,120,45,116,120,115]:List UInt8),(1,false),(512,false),(100,false)),(([109,97,120,45,98,121,116,101,115]:List UInt8),(1,false),(1048576,false),(65536,false)),(([109,97,120,45,116,120,45,98,121,116,101,115]:List UInt8),(1,false),(4096,false),(1024,false)),(([99,97,99,104,101,45,115,105,122,101]:List UInt8),(0,false),(1024,false),(200,false)),(([116,116,108,45,98,108,111,99,107,115]:List UInt8),(0,false),(1073741824,false),(0,false)),(([116,116,108,45,116,105,109,101]:List UInt8),(0,false),(1073741824,false),(0,false)),(([107,101,101,112,45,105,110,118,97,108,105,100]:List UInt8),(0,false),(1,false),(0,false)),(([98,108,111,99,107,45,98,121,116,101,115]:List UInt8),(1,false),(1048576,false),(32768,false)),(([98,108,111,99,107,45,103,97,115]:List UInt8),(0,true),(1125899906842624,false),(0,true)),(([112,114,105,99,101]:List UInt8),(0,false),(18446744073709551615,false),(1,false)),(([115,101,108,102]:List UInt8),(0,false),(7,false),(0,false)),(([110,111,100,101,115]:List UInt8),(1,false),(8,false),(1,false))]
theorem rows_ok:ce=some rowsV:=by kernel_rfl
theorem je{lo hi x:Int}(h0:0<=lo) (hr: -9223372036854775808<=x/\x<=9223372036854775807) (i:Nat) (pr:Int) (kp:Bool):((U7 (some x) i pr kp).2&&(!pP (U7 (some x) i pr kp).1 (lo,false) && !pP (hi,false) (U7 (some x) i pr kp).1))=decide (lo<=x/\x<=hi):=by
 unfold U7;dsimp only;by_cases h1:x < -1
 ·rw[Qx h1,Qw (by omega)];rfl
 ·rw[Ql h1];by_cases h2:x= -1
  ·rw[Qx h2,Qw (by omega)];rfl
  ·rw[Ql h2,jG (n:=x) (by omega) (by omega)];show(true&&(!decide (x<lo) && !decide (hi<x)))=_;rw[Sm,<-decide_not,<-decide_not,<-Bool.decide_and,decide_eq_decide];omega
theorem bM{c:eu}{i:Nat}(h12:i<12) (hb:((U7 (BZ c i) i c.2.2.2.2.2.2.2.2.2.1 c.2.2.2.2.2.2.1).2&&mq (K9 rowsV i Q6) (U7 (BZ c i) i c.2.2.2.2.2.2.2.2.2.1 c.2.2.2.2.2.2.1).1)=bnd c i) :
  H0 rowsV (i:Int) c=if bnd c i=true then some (.inl (rowsV,((i+1:Nat):Int),c))else some (.inr 1):=by
 unfold H0;rw[PT (by omega),aZ,PT (by omega),aC];unfold bm;rw[PT (by omega),aC,PS,PY];rw[Bu,Y4 (i:=i) (by omega)];rw[<-hb];generalize (U7 (BZ c i) i c.2.2.2.2.2.2.2.2.2.1 c.2.2.2.2.2.2.1).2=a;generalize mq (K9 rowsV i Q6) (U7 (BZ c i) i c.2.2.2.2.2.2.2.2.2.1 c.2.2.2.2.2.2.1).1=b;cases a <;> cases b <;> rfl
theorem xG{c:eu}(hr:KS c):∀i:Nat,i<12->H0 rowsV (i:Int) c=if bnd c i=true then some (.inl (rowsV,((i+1:Nat):Int),c))else some (.inr 1)
 |0,h=>bM h (je (by omega) (hr.1 0 _ rfl) _ _ _)
 |1,h=>bM h (je (by omega) (hr.1 1 _ rfl) _ _ _)
 |2,h=>bM h (je (by omega) (hr.1 2 _ rfl) _ _ _)
 |3,h=>bM h (je (by omega) (hr.1 3 _ rfl) _ _ _)
 |4,h=>bM h (je (by omega) (hr.1 4 _ rfl) _ _ _)
 |5,h=>bM h (je (by omega) (hr.1 5 _ rfl) _ _ _)
 |6,h=>bM h (by
  show((U7 none 6 c.2.2.2.2.2.2.2.2.2.1 c.2.2.2.2.2.2.1).2&&mq (K9 rowsV 6 Q6) (U7 none 6 c.2.2.2.2.2.2.2.2.2.1 c.2.2.2.2.2.2.1).1)=true;cases c.2.2.2.2.2.2.1 <;> rfl)
 |7,h=>bM h (je (by omega) (hr.1 7 _ rfl) _ _ _)
 |8,h=>bM h (by
  have hx:=hr.1 8 _ rfl;show((U7 (some c.2.2.2.2.2.2.2.2.1) 8 c.2.2.2.2.2.2.2.2.2.1 c.2.2.2.2.2.2.1).2&&(!pP (U7 (some c.2.2.2.2.2.2.2.2.1) 8 c.2.2.2.2.2.2.2.2.2.1 c.2.2.2.2.2.2.1).1 (0,true) && !pP (1125899906842624,false) (U7 (some c.2.2.2.2.2.2.2.2.1) 8 c.2.2.2.2.2.2.2.2.2.1 c.2.2.2.2.2.2.1).1))=decide (-1<=c.2.2.2.2.2.2.2.2.1/\c.2.2.2.2.2.2.2.2.1<=1125899906842624);generalize c.2.2.2.2.2.2.2.2.1=x at *
  unfold U7;dsimp only;by_cases h1:x < -1
  ·rw[Qx h1,Qw (by omega)];rfl
  ·rw[Ql h1];by_cases h2:x= -1
   ·rw[Qx h2,PT (by omega)];rfl
   ·rw[Ql h2,jG (n:=x) (by omega) (by omega)];show(true&&(true && !decide (1125899906842624<x)))=_;rw[Sm,Sm,<-decide_not,decide_eq_decide];omega)
 |9,h=>bM h (by
  obtain⟨_,h1,h2⟩:=hr;show(true&&(!decide (c.2.2.2.2.2.2.2.2.2.1<0) && !decide (18446744073709551615<c.2.2.2.2.2.2.2.2.2.1)))=true;rw[Qw (by omega),Qw (by omega)];rfl)
 |10,h=>bM h (je (by omega) (hr.1 10 _ rfl) _ _ _)
 |11,h=>bM h (je (by omega) (hr.1 11 _ rfl) _ _ _)
theorem tT{c:eu}(hr:KS c):W7 c=some (if hU c then 0 else 1):=by
 unfold W7 bB;rw[rows_ok,PS];refine Ei (G:=λv=>H0 v.1 v.2.1 v.2.2) (λi=>(rowsV,((i:Nat):Int),c)) (λi h=>xG hr i h) ?_;refine iZ.1 ?_;simp only[H0,X7,K6,M1,D6,C6,N4,PX,Qa,Qf,Qj,PY];refine⟨λh=>by omega,λ_=>⟨λh=>?_,λh=>?_⟩⟩
 ·rw[Ql (by omega)]
 ·rw[Qx (by omega)]
def N6:eu:=(100,65536,1024,200,(0:Int),(0:Int),false,32768,(-1),1,(0:Int),1)
def KT:eu:=((0:Int),(0:Int),(0:Int),(0:Int),(0:Int),(0:Int),false,(0:Int),(0:Int),(0:Int),(0:Int),(0:Int))
def Np:Nat->eu
 |0=>KT
 |i+1=>MC (Np i) i (K9 rowsV i Q6).2.2.2.1 (K9 rowsV i Q6).2.2.2.2
theorem Nq:Np 12=N6:=by kernel_rfl
theorem pQ:S5=some N6:=by
 unfold S5 bR;rw[rows_ok,PS,<-Nq];refine iZ.1 (S2 (λn x=>∃i,i+n=12/\x=(rowsV,((i:Nat):Int),KT,Np i)) ?_ (n:=12) ⟨0,rfl,rfl⟩ (by omega));rintro n x ⟨i,hn,rfl⟩;simp only[ae,cV,Y4 (i:=i) (by omega),K6,M1,D6,C6,F9,E5,PX,Qa,PY];refine⟨λh=>⟨by omega,by omega,n-1,by omega,i+1,by omega,rfl⟩,λh=>?_⟩;have:i=12:=by omega
 rw[this]
theorem pR:S9=some N6:=rfl
theorem pS:hU N6:=⟨by decide,by decide⟩
abbrev R17:=List UInt8×Int×Int
def ltP(q:Int) (p:PlD):Bool:=decide (p.1<q)
def tW(ps:List PlD):Prop:=ps.Pairwise λa b=>a.1<b.1
theorem LB{ps:List PlD}(h:tW ps) (q:Int):Pre (ltP q) ps:=h.imp λhab hb=>PT (by have:=PN hb;omega)
theorem tX{α:Type}{P:α->Bool}{m:List α}(h:Pre P m){i:Nat}(hi:i<m.length):P m[i]=true↔i<m.countP P:=by
 obtain⟨t1,t2⟩:=jc h;constructor
 ·intro hp;have:=Bl h hi hp;have h2:=List.Sublist.countP_le (p:=P) (List.take_sublist (i+1) m);omega
 ·intro hlt;have hm:m[i]∈m.take (m.countP P):=by
   rw[List.mem_take_iff_getElem];exact⟨i,by omega,rfl⟩
  rw[t1]at hm;exact(List.mem_filter.1 hm).2
theorem KU(a b:Int):Ff.F_cmp_Compare_uint64 a b=some (if a<b then -1 else if b<a then 1 else 0):=by
 have hn:∀x,Ff.F_cmp_isNaN_uint64 x=some false:=λx=>by unfold Ff.F_cmp_isNaN_uint64;rw[PT rfl];rfl
 unfold Ff.F_cmp_Compare_uint64;rw[hn,hn,PS,PS,dV,dV];by_cases h:a<b
 ·rw[Qx h,PT h,aZ]
 ·rw[Ql h,Qw h,dV];by_cases k:b<a
  ·rw[Qx k,PT k,aZ]
  ·rw[Ql k,Qw k,dV]
theorem Nr{x:Nat}(h:x<=9223372036854775807):D1 (dX (D1 (x:Int)) / 2^1)=((x / 2:Nat):Int):=by
 rw[I4 (n:=(x:Int)) (by omega) (by omega),jG (by omega) (by omega),I4 (by omega) (by omega)];omega
def kf(ps:List PlD) (q:Int):Bool:=decide (q∈B9 ps)
theorem pU{ps:List PlD}(hs:tW ps){q:Int}:kf ps q=decide ((ps[ps.countP (ltP q)]?).map (·.1)=some q):=by
 unfold kf;rw[decide_eq_decide];constructor
 ·intro h;obtain⟨v,hv⟩:=E3.1 h;obtain⟨j,hj,he⟩:=RJ hv;have h1:¬j<ps.countP (ltP q):=λh=>by
   have:=(tX (LB hs q) hj).2 h;rw[he]at this;have:=PN this;dsimp only at this;omega
  have h2:¬ps.countP (ltP q)<j:=λh=>by
   have h3:=List.pairwise_iff_getElem.1 hs _ j (by omega) hj h;rw[he]at h3;exact Nat.lt_irrefl _ ((tX (LB hs q) (by omega)).1 (PT h3))
  have h3:ps.countP (ltP q)=j:=by omega
  rw[h3,List.getElem?_eq_getElem hj,he];rfl
 ·intro h;obtain⟨p,h1,h2⟩:=Option.map_eq_some_iff.1 h;exact E3.2 ⟨p.2,by rw[<-h2];exact List.mem_of_getElem? h1⟩
theorem wb{ps:List PlD}(hs:tW ps) (hl:ps.length<=1000000) (q:Int):Ff.F_sender_find ps q=some (((ps.countP (ltP q):Nat):Int),kf ps q):=by
 have hc:ps.countP (ltP q)<=ps.length:=List.countP_le_length;refine iZ.1 ?_;unfold Ff.F_sender_find Ff.F_slices_BinarySearchFunc_sender_place_sender_place_uint64_of_sender_find_1;rw[D6];unfold Ff.F_slices_BinarySearchFunc_sender_place_sender_place_uint64_of_sender_find_1_l2s;refine S2 (λn x=>∃lo hi:Nat,x=(ps,q,((ps.length:Nat):Int),((lo:Nat):Int),((hi:Nat):Int))/\lo<=ps.countP (ltP q)/\ps.countP (ltP q)<=hi/\hi<=ps.length/\n=hi-lo) ?_ (n:=ps.length) ⟨0,ps.length,rfl,QE _,hc,PW _,by omega⟩ (by omega);rintro n x ⟨lo,hi,rfl,h1,h2,h3,rfl⟩;unfold Ff.F_slices_BinarySearchFunc_sender_place_sender_place_uint64_of_sender_find_1_l2;dsimp only;rw[K6];refine⟨λhlt=>?_,λhge=>?_⟩
 ·have hlt:=PN hlt;have hm:D1 (dX (D1 ((lo:Int)+(hi:Int))) / 2^1)=(((lo+hi) / 2:Nat):Int):=by
   rw[<-Nr (by omega)];congr 4
  have hml:(lo+hi) / 2<ps.length:=by omega
  have hi2:=tX (LB hs q) hml;have hg:List.getD ps ((lo+hi) / 2) Ff.d_sender_place=ps[(lo+hi) / 2]:=eJ hml _;rw[hm,M1,PY,hg];refine⟨PT (by omega),?_⟩;unfold Ff.F_sender_find_1;rw[KU,PS,PS,K6];unfold ltP at hi2;rw[PX]at hi2;refine⟨λh=>?_,λh=>?_⟩
  ·have h:=PN h;have hl:ps[(lo+hi) / 2].1<q:=by split at h <;> first | assumption | (split at h <;> omega)
   have:=hi2.1 hl;rw[C6,F9,Y4 (by omega)];exact⟨_,by omega,_,hi,rfl,by unfold ltP at *;omega,h2,h3,rfl⟩
  ·have h:=Ss h;have hl:¬ps[(lo+hi) / 2].1<q:=λhl=>by rw[Qx hl]at h;omega
   have:¬(lo+hi) / 2<List.countP (ltP q) ps:=λk=>hl (hi2.2 k);rw[C6,F9];exact⟨_,by omega,lo,_,rfl,h1,by omega,by omega,rfl⟩
 ·have hge:=Ss hge;have hlo:lo=ps.countP (ltP q):=by omega
  rw[N4];unfold Ff.F_slices_BinarySearchFunc_sender_place_sender_place_uint64_of_sender_find_1_c1;rw[K6];refine⟨λhlt=>?_,λhge2=>?_⟩
  ·have hlt:lo<ps.length:=by have:=PN hlt;omega
   have hg:List.getD ps lo Ff.d_sender_place=ps[lo]:=eJ hlt _;rw[M1,PY,hg];refine⟨PT (by omega),?_⟩;unfold Ff.F_sender_find_1;rw[KU,PS,PS,C6,E5,C6,pU hs,<-hlo];have e:decide ((if ps[lo].1<q then -1 else if q<ps[lo].1 then 1 else 0:Int)=0)=decide ((ps[lo]?).map (·.1)=some q):=by
    rw[decide_eq_decide,List.getElem?_eq_getElem hlt];show _↔some ps[lo].1=some q;rw[Option.some_inj];split
    ·omega
    ·split <;> omega
   rw[e]
  ·have hge2:=Ss hge2;rw[C6,E5,C6,pU hs,<-hlo,List.getElem?_eq_none (by omega)];rfl
def ltR(k:List UInt8) (q:Int) (r:R17):Bool:=Op.bytesLess r.1 k||(decide (r.1=k)&&decide (r.2.1<q))
theorem pV{k:List UInt8}{q:Int}{r:R17}:ltR k q r=true↔Op.bytesLess r.1 k=true\/(r.1=k/\r.2.1<q):=by
 simp[ltR]
def jJ(m:List R17):Prop:=m.Pairwise λa b=>ltR b.1 b.2.1 a=true
theorem rt{a b:R17}{k:List UInt8}{q:Int}(h:ltR b.1 b.2.1 a=true) (j:ltR k q b=true):ltR k q a=true:=by
 rw[pV]at *
 rcases h with h|⟨h1,h2⟩ <;> rcases j with j|⟨j1,j2⟩
 ·exact .inl (wa h j)
 ·exact .inl (by rw[<-j1];exact h)
 ·exact .inl (by rw[h1];exact j)
 ·exact .inr ⟨h1.trans j1,by omega⟩
theorem ON{m:List R17}(h:jJ m) (k:List UInt8) (q:Int):Pre (ltR k q) m:=h.imp λhab hb=>rt hab hb
def wc(m:List R17) (k:List UInt8) (q:Int):Prop:=∃r∈m,r.1=k/\r.2.1=q
instance (m:List R17) (k:List UInt8) (q:Int):Decidable (wc m k q):=by unfold wc;infer_instance
def xH(m:List R17) (x:R17):List R17×Bool:=if wc m x.1 x.2.1 then(m,false) else(m.filter (ltR x.1 x.2.1)++[x]++m.filter (λy=> !ltR x.1 x.2.1 y),true)
def ry(k:List UInt8) (q:Int) (r:R17):Bool:=decide (¬(r.1=k/\r.2.1=q))
def xT(m:List R17) (k:List UInt8) (q:Int):List R17×Bool:=if wc m k q then(m.filter (ry k q),true) else(m,false)
theorem Fz{a b:R17}(h:ltR b.1 b.2.1 a=true):¬(a.1=b.1/\a.2.1=b.2.1):=λ⟨h1,h2⟩=>by
 rw[pV]at h;rcases h with h|⟨_,h⟩
 ·rw[h1,jf]at h;cases h
 ·omega
theorem tY{m:List R17}(hs:jJ m){i:Nat}(hi:i<m.length):m.filter (ry m[i].1 m[i].2.1)=m.take i++m.drop (i+1):=by
 have e:m=m.take i++m[i]::m.drop (i+1):=by rw[RZ,Qv]
 have hs':=hs;unfold jJ at hs';rw[e,QI,QZ]at hs';obtain⟨_,⟨h2,_⟩,h3⟩:=hs';generalize hx:m[i]=x at *
 conv=>lhs;rw[e]
 rw[Sr,Rl (by simp[ry]),List.filter_eq_self.2,List.filter_eq_self.2]
 ·intro y hy;exact PT λh=>Fz (h2 y hy) ⟨h.1.symm,h.2.symm⟩
 ·intro y hy;exact PT (Fz (h3 y hy x (by simp)))
def cL(k:List UInt8) (m:List R17):List PlD:=(m.filter λr=>decide (r.1=k)).map (·.2)
theorem tZ(k:List UInt8) (m:List R17):(cL k m).length<=m.length:=by
 unfold cL;rw[PR];exact Sb ..
theorem Bv{k:List UInt8}{m:List R17}{p:PlD}:p∈cL k m↔(k,p)∈m:=by
 unfold cL;rw[Ts];constructor
 ·rintro⟨r,h,rfl⟩;obtain⟨h1,h2⟩:=List.mem_filter.1 h;rw[<-PN h2];exact h1
 ·intro h;exact⟨_,List.mem_filter.2 ⟨h,PT rfl⟩,rfl⟩
theorem fV{m:List R17}(h:jJ m) (k:List UInt8):tW (cL k m):=by
 unfold tW cL;rw[SY,List.pairwise_filter];refine h.imp fun {a b} hab ha hb=>?_;rw[pV]at hab;have ha:=PN ha;have hb:=PN hb;rcases hab with hab|hab
 ·rw[ha,hb,jf]at hab;cases hab
 ·exact hab.2
theorem mr(k:List UInt8) (l m:List R17):cL k (l++m)=cL k l++cL k m:=by
 unfold cL;rw[Sr,PV]
theorem mt{m:List R17}{k:List UInt8}{q:Int}:q∈B9 (cL k m)↔wc m k q:=by
 rw[E3];constructor
 ·rintro⟨v,h⟩;exact⟨_,Bv.1 h,rfl,rfl⟩
 ·rintro⟨r,h,rfl,rfl⟩;exact⟨r.2.2,Bv.2 h⟩
theorem fW(k:List UInt8) (m:List R17) (P:R17->Bool) (Q:PlD->Bool) (h:∀r,r.1=k->P r=Q r.2):cL k (m.filter P)=(cL k m).filter Q:=by
 unfold cL;rw[Su,List.filter_filter,List.filter_filter];congr 1;refine List.filter_congr λr _=>?_;by_cases hk:r.1=k
 ·rw[PT hk,h r hk];simp
 ·rw[Qw hk];simp
theorem Bw(k:List UInt8) (m:List R17) (h:∀r∈m,r.1≠k):cL k m=[]:=by
 unfold cL;rw[List.filter_eq_nil_iff.2 λr hr=>by simpa using h r hr];rfl
theorem wd(k:List UInt8) (q:Int) (r:R17) (h:r.1=k):ltR k q r=ltP q r.2:=by
 unfold ltR ltP;rw[h,jf];simp
theorem HF{m:List R17}(hs:jJ m){x:R17}(hx:¬wc m x.1 x.2.1):cL x.1 (xH m x).1=(cL x.1 m).take ((cL x.1 m).countP (ltP x.2.1))++x.2::(cL x.1 m).drop ((cL x.1 m).countP (ltP x.2.1))/\∀k,k≠x.1->cL k (xH m x).1=cL k m:=by
 obtain⟨t1,t2⟩:=jc (LB (fV hs x.1) x.2.1);unfold xH;rw[Ql hx,t1,t2];refine⟨?_,λk hk=>?_⟩
 ·dsimp only;rw[mr,mr,fW x.1 m _ (ltP x.2.1) (λr h=>wd _ _ r h),fW x.1 m _ (λp=> !ltP x.2.1 p) (λr h=>by rw[wd _ _ r h])];have:cL x.1 [x]=[x.2]:=by unfold cL;simp
  rw[this];simp
 ·dsimp only;have h1:cL k [x]=[]:=Bw k _ λr hr=>by rw[List.mem_singleton.1 hr];exact hk.symm
  rw[mr,mr,h1,PO,<-mr,<-(jc (ON hs x.1 x.2.1)).1,<-(jc (ON hs x.1 x.2.1)).2,Qv]
theorem xI{ps:List PlD}(hs:tW ps){i:Nat}(hi:i<ps.length):ps.eraseIdx i=ps.filter (λp=>decide (p.1≠ps[i].1)):=by
 have e:ps=ps.take i++ps[i]::ps.drop (i+1):=by rw[RZ,Qv]
 have hs':=hs;unfold tW at hs';rw[e,QI,QZ]at hs';obtain⟨_,⟨h2,_⟩,h3⟩:=hs';rw[Rs];generalize hx:ps[i]=x at *
 conv=>rhs;rw[e]
 rw[Sr,Rl (by simp),List.filter_eq_self.2,List.filter_eq_self.2]
 ·intro y hy;have:=h2 y hy;simp;omega
 ·intro y hy;have:=h3 y hy x (by simp);simp;omega
theorem HG{m:List R17}(hs:jJ m){k:List UInt8}{q:Int}(hx:wc m k q):cL k (xT m k q).1=(cL k m).eraseIdx ((cL k m).countP (ltP q))/\(cL k m).countP (ltP q)<(cL k m).length/\∀k',k'≠k->cL k' (xT m k q).1=cL k' m:=by
 have h1:=pU (fV hs k) (q:=q);unfold kf at h1;rw[PT (mt.2 hx)]at h1;have h1:=PN h1.symm;obtain⟨p,h2,h3⟩:=Option.map_eq_some_iff.1 h1;obtain⟨h4,h5⟩:=List.getElem?_eq_some_iff.1 h2;unfold xT;rw[Qx hx];refine⟨?_,h4,λk' hk=>?_⟩
 ·rw[xI (fV hs k) h4];refine fW k m _ _ λr hr=>?_;unfold ry;rw[decide_eq_decide,h5,h3];simp[hr]
 ·dsimp only;rw[fW k' m (ry k q) (λ_=>true) λr hr=>PT λh=>hk (by rw[<-hr];exact h.1)];exact List.filter_eq_self.2 λ_ _=>rfl
section
variable {α β:Type}{eq:α->α->Bool}
theorem Bx(he:gZ eq){k:α}{v:β}{l:List (α×β)}(hnd:(B9 l).Nodup):(Z0 eq k v l).Perm ((k,v)::kO eq k l):=by
 by_cases h:k∈B9 l
 ·obtain⟨v0,hv⟩:=E3.1 h;exact pL he hnd hv
 ·rw[jb he h,rn he h];exact QX (l₁:=l) (l₂:=[(k,v)])
theorem nT(he:gZ eq){k:α}{l:List (α×β)}(hnd:(B9 l).Nodup):(B9 (kO eq k l)).Nodup/\k∉B9 (kO eq k l)/\∀k' v,k'≠k->((k',v)∈kO eq k l↔(k',v)∈l):=by
 by_cases h:k∈B9 l
 ·obtain⟨v0,hv⟩:=E3.1 h;have hp:=mp he hnd hv;have hn:(B9 ((k,v0)::kO eq k l)).Nodup:=(I6 hp).nodup_iff.2 hnd;rw[bi,Qz]at hn;refine⟨hn.2,hn.1,λk' v hne=>?_⟩;rw[<-hp.mem_iff,QY];exact⟨.inr,λh=>h.resolve_left λe=>hne (by injection e)⟩
 ·rw[rn he h];exact⟨hnd,h,λ_ _ _=>Iff.rfl⟩
theorem ud{k:α}{v:β}{l:List (α×β)}(h1:(B9 l).Nodup) (h2:k∉B9 l):(B9 ((k,v)::l)).Nodup:=by
 rw[bi,Qz];exact⟨h2,h1⟩
theorem we(he:gZ eq){k:α}{d:β}{l l':List (α×β)}(h1:(B9 l).Nodup) (h2:(B9 l').Nodup) (h:∀v,(k,v)∈l↔(k,v)∈l'):Q5 eq k d l=Q5 eq k d l':=by
 by_cases hk:k∈B9 l'
 ·obtain⟨v,hv⟩:=E3.1 hk;rw[fU he h2 hv,fU he h1 ((h v).2 hv)]
 ·rw[mo he hk,mo he λhk'=>by
   obtain⟨v,hv⟩:=E3.1 hk';exact hk (E3.2 ⟨v,(h v).1 hv⟩)]
end
structure XJ (c:Nat) (l:IxD) (n:Int) (m:List R17):Prop where
 sort:jJ m
 nd:(B9 l).Nodup
 get:∀k,Q5 C0 k [] l=cL k m
 ne:∀p∈l,p.2≠[]
 size:n=((m.length:Nat):Int)
 len:m.length<=c
 nl:∀r∈m,r.1.length<=60
 qs:∀r∈m,0<=r.2.1/\r.2.1<18446744073709551616
theorem xj0:XJ 0 [] 0 []:=⟨List.Pairwise.nil,QM,λ_=>rfl,by simp,rfl,PW _,by simp,by simp⟩
theorem XJ.le{c d:Nat}{l:IxD}{n:Int}{m:List R17}(h:XJ c l n m) (hd:c<=d):XJ d l n m:={h with len:=Qt h.len hd}
theorem XJ.upd{c c':Nat}{l:IxD}{n n':Int}{m m':List R17}(h:XJ c l n m){k:List UInt8}{v:List PlD}(hv:cL k m'=v) (ho:∀k',k'≠k->cL k' m'=cL k' m) (hs:jJ m') (hn:n'=((m'.length:Nat):Int)) (hc:m'.length<=c') (hl:∀r∈m',r.1.length<=60) (hq:∀r∈m',0<=r.2.1/\r.2.1<18446744073709551616) :
  (v≠[]->XJ c' (Z0 C0 k v l) n' m')/\(v=[]->XJ c' (kO C0 k (Z0 C0 k v l)) n' m'):=by
 obtain⟨d1,d2,d3⟩:=nT ba (k:=k) h.nd;have hp:=Bx ba (k:=k) (v:=v) h.nd;have hnS:(B9 (Z0 C0 k v l)).Nodup:=(I6 hp).nodup_iff.2 (ud d1 d2);have oS:∀k' w,k'≠k->((k',w)∈Z0 C0 k v l↔(k',w)∈l):=λk' w hk=>by
  rw[hp.mem_iff,QY,<-d3 k' w hk];exact⟨λh=>h.resolve_left λe=>hk (by injection e),.inr⟩
 constructor
 ·intro hne;refine⟨hs,hnS,λk'=>?_,λp hm=>?_,hn,hc,hl,hq⟩
  ·by_cases hk:k'=k
   ·subst hk;rw[hv];exact fU ba hnS (hp.mem_iff.2 (Qn ..))
   ·rw[ho k' hk,<-h.get k'];exact we ba hnS h.nd λw=>oS k' w hk
  ·by_cases hk:p.1=k
   ·have:=hp.mem_iff.1 hm;rcases List.mem_cons.1 this with e|e
    ·rw[e];exact hne
    ·exact(d2 (E3.2 ⟨p.2,by rw[show(k,p.2)=p by rw[<-hk]];exact e⟩)).elim
   ·exact h.ne p ((oS p.1 p.2 hk).1 hm)
 ·intro he;obtain⟨e1,e2,e3⟩:=nT ba (k:=k) hnS;refine⟨hs,e1,λk'=>?_,λp hm=>?_,hn,hc,hl,hq⟩
  ·by_cases hk:k'=k
   ·subst hk;rw[hv,he,mo ba (by rw[<-he];exact e2)]
   ·rw[ho k' hk,<-h.get k'];exact we ba e1 h.nd λw=>(e3 k' w hk).trans (oS k' w hk)
  ·by_cases hk:p.1=k
   ·exact(e2 (E3.2 ⟨p.2,by rw[show(k,p.2)=p by rw[<-hk]];exact hm⟩)).elim
   ·exact h.ne p ((oS p.1 p.2 hk).1 ((e3 p.1 p.2 hk).1 hm))
theorem By{m:List R17}(hs:jJ m){x:R17}(hx:¬wc m x.1 x.2.1):jJ (xH m x).1:=by
 unfold xH;rw[Ql hx];have lt1:∀y∈m.filter (ltR x.1 x.2.1),ltR x.1 x.2.1 y=true:=λy hy=>(List.mem_filter.1 hy).2;have lt2:∀y∈m.filter (λy=> !ltR x.1 x.2.1 y),ltR y.1 y.2.1 x=true:=λy hy=>by
  obtain⟨h1,h2⟩:=List.mem_filter.1 hy;have h2:¬ltR x.1 x.2.1 y=true:=by simpa using h2
  rw[pV]at h2⊢;rcases Fy y.1 x.1 with h|h|h
  ·exact(h2 (.inl h)).elim
  ·right;have:y.2.1≠x.2.1:=λe=>hx ⟨y,h1,h,e⟩;have:¬y.2.1<x.2.1:=λe=>h2 (.inr ⟨h,e⟩);exact⟨h.symm,by omega⟩
  ·exact .inl h
 unfold jJ;dsimp only;rw[Qe,QI,Rw,QZ];refine⟨hs.filter _,⟨lt2,hs.filter _⟩,λa ha b hb=>?_⟩;rcases List.mem_cons.1 hb with rfl|hb
 ·exact lt1 a ha
 ·exact rt (lt1 a ha) (lt2 b hb)
theorem XJ.add{c:Nat}{l:IxD}{n:Int}{m:List R17}(h:XJ c l n m) (hc:c<=100000){k:List UInt8}{q id:Int}(hk:k.length<=60) (hq:0<=q/\q<18446744073709551616):∃l' n',O2 l n k q id=some (l',n',(xH m (k,q,id)).2)/\XJ (c+1) l' n' (xH m (k,q,id)).1:=by
 have hlen:=h.len;have hsl:=tZ k m;have hss:=fV h.sort k;unfold O2 LA;rw[h.get k,wb hss (by omega),PS];dsimp only;by_cases hx:wc m k q
 ·have e1:kf (cL k m) q=true:=PT (mt.2 hx);have e2:xH m (k,q,id)=(m,false):=Qx hx;rw[e1,aZ,e2];exact⟨l,n,rfl,h.le (SN c)⟩
 ·have e1:kf (cL k m) q=false:=Qw λe=>hx (mt.1 e);have e2:xH m (k,q,id)=(m.filter (ltR k q)++[(k,q,id)]++m.filter (λy=> !ltR k q y),true):=Ql hx;have hcnt:(cL k m).countP (ltP q)<=(cL k m).length:=List.countP_le_length;obtain⟨s1,s2⟩:=HF h.sort (x:=(k,q,id)) hx;have hs:=By h.sort (x:=(k,q,id)) hx;have hp:=jd (ltR k q) m (k,q,id);have e3:(xH m (k,q,id)).2=true:=by rw[e2]
  have e4:(xH m (k,q,id)).1=m.filter (ltR k q)++[(k,q,id)]++m.filter (λy=> !ltR k q y):=by rw[e2]
  rw[e1,dV,PT ⟨by omega,by omega,by omega⟩,aC,PY,e3];refine⟨_,_,rfl,(h.upd s1 s2 hs ?_ ?_ ?_ ?_).1 (by simp)⟩
  ·rw[e4,hp.length_eq,h.size,I4 (by omega) (by omega)];simp
  ·rw[e4,hp.length_eq];simp;omega
  ·rw[e4];intro r hr;rcases List.mem_cons.1 (hp.mem_iff.1 hr)with rfl|hr
   ·exact hk
   ·exact h.nl r hr
  ·rw[e4];intro r hr;rcases List.mem_cons.1 (hp.mem_iff.1 hr)with rfl|hr
   ·exact hq
   ·exact h.qs r hr
theorem XJ.rem{c:Nat}{l:IxD}{n:Int}{m:List R17}(h:XJ c l n m) (hc:c<=100000) (k:List UInt8) (q:Int):∃l' n',E8 l n k q=some (l',n',(xT m k q).2)/\XJ c l' n' (xT m k q).1:=by
 have hlen:=h.len;have hsl:=tZ k m;have hss:=fV h.sort k;unfold E8;rw[h.get k,wb hss (by omega),PS];dsimp only;by_cases hx:wc m k q
 ·have e1:kf (cL k m) q=true:=PT (mt.2 hx);obtain⟨s1,s2,s3⟩:=HG h.sort hx;have e2:xT m k q=(m.filter (ry k q),true):=Qx hx;have hsub:∀r∈(xT m k q).1,r∈m:=λr hr=>by rw[e2]at hr;exact(List.mem_filter.1 hr).1
  have hlen2:(xT m k q).1.length+1=m.length:=by
   obtain⟨r,hr,h1,h2⟩:=hx;obtain⟨i,hi,rfl⟩:=RJ hr;rw[e2,<-h1,<-h2];dsimp only;rw[tY h.sort hi,PU,Qb,Qk];omega
  have hs:jJ (xT m k q).1:=by rw[e2];exact h.sort.filter _
  have e3:(xT m k q).2=true:=by rw[e2]
  have hu:=h.upd (c':=c) (n':=D1 (n-1)) s1 s3 hs (by rw[h.size,I4 (by omega) (by omega)];omega) (by omega) (λr hr=>h.nl r (hsub r hr)) (λr hr=>h.qs r (hsub r hr));rw[e1,aZ,PT ⟨by omega,by omega⟩,aC,PY,e3];refine⟨_,_,rfl,?_⟩;split
  ·rename_i h0;exact hu.2 (List.length_eq_zero_iff.1 h0)
  ·rename_i h0;exact hu.1 λe=>h0 (by rw[e];rfl)
 ·have e1:kf (cL k m) q=false:=Qw λe=>hx (mt.1 e);have e2:xT m k q=(m,false):=Ql hx;rw[e1,dV,e2];exact⟨l,n,rfl,h⟩
def Ej(k:List UInt8) (m:List R17):List Int:=(cL k m).map (·.2)
theorem XJ.list{c:Nat}{l:IxD}{n:Int}{m:List R17}(h:XJ c l n m) (hc:c<=100000) (k:List UInt8):J2 l n k=some (l,n,Ej k m):=by
 have hlen:=h.len;have hsl:=tZ k m;unfold J2 Ej;rw[h.get k,PT (by omega),aC]
theorem wg(l:List A0) (k:Nat):List.getD l k B6=nth l k:=rfl
theorem BE(a b:A0):cg a b=some (decide (Bef a b)):=by
 refine iZ.1 ?_;unfold cg;simp only[K6,C6,Qf,Qj,PX,Qa];refine⟨λh=>?_,λh=>⟨λk=>?_,λk=>?_⟩⟩ <;> exact decide_eq_decide.2 (by unfold Bef;omega)
theorem HK{l:List A0}{p:List (Int×Int)}{i j:Nat}(hi:i<l.length) (hj:j<l.length):Z4 l p (i:Int) (j:Int)=some (sw l i j,pSw (sw l i j) p i j):=by
 refine iZ.1 ?_;unfold Z4;simp only[M1,C6,PY,PX,QW];refine⟨by omega,hj,by omega,hi,by omega,hi,by omega,hj,by omega,hi,by omega,hj,rfl⟩
theorem Nt{j:Nat}(h0:0<j) (h:j<=1000000):D1 (Int.tdiv (D1 ((j:Int)-1)) 2)=(((j-1) / 2:Nat):Int):=by
 have h1:D1 ((j:Int)-1)=((j-1:Nat):Int):=by rw[I4] <;> omega
 rw[h1,Int.tdiv_eq_ediv_of_nonneg (by omega),I4] <;> omega
theorem Nu{l:List A0}{p:List (Int×Int)}{i:Nat}(hi:i<l.length) (hl:l.length<=1000000) (hd:Ids l) (hp:Pl l p) (h:AH l i):Ok (bo l p (i:Int)) λr=>r.1.Perm l/\Pl r.1 r.2/\DH r.1 i:=by
 unfold bo cX;refine S2 (λn v=>∃l0 p0,v=((n:Int),l0,p0)/\n<l.length/\l0.Perm l/\Pl l0 p0/\((n=i/\AH l0 i)\/UH l0 n)) ?_ (n:=i) ⟨l,p,rfl,hi,List.Perm.refl _,hp,.inl ⟨rfl,h⟩⟩ (by omega);rintro n v ⟨l0,p0,rfl,hn,hperm,hpl,hah⟩;have hlen:=hperm.length_eq;have hid:=hd.perm hperm;have fin:(n=0\/xJ l0 n)->DH l0 i:=λhs=>by
  rcases hah with⟨rfl,h1⟩|h1
  ·exact Ek h1 hs
  ·exact(El h1 hs).dh (by omega)
 unfold bg;dsimp only;rw[K6];refine⟨λh0=>?_,λh0=>?_⟩
 ·have h0:0<n:=by have:=PN h0;omega
  have hpn:(n-1) / 2<l0.length:=by omega
  rw[Nt h0 (by omega),PY,PY,wg,wg,BE,PS,HK (show n<l0.length by omega) hpn,PS];simp only[M1,K6,C6,PX,Qa,F9,E5];refine⟨by omega,by omega,by omega,hpn,λhb=>?_,λhb=>⟨hperm,hpl,fin (.inr hb)⟩⟩;have ha:AH l0 n:=by
   rcases hah with⟨rfl,h1⟩|h1
   ·exact h1
   ·exact h1.ah
  exact⟨(n-1) / 2,by omega,_,_,rfl,by omega,(HI (by omega) hpn).trans hperm,hpl.swap hid (by omega) hpn,.inr (HJ h0 (by omega) rfl ha hb)⟩
 ·have h0:n=0:=by have:=Ss h0;omega
  rw[C6,E5];exact⟨hperm,hpl,fin (.inl h0)⟩
def Io(x y:A0):Bool:=decide (Bef y x)
def BF(m:List A0):Prop:=m.Pairwise Bef
def KW(m:List A0) (x:A0):List A0:=m.filter (Io x)++[x]++m.filter (λy=> !Io x y)
end Go.Proofs.YthkhcbphbabefaaGreat.Am
namespace Go.Proofs.YthkhcbphbabefaaGreat.Am
open Go Go.Proofs
structure HH (l:List A0) (p:List (Int×Int)) (m:List A0):Prop where
 perm:l.Perm m
 sort:BF m
 ids:Ids m
 heap:ue l
 pl:Pl l p
theorem hh0:HH [] [] []:=⟨List.Perm.refl _,List.Pairwise.nil,by simp[Ids],λk k0 kl=>by simp at kl,by simp[B9],λk v=>by simp⟩
section
variable {l m:List A0}{p:List (Int×Int)}
theorem HH.lids(h:HH l p m):Ids l:=h.ids.perm h.perm
theorem HH.has(h:HH l p m) (k:Int):(aG L0 k p).isSome=decide (k∈m.map λx=>x.1):=by
 rw[h.pl.has k];exact decide_eq_decide.2 (h.perm.map _).mem_iff
theorem Em(hs:BF m){x:A0}(hx:x.1∉m.map λx=>x.1):BF (KW m x):=by
 have lt1:∀y∈m.filter (Io x),Bef y x:=λy hy=>PN (List.mem_filter.1 hy).2;have lt2:∀y∈m.filter (λy=> !Io x y),Bef x y:=λy hy=>by
  obtain⟨h1,h2⟩:=List.mem_filter.1 hy;have h3:¬Bef y x:=by simpa [Io]using h2
  rcases Classical.em (Bef x y)with h|h
  ·exact h
  ·have:=Bef.tri h h3;subst this;exact(hx (List.mem_map.2 ⟨x,h1,rfl⟩)).elim
 unfold BF KW;rw[Qe,QI,Rw,QZ];refine⟨hs.filter _,⟨lt2,hs.filter _⟩,λa ha b hb=>?_⟩;rcases List.mem_cons.1 hb with rfl|hb
 ·exact lt1 a ha
 ·exact(lt1 a ha).trans (lt2 b hb)
theorem wh(m:List A0) (x:A0):(KW m x).Perm (x::m):=jd (Io x) m x
theorem HH.push(h:HH l p m) (hl:m.length<900000) (x:A0):∃l' p',S6 l p x=some (l',p',!decide (x.1∈m.map λx=>x.1))/\HH l' p' (if x.1∈m.map (λx=>x.1)then m else KW m x):=by
 have hlen:=h.perm.length_eq;have hh:=h.has x.1;unfold S6;rw[hh];by_cases hm:x.1∈m.map λx=>x.1
 ·rw[PT hm,Qx hm];exact⟨l,p,rfl,h⟩
 ·rw[Qw hm,Ql hm,dV];have hml:x.1∉l.map λx=>x.1:=λe=>hm ((h.perm.map _).mem_iff.1 e);have e1:(l++([x]:List A0)).length=l.length+1:=by simp
  have w:D1 ((((l++([x]:List A0)).length:Nat):Int)-1)=((l.length:Nat):Int):=by rw[e1,I4] <;> omega
  have hid:Ids (l++[x]):=by
   have:(l++[x]).Perm (x::l):=QX (l₁:=l) (l₂:=[x]);refine Ids.perm ?_ this;unfold Ids;rw[PQ,Qz];exact⟨hml,h.lids⟩
  have hpl:=h.pl.push (x:=x) λk hk e=>hml (List.mem_map.2 ⟨_,Bz hk,e⟩);obtain⟨r,hr,a1,a2,a3⟩:=Nu (show l.length<(l++[x]).length by omega) (by omega) hid hpl (h.heap.push x);rw[PT (show(l.length+1)*24<=LIM/\l.length+1<=LEN from⟨by unfold LIM;omega,by unfold LEN;omega⟩),aC,w,hr,PS];have hrl:=a1.length_eq;have hpm:r.1.Perm (KW m x):=a1.trans ((QX (l₁:=l) (l₂:=[x])).trans ((h.perm.cons x).trans (wh m x).symm));refine⟨r.1,r.2,rfl,hpm,Em h.sort hm,(hid.perm a1).perm hpm.symm,BD a3 λc c0 cl cp=>by omega,a2⟩
theorem rA:∀{l m:List A0},l.Perm m->l.Pairwise (λx y=>¬Bef y x)->m.Pairwise Bef->l=m
 |l,[],hp,_,_=>hp.eq_nil
 |[],x::m,hp,_,_=>hp.symm.eq_nil.symm
 |y::l,x::m,hp,hl,hm=>by
  rw[QZ]at hl hm;have e:y=x:=by
   rcases List.mem_cons.1 (hp.mem_iff.1 (Qn (a:=y)))with e|h1
   ·exact e
   ·rcases List.mem_cons.1 (hp.mem_iff.2 (Qn (a:=x)))with e|h2
    ·exact e.symm
    ·exact(hl.1 _ h2 (hm.1 _ h1)).elim
  subst e;rw[rA ((List.perm_cons y).1 hp) hl.2 hm.2]
theorem HH.sorted(h:HH l p m) (hl:m.length<900000):O5 l p=some (l,p,m):=by
 have hlen:=h.perm.length_eq;have hc:H8 l=some (l,l):=by
  have hb:(0+List.length (α:=B0.den) l)*24<=LIM/\0+List.length (α:=B0.den) l<=LEN:=(⟨by unfold LIM;omega,by unfold LEN;omega⟩:(0+l.length)*24<=LIM/\0+l.length<=LEN);have hcl:bP (u:=B0) 24 l=some l:=by
   unfold bP;rw[PT hb];rfl
  unfold H8 Ah;rw[hcl];rfl
 have hsp:=qZ B6 iU AD l;have hs:Fv B6 iU l=m:=rA (hsp.1.trans h.perm) (hsp.2.imp fun {x y} hxy hb=>by
  have:=(vV y x).2 hb;rw[hxy]at this;cases this) h.sort
 unfold O5 D8;rw[hc,PS,hs,show Nat.blt l.length 4611686018427387904=true by simp;omega,aC];rfl
end
end Go.Proofs.YthkhcbphbabefaaGreat.Am
namespace Go.Proofs.YthkhcbphbabefaaGreat.Am
open Go
structure PP where
 cf:eu
 most:Int
 size:Int
 sl:List SlD
 free:Int
 it:List IT
 hp:List (Int×Int)
 ix:IxD
 n:Int
 b:Int
 t:Int
 w:List W3
 pl:List (Int×HD)
 ids:List (List UInt8×Int)
 nx:Int
def jg{α:Type}(p:PP) (r:α):eu×Int×Int×List SlD×Int×List IT×List (Int×Int)×IxD×Int×Int×Int×List W3×List (Int×HD)×List (List UInt8×Int)×Int×α:=
 (p.cf,p.most,p.size,p.sl,p.free,p.it,p.hp,p.ix,p.n,p.b,p.t,p.w,p.pl,p.ids,p.nx,r)
def LC(p:PP) (e:ED):=H6 p.cf p.most p.size p.sl p.free p.it p.hp p.ix p.n p.b p.t p.w p.pl p.ids p.nx e
def Nv(p:PP) (k:KD):=aX p.cf p.most p.size p.sl p.free p.it p.hp p.ix p.n p.b p.t p.w p.pl p.ids p.nx k
def ofP(p:PP) (l:List Int):=P2 p.cf p.most p.size p.sl p.free p.it p.hp p.ix p.n p.b p.t p.w p.pl p.ids p.nx l
abbrev Rec:=Int×HD×ED
def bN(x:Rec):ED:=x.2.2
def slR(x:Rec):HD×ED:=x.2
def pY(x:Rec):IT:=(x.1,x.2.2.2.2.2.2.2.1,x.2.2.2.2.2.2.2.2.2.2.1)
def rowR(x:Rec):R17:=(x.2.2.2.2.1,x.2.2.2.2.2.1,x.1)
def En(x:Rec):W3:=(x.1,x.2.2.2.2.2.2.2.2.1,x.2.2.2.2.2.2.2.2.2.1)
def plR(x:Rec):Int×HD:=(x.1,x.2.1)
def idR(x:Rec):List UInt8×Int:=(Vector.toList x.2.2.1,x.1)
def LF(e:ED):Prop:=Im e/\qf e<=1000/\e.2.2.1.length<=60/\0<=e.2.2.2.1/\e.2.2.2.1<18446744073709551616
structure PJ (c:Nat) (p:PP) (L:List Rec):Prop where
 cfg:hU p.cf
 most:p.most=p.cf.1
 ttl:p.b=p.cf.2.2.2.2.1/\p.t=p.cf.2.2.2.2.2.1
 sort:L.Pairwise λa b=>a.1<b.1
 num:∀x∈L,0<=x.1/\x.1<p.nx
 nx:0<=p.nx/\p.nx<=(c:Int)
 slab:SJ (2*c) p.size p.sl p.free (L.map slR)
 heap:∃m,HH p.it p.hp m/\m.Perm (L.map pY)
 send:∃m,XJ c p.ix p.n m/\m.Perm (L.map rowR)
 wait:QJ c p.w (L.map En)
 place:p.pl.Perm (L.map plR)
 keys:p.ids.Perm (L.map idR)
 kd:L.Pairwise λa b=>a.2.2.1≠b.2.2.1
 sd:L.Pairwise λa b=>¬(a.2.2.2.2.1=b.2.2.2.2.1/\a.2.2.2.2.2.1=b.2.2.2.2.2.1)
 lim:(L.length:Int)<=p.cf.1/\((bG (L.map bN):Nat):Int)<=p.cf.2.1
 ents:∀x∈L,LF x.2.2
theorem hU.max{c:eu}(h:hU c):(1<=c.1/\c.1<=512)/\1<=c.2.1/\c.2.1<=1048576:=
 ⟨PN (h.1 0 (by omega)),PN (h.1 1 (by omega))⟩
section
variable {c:Nat}{p:PP}{L:List Rec}
theorem PJ.len(h:PJ c p L):L.length<=512/\bG (L.map bN)<=1048576:=by
 have h1:=h.lim;have h2:=h.cfg.max;omega
theorem PJ.pnd(h:PJ c p L):(B9 p.pl).Nodup:=by
 refine(I6 h.place).nodup_iff.2 ?_;unfold B9;rw[QN];exact List.pairwise_map.2 (h.sort.imp fun {a b} hab e=>by
  have:a.1=b.1:=e;omega)
theorem PJ.knd(h:PJ c p L):(B9 p.ids).Nodup:=by
 refine(I6 h.keys).nodup_iff.2 ?_;unfold B9;rw[QN];exact List.pairwise_map.2 (h.kd.imp fun {a b} hab e=>hab (Vector.toList_inj.1 e))
theorem jh{l:List Rec}{q:ED->Prop}:(∃e∈l.map bN,q e)↔∃x∈l,q x.2.2:=by
 constructor
 ·rintro⟨e,he,hq⟩;obtain⟨x,hx,rfl⟩:=List.mem_map.1 he;exact⟨x,hx,hq⟩
 ·rintro⟨x,hx,hq⟩;exact⟨_,List.mem_map.2 ⟨x,hx,rfl⟩,hq⟩
theorem PJ.has(h:PJ c p L) (k:KD):(aG C0 (Vector.toList k) p.ids).isSome=decide (ke (L.map bN) k):=by
 have h1:=bj ba (Vector.toList k) p.ids;have h2:=(I6 h.keys).mem_iff (a:=Vector.toList k);have h3:Vector.toList k∈B9 (L.map idR)↔ke (L.map bN) k:=by
  unfold ke B9;rw[jh,QN,Ts];constructor
  ·rintro⟨x,hx,e⟩;exact⟨x,hx,Vector.toList_inj.1 e⟩
  ·rintro⟨x,hx,e⟩;exact⟨x,hx,by rw[<-e];rfl⟩
 rw[SM,decide_eq_true_iff,h1,h2,h3]
theorem PJ.id(h:PJ c p L){x:Rec}(hx:x∈L):Q5 C0 (Vector.toList x.2.2.1) (0:Int) p.ids=x.1:=
 fU ba h.knd (h.keys.mem_iff.2 (List.mem_map.2 ⟨x,hx,rfl⟩))
theorem PJ.pl(h:PJ c p L){x:Rec}(hx:x∈L) (d:HD):Q5 L0 x.1 d p.pl=x.2.1:=
 fU Z6 h.pnd (h.place.mem_iff.2 (List.mem_map.2 ⟨x,hx,rfl⟩))
theorem PJ.sget(h:PJ c p L){x:Rec}(hx:x∈L):N9 p.most p.size p.sl p.free x.2.1=some (p.most,p.size,p.sl,p.free,x.2.2,true):=
 h.slab.get p.most (x:=slR x) (List.mem_map.2 ⟨x,hx,rfl⟩)
theorem PJ.get(h:PJ c p L){x:Rec}(hx:x∈L):Nv p x.2.2.1=some (jg p (x.2.2,true)):=by
 unfold Nv aX;rw[h.has,PT (show ke (L.map bN) x.2.2.1 from jh.2 ⟨x,hx,rfl⟩),RE,dV,h.id hx,h.pl hx,h.sget hx];rfl
theorem PJ.of(h:PJ c p L){xs:List Rec}(hx:∀x∈xs,x∈L) (hl:xs.length<=1000000):ofP p (xs.map (·.1))=some (jg p (xs.map bN)):=by
 refine iZ.1 ?_;unfold ofP P2 cY;have hlm:(xs.map (·.1)).length=xs.length:=PR ..;rw[hlm];refine eI xs (λi (out:List ED)=>(xs.map (·.1),((xs.length:Nat):Int),((i:Nat):Int),p.cf,p.nx,p.most,p.size,p.free,p.n,p.b,p.t,p.sl,p.it,p.hp,p.ix,p.w,p.pl,p.ids,out)) (λi out=>out=(xs.take i).map bN) (λi out hi hinv=>?_) (λout hinv=>?_) (b0:=[]) rfl (by omega)
 ·have h1:out.length=i:=by rw[hinv,PR,Qb];omega
  have hg:List.getD (xs.map (·.1)) i (0:Int)=xs[i].1:=by rw[eJ (by rw[hlm];exact hi)];simp
  have hm:=hx xs[i] (RK hi);unfold W8;dsimp only;rw[PT (by omega),aZ,hlm,PT (by omega),aC,PY,hg,h.pl hm,h.sget hm,PS,PT (KO (by omega)),aC,Y4 (i:=i) (by omega),C6,F9];exact⟨_,rfl,by rw[cu hi,PV,hinv];rfl⟩
 ·rw[Ro]at hinv;unfold W8;dsimp only;rw[Qw (by omega),dV,C6,E5,hinv];rfl
theorem nV{α β:Type}{eq:α->α->Bool}(he:gZ eq){k:α}{z v:β}{l:List (α×β)}(h:k∉B9 l):Z0 eq k v (Z0 eq k z l)=l++[(k,v)]:=by
 have hi:aG eq k (l++[(k,z)])=some l.length:=by
  induction l with
  |nil=>simp[aG,(he k k).2 rfl]
  |cons a l ih=>
   rw[bi,QY,not_or]at h;have:eq k a.1=false:=by
    rw[<-RY];exact λe=>h.1 ((he _ _).1 e)
   rw[Qu];simp[aG,this,ih h.2]
 rw[jb he h];unfold Z0;rw[hi];simp
theorem BG{m:List W3}{x:W3}(h:∀y∈m,y.1<x.1):KR m x=(m++[x],true):=by
 unfold KR;rw[Ql λhm=>by
  obtain⟨v,hv⟩:=E3.1 hm;have:=h _ hv;dsimp only at this;omega]
 have h1:m.filter (ltW x.1)=m:=List.filter_eq_self.2 λy hy=>PT (h y hy);have h2:m.filter (λy=> !ltW x.1 y)=[]:=List.filter_eq_nil_iff.2 λy hy=>by
  have:ltW x.1 y=true:=PT (h y hy);rw[this];decide
 rw[h1,h2,PO]
theorem PJ.hasR(_h:PJ c p L){m:List R17}(hp:m.Perm (L.map rowR)) (k:List UInt8) (q:Int):wc m k q↔nS (L.map bN) k q:=by
 unfold wc nS;rw[jh];constructor
 ·rintro⟨r,hr,h1,h2⟩;obtain⟨x,hx,rfl⟩:=List.mem_map.1 (hp.mem_iff.1 hr);exact⟨x,hx,h1,h2⟩
 ·rintro⟨x,hx,h1,h2⟩;exact⟨rowR x,hp.mem_iff.2 (List.mem_map.2 ⟨x,hx,rfl⟩),h1,h2⟩
theorem PJ.sizeL(h:PJ c p L):p.size=((L.length:Nat):Int):=by rw[h.slab.size,PR]
theorem PJ.bytesL(h:PJ c p L) (hc:c<=900):H5 p.most p.size p.sl p.free=some (p.most,p.size,p.sl,p.free,((bG (L.map bN):Nat):Int)):=by
 rw[(h.slab.bytes_ok p.most (by omega)).1];unfold bG;rw[QN,QN];rfl
theorem mu{α β:Type}(f:α->β) (l:List α) (x:α):(f x::l.map f).Perm ((l++[x]).map f):=by
 rw[PV];exact(QX (l₁:=[f x]) (l₂:=l.map f))
theorem PJ.insert(h:PJ c p L) (hc:c<=900){e:ED}(he:LF e) :
  ∃p' L',LC p e=some (jg p' (mV p.cf (L.map bN) e).2)/\PJ (c+1) p' L'/\L'.map bN=(mV p.cf (L.map bN) e).1/\p'.cf=p.cf:=by
 obtain⟨hl1,hl2⟩:=h.len;obtain⟨⟨hm1,hm2⟩,hm3,hm4⟩:=h.cfg.max;have hle:PJ (c+1) p L:={h with
  nx:=⟨h.nx.1,by have:=h.nx.2;omega⟩
  slab:=h.slab.le (by omega)
  send:=by obtain⟨m,h1,h2⟩:=h.send;exact⟨m,h1.le (by omega),h2⟩
  wait:=⟨h.wait.perm,h.wait.sort,SZ h.wait.len,h.wait.ids⟩}
 unfold LC H6;rw[h.has];by_cases hk:ke (L.map bN) e.1
 ·have hi:mV p.cf (L.map bN) e=(L.map bN,8):=by unfold mV;rw[Qx hk]
  rw[PT hk,aZ,hi];exact⟨p,L,rfl,hle,rfl,rfl⟩
 ·rw[Qw hk,dV];obtain⟨m,hx,hmp⟩:=h.send;have hR:=h.hasR hmp e.2.2.1 e.2.2.2.1;obtain⟨l',n',e1,hx'⟩:=hx.add (by omega) (id:=p.nx) he.2.2.1 he.2.2.2;rw[e1,PS];by_cases hs:nS (L.map bN) e.2.2.1 e.2.2.2.1
  ·have hi:mV p.cf (L.map bN) e=(L.map bN,9):=by unfold mV;rw[Ql hk,Qx hs]
   have ha:xH m (e.2.2.1,e.2.2.2.1,p.nx)=(m,false):=Qx (hR.2 hs);rw[ha]at hx'⊢;dsimp only;rw[SW,aZ,hi];exact⟨{p with ix:=l',n:=n'},L,rfl,{hle with send:=⟨m,hx',hmp⟩},rfl,rfl⟩
  ·have hnR:¬wc m e.2.2.1 e.2.2.2.1:=λk=>hs (hR.1 k);have ha:xH m (e.2.2.1,e.2.2.2.1,p.nx)=(m.filter (ltR e.2.2.1 e.2.2.2.1)++[(e.2.2.1,e.2.2.2.1,p.nx)]++m.filter (λy=> !ltR e.2.2.1 e.2.2.2.1 y),true):=Ql hnR;have hpm:=jd (ltR e.2.2.1 e.2.2.2.1) m (e.2.2.1,e.2.2.2.1,p.nx);rw[ha]at hx'⊢;dsimp only at hx'⊢;generalize m.filter (ltR e.2.2.1 e.2.2.2.1)++[(e.2.2.1,e.2.2.2.1,p.nx)]++m.filter (λy=> !ltR e.2.2.1 e.2.2.2.1 y)=m1 at hx' hpm;rw[RE,dV];unfold N8;rw[PS];dsimp only;rw[h.sizeL];have hfull:(p.cf.1<=(L.length:Int)\/p.cf.2.1<((bG (L.map bN)+qf e:Nat):Int))->∃p' L',I8 false p.cf p.nx p.most ((L.length:Nat):Int) p.free n' p.b p.t e ((0:Int),(0:Int)) p.sl p.it p.hp l' p.w p.pl p.ids=some (jg p' (mV p.cf (L.map bN) e).2)/\PJ (c+1) p' L'/\L'.map bN=(mV p.cf (L.map bN) e).1/\p'.cf=p.cf:=λhf=>by
    have hi:mV p.cf (L.map bN) e=(L.map bN,24):=by unfold mV;rw[Ql hk,Ql hs,PR,Qx hf]
    obtain⟨l2,n2,e2,hx2⟩:=hx'.rem (by omega) e.2.2.1 e.2.2.2.1;unfold I8;rw[SW,aZ,e2,PS,hi];refine⟨{p with ix:=l2,n:=n2},L,by rw[<-h.sizeL];rfl,{hle with send:=⟨_,hx2,?_⟩},rfl,rfl⟩;have hh:wc m1 e.2.2.1 e.2.2.2.1:=⟨(e.2.2.1,e.2.2.2.1,p.nx),hpm.mem_iff.2 (by simp),rfl,rfl⟩;unfold xT;rw[Qx hh];refine(hpm.filter _).trans ?_;have hkeep:m.filter (ry e.2.2.1 e.2.2.2.1)=m:=List.filter_eq_self.2 λr hr=>PT λhq=>hnR ⟨r,hr,hq⟩;rw[Rl (by simp[ry]),hkeep];exact hmp
   by_cases hf1:p.cf.1<=(L.length:Int)
   ·rw[PT hf1,aZ];unfold I9;rw[RE,dV];exact hfull (.inl hf1)
   ·rw[Qw hf1,dV,<-h.sizeL,h.bytesL hc,PS];dsimp only;have hw:D1 (p.cf.2.1-((bG (L.map bN):Nat):Int))=p.cf.2.1-((bG (L.map bN):Nat):Int):=I4 (by omega) (by omega);have hraw:((e.2.1.length:Nat):Int)=((qf e:Nat):Int):=rfl;rw[hw,hraw];by_cases hf2:p.cf.2.1<((bG (L.map bN)+qf e:Nat):Int)
    ·rw[PT (by omega),h.sizeL];unfold I9;rw[RE,dV];exact hfull (.inr hf2)
    ·rw[Qw (by omega)];unfold I9;rw[SW,aZ];have hi:mV p.cf (L.map bN) e=(L.map bN++[e],0):=by unfold mV;rw[Ql hk,Ql hs,PR,Ql (by omega)]
     obtain⟨sl',free',hd,e3,hsj⟩:=h.slab.add (most:=p.most) (by rw[h.sizeL,h.most];omega) (by omega) (e:=e) ⟨he.1,he.2.1⟩;rw[e3,PS];unfold I8;dsimp only;rw[RE,dV];obtain⟨mh,hh,hhp⟩:=h.heap;have hmhl:mh.length<=512:=by rw[hhp.length_eq,PR];exact hl1
     have hnx:∀y∈L,y.1<p.nx:=λy hy=>(h.num y hy).2;have hnot:p.nx∉mh.map λx=>x.1:=λhm=>by
      obtain⟨y,hy,e4⟩:=List.mem_map.1 ((hhp.map λx=>x.1).mem_iff.1 hm);obtain⟨z,hz,rfl⟩:=List.mem_map.1 hy;have:=hnx z hz;have e4:z.1=p.nx:=e4;omega
     obtain⟨it',hp',e5,hh'⟩:=hh.push (by omega) (p.nx,e.2.2.2.2.2.1,e.2.2.2.2.2.2.2.2.1);rw[Ql hnot]at hh';obtain⟨w',e6,hq'⟩:=h.wait.add (x:=(p.nx,e.2.2.2.2.2.2.1,e.2.2.2.2.2.2.2.1)) (by have:=h.nx;dsimp only;omega);rw[BG λy hy=>by
      obtain⟨z,hz,rfl⟩:=List.mem_map.1 hy;exact hnx z hz]at hq'
     have hpk:p.nx∉B9 p.pl:=λhm=>by
      obtain⟨v,hv⟩:=E3.1 ((I6 h.place).mem_iff.1 hm);obtain⟨z,hz,e4⟩:=List.mem_map.1 hv;have:=hnx z hz;have e4:z.1=p.nx:=congrArg Prod.fst e4;omega
     have hik:Vector.toList e.1∉B9 p.ids:=λhm=>by
      have h1:=(bj ba (Vector.toList e.1) p.ids).2 hm;rw[h.has,Qw hk]at h1;cases h1
     rw[e5,PS,e6,PS,hi];dsimp only;rw[nV Z6 hpk,nV ba hik,I4 (n:=p.nx+1) (by have:=h.nx;omega) (by have:=h.nx;omega)];refine⟨⟨p.cf,p.most,p.size+1,sl',free',it',hp',l',n',p.b,p.t,w',p.pl++[(p.nx,hd)],p.ids++[(Vector.toList e.1,p.nx)],p.nx+1⟩,L++[(p.nx,hd,e)],rfl,?_,by rw[PV];rfl,rfl⟩;have hb:bG ((L++[(p.nx,hd,e)]).map bN)=bG (L.map bN)+qf e:=by
      unfold bG;rw[PV,PV,So];simp[bN]
     refine {cfg:=h.cfg,most:=h.most,ttl:=h.ttl,sort:=?_,num:=?_,nx:=?_,slab:=?_,heap:=⟨_,hh',?_⟩,send:=⟨m1,hx',?_⟩,wait:=?_,place:=?_,keys:=?_,kd:=?_,sd:=?_,lim:=?_,ents:=?_}
     ·rw[QI];exact⟨h.sort,by simp,λa ha b hb=>by rw[List.mem_singleton.1 hb];exact hnx a ha⟩
     ·intro x hx;rcases List.mem_append.1 hx with hx|hx
      ·have:=h.num x hx;dsimp only;omega
      ·rw[List.mem_singleton.1 hx];have:=h.nx;dsimp only;omega
     ·have:=h.nx;dsimp only;omega
     ·exact(hsj.le (by omega)).perm (mu slR L (p.nx,hd,e))
     ·exact(wh mh _).trans ((hhp.cons _).trans (mu pY L (p.nx,hd,e)))
     ·exact hpm.trans ((hmp.cons _).trans (mu rowR L (p.nx,hd,e)))
     ·rw[PV];exact hq'
     ·rw[PV];exact h.place.append_right _
     ·rw[PV];exact h.keys.append_right _
     ·rw[QI];exact⟨h.kd,by simp,λa ha b hb=>by rw[List.mem_singleton.1 hb];exact λe4=>hk (jh.2 ⟨a,ha,e4⟩)⟩
     ·rw[QI];exact⟨h.sd,by simp,λa ha b hb=>by rw[List.mem_singleton.1 hb];exact λe4=>hs (jh.2 ⟨a,ha,e4⟩)⟩
     ·rw[hb,PU];simp only[Qg,QF];omega
     ·intro x hx;rcases List.mem_append.1 hx with hx|hx
      ·exact h.ents x hx
      ·rw[List.mem_singleton.1 hx];exact he
end
section
variable {c:Nat}{p:PP}{L:List Rec}
theorem mv{α:Type}{R:α->α->Prop}(anti:∀a b,R a b->¬R b a):∀{l m:List α},l.Perm m->l.Pairwise R->m.Pairwise R->l=m
 |l,[],hp,_,_=>hp.eq_nil
 |[],x::m,hp,_,_=>hp.symm.eq_nil.symm
 |y::l,x::m,hp,hl,hm=>by
  rw[QZ]at hl hm;have e:y=x:=by
   rcases List.mem_cons.1 (hp.mem_iff.1 (Qn (a:=y)))with e|h1
   ·exact e
   ·rcases List.mem_cons.1 (hp.mem_iff.2 (Qn (a:=x)))with e|h2
    ·exact e.symm
    ·exact(anti _ _ (hl.1 _ h2) (hm.1 _ h1)).elim
  subst e;rw[mv anti ((List.perm_cons y).1 hp) hl.2 hm.2]
def Eo(p:PP):=af p.cf p.most p.size p.sl p.free p.it p.hp p.ix p.n p.b p.t p.w p.pl p.ids p.nx
def sortP(p:PP):=O7 p.cf p.most p.size p.sl p.free p.it p.hp p.ix p.n p.b p.t p.w p.pl p.ids p.nx
def BH(p:PP) (n:List UInt8):=O8 p.cf p.most p.size p.sl p.free p.it p.hp p.ix p.n p.b p.t p.w p.pl p.ids p.nx n
def Nw(p:PP) (h t:Int):=M8 p.cf p.most p.size p.sl p.free p.it p.hp p.ix p.n p.b p.t p.w p.pl p.ids p.nx h t
def lenP(p:PP):=aP p.cf p.most p.size p.sl p.free p.it p.hp p.ix p.n p.b p.t p.w p.pl p.ids p.nx
def bytP(p:PP):=W9 p.cf p.most p.size p.sl p.free p.it p.hp p.ix p.n p.b p.t p.w p.pl p.ids p.nx
theorem PJ.lenP(h:PJ c p L):lenP p=some (jg p ((L.length:Nat):Int)):=by
 unfold Am.lenP aP N8;rw[PS];dsimp only;rw[<-h.sizeL];rfl
theorem PJ.bytP(h:PJ c p L) (hc:c<=900):bytP p=some (jg p ((bG (L.map bN):Nat):Int)):=by
 unfold Am.bytP W9;rw[h.bytesL hc];rfl
theorem PJ.ents_ok(h:PJ c p L) (hc:c<=900):Eo p=some (jg p (L.map bN)):=by
 have hl:=h.len;have hks:(B9 (L.map plR)).Pairwise λa b=>a<b:=by
  unfold B9;rw[QN];exact List.pairwise_map.2 (h.sort.imp λh=>h)
 have e1:bX (B9 p.pl)=L.map (·.1):=by
  have:=bW kR kS pm (hks.imp λh=>PT (by omega)) (I6 h.place);refine Eq.trans this ?_;unfold B9;rw[QN];rfl
 have hg:cR (B9 p.pl)=true:=PT ⟨h.pnd,λx hx=>by
  obtain⟨v,hv⟩:=E3.1 ((I6 h.place).mem_iff.1 hx);obtain⟨y,hy,e⟩:=List.mem_map.1 hv;have h1:=h.num y hy;have h2:=h.nx;have e:y.1=x:=congrArg Prod.fst e;omega,by rw[dW,h.place.length_eq,PR];unfold LIM;omega⟩
 have ho:=h.of (xs:=L) (λx hx=>hx) (by omega);unfold ofP at ho;unfold Eo af;rw[hg,aC,e1,ho];rfl
end
end Go.Proofs.YthkhcbphbabefaaGreat.Am
