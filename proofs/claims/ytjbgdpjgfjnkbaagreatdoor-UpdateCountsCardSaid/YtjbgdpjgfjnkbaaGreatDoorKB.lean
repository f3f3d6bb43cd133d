/- Texts laid together: AmEnt, AmEnt2, AmEnt3, AmApp, AmReg, AmCode, AmLe, AmDraw, AmSpec, AmTake, AmCall, AmCall2, AmCall3, AmKeys, AmTail, AmFn, AmBuilt, AmEval. No conditions. -/
import Derived.Test.YtjbgdpjgfjnkbaaGreatDoorKA
import Derived.Below
import Derived.Laws.Entries
import Derived.Laws.Bits64
namespace Go.Proofs.YtjbgdpjgfjnkbaaGreatDoor.Am
open Go Go.MapKept
section
variable {P:Program}{W0:World}{M:Own}{G:Gh}{s:St}{a:Act}{w:World}{o:Oper}{K:List Upd->Prop}{Q':Exit->Act->World->Prop}
end
section
variable {P:Program}{W0:World}{M:Own}{G:Gh}{s:St}{a:Act}{w w':World}{o:Oper}
end
section
variable {P:Program}{T:TypeId->Option TI}{W0:World}{M:Own}{G:Gh}{s:St}{a:Act}{w:World}{o:Oper}{K:List Upd->Prop}{Q':Exit->Act->World->Prop}
end
end Go.Proofs.YtjbgdpjgfjnkbaaGreatDoor.Am
namespace Go.Proofs.YtjbgdpjgfjnkbaaGreatDoor.Am
open Go
section
variable {P:Program}{T:TypeId->Option TI}{W0:World}{M:Own}{G:Gh}{s:St}{a:Act}{w:World}{o:Oper}{K:List Upd->Prop}{Q':Exit->Act->World->Prop}
theorem XE{t e:TypeId}{i:TI}(hT:TOk P e i) (hu:P.underlying t=some (.slice e)) (ty:TypeId){v:Value}{n z:Nat}{xs:List Value}(how:w.ownsRow 0 e z v n xs) (c:Nat) :
  (Builtin.append_ #[t,t] ty #[v,.slice none 0 c]).run P w= .ok v w:=by
 obtain⟨inf,zv,hinf,_⟩:=hT.info;rcases how.2 with⟨rfl,rfl⟩|⟨g,cap,cur,rfl,_,_,hnc,_⟩
 ·simp[Builtin.append_,run_underlying hu,Go.sizeOf,typeInfo,hinf,Builtin.lenOf,Builtin.firstCells]
 ·simp[Builtin.append_,run_underlying hu,Go.sizeOf,typeInfo,hinf,Builtin.lenOf,Builtin.firstCells,hnc,storeCells]
theorem HA{t e:TypeId}{i:TI}(hT:TOk P e i) (hz0:0<i.size) (hu:P.underlying t=some (.slice e)) (ty:TypeId){v u:Value}{n:Nat}{xs:List Value}(how:w.ownsRow 0 e i.size v n xs){ys:List (List DV)}{I:Nat->Nat->Prop}
  (hd:DVr I w (.sl ys) u) (hal:BQ i.size ys) (hb:(n+ys.length)*i.bytes<=140737488355328) (hm:n+ys.length<=4611686018427387904) :
  ∃v' w' yc,(Builtin.append_ #[t,t] ty #[v,u]).run P w= .ok v' w'/\w'.ownsRow 0 e i.size v' (n+ys.length) (xs++yc)/\V2 I w ys yc/\
   ((v'.ownBlock=v.ownBlock/\w.grownBy w' v.ownBlock)\/(w.grownBy w' none/\v'.ownBlock=some w.heap.size)):=by
 simp only[DVr]at hd;obtain⟨A,c,z,yc,rfl,h1,h2,h3,h4,h5,h6⟩:=hd;cases A with
 |none=>
  have h0:ys=[]:=by
   rcases a66 ys.length with h|h
   ·exact a6f h
   ·obtain⟨_,h,_⟩:=h5 h;cases h
  subst h0;exact⟨v,w,[],XE hT hu ty how c,by simpa using how,by simp[V2],.inl ⟨rfl,rfl,rfl,rfl,a56 _,λ_ _ _=>rfl⟩⟩
 |some ad=>
  obtain⟨inf,zv,hinf,hsz,hby,hz,hzl,hzn,hz1⟩:=hT.info;have hyl:=h6.len hal;have hcells:∀j x,yc[j]?=some x->w.cell? (ad.add j)=some x:=by
   intro j x hj;have h0:0<ys.length:=by
    rcases a66 ys.length with h|h
    ·rw[h]at hyl;have:yc=[]:=a6f (by omega);subst this;simp at hj
    ·exact h
   obtain⟨ad',e1,hc⟩:=h5 h0;injection e1 with e1;subst e1;exact(hc j x hj).1
  obtain⟨v',w',hr,k1,k2,_,k4⟩:=run_append_own_at (P:=P) w 0 t ty e inf zv i.size i.bytes hu hinf hz hsz hby (by rw[<-a59,hzl];exact hzn) hz0 v n xs how ad ys.length c yc hyl hcells (h6.one) (by simp only[maxLen];omega) hb (a6p _);refine⟨v',w',yc,hr,k1,h6,?_⟩;rcases how.2 with⟨rfl,rfl⟩|⟨g,cap,cur,rfl,_,hg,hnc,hcm,hcs,htk⟩
  ·by_cases hy0:ys.length=0
   ·have h0:ys=[]:=a6f hy0;subst h0;rcases k4 with k4|k4
    ·exact .inl ⟨k4,k2⟩
    ·exact .inr ⟨k2,k4⟩
   ·have hr2:=run_append_nil (P:=P) w t ty e inf zv hu hinf hz ad ys.length c yc (by rw[hyl,hsz]) hcells (by omega) (by omega) (by rw[hby];simp only[a6j]at hb;omega);rw[hr2]at hr;injection hr with e1 e2;subst e1;subst e2;exact .inr ⟨sg w _,rfl⟩
  ·by_cases hroom:n+ys.length<=cap
   ·have hfit:n*inf.size+yc.length<=cur.size:=by rw[hyl,hcs,hsz,<-a7x];exact a6k _ hroom
    have hr2:=run_append_room (P:=P) w t ty e inf hu hinf g n cap cur hg ad ys.length c yc (by rw[hyl,hsz]) hcells (h6.one) hroom hfit;rw[hr2]at hr;injection hr with e1 e2;subst e1;exact .inl ⟨rfl,k2⟩
   ·have holds:∀j x,xs[j]?=some x->w.cell? ((⟨g,0,none⟩:Addr).add j)=some x:=how.cells (g:=g) rfl;have hr2:=run_append_grow (P:=P) w t ty e inf zv hu hinf hz ⟨g,0,none⟩ n cap xs (by rw[how.1,hsz]) holds ad ys.length c yc (by rw[hyl,hsz]) hcells (by omega) (by omega) (growslice_fits (by omega) (by rw[hby];exact hb));rw[hr2]at hr;injection hr with e1 e2;subst e1;subst e2;exact .inr ⟨sg w _,rfl⟩
theorem JN{I:Nat->Nat->Prop}{e:TypeId}{z n m:Nat}{v v':Value}{w':World}{xs yc:List Value}(how:w.ownsRow 0 e z v n xs) (how':w'.ownsRow 0 e z v' m (xs++yc)) (hIn:∀b o,I b o->b<w.heap.size)
  (hI:∀g,v.ownBlock=some g->∀o,I g o->o<n*z) (h:(v'.ownBlock=v.ownBlock/\w.grownBy w' v.ownBlock)\/(w.grownBy w' none/\v'.ownBlock=some w.heap.size)):pF I w w':=by
 intro b o hi;have hlt:=hIn b o hi;rcases h with⟨h1,h2⟩|⟨h1,_⟩
 ·by_cases hb:v.ownBlock=some b
  ·have ho:=hI b hb o hi;have hl:o<xs.length:=by rw[how.1];exact ho
   have c1:=how.cells hb o xs[o] (List.getElem?_eq_getElem hl);have c2:=how'.cells (h1.trans hb) o xs[o] (by rw[List.getElem?_append_left hl];exact List.getElem?_eq_getElem hl);have hadd:(⟨b,0,none⟩:Addr).add o=⟨b,o,none⟩:=by rw[du _ _ rfl];simp
   rw[hadd]at c1 c2;rw[c1,c2]
  ·exact World.cell?_of_block (a:=⟨b,o,none⟩) (h2.block b hlt (λe=>hb e.symm))
 ·exact World.cell?_of_block (a:=⟨b,o,none⟩) (h1.block b hlt (by simp))
theorem ZZ(h:Rel W0 M G s a w){x:AV}{v:Value}{K:Nat->Prop}(hx:AVr G s w x v) (hq:(a2S x).wp s K):∃A n c,v= .slice A n c/\K n:=by
 unfold a2S at hq;split at hq
 ·have h1:=J2 hx;simp only[ACr,DVr]at h1;obtain⟨A,c,z,xs,h1,_⟩:=h1;exact⟨A,_,c,h1,hq⟩
 ·have h1:=J2 hx;simp only[ACr]at h1;exact⟨none,0,0,h1,hq⟩
 ·rename_i id ver;simp only[Q.wp]at hq;split at hq
  ·rename_i R hR;obtain⟨⟨e,hE⟩,hq⟩:=hq;have h1:=J2 hx;simp only[ACr]at h1;obtain rfl:=h1.2.2 e (by rw[hR];rfl);obtain⟨_,_,xs,ho,_⟩:=(h.mem.rw id R hR).sl hE;rcases ho.2 with⟨hv,h0⟩|⟨g,cap,cur,hv,_⟩
   ·exact⟨none,0,0,hv,by rw[h0]at hq;exact hq⟩
   ·exact⟨_,_,cap,hv,hq⟩
  ·exact hq.elim
 ·exact hq.elim
theorem a0a{d:Nat}{t e:TypeId}{i:TI}(hT:TOk P e i) (hz0:0<i.size) (hu:P.underlying t=some (.slice e)) (h:Rel W0 M G s a w) (hdd:o.dst=some d) (hd:d<s.n){x y:AC}{u v:Value}(hx:ACr G s w x u) (hy:ACr G s w y v) (hq:(CY d e i.size i.bytes x y).wp s K)
  (hrun:∀r w',(Builtin.append_ #[t,t] o.type #[u,v]).run P w= .ok r w'->(execOp a.eval o).run P w= .ok (.value r) w'):pK P W0 M s o a w K Q':=by
 unfold CY at hq;rw[Q.wp_bind]at hq;obtain⟨yd,hq1,_,hyd⟩:=BW hy hq;clear hq;split at hq1
 ·rename_i ys hys;obtain⟨⟨hal,heF⟩,hq2⟩:=hq1;rw[Q.wp_bind]at hq2;obtain⟨us,G',hq3,hR,hE,hf,hfrz,hb',hr',hfr⟩:=qE h hq2;clear hq2;have hdv:=hyd G'.I hE.I hf;rw[hys]at hdv;simp only[Q.wp]at hq3;have hver:(s.r d).ver=((s.app us).r d).ver:=((hfrz.2.2.2 d).1).symm;split at hq3
  ·obtain⟨⟨hb,hm⟩,hq4⟩:=hq3;simp only[ACr]at hx;subst hx;obtain⟨v',w',yc,hr,how',hde,halt⟩:=HA (n:=0) (xs:=[]) hT hz0 hu o.type (World.ownsRow_nil w 0 e i.size) hdv hal (by simpa using hb) (by simpa using hm);have hgn:w.grownBy w' none:=by
    rcases halt with⟨_,h2⟩|⟨h1,_⟩
    ·exact h2
    ·exact h1
   have hk:=JN (World.ownsRow_nil w 0 e i.size) how' hR.mem.In (λg hg=>by cases hg) halt;rw[hver]at hq4;rw[a6j,a6w]at how';refine zJ (s0:=s) (us:=us) hR hdd (by rw[hfrz.1];exact hd) (R:=⟨ys,i.size,e,false⟩) (v:=v') hgn ⟨hz0,hal,.inl ⟨heF,yc,how',V2.mono (λ_ _ h=>h) hk _ hde⟩⟩ (λb hb=>?_) rfl hq4 (hrun _ _ hr);rw[jJ how']at hb;rcases halt with⟨h1,_⟩|⟨_,h1⟩
   ·rw[h1]at hb;cases hb
   ·rw[h1]at hb;injection hb with hb;omega
  ·rename_i id ver;simp only[Q.wp]at hq3;split at hq3
   ·rename_i R hRr;obtain⟨⟨e1,e2,e3,hb,hm⟩,hq4⟩:=hq3;simp only[ACr]at hx;have hu':=hx.2.2 e1 (by rw[hRr];rfl);obtain⟨fr,hR1,hfrf⟩:=(hfrz.2.2.2 id).2.2 R hRr;obtain⟨hz,huni,xs,how,hde0⟩:=(hR.mem.rw id _ hR1).sl (by simp only;rw[e3];exact heF);simp only at hz huni how hde0;rw[e2,e3]at how;rw[hr',<-hu']at how;obtain⟨v',w',yc,hr,how',hde,halt⟩:=HA hT hz0 hu o.type how hdv hal hb hm;have hobu:=jJ how;have hobv:=jJ how';have hrI:∀g,u.ownBlock=some g->∀o',G'.I g o'->fr=true/\o'<R.es.length*i.size:=λg hg o' hi=>by
     have:=hR.mem.rI id _ g hR1 (by rw[hr',<-hu',hobu];exact hg) o' hi;rw[e2]at this;exact this
    have hk:=JN how how' hR.mem.In (λg hg o' hi=>(hrI g hg o' hi).2) halt;obtain⟨m1,x1⟩:=hR.mem.dropRow id;have hownu:∀g,u.ownBlock=some g->g∈own G' (s.app us) (.inr id):=λg hg=>pg hR1 (by rw[hr',<-hu',hobu];exact hg);have hout:∀x g,u.ownBlock=some g->g∉own G' ((s.app us).setR id ⟨((s.app us).r id).ver,none⟩) x:=λx g hg hx'=>by
     have h1:g∈own G' (s.app us) x:=by
      rcases x with k|k
      ·exact hx'
      ·by_cases e:k=id
       ·subst e;simp[own,St.setR,upd]at hx'
       ·simpa [own,St.setR,upd,e]using hx'
     have:=hR.mem.dj x (.inr id) g h1 (hownu g hg);subst this;simp[own,St.setR,upd]at hx'
    have hMu:∀g,u.ownBlock=some g->W0.heap.size<=g\/M g:=λg hg=>hR.mem.oM _ g (hownu g hg);have hgu:w.grownBy w' u.ownBlock/\(v'.ownBlock=u.ownBlock\/v'.ownBlock=some w.heap.size):=by
     rcases halt with⟨h1,h2⟩|⟨h1,h2⟩
     ·exact⟨h2,.inl h1⟩
     ·exact⟨⟨h1.os,h1.tape,h1.output,h1.size,λk hk' _=>h1.block k hk' (by simp)⟩,.inr h2⟩
    have m2:=m1.world hgu.1 hk (λx b hx' e=>hout x b e hx') (λb hb' hlt=>by rcases hMu b hb' with h|h;omega;exact h);have x2:Ext G' ((s.app us).setR id ⟨((s.app us).r id).ver,none⟩) w G' ((s.app us).setR id ⟨((s.app us).r id).ver,none⟩) w':=⟨λ_ _ h=>h,hk,λ_=>⟨a56 _,λ_ h=>⟨h,rfl⟩⟩,λ_=>⟨a56 _,λ_ h=>⟨h,rfl⟩⟩,λ_ _=>rfl⟩;have hvd:(((s.app us).setR id ⟨((s.app us).r id).ver,none⟩).r d).ver=(s.r d).ver:=by
     rw[hver];simp only[St.setR,upd];by_cases e:d=id
     ·subst e;simp
     ·simp[e]
    have hidv:((s.app us).r id).ver=(s.r id).ver:=(hfrz.2.2.2 id).1;have hrow:jK G'.I w' v' ⟨R.es++ys,i.size,e,R.fr||yd.2.contains id⟩:=by
     refine⟨hz0,λf hf'=>?_,.inl ⟨heF,xs++yc,by simp only[a5K];exact how',V2.mono (λ_ _ h=>h) hk _ (V2.app hde0 hde)⟩⟩;rcases List.mem_append.1 hf' with h|h
     ·rw[<-e2];exact huni f h
     ·exact hal f h
    obtain⟨m3,x3⟩:=m2.addRow d ((s.r d).ver+1) v' ⟨R.es++ys,i.size,e,R.fr||yd.2.contains id⟩ (by rw[hvd];omega) hrow (λx b hv' hx'=>by
     rw[hobv]at hv';rcases hgu.2 with h|h
     ·rw[h]at hv';exact hout x b hv' hx'
     ·rw[h]at hv';injection hv' with hv';subst hv';have:=m1.ownlt hx';omega) (λg hg o' hi=>by
     rw[hobv]at hg;rcases hgu.2 with h|h
     ·rw[h]at hg;obtain⟨q1,q2⟩:=hrI g hg o' hi;refine⟨?_,by simp only[a5K,a7x];omega⟩;simp only[a60];rcases hfr id _ hR1 q1 with⟨R',r1,r2⟩|r1
      ·rw[hRr]at r1;injection r1 with r1;subst r1;exact .inl r2
      ·exact .inr (by simpa using r1)
     ·rw[h]at hg;injection hg with hg;subst hg;have:=hR.mem.In _ _ hi;omega) (λg hg=>by
     rw[hobv]at hg;rcases hgu.2 with h|h
     ·rw[h]at hg;exact hMu g hg
     ·rw[h]at hg;injection hg with hg;subst hg;exact .inl hR.mem.fr.size)
    refine eV (hrun _ _ hr) ⟨_,hq4,?_⟩;have hR3:=hR.mem' ((x1.trans x2).trans x3) m3 rfl rfl;rw[St.app_append,hdd];rw[hidv]at hR3;refine⟨_,hR3.put (show d<_ from by show d<(s.app us).n;rw[hfrz.1];exact hd) ⟨λ_=>?_,λe=>by cases e⟩⟩;have hone:v'.oneCell'=true:=by
     rcases how'.2 with⟨rfl,_⟩|⟨g,cap,cur,rfl,_⟩ <;> rfl
    simp only[AVr,ACr,St.setR,upd,a6x];exact⟨hone,a56 _,λ_ _=>trivial⟩
   ·exact hq3.elim
  ·exact hq3.elim
 ·exact hq1.elim
end
section
variable {P:Program}{T:TypeId->Option TI}{cq:Oper->Call->Q (List Upd)}
theorem Wp(hT:∀t i,T t=some i->TOk P t i) (hcq:∀o c,o.op= .call c->NW P o (cq o c)) (o:Oper):NW P o (opQ T cq o):=by
 intro W0 M s a w K Q' hd hR hq;obtain⟨G,h⟩:=hR;unfold opQ at hq;split at hq
 ·rename_i x ho;exact Oc (.inl ho) h hd hq
 ·rename_i x ho;exact Oc (.inr ho) h hd hq
 ·rename_i c x y ho;exact Xz ho h hd hq
 ·rename_i t ho;exact SO ho hT h hd hq
 ·rename_i t x ho;exact ZW ho h hd hq
 ·rename_i t ps ho;exact SX ho hT h hd hq
 ·rename_i t n ps ho;exact Df ho hT h hd hq
 ·rename_i t x ho;exact XB ho hT h hd hq
 ·rename_i t x y ho;split at hq
  ·exact hq.elim
  ·rename_i hdst;exact ST ho hT h hdst hq
 ·rename_i x ho;exact Hx ho h hd hq
 ·rename_i op t x y t' ho;exact SS ho hT h hd hq
 ·rename_i op t x ho;exact XC ho h hd hq
 ·rename_i t t' x ho;exact Ma ho hT h hd hq
 ·rename_i t x lo hi ho;exact SU ho hT h hd hq
 ·rename_i t x f ho;exact SQ ho hT h hd hq
 ·rename_i t x y ho;exact SW ho hT h hd hq
 ·rename_i t x y ho;exact Ot ho hT h hd hq
 ·rename_i t x f ho;exact Ou ho hT h hd hq
 ·rename_i x k ho;exact LX ho h hd hq
 ·rename_i t x y ho;exact Fa ho hT h hd hq
 ·rename_i t r ho;exact Me ho hT h hd hq
 ·rename_i t x y z ho;split at hq
  ·exact hq.elim
  ·rename_i hdst;exact Ff ho hdst hT h hq
 ·rename_i t x ho;exact Mg ho hT h hd hq
 ·rename_i x ho;exact XJ ho h hd hq
 ·rename_i fn fs cs ho;exact HC ho h hd hq
 ·rename_i t x ho;exact yD ho hT h hd hq
 ·rename_i x xt t ho;exact Di ho hT h hd hq
 ·rename_i c ho;exact hcq o c ho W0 M s a w K Q' hd ⟨G,h⟩ hq
 ·exact hq.elim
theorem OE(hT:∀t i,T t=some i->TOk P t i) (hcq:∀o c,o.op= .call c->NW P o (cq o c)){ops:Array Oper}{l:List Oper}(hl:ops=l.toArray){o:Oper}{W0:World}{M:Own}{s:St}{a:Act}{w:World}{K:List Upd->Prop}{Q':Exit->Act->World->Prop}
  (hd:∀d,o.dst=some d->d<s.n) (hR:uX W0 M s a w) (hq:wpO T cq l o s K) :
  if Region.wanted o (yielded ops a.tmps)=true then o.wp P a w (λa' w'=>∃us,K us/\uX W0 M (s.app us) a' w') Q' else ∃us,K us/\uX W0 M (s.app us) (a.put o.dst undef) w:=by
 unfold wpO opD at hq;obtain⟨G,h⟩:=hR;have skip:K (Db o.dst)->∃us,K us/\uX W0 M (s.app us) (a.put o.dst undef) w:=λhk=>by
  refine⟨_,hk,?_⟩;cases hdst:o.dst with
  |none=>exact⟨G,h⟩
  |some dd=>exact⟨G,h.put (hd dd hdst) ⟨λe=>by simp at e,λ_=>rfl⟩⟩
 split at hq
 ·rename_i hg;have hw:Region.wanted o (yielded ops a.tmps)=true:=by simp[Region.wanted,hg]
  rw[a5W hw];exact Wp hT hcq o W0 M s a w K Q' hd ⟨G,h⟩ hq
 ·rename_i j want hg;split at hq
  ·rename_i d hjd;have hoj:ops[j]?.bind (·.dst)=some d:=by rw[hl];simpa using hjd
   have hgv:=h.tm d;cases ho:ops[j]? with
   |none=>rw[ho]at hoj;cases hoj
   |some oj=>
    rw[ho]at hoj;have hdst:oj.dst=some d:=hoj;simp only[Q.wp]at hq;cases hgt:(s.t d).g with
    |false=>
     rw[hgt]at hq;have hw:Region.wanted o (yielded ops a.tmps)=false:=by
      have h1:=hgv.2 hgt;rw[Array.getD_eq_getD_getElem?]at h1;cases ht:a.tmps[d]? with
      |none=>simp[Region.wanted,hg,yielded,ho,hdst,ht]
      |some v=>
       rw[ht]at h1;simp only[a6m]at h1;subst h1;simp[Region.wanted,hg,yielded,ho,hdst,ht,undef]
     rw[a5U (by rw[hw];simp)];exact skip hq
    |true=>
     rw[hgt]at hq;simp only[Q.wp_bind]at hq;obtain⟨b,hx,hq⟩:∃b,(s.t d).x= .c (.d (.v (.bool b)))/\((match b==want with|true=>opQ T cq o|false=>Q.ret (Db o.dst)):Q (List Upd)).wp s K:=by
      unfold Q.bool at hq;split at hq
      ·rename_i b hb;exact⟨b,hb,hq⟩
      ·exact hq.elim
     have hw:Region.wanted o (yielded ops a.tmps)=(b==want):=by
      have:=hgv.1 hgt;rw[hx]at this;simp only[AVr,ACr,DVr]at this;have h1:=this.1;rw[Array.getD_eq_getD_getElem?]at h1;cases ht:a.tmps[d]? with
      |none=>rw[ht]at h1;simp[undef]at h1
      |some v=>
       rw[ht]at h1;simp only[a6m]at h1;subst h1;cases b <;> cases want <;> simp[Region.wanted,hg,yielded,ho,hdst,ht]
     rw[hw];cases hbw:(b==want) with
     |true=>
      rw[hbw]at hq;simp only[a6x];exact Wp hT hcq o W0 M s a w K Q' hd ⟨G,h⟩ hq
     |false=>
      rw[hbw]at hq;simp only[a7M,a6o];exact skip hq
  ·exact hq.elim
def wpR(T:TypeId->Option TI) (cq:Oper->Call->Q (List Upd)) (l:List Oper):List Oper->St->(St->Prop)->Prop
 |[],s,K=>K s
 |o::rest,s,K=>wpO T cq l o s λus=>wpR T cq l rest (s.app us) K
def Fg(n:Nat) (o:Oper):Bool:=match o.dst with | some d=>decide (d<n) | none=>true
theorem OF(s:St):∀us:List Upd,(s.app us).n=s.n
 |[]=>rfl
 |u::us=>by rw[St.app,OF];cases u <;> rfl
theorem OG(hT:∀t i,T t=some i->TOk P t i) (hcq:∀o c,o.op= .call c->NW P o (cq o c)){l:List Oper}{W0:World}{M:Own}{Q':Exit->Act->World->Prop}{K:St->Prop}{n:Nat}(hfin:∀s' a' w',s'.n=n->K s'->uX W0 M s' a' w'->Q' .normal a' w') :
  ∀{rest:List Oper} {s:St} {a:Act} {w:World},(rest.all (Fg n))=true->s.n=n->uX W0 M s a w->wpR T cq l rest s K->wpList P l.toArray Q' rest a w
 |[],s,a,w,_,hn,hR,hq=>wpList_nil (hfin s a w hn hq hR)
 |o::rest,s,a,w,hd,hn,hR,hq=>by
  simp only[a61,a5S]at hd;simp only[wpR]at hq;have hd1:∀d,o.dst=some d->d<s.n:=λd e=>by have h1:=hd.1;unfold Fg at h1;rw[e]at h1;have h2:=a5P h1;rw[hn];exact h2
  have:=OE (P:=P) hT hcq (ops:=l.toArray) rfl (Q':=Q') hd1 hR hq;refine wpList_step ?_;intro K' hK';split
  ·rename_i hw;rw[a5W hw]at this;refine Oper.wp_mono (λa' w'=>?_) this;rintro⟨us,hk,hr⟩;exact hK' _ _ (OG hT hcq hfin hd.2 (by rw[OF];exact hn) hr hk)
  ·rename_i hw;rw[a5U hw]at this;obtain⟨us,hk,hr⟩:=this;exact hK' _ _ (OG hT hcq hfin hd.2 (by rw[OF];exact hn) hr hk)
end
inductive AX where
 |normal
 |exit (id:Nat)
 |ret
def QK(W0:World) (M:Own) (K:AX->St->Prop):Exit->Act->World->Prop
 |.normal,a,w=>∃s,uX W0 M s a w/\K .normal s
 |.exit i,a,w=>∃s,uX W0 M s a w/\K (.exit i) s
 |.ret,a,w=>∃s,uX W0 M s a w/\K .ret s
 |_,_,_=>False
def Tri(P:Program) (c:Code) (K:AX->St->Prop) (s:St):Prop:=∀W0 M a w,uX W0 M s a w->c.wp P (QK W0 M K) a w
def Le(s s':St):Prop:=∀W0 M a w,uX W0 M s a w->uX W0 M s' a w
def a4h(P:Program) (y:Code) (K:AX->St->Prop):AX->St->Prop
 |.normal,s=>Tri P y K s
 |.exit i,s=>K (.exit i) s
 |.ret,s=>K .ret s
def a4i(id:Nat) (K:AX->St->Prop):AX->St->Prop
 |.normal,s=>K .normal s
 |.exit i,s=>if i=id then K .normal s else K (.exit i) s
 |.ret,s=>K .ret s
def a3c(n:Nat) (I:Nat->St->Prop) (K:AX->St->Prop):AX->St->Prop
 |.normal,s=>∃m s',m<n/\Le s s'/\I m s'
 |.exit i,s=>K (.exit i) s
 |.ret,s=>K .ret s
section
variable {P:Program}{T:TypeId->Option TI}{cq:Oper->Call->Q (List Upd)}{K:AX->St->Prop}{s:St}
theorem Le.refl(s:St):Le s s:=λ_ _ _ _ h=>h
theorem Le.trans{s1 s2 s3:St}(h:Le s1 s2) (k:Le s2 s3):Le s1 s3:=λW0 M a w r=>k W0 M a w (h W0 M a w r)
theorem Te(h:K .normal s):Tri P .skip K s:=λ_ _ _ _ hR=>wp_skip ⟨s,hR,h⟩
theorem XK(h:K .ret s):Tri P .ret K s:=λ_ _ _ _ hR=>wp_ret ⟨s,hR,h⟩
theorem Tf{i:Nat}(h:K (.exit i) s):Tri P (.exit i) K s:=λ_ _ _ _ hR=>wp_exit ⟨s,hR,h⟩
theorem a0e{c:Code}{s':St}(hl:Le s s') (h:Tri P c K s'):Tri P c K s:=λW0 M a w hR=>h W0 M a w (hl W0 M a w hR)
theorem Dj{x y:Code}(h:Tri P x (a4h P y K) s):Tri P (.seq x y) K s:=λW0 M a w hR=>wp_seq (wp_mono (h W0 M a w hR) λe a' w' hq=>by
 cases e with
 |normal=>obtain⟨s',h1,h2⟩:=hq;exact h2 W0 M a' w' h1
 |exit i=>exact hq
 |ret=>exact hq
 |goto l=>exact hq.elim
 |panic c=>exact hq.elim
 |outgrown=>exact hq.elim)
theorem OH{id:Nat}{c:Code}(h:Tri P c (a4i id K) s):Tri P (.block id c) K s:=λW0 M a w hR=>wp_block (wp_mono (h W0 M a w hR) λe a' w' hq=>by
 cases e with
 |normal=>exact hq
 |exit i=>
  obtain⟨s',h1,h2⟩:=hq;simp only[a4i]at h2;simp only[Exit.inBlock];split
  ·rename_i e;rw[a5W e]at h2;exact⟨s',h1,h2⟩
  ·rename_i e;rw[a5U e]at h2;exact⟨s',h1,h2⟩
 |ret=>exact hq
 |goto l=>exact hq.elim
 |panic c=>exact hq.elim
 |outgrown=>exact hq.elim)
theorem Tg{c:Operand}{x y:Code}(h:((ev c).bind Q.bool).wp s λb=>(b=true->Tri P x K s)/\(b=false->Tri P y K s)):Tri P (.cond c x y) K s:=λW0 M a w hR=>by
 obtain⟨G,hr⟩:=hR;rw[Q.wp_bind]at h;obtain⟨v,h1,hv⟩:=eW hr h;obtain⟨b,hb,_,h2⟩:=NY hv h1;refine wp_cond_split hb (λe=>?_) (λe=>?_)
 ·exact h2.1 e W0 M a w ⟨G,hr⟩
 ·exact h2.2 e W0 M a w ⟨G,hr⟩
theorem BZ(hT:∀t i,T t=some i->TOk P t i) (hcq:∀o c,o.op= .call c->NW P o (cq o c)){id:Nat}{l:List Oper}(hd:(l.all (Fg s.n))=true) (h:wpR T cq l l s (K .normal)):Tri P (.region id l.toArray false) K s:=λ_W0 _M _a _w hR=>
 wp_region_lit (OG hT hcq (n:=s.n) (λs' _a' _w' _ hk hr=>⟨s',hr,hk⟩) hd rfl hR h)
theorem qH(p:Nat->Prop) (h:∃n,p n):∃n,p n/\∀m,p m->n<=m:=by
 refine Classical.byContradiction λhc=>?_;have:∀n,¬p n:=λn=>by
  induction n using Nat.strongRecOn with
  |_ n ih=>
   intro hn;exact hc ⟨n,hn,λm hm=>by
    rcases a6y m n with h|h
    ·exact(ih m h hm).elim
    ·exact h⟩
 obtain⟨n,hn⟩:=h;exact this n hn
theorem Th(I:Nat->St->Prop){n0:Nat}{s0:St}{c:Code}(h0:Le s s0) (hi:I n0 s0) (h:∀n s,I n s->Tri P c (a3c n I K) s):Tri P (.loop c) K s:=λW0 M a w hR=>by
 classical
 let J:Act->World->Nat->Prop:=λa w n=>∃s,I n s/\uX W0 M s a w;let μ:Act->World->Nat:=λa w=>if h:∃n,J a w n then Classical.choose (qH _ h)else 0
 refine wp_loop (λa w=>∃n,J a w n) μ ⟨n0,s0,hi,h0 W0 M a w hR⟩ (λa w hJ=>?_);obtain⟨⟨s1,hi1,hr1⟩,_⟩:=Classical.choose_spec (qH _ hJ);have hμ:μ a w=Classical.choose (qH _ hJ):=dif_pos hJ;refine wp_mono (h _ s1 hi1 W0 M a w hr1) λe a' w' hq=>?_;cases e with
 |normal=>
  obtain⟨s',h1,m,s'',h2,h3,h4⟩:=hq;have hj:J a' w' m:=⟨s'',h4,h3 W0 M a' w' h1⟩;refine⟨⟨m,hj⟩,?_⟩;have h5:μ a' w'<=m:=by
   show(if h:∃n,J a' w' n then Classical.choose (qH _ h)else 0)<=m
   rw[dif_pos ⟨m,hj⟩];exact(Classical.choose_spec (qH _ (⟨m,hj⟩:∃n,J a' w' n))).2 m hj
  rw[hμ];omega
 |exit i=>exact hq
 |ret=>exact hq
 |goto l=>exact hq.elim
 |panic c=>exact hq.elim
 |outgrown=>exact hq.elim
end
def jb{α:Type}:List (Nat×α)->Nat->Option α
 |[],_=>none
 |(k,x)::l,j=>if j=k then some x else jb l j
def rt(n:Nat) (t:List (Nat×AV)) (b:List (Nat×Nat×List AC)) (r:List (Nat×Option Nat×Row)):St:=
 ⟨n,λk=>⟨decide (k<n),(jb t k).getD .any⟩,λk=>⟨0,(jb b k).map (·.2)⟩,λk=>⟨0,(jb r k).map (·.2)⟩⟩
def a0f(s:St) (b:List (Nat×Nat×List AC)) (r:List (Nat×Option Nat×Row)):AC->AC->Prop
 |_,.junk=>True
 |.d x,.d y=>x=y
 |.nil,.nil=>True
 |.nil,.d y=>y= .sl []
 |.nil,.row id' ver'=>ver'=0/\(jb r id').map (·.1)=some none
 |.row id ver,.row id' ver'=>ver=(s.r id).ver/\ver'=0/\(jb r id').map (·.1)=some (some id)
 |.ptr id ver off,.ptr id' ver' off'=>ver=(s.b id).ver/\ver'=0/\off=off'/\(jb b id').map (·.1)=some id
 |.eptr cs,.eptr cs'=>cs=cs'
 |.rptr id ver i off sz,.rptr id' ver' i' off' sz'=>ver=(s.r id).ver/\ver'=0/\(jb r id').map (·.1)=some (some id)/\i=i'/\off=off'/\sz=sz'
 |_,_=>False
def yE(s:St) (b:List (Nat×Nat×List AC)) (r:List (Nat×Option Nat×Row)):List AC->List AC->Prop
 |[],[]=>True
 |x::xs,y::ys=>a0f s b r x y/\yE s b r xs ys
 |_,_=>False
def a0g(s:St) (b:List (Nat×Nat×List AC)) (r:List (Nat×Option Nat×Row)):AV->AV->Prop
 |_,.any=>True
 |.c x,.c y=>a0f s b r x y
 |.agg xs,.agg ys=>yE s b r xs ys
 |_,_=>False
def rowLe(R R':Row):Prop:=R.es=R'.es/\R.sz=R'.sz/\R.e=R'.e/\(R.fr=true->R'.fr=true)
def sP(s:St) (b:List (Nat×Nat×List AC)) (r:List (Nat×Option Nat×Row)):List (Nat×AV)->Prop
 |[]=>True
 |(k,y)::l=>((k<s.n->(s.t k).g=true)/\a0g s b r (s.t k).x y)/\sP s b r l
def XL(s:St) (b:List (Nat×Nat×List AC)) (r:List (Nat×Option Nat×Row)) (x:Option (List AC)) (y:List AC):Prop:=match x with
 |some cs=>yE s b r cs y
 |none=>False
def vd(s:St) (b:List (Nat×Nat×List AC)) (r:List (Nat×Option Nat×Row)):List (Nat×Nat×List AC)->Prop
 |[]=>True
 |(_,id,y)::l=>XL s b r (s.b id).c y/\vd s b r l
def rowSrc(s:St) (id:Option Nat) (R:Row):Prop:=match id with
 |none=>R.es=[]/\0<R.sz/\R.e<jn
 |some id=>match(s.r id).c with
  |some R'=>rowLe R' R
  |none=>False
def rowsLe(s:St):List (Nat×Option Nat×Row)->Prop
 |[]=>True
 |(_,id,R)::l=>rowSrc s id R/\rowsLe s l
section
variable {s:St}{n:Nat}{t:List (Nat×AV)}{b:List (Nat×Nat×List AC)}{r:List (Nat×Option Nat×Row)}
theorem nm{α:Type}:∀{l:List (Nat×α)}{k:Nat}{x:α},jb l k=some x->(k,x)∈l
 |[],_,_,h=>by simp[jb]at h
 |(j,y)::l,k,x,h=>by
  simp only[jb]at h;split at h
  ·rename_i e;injection h with h;subst h;subst e;simp
  ·exact a6h _ (nm h)
theorem sP.get:∀{l:List (Nat×AV)},sP s b r l->∀{k:Nat}{y:AV},(k,y)∈l->(k<s.n->(s.t k).g=true)/\a0g s b r (s.t k).x y
 |(k0,y0)::l,h,k,y,hm=>by
  rcases List.mem_cons.1 hm with e|hm
  ·injection e with e1 e2;subst e1;subst e2;exact h.1
  ·exact sP.get h.2 hm
theorem vd.get:∀{l:List (Nat×Nat×List AC)},vd s b r l->∀{k id:Nat}{y:List AC},(k,id,y)∈l->∃cs,(s.b id).c=some cs/\yE s b r cs y
 |(k0,id0,y0)::l,h,k,id,y,hm=>by
  rcases List.mem_cons.1 hm with e|hm
  ·injection e with e1 e2;injection e2 with e2 e3;subst e1;subst e2;subst e3;have:=h.1;unfold XL at this;split at this
   ·rename_i cs hc;exact⟨cs,hc,this⟩
   ·exact this.elim
  ·exact vd.get h.2 hm
theorem rowsLe.get:∀{l:List (Nat×Option Nat×Row)},rowsLe s l->∀{k:Nat}{id:Option Nat}{R:Row},(k,id,R)∈l->rowSrc s id R
 |(k0,id0,y0)::l,h,k,id,y,hm=>by
  rcases List.mem_cons.1 hm with e|hm
  ·injection e with e1 e2;injection e2 with e2 e3;subst e1;subst e2;subst e3;exact h.1
  ·exact rowsLe.get h.2 hm
theorem yg{α β:Type}{f:α->β}:∀{l:List α},(l.map f).Nodup->∀{x y:α},x∈l->y∈l->f x=f y->x=y
 |a::l,h,x,y,hx,hy,e=>by
  rw[a55,a6P]at h;rcases List.mem_cons.1 hx with rfl|hx' <;> rcases List.mem_cons.1 hy with rfl|hy'
  ·rfl
  ·exact(h.1 (by rw[e];exact a6S hy')).elim
  ·exact(h.1 (by rw[<-e];exact a6S hx')).elim
  ·exact yg h.2 hx' hy' e
theorem a0h{s:St}{k id:Nat}{R:Row}(hk:k<s.n) (hg:(s.t k).g=true) (hx:(s.t k).x= .c (.row id (s.r id).ver)) (hR:(s.r id).c=some R) (he:R.e<jn) :
  Le s ((s.app [.r id ⟨(s.r id).ver,some ⟨R.es,R.sz,R.e,true⟩⟩]).app [.t k ⟨true,.c (.d (.sl R.es))⟩]):=by
 rintro W0 M a w ⟨G,h⟩;obtain⟨I',m1,e1,hd⟩:=h.mem.freeze1 hR he;have h1:=h.mem' e1 m1 rfl rfl;have hv:=(h.tm k).1 hg;rw[hx]at hv;have hval:a.tmps.getD k undef=G.rw id:=by
  simp only[AVr,ACr]at hv;exact hv.2.2 trivial (by rw[hR];rfl)
 have h2:=h1.put (d:=k) hk (x:=⟨true,.c (.d (.sl R.es))⟩) (v:=a.tmps.getD k undef) ⟨λ_=>by simp only[AVr,ACr];rw[hval];exact hd,λe=>by cases e⟩;have ha:a.put (some k) (a.tmps.getD k undef)=a:=by
  unfold Act.put;have:a.tmps.setIfInBounds k (a.tmps.getD k undef)=a.tmps:=by
   apply Array.ext
   ·simp
   ·intro i h1 h2;rw[Array.getElem_setIfInBounds];split
    ·rename_i e;subst e;simp[Array.getD,h2]
    ·rfl
  simp only[this]
 rw[ha]at h2;exact⟨_,h2⟩
theorem a3d(hn:s.n=n) (ht:sP s b r t) (hb:vd s b r b) (hr:rowsLe s r) (hbn:(b.map (·.2.1)).Nodup) (hrn:(r.filterMap (·.2.1)).Nodup):Le s (rt n t b r):=by
 intro W0 M a w hR;obtain⟨G,h⟩:=hR;let G':Gh:=⟨G.I,λk=>G.bx (((jb b k).map (·.1)).getD 0),λk=>match(jb r k).map (·.1)with|some (some id)=>G.rw id|_=>.slice none 0 0,λk=>match(jb r k).map (·.1)with|some (some id)=>G.st id|_=>(undef,0),λk=>match(jb r k).map (·.1)with|some (some id)=>G.ex id|_=>[]⟩
 have hbsrc:∀{k id:Nat} {y:List AC},jb b k=some (id,y)->∃cs,(s.b id).c=some cs/\yE s b r cs y:=λh=>vd.get hb (nm h);have hrsrc:∀{k:Nat} {id:Option Nat} {R:Row},jb r k=some (id,R)->rowSrc s id R:=λh=>rowsLe.get hr (nm h);have hac:∀{x y:AC} {v:Value},a0f s b r x y->ACr G s w x v->ACr G' (rt n t b r) w y v:=by
  intro x y v hl hx;have hone:=hx.one;unfold a0f at hl;split at hl
  ·exact hone
  ·subst hl;exact hx
  ·exact hx
  ·subst hl;simp only[ACr]at hx⊢;subst hx;simp only[DVr];exact⟨none,0,1,[],rfl,a56 _,by simp[maxLen],by omega,by simp,by simp,by simp[V2]⟩
  ·obtain⟨rfl,h2⟩:=hl;simp only[ACr]at hx⊢;refine⟨hone,a6p _,λ_ _=>?_⟩;simp only[G',h2];exact hx
  ·obtain⟨h1,rfl,h2⟩:=hl;simp only[ACr]at hx⊢;refine⟨hone,a6p _,λ_ hs=>?_⟩;simp only[G',h2];refine hx.2.2 h1 ?_;cases hlk:jb r _ with
   |none=>rw[hlk]at h2;cases h2
   |some p=>
    rw[hlk]at h2;obtain⟨id0,R0⟩:=p;injection h2 with h2;simp only at h2;subst h2;have:=hrsrc hlk;simp only[rowSrc]at this;split at this
    ·rename_i R' hR';rw[hR'];rfl
    ·exact this.elim
  ·obtain⟨h1,rfl,rfl,h2⟩:=hl;simp only[ACr]at hx⊢;refine⟨hone,a6p _,λ_ hs=>?_⟩;simp only[G',h2,a6m];refine hx.2.2 h1 ?_;cases hlk:jb b _ with
   |none=>rw[hlk]at h2;cases h2
   |some p=>
    rw[hlk]at h2;obtain⟨id0,y0⟩:=p;injection h2 with h2;simp only at h2;subst h2;obtain⟨cs,hc,_⟩:=hbsrc hlk;rw[hc];rfl
  ·subst hl;exact hx
  ·obtain⟨h1,rfl,h2,rfl,rfl,rfl⟩:=hl;simp only[ACr]at hx⊢;refine⟨hone,a6p _,λ_ hs=>?_⟩;simp only[G',h2];refine hx.2.2 h1 ?_;cases hlk:jb r _ with
   |none=>rw[hlk]at h2;cases h2
   |some p=>
    rw[hlk]at h2;obtain⟨id0,R0⟩:=p;injection h2 with h2;simp only at h2;subst h2;have:=hrsrc hlk;simp only[rowSrc]at this;split at this
    ·rename_i R' hR';rw[hR'];rfl
    ·exact this.elim
  ·exact hl.elim
 have hacs:∀{xs ys:List AC} {vs:List Value},yE s b r xs ys->ACs G s w xs vs->ACs G' (rt n t b r) w ys vs:=by
  intro xs
  induction xs with
  |nil=>
   intro ys vs hl hx;cases ys with
   |nil=>exact hx
   |cons y ys=>exact hl.elim
  |cons x xs ih=>
   intro ys vs hl hx;cases ys with
   |nil=>exact hl.elim
   |cons y ys=>
    simp only[ACs]at hx⊢;obtain⟨v,rest,h1,h2,h3⟩:=hx;exact⟨v,rest,h1,hac hl.1 h2,ih hl.2 h3⟩
 have howner:∀x g,g∈own G' (rt n t b r) x->∃y,g∈own G s y/\(match x with | .inl k=>∃id cs,jb b k=some (id,cs)/\y= .inl id | .inr k=>∃id R,jb r k=some (some id,R)/\y= .inr id):=by
  intro x g hx;rcases x with k|k
  ·have e0:((rt n t b r).b k).c=(jb b k).map (·.2):=rfl;simp only[own,e0]at hx;cases hlk:jb b k with
   |none=>simp[hlk]at hx
   |some p=>
    obtain⟨id,y⟩:=p;simp only[hlk,a6e,a8f,a6x,G',a6m,a6b]at hx;obtain⟨cs,hc,_⟩:=hbsrc hlk;exact⟨.inl id,by rw[hx];exact BO (by rw[hc];rfl),id,y,hlk,rfl⟩
  ·have e0:((rt n t b r).r k).c=(jb r k).map (·.2):=rfl;simp only[own,e0]at hx;cases hlk:jb r k with
   |none=>simp[hlk]at hx
   |some p=>
    obtain⟨id,R⟩:=p;cases id with
    |none=>simp[G',hlk,obk]at hx
    |some id=>
     simp only[hlk,a6e,G']at hx;have:=hrsrc hlk;simp only[rowSrc]at this;split at this
     ·rename_i R' hR';exact⟨.inr id,by simp only[own,hR'];rw[this.2.2.1];exact hx,id,R,hlk,rfl⟩
     ·exact this.elim
 have hbinj:∀{k k' id:Nat} {y y':List AC},jb b k=some (id,y)->jb b k'=some (id,y')->k=k':=by
  intro k k' id y y' h1 h2;have:=yg hbn (nm h1) (nm h2) rfl;injection this
 have hrinj:∀{k k' id:Nat} {y y':Row},jb r k=some (some id,y)->jb r k'=some (some id,y')->k=k':=by
  intro k k' id y y' h1 h2;have key:∀{l:List (Nat×Option Nat×Row)},(l.filterMap (·.2.1)).Nodup->∀{p q:Nat×Option Nat×Row},p∈l->q∈l->p.2.1=some id->q.2.1=some id->p=q:=by
   intro l
   induction l with
   |nil=>intro _ p q hp;simp at hp
   |cons a l ih=>
    intro hnd p q hp hq e1 e2;rcases List.mem_cons.1 hp with rfl|hp' <;> rcases List.mem_cons.1 hq with rfl|hq'
    ·rfl
    ·rw[a7I (f:=λ(x:Nat×Option Nat×Row)=>x.2.1) e1,a6P]at hnd;exact(hnd.1 (List.mem_filterMap.2 ⟨q,hq',e2⟩)).elim
    ·rw[a7I (f:=λ(x:Nat×Option Nat×Row)=>x.2.1) e2,a6P]at hnd;exact(hnd.1 (List.mem_filterMap.2 ⟨p,hp',e1⟩)).elim
    ·refine ih ?_ hp' hq' e1 e2;cases ha:a.2.1 with
     |none=>rw[List.filterMap_cons_none (f:=λ(x:Nat×Option Nat×Row)=>x.2.1) ha]at hnd;exact hnd
     |some z=>rw[a7I (f:=λ(x:Nat×Option Nat×Row)=>x.2.1) ha,a6P]at hnd;exact hnd.2
  have:=key hrn (nm h1) (nm h2) rfl rfl;injection this
 have hav:∀{x y:AV} {v:Value},a0g s b r x y->AVr G s w x v->AVr G' (rt n t b r) w y v:=by
  intro x y v h2 hv;unfold a0g at h2;split at h2
  ·simp only[AVr]
  ·simp only[AVr]at hv⊢;exact hac h2 hv
  ·simp only[AVr]at hv⊢;obtain⟨vs,e,h3⟩:=hv;exact⟨vs,e,hacs h2 h3⟩
  ·exact h2.elim
 refine⟨G',h.sz.trans hn,h.df,λk=>?_,?_,λk=>?_⟩
 ·refine⟨λhk=>?_,λe=>?_⟩
  ·simp only[rt,a5M]at hk⊢;cases hlk:jb t k with
   |none=>simp only[a7H,AVr]
   |some y=>
    simp only[a6m];obtain⟨h1,h2⟩:=sP.get ht (nm hlk);exact hav h2 ((h.tm k).1 (h1 (by rw[hn];exact hk)))
  ·simp only[rt,a5L]at e;have hsz:=h.sz;rw[Array.getD_eq_getD_getElem?,Array.getElem?_eq_none (by omega)];rfl
 ·refine⟨λk cs hc=>?_,λk R hc=>?_,λx y g hx hy=>?_,λk hc o hi=>?_,λk R g hc hg o hi=>?_,λx g hx=>?_,h.mem.In,h.mem.fr,h.mem.ii,h.mem.gl,λk R hc hp=>?_,λk R hc hp=>?_⟩
  rotate_right 2
  rotate_left
  ·simp only[rt]at hc;cases hlk:jb r k with
   |none=>rw[hlk]at hc;cases hc
   |some p=>
    obtain⟨id,y⟩:=p;rw[hlk]at hc;injection hc with hc;simp only at hc;subst hc;have hsrc:=hrsrc hlk;cases id with
    |none=>
     obtain⟨e1,e2,eF⟩:=hsrc;exact absurd hp (eU eF)
    |some id=>
     simp only[rowSrc]at hsrc;split at hsrc
     ·rename_i R' hR';obtain⟨e1,e2,e3,_⟩:=hsrc;obtain⟨⟨g,es,cl,k1,k2,k3,k4,k5⟩,k6⟩:=h.mem.sx id R' hR' (by rw[e3];exact hp);simp only[G',hlk,a6e];exact⟨⟨g,es,cl,k1,k2,k3,k4,by rw[<-e1,<-e3];exact k5⟩,k6⟩
     ·exact hsrc.elim
  rotate_right
  ·simp only[rt]at hc;cases hlk:jb r k with
   |none=>rw[hlk]at hc;cases hc
   |some p=>
    obtain⟨id,y⟩:=p;rw[hlk]at hc;injection hc with hc;simp only at hc;subst hc;have hsrc:=hrsrc hlk;cases id with
    |none=>
     obtain⟨e1,e2,eF⟩:=hsrc;exact absurd (ltp eF) (Nat.not_lt.2 hp)
    |some id=>
     simp only[rowSrc]at hsrc;split at hsrc
     ·rename_i R' hR';obtain⟨e1,e2,e3,_⟩:=hsrc;obtain⟨g,es,cl,i,m,k1,k2,k3,k4⟩:=h.mem.pe id R' hR' (by rw[e3];exact hp);simp only[G',hlk,a6e];exact⟨g,es,cl,i,m,k1,k2,by rw[<-e1];exact k3,k4⟩
     ·exact hsrc.elim
  ·simp only[rt]at hc;cases hlk:jb b k with
   |none=>rw[hlk]at hc;cases hc
   |some p=>
    obtain⟨id,y⟩:=p;rw[hlk]at hc;injection hc with hc;simp only at hc;subst hc;obtain⟨cs',hc',hl⟩:=hbsrc hlk;obtain⟨cur,ty,h1,h2⟩:=h.mem.bx id cs' hc';exact⟨cur,ty,by simp only[G',hlk,a6e,a6m];exact h1,hacs hl h2⟩
  ·simp only[rt]at hc;cases hlk:jb r k with
   |none=>rw[hlk]at hc;cases hc
   |some p=>
    obtain⟨id,y⟩:=p;rw[hlk]at hc;injection hc with hc;simp only at hc;subst hc;have hsrc:=hrsrc hlk;cases id with
    |none=>
     obtain⟨e1,e2,eF⟩:=hsrc;refine⟨e2,by simp[e1],.inl ⟨eF,[],?_,by simp[e1,V2]⟩⟩;simp only[G',hlk,a6e,e1,a6v];exact World.ownsRow_nil w 0 _ _
    |some id=>
     simp only[rowSrc]at hsrc;split at hsrc
     ·rename_i R' hR';obtain⟨e1,e2,e3,_⟩:=hsrc;have q:=h.mem.rw id R' hR';simp only[G',hlk,a6e];exact jK.as q e1 e2 e3
     ·exact hsrc.elim
  ·obtain⟨x',hx',mx⟩:=howner x g hx;obtain⟨y',hy',my⟩:=howner y g hy;have e:=h.mem.dj x' y' g hx' hy';subst e;rcases x with k|k <;> rcases y with j|j <;> simp only at mx my
   ·obtain⟨id,cs,l1,e1⟩:=mx;obtain⟨id',cs',l2,e2⟩:=my;rw[e1]at e2;injection e2 with e2;subst e2;rw[hbinj l1 l2]
   ·obtain⟨id,cs,l1,e1⟩:=mx;obtain⟨id',cs',l2,e2⟩:=my;rw[e1]at e2;cases e2
   ·obtain⟨id,cs,l1,e1⟩:=mx;obtain⟨id',cs',l2,e2⟩:=my;rw[e1]at e2;cases e2
   ·obtain⟨id,cs,l1,e1⟩:=mx;obtain⟨id',cs',l2,e2⟩:=my;rw[e1]at e2;injection e2 with e2;subst e2;rw[hrinj l1 l2]
  ·simp only[rt]at hc;cases hlk:jb b k with
   |none=>rw[hlk]at hc;cases hc
   |some p=>
    obtain⟨id,y⟩:=p;obtain⟨cs',hc',_⟩:=hbsrc hlk;simp only[G',hlk,a6e,a6m]at hi;exact h.mem.bI id (by rw[hc'];rfl) o hi
  ·simp only[rt]at hc;cases hlk:jb r k with
   |none=>rw[hlk]at hc;cases hc
   |some p=>
    obtain⟨id,y⟩:=p;rw[hlk]at hc;injection hc with hc;simp only at hc;subst hc;have hsrc:=hrsrc hlk;cases id with
    |none=>simp[G',hlk,obk]at hg
    |some id=>
     simp only[rowSrc]at hsrc;split at hsrc
     ·rename_i R' hR';obtain⟨e1,e2,_,e4⟩:=hsrc;simp only[G',hlk,a6e]at hg;obtain⟨q1,q2⟩:=h.mem.rI id R' g hR' hg o hi;exact⟨e4 q1,by rw[<-e1,<-e2];exact q2⟩
     ·exact hsrc.elim
  ·obtain⟨y,hy,_⟩:=howner x g hx;exact h.mem.oM y g hy
 ·have hv:=h.pin k;rw[hn]at hv;show AVr G' (rt n t b r) w ((jb t (n+k)).getD .any) (M.pin k);cases hlk:jb t (n+k) with
  |none=>simp only[a7H,AVr]
  |some y=>
   simp only[a6m];obtain⟨_,h2⟩:=sP.get ht (nm hlk);exact hav h2 hv
end
def Upd.part:Upd->aQ
 |.t k _=>.t k
 |.b k _=>.b k
 |.r k _=>.r k
def Q.wpt{α:Type}:Q α->St->List aQ->(α->List aQ->Prop)->Prop
 |.ret a,_,tr,K=>K a tr
 |.rdT k f,s,tr,K=>(f (s.t k)).wpt s (.t k::tr) K
 |.rdB k f,s,tr,K=>(f (s.b k)).wpt s (.b k::tr) K
 |.rdR k f,s,tr,K=>(f (s.r k)).wpt s (.r k::tr) K
 |.req p q,s,tr,K=>p/\q.wpt s tr K
 |.fail,_,_,_=>False
def wpD(T:TypeId->Option TI) (cq:Oper->Call->Q (List Upd)) (l:List Oper):List Oper->St->List (List aQ×List aQ)->(St->List (List aQ×List aQ)->Prop)->Prop
 |[],s,tr,K=>K s tr
 |o::rest,s,tr,K=>(opD T cq l o).wpt s [] λus rs=>wpD T cq l rest (s.app us) (tr++[(rs,us.map Upd.part)]) K
def NK:List Oper->List (List Nat)->List (List Nat)
 |[],acc=>acc
 |o::rest,acc=>NK rest (acc++[(o.after.toList.filter (Region.binds .any)).flatMap λe=>e.on::acc.getD e.on []])
def a3e:List Nat->List Nat->List Nat
 |[],a=>a
 |x::xs,a=>a3e xs (bif a.contains x then a else x::a)
def ZB(acc:List (List Nat)):List Edge->List Nat
 |[]=>[]
 |e::es=>bif Region.binds .any e then a3e (e.on::acc.getD e.on []) (ZB acc es)else ZB acc es
def a3f:List Oper->List (List Nat)->List (List Nat)
 |[],acc=>acc
 |o::rest,acc=>a3f rest (acc++[ZB acc o.after.toList])
theorem JQ:∀(xs a:List Nat) (y:Nat),y∈a3e xs a->y∈xs\/y∈a
 |[],_,_,h=>.inr h
 |x::xs,a,y,h=>by
  rcases JQ xs _ y h with h|h
  ·exact .inl (by simp[h])
  ·cases hc:a.contains x with
   |true=>rw[hc]at h;exact .inr h
   |false=>
    rw[hc]at h;rcases List.mem_cons.1 h with rfl|h
    ·exact .inl (by simp)
    ·exact .inr h
theorem Dk{acc acc':List (List Nat)}(hs:∀k y,y∈acc.getD k []->y∈acc'.getD k []):∀(es:List Edge) (y:Nat),y∈ZB acc es->y∈(es.filter (Region.binds .any)).flatMap λe=>e.on::acc'.getD e.on []
 |[],_,h=>by simp[ZB]at h
 |e::es,y,h=>by
  unfold ZB at h;cases hb:Region.binds .any e with
  |true=>
   rw[hb]at h;rw[a68 hb,a6q,a6Z];rcases JQ _ _ y h with h|h
   ·left;rcases List.mem_cons.1 h with rfl|h
    ·simp
    ·exact a6h _ (hs _ _ h)
   ·exact .inr (Dk hs es y h)
  |false=>
   rw[hb]at h;rw[a7k (by rw[hb];simp)];exact Dk hs es y h
theorem JR:∀(l:List Oper) (acc acc':List (List Nat)),acc.length=acc'.length->(∀k y,y∈acc.getD k []->y∈acc'.getD k [])->∀k y,y∈(a3f l acc).getD k []->y∈(NK l acc').getD k []
 |[],_,_,_,hs,k,y,h=>hs k y h
 |o::l,acc,acc',hl,hs,k,y,h=>by
  refine JR l _ _ (by simp[hl]) (λk y hy=>?_) k y h;simp only[List.getD_eq_getElem?_getD,List.getElem?_append]at hy⊢;by_cases h1:k<acc.length
  ·rw[a5W h1]at hy;rw[a5W (by omega)];have:=hs k y (by rw[List.getD_eq_getElem?_getD];exact hy)
   rwa [List.getD_eq_getElem?_getD]at this
  ·rw[a5U h1]at hy;rw[a5U (by omega)];by_cases h2:k=acc.length
   ·rw[h2,a7J]at hy;rw[h2,hl,a7J];exact Dk hs _ _ hy
   ·rw[List.getElem?_eq_none (by simp;omega)]at hy;simp at hy
def Ti(a b:List aQ):Bool:=a.any λc=>b.contains c
def a0i(x y:List aQ×List aQ):Bool:=Ti x.1 y.2||Ti x.2 y.1||Ti x.2 y.2
def zP(l:List Oper) (tr:List (List aQ×List aQ)):Bool:=
 ((List.range l.length).all λi=>((l.getD i default).after.toList.all λe=> !Region.binds .any e||decide (e.on<i))) &&
 ((List.range l.length).all λi=>(List.range i).all λj=> !a0i (tr.getD j ([],[])) (tr.getD i ([],[]))||((a3f l []).getD i []).contains j)
section
variable {P:Program}{T:TypeId->Option TI}{cq:Oper->Call->Q (List Upd)}
theorem zQ{α:Type}{s:St}{K:α->List aQ->Prop}:∀{q:Q α}{tr:List aQ},q.wpt s tr K->∃a rs,q.wp s (· =a)/\(∀c∈q.reads s,c∈rs)/\(∀c∈tr,c∈rs)/\K a rs
 |.ret a,tr,h=>⟨a,tr,rfl,by simp[Q.reads],λc hc=>hc,h⟩
 |.rdT k f,tr,h=>by
  obtain⟨a,rs,h1,h2,h3,h4⟩:=zQ (q:=f (s.t k)) h;exact⟨a,rs,h1,λc hc=>by rcases List.mem_cons.1 hc with rfl|hc;exact h3 _ (by simp);exact h2 c hc,λc hc=>h3 c (by simp[hc]),h4⟩
 |.rdB k f,tr,h=>by
  obtain⟨a,rs,h1,h2,h3,h4⟩:=zQ (q:=f (s.b k)) h;exact⟨a,rs,h1,λc hc=>by rcases List.mem_cons.1 hc with rfl|hc;exact h3 _ (by simp);exact h2 c hc,λc hc=>h3 c (by simp[hc]),h4⟩
 |.rdR k f,tr,h=>by
  obtain⟨a,rs,h1,h2,h3,h4⟩:=zQ (q:=f (s.r k)) h;exact⟨a,rs,h1,λc hc=>by rcases List.mem_cons.1 hc with rfl|hc;exact h3 _ (by simp);exact h2 c hc,λc hc=>h3 c (by simp[hc]),h4⟩
 |.req p q,tr,h=>by
  obtain⟨a,rs,h1,h2,h3,h4⟩:=zQ (q:=q) h.2;exact⟨a,rs,⟨h.1,h1⟩,h2,h3,h4⟩
def sub(X:Nat->Bool):Nat->List (List Upd)->St->St
 |_,[],s=>s
 |i,us::r,s=>sub X (i+1) r (bif X i then s.app us else s)
theorem wh(s:St) (c:aQ):c.same s s:=by cases c <;> rfl
theorem OI{s s':St}{c:aQ}(u:Upd) (h:c.same s s'):c.same (s.app1 u) (s'.app1 u):=by
 cases u with
 |t k x=>
  cases c with
  |t j=>
   simp only[aQ.same,St.app1,St.setT,upd]at h⊢;by_cases e:j=k
   ·simp[e]
   ·simp[e,h]
  |b j=>exact h
  |r j=>exact h
 |b k x=>
  cases c with
  |b j=>
   simp only[aQ.same,St.app1,St.setB,upd]at h⊢;by_cases e:j=k
   ·simp[e]
   ·simp[e,h]
  |t j=>exact h
  |r j=>exact h
 |r k x=>
  cases c with
  |r j=>
   simp only[aQ.same,St.app1,St.setR,upd]at h⊢;by_cases e:j=k
   ·simp[e]
   ·simp[e,h]
  |b j=>exact h
  |t j=>exact h
theorem yU{s s':St}{c:aQ}:∀(us:List Upd),c.same s s'->c.same (s.app us) (s'.app us)
 |[],h=>h
 |u::us,h=>yU (s:=s.app1 u) (s':=s'.app1 u) us (OI u h)
theorem Mh{s:St}{c:aQ}(u:Upd) (h:c≠u.part):c.same (s.app1 u) s:=by
 cases u with
 |t k x=>
  cases c with
  |t j=>simp only[aQ.same,St.app1,St.setT,upd];rw[a5U (λe=>h (by rw[e];rfl))]
  |b j=>rfl
  |r j=>rfl
 |b k x=>
  cases c with
  |b j=>simp only[aQ.same,St.app1,St.setB,upd];rw[a5U (λe=>h (by rw[e];rfl))]
  |t j=>rfl
  |r j=>rfl
 |r k x=>
  cases c with
  |r j=>simp only[aQ.same,St.app1,St.setR,upd];rw[a5U (λe=>h (by rw[e];rfl))]
  |b j=>rfl
  |t j=>rfl
theorem qI{s1 s2 s3:St}{c:aQ}(h:c.same s1 s2) (k:c.same s2 s3):c.same s1 s3:=by cases c <;> exact Eq.trans h k
theorem Fh{s1 s2:St}{c:aQ}(h:c.same s1 s2):c.same s2 s1:=by cases c <;> exact Eq.symm h
theorem wi{c:aQ}:∀(us:List Upd) (s:St),c∉us.map Upd.part->c.same (s.app us) s
 |[],s,_=>wh s c
 |u::us,s,h=>by
  simp only[a55,a7l,not_or]at h;exact qI (wi us (s.app1 u) h.2) (Mh u h.1)
theorem OJ{s s':St}{c:aQ}(u:Upd) (h:c=u.part):c.same (s.app1 u) (s'.app1 u):=by
 subst h;cases u <;> simp[aQ.same,Upd.part,St.app1,St.setT,St.setB,St.setR,upd]
theorem JS{c:aQ}:∀(us:List Upd) (s s':St),c∈us.map Upd.part->c.same (s.app us) (s'.app us)
 |u::us,s,s',h=>by
  simp only[a55,a7l]at h;by_cases hc:c∈us.map Upd.part
  ·exact JS us (s.app1 u) (s'.app1 u) hc
  ·rcases h with h|h
   ·exact yU us (OJ u h)
   ·exact(hc h).elim
theorem yV{c:aQ}(X Y:Nat->Bool):∀(L:List (List Upd)) (k:Nat) (s s':St),c.same s s'->(∀j us,L[j]?=some us->c∈us.map Upd.part->X (k+j)=Y (k+j))->c.same (sub X k L s) (sub Y k L s')
 |[],_,_,_,h,_=>h
 |us::L,k,s,s',h,hw=>by
  simp only[sub];refine yV X Y L (k+1) _ _ ?_ (λj vs hj hc=>by have:=hw (j+1) vs (by simpa using hj) hc;rwa [a6D,a6I 1 j]);by_cases hc:c∈us.map Upd.part
  ·have e:=hw 0 us rfl hc;simp only[a7w]at e;rw[e];cases Y k with
   |true=>exact yU us h
   |false=>exact h
  ·cases X k <;> cases Y k <;> simp only[cond_true,cond_false]
   ·exact h
   ·exact qI h (Fh (wi us s' hc))
   ·exact qI (wi us s hc) h
   ·exact yU us h
theorem Tj(X:Nat->Bool):∀(L:List (List Upd)) (k:Nat) (s:St),(sub X k L s).n=s.n
 |[],_,_=>rfl
 |us::L,k,s=>by rw[sub,Tj X L];cases X k <;> simp[OF]
theorem wj(X:Nat->Bool):∀(A:List (List Upd)) (B:List (List Upd)) (k:Nat) (s:St),sub X k (A++B) s=sub X (k+A.length) B (sub X k A s)
 |[],B,k,s=>by simp[sub]
 |us::A,B,k,s=>by
  simp only[a6l,sub,a54];rw[wj X A B (k+1)];congr 1;omega
theorem a0j{s s':St}(hn:s.n=s'.n) (h:∀c:aQ,c.same s s'):s=s':=by
 obtain⟨n,t,b,r⟩:=s;obtain⟨n',t',b',r'⟩:=s';have h1:t=t':=funext λk=>h (.t k);have h2:b=b':=funext λk=>h (.b k);have h3:r=r':=funext λk=>h (.r k);simp only at hn;subst hn;subst h1;subst h2;subst h3;rfl
theorem HD(X:Nat->Bool):∀(L:List (List Upd)) (k:Nat) (s:St),(∀j,j<L.length->X (k+j)=true)->sub X k L s=sub (λ_=>true) k L s
 |[],_,_,_=>rfl
 |us::L,k,s,h=>by
  simp only[sub];have:=h 0 (by simp);simp only[a7w]at this;rw[this];exact HD X L (k+1) _ (λj hj=>by have:=h (j+1) (by simpa using hj);rwa [a6D,a6I 1 j])
theorem yW(X:Nat->Bool):∀(L:List (List Upd)) (k:Nat) (s:St),(∀j,j<L.length->X (k+j)=false)->sub X k L s=s
 |[],_,_,_=>rfl
 |us::L,k,s,h=>by
  simp only[sub];have:=h 0 (by simp);simp only[a7w]at this;rw[this];exact yW X L (k+1) _ (λj hj=>by have:=h (j+1) (by simpa using hj);rwa [a6D,a6I 1 j])
theorem XM(A B:List (List Upd)) (s:St):sub (λj=>decide (j<A.length)) 0 (A++B) s=sub (λ_=>true) 0 A s:=by
 rw[wj,yW _ B _ _ (λj _=>by simp),HD _ A 0 s (λj hj=>by simp;exact hj)]
theorem JT{l:List Oper}{K:St->List (List aQ×List aQ)->Prop}:∀{rest:List Oper}{s0:St}{A:List (List Upd)}{tr:List (List aQ×List aQ)},
  wpD T cq l rest (sub (λ_=>true) 0 A s0) tr K->tr.length=A.length->(tr.map (·.2))=A.map (λus=>us.map Upd.part)->
  ∃(B:List (List Upd)) (tr':List (List aQ×List aQ)),B.length=rest.length/\tr'.length=rest.length/\(tr'.map (·.2))=B.map (λus=>us.map Upd.part)/\K (sub (λ_=>true) 0 (A++B) s0) (tr++tr')/\
   ∀i o us rs,rest[i]?=some o->B[i]?=some us->(tr'.map (·.1))[i]?=some rs->(opD T cq l o).wp (sub (λj=>decide (j<A.length+i)) 0 (A++B) s0) (· =us)/\∀c∈(opD T cq l o).reads (sub (λj=>decide (j<A.length+i)) 0 (A++B) s0),c∈rs
 |[],s0,A,tr,h,_,_=>⟨[],[],rfl,rfl,rfl,by simp only[a5Z];exact h,λi o us rs hi=>by simp at hi⟩
 |o::rest,s0,A,tr,h,hl,hp=>by
  simp only[wpD]at h;obtain⟨us,rs,h1,h2,_,h3⟩:=zQ h;have e1:(sub (λ_=>true) 0 A s0).app us=sub (λ_=>true) 0 (A++[us]) s0:=by rw[wj];rfl
  rw[e1]at h3;obtain⟨B,tr',b1,b2,b3,b4,b5⟩:=JT h3 (by simp[hl]) (by simp[hp]);refine⟨us::B,(rs,us.map Upd.part)::tr',by simp[b1],by simp[b2],by simp[b3],by simpa using b4,?_⟩;intro i o' us' rs' hi hu hr;cases i with
  |zero=>
   simp only[List.getElem?_cons_zero,Option.some.injEq]at hi hu;simp only[a55,List.getElem?_cons_zero,Option.some.injEq]at hr;subst hi;subst hu;subst hr;rw[a7w,XM];exact⟨h1,h2⟩
  |succ i=>
   have:=b5 i o' us' rs' (by simpa using hi) (by simpa using hu) (by simpa using hr);simp only[a5K,a54,a6v,a50,a6l,a6w]at this;rw[show A.length+(0+1)+i=A.length+(i+1)from by omega]at this;exact this
theorem Dl:∀(l:List Oper) (acc:List (List Nat)) (i:Nat),i<acc.length->(NK l acc).getD i []=acc.getD i []
 |[],acc,i,_=>rfl
 |o::l,acc,i,h=>by
  rw[NK,Dl l _ i (by simp;omega)];simp only[List.getD_eq_getElem?_getD];rw[List.getElem?_append_left h]
def NL(o:Oper):List Edge:=o.after.toList.filter (Region.binds .any)
theorem Fi(o:Oper) (l:List Oper) (acc:List (List Nat)):NK (o::l) acc=NK l (acc++[(NL o).flatMap λe=>e.on::acc.getD e.on []]):=rfl
theorem Ca{α β:Type}{f g:α->List β}:∀{l:List α},(∀x∈l,f x=g x)->l.flatMap f=l.flatMap g
 |[],_=>rfl
 |x::l,h=>by rw[a6q,a6q,h x (by simp),Ca λy hy=>h y (by simp[hy])]
theorem XN(i:Nat):∀(l:List Oper) (acc:List (List Nat)) (o:Oper),l[i]?=some o->(∀e∈NL o,e.on<acc.length+i)->
  (NK l acc).getD (acc.length+i) []=(NL o).flatMap λe=>e.on::(NK l acc).getD e.on []:=by
 induction i with
 |zero=>
  intro l acc o h he;cases l with
  |nil=>simp at h
  |cons o1 l=>
   simp only[List.getElem?_cons_zero,Option.some.injEq]at h;subst h;rw[Fi,a7w,Dl l _ _ (by simp)];have e0:(acc++[(NL o1).flatMap λe=>e.on::acc.getD e.on []]).getD acc.length []=(NL o1).flatMap λe=>e.on::acc.getD e.on []:=by
    rw[List.getD_eq_getElem?_getD,List.getElem?_append_right (a56 _),a7J];rfl
   rw[e0];refine Ca λe hm=>?_;have h1:e.on<acc.length:=he e hm;rw[Dl l _ _ (by simp;omega)];simp only[List.getD_eq_getElem?_getD];rw[List.getElem?_append_left h1]
 |succ i ih=>
  intro l acc o h he;cases l with
  |nil=>simp at h
  |cons o1 l=>
   simp only[List.getElem?_cons_succ]at h;have:=ih l (acc++[(NL o1).flatMap λe=>e.on::acc.getD e.on []]) o h (λe hm=>by have:=he e hm;simp;omega);simp only[a5K,a54,a6v]at this;rw[Fi,show acc.length+(i+1)=acc.length+(0+1)+i from by omega];exact this
theorem Mi(hT:∀t i,T t=some i->TOk P t i) (hcq:∀o c,o.op= .call c->NW P o (cq o c)) (hm:P.follows .mixedOrders=true){id:Nat}{l:List Oper}{K:AX->St->Prop}{s:St}(hd:(l.all (Fg s.n))=true)
  (h:wpD T cq l l s [] λs' tr=>zP l tr=true/\K .normal s'):Tri P (.region id l.toArray true) K s:=by
 intro W0 M a0 w0 hR0;have hR0':uX W0 M s a0 {w0 with drawn:=w0.drawn+1}:=by
  obtain⟨G,h⟩:=hR0;obtain⟨m1,e1⟩:=h.mem.grow (w':={w0 with drawn:=w0.drawn+1}) ⟨rfl,rfl,rfl,a56 _,λ_ _ _=>rfl⟩;exact⟨G,h.mem' e1 m1 rfl rfl⟩
 obtain⟨L,tr,b1,b2,b3,⟨hind,hK⟩,b5⟩:=JT (A:=[]) (s0:=s) (tr:=[]) h rfl rfl;simp only[a6w,a6v,a6j]at b5 hK hind;simp only[zP,a5S,a7a,List.mem_range,a60,a5R,a5M]at hind;obtain⟨hedge,hcl⟩:=hind;have hedge':∀i o,l[i]?=some o->∀e∈NL o,e.on<i:=by
  intro i o hi e hm;have hlt:i<l.length:=by
   rcases a6y i l.length with h|h
   ·exact h
   ·rw[List.getElem?_eq_none h]at hi;cases hi
  have:=hedge i hlt e (by rw[List.getD_eq_getElem?_getD,hi];exact(List.mem_filter.1 hm).1);rcases this with h|h
  ·have:=(List.mem_filter.1 hm).2;rw[h]at this;cases this
  ·exact h
 let X:Array Bool->Nat->Bool:=λlst j=>lst.getD j false;have hanc:∀i o,l[i]?=some o->(NK l []).getD i []=(NL o).flatMap λe=>e.on::(NK l []).getD e.on []:=by
  intro i o hi;have:=XN i l [] o hi (λe hm=>by simpa using hedge' i o hi e hm);simpa using this
 let Down:Array Bool->Prop:=λlst=>∀i o,l[i]?=some o->X lst i=true->∀e∈NL o,X lst e.on=true;have hdown:∀lst,Down lst->∀i o,l[i]?=some o->(∀e∈NL o,X lst e.on=true)->∀j∈(NK l []).getD i [],X lst j=true:=by
  intro lst hD i
  induction i using Nat.strongRecOn with
  |_ i ih=>
   intro o hi he j hj;rw[hanc i o hi]at hj;obtain⟨e,hm,hj⟩:=List.mem_flatMap.1 hj;rcases List.mem_cons.1 hj with rfl|hj
   ·exact he e hm
   ·have hlt:=hedge' i o hi e hm;have hil:i<l.length:=by
     rcases a6y i l.length with h|h
     ·exact h
     ·rw[List.getElem?_eq_none h]at hi;cases hi
    obtain⟨o2,ho2⟩:∃o2,l[e.on]?=some o2:=⟨_,List.getElem?_eq_getElem (by omega)⟩;exact ih e.on hlt o2 ho2 (hD e.on o2 ho2 (he e hm)) j hj
 have hclash:∀i j,j<i->i<l.length->∀c,(c∈(tr.getD i ([],[])).1/\c∈(tr.getD j ([],[])).2)\/(c∈(tr.getD i ([],[])).2/\c∈(tr.getD j ([],[])).1)\/(c∈(tr.getD i ([],[])).2/\c∈(tr.getD j ([],[])).2)->j∈(NK l []).getD i []:=by
  intro i j hji hi c hc;rcases hcl i hi j hji with h|h
  ·exfalso;have hmeet:∀{x y:List aQ},c∈x->c∈y->Ti x y=true:=λhx hy=>List.any_eq_true.2 ⟨c,hx,by simpa using hy⟩;simp only[a0i,a76]at h;rcases hc with⟨h1,h2⟩|⟨h1,h2⟩|⟨h1,h2⟩
   ·rw[hmeet h2 h1]at h;exact absurd h.1.2 (by simp)
   ·rw[hmeet h2 h1]at h;exact absurd h.1.1 (by simp)
   ·rw[hmeet h2 h1]at h;exact absurd h.2 (by simp)
  ·exact JR l [] [] rfl (λ_ _ h=>h) i j (by simpa using h)
 have htr2:∀j us,L[j]?=some us->(tr.getD j ([],[])).2=us.map Upd.part:=by
  intro j us hj;have h1:(tr.map (·.2))[j]?=some (us.map Upd.part):=by rw[b3,List.getElem?_map,hj];rfl
  rw[List.getElem?_map]at h1;cases ht:tr[j]? with
  |none=>rw[ht]at h1;cases h1
  |some p=>rw[ht]at h1;injection h1 with h1;rw[List.getD_eq_getElem?_getD,ht];exact h1
 have hlen:L.length=l.length:=b1;have key:∀fuel (lst:Array Bool) (a:Act) (w:World),lst.size=l.length->Down lst->((List.range l.length).countP λi=> !lst.getD i true)=fuel->uX W0 M (sub (X lst) 0 L s) a w->wpAny P .any l.toArray (QK W0 M K) fuel lst a w:=by
  intro fuel;have hend:∀(lst:Array Bool) (a:Act) (w:World),lst.size=l.length->(∀i,i<l.length->X lst i=true)->uX W0 M (sub (X lst) 0 L s) a w->QK W0 M K .normal a w:=by
   intro lst a w _ hall hR;rw[HD (X lst) L 0 s (λj hj=>by rw[a6j];exact hall j (by omega))]at hR;exact⟨_,hR,hK⟩
  have hdef:∀(lst:Array Bool) (i:Nat),lst.size=l.length->i<l.length->lst.getD i true=X lst i:=by
   intro lst i hs hi;simp only[X,Array.getD_eq_getD_getElem?];rw[Array.getElem?_eq_getElem (by omega)];rfl
  have hready:∀(lst:Array Bool) (i:Nat),lst.size=l.length->i∈Region.ready .any l.toArray lst->∃o,l[i]?=some o/\i<l.length/\X lst i=false/\∀e∈NL o,X lst e.on=true:=by
   intro lst i hs hi;simp only[Region.ready,List.mem_filter,List.mem_range,a6U,a5S,a5R]at hi;obtain⟨h1,h2,h3⟩:=hi;refine⟨l[i],List.getElem?_eq_getElem h1,h1,by rw[<-hdef lst i hs h1];exact h2,λe hm=>?_⟩;have hg:(l.toArray)[i]?=some l[i]:=by simp[h1]
   rw[hg]at h3;simp only[a6e,a6m]at h3;have h4:=(Array.all_eq_true_iff_forall_mem.1 h3) e (by have:=(List.mem_filter.1 hm).1;simpa using this);have h5:=(List.mem_filter.1 hm).2;simp only[h5,a6a,a8s]at h4;exact h4
  have hmin:∀(lst:Array Bool),lst.size=l.length->Region.ready .any l.toArray lst=[]->∀i,i<l.length->X lst i=true:=by
   intro lst hs hr i
   induction i using Nat.strongRecOn with
   |_ i ih=>
    intro hi;cases hx:X lst i with
    |true=>rfl
    |false=>
     exfalso;have:i∈Region.ready .any l.toArray lst:=by
      simp only[Region.ready,List.mem_filter,List.mem_range,a6U,a5S,a5R];refine⟨hi,by rw[hdef lst i hs hi];exact hx,?_⟩;have hg:(l.toArray)[i]?=some l[i]:=by simp[hi]
      rw[hg];simp only[a6e,a6m];refine Array.all_eq_true_iff_forall_mem.2 λe hm=>?_;cases hb:Region.binds .any e with
      |false=>rfl
      |true=>
       simp only[a6a,a8s];have hd':e∈NL l[i]:=List.mem_filter.2 ⟨by simpa using hm,hb⟩;have hlt:=hedge' i _ (List.getElem?_eq_getElem hi) e hd';exact ih e.on hlt (by omega)
     rw[hr]at this;cases this
  induction fuel with
  |zero=>
   intro lst a w hs hD hc hR;have hall:∀i,i<l.length->X lst i=true:=by
    intro i hi;rw[List.countP_eq_zero]at hc;have:=hc i (List.mem_range.2 hi);rw[hdef lst i hs hi]at this;simpa using this
   refine⟨?_,hend lst a w hs hall hR⟩;rw[List.eq_nil_iff_forall_not_mem];intro i hi;obtain⟨o,_,h1,h2,_⟩:=hready lst i hs hi;rw[hall i h1]at h2;cases h2
  |succ fuel ih=>
   intro lst a w hs hD hc hR;refine⟨λhr=>hend lst a w hs (hmin lst hs hr) hR,λi hi=>?_⟩;obtain⟨o,ho,hil,hxi,hdi⟩:=hready lst i hs hi;have hxset:∀j,X (lst.setIfInBounds i true) j=if j=i then true else X lst j:=by
    intro j;simp only[X,Array.getD_eq_getD_getElem?,Array.getElem?_setIfInBounds];by_cases e:i=j
    ·subst e;rw[a5W rfl,a5W (by omega),a5W rfl];rfl
    ·rw[a5U e,a5U (λh=>e h.symm)]
   obtain⟨us,hus⟩:∃us,L[i]?=some us:=⟨_,List.getElem?_eq_getElem (by omega)⟩;obtain⟨rs,hrs⟩:∃rs,(tr.map (·.1))[i]?=some rs:=⟨_,List.getElem?_eq_getElem (by rw[a5X];omega)⟩;obtain⟨c1,c2⟩:=b5 i o us rs ho hus hrs;have htr1:(tr.getD i ([],[])).1=rs:=by
    rw[List.getElem?_map]at hrs;cases ht:tr[i]? with
    |none=>rw[ht]at hrs;cases hrs
    |some p=>rw[ht]at hrs;injection hrs with hrs;rw[List.getD_eq_getElem?_getD,ht];exact hrs
   have hlt:∀{j:Nat} {vs:List Upd},L[j]?=some vs->j<l.length:=by
    intro j vs hj;rcases a6y j L.length with h|h
    ·omega
    ·rw[List.getElem?_eq_none h]at hj;cases hj
   have hwp:(opD T cq l o).wp (sub (X lst) 0 L s) (· =us):=by
    refine Q.wp_same c1 λc hc'=>?_;have hcr:=c2 c hc';refine yV _ _ L 0 s s (wh s c) λj vs hj hcv=>?_;rw[a6j];have hw2:c∈(tr.getD j ([],[])).2:=by rw[htr2 j vs hj];exact hcv
    rcases a7P j i with h|h|h
    ·have:=hclash i j h hil c (.inl ⟨by rw[htr1];exact hcr,hw2⟩);rw[hdown lst hD i o ho hdi j this];simp[h]
    ·subst h;rw[hxi];simp
    ·have:=hclash j i h (hlt hj) c (.inr (.inl ⟨hw2,by rw[htr1];exact hcr⟩));cases hxj:X lst j with
     |false=>simp;omega
     |true=>
      obtain⟨o2,ho2⟩:∃o2,l[j]?=some o2:=⟨_,List.getElem?_eq_getElem (hlt hj)⟩;have:=hdown lst hD j o2 ho2 (hD j o2 ho2 hxj) i this;rw[hxi]at this;cases this
   have hstate:(sub (X lst) 0 L s).app us=sub (X (lst.setIfInBounds i true)) 0 L s:=by
    refine a0j (by rw[OF,Tj,Tj]) λc=>?_;have hsplit:L=L.take i++(us::L.drop (i+1)):=by
     rw[List.getElem?_eq_getElem (by omega)]at hus;injection hus with hus;rw[<-hus,List.getElem_cons_drop,a6d]
    by_cases hcu:c∈us.map Upd.part
    ·have e1:sub (X (lst.setIfInBounds i true)) 0 L s=sub (X (lst.setIfInBounds i true)) (i+1) (L.drop (i+1)) ((sub (X (lst.setIfInBounds i true)) 0 (L.take i) s).app us):=by
      conv=>lhs;rw[hsplit]
      rw[wj];simp only[sub];have:0+(L.take i).length=i:=by rw[a5T];omega
      rw[this,hxset i,a5W rfl];rfl
     rw[e1];refine qI (JS us _ (sub (X (lst.setIfInBounds i true)) 0 (L.take i) s) hcu) (Fh ?_);have hno:=yV (c:=c) (X (lst.setIfInBounds i true)) (λ_=>false) (L.drop (i+1)) (i+1) ((sub (X (lst.setIfInBounds i true)) 0 (L.take i) s).app us) _ (wh _ c) (λj vs hj hcv=>by
      rw[List.getElem?_drop]at hj;rw[hxset,a5U (by omega)];cases hxj:X lst (i+1+j) with
      |false=>rfl
      |true=>
       exfalso;have:=hclash (i+1+j) i (by omega) (hlt hj) c (.inr (.inr ⟨by rw[htr2 _ vs hj];exact hcv,by rw[htr2 i us hus];exact hcu⟩));obtain⟨o2,ho2⟩:∃o2,l[i+1+j]?=some o2:=⟨_,List.getElem?_eq_getElem (hlt hj)⟩;have:=hdown lst hD _ o2 ho2 (hD _ o2 ho2 hxj) i this;rw[hxi]at this;cases this)
     rw[yW (λ_=>false) _ _ _ (λ_ _=>rfl)]at hno;exact hno
    ·refine qI (wi us _ hcu) ?_;refine yV _ _ L 0 s s (wh s c) λj vs hj hcv=>?_;rw[a6j,hxset];by_cases e:j=i
     ·subst e;rw[hus]at hj;injection hj with hj;subst hj;exact(hcu hcv).elim
     ·rw[a5U e]
   have hdo:∀d,o.dst=some d->d<(sub (X lst) 0 L s).n:=by
    intro d e;rw[Tj];have:=List.all_eq_true.1 hd o (List.mem_of_getElem? ho);unfold Fg at this;rw[e]at this;exact a5P this
   have hD':Down (lst.setIfInBounds i true):=by
    intro j oj hoj hxj e hm;rw[hxset]at hxj⊢;split
    ·rfl
    ·by_cases ej:j=i
     ·subst ej;rw[ho]at hoj;injection hoj with hoj;subst hoj;exact hdi e hm
     ·rw[a5U ej]at hxj;exact hD j oj hoj hxj e hm
   have hcount:((List.range l.length).countP λj=> !(lst.setIfInBounds i true).getD j true)=fuel:=by
    have h1:∀(r:List Nat),r.Nodup->(∀j∈r,j<l.length)->i∈r->(r.countP λj=> !(lst.setIfInBounds i true).getD j true)+1=r.countP λj=> !lst.getD j true:=by
     intro r
     induction r with
     |nil=>intro _ _ h;cases h
     |cons x r ihr=>
      intro hnd hb hmem;rw[a6P]at hnd;have hxl:=hb x (by simp);have hsz':(lst.setIfInBounds i true).size=l.length:=by simpa using hs
      rw[List.countP_cons,List.countP_cons];by_cases e:x=i
      ·subst e;have h2:(r.countP λj=> !(lst.setIfInBounds x true).getD j true)=r.countP λj=> !lst.getD j true:=by
        apply List.countP_congr;intro j hj;have hjl:=hb j (by simp[hj]);rw[hdef _ j hsz' hjl,hdef lst j hs hjl,hxset,a5U (λ(e:j=x)=>hnd.1 (e▸hj))]
       rw[h2,hdef _ x hsz' hxl,hdef lst x hs hxl,hxset,a5W rfl,hxi];simp
      ·have hmem':i∈r:=by
        rcases List.mem_cons.1 hmem with h|h
        ·exact(e h.symm).elim
        ·exact h
       have:=ihr hnd.2 (λj hj=>hb j (by simp[hj])) hmem';rw[hdef _ x hsz' hxl,hdef lst x hs hxl,hxset,a5U e];omega
    have:=h1 (List.range l.length) List.nodup_range (λj hj=>List.mem_range.1 hj) (List.mem_range.2 hil);omega
   have hfin:=OE (P:=P) hT hcq (ops:=l.toArray) rfl (Q':=QK W0 M K) hdo hR hwp;unfold wpOp;have hg:(l.toArray)[i]?=some o:=by simpa using ho
   rw[hg];simp only;split
   ·rename_i hw;rw[a5W hw]at hfin;refine .inl (Oper.wp_mono (λa' w'=>?_) hfin);rintro⟨us',rfl,hr⟩;rw[hstate]at hr;exact ih _ a' w' (by simpa using hs) hD' hcount hr
   ·rename_i hw;rw[a5U hw]at hfin;obtain⟨us',rfl,hr⟩:=hfin;rw[hstate]at hr;exact ih _ _ w (by simpa using hs) hD' hcount hr
 have hX0:∀j,X (Array.replicate l.length false) j=false:=by
  intro j;simp only[X,Array.getD_eq_getD_getElem?,Array.getElem?_replicate];split <;> rfl
 refine wp_region_any hm ?_;rw[a6U];refine key l.length _ a0 _ (by simp) (λi o _ hx=>by rw[hX0]at hx;cases hx) ?_ ?_
 ·rw[List.countP_eq_length.2 (λj hj=>by simp[Array.getD_eq_getD_getElem?,List.mem_range.1 hj])];simp
 ·rw[yW _ L 0 s (λj _=>by rw[a6j];exact hX0 j)];exact hR0'
end
inductive OC where
 |d (x:DV)
 |row (sz:Nat) (e:TypeId) (es:List (List DV))
 |box (cs:List OC)
 |e (cs:List DV)
inductive OA where
 |c (x:OC)
 |agg (xs:List OC)
 |bx (cs:List OC)
 |rx (sz:Nat) (e:TypeId) (es:List (List DV))
mutual
def OCr(I:Nat->Nat->Prop) (w:World):OC->Value->List Nat->Prop
 |.d x,v,F=>F=[]/\DVr I w x v
 |.row sz e es,v,F=>∃ex,jK I w v ⟨es,sz,e,false⟩/\F=(obk v).toList++(if lS e then ex else [])/\(∀g o,obk v=some g->¬I g o)/\(lS e->sL w v ex ⟨es,sz,e,false⟩/\∀b∈ex,∀o,¬I b o)
 |.e cs,v,F=>F=[]/\∃ad xs,v= .pointer (some ad)/\bo I w cs xs/\∀j u,xs[j]?=some u->w.cell? (ad.add j)=some u/\I ad.block (ad.off+j)
 |.box cs,v,F=>∃g cur ty Fs,v= .pointer (some ⟨g,0,none⟩)/\w.heap[g]?=some (.cells cur ty (0,0))/\OCs I w cs cur.toList Fs/\F=g::Fs/\∀o,¬I g o
def OCs(I:Nat->Nat->Prop) (w:World):List OC->List Value->List Nat->Prop
 |[],xs,F=>xs=[]/\F=[]
 |c::cs,xs,F=>∃x r F1 F2,xs=x::r/\OCr I w c x F1/\OCs I w cs r F2/\F=F1++F2
end
def OAr(I:Nat->Nat->Prop) (w:World):OA->Value->List Nat->Prop
 |.c x,v,F=>OCr I w x v F
 |.agg xs,v,F=>∃vs,v= .agg vs/\OCs I w xs vs.toList F
 |.bx cs,v,F=>OCr I w (.box cs) v F
 |.rx sz e es,v,F=>OCr I w (.row sz e es) v F
def OAs(I:Nat->Nat->Prop) (w:World):List OA->List Value->List Nat->Prop
 |[],xs,F=>xs=[]/\F=[]
 |c::cs,xs,F=>∃x r F1 F2,xs=x::r/\OAr I w c x F1/\OAs I w cs r F2/\F=F1++F2
theorem OCr.one{I:Nat->Nat->Prop}{w:World}{c:OC}{v:Value}{F:List Nat}(h:OCr I w c v F):v.oneCell'=true:=by
 cases c <;> simp only[OCr]at h
 case d=>exact h.2.one
 case row=>obtain⟨ex,h,_⟩:=h;exact h.one
 case box=>obtain⟨g,cur,ty,Fs,rfl,_⟩:=h;rfl
 case e=>obtain⟨_,ad,xs,rfl,_⟩:=h;rfl
structure Mk where
 ac:AC
 us:List Upd
 m:Nat
structure Mks where
 acs:List AC
 us:List Upd
 m:Nat
mutual
def mkC(n:Nat):OC->Q Mk
 |.d x=>.ret ⟨.d x,[],n⟩
 |.e cs=>.ret ⟨.eptr cs,[],n⟩
 |.row sz e es=>.req (e<qD) <| .rdR n λr=>.ret ⟨.row n (r.ver+1),[.r n ⟨r.ver+1,some ⟨es,sz,e,false⟩⟩],n+1⟩
 |.box cs=>.rdB n λb=>(Cb (n+1) cs).bind λk=>.ret ⟨.ptr n (b.ver+1) 0,k.us++[.b n ⟨b.ver+1,some k.acs⟩],k.m⟩
def Cb(n:Nat):List OC->Q Mks
 |[]=>.ret ⟨[],[],n⟩
 |c::cs=>(mkC n c).bind λk=>(Cb k.m cs).bind λks=>.ret ⟨k.ac::ks.acs,k.us++ks.us,ks.m⟩
end
def fE(n:Nat) (s0 s:St):Prop:=∀k,n<=k->(s.b k).ver=(s0.b k).ver/\(s.r k).ver=(s0.r k).ver
theorem fE.le{n m:Nat}{s0 s:St}(h:fE n s0 s) (hm:n<=m):fE m s0 s:=λk hk=>h k (a6c hm hk)
structure Tl (W0:World) (M:Own) (G:Gh) (s0 s:St) (w:World) (n:Nat) (us:List Upd) (m:Nat) (F:List Nat) (G':Gh):Prop where
 mem:Mem W0 M G' (s.app us) w
 ext:Ext G s w G' (s.app us) w
 I:G'.I=G.I
 le:n<=m
 ver:fE m s0 (s.app us)
 own:∀x b,b∈own G' (s.app us) x->b∈own G s x\/b∈F
 n_:(s.app us).n=s.n
 t:(s.app us).t=s.t
 old:∀k,(k<n\/m<=k)->(s.app us).b k=s.b k/\(s.app us).r k=s.r k/\G'.bx k=G.bx k/\G'.rw k=G.rw k/\G'.ex k=G.ex k
section
variable {W0:World}{M:Own}{w:World}{s0:St}
theorem Tl.trans{G G1 G2:Gh}{s:St}{n m k:Nat}{us vs:List Upd}{F1 F2:List Nat}(h:Tl W0 M G s0 s w n us m F1 G1) (j:Tl W0 M G1 s0 (s.app us) w m vs k F2 G2):Tl W0 M G s0 s w n (us++vs) k (F1++F2) G2:=by
 refine⟨by rw[St.app_append];exact j.mem,by rw[St.app_append];exact h.ext.trans j.ext,j.I.trans h.I,a6c h.le j.le,by rw[St.app_append];exact j.ver,λx b hx=>?_,by rw[St.app_append];exact j.n_.trans h.n_,by rw[St.app_append];exact j.t.trans h.t,λi hi=>?_⟩
 ·rw[St.app_append]at hx;rcases j.own x b hx with h1|h1
  ·rcases h.own x b h1 with h2|h2
   ·exact .inl h2
   ·exact .inr (by simp[h2])
  ·exact .inr (by simp[h1])
 ·rw[St.app_append];obtain⟨a1,a2,a3,a4,a5⟩:=h.old i (hi.imp id (a6c j.le));obtain⟨b1,b2,b3,b4,b5⟩:=j.old i (hi.imp (λh0=>a6L h0 h.le) id);exact⟨b1.trans a1,b2.trans a2,b3.trans a3,b4.trans a4,b5.trans a5⟩
def NM(W0:World) (M:Own) (G:Gh) (s:St) (F:List Nat):Prop:=∀b∈F,(∀x,b∉own G s x)/\(W0.heap.size<=b\/M b)
theorem NM.after{G G1:Gh}{s:St}{n m:Nat}{us:List Upd}{F1 F2:List Nat}(hf:NM W0 M G s F2) (hd:∀b∈F1,b∉F2) (h:Tl W0 M G s0 s w n us m F1 G1):NM W0 M G1 (s.app us) F2:=λb hb=>by
 refine⟨λx hx=>?_,(hf b hb).2⟩;rcases h.own x b hx with h1|h1
 ·exact(hf b hb).1 x h1
 ·exact hd b h1 hb
theorem yX(s:St) (k:Nat) (x:BS):s.app [.b k x]=s.setB k x:=rfl
theorem yY(s:St) (k:Nat) (x:RS):s.app [.r k x]=s.setR k x:=rfl
mutual
theorem JU:∀(c:OC){n:Nat}{s:St}{G:Gh}{v:Value}{F:List Nat}{K:Mk->Prop},(mkC n c).wp s0 K->Mem W0 M G s w->OCr G.I w c v F->F.Nodup->NM W0 M G s F->fE n s0 s->
  ∃k G',K k/\Tl W0 M G s0 s w n k.us k.m F G'/\ACr G' (s.app k.us) w k.ac v
 |.d x,n,s,G,v,F,K,hq,hm,hc,hn,hf,hv=>by
  simp only[OCr]at hc;obtain⟨rfl,hd⟩:=hc;exact⟨_,G,hq,⟨hm,Ext.refl _ _ _,rfl,a56 _,hv,λx b h=>.inl h,rfl,rfl,λk _=>⟨rfl,rfl,rfl,rfl,rfl⟩⟩,by simpa only[ACr]using hd⟩
 |.e cs,n,s,G,v,F,K,hq,hm,hc,hn,hf,hv=>by
  simp only[OCr]at hc;obtain⟨rfl,hd⟩:=hc;exact⟨_,G,hq,⟨hm,Ext.refl _ _ _,rfl,a56 _,hv,λx b h=>.inl h,rfl,rfl,λk _=>⟨rfl,rfl,rfl,rfl,rfl⟩⟩,by simpa only[ACr]using hd⟩
 |.row sz e es,n,s,G,v,F,K,hq,hm,hc,hn,hf,hv=>by
  simp only[OCr]at hc;obtain⟨ex,hrow,rfl,hI,hsx⟩:=hc;simp only[mkC,Q.wp]at hq;obtain⟨hpf,hq⟩:=hq;have hver:=(hv n (a56 _)).2;obtain⟨m1,x1⟩:=hm.addRowX n ((s0.r n).ver+1) v ⟨es,sz,e,false⟩ (by rw[hver];omega) hrow (λx b hb hx=>(hf b (by simp[hb])).1 x hx) (λg hg o hi=>(hI g o hg hi).elim) (λg hg=>(hf g (by simp[hg])).2) hpf (ex:=upd G.ex n ex) (λk hk=>by simp[upd,hk])
   (λhe=>by
    simp only[upd,a6x];exact⟨(hsx he).1,λb hb=>⟨λx hx=>(hf b (by simp[he,hb])).1 x hx,(hsx he).2 b hb,(hf b (by simp[he,hb])).2⟩⟩)
  refine⟨_,_,hq,⟨m1,x1,rfl,Nat.le_succ _,λk hk=>?_,λx b hx=>?_,rfl,rfl,λk hk=>?_⟩,?_⟩
  ·have hk':n+1<=k:=hk;have:=hv k (by omega);simp only[yY,St.setR,upd];rw[a5U (by omega)];exact this
  ·rcases x with k|k
   ·exact .inl hx
   ·simp only[yY]at hx;by_cases e:k=n
    ·subst e;simp only[Am.own,St.setR,upd,a6x]at hx;exact .inr hx
    ·left;simpa [Am.own,St.setR,upd,e]using hx
  ·simp only[yY,St.setR,upd];have hne:k≠n:=by simp only at hk;omega
   simp[hne]
  ·simp only[ACr,yY,St.setR,upd,a6x];exact⟨hrow.one,a56 _,λ_ _=>trivial⟩
 |.box cs,n,s,G,v,F,K,hq,hm,hc,hn,hf,hv=>by
  simp only[OCr]at hc;obtain⟨g,cur,ty,Fs,rfl,hh,hcs,rfl,hI⟩:=hc;simp only[mkC,Q.wp]at hq;rw[Q.wp_bind]at hq;rw[a6P]at hn;obtain⟨k,G1,hq,h1,h2⟩:=Dm cs hq hm hcs hn.2 (λb hb=>hf b (by simp[hb])) (hv.le (Nat.le_succ n));have hver:=(hv n (a56 _)).1;have hbn:((s.app k.us).b n).ver=(s0.b n).ver:=by rw[(h1.old n (.inl (a7i n))).1];exact hver
  obtain⟨m1,x1⟩:=h1.mem.addBox n ((s0.b n).ver+1) g k.acs (by rw[hbn];omega) ⟨cur,ty,hh,h2⟩ (λx hx=>by
   rcases h1.own x g hx with h|h
   ·exact(hf g (by simp)).1 x h
   ·exact hn.1 h) (by rw[h1.I];exact hI) (hf g (by simp)).2
  refine⟨_,⟨G1.I,upd G1.bx n g,G1.rw,G1.st,G1.ex⟩,hq,⟨by rw[St.app_append];exact m1,by rw[St.app_append];exact h1.ext.trans x1,h1.I,a6c (Nat.le_succ n) h1.le,λj hj=>?_,λx b hx=>?_,by rw[St.app_append];exact h1.n_,by rw[St.app_append];exact h1.t,λj hj=>?_⟩,?_⟩
  ·have:=h1.ver j hj;have hle:=h1.le;rw[St.app_append];simp only[yX,St.setB,upd];rw[a5U (by have:n+1<=j:=a6c hle hj;omega)];exact this
  ·rw[St.app_append]at hx;rcases x with j|j
   ·simp only[yX]at hx;by_cases e:j=n
    ·subst e;simp only[Am.own,St.setB,upd,a6x,a8f,a6b]at hx;exact .inr (by simp[hx])
    ·have hx':b∈Am.own G1 (s.app k.us) (.inl j):=by simpa [Am.own,St.setB,upd,e]using hx
     rcases h1.own _ _ hx' with h|h
     ·exact .inl h
     ·exact .inr (by simp[h])
   ·have hx':b∈Am.own G1 (s.app k.us) (.inr j):=hx;rcases h1.own _ _ hx' with h|h
    ·exact .inl h
    ·exact .inr (by simp[h])
  ·rw[St.app_append];obtain⟨a1,a2,a3,a4,a5⟩:=h1.old j (hj.imp Nat.lt_succ_of_lt id);simp only[yX,St.setB,upd];have hne:j≠n:=by have:=h1.le;simp only at hj;omega
   simp only[hne,a6o];exact⟨a1,a2,a3,a4,a5⟩
  ·rw[St.app_append];simp only[ACr,yX,St.setB,upd,a6x];exact⟨rfl,a56 _,λ_ _=>trivial⟩
theorem Dm:∀(cs:List OC){n:Nat}{s:St}{G:Gh}{vs:List Value}{F:List Nat}{K:Mks->Prop},(Cb n cs).wp s0 K->Mem W0 M G s w->OCs G.I w cs vs F->F.Nodup->NM W0 M G s F->fE n s0 s->
  ∃k G',K k/\Tl W0 M G s0 s w n k.us k.m F G'/\ACs G' (s.app k.us) w k.acs vs
 |[],n,s,G,vs,F,K,hq,hm,hc,hn,hf,hv=>by
  simp only[OCs]at hc;obtain⟨rfl,rfl⟩:=hc;exact⟨_,G,hq,⟨hm,Ext.refl _ _ _,rfl,a56 _,hv,λx b h=>.inl h,rfl,rfl,λk _=>⟨rfl,rfl,rfl,rfl,rfl⟩⟩,by simp[ACs]⟩
 |c::cs,n,s,G,vs,F,K,hq,hm,hc,hn,hf,hv=>by
  simp only[OCs]at hc;obtain⟨x,r,F1,F2,rfl,h1,h2,rfl⟩:=hc;simp only[Cb,Q.wp_bind]at hq;rw[a6K]at hn;obtain⟨k,G1,hq,j1,j2⟩:=JU c hq hm h1 hn.1 (λb hb=>hf b (by simp[hb])) hv;have hf2:NM W0 M G1 (s.app k.us) F2:=NM.after (F1:=F1) (λb hb=>hf b (by simp[hb])) (λb hb1 hb2=>hn.2.2 b hb1 b hb2 rfl) j1;obtain⟨ks,G2,hq,j3,j4⟩:=Dm cs hq j1.mem (by rw[j1.I];exact h2) hn.2.1 hf2 j1.ver;refine⟨_,G2,hq,j1.trans j3,?_⟩;rw[St.app_append];simp only[ACs];exact⟨x,r,rfl,j3.ext.ac j2,j4⟩
end
end
inductive CSh where
 |D
 |R (sz:Nat) (e:TypeId)
 |B (cs:List CSh)
 |E
inductive ASh where
 |c (s:CSh)
 |agg (ss:List CSh)
 |bx (ss:List CSh)
 |rx (sz:Nat) (e:TypeId)
structure Tk where
 oc:OC
 fz:List Nat
 ids:List (Nat⊕Nat)
structure Tks where
 ocs:List OC
 fz:List Nat
 ids:List (Nat⊕Nat)
mutual
def zR:CSh->AC->Q Tk
 |.D,ac=>(toD ac).bind λd=>.ret ⟨.d d.1,d.2,[]⟩
 |.R sz e,.row id ver=>.rdR id λr=>match r.c with
  |some R=>.req (ver=r.ver/\R.sz=sz/\R.e=e/\R.fr=false) (.ret ⟨.row sz e R.es,[],[.inr id]⟩)
  |none=>.fail
 |.R sz e,.nil=>.req (0<sz/\e<jn) (.ret ⟨.row sz e [],[],[]⟩)
 |.R _ _,_=>.fail
 |.E,.eptr cs=>.ret ⟨.e cs,[],[]⟩
 |.E,_=>.fail
 |.B cs,.ptr id ver off=>.rdB id λb=>match b.c with
  |some acs=>(gn cs acs).bind λk=>.req (ver=b.ver/\off=0) (.ret ⟨.box k.ocs,k.fz,.inl id::k.ids⟩)
  |none=>.fail
 |.B _,_=>.fail
def gn:List CSh->List AC->Q Tks
 |[],[]=>.ret ⟨[],[],[]⟩
 |s::ss,c::cs=>(zR s c).bind λk=>(gn ss cs).bind λks=>.ret ⟨k.oc::ks.ocs,k.fz++ks.fz,k.ids++ks.ids⟩
 |_,_=>.fail
end
structure Ta where
 oa:OA
 fz:List Nat
 ids:List (Nat⊕Nat)
 tops:List (Nat⊕Nat)
structure Tas where
 xs:List OA
 fz:List Nat
 ids:List (Nat⊕Nat)
 tops:List (Nat⊕Nat)
def Tm:ASh->AV->Q Ta
 |.c s,.c ac=>(zR s ac).bind λk=>.ret ⟨.c k.oc,k.fz,k.ids,[]⟩
 |.agg ss,.agg acs=>(gn ss acs).bind λk=>.ret ⟨.agg k.ocs,k.fz,k.ids,[]⟩
 |.bx ss,.c (.ptr id ver off)=>.rdB id λb=>match b.c with
  |some acs=>(gn ss acs).bind λk=>.req (ver=b.ver/\off=0) (.ret ⟨.bx k.ocs,k.fz,k.ids,[.inl id]⟩)
  |none=>.fail
 |.rx sz e,.c (.row id ver)=>.rdR id λr=>match r.c with
  |some R=>.req (ver=r.ver/\R.sz=sz/\R.e=e/\R.fr=false/\e<jn) (.ret ⟨.rx sz e R.es,[],[],[.inr id]⟩)
  |none=>.fail
 |.bx _,.c (.d (.v (.pointer none)))=>.ret ⟨.c (.d (.v (.pointer none))),[],[],[]⟩
 |_,_=>.fail
def zS:List ASh->List AV->Q Tas
 |[],[]=>.ret ⟨[],[],[],[]⟩
 |s::ss,c::cs=>(Tm s c).bind λk=>(zS ss cs).bind λks=>.ret ⟨k.oa::ks.xs,k.fz++ks.fz,k.ids++ks.ids,k.tops++ks.tops⟩
 |_,_=>.fail
section
variable {W0:World}{M:Own}{G:Gh}{s:St}{w:World}
structure Dn (G:Gh) (s:St) (w:World) (I':Nat->Nat->Prop) (fz:List Nat) (ids:List (Nat⊕Nat)):Prop where
 I:∀b o,G.I b o->I' b o
 fz:∀id∈fz,∀R,(s.r id).c=some R->DVr I' w (.sl R.es) (G.rw id)
 no:∀x∈ids,∀g,g∈own G s x->∀o,¬I' g o
theorem Dn.sub{I':Nat->Nat->Prop}{fz fz':List Nat}{ids ids':List (Nat⊕Nat)}(h:Dn G s w I' fz ids) (h1:∀x∈fz',x∈fz) (h2:∀x∈ids',x∈ids):Dn G s w I' fz' ids':=
 ⟨h.I,λid hm=>h.fz id (h1 id hm),λx hm=>h.no x (h2 x hm)⟩
def live(s:St):Nat⊕Nat->Prop
 |.inl id=>(s.b id).c.isSome=true
 |.inr id=>∃R,(s.r id).c=some R/\R.fr=false
mutual
theorem JV(h:Mem W0 M G s w):∀(sh:CSh){ac:AC}{v:Value}{K:Tk->Prop},ACr G s w ac v->(zR sh ac).wp s K->∃k,K k/\(∀x∈k.ids,live s x)/\∀I',Dn G s w I' k.fz k.ids->OCr I' w k.oc v (k.ids.flatMap (own G s))
 |.D,ac,v,K,hx,hq=>by
  simp only[zR,Q.wp_bind,Q.wp]at hq;obtain⟨d,hq,_,hd⟩:=BW hx hq;exact⟨_,hq,by simp,λI' hf=>by simp only[OCr];exact⟨rfl,hd I' hf.I hf.fz⟩⟩
 |.E,ac,v,K,hx,hq=>by
  cases ac <;> simp only[zR,Q.wp]at hq <;> (try exact hq.elim)
  case eptr cs=>
   simp only[ACr]at hx;obtain⟨ad,xs,h1,h2,h3⟩:=hx;refine⟨_,hq,by simp,λI' hf=>?_⟩;simp only[OCr];exact⟨rfl,ad,xs,h1,bo.mono hf.I (pF.refl _ _) _ h2,λj u hu=>⟨(h3 j u hu).1,hf.I _ _ (h3 j u hu).2⟩⟩
 |.R sz e,ac,v,K,hx,hq=>by
  cases ac <;> simp only[zR,Q.wp]at hq <;> (try exact hq.elim)
  case nil=>
   simp only[ACr]at hx;subst hx;refine⟨_,hq.2,by simp,λI' hf=>?_⟩;simp only[OCr];exact⟨[],⟨hq.1.1,by simp,.inl ⟨hq.1.2,[],World.ownsRow_nil w 0 e sz,by simp[V2]⟩⟩,by simp[obk],λg o hg=>(by cases hg),λk=>absurd k (eU hq.1.2)⟩
  case row id ver=>
   split at hq
   ·rename_i R hR;obtain⟨⟨h1,h2,h3,h4⟩,hq⟩:=hq;simp only[ACr]at hx;obtain rfl:=hx.2.2 h1 (by rw[hR];rfl);refine⟨_,hq,λx hm=>by simp at hm;subst hm;exact⟨R,hR,h4⟩,λI' hf=>?_⟩;have q:=(h.rw id R hR).mono hf.I;simp only[OCr];obtain⟨Re,Rz,Rt,Rf⟩:=R;simp only at h2 h3 h4;subst h2;subst h3;subst h4;exact⟨G.ex id,q,by simp[own,hR],λg o hg=>hf.no (.inr id) (by simp) g (pg hR hg) o,λhe=>⟨(h.sx id _ hR he).1,λb hb=>hf.no (.inr id) (by simp) b (vY hR he hb)⟩⟩
   ·exact hq.elim
 |.B cs,ac,v,K,hx,hq=>by
  cases ac <;> simp only[zR,Q.wp]at hq <;> (try exact hq.elim)
  case ptr id ver off=>
   split at hq
   ·rename_i acs hc;rw[Q.wp_bind]at hq;obtain⟨cur,ty,hh,hac⟩:=h.bx id acs hc;obtain⟨k,hk0,hl,hk⟩:=wk h cs hac hq;clear hq;obtain⟨⟨h1,h2⟩,hq⟩:=hk0;simp only[ACr]at hx;obtain rfl:=hx.2.2 h1 (by rw[hc];rfl);rw[h2];have hown:own G s (.inl id)=[G.bx id]:=by simp[own,hc]
    refine⟨_,hq,λx hm=>by
     rcases List.mem_cons.1 hm with rfl|hm
     ·simp[live,hc]
     ·exact hl x hm,λI' hf=>?_⟩
    simp only[OCr];refine⟨G.bx id,cur,ty,_,rfl,hh,hk I' (hf.sub (λ_ h=>h) (λx hm=>by simp[hm])),?_,λo=>hf.no (.inl id) (by simp) _ (by rw[hown];simp) o⟩;rw[a6q,hown];rfl
   ·exact hq.elim
theorem wk(h:Mem W0 M G s w):∀(shs:List CSh){acs:List AC}{vs:List Value}{K:Tks->Prop},ACs G s w acs vs->(gn shs acs).wp s K->∃k,K k/\(∀x∈k.ids,live s x)/\∀I',Dn G s w I' k.fz k.ids->OCs I' w k.ocs vs (k.ids.flatMap (own G s))
 |[],acs,vs,K,hx,hq=>by
  cases acs with
  |nil=>
   simp only[ACs]at hx;subst hx;exact⟨_,hq,by simp,λI' hf=>by simp[OCs]⟩
  |cons c cs=>exact hq.elim
 |sh::shs,acs,vs,K,hx,hq=>by
  cases acs with
  |nil=>exact hq.elim
  |cons c cs=>
   simp only[ACs]at hx;obtain⟨v,r,rfl,h1,h2⟩:=hx;simp only[gn,Q.wp_bind,Q.wp]at hq;obtain⟨k,hq,hl,hk⟩:=JV h sh h1 hq;obtain⟨ks,hq,hls,hks⟩:=wk h shs h2 hq;refine⟨_,hq,λx hm=>by
    rcases List.mem_append.1 hm with hm|hm
    ·exact hl x hm
    ·exact hls x hm,λI' hf=>?_⟩
   simp only[OCs];exact⟨v,r,_,_,rfl,hk I' (hf.sub (λx hm=>by simp[hm]) (λx hm=>by simp[hm])),hks I' (hf.sub (λx hm=>by simp[hm]) (λx hm=>by simp[hm])),a7y⟩
end
def a0k(s:St):Nat⊕Nat->Prop
 |.inl _=>True
 |.inr id=>∃R,(s.r id).c=some R/\R.e<jn
def lx(G:Gh):Nat⊕Nat->Value
 |.inl t=>.pointer (some ⟨G.bx t,0,none⟩)
 |.inr t=>G.rw t
theorem Tn(h:Mem W0 M G s w){sh:ASh}{x:AV}{v:Value}{K:Ta->Prop}(hx:AVr G s w x v) (hq:(Tm sh x).wp s K) :
  ∃k,K k/\(∀x∈k.ids,live s x)/\(∀x∈k.tops,live s x/\a0k s x)/\(∀I',Dn G s w I' k.fz (k.tops++k.ids)->OAr I' w k.oa v ((k.tops++k.ids).flatMap (own G s)))/\
   ((k.tops=[]/\(∀cs,k.oa ≠ .bx cs)/\∀a b c,k.oa ≠ .rx a b c)\/(∃id cs,k.tops=[.inl id]/\k.oa= .bx cs/\v=lx G (.inl id))\/∃id a b c,k.tops=[.inr id]/\k.oa= .rx a b c/\v=lx G (.inr id)):=by
 unfold Tm at hq;split at hq
 ·simp only[Q.wp_bind,Q.wp]at hq;obtain⟨k,hq,hl,hk⟩:=JV h _ (J2 hx) hq;exact⟨_,hq,hl,by simp,λI' hf=>by simpa [OAr]using hk I' (by simpa using hf),.inl ⟨rfl,by simp,by simp⟩⟩
 ·simp only[Q.wp_bind,Q.wp]at hq;simp only[AVr]at hx;obtain⟨vs,rfl,hx⟩:=hx;obtain⟨k,hq,hl,hk⟩:=wk h _ hx hq;exact⟨_,hq,hl,by simp,λI' hf=>by simp only[OAr];exact⟨vs,rfl,by simpa using hk I' (by simpa using hf)⟩,.inl ⟨rfl,by simp,by simp⟩⟩
 ·rename_i ss id ver off;simp only[Q.wp]at hq;split at hq
  ·rename_i acs hc;rw[Q.wp_bind]at hq;obtain⟨cur,ty,hh,hac⟩:=h.bx id acs hc;obtain⟨k,hk0,hl,hk⟩:=wk h ss hac hq;clear hq;obtain⟨⟨h1,h2⟩,hq⟩:=hk0;have hx':=J2 hx;simp only[ACr]at hx';obtain rfl:=hx'.2.2 h1 (by rw[hc];rfl);rw[h2];have hown:own G s (.inl id)=[G.bx id]:=by simp[own,hc]
   refine⟨_,hq,hl,λi hi=>by simp at hi;subst hi;simp[live,a0k,hc],λI' hf=>?_,.inr (.inl ⟨id,_,rfl,rfl,rfl⟩)⟩;simp only[OAr,OCr];refine⟨G.bx id,cur,ty,_,rfl,hh,hk I' (hf.sub (λ_ h=>h) (λx hm=>by simp[hm])),?_,λo=>hf.no (.inl id) (by simp) _ (by rw[hown];simp) o⟩;simp[hown]
  ·exact hq.elim
 ·rename_i sz e id ver;simp only[Q.wp]at hq;split at hq
  ·rename_i R hR;obtain⟨⟨h1,h2,h3,h4,h5⟩,hq⟩:=hq;have hx':=J2 hx;simp only[ACr]at hx';obtain rfl:=hx'.2.2 h1 (by rw[hR];rfl);refine⟨_,hq,by simp,λx hm=>by simp at hm;subst hm;exact⟨⟨R,hR,h4⟩,R,hR,by rw[h3];exact h5⟩,λI' hf=>?_,.inr (.inr ⟨id,_,_,_,rfl,rfl,rfl⟩)⟩;have q:=(h.rw id R hR).mono hf.I;simp only[OAr,OCr];obtain⟨Re,Rz,Rt,Rf⟩:=R;simp only at h2 h3 h4;subst h2;subst h3;subst h4;exact⟨G.ex id,q,by simp[own,hR],λg o hg=>hf.no (.inr id) (by simp) g (pg hR hg) o,λhe=>⟨(h.sx id _ hR he).1,λb hb=>hf.no (.inr id) (by simp) b (vY hR he hb)⟩⟩
  ·exact hq.elim
 ·have hx':=J2 hx;simp only[ACr,DVr]at hx';exact⟨_,hq,by simp,by simp,λI' hf=>by simp[OAr,OCr,DVr,hx'],.inl ⟨rfl,by simp,by simp⟩⟩
 ·exact hq.elim
def sQ(G:Gh):List OA->List Value->List (Nat⊕Nat)->Prop
 |[],_,ts=>ts=[]
 |.bx _::xs,vs,ts=>∃v r t tr,vs=v::r/\ts=t::tr/\v=lx G t/\sQ G xs r tr
 |.rx _ _ _::xs,vs,ts=>∃v r t tr,vs=v::r/\ts=t::tr/\v=lx G t/\sQ G xs r tr
 |_::xs,vs,ts=>∃v r,vs=v::r/\sQ G xs r ts
structure a0l (G:Gh) (s:St) (w:World) (k:Tas) (vs:List Value) (foot:List (Nat⊕Nat)):Prop where
 mem:∀x,x∈foot↔x∈k.tops\/x∈k.ids
 live:∀x∈foot,live s x
 rx:∀x∈k.tops,a0k s x
 oas:∀I',Dn G s w I' k.fz foot->OAs I' w k.xs vs (foot.flatMap (own G s))
 tops:sQ G k.xs vs k.tops
 nodup:(k.tops++k.ids).Nodup->foot.Nodup
theorem zT(h:Mem W0 M G s w):∀(shs:List ASh){xs:List AV}{vs:List Value}{K:Tas->Prop},AVs G s w xs vs->(zS shs xs).wp s K->∃k foot,K k/\a0l G s w k vs foot
 |[],xs,vs,K,hx,hq=>by
  cases xs with
  |nil=>
   simp only[AVs]at hx;subst hx;exact⟨_,[],hq,⟨by simp,by simp,by simp,λI' hf=>by simp[OAs],by simp[sQ],λh=>h⟩⟩
  |cons c cs=>exact hq.elim
 |sh::shs,xs,vs,K,hx,hq=>by
  cases xs with
  |nil=>exact hq.elim
  |cons c cs=>
   simp only[AVs]at hx;obtain⟨v,r,rfl,h1,h2⟩:=hx;simp only[zS,Q.wp_bind,Q.wp]at hq;obtain⟨k,hq,hl,hlt,hk,htop⟩:=Tn h h1 hq;obtain⟨ks,foot,hq,t1,t2,t6,t3,t4,t5⟩:=zT h shs h2 hq;refine⟨_,(k.tops++k.ids)++foot,hq,⟨λx=>?_,λx hm=>?_,λx hm=>?_,λI' hf=>?_,?_,λhnd=>?_⟩⟩
   ·simp only[a6Z,t1 x];constructor
    ·rintro((h|h)|(h|h))
     ·exact .inl (.inl h)
     ·exact .inr (.inl h)
     ·exact .inl (.inr h)
     ·exact .inr (.inr h)
    ·rintro((h|h)|(h|h))
     ·exact .inl (.inl h)
     ·exact .inr (.inl h)
     ·exact .inl (.inr h)
     ·exact .inr (.inr h)
   ·rcases List.mem_append.1 hm with hm|hm
    ·rcases List.mem_append.1 hm with hm|hm
     ·exact(hlt x hm).1
     ·exact hl x hm
    ·exact t2 x hm
   ·rcases List.mem_append.1 hm with hm|hm
    ·exact(hlt x hm).2
    ·exact t6 x hm
   ·simp only[OAs];exact⟨v,r,_,_,rfl,hk I' (hf.sub (λx hm=>by simp[hm]) (λx hm=>a77 _ hm)),t3 I' (hf.sub (λx hm=>by simp[hm]) (λx hm=>a7Y _ hm)),a7y⟩
   ·rcases htop with⟨e1,e2,e3⟩|⟨id,cs',e1,e2,e3⟩|⟨id,a',b',c',e1,e2,e3⟩
    ·simp only[e1,a6w];cases hoa:k.oa with
     |c x=>exact⟨v,r,rfl,t4⟩
     |agg x=>exact⟨v,r,rfl,t4⟩
     |bx x=>exact(e2 x hoa).elim
     |rx x y z=>exact(e3 x y z hoa).elim
    ·simp only[e1,e2];exact⟨v,r,.inl id,ks.tops,rfl,rfl,e3,t4⟩
    ·simp only[e1,e2];exact⟨v,r,.inr id,ks.tops,rfl,rfl,e3,t4⟩
   ·have hnd':((k.tops++k.ids)++(ks.tops++ks.ids)).Nodup:=by
     refine(List.Perm.nodup_iff ?_).1 hnd;simp only[a50];refine List.Perm.append_left _ ?_;rw[<-a50,<-a50];exact List.Perm.append_right _ List.perm_append_comm
    rw[a6K]at hnd'⊢;refine⟨hnd'.1,t5 hnd'.2.1,λa ha b hb e=>hnd'.2.2 a ha b ?_ e⟩;rcases(t1 b).1 hb with h|h
    ·exact a77 _ h
    ·exact a7Y _ h
end
inductive Sp where
 |none
 |keys (f1:FuncId)
 |sortI (f1:FuncId) (e:TypeId)
 |sortS (f1:FuncId) (e:TypeId)
def a3g(P:Program) (f f1:FuncId) (e:TypeId):Prop:=∀(w:World) (b g:Nat) (ty:TypeId) (en:Array MapEntry) (clock:Nat) (ks:List Int),w.heap[b]?=some (.cells #[.map (some g)] ty (0,0))->w.heap[g]?=some (.map en clock)->NQ en.toList clock->
 en.toList.map (·.key)=ks.map (Value.int .i64)->ks.Nodup->(∀x∈ks,(Lit.int .i64 x).wf=true)->ks.length<=maxLen->ks.length*8<=140737488355328->
 Calls P f #[LR f1 b] w λo w'=>∃v,o= .returned v/\w'.ownsRow w.heap.size e 1 v ks.length ((ks.mergeSort λx y=>decide (x<=y)).map (Value.int .i64))/\RowKit.Below w.heap.size w w'
def To(l:List UInt8):Value:=.string ⟨l.toArray⟩
def a3h(P:Program) (f f1:FuncId) (e:TypeId):Prop:=∀(w:World) (b g:Nat) (ty:TypeId) (en:Array MapEntry) (clock:Nat) (ks:List (List UInt8)),w.heap[b]?=some (.cells #[.map (some g)] ty (0,0))->w.heap[g]?=some (.map en clock)->NQ en.toList clock->
 en.toList.map (·.key)=ks.map To->ks.Nodup->(∀x∈ks,x.length<=maxLen)->ks.length<=maxLen->ks.length*16<=140737488355328->
 Calls P f #[LR f1 b] w λo w'=>∃v,o= .returned v/\w'.ownsRow w.heap.size e 1 v ks.length ((ks.mergeSort λx y=>decide (x<=y)).map To)/\RowKit.Below w.heap.size w w'
def a4j(P:Program) (f:FuncId):Sp->Prop
 |.none=>True
 |.keys f1=>∃tm,∀g w,Calls P f #[.map (some g)] w λe w'=>e= .returned (LR f1 w.heap.size)/\w'=w.alloc (.cells #[.map (some g)] tm)
 |.sortI f1 e=>a3g P f f1 e
 |.sortS f1 e=>a3h P f f1 e
structure xr where
 sh:List ASh
 pre:List OA->Prop
 post:List OA->List OA
 res:List OA->List OA
 sp:Sp
 flat:Bool
def yh:OC->Bool
 |.d (.v _)=>true
 |_=>false
def Fj:OA->Bool
 |.c x=>yh x
 |.agg xs=>xs.all yh
 |_=>false
theorem JW{c:OC}(h:yh c=true):∃u,c= .d (.v u):=by
 unfold yh at h;split at h
 ·exact⟨_,rfl⟩
 ·cases h
theorem OK{I J:Nat->Nat->Prop}{w w':World}:∀{cs:List OC}{vs:List Value}{F:List Nat},cs.all yh=true->OCs I w cs vs F->OCs J w' cs vs []/\F=[]
 |[],vs,F,_,h=>by simp only[OCs]at h⊢;exact⟨⟨h.1,trivial⟩,h.2⟩
 |c::cs,vs,F,hf,h=>by
  rw[a61,a5S]at hf;obtain⟨u,rfl⟩:=JW hf.1;simp only[OCs]at h⊢;obtain⟨x,r,F1,F2,rfl,h1,h2,rfl⟩:=h;obtain⟨h3,rfl⟩:=OK (J:=J) (w':=w') hf.2 h2;simp only[OCr,DVr]at h1⊢;obtain⟨rfl,h4⟩:=h1;exact⟨⟨x,r,[],[],rfl,⟨rfl,h4⟩,h3,rfl⟩,rfl⟩
theorem OL{I J:Nat->Nat->Prop}{w w':World}:∀{cs:List OA}{vs:List Value}{F:List Nat},cs.all Fj=true->OAs I w cs vs F->OAs J w' cs vs []
 |[],vs,F,_,h=>by simp only[OAs]at h⊢;exact⟨h.1,trivial⟩
 |c::cs,vs,F,hf,h=>by
  rw[a61,a5S]at hf;obtain⟨hf1,hf2⟩:=hf;simp only[OAs]at h⊢;obtain⟨x,r,F1,F2,rfl,h1,h2,rfl⟩:=h;have h3:=OL (J:=J) (w':=w') hf2 h2;refine⟨x,r,[],[],rfl,?_,h3,rfl⟩;unfold Fj at hf1;split at hf1
  ·rename_i y;obtain⟨u,rfl⟩:=JW hf1;simp only[OAr,OCr,DVr]at h1⊢;exact⟨trivial,h1.2⟩
  ·rename_i ys;simp only[OAr]at h1⊢;obtain⟨vs',e,h5⟩:=h1;exact⟨vs',e,(OK (J:=J) (w':=w') hf1 h5).1⟩
  ·cases hf1
def bZ:List OA->List Value->List Value
 |.bx _::xs,v::vs=>v::bZ xs vs
 |.rx _ _ _::xs,v::vs=>v::bZ xs vs
 |_::xs,_::vs=>bZ xs vs
 |_,_=>[]
structure Ret (S:xr) (I:Nat->Nat->Prop) (w:World) (xs:List OA) (args:List Value) (F:List Nat) (w':World) (I':Nat->Nat->Prop) (vs:List Value) (Fp Fr':List Nat):Prop where
 fr:Fr w (· ∈ F) w'
 sub:∀b o,I b o->I' b o
 keep:pF I w w'
 new:∀b o,I' b o->I b o\/b∈F\/w.heap.size<=b
 lt:∀b o,I' b o->b<w'.heap.size
 post:OAs I' w' (S.post xs) (bZ xs args) Fp
 res:OAs I' w' (S.res xs) vs Fr'
 nodup:(Fp++Fr').Nodup
 own:∀b∈Fp++Fr',b∈F\/w.heap.size<=b
def Wq(vs:List Value):Value:=match vs with
 |[v]=>v
 |vs=>.tuple vs.toArray
structure Tp (P:Program) (f:FuncId) (S:xr):Prop where
 sp:a4j P f S.sp
 isf:∃fn,P.funcs[f]?=some fn/\fn.body.isSome=true/\(fn.name== "runtime.NumGoroutine")=false
 calls:∀(w:World) (I:Nat->Nat->Prop) (F:List Nat) (args:Array Value) (xs:List OA),(∀b o,I b o->b<w.heap.size)->Wi I w->OAs I w xs args.toList F->F.Nodup->S.pre xs->
  Calls P f args w fun | .returned v,w'=>∃I' vs Fp Fr',v=Wq vs/\Ret S I w xs args.toList F w' I' vs Fp Fr' | _,_=>False
def HE:List (Nat⊕Nat)->Q (List Upd)
 |[]=>.ret []
 |.inl id::ids=>.rdB id λb=>(HE ids).bind λus=>.ret (.b id ⟨b.ver,none⟩::us)
 |.inr id::ids=>.rdR id λb=>(HE ids).bind λus=>.ret (.r id ⟨b.ver,none⟩::us)
def Bn:List (Nat⊕Nat)->List OA->Q (List Upd)
 |[],[]=>.ret []
 |.inl id::ids,.bx cs::css=>.rdB id λb=>(Bn ids css).bind λus=>.ret (.b id ⟨b.ver,some (cs.map λ_=>.junk)⟩::us)
 |.inr id::ids,.rx sz e es::css=>.req (e<jn) <| .rdR id λr=>(Bn ids css).bind λus=>.ret (.r id ⟨r.ver,some ⟨es,sz,e,false⟩⟩::us)
 |_,_=>.fail
def tid:Nat⊕Nat->Nat
 |.inl j=>j
 |.inr j=>j
structure Mps where
 us:List Upd
 m:Nat
def HF(n:Nat):List (Nat⊕Nat)->List OA->Q Mps
 |[],[]=>.ret ⟨[],n⟩
 |.inl id::ids,.bx cs::css=>(Cb n cs).bind λk=>.req (∀j ∈ .inl id::ids,tid j<n\/k.m<=tid j) (.rdB id λb=>(HF k.m ids css).bind λp=>.ret ⟨k.us++(.b id ⟨b.ver,some k.acs⟩::p.us),p.m⟩)
 |.inr _::ids,.rx _ _ _::css=>HF n ids css
 |_,_=>.fail
structure Mka where
 av:AV
 us:List Upd
 m:Nat
structure a3i where
 avs:List AV
 us:List Upd
 m:Nat
def mkA(n:Nat):OA->Q Mka
 |.c x=>(mkC n x).bind λk=>.ret ⟨.c k.ac,k.us,k.m⟩
 |.agg xs=>(Cb n xs).bind λk=>.ret ⟨.agg k.acs,k.us,k.m⟩
 |.bx cs=>(mkC n (.box cs)).bind λk=>.ret ⟨.c k.ac,k.us,k.m⟩
 |.rx sz e es=>(mkC n (.row sz e es)).bind λk=>.ret ⟨.c k.ac,k.us,k.m⟩
def XO(n:Nat):List OA->Q a3i
 |[]=>.ret ⟨[],[],n⟩
 |c::cs=>(mkA n c).bind λk=>(XO k.m cs).bind λks=>.ret ⟨k.av::ks.avs,k.us++ks.us,ks.m⟩
def ZC(vs:List AV):AV:=match vs with
 |[v]=>v
 |vs=>.tup vs
def yZ:Option Nat->Nat
 |some d=>(d+1)*1000
 |none=>900
def OM(S:xr) (o:Oper) (c:Call) (ex:List AV:=[]):Q (List Upd):=
 (evs c.args.toList).bind λxs=>(zS S.sh (xs++ex)).bind λk=>
 .req ((k.tops++k.ids).Nodup/\(∀id∈k.fz,Sum.inr id∉k.tops++k.ids)/\S.pre k.xs)
 (match S.flat&&k.tops.isEmpty&&k.ids.isEmpty with
 |true=>.req (S.post k.xs=[]/\(S.res k.xs).all Fj=true) ((lV k.fz).bind λ_=>(XO (yZ o.dst) (S.res k.xs)).bind λr=>.ret (r.us++Hr o.dst (ZC r.avs)))
 |false=>(lV k.fz).bind λus1=>(HE k.ids).bind λus2=>(Bn k.tops (S.post k.xs)).bind λus3=>(HF (yZ o.dst) k.tops (S.post k.xs)).bind λp=>(XO p.m (S.res k.xs)).bind λr=>
 .ret (us1++us2++us3++p.us++r.us++Hr o.dst (ZC r.avs)))
section
variable {W0:World}{M:Own}{G:Gh}{s s' s0:St}{w w':World}
theorem Mem.dropBox(h:Mem W0 M G s w) (id:Nat):Mem W0 M G (s.setB id ⟨(s.b id).ver,none⟩) w/\Ext G s w G (s.setB id ⟨(s.b id).ver,none⟩) w:=by
 have E:Ext G s w G (s.setB id ⟨(s.b id).ver,none⟩) w:=by
  refine⟨λ_ _ h=>h,pF.refl _ _,λk=>?_,λ_=>⟨a56 _,λ_ h=>⟨h,rfl⟩⟩,λ_ _=>rfl⟩;simp only[St.setB,upd];by_cases e:k=id
  ·subst e;simp
  ·simp only[e,a6o];exact⟨a56 _,λ_ h=>⟨h,trivial⟩⟩
 have ho:∀x b,b∈own G (s.setB id ⟨(s.b id).ver,none⟩) x->b∈own G s x:=by
  intro x b hx;rcases x with k|k
  ·by_cases e:k=id
   ·subst e;simp[own,St.setB,upd]at hx
   ·simpa [own,St.setB,upd,e]using hx
  ·exact hx
 refine⟨⟨λk c hc=>?_,λk R hc=>h.rw k R hc,λx y b hx hy=>h.dj x y b (ho x b hx) (ho y b hy),λk hc=>?_,h.rI,λx b hx=>h.oM x b (ho x b hx),h.In,h.fr,h.ii,h.gl.mono E.I E.keep,h.pe,h.sx⟩,E⟩
 ·simp only[St.setB,upd]at hc;by_cases e:k=id
  ·simp[e]at hc
  ·simp only[e,a6o]at hc;obtain⟨cur,ty,h1,h2⟩:=h.bx k c hc;exact⟨cur,ty,h1,E.acs h2⟩
 ·simp only[St.setB,upd]at hc;by_cases e:k=id
  ·simp[e]at hc
  ·simp only[e,a6o]at hc;exact h.bI k hc
structure a5d (G:Gh) (s s':St) (ids:List (Nat⊕Nat)):Prop where
 n_:s'.n=s.n
 t:s'.t=s.t
 gone:∀x∈ids,own G s' x=[]
 less:∀x b,b∈own G s' x->b∈own G s x
 b:∀id,Sum.inl id∉ids->s'.b id=s.b id
 r:∀id,Sum.inr id∉ids->s'.r id=s.r id
theorem zU(x:Nat⊕Nat) (id:Nat) (y:BS) (h:x ≠ .inl id):own G (s.setB id y) x=own G s x:=by
 rcases x with k|k
 ·have e:k≠id:=λe=>h (by rw[e]);simp[own,St.setB,upd,e]
 ·rfl
theorem HG(x:Nat⊕Nat) (id:Nat) (y:RS) (h:x ≠ .inr id):own G (s.setR id y) x=own G s x:=by
 rcases x with k|k
 ·rfl
 ·have e:k≠id:=λe=>h (by rw[e]);simp[own,St.setR,upd,e]
theorem fE.setB{n:Nat}(h:fE n s0 s){id ver:Nat}{c:Option (List AC)}(he:n<=id->ver=(s.b id).ver):fE n s0 (s.setB id ⟨ver,c⟩):=λk hk=>by
 have:=h k hk;simp only[St.setB,upd];by_cases e:k=id
 ·subst e;simp only[a6x];exact⟨(he hk).trans this.1,this.2⟩
 ·simp only[e,a6o];exact this
theorem fE.setR{n:Nat}(h:fE n s0 s){id ver:Nat}{c:Option Row}(he:n<=id->ver=(s.r id).ver):fE n s0 (s.setR id ⟨ver,c⟩):=λk hk=>by
 have:=h k hk;simp only[St.setR,upd];by_cases e:k=id
 ·subst e;simp only[a6x];exact⟨this.1,(he hk).trans this.2⟩
 ·simp only[e,a6o];exact this
theorem si{x:Nat⊕Nat}(h:own G s x=[]) (hl:∀x b,b∈own G s' x->b∈own G s x):own G s' x=[]:=
 List.eq_nil_iff_forall_not_mem.2 λb hb=>by have:=hl x b hb;rw[h]at this;cases this
theorem Do:∀{ids:List (Nat⊕Nat)}{s:St}{K:List Upd->Prop},(HE ids).wp s0 K->Mem W0 M G s w->fE 0 s0 s->∃us,K us/\Mem W0 M G (s.app us) w/\Ext G s w G (s.app us) w/\fE 0 s0 (s.app us)/\a5d G s (s.app us) ids
 |[],s,K,hq,hm,hv=>⟨[],hq,hm,Ext.refl _ _ _,hv,⟨rfl,rfl,by simp,λx b h=>h,λ_ _=>rfl,λ_ _=>rfl⟩⟩
 |.inl id::ids,s,K,hq,hm,hv=>by
  simp only[HE,Q.wp]at hq;rw[Q.wp_bind]at hq;have hver:(s0.b id).ver=(s.b id).ver:=((hv id (a6p _)).1).symm;obtain⟨m1,x1⟩:=hm.dropBox id;obtain⟨us,hK,m2,x2,v2,d2⟩:=Do hq m1 (hv.setB (λ_=>rfl));have hless:∀x b,b∈own G (s.setB id ⟨(s.b id).ver,none⟩) x->b∈own G s x:=λx b hx=>by
   by_cases e:x= .inl id
   ·subst e;simp[own,St.setB,upd]at hx
   ·rw[zU x id _ e]at hx;exact hx
  refine⟨_,hK,?_⟩;simp only[St.app,St.app1];rw[hver];refine⟨m2,x1.trans x2,v2,⟨d2.n_,d2.t,λx hx=>?_,λx b hx=>hless x b (d2.less x b hx),λk hk=>?_,λk hk=>?_⟩⟩
  ·rcases List.mem_cons.1 hx with rfl|hx
   ·refine si ?_ d2.less;simp[own,St.setB,upd]
   ·exact d2.gone x hx
  ·rw[d2.b k (λh=>hk (a6h _ h))];have:k≠id:=λe=>hk (by simp[e]);simp[St.setB,upd,this]
  ·rw[d2.r k (λh=>hk (a6h _ h))];rfl
 |.inr id::ids,s,K,hq,hm,hv=>by
  simp only[HE,Q.wp]at hq;rw[Q.wp_bind]at hq;have hver:(s0.r id).ver=(s.r id).ver:=((hv id (a6p _)).2).symm;obtain⟨m1,x1⟩:=hm.dropRow id;obtain⟨us,hK,m2,x2,v2,d2⟩:=Do hq m1 (hv.setR (λ_=>rfl));have hless:∀x b,b∈own G (s.setR id ⟨(s.r id).ver,none⟩) x->b∈own G s x:=λx b hx=>by
   by_cases e:x= .inr id
   ·subst e;simp[own,St.setR,upd]at hx
   ·rw[HG x id _ e]at hx;exact hx
  refine⟨_,hK,?_⟩;simp only[St.app,St.app1];rw[hver];refine⟨m2,x1.trans x2,v2,⟨d2.n_,d2.t,λx hx=>?_,λx b hx=>hless x b (d2.less x b hx),λk hk=>?_,λk hk=>?_⟩⟩
  ·rcases List.mem_cons.1 hx with rfl|hx
   ·refine si ?_ d2.less;simp[own,St.setR,upd]
   ·exact d2.gone x hx
  ·rw[d2.b k (λh=>hk (a6h _ h))];rfl
  ·rw[d2.r k (λh=>hk (a6h _ h))];have:k≠id:=λe=>hk (by simp[e]);simp[St.setR,upd,this]
theorem XP{cur:List Value}(h:∀u∈cur,u.oneCell'=true):∀{α:Type}{cs:List α},cs.length=cur.length->ACs G s w (cs.map λ_=>.junk) cur:=by
 intro α cs
 induction cur generalizing cs with
 |nil=>intro hl;cases cs with
  |nil=>simp[ACs]
  |cons c cs=>simp at hl
 |cons v vs ih=>intro hl;cases cs with
  |nil=>simp at hl
  |cons c cs=>
   simp only[a55,ACs,ACr];exact⟨v,vs,rfl,h v (by simp),ih (λu hu=>h u (by simp[hu])) (by simpa using hl)⟩
theorem SEs.keptF{F:Nat->Prop}(fr:Fr w F w'){tp:TypeId}:∀{cs:List (List DV)}{ms:List MapEntry}{xs:List Nat},SEs w tp cs ms xs->(∀b∈xs,¬F b)->SEs w' tp cs ms xs
 |[],_,_,h,_=>h
 |c::cs,ms,xs,h,hne=>by
  simp only[SEs]at h⊢;obtain⟨m,r,x,y,k,ps,vs,rfl,rfl,h1,h2,h3,h4,h5,h6,h7⟩:=h;refine⟨m,r,x,y,k,ps,vs,rfl,rfl,h1,h2,h3,⟨h4.1,?_⟩,h5,V2.mono (λ_ _ h=>h) (λ_ _ h=>h.elim) _ h6,h7.keptF fr λb hb=>hne b (by simp[hb])⟩;rcases h4.2 with h8|⟨g,cap,cur,hv,h9,hg,h10⟩
  ·exact .inl h8
  ·refine .inr ⟨g,cap,cur,hv,h9,?_,h10⟩;rw[hv]at h3;injection h3 with h3;rw[fr.block g (Array.getElem?_eq_some_iff.1 hg).1 (hne g (by simp only at h3;simp[h3]))];exact hg
theorem sL.keptF{F:Nat->Prop}(fr:Fr w F w'){v:Value}{ex:List Nat}{R:Row}(h:sL w v ex R) (hne:∀b,obk v=some b\/b∈ex->¬F b):sL w' v ex R:=by
 obtain⟨g,es,c,rfl,h1,h2,h3,h4⟩:=h;exact⟨g,es,c,rfl,(fr.block g (Array.getElem?_eq_some_iff.1 h1).1 (hne g (.inl rfl))).trans h1,h2,h3,h4.keptF fr λb hb=>hne b (.inr hb)⟩
theorem Mem.call(h:Mem W0 M G s w){F:List Nat}{I':Nat->Nat->Prop}{tops:List (Nat⊕Nat)}(hr:∀id,.inr id∉tops->s'.r id=s.r id) (hb:∀id,.inl id∉tops->s'.b id=s.b id)
  (htr:∀id,.inr id∈tops->(s.r id).c.isSome=true/\(s'.r id).ver=(s.r id).ver/\(∃R',(s'.r id).c=some R'/\jK I' w' (G.rw id) R'/\R'.e<jn)/\(∀g o,obk (G.rw id)=some g->¬I' g o)/\∃R,(s.r id).c=some R/\R.e<jn)
  (ht:∀id,.inl id∈tops->(s.b id).c.isSome=true/\(s'.b id).ver=(s.b id).ver/\(∃(n:Nat) (cs:List AC) (cur:Array Value) (ty:TypeId),(s'.b id).c=some cs/\w'.heap[G.bx id]?=some (.cells cur ty (0,0))/\cs=(List.replicate n ()).map (λ_=>.junk)/\n=cur.toList.length/\∀u∈cur.toList,u.oneCell'=true)/\∀o,¬I' (G.bx id) o)
  (hF:∀x b,b∈own G s x->b∈F->x∈tops) (hFM:∀b∈F,W0.heap.size<=b\/M b)
  (fr:Fr w (· ∈ F) w') (sub:∀b o,G.I b o->I' b o) (keep:pF G.I w w') (new:∀b o,I' b o->G.I b o\/b∈F\/w.heap.size<=b) (lt:∀b o,I' b o->b<w'.heap.size) :
  Mem W0 M ⟨I',G.bx,G.rw,G.st,G.ex⟩ s' w'/\Ext G s w ⟨I',G.bx,G.rw,G.st,G.ex⟩ s' w':=by
 have hs:∀id,(s'.b id).c.isSome=(s.b id).c.isSome/\(s'.b id).ver=(s.b id).ver:=λid=>by
  by_cases e: .inl id∈tops
  ·obtain⟨h1,h2,⟨n,cs,cur,ty,h3,_⟩,_⟩:=ht id e;exact⟨by rw[h1,h3];rfl,h2⟩
  ·rw[hb id e];exact⟨rfl,rfl⟩
 have hsr:∀id,(s'.r id).c.isSome=(s.r id).c.isSome/\(s'.r id).ver=(s.r id).ver:=λid=>by
  by_cases e: .inr id∈tops
  ·obtain⟨h1,h2,⟨R',h3,_⟩,_⟩:=htr id e;exact⟨by rw[h1,h3];rfl,h2⟩
  ·rw[hr id e];exact⟨rfl,rfl⟩
 have E:Ext G s w ⟨I',G.bx,G.rw,G.st,G.ex⟩ s' w':=
  ⟨sub,keep,λk=>⟨Nat.le_of_eq (hs k).2.symm,λ_ h1=>⟨by rw[<-(hs k).1];exact h1,rfl⟩⟩,λk=>⟨Nat.le_of_eq (hsr k).2.symm,λ_ h1=>⟨by rw[<-(hsr k).1];exact h1,rfl⟩⟩,λ_ _=>rfl⟩
 have ho:∀x,own ⟨I',G.bx,G.rw,G.st,G.ex⟩ s' x=own G s x:=by
  intro x;rcases x with k|k
  ·simp only[own,(hs k).1]
  ·by_cases e: .inr k∈tops
   ·obtain⟨_,_,⟨R',h3,_,h5⟩,_,R,h6,h7⟩:=htr k e;simp only[own,h3,h6,eU h5,eU h7]
   ·simp only[own,hr k e]
 refine⟨⟨λk c hc=>?_,λk R hc=>?_,λx y b hx hy=>h.dj x y b (by rw[ho]at hx;exact hx) (by rw[ho]at hy;exact hy),λk hc o hi=>?_,λk R g hc hg o hi=>?_,λx b hx=>h.oM x b (by rw[ho]at hx;exact hx),lt,?_,⟨λb o hi=>sub b o (h.ii.1 b o hi),λb o hi=>?_⟩,h.gl.mono E.I E.keep,λk R hc hp=>by
  by_cases e: .inr k∈tops
  ·obtain⟨_,_,⟨R',h3,_,h5⟩,_⟩:=htr k e;rw[h3]at hc;injection hc with hc;subst hc;exact absurd (a7W h5 (by decide)) (Nat.not_lt.2 hp)
  ·rw[hr k e]at hc;obtain⟨g,es,cl,i,m,k1,k2,k3⟩:=h.pe k R hc hp;refine⟨g,es,cl,i,m,k1,(fr.block g (Array.getElem?_eq_some_iff.1 k2).1 (λhm=>e (hF (.inr k) g (by simp[own,hc,k1,obk]) hm))).trans k2,k3⟩,λk R hc hp=>by
  by_cases e: .inr k∈tops
  ·obtain⟨_,_,⟨R',h3,_,h5⟩,_⟩:=htr k e;rw[h3]at hc;injection hc with hc;subst hc;exact absurd hp (eU h5)
  ·rw[hr k e]at hc;obtain⟨q1,q2⟩:=h.sx k R hc hp;have hnF:∀b,obk (G.rw k)=some b\/b∈G.ex k->b∉F:=λb hb hm=>e (hF (.inr k) b (by
    rcases hb with hb|hb
    ·exact pg hc hb
    ·exact vY hc hp hb) hm)
   refine⟨q1.keptF (F:=(· ∈ F)) fr hnF,λb hb o hi=>?_⟩;rcases new _ _ hi with h1|h1|h1
   ·exact q2 b hb o h1
   ·exact hnF b (.inr hb) h1
   ·exact absurd (q1.lt hb) (Nat.not_lt.2 h1)⟩,E⟩
 ·by_cases e: .inl k∈tops
  ·obtain⟨_,_,⟨n,cs,cur,ty,h3,h4,h5,h6,h7⟩,_⟩:=ht k e;rw[h3]at hc;injection hc with hc;subst hc;refine⟨cur,ty,h4,?_⟩;rw[h5];exact XP h7 (by simpa using h6)
  ·rw[hb k e]at hc;obtain⟨cur,ty,h1,h2⟩:=h.bx k c hc;have hlt:=(Array.getElem?_eq_some_iff.1 h1).1;refine⟨cur,ty,(fr.block _ hlt (λhm=>?_)).trans h1,E.acs h2⟩;exact e (hF (.inl k) (G.bx k) (BO (by rw[hc];rfl)) hm)
 ·by_cases e: .inr k∈tops
  ·obtain⟨_,_,⟨R',h3,h4,_⟩,_⟩:=htr k e;rw[h3]at hc;injection hc with hc;subst hc;exact h4
  rw[hr k e]at hc;obtain⟨h1,h2,⟨h0,xs,h3,h4⟩|⟨h0,g,ms,ck,hv,hg,h4,h5⟩|⟨h0,g,str,pos,hv,hg,h4⟩|⟨h0,g,hv,hg⟩⟩:=h.rw k R hc
  rotate_right
  ·exact⟨h1,h2,.inr (.inr (.inr ⟨h0,g,hv,a6L hg fr.size⟩))⟩
  rotate_left
  ·have hown:g∈own G s (.inr k):=by simp[own,hc,hv,obk]
   refine⟨h1,h2,.inr (.inl ⟨h0,g,ms,ck,hv,?_,h4.mono sub keep,h5⟩)⟩;rw[fr.block g (h.ownlt hown) (λhm=>?_)]
   ·exact hg
   ·exact e (hF _ _ hown hm)
  ·have hown:g∈own G s (.inr k):=by simp[own,hc,hv,obk]
   refine⟨h1,h2,.inr (.inr (.inl ⟨h0,g,str,pos,hv,?_,h4⟩))⟩;rw[fr.block g (h.ownlt hown) (λhm=>?_)]
   ·exact hg
   ·exact e (hF _ _ hown hm)
  refine⟨h1,h2,.inl ⟨h0,xs,⟨h3.1,?_⟩,V2.mono sub keep _ h4⟩⟩;rcases h3.2 with h5|⟨g,cap,cur,hv,h6,hg,h7⟩
  ·exact .inl h5
  ·refine .inr ⟨g,cap,cur,hv,h6,?_,h7⟩;have hown:g∈own G s (.inr k):=by simp[own,hc,hv,obk]
   rw[fr.block g (h.ownlt hown) (λhm=>?_)]
   ·exact hg
   ·exact e (hF _ _ hown hm)
 ·have hc':(s.b k).c.isSome=true:=by rw[<-(hs k).1];exact hc
  have hown:(G.bx k)∈own G s (.inl k):=by simp[own,hc']
  rcases new _ _ hi with h1|h1|h1
  ·exact h.bI k hc' o h1
  ·exact(ht k (hF _ _ hown h1)).2.2.2 o hi
  ·exact absurd h1 (Nat.not_le.2 (h.ownlt hown))
 ·by_cases e: .inr k∈tops
  ·exact((htr k e).2.2.2.1 g o hg hi).elim
  rw[hr k e]at hc;have hown:g∈own G s (.inr k):=pg hc hg;rcases new _ _ hi with h1|h1|h1
  ·exact h.rI k R g hc hg o h1
  ·exact(e (hF _ _ hown h1)).elim
  ·have:=h.ownlt hown;omega
 ·exact⟨fr.os.trans h.fr.os,fr.tape.trans h.fr.tape,fr.output.trans h.fr.output,a6c h.fr.size fr.size,λk hk hm=>(fr.block k (a6L hk h.fr.size) (λhF'=>by
   rcases hFM k hF' with h1|h1
   ·omega
   ·exact hm h1)).trans (h.fr.block k hk hm)⟩
 ·rcases new b o hi with h1|h1|h1
  ·exact h.ii.2 b o h1
  ·rcases hFM b h1 with h2|h2
   ·exact .inr (.inr h2)
   ·exact .inr (.inl h2)
  ·exact .inr (.inr (a6c h.fr.size h1))
end
theorem OCs.len{I:Nat->Nat->Prop}{w:World}:∀{cs:List OC}{vs:List Value}{F:List Nat},OCs I w cs vs F->cs.length=vs.length
 |[],vs,F,h=>by simp only[OCs]at h;rw[h.1];rfl
 |c::cs,vs,F,h=>by
  simp only[OCs]at h;obtain⟨x,r,F1,F2,rfl,_,h2,_⟩:=h;simp[OCs.len h2]
theorem OCs.one{I:Nat->Nat->Prop}{w:World}:∀{cs:List OC}{vs:List Value}{F:List Nat},OCs I w cs vs F->∀u∈vs,u.oneCell'=true
 |[],vs,F,h,u,hu=>by simp only[OCs]at h;rw[h.1]at hu;simp at hu
 |c::cs,vs,F,h,u,hu=>by
  simp only[OCs]at h;obtain⟨x,r,F1,F2,rfl,h1,h2,_⟩:=h;rcases List.mem_cons.1 hu with rfl|hu
  ·exact h1.one
  ·exact OCs.one h2 u hu
theorem qJ{G:Gh}:∀{xs:List OA}{vs:List Value}{ts:List (Nat⊕Nat)},sQ G xs vs ts->bZ xs vs=ts.map (lx G)
 |[],_,ts,h=>by simp only[sQ]at h;subst h;simp[bZ]
 |.bx cs::xs,vs,ts,h=>by
  simp only[sQ]at h;obtain⟨v,r,t,tr,rfl,rfl,rfl,h⟩:=h;simp only[bZ,a55,qJ h]
 |.rx _ _ _::xs,vs,ts,h=>by
  simp only[sQ]at h;obtain⟨v,r,t,tr,rfl,rfl,rfl,h⟩:=h;simp only[bZ,a55,qJ h]
 |.c x::xs,vs,ts,h=>by
  simp only[sQ]at h;obtain⟨v,r,rfl,h⟩:=h;simp only[bZ,qJ h]
 |.agg x::xs,vs,ts,h=>by
  simp only[sQ]at h;obtain⟨v,r,rfl,h⟩:=h;simp only[bZ,qJ h]
def wl(G:Gh):Nat⊕Nat->Option Nat
 |.inl t=>some (G.bx t)
 |.inr t=>obk (G.rw t)
def uS:List (Nat⊕Nat)->List OA->Prop
 |[],[]=>True
 |.inl _::ids,.bx _::css=>uS ids css
 |.inr _::ids,.rx _ e _::css=>e<jn/\uS ids css
 |_,_=>False
theorem tQ{G:Gh}{s:St}{x:Nat⊕Nat}{b:Nat}(h:b∈own G s x) (hx:a0k s x):wl G x=some b:=by
 rcases x with k|k
 ·rw[(CS.1 h).2];rfl
 ·obtain⟨R,h1,h2⟩:=sK.1 h;obtain⟨R',h3,h4⟩:=hx;rw[h1]at h3;injection h3 with h3;subst h3;rcases h2 with h2|⟨h2,_⟩
  ·exact h2
  ·exact absurd h2 (eU h4)
theorem zV{s:St}:∀{tops:List (Nat⊕Nat)}{css:List OA}{K:List Upd->Prop},(Bn tops css).wp s K->uS tops css
 |[],[],_,_=>trivial
 |.inl id::ids,.bx cs::css,K,h=>by
  simp only[Bn,Q.wp]at h;rw[Q.wp_bind]at h;show uS ids css;exact zV h
 |.inr id::ids,.rx _ _ _::css,K,h=>by
  simp only[Bn,Q.wp]at h;have h':=h.2;rw[Q.wp_bind]at h';exact⟨h.1,zV h'⟩
 |[],_::_,_,h=>h.elim
 |.inl _::_,[],_,h=>h.elim
 |.inl _::_,.c _::_,_,h=>h.elim
 |.inl _::_,.agg _::_,_,h=>h.elim
 |.inl _::_,.rx _ _ _::_,_,h=>h.elim
 |.inr _::_,[],_,h=>h.elim
 |.inr _::_,.c _::_,_,h=>h.elim
 |.inr _::_,.agg _::_,_,h=>h.elim
 |.inr _::_,.bx _::_,_,h=>h.elim
section
variable {W0:World}{M:Own}{G:Gh}{s s' s0:St}{w w':World}
theorem zW{I:Nat->Nat->Prop}{cs:List OC}{css:List OA}{id:Nat}{ids:List (Nat⊕Nat)}{F:List Nat}(h:OAs I w (.bx cs::css) ((.inl id::ids).map (lx G)) F) :
  ∃cur ty Fs F2,w.heap[G.bx id]?=some (.cells cur ty (0,0))/\OCs I w cs cur.toList Fs/\(∀o,¬I (G.bx id) o)/\F=(G.bx id::Fs)++F2/\OAs I w css (ids.map (lx G)) F2:=by
 simp only[a55,OAs,OAr,OCr]at h;obtain⟨x,r,F1,F2,e,⟨g,cur,ty,Fs,e2,h1,h2,rfl,h3⟩,h4,rfl⟩:=h;injection e with e1 e3;subst e1;subst e3;simp only[lx]at e2;injection e2 with e2;injection e2 with e2;injection e2 with e2 _ _;subst e2;exact⟨cur,ty,Fs,F2,h1,h2,h3,rfl,h4⟩
theorem ve{I:Nat->Nat->Prop}{sz:Nat}{e:TypeId}{es:List (List DV)}{css:List OA}{id:Nat}{ids:List (Nat⊕Nat)}{F:List Nat}(h:OAs I w (.rx sz e es::css) ((.inr id::ids).map (lx G)) F) (he:e<jn) :
  ∃F2,jK I w (G.rw id) ⟨es,sz,e,false⟩/\(∀g o,obk (G.rw id)=some g->¬I g o)/\F=(obk (G.rw id)).toList++F2/\OAs I w css (ids.map (lx G)) F2:=by
 simp only[a55,OAs,OAr,OCr]at h;obtain⟨x,r,F1,F2,e,⟨ex,h1,rfl,h2,_⟩,h4,rfl⟩:=h;injection e with e1 e3;subst e1;subst e3;exact⟨F2,h1,h2,by simp[eU he,lx],h4⟩
theorem tR{I:Nat->Nat->Prop}:∀{ids:List (Nat⊕Nat)}{css:List OA}{F:List Nat},uS ids css->OAs I w css (ids.map (lx G)) F->∀t∈ids,∀b,wl G t=some b->b∈F
 |[],_,_,_,_,t,ht,_,_=>by simp at ht
 |.inl id::ids,.bx cs::css,F,hf,h,t,ht,b,hb=>by
  obtain⟨cur,ty,Fs,F2,_,_,_,rfl,h4⟩:=zW h;rcases List.mem_cons.1 ht with rfl|ht
  ·simp only[wl,Option.some.injEq]at hb;simp[hb]
  ·have hf':uS ids css:=hf;have:=tR hf' h4 t ht b hb;simp[this]
 |.inr id::ids,.rx _ _ _::css,F,hf,h,t,ht,b,hb=>by
  obtain⟨F2,_,_,rfl,h4⟩:=ve h hf.1;rcases List.mem_cons.1 ht with rfl|ht
  ·simp only[wl]at hb;simp[hb]
  ·have hf':uS ids css:=hf.2;have:=tR hf' h4 t ht b hb;simp[this]
 |.inl _::_,[],_,hf,_,_,_,_,_=>hf.elim
 |.inl _::_,.c _::_,_,hf,_,_,_,_,_=>hf.elim
 |.inl _::_,.agg _::_,_,hf,_,_,_,_,_=>hf.elim
 |.inl _::_,.rx _ _ _::_,_,hf,_,_,_,_,_=>hf.elim
 |.inr _::_,[],_,hf,_,_,_,_,_=>hf.elim
 |.inr _::_,.c _::_,_,hf,_,_,_,_,_=>hf.elim
 |.inr _::_,.agg _::_,_,hf,_,_,_,_,_=>hf.elim
 |.inr _::_,.bx _::_,_,hf,_,_,_,_,_=>hf.elim
def a0m(I:Nat->Nat->Prop) (G:Gh) (w:World) (s s':St) (id:Nat):Prop:=(s'.b id).ver=(s.b id).ver/\(∃(n:Nat) (cs:List AC) (cur:Array Value) (ty:TypeId),(s'.b id).c=some cs/\w.heap[G.bx id]?=some (.cells cur ty (0,0))/\cs=(List.replicate n ()).map (λ_=>.junk)/\n=cur.toList.length/\∀u∈cur.toList,u.oneCell'=true)/\∀o,¬I (G.bx id) o
def a0n(I:Nat->Nat->Prop) (G:Gh) (w:World) (s s':St) (id:Nat):Prop:=(s'.r id).ver=(s.r id).ver/\(∃R',(s'.r id).c=some R'/\jK I w (G.rw id) R'/\R'.e<jn)/\∀g o,obk (G.rw id)=some g->¬I g o
structure a5e (I:Nat->Nat->Prop) (G:Gh) (w:World) (s0 s s':St) (tops:List (Nat⊕Nat)):Prop where
 n_:s'.n=s.n
 t:s'.t=s.t
 ver:fE 0 s0 s'
 b:∀id,Sum.inl id∉tops->s'.b id=s.b id
 r:∀id,Sum.inr id∉tops->s'.r id=s.r id
 tb:∀id,Sum.inl id∈tops->a0m I G w s s' id
 tr:∀id,Sum.inr id∈tops->a0n I G w s s' id
theorem Dp{I:Nat->Nat->Prop}:∀{tops:List (Nat⊕Nat)}{css:List OA}{s:St}{F:List Nat}{K:List Upd->Prop},(Bn tops css).wp s0 K->fE 0 s0 s->tops.Nodup->OAs I w css (tops.map (lx G)) F->
  ∃us,K us/\a5e I G w s0 s (s.app us) tops
 |[],[],s,F,K,hq,hv,_,h=>⟨[],hq,rfl,rfl,hv,λ_ _=>rfl,λ_ _=>rfl,by simp,by simp⟩
 |.inl id::ids,.bx cs::css,s,F,K,hq,hv,hn,h=>by
   simp only[Bn,Q.wp]at hq;rw[Q.wp_bind]at hq;obtain⟨cur,ty,Fs,F2,h1,h2,h3,rfl,h4⟩:=zW h;rw[a6P]at hn;have hver:(s0.b id).ver=(s.b id).ver:=((hv id (a6p _)).1).symm;obtain⟨us,hK,k⟩:=Dp (s:=s.setB id ⟨(s0.b id).ver,some (cs.map λ_=>.junk)⟩) hq (hv.setB (λ_=>hver)) hn.2 h4;refine⟨_,hK,k.n_,k.t,k.ver,λj hj=>?_,λj hj=>?_,λj hj=>?_,λj hj=>?_⟩
   ·simp only[St.app,St.app1];rw[k.b j (λh=>hj (a6h _ h))];have:j≠id:=λe=>hj (by simp[e]);simp[St.setB,upd,this]
   ·simp only[St.app,St.app1];rw[k.r j (λh=>hj (a6h _ h))];rfl
   ·simp only[St.app,St.app1];by_cases e:j=id
    ·subst e;unfold a0m;rw[k.b j hn.1];simp only[St.setB,upd,a6x];refine⟨hver,⟨cs.length,_,cur,ty,rfl,h1,?_,OCs.len h2,OCs.one h2⟩,h3⟩;rw[List.map_const',List.map_const',a6t]
    ·have hj':Sum.inl j∈ids:=by
      rcases List.mem_cons.1 hj with h|h
      ·injection h with h;exact(e h).elim
      ·exact h
     obtain⟨a1,a2,a3⟩:=k.tb j hj';refine⟨a1.trans ?_,a2,a3⟩;simp[St.setB,upd,e]
   ·simp only[St.app,St.app1];have hj':Sum.inr j∈ids:=by
     rcases List.mem_cons.1 hj with h|h
     ·cases h
     ·exact h
    obtain⟨a1,a2,a3⟩:=k.tr j hj';exact⟨a1.trans rfl,a2,a3⟩
 |.inr id::ids,.rx sz e es::css,s,F,K,hq,hv,hn,h=>by
   simp only[Bn,Q.wp]at hq;obtain⟨hpf,hq⟩:=hq;rw[Q.wp_bind]at hq;obtain⟨F2,h1,h2,rfl,h4⟩:=ve h hpf;rw[a6P]at hn;have hver:(s0.r id).ver=(s.r id).ver:=((hv id (a6p _)).2).symm;obtain⟨us,hK,k⟩:=Dp (s:=s.setR id ⟨(s0.r id).ver,some ⟨es,sz,e,false⟩⟩) hq (hv.setR (λ_=>hver)) hn.2 h4;refine⟨_,hK,k.n_,k.t,k.ver,λj hj=>?_,λj hj=>?_,λj hj=>?_,λj hj=>?_⟩
   ·simp only[St.app,St.app1];rw[k.b j (λh=>hj (a6h _ h))];rfl
   ·simp only[St.app,St.app1];rw[k.r j (λh=>hj (a6h _ h))];have:j≠id:=λe=>hj (by simp[e]);simp[St.setR,upd,this]
   ·simp only[St.app,St.app1];have hj':Sum.inl j∈ids:=by
     rcases List.mem_cons.1 hj with h|h
     ·cases h
     ·exact h
    obtain⟨a1,a2,a3⟩:=k.tb j hj';exact⟨a1.trans rfl,a2,a3⟩
   ·simp only[St.app,St.app1];by_cases e:j=id
    ·subst e;unfold a0n;rw[k.r j hn.1];simp only[St.setR,upd,a6x];exact⟨hver,⟨_,rfl,h1,hpf⟩,h2⟩
    ·have hj':Sum.inr j∈ids:=by
      rcases List.mem_cons.1 hj with h|h
      ·injection h with h;exact(e h).elim
      ·exact h
     obtain⟨a1,a2,a3⟩:=k.tr j hj';refine⟨a1.trans ?_,a2,a3⟩;simp[St.setR,upd,e]
 |[],_::_,_,_,_,hq,_,_,_=>hq.elim
 |.inl _::_,[],_,_,_,hq,_,_,_=>hq.elim
 |.inl _::_,.c _::_,_,_,_,hq,_,_,_=>hq.elim
 |.inl _::_,.agg _::_,_,_,_,hq,_,_,_=>hq.elim
 |.inl _::_,.rx _ _ _::_,_,_,_,hq,_,_,_=>hq.elim
 |.inr _::_,[],_,_,_,hq,_,_,_=>hq.elim
 |.inr _::_,.c _::_,_,_,_,hq,_,_,_=>hq.elim
 |.inr _::_,.agg _::_,_,_,_,hq,_,_,_=>hq.elim
 |.inr _::_,.bx _::_,_,_,_,hq,_,_,_=>hq.elim
def a3j(W0:World) (M:Own) (G:Gh) (s:St) (F:List Nat) (tops:List (Nat⊕Nat)):Prop:=∀b∈F,(∀x,b∈own G s x->x∈tops)/\(W0.heap.size<=b\/M b)
theorem Mj(w:World) (x:Option Nat):w.grownBy w x:=⟨rfl,rfl,rfl,a56 _,λ_ _ _=>rfl⟩
theorem Tq{id:Nat}{ver:Nat}{cs:List AC}(h:(s.b id).c.isSome=true) (x:Nat⊕Nat):own G (s.setB id ⟨ver,some cs⟩) x=own G s x:=by
 by_cases e:x= .inl id
 ·subst e;simp[own,St.setB,upd,h]
 ·exact zU x id _ e
def zX(s0 s:St):Nat⊕Nat->Prop
 |.inl id=>(s.b id).ver=(s0.b id).ver/\(s.b id).c.isSome=true
 |.inr id=>∃R,(s.r id).c=some R/\R.e<jn
theorem zX.rx{s0 s:St}{x:Nat⊕Nat}(h:zX s0 s x):a0k s x:=by
 cases x with
 |inl _=>trivial
 |inr _=>exact h
theorem Dq:∀{tops:List (Nat⊕Nat)}{css:List OA}{n:Nat}{s:St}{G:Gh}{F:List Nat}{K:Mps->Prop},(HF n tops css).wp s0 K->uS tops css->Mem W0 M G s w->(∀x∈tops,zX s0 s x)->fE n s0 s->OAs G.I w css (tops.map (lx G)) F->tops.Nodup->F.Nodup->a3j W0 M G s F tops->
  ∃p G',K p/\Mem W0 M G' (s.app p.us) w/\Ext G s w G' (s.app p.us) w/\G'.I=G.I/\fE p.m s0 (s.app p.us)/\(∀x b,b∈own G' (s.app p.us) x->b∈own G s x\/b∈F)/\(s.app p.us).n=s.n/\(s.app p.us).t=s.t
 |[],[],n,s,G,F,K,hq,_,hm,hT,hv,h,_,_,_=>⟨_,G,hq,hm,Ext.refl _ _ _,rfl,hv,λx b h=>.inl h,rfl,rfl⟩
 |.inr id::ids,.rx sz e es::css,n,s,G,F,K,hq,hf,hm,hT,hv,h,hn,hF,hTF=>by
   obtain⟨F2,h1,h2,rfl,h4⟩:=ve h hf.1;rw[a6P]at hn;rw[a6K]at hF;obtain⟨hF1,hF2,hF3⟩:=hF;obtain⟨p,G',hK,q1,q2,q3,q4,q5,q6,q7⟩:=Dq (tops:=ids) (css:=css) (show(HF n ids css).wp s0 K from hq) (show uS ids css from hf.2) hm (λx hx=>hT x (by simp[hx])) hv h4 hn.2 hF2 (λb hb=>by
    refine⟨λx hx=>?_,(hTF b (by simp[hb])).2⟩;rcases List.mem_cons.1 ((hTF b (by simp[hb])).1 x hx)with e|e
    ·subst e;have:=tQ hx (hT _ (by simp)).rx;simp only[wl]at this;exact(hF3 b (by simp[this]) b hb rfl).elim
    ·exact e)
   exact⟨p,G',hK,q1,q2,q3,q4,λx b hx=>(q5 x b hx).imp (λh=>h) (λh=>by simp[h]),q6,q7⟩
 |.inl id::ids,.bx cs::css,n,s,G,F,K,hq,hf,hm,hT,hv,h,hn,hF,hTF=>by
   simp only[HF]at hq;rw[Q.wp_bind]at hq;obtain⟨cur,ty,Fs,F2,h1,h2,h3,rfl,h4⟩:=zW h;rw[a6P]at hn;rw[a6K]at hF;obtain⟨hF1,hF2,hF3⟩:=hF;rw[a6P]at hF1;have hf':uS ids css:=hf;have hheads:=tR hf' h4;have hfree:NM W0 M G s Fs:=λb hb=>by
    refine⟨λx hx=>?_,(hTF b (by simp[hb])).2⟩;have ht:=(hTF b (by simp[hb])).1 x hx;have hbt:=tQ hx (hT x ht).rx;rcases List.mem_cons.1 ht with rfl|ht
    ·simp only[wl,Option.some.injEq]at hbt;exact hF1.1 (hbt▸hb)
    ·exact hF3 b (by simp[hb]) b (hheads x ht b hbt) rfl
   obtain⟨k,G1,hq1,j1,j2⟩:=Dm cs hq hm h2 hF1.2 hfree hv;clear hq;obtain⟨hreq,hq⟩:=hq1;simp only[Q.wp]at hq;rw[Q.wp_bind]at hq;have hold:∀j∈Sum.inl id::ids,(s.app k.us).b (tid j)=s.b (tid j)/\G1.bx (tid j)=G.bx (tid j)/\(s.app k.us).r (tid j)=s.r (tid j)/\G1.rw (tid j)=G.rw (tid j):=λj hj=>by
    obtain⟨a1,a2,a3,a4,_⟩:=j1.old (tid j) (hreq j hj);exact⟨a1,a3,a2,a4⟩
   obtain⟨hb1,hg1,_,_⟩:=hold (.inl id) (by simp);simp only[tid]at hb1 hg1;have hT0:=hT (.inl id) (by simp);simp only[zX]at hT0;have hlive:((s.app k.us).b id).c.isSome=true:=by rw[hb1];exact hT0.2
   obtain⟨cs0,hcs0⟩:=Option.isSome_iff_exists.1 hlive;have hver:((s.app k.us).b id).ver=(s0.b id).ver:=by rw[hb1];exact hT0.1
   obtain⟨m2,e2⟩:=j1.mem.setBox hcs0 (Mj w _) (by rw[hg1];exact h1) j2;rw[hver]at m2 e2;have hmap:ids.map (lx G1)=ids.map (lx G):=a7d λj hj=>by
    obtain⟨_,a2,_,a4⟩:=hold j (by simp[hj]);cases j <;> simp only[lx,tid]at a2 a4⊢
    ·rw[a2]
    ·exact a4
   have hown2:∀x,own G1 ((s.app k.us).setB id ⟨(s0.b id).ver,some k.acs⟩) x=own G1 (s.app k.us) x:=Tq hlive;obtain⟨p,G',hK,q1,q2,q3,q4,q5,q6,q7⟩:=Dq hq hf' m2 (λj hj=>by
    have hjT:=hT j (by simp[hj]);cases j with
    |inr j=>
     obtain⟨R,h8,h9⟩:=hjT;refine⟨R,?_,h9⟩;have:=(hold (.inr j) (by simp[hj])).2.2.1;simp only[tid]at this;show((s.app k.us).r j).c=some R;rw[this];exact h8
    |inl j=>
     have hne:j≠id:=λe=>hn.1 (e▸hj);simp only[zX,St.setB,upd,hne,a6o]at hjT⊢;have:=(hold (.inl j) (by simp[hj])).1;simp only[tid]at this;rw[this];exact hjT) (j1.ver.setB (λ_=>hver.symm)) (by rw[hmap,j1.I];exact h4) hn.2 hF2 (λb hb=>by
    refine⟨λx hx=>?_,(hTF b (by simp[hb])).2⟩;rw[hown2]at hx;rcases j1.own x b hx with h5|h5
    ·rcases List.mem_cons.1 ((hTF b (by simp[hb])).1 x h5)with ht|ht
     ·exfalso;subst ht;have:=tQ h5 (hT _ (by simp)).rx;simp only[wl,Option.some.injEq]at this;exact hF3 b (by simp[this]) b hb rfl
     ·exact ht
    ·exact(hF3 b (by simp[h5]) b hb rfl).elim)
   refine⟨_,G',hK,?_,?_,q3.trans j1.I,?_,λx b hx=>?_,?_,?_⟩
   ·rw[St.app_append];exact q1
   ·rw[St.app_append];exact(j1.ext.trans e2).trans q2
   ·rw[St.app_append];exact q4
   ·rw[St.app_append]at hx;rcases q5 x b hx with h5|h5
    ·rw[hown2]at h5;rcases j1.own x b h5 with h6|h6
     ·exact .inl h6
     ·exact .inr (by simp[h6])
    ·exact .inr (by simp[h5])
   ·rw[St.app_append];exact q6.trans j1.n_
   ·rw[St.app_append];exact q7.trans j1.t
 |[],_::_,_,_,_,_,_,hq,_,_,_,_,_,_,_,_=>hq.elim
 |.inl _::_,[],_,_,_,_,_,hq,_,_,_,_,_,_,_,_=>hq.elim
 |.inl _::_,.c _::_,_,_,_,_,_,hq,_,_,_,_,_,_,_,_=>hq.elim
 |.inl _::_,.agg _::_,_,_,_,_,_,hq,_,_,_,_,_,_,_,_=>hq.elim
 |.inl _::_,.rx _ _ _::_,_,_,_,_,_,hq,_,_,_,_,_,_,_,_=>hq.elim
 |.inr _::_,[],_,_,_,_,_,hq,_,_,_,_,_,_,_,_=>hq.elim
 |.inr _::_,.c _::_,_,_,_,_,_,hq,_,_,_,_,_,_,_,_=>hq.elim
 |.inr _::_,.agg _::_,_,_,_,_,_,hq,_,_,_,_,_,_,_,_=>hq.elim
 |.inr _::_,.bx _::_,_,_,_,_,_,hq,_,_,_,_,_,_,_,_=>hq.elim
theorem a0o{c:OA}{n:Nat}{v:Value}{F:List Nat}{K:Mka->Prop}(hq:(mkA n c).wp s0 K) (hm:Mem W0 M G s w) (hc:OAr G.I w c v F) (hn:F.Nodup) (hf:NM W0 M G s F) (hv:fE n s0 s) :
  ∃k G',K k/\Tl W0 M G s0 s w n k.us k.m F G'/\AVr G' (s.app k.us) w k.av v:=by
 cases c with
 |c x=>
  simp only[mkA,Q.wp_bind,Q.wp]at hq;simp only[OAr]at hc;obtain⟨k,G',hq,h1,h2⟩:=JU x hq hm hc hn hf hv;exact⟨_,G',hq,h1,by simpa only[AVr]using h2⟩
 |agg xs=>
  simp only[mkA,Q.wp_bind,Q.wp]at hq;simp only[OAr]at hc;obtain⟨vs,rfl,hc⟩:=hc;obtain⟨k,G',hq,h1,h2⟩:=Dm xs hq hm hc hn hf hv;exact⟨_,G',hq,h1,by simp only[AVr];exact⟨vs,rfl,h2⟩⟩
 |bx cs=>
  simp only[mkA,Q.wp_bind,Q.wp]at hq;simp only[OAr]at hc;obtain⟨k,G',hq,h1,h2⟩:=JU (.box cs) hq hm hc hn hf hv;exact⟨_,G',hq,h1,by simpa only[AVr]using h2⟩
 |rx sz e es=>
  simp only[mkA,Q.wp_bind,Q.wp]at hq;simp only[OAr]at hc;obtain⟨k,G',hq,h1,h2⟩:=JU (.row sz e es) hq hm hc hn hf hv;exact⟨_,G',hq,h1,by simpa only[AVr]using h2⟩
theorem Dr:∀(cs:List OA){n:Nat}{s:St}{G:Gh}{vs:List Value}{F:List Nat}{K:a3i->Prop},(XO n cs).wp s0 K->Mem W0 M G s w->OAs G.I w cs vs F->F.Nodup->NM W0 M G s F->fE n s0 s->
  ∃k G',K k/\Tl W0 M G s0 s w n k.us k.m F G'/\AVs G' (s.app k.us) w k.avs vs
 |[],n,s,G,vs,F,K,hq,hm,hc,hn,hf,hv=>by
  simp only[OAs]at hc;obtain⟨rfl,rfl⟩:=hc;exact⟨_,G,hq,⟨hm,Ext.refl _ _ _,rfl,a56 _,hv,λx b h=>.inl h,rfl,rfl,λk _=>⟨rfl,rfl,rfl,rfl,rfl⟩⟩,by simp[AVs]⟩
 |c::cs,n,s,G,vs,F,K,hq,hm,hc,hn,hf,hv=>by
  simp only[OAs]at hc;obtain⟨x,r,F1,F2,rfl,h1,h2,rfl⟩:=hc;simp only[XO,Q.wp_bind]at hq;rw[a6K]at hn;obtain⟨k,G1,hq,j1,j2⟩:=a0o hq hm h1 hn.1 (λb hb=>hf b (by simp[hb])) hv;have hf2:NM W0 M G1 (s.app k.us) F2:=NM.after (F1:=F1) (λb hb=>hf b (by simp[hb])) (λb hb1 hb2=>hn.2.2 b hb1 b hb2 rfl) j1;obtain⟨ks,G2,hq,j3,j4⟩:=Dr cs hq j1.mem (by rw[j1.I];exact h2) hn.2.1 hf2 j1.ver;refine⟨_,G2,hq,j1.trans j3,?_⟩;rw[St.app_append];simp only[AVs];exact⟨x,r,rfl,j3.ext.av _ j2,j4⟩
theorem AVs.len:∀{xs:List AV}{vs:List Value},AVs G s w xs vs->xs.length=vs.length
 |[],vs,h=>by simp only[AVs]at h;subst h;rfl
 |x::xs,vs,h=>by
  simp only[AVs]at h;obtain⟨v,r,rfl,_,h⟩:=h;simp[AVs.len h]
theorem Wr{xs:List AV}{vs:List Value}(h:AVs G s w xs vs):AVr G s w (ZC xs) (Wq vs):=by
 match xs,vs,h.len,h with
 |[],[],_,h=>simp only[ZC,Wq,AVr];exact⟨_,rfl,h⟩
 |[x],[v],_,h=>
  simp only[AVs]at h;obtain⟨v',r,e,h1,h2⟩:=h;injection e with e1 _;subst e1;exact h1
 |x::y::xs,v::u::vs,_,h=>simp only[ZC,Wq,AVr];exact⟨_,rfl,h⟩
end
theorem Frz.own{G G':Gh}{s s':St}(h:Frz s s') (hb:G'.bx=G.bx) (hr:G'.rw=G.rw) (hx:G'.ex=G.ex) (x:Nat⊕Nat):own G' s' x=own G s x:=by
 rcases x with k|k
 ·simp only[Am.own,h.2.2.1,hb]
 ·have h1:=h.2.2.2 k;cases hc:(s.r k).c with
  |none=>simp only[Am.own,h1.2.1 hc,hc]
  |some R=>obtain⟨fr,h2,_⟩:=h1.2.2 R hc;simp only[Am.own,h2,hc,hr,hx]
theorem ON{W0:World}{M:Own}{G:Gh}{s:St}{w:World}(h:Mem W0 M G s w) (x:Nat⊕Nat):(own G s x).Nodup:=by
 rcases x with k|k
 ·simp only[own];split <;> simp
 ·simp only[own];split
  ·rename_i R hR;by_cases he:lS R.e
   ·obtain⟨⟨g,es,c,h1,_,_,h2,_⟩,_⟩:=h.sx k R hR he;simp only[he,a6x,h1,obk];exact h2
   ·simp only[he,a6o,a5Z];cases obk (G.rw k) <;> simp
  ·exact a6T
theorem Cc{W0:World}{M:Own}{G:Gh}{s:St}{w:World}{foot:List (Nat⊕Nat)}(hn:foot.Nodup) (h:Mem W0 M G s w):(foot.flatMap (own G s)).Nodup:=by
 induction foot with
 |nil=>exact a6T
 |cons x foot ih=>
  rw[a6P]at hn;rw[a6q,a6K];refine⟨ON h x,ih hn.2,λb hb b' hb' e=>?_⟩;subst e;obtain⟨y,hy,hyb⟩:=List.mem_flatMap.1 hb';have:=h.dj x y b hb hyb;subst this;exact hn.1 hy
section
variable {P:Program}{o:Oper}
theorem JX{cap:Array Value}{a:Act}{w:World}{c:Call}{f:FuncId}{S:xr}(ho:o.op= .call c) (hc:a.eval (match c.callee with | .value x=>x | _=>.const .nilFunc)= .func (.func f) #[] cap) (hv:∃x,c.callee= .value x) (hf:Tp P f S) :
  (execOp a.eval o).run P w= .ok (.enter f (c.args.map a.eval++cap)) w:=by
 obtain⟨x,hx⟩:=hv;obtain⟨fn,h1,h2,h3⟩:=hf.isf;rw[hx]at hc;simp only at hc;have hb:fn.body.isNone=false:=by cases hfb:fn.body with
  |none=>rw[hfb]at h2;cases h2
  |some b=>rfl
 have hcf:∀args,(callFunc f args).run P w= .ok (.enter f args) w:=λargs=>by
  have h4:¬fn.name= "runtime.NumGoroutine" :=by simpa using h3
  have h5:¬fn.body=none:=by intro e;rw[e]at h2;cases h2
  unfold callFunc;simp[h1,h4,h5]
 unfold execOp;rw[ho];simp only[resolve,hx,hc,Deferred.ofValue];simp[invoke,hcf]
theorem AVs.app{G:Gh}{s:St}{w:World}:∀{xs ys:List AV}{us vs:List Value},AVs G s w xs us->AVs G s w ys vs->AVs G s w (xs++ys) (us++vs)
 |[],_,us,_,h,k=>by simp only[AVs]at h;subst h;exact k
 |x::xs,ys,us,vs,h,k=>by
  simp only[AVs]at h;obtain⟨v,r,rfl,h1,h2⟩:=h;simp only[a6l,AVs];exact⟨v,r++vs,rfl,h1,AVs.app h2 k⟩
theorem Ml{G:Gh}{c:Call}{x:Operand}{cap:Array Value}{ex:List AV}{f:FuncId}{S:xr}{W0:World}{M:Own}{s:St}{a:Act}{w:World}{K:List Upd->Prop}{Q':Exit->Act->World->Prop}(ho:o.op= .call c) (hcx:c.callee= .value x) (hc:a.eval x= .func (.func f) #[] cap) (hf:Tp P f S)
  (hd:∀d,o.dst=some d->d<s.n) (h:Rel W0 M G s a w) (hex:AVs G s w ex cap.toList) (hq:(OM S o c ex).wp s K):o.wp P a w (λa' w'=>∃us,K us/\uX W0 M (s.app us) a' w') Q':=by
 have hal:(c.args.map a.eval++cap).toList=c.args.toList.map a.eval++cap.toList:=by rw[Array.toList_append,Array.toList_map]
 unfold OM at hq;rw[Q.wp_bind]at hq;obtain⟨xs,hq1,hxs⟩:=JI h hq;clear hq;rw[Q.wp_bind]at hq1;obtain⟨k,foot,hq2,T⟩:=zT h.mem _ (hxs.app hex) hq1;clear hq1;obtain⟨⟨hnd,hfz,hpre⟩,hq3⟩:=hq2;have hrun:=JX (w:=w) (a:=a) ho (by rw[hcx];exact hc) ⟨_,hcx⟩ hf;cases hfl:S.flat&&k.tops.isEmpty&&k.ids.isEmpty with
 |true=>
  rw[hfl]at hq3;obtain⟨⟨_,hres0⟩,hq3⟩:=hq3;rw[Q.wp_bind]at hq3;obtain⟨us1,G1,hq4,m1,e1,hfd,_⟩:=pi s hq3 h.mem (Frz.refl s);rw[Q.wp_bind]at hq4;rw[a5S,a5S,List.isEmpty_iff,List.isEmpty_iff]at hfl;have hfoot0:foot=[]:=List.eq_nil_iff_forall_not_mem.2 λx hx=>by
   have:=(T.mem x).1 hx;rw[hfl.1.2,hfl.2]at this;rcases this with h|h <;> cases h
  have hoas:=T.oas G1.I ⟨e1.I,hfd,λx hx=>by rw[hfoot0]at hx;cases hx⟩;rw[hfoot0]at hoas;have hcalls:=hf.calls w G1.I [] (c.args.map a.eval++cap) k.xs m1.In m1.gl (by rw[hal];exact hoas) a6T hpre;unfold Oper.wp;rw[hrun];refine Calls.mono hcalls λe w' he=>?_
  match e,he with
  |.panicked _,he=>exact he.elim
  |.outgrown,he=>exact he.elim
  |.returned v,⟨I',vs,Fp,Fr',hve,R⟩=>
  subst hve;show ∃us,K us/\uX W0 M (s.app us) (a.put o.dst (Wq vs)) w';have hg:w.grownBy w' none:=⟨R.fr.os,R.fr.tape,R.fr.output,R.fr.size,λb hb _=>R.fr.block b hb (by simp)⟩;obtain⟨m2,e2⟩:=h.mem.grow hg;obtain⟨r,G5,hq8,m5,hav⟩:=Dr (s0:=s) _ hq4 m2 (OL hres0 R.res) a6T (λb hb=>by cases hb) (λ_ _=>⟨rfl,rfl⟩);refine⟨_,hq8,?_⟩;rw[St.app_append];have hrel:=h.mem' (e2.trans m5.ext) m5.mem m5.n_ m5.t;exact hrel.putOne (λd e=>by rw[m5.n_];exact hd d e) (Wr hav)
 |false=>
 rw[hfl]at hq3;simp only at hq3;rw[Q.wp_bind]at hq3;obtain⟨us1,G1,hq4,m1,e1,hfd,hfrz,hbx,hrw,hfr,hexq⟩:=pi s hq3 h.mem (Frz.refl s);clear hq3;rw[Q.wp_bind]at hq4;have hv1:fE 0 s (s.app us1):=λk _=>⟨by rw[hfrz.2.2.1],(hfrz.2.2.2 k).1⟩;obtain⟨us2,hq5,m2,e2,hv2,D⟩:=Do hq4 m1 hv1;clear hq4;rw[Q.wp_bind]at hq5;have hown1:∀x,own G1 (s.app us1) x=own G s x:=λx=>hfrz.own hbx hrw hexq x;have hless:∀x b,b∈own G1 ((s.app us1).app us2) x->b∈own G s x:=λx b hx=>by rw[<-hown1];exact D.less x b hx
 have hfoot:=T.nodup hnd;rw[a6K]at hnd;obtain⟨hnd1,hnd2,hnd3⟩:=hnd;have hfixed:Dn G s w G1.I k.fz foot:=by
  refine⟨e1.I,hfd,λx hx g hg o' hi=>?_⟩;have hg1:g∈own G1 (s.app us1) x:=by rw[hown1];exact hg
  rcases x with id|id
  ·obtain⟨hs,rfl⟩:=CS.1 hg1;exact m1.bI id hs o' hi
  ·obtain⟨R,hRs,hRf⟩:=T.live _ hx;obtain⟨fr,hR1,_⟩:=(hfrz.2.2.2 id).2.2 R hRs;obtain⟨R2,hR2,hg2⟩:=sK.1 hg1;rw[hR1]at hR2;injection hR2 with hR2;subst hR2;rcases hg2 with hg1|⟨he2,hg2⟩
   rotate_left
   ·exact(m1.sx id _ hR1 he2).2 g hg2 o' hi
   have hfr1:=(m1.rI id _ g hR1 hg1 o' hi).1;rcases hfr id _ hR1 hfr1 with⟨R',r1,r2⟩|r1
   ·rw[hRs]at r1;injection r1 with r1;subst r1;rw[hRf]at r2;cases r2
   ·exact hfz id r1 (List.mem_append.2 ((T.mem _).1 hx))
 have hoas:=T.oas G1.I hfixed;have hFn:=Cc hfoot h.mem;have hFmem:∀b,b∈foot.flatMap (own G s)->∃x∈foot,b∈own G s x:=λb hb=>by simpa [List.mem_flatMap]using hb
 have hFM:∀b∈foot.flatMap (own G s),W0.heap.size<=b\/M b:=λb hb=>by
  obtain⟨x,_,hx⟩:=hFmem b hb;exact h.mem.oM x b hx
 have hF2:∀x b,b∈own G1 ((s.app us1).app us2) x->b∈foot.flatMap (own G s)->x∈k.tops:=λx b hx hb=>by
  obtain⟨y,hy,hyb⟩:=hFmem b hb;have hxy:=h.mem.dj x y b (hless x b hx) hyb;subst hxy;rcases(T.mem x).1 hy with h5|h5
  ·exact h5
  ·rw[D.gone x h5]at hx;cases hx
 have hcalls:=hf.calls w G1.I (foot.flatMap (own G s)) (c.args.map a.eval++cap) k.xs m1.In m1.gl (by rw[hal];exact hoas) hFn hpre;unfold Oper.wp;rw[hrun];refine Calls.mono hcalls λe w' he=>?_
 match e,he with
 |.panicked _,he=>exact he.elim
 |.outgrown,he=>exact he.elim
 |.returned v,⟨I',vs,Fp,Fr',hve,R⟩=>
 subst hve;show ∃us,K us/\uX W0 M (s.app us) (a.put o.dst (Wq vs)) w';have hpost:=R.post;rw[hal]at hpost;rw[qJ T.tops]at hpost;have hfit:=zV hq5;obtain⟨us3,hq6,J⟩:=Dp (G:=G) hq5 hv2 hnd1 hpost;clear hq5;rw[Q.wp_bind]at hq6;have hbxe:∀id,G1.bx id=G.bx id:=λid=>by rw[hbx]
 have hrwe:∀id,G1.rw id=G.rw id:=λid=>by rw[hrw]
 have hni:∀x∈k.tops,x∉k.ids:=λx hx h5=>hnd3 x hx _ h5 rfl;have hlv:∀x∈k.tops,live s x:=λx hx=>T.live x ((T.mem _).2 (.inl hx));have hlr:∀id,Sum.inr id∈k.tops->(((s.app us1).app us2).r id).c.isSome=true:=λid hid=>by
  obtain⟨R0,hR0,_⟩:=hlv _ hid;obtain⟨fr,hR1,_⟩:=(hfrz.2.2.2 id).2.2 R0 hR0;rw[D.r id (hni _ hid),hR1];rfl
 obtain⟨m3,e3⟩:=m2.call (s':=((s.app us1).app us2).app us3) (F:=foot.flatMap (own G s)) (I':=I') (tops:=k.tops) J.r J.b (λid hid=>by
  obtain⟨a1,a2,a3⟩:=J.tr id hid;obtain⟨R0,hR0,hE0⟩:=T.rx _ hid;obtain⟨fr,hR1,_⟩:=(hfrz.2.2.2 id).2.2 R0 hR0;exact⟨hlr id hid,a1,by rw[hrwe];exact a2,by rw[hrwe];exact a3,⟨R0.es,R0.sz,R0.e,fr⟩,by rw[D.r id (hni _ hid)];exact hR1,hE0⟩) (λid hid=>by
  have hl:=hlv _ hid;obtain⟨a1,a2,a3⟩:=J.tb id hid;refine⟨?_,a1,by rw[hbxe];exact a2,by rw[hbxe];exact a3⟩;rw[D.b id (hni _ hid),hfrz.2.2.1];exact hl) hF2 hFM R.fr R.sub R.keep R.new R.lt
 have hown3:∀x b,b∈own ⟨I',G1.bx,G1.rw,G1.st,G1.ex⟩ (((s.app us1).app us2).app us3) x->b∈own G1 ((s.app us1).app us2) x:=λx b hx=>by
  rcases x with id|id
  ·by_cases hid:Sum.inl id∈k.tops
   ·have hl:=hlv _ hid;simp only[live]at hl;have:(((s.app us1).app us2).b id).c.isSome=true:=by rw[D.b id (hni _ hid),hfrz.2.2.1];exact hl
    obtain⟨_,⟨n,cs,cur,ty,h3,_⟩,_⟩:=J.tb id hid;simp only[own,h3,this]at hx⊢;exact hx
   ·simp only[own,J.b id hid]at hx⊢;exact hx
  ·by_cases hid:Sum.inr id∈k.tops
   ·obtain⟨R0,hR0,hE0⟩:=T.rx _ hid;obtain⟨fr,hR1,_⟩:=(hfrz.2.2.2 id).2.2 R0 hR0;obtain⟨_,⟨R',h3,_,h9⟩,_⟩:=J.tr id hid;obtain⟨R2,h10,h11⟩:=sK.1 hx;rw[h3]at h10;injection h10 with h10;subst h10;rcases h11 with h11|⟨h11,_⟩
    ·exact pg (by rw[D.r id (hni _ hid)];exact hR1) h11
    ·exact absurd h11 (eU h9)
   ·simp only[own,J.r id hid]at hx⊢;exact hx
 have hnodup:=R.nodup;rw[a6K]at hnodup;have hTF:∀b∈Fp++Fr',(∀x,b∈own ⟨I',G1.bx,G1.rw,G1.st,G1.ex⟩ (((s.app us1).app us2).app us3) x->x∈k.tops)/\(W0.heap.size<=b\/M b):=λb hb=>by
  rcases R.own b hb with h5|h5
  ·exact⟨λx hx=>hF2 x b (hown3 x b hx) h5,hFM b h5⟩
  ·exact⟨λx hx=>by have:=m2.ownlt (hown3 x b hx);omega,.inl (a6c h.mem.fr.size h5)⟩
 have hmap:k.tops.map (lx ⟨I',G1.bx,G1.rw,G1.st,G1.ex⟩)=k.tops.map (lx G):=a7d λj _=>by cases j <;> simp only[lx,hbxe,hrwe]
 obtain⟨p,G4,hq7,m4,e4,hI4,hv4,hown4,hn4,ht4⟩:=Dq hq6 hfit m3 (λx hid=>by
  cases x with
  |inr id=>
   obtain⟨_,⟨R',h3,_,h5⟩,_⟩:=J.tr id hid;exact⟨R',h3,h5⟩
  |inl id=>
   refine⟨(J.ver id (a6p _)).1,?_⟩;obtain⟨_,⟨n,cs,cur,ty,h3,_⟩,_⟩:=J.tb id hid;rw[h3];rfl) (J.ver.le (a6p _)) (by rw[hmap];exact hpost) hnd1 hnodup.1 (λb hb=>hTF b (by simp[hb]))
 clear hq6;rw[Q.wp_bind]at hq7;obtain⟨r,G5,hq8,m5,hav⟩:=Dr _ hq7 m4 (by rw[hI4];exact R.res) hnodup.2.1 (λb hb=>by
  refine⟨λx hx=>?_,(hTF b (by simp[hb])).2⟩;rcases hown4 x b hx with h5|h5
  ·have ht:=(hTF b (by simp[hb])).1 x h5;have hbt:wl G x=some b:=by
    have:=tQ h5 (by
     cases x with
     |inl _=>trivial
     |inr id=>
      obtain⟨_,⟨R',h3,_,h5⟩,_⟩:=J.tr id ht;exact⟨R',h3,h5⟩)
    cases x <;> simp only[wl,hbxe,hrwe]at this⊢ <;> exact this
   exact hnodup.2.2 b (tR hfit hpost x ht b hbt) b hb rfl
  ·exact hnodup.2.2 b h5 b hb rfl) hv4
 clear hq7;refine⟨_,hq8,?_⟩;rw[St.app_append,St.app_append,St.app_append,St.app_append,St.app_append];have E:=(((e1.trans e2).trans e3).trans e4).trans m5.ext;have hn5:(((((s.app us1).app us2).app us3).app p.us).app r.us).n=s.n:=(m5.n_.trans hn4).trans ((J.n_.trans D.n_).trans hfrz.1);have ht5:(((((s.app us1).app us2).app us3).app p.us).app r.us).t=s.t:=(m5.t.trans ht4).trans ((J.t.trans D.t).trans hfrz.2.1);have hrel:=h.mem' E m5.mem hn5 ht5;exact hrel.putOne (λd e=>by rw[hn5];exact hd d e) (Wr hav)
end
theorem pd{α:Type}{xs:Array α}{x:α}(h:xs.toList=[x]):xs= #[x]:=by
 cases xs;simp only at h;subst h;rfl
def Ws:List DV->Int
 |.v (.int _ n)::_=>n
 |_=>0
def Wt:List DV->List UInt8
 |.v (.string b)::_=>b.data.toList
 |_=>[]
def a0r(es:List (List DV)):Prop:=(∀c∈es,∃n r,c= .v (.int .i64 n)::r)/\(es.map Ws).Nodup/\(∀x∈es.map Ws,(Lit.int .i64 x).wf=true)/\es.length<=maxLen/\es.length*8<=140737488355328
def a0s(es:List (List DV)):Prop:=(∀c∈es,∃l r,c= .v (To l)::r)/\(es.map Wt).Nodup/\(∀x∈es.map Wt,x.length<=maxLen)/\es.length<=maxLen/\es.length*16<=140737488355328
def sortI(es:List (List DV)):List (List DV):=((es.map Ws).mergeSort λx y=>decide (x<=y)).map λx=>[.v (.int .i64 x)]
def sortS(es:List (List DV)):List (List DV):=((es.map Wt).mergeSort λx y=>decide (x<=y)).map λx=>[.v (To x)]
def XS(f1:FuncId) (o:Oper):List AV->Q (List Upd)
 |[.c (.row id ver)]=>(Q.ofOpt o.dst).bind λd=>.rdR id λr=>match r.c with
  |some R=>.req (ver=r.ver/\jn<=R.e/\R.e≠sw/\¬lS R.e) (.rdB d λb=>.ret [.b d ⟨b.ver+1,some [.row id ver]⟩,.t d ⟨true,.clo f1 d (b.ver+1)⟩])
  |none=>.fail
 |_=>.fail
def OQ(f1:FuncId) (e:TypeId) (good:List (List DV)->Prop) (srt:List (List DV)->List (List DV)) (o:Oper):List AV->Q (List Upd)
 |[.clo f id ver]=>(Q.ofOpt o.dst).bind λd=>.rdB id λb=>match b.c with
  |some [.row rid rver]=>.rdR rid λr=>match r.c with
   |some R=>.req (f=f1/\ver=b.ver/\rver=r.ver/\jn<=R.e/\(R.e≠sw/\¬lS R.e)/\mKs R.e=1/\mKa R.e=false/\e<jn/\good R.es) (.rdR d λrd=>.ret [.r d ⟨rd.ver+1,some ⟨srt R.es,1,e,false⟩⟩,.t d ⟨true,.c (.row d (rd.ver+1))⟩])
   |none=>.fail
  |_=>.fail
 |_=>.fail
def spQ(sp:Sp) (o:Oper) (c:Call):Q (List Upd):=(evs c.args.toList).bind λxs=>match sp with
 |.none=>.fail
 |.keys f1=>XS f1 o xs
 |.sortI f1 e=>OQ f1 e a0r sortI o xs
 |.sortS f1 e=>OQ f1 e a0s sortS o xs
section
variable {P:Program}{W0:World}{M:Own}{G:Gh}{s:St}{a:Act}{w:World}{o:Oper}{K:List Upd->Prop}{Q':Exit->Act->World->Prop}
theorem Wu{I:Nat->Nat->Prop}{e:Nat}(h1:mKs e=1) (h2:mKa e=false):∀{es:List (List DV)}{ms:List MapEntry},MEs I w e es ms->(∀c∈es,∃n r,c= .v (.int .i64 n)::r)->ms.map (·.key)=(es.map Ws).map (Value.int .i64)
 |[],ms,h,_=>by simp only[MEs]at h;subst h;rfl
 |c::es,ms,h,hk=>by
  simp only[MEs]at h;obtain⟨m,r,rfl,hm,hr⟩:=h;obtain⟨n,q,hc⟩:=hk c (by simp);have:=(Ox (k:=.int .i64) h1 h2 hm ⟨_,q,hc,rfl⟩).1;rw[a55,a55,a55,Wu h1 h2 hr (λc hc=>hk c (by simp[hc])),this,hc];rfl
theorem Wv{I:Nat->Nat->Prop}{e:Nat}(h1:mKs e=1) (h2:mKa e=false):∀{es:List (List DV)}{ms:List MapEntry},MEs I w e es ms->(∀c∈es,∃l r,c= .v (To l)::r)->ms.map (·.key)=(es.map Wt).map To
 |[],ms,h,_=>by simp only[MEs]at h;subst h;rfl
 |c::es,ms,h,hk=>by
  simp only[MEs]at h;obtain⟨m,r,rfl,hm,hr⟩:=h;obtain⟨n,q,hc⟩:=hk c (by simp);have:=(Ox (k:=.str) h1 h2 hm ⟨_,q,hc,trivial⟩).1;rw[a55,a55,a55,Wv h1 h2 hr (λc hc=>hk c (by simp[hc])),this,hc];rfl
theorem zY{c:Call}{x:Operand}{f:FuncId}{S:xr}(ho:o.op= .call c) (hcx:c.callee= .value x) (hc:a.eval x= .func (.func f) #[] #[]) (hf:Tp P f S){post:Ending->World->Prop}
  (hcalls:Calls P f (c.args.map a.eval) w post) (hk:∀e w',post e w'->∃v,e= .returned v/\∃us,K us/\uX W0 M (s.app us) (a.put o.dst v) w'):pK P W0 M s o a w K Q':=by
 have hrun:=JX (w:=w) (a:=a) ho (by rw[hcx];exact hc) ⟨_,hcx⟩ hf;unfold pK Oper.wp;rw[hrun];refine Calls.mono hcalls λe w' he=>?_;obtain⟨v,rfl,h⟩:=hk e w' he;exact h
theorem Fk{c:Call}{x:Operand}{f f1:FuncId}{S:xr}{e:TypeId}{good:List (List DV)->Prop}{srt:List (List DV)->List (List DV)}(ho:o.op= .call c) (hcx:c.callee= .value x) (hc:a.eval x= .func (.func f) #[] #[]) (hf:Tp P f S)
  (hsort:∀(w:World) (I:Nat->Nat->Prop) (b g:Nat) (ty:TypeId) (en:Array MapEntry) (clock:Nat) (me:Nat) (es:List (List DV)),w.heap[b]?=some (.cells #[.map (some g)] ty (0,0))->w.heap[g]?=some (.map en clock)->NQ en.toList clock->
   mKs me=1->mKa me=false->MEs I w me es en.toList->good es->Calls P f #[LR f1 b] w λo w'=>∃v ks,o= .returned v/\w'.ownsRow w.heap.size e 1 v (srt es).length ks/\(∀I' w'',V2 I' w'' (srt es) ks)/\(∀c∈srt es,c.length=1)/\RowKit.Below w.heap.size w w')
  (hd:∀d,o.dst=some d->d<s.n) (_hR:uX W0 M s a w) {xs:List AV} {vs:List Value} (hargs:(c.args.map a.eval).toList=vs) (hxs:AVs G s w xs vs) (h:Rel W0 M G s a w) (hq:(OQ f1 e good srt o xs).wp s K):pK P W0 M s o a w K Q':=by
 unfold OQ at hq;split at hq
 ·rename_i f' id ver;rw[Q.wp_bind]at hq;obtain⟨d,hdd,hq1⟩:=V7 hq;clear hq;simp only[Q.wp]at hq1;split at hq1
  ·rename_i rid rver hb;simp only[Q.wp]at hq1;split at hq1
   ·rename_i R hRr;obtain⟨⟨rfl,hver,hrver,hE,hEi,hm1,hm2,heF,hgood⟩,hq2⟩:=hq1;simp only[Q.wp]at hq2;simp only[AVs,AVr]at hxs;obtain⟨v,r,rfl,⟨_,hclo⟩,rfl⟩:=hxs;obtain rfl:=hclo hver (by rw[hb];rfl);obtain⟨cur,ty,hbx,hac⟩:=h.mem.bx id _ hb;simp only[ACs,ACr]at hac;obtain⟨u,r,hcur,⟨_,_,hrow⟩,rfl⟩:=hac;have hu:=hrow hrver (by rw[hRr];rfl);obtain⟨g,en,clock,hrw,hg,hme,hborn,hsz,hlen⟩:=h.mem.map_at hRr hE hEi;have hcur':cur= #[.map (some g)]:=by rw[<-hrw,<-hu];exact pd hcur
    subst hcur';have hargs':c.args.map a.eval= #[LR f' (G.bx id)]:=pd hargs;refine zY ho hcx hc hf (by rw[hargs'];exact hsort w G.I (G.bx id) g ty en clock R.e R.es hbx hg hborn hm1 hm2 hme hgood) ?_;rintro ex w' ⟨v,ks,rfl,hown,hdv,h1,hB⟩;refine⟨v,rfl,_,hq2,?_⟩;have hgr:w.grownBy w' none:=⟨hB.os,hB.tape,hB.output,hB.size,λk hk _=>hB.block k hk⟩;obtain⟨m1,e1⟩:=h.mem.grow hgr;have hbk:∀b,obk v=some b->w.heap.size<=b:=λb hb'=>by
     rcases hown.2 with⟨rfl,_⟩|⟨g',cap,cur',rfl,hle,_⟩
     ·cases hb'
     ·injection hb' with hb';subst hb';exact hle
    have hown0:w'.ownsRow 0 e 1 v (srt R.es).length ks:=by
     refine⟨hown.1,?_⟩;rcases hown.2 with hn|⟨g',cap,cur',hv,_,rest⟩
     ·exact .inl hn
     ·exact .inr ⟨g',cap,cur',hv,a6p _,rest⟩
    have hrowok:jK G.I w' v ⟨srt R.es,1,e,false⟩:=⟨Nat.one_pos,h1,.inl ⟨heF,ks,hown0,hdv _ _⟩⟩;obtain⟨m2,e2⟩:=m1.addRow d ((s.r d).ver+1) v ⟨srt R.es,1,e,false⟩ (a7i _) hrowok (λx b hv hx=>by have:=h.mem.ownlt hx;have:=hbk b hv;omega) (λg hv o hi=>by have:=h.mem.In _ _ hi;have:=hbk g hv;omega) (λg hv=>.inl (a6c h.mem.fr.size (hbk g hv)));have h2:=h.mem' (e1.trans e2) m2 rfl rfl;rw[hdd];refine⟨_,h2.put (show d<(s.setR d _).n from hd d hdd) ⟨λ_=>?_,λe=>by cases e⟩⟩;simp only[AVr,ACr,St.setR,upd,a6x];exact⟨hrowok.one,a56 _,λ_ _=>trivial⟩
   ·exact hq1.elim
  ·exact hq1.elim
 ·exact hq.elim
theorem Ww(I:Nat->Nat->Prop) (w:World):∀ks:List Int,V2 I w (ks.map λx=>[DV.v (.int .i64 x)]) (ks.map (Value.int .i64))
 |[]=>by simp[V2]
 |k::ks=>by
  simp only[a55,V2,bo,DVr];exact⟨[_],_,rfl,⟨_,[],rfl,⟨rfl,rfl⟩,rfl⟩,Ww I w ks⟩
theorem Wx(I:Nat->Nat->Prop) (w:World):∀ks:List (List UInt8),V2 I w (ks.map λx=>[DV.v (To x)]) (ks.map To)
 |[]=>by simp[V2]
 |k::ks=>by
  simp only[a55,V2,bo,DVr];exact⟨[_],_,rfl,⟨_,[],rfl,⟨rfl,rfl⟩,rfl⟩,Wx I w ks⟩
theorem XT{c:Call}{x:Operand}{f:FuncId}{S:xr}{sp:Sp}(ho:o.op= .call c) (hcx:c.callee= .value x) (hc:a.eval x= .func (.func f) #[] #[]) (hf:Tp P f S) (hsp:S.sp=sp)
  (hd:∀d,o.dst=some d->d<s.n) (hR:uX W0 M s a w) (hq:(spQ sp o c).wp s K):pK P W0 M s o a w K Q':=by
 obtain⟨G,h⟩:=hR;unfold spQ at hq;rw[Q.wp_bind]at hq;obtain⟨xs,hq1,hxs⟩:=JI h hq;clear hq
 revert hq1
 intro hq;have hargs:(c.args.map a.eval).toList=c.args.toList.map a.eval:=by rw[Array.toList_map]
 have hok:=hf.sp;rw[hsp]at hok;cases sp with
 |none=>exact hq.elim
 |keys f1=>
  obtain⟨tm,hok⟩:=hok;simp only at hq;unfold XS at hq;split at hq
  ·rename_i id ver;rw[Q.wp_bind]at hq;obtain⟨d,hdd,hq1⟩:=V7 hq;clear hq;simp only[Q.wp]at hq1;split at hq1
   ·rename_i R hRr;obtain⟨⟨hver,hE,hEi⟩,hq2⟩:=hq1;simp only[Q.wp]at hq2;have hxs0:=hxs;simp only[AVs,AVr,ACr]at hxs;obtain⟨v,r,hv,⟨hone,hle,hrow⟩,rfl⟩:=hxs;have hu:=hrow hver (by rw[hRr];rfl);obtain⟨g,en,clock,hrw,_⟩:=h.mem.map_at hRr hE hEi;rw[hrw]at hu;subst hu;have hargs':c.args.map a.eval= #[.map (some g)]:=pd (hargs.trans hv);refine zY ho hcx hc hf (by rw[hargs'];exact hok g w) ?_;rintro ex w' ⟨rfl,rfl⟩;refine⟨_,rfl,_,hq2,?_⟩;obtain⟨m1,e1⟩:=h.mem.grow (mY w (.cells #[.map (some g)] tm));have hac:ACs G s w [.row id ver] [.map (some g)]:=by
     simp only[ACs,ACr];exact⟨_,[],rfl,⟨rfl,hle,λ_ _=>hrw.symm⟩,rfl⟩
    obtain⟨m2,e2⟩:=m1.addBox d ((s.b d).ver+1) w.heap.size [.row id ver] (a7i _) ⟨#[.map (some g)],tm,heap_alloc_new w _,e1.acs hac⟩ (λx hx=>by have:=h.mem.ownlt hx;omega) (λo hi=>by have:=h.mem.In _ _ hi;omega) (.inl h.mem.fr.size);have h2:=h.mem' (e1.trans e2) m2 rfl rfl;rw[hdd];refine⟨_,h2.put (show d<(s.setB d _).n from hd d hdd) ⟨λ_=>?_,λe=>by cases e⟩⟩;simp only[AVr,St.setB,upd,a6x];exact⟨a56 _,λ_ _=>trivial⟩
   ·exact hq1.elim
  ·exact hq.elim
 |sortI f1 e=>
  refine Fk ho hcx hc hf ?_ hd ⟨G,h⟩ hargs hxs h hq;intro w I b g ty en clock me es hb hg hborn h1 h2 hme hgood;obtain⟨g1,g2,g3,g4,g5⟩:=hgood;refine(hok w b g ty en clock (es.map Ws) hb hg hborn (Wu h1 h2 hme g1) g2 g3 (by simpa using g4) (by simpa using g5)).mono ?_;rintro ex w' ⟨v,rfl,hown,hB⟩;refine⟨v,_,rfl,?_,λI' w''=>Ww I' w'' _,λc hc=>?_,hB⟩
  ·rw[show(sortI es).length=(es.map Ws).length from by simp[sortI]];exact hown
  ·obtain⟨k,_,rfl⟩:=List.mem_map.1 hc;rfl
 |sortS f1 e=>
  refine Fk ho hcx hc hf ?_ hd ⟨G,h⟩ hargs hxs h hq;intro w I b g ty en clock me es hb hg hborn h1 h2 hme hgood;obtain⟨g1,g2,g3,g4,g5⟩:=hgood;refine(hok w b g ty en clock (es.map Wt) hb hg hborn (Wv h1 h2 hme g1) g2 g3 (by simpa using g4) (by simpa using g5)).mono ?_;rintro ex w' ⟨v,rfl,hown,hB⟩;refine⟨v,_,rfl,?_,λI' w''=>Wx I' w'' _,λc hc=>?_,hB⟩
  ·rw[show(sortS es).length=(es.map Wt).length from by simp[sortS]];exact hown
  ·obtain⟨k,_,rfl⟩:=List.mem_map.1 hc;rfl
end
section
variable {P:Program}{W0:World}{M:Own}{G:Gh}{s:St}{a:Act}{w:World}
theorem a0q{t e:TypeId}{ie:TI}(hT:TOk P e ie) (hu:P.underlying t=some (.slice e)) (h:Rel W0 M G s a w){x:AV}{v:Value}{K:List Upd->Prop}(hx:AVr G s w x v) (hq:(a2T ie x).wp s K) :
  ∃us w',K us/\(∀(ts:Array TypeId) ty,ts[0]?=some t->(Builtin.clear_ ts ty #[v]).run P w= .ok (.tuple #[]) w')/\(s.app us).n=s.n/\uX W0 M (s.app us) a w':=by
 unfold a2T at hq;split at hq
 ·rename_i id ver i z;simp only[Q.wp]at hq;split at hq
  ·rename_i R hR;obtain⟨⟨e1,hE,e3,e4,e5,e6⟩,hq⟩:=hq;simp only[AVr]at hx;obtain⟨A,n,c,hrw,hin,hvv⟩:=hx.2 e1 (by rw[hR];rfl);obtain⟨hz,hul,xs,ho,hd⟩:=(h.mem.rw id R hR).sl hE;rcases ho.2 with⟨_,h0⟩|⟨g,cap,cur,hv1,_,hg,hnc,hcm,hcs,htk⟩
   ·omega
   rw[hrw]at hv1;injection hv1 with a1 a2 a3;subst a1;subst a2;subst a3;obtain⟨inf,zv,hinf,hsz,hby,hzv,hzl,hzn,hz1⟩:=hT.info;have hzs:zv.cells.size=ie.size:=by rw[<-a59,hzl];exact hzn
   obtain⟨zs,hzsd⟩:∃zs,zs=(List.replicate (R.es.length-i) ie.zero).flatten:=⟨_,rfl⟩;have hzc:(Builtin.zeroCells zv.cells (R.es.length-i)).toList=zs:=by
    unfold Builtin.zeroCells;have:=sO zv.cells (R.es.length-i) zv.cells.size rfl (by omega);rw[hzsd,<-hzl];exact this
   have hde:V2 G.I w (List.replicate (R.es.length-i) (ie.zero.map ph)) zs:=by
    rw[hzsd];exact V2.replicate (yT hz1) _
   have hzlen:∀e'∈List.replicate (R.es.length-i) (ie.zero.map ph),e'.length=R.sz:=λe' hm=>by
    rw[a6Q hm,e4,<-e5];simpa using hzn
   have hzz:zs.length=(R.es.length-i)*R.sz:=by
    have:=hde.len hzlen
    rwa [a6t]at this
   have hmul:i*R.sz+(R.es.length-i)*R.sz=R.es.length*R.sz:=by
    rw[<-a7x];congr 1;omega
   have hcap:R.es.length*R.sz<=cur.size:=by rw[hcs];exact a6k _ hnc
   obtain⟨cur',hh',htl⟩:=nA g R.e zs (i*R.sz) w cur hg (by omega);have hrunS:=run_storeCells_cells (P:=P) g (i*R.sz) zs 0 w (λj hj=>by rw[cell_of_row w g _ cur R.e _ hg];simp;omega) (λj _=>frozen_of_row w g _ cur R.e hg) (λu hm=>hde.one u hm);rw[a7w]at hrunS;have hcl:cur.toList.length=cur.size:=a59;have hxs:xs=cur.toList.take (R.es.length*R.sz):=htk.symm;have htake:cur'.toList.take (R.es.length*R.sz)=xs.take (i*R.sz)++zs:=by
    rw[htl,BX _ _ _ _ (by omega) (by omega),<-hxs];have hxl:xs.length=R.es.length*R.sz:=by rw[hxs,a5T];omega
    unfold setAt;rw[a6X (by omega),a5Z]
   have hcur':cur'.size=cur.size:=by
    have:=congrArg List.length htl;rw[wd (by omega),a59,hcl]at this;exact this
   have hxlen:(xs.take (i*R.sz)++zs).length=R.es.length*R.sz:=by
    rw[<-htake,a5T,a59,hcur'];omega
   have hnew:=(V2.take hd hul i).app hde;have hlen:(R.es.take i++List.replicate (R.es.length-i) (ie.zero.map ph)).length=R.es.length:=by
    rw[a5K,a5T,a6t];omega
   obtain⟨m2,e7⟩:=h.mem.setRow hR e3 (ltp hE) (eU hE) (g:=g) (by rw[hrw];rfl) (nl g (i*R.sz) zs w) (es':=R.es.take i++List.replicate (R.es.length-i) (ie.zero.map ph)) (λhkp=>⟨hz,λe' hm=>by
    rcases List.mem_append.1 hm with hm|hm
    ·exact hul e' (a6V hm)
    ·exact hzlen e' hm,.inl ⟨hE,xs.take (i*R.sz)++zs,⟨by rw[hlen];exact hxlen,.inr ⟨g,_,cur',by rw[hrw];simp[hlen],a6p _,hh',by rw[hlen];exact hnc,hcm,by rw[hcur'];exact hcs,by rw[hlen];exact htake⟩⟩,V2.mono (λ_ _ h=>h) hkp _ hnew⟩⟩)
   refine⟨_,w.setCells g (i*R.sz) zs,hq,λts ty ht=>?_,rfl,G,h.mem' e7 m2 rfl rfl⟩;have hzrun:(zeroValue e).run P w= .ok zv w:=by simp[zeroValue,typeInfo,hinf,hzv]
   have hA:v= .slice (some ⟨g,i*R.sz,none⟩) (R.es.length-i) (c-i):=by
    rw[hvv,a5U (by omega),a6e,du _ _ rfl,e4,a6j]
   have hm1:R.es.length-i≠0:=by omega
   obtain⟨m,hm⟩:∃m,R.es.length-i=m+1:=⟨R.es.length-i-1,by omega⟩;rw[hm]at hzc;rw[hA,hm];simp[Builtin.clear_,ht,run_underlying hu,hzrun,hzc,hrunS]
  ·exact hq.elim
 ·exact hq.elim
end
def XQ(T:TypeId->Option TI):List ResultVar->Q (List AV)
 |[]=>.ret []
 |.tmp t::rs=>(ev (.tmp t)).bind λv=>(XQ T rs).bind λvs=>.ret (v::vs)
 |.cell a t::rs=>(tq T t).bind λi=>(ev (.tmp a)).bind λp=>(LT i p).bind λv=>(XQ T rs).bind λvs=>.ret (v::vs)
def a0p(n:Nat):Nat->Q (List AV)
 |0=>.ret []
 |m+1=>.rdT n λx=>(a0p (n+1) m).bind λvs=>.ret (x.x::vs)
def dw:List OA->List AV->List AV
 |.bx _::xs,v::vs=>v::dw xs vs
 |.rx _ _ _::xs,v::vs=>v::dw xs vs
 |_::xs,_::vs=>dw xs vs
 |_,_=>[]
def tU(g:Bool) (i:Nat):List AV->List Upd
 |[]=>[]
 |v::vs=>.t i ⟨g,v⟩::tU g (i+1) vs
def XR(T:TypeId->Option TI) (n m:Nat) (rs:List ResultVar) (sh:List ASh) (post:List OA) (res:List OA):Q Unit:=
 (a0p n m).bind λps=>(XQ T rs).bind λvs=>(zS sh (ps++vs)).bind λk=>
 .req (k.xs=post++res/\(k.tops++k.ids).Nodup/\∀id∈k.fz,Sum.inr id∉k.tops++k.ids) ((lV k.fz).bind λ_=>.ret ())
def a4k(T:TypeId->Option TI) (n m:Nat) (rs:List ResultVar) (sh:List ASh) (post:List OA) (res:List OA):AX->St->Prop
 |.exit _,_=>False
 |_,s=>s.n=n/\post.length=m/\(XR T n m rs sh post res).wp s λ_=>True
section
variable {P:Program}{T:TypeId->Option TI}{W0:World}{M:Own}{G:Gh}{s:St}{a:Act}{w:World}
def ZD(tmps:Array Value):ResultVar->Sem Value
 |.tmp t=>pure (tmps.getD t undef)
 |.cell a t=>do loadVar t (<-asAddr (tmps.getD a undef))
theorem Mm(fn:Func) (tmps:Array Value):results fn tmps=(do let vs<-fn.results.mapM (ZD tmps);pure (if h:vs.size=1 then vs[0]else .tuple vs)):=by
 unfold results;congr 1
theorem HH(h:Rel W0 M G s a w) (hT:∀t i,T t=some i->TOk P t i):∀{rs:List ResultVar}{K:List AV->Prop},(XQ T rs).wp s K->∃avs vs,K avs/\AVs G s w avs vs/\(rs.mapM (ZD a.tmps)).run P w= .ok vs w
 |[],K,hq=>⟨[],[],hq,by simp[AVs],rfl⟩
 |.tmp t::rs,K,hq=>by
  simp only[XQ,Q.wp_bind]at hq;obtain⟨v,hq,h1⟩:=eW h hq;obtain⟨avs,vs,hq,h2,h3⟩:=HH h hT hq;refine⟨_,a.eval (.tmp t)::vs,hq,by simp only[AVs];exact⟨_,_,rfl,h1,h2⟩,?_⟩;have e:a.eval (.tmp t)=a.tmps.getD t undef:=rfl;rw[a8k,e];simp[ZD,h3]
 |.cell b t::rs,K,hq=>by
  simp only[XQ,Q.wp_bind]at hq;obtain⟨i,hi,hq⟩:=V7 hq;obtain⟨p,hq,h1⟩:=eW h hq;obtain⟨y,v,ad,hp,hq,hy,hrun⟩:=Oa h (hT t i hi) h1 hq;obtain⟨avs,vs,hq,h2,h3⟩:=HH h hT hq;refine⟨_,v::vs,hq,by simp only[AVs];exact⟨_,_,rfl,hy,h2⟩,?_⟩;rw[a8k];have hp':a.tmps.getD b undef= .pointer (some ad):=hp;have hr1:(ZD a.tmps (.cell b t)).run P w= .ok v w:=by
   simp only[ZD,hp',Sem.run_bind];simp[asAddr,hrun]
  simp only[Sem.run_bind,hr1,Result.andThen_ok,h3];rfl
theorem HI{fn:Func}{tmps:Array Value}{vs:List Value}(h:(fn.results.toList.mapM (ZD tmps)).run P w= .ok vs w):(results fn tmps).run P w= .ok (Wq vs) w:=by
 rw[Mm,Array.mapM_eq_mapM_toList];simp only[Sem.run_bind,Sem.run_map,h,Result.andThen_ok]
 match vs with
 |[]=>rfl
 |[v]=>rfl
 |v::u::vs=>rfl
theorem Tr(_h:Mem W0 M G s w){k:Tas}{vs:List Value}{foot:List (Nat⊕Nat)}(T:a0l G s w k vs foot) (hfz:∀id∈k.fz,Sum.inr id∉k.tops++k.ids){us1:List Upd}{G1:Gh}(m1:Mem W0 M G1 (s.app us1) w) (e1:Ext G s w G1 (s.app us1) w)
  (hfd:∀id∈k.fz,∀R,(s.r id).c=some R->DVr G1.I w (.sl R.es) (G.rw id)) (hfrz:Frz s (s.app us1)) (hbx:G1.bx=G.bx) (hrw:G1.rw=G.rw) (hex:G1.ex=G.ex)
  (hfr:∀id R,((s.app us1).r id).c=some R->R.fr=true->(∃R',(s.r id).c=some R'/\R'.fr=true)\/id∈k.fz):Dn G s w G1.I k.fz foot:=by
 refine⟨e1.I,hfd,λx hx g hg o' hi=>?_⟩;have hg1:g∈own G1 (s.app us1) x:=by rw[hfrz.own hbx hrw hex];exact hg
 rcases x with id|id
 ·obtain⟨hs,rfl⟩:=CS.1 hg1;exact m1.bI id hs o' hi
 ·obtain⟨R,hRs,hRf⟩:=T.live _ hx;obtain⟨fr,hR1,_⟩:=(hfrz.2.2.2 id).2.2 R hRs;obtain⟨R2,hR2,hg2⟩:=sK.1 hg1;rw[hR1]at hR2;injection hR2 with hR2;subst hR2;rcases hg2 with hg1|⟨he2,hg2⟩
  rotate_left
  ·exact(m1.sx id _ hR1 he2).2 g hg2 o' hi
  have hfr1:=(m1.rI id _ g hR1 hg1 o' hi).1;rcases hfr id _ hR1 hfr1 with⟨R',r1,r2⟩|r1
  ·rw[hRs]at r1;injection r1 with r1;subst r1;rw[hRf]at r2;cases r2
  ·have:=hfz id r1;rw[a6Z]at this;exact this ((T.mem _).1 hx)
theorem OAs.len{I:Nat->Nat->Prop}:∀{xs:List OA}{vs:List Value}{F:List Nat},OAs I w xs vs F->xs.length=vs.length
 |[],vs,F,h=>by simp only[OAs]at h;rw[h.1];rfl
 |c::cs,vs,F,h=>by
  simp only[OAs]at h;obtain⟨x,r,F1,F2,rfl,_,h2,_⟩:=h;simp[OAs.len h2]
theorem OAs.split{I:Nat->Nat->Prop}:∀{xs ys:List OA}{us vs:List Value}{F:List Nat},OAs I w (xs++ys) (us++vs) F->xs.length=us.length->∃F1 F2,OAs I w xs us F1/\OAs I w ys vs F2/\F=F1++F2
 |[],ys,us,vs,F,h,hl=>by
  have:us=[]:=a6f hl.symm;subst this;exact⟨[],F,by simp[OAs],h,rfl⟩
 |x::xs,ys,us,vs,F,h,hl=>by
  cases us with
  |nil=>simp at hl
  |cons u us=>
   simp only[a6l,OAs]at h;obtain⟨v,r,F1,F2,e,h1,h2,rfl⟩:=h;injection e with e1 e2;subst e1;subst e2;obtain⟨F3,F4,k1,k2,rfl⟩:=OAs.split h2 (by simpa using hl);exact⟨F1++F3,F4,by simp only[OAs];exact⟨u,us,F1,F3,rfl,h1,k1,rfl⟩,k2,by simp⟩
mutual
theorem OCr.notI{I:Nat->Nat->Prop}:∀(c:OC){v:Value}{F:List Nat},OCr I w c v F->∀b∈F,∀o,¬I b o
 |.d _,v,F,h,b,hb,o=>by simp only[OCr]at h;rw[h.1]at hb;simp at hb
 |.e _,v,F,h,b,hb,o=>by simp only[OCr]at h;rw[h.1]at hb;simp at hb
 |.row _ e _,v,F,h,b,hb,o=>by
  simp only[OCr]at h;obtain⟨ex,_,rfl,h3,h4⟩:=h;rcases List.mem_append.1 hb with hb|hb
  ·exact h3 b o (by simpa using hb)
  ·by_cases he:lS e
   ·rw[a5W he]at hb;exact(h4 he).2 b hb o
   ·rw[a5U he]at hb;cases hb
 |.box cs,v,F,h,b,hb,o=>by
  simp only[OCr]at h;obtain⟨g,cur,ty,Fs,_,_,h3,rfl,h5⟩:=h;rcases List.mem_cons.1 hb with rfl|hb
  ·exact h5 o
  ·exact OCs.notI cs h3 b hb o
theorem OCs.notI{I:Nat->Nat->Prop}:∀(cs:List OC){vs:List Value}{F:List Nat},OCs I w cs vs F->∀b∈F,∀o,¬I b o
 |[],vs,F,h,b,hb,o=>by simp only[OCs]at h;rw[h.2]at hb;simp at hb
 |c::cs,vs,F,h,b,hb,o=>by
  simp only[OCs]at h;obtain⟨x,r,F1,F2,rfl,h1,h2,rfl⟩:=h;rcases List.mem_append.1 hb with hb|hb
  ·exact OCr.notI c h1 b hb o
  ·exact OCs.notI cs h2 b hb o
end
theorem OAs.notI{I:Nat->Nat->Prop}:∀(cs:List OA){vs:List Value}{F:List Nat},OAs I w cs vs F->∀b∈F,∀o,¬I b o
 |[],vs,F,h,b,hb,o=>by simp only[OAs]at h;rw[h.2]at hb;simp at hb
 |c::cs,vs,F,h,b,hb,o=>by
  simp only[OAs]at h;obtain⟨x,r,F1,F2,rfl,h1,h2,rfl⟩:=h;rcases List.mem_append.1 hb with hb|hb
  ·cases c <;> simp only[OAr]at h1
   ·exact OCr.notI _ h1 b hb o
   ·obtain⟨vs,_,h1⟩:=h1;exact OCs.notI _ h1 b hb o
   ·exact OCr.notI _ h1 b hb o
   ·exact OCr.notI _ h1 b hb o
  ·exact OAs.notI cs h2 b hb o
theorem sR:∀{xs:List OA}{avs:List AV}{vs:List Value},AVs G s w avs vs->AVs G s w (dw xs avs) (bZ xs vs)
 |[],avs,vs,h=>by simp[dw,bZ,AVs]
 |.bx cs::xs,[],vs,h=>by simp only[AVs]at h;subst h;simp[dw,bZ,AVs]
 |.bx cs::xs,a::avs,vs,h=>by
  simp only[AVs]at h;obtain⟨v,r,rfl,h1,h2⟩:=h;simp only[dw,bZ,AVs];exact⟨v,_,rfl,h1,sR h2⟩
 |.rx _ _ _::xs,[],vs,h=>by simp only[AVs]at h;subst h;simp[dw,bZ,AVs]
 |.rx _ _ _::xs,a::avs,vs,h=>by
  simp only[AVs]at h;obtain⟨v,r,rfl,h1,h2⟩:=h;simp only[dw,bZ,AVs];exact⟨v,_,rfl,h1,sR h2⟩
 |.c cs::xs,[],vs,h=>by simp only[AVs]at h;subst h;simp[dw,bZ,AVs]
 |.c cs::xs,a::avs,vs,h=>by
  simp only[AVs]at h;obtain⟨v,r,rfl,h1,h2⟩:=h;simp only[dw,bZ];exact sR h2
 |.agg cs::xs,[],vs,h=>by simp only[AVs]at h;subst h;simp[dw,bZ,AVs]
 |.agg cs::xs,a::avs,vs,h=>by
  simp only[AVs]at h;obtain⟨v,r,rfl,h1,h2⟩:=h;simp only[dw,bZ];exact sR h2
theorem OO(h:Rel W0 M G s a w):∀{vs:List Value}{i:Nat}{K:List AV->Prop},(∀k x,vs[k]?=some x->M.pin (i+k)=x)->(a0p (s.n+i) vs.length).wp s K->∃avs,K avs/\AVs G s w avs vs
 |[],i,K,_,hq=>⟨[],hq,by simp[AVs]⟩
 |v::vs,i,K,hp,hq=>by
  simp only[a54,a0p,Q.wp]at hq;rw[Q.wp_bind]at hq;obtain⟨avs,hq,h2⟩:=OO h (i:=i+1) (vs:=vs) (λk x hk=>by have:=hp (k+1) x (by simpa using hk);rw[<-this];congr 1;omega) hq;refine⟨_,hq,?_⟩;simp only[AVs];refine⟨v,vs,rfl,?_,h2⟩;have h1:=h.pin i;have h3:=hp 0 v (by simp);rw[a7w]at h3;rw[h3]at h1;exact h1
theorem HJ(g:Bool):∀(vs:List AV) (i:Nat) (s:St),(s.app (tU g i vs)).n=s.n/\(s.app (tU g i vs)).b=s.b/\(s.app (tU g i vs)).r=s.r
 |[],_,_=>⟨rfl,rfl,rfl⟩
 |v::vs,i,s=>HJ g vs (i+1) (s.setT i ⟨g,v⟩)
theorem Mn(g:Bool):∀(vs:List AV) (i:Nat) (s:St) (j:Nat),(j<i\/i+vs.length<=j)->(s.app (tU g i vs)).t j=s.t j
 |[],_,_,_,_=>rfl
 |v::vs,i,s,j,h=>by
  simp only[a54]at h;refine(Mn g vs (i+1) (s.setT i ⟨g,v⟩) j (by omega)).trans ?_;have:j≠i:=by omega
  simp[St.setT,upd,this]
theorem Ts(g:Bool):∀(vs:List AV) (i:Nat) (s:St) (j:Nat) (v:AV),vs[j]?=some v->(s.app (tU g i vs)).t (i+j)=⟨g,v⟩
 |[],_,_,_,_,h=>by simp at h
 |v::vs,i,s,j,u,h=>by
  cases j with
  |zero=>
   simp at h;subst h;refine(Mn g vs (i+1) (s.setT i ⟨g,v⟩) (i+0) (by omega)).trans ?_;simp[St.setT,upd]
  |succ j=>
   have:=Ts g vs (i+1) (s.setT i ⟨g,v⟩) j u (by simpa using h);rw[show i+(j+1)=i+1+j from by omega];exact this
theorem a4l{f:FuncId}{fn:Func}{c:Code}{S:xr}(hT:∀t i,T t=some i->TOk P t i) (hf:P.funcs[f]?=some fn) (hb:fn.body=some c) (hname:(fn.name== "runtime.NumGoroutine")=false) (B:Nat)
  (h:∀xs,S.pre xs->xs.length<=fn.ntmps/\∃sh,(XO B xs).wp (rt fn.ntmps [] [] []) λk=>Tri P c (a4k T fn.ntmps (dw xs k.avs).length fn.results.toList sh (S.post xs) (S.res xs)) ((((rt fn.ntmps [] [] []).app k.us).app (tU true 0 k.avs)).app (tU false fn.ntmps (dw xs k.avs)))) (hsp:S.sp= .none:=by rfl):Tp P f S:=by
 refine⟨by rw[hsp];trivial,⟨fn,hf,by rw[hb];rfl,hname⟩,λw I F args xs hIn hgl hargs hF hpre=>?_⟩;obtain⟨hlen,sh,hq⟩:=h xs hpre;refine calls_of_wp hf hb ?_;generalize hn:fn.ntmps=n at *
 have hal:args.size<=n:=by rw[<-a59,<-hargs.len];exact hlen
 let M:Own:=⟨(· ∈ F),I,λk=>(bZ xs args.toList).getD k undef⟩;let G0:Gh:=⟨I,λ_=>0,λ_=>.slice none 0 0,λ_=>(undef,0),λ_=>[]⟩;have hown0:∀x,own G0 (rt n [] [] []) x=[]:=λx=>by cases x <;> rfl
 have m0:Mem w M G0 (rt n [] [] []) w:=⟨λid cs hc=>(by cases hc),λid R hc=>(by cases hc),λx y b hx=>(by rw[hown0]at hx;cases hx),λid hc=>(by cases hc),λid R g hc=>(by cases hc),λx b hx=>(by rw[hown0]at hx;cases hx),hIn,⟨rfl,rfl,rfl,a56 _,λ_ _ _=>rfl⟩,⟨λ_ _ h=>h,λ_ _ h=>.inl h⟩,hgl,λid R hc=>(by cases hc),λid R hc=>(by cases hc)⟩;obtain⟨k,G',hK,made,hav⟩:=Dr xs hq m0 hargs hF (λb hb=>⟨λx hx=>(by rw[hown0]at hx;cases hx),.inr hb⟩) (λ_ _=>⟨rfl,rfl⟩);have htops:=sR (xs:=xs) hav;have havl:=hav.len;rw[a59]at havl;generalize hs1:(((rt n [] [] []).app k.us).app (tU true 0 k.avs)).app (tU false n (dw xs k.avs))=s1 at *
 obtain⟨a1,a2,a3⟩:=HJ true k.avs 0 ((rt n [] [] []).app k.us);obtain⟨b1,b2,b3⟩:=HJ false (dw xs k.avs) n (((rt n [] [] []).app k.us).app (tU true 0 k.avs));rw[hs1]at b1 b2 b3;have hs1n:s1.n=n:=b1.trans (a1.trans made.n_);have hE:Ext G' ((rt n [] [] []).app k.us) w G' s1 w:=by
  have:=Ext.slots G' ((rt n [] [] []).app k.us) w s1.n s1.t;have e:(⟨s1.n,s1.t,((rt n [] [] []).app k.us).b,((rt n [] [] []).app k.us).r⟩:St)=s1:=by rw[<-a2,<-a3,<-b2,<-b3]
  rw[e]at this;exact this
 have hM1:Mem w M G' s1 w:=by
  have:=made.mem.slots s1.n s1.t;have e:(⟨s1.n,s1.t,((rt n [] [] []).app k.us).b,((rt n [] [] []).app k.us).r⟩:St)=s1:=by rw[<-a2,<-a3,<-b2,<-b3]
  rw[e]at this;exact this
 have ht_lo:∀j,j<n->s1.t j=(((rt n [] [] []).app k.us).app (tU true 0 k.avs)).t j:=λj hj=>by rw[<-hs1];exact Mn false _ _ _ _ (.inl hj)
 have ht_base:∀j,k.avs.length<=j->(((rt n [] [] []).app k.us).app (tU true 0 k.avs)).t j=⟨decide (j<n),.any⟩:=λj hj=>by
  rw[Mn true _ _ _ _ (.inr (by omega)),made.t];rfl
 have hR:Rel w M G' s1 {tmps:=args++Array.replicate (n-args.size) undef,defers:=[]} w:=by
  refine⟨by rw[hs1n];simp;omega,rfl,λj=>?_,hM1,λj=>?_⟩
  ·by_cases hj:j<n
   ·rw[ht_lo j hj];by_cases hja:j<k.avs.length
    ·have hget:k.avs[j]?=some k.avs[j]:=List.getElem?_eq_getElem hja;have e:=Ts true k.avs 0 ((rt n [] [] []).app k.us) j _ hget;rw[a6j]at e;rw[e];obtain⟨v,hv,hr⟩:=hav.get hget;refine⟨λ_=>?_,λe=>by cases e⟩;have:(args++Array.replicate (n-args.size) undef).getD j undef=v:=by
      rw[Array.getD_eq_getD_getElem?,Array.getElem?_append_left (by omega)];rw[Array.getElem?_toList]at hv;rw[hv];rfl
     simp only[this];exact hE.av _ hr
    ·rw[ht_base j (by omega)];exact⟨λ_=>by simp only[AVr],λe=>by simp[hj]at e⟩
   ·have hu:(args++Array.replicate (n-args.size) undef).getD j undef=undef:=by
     rw[Array.getD_eq_getD_getElem?,Array.getElem?_eq_none (by simp;omega)];rfl
    have hg:(s1.t j).g=false:=by
     by_cases hp:j<n+(dw xs k.avs).length
     ·have hget:(dw xs k.avs)[j-n]?=some (dw xs k.avs)[j-n]:=List.getElem?_eq_getElem (by omega);have e:=Ts false (dw xs k.avs) n (((rt n [] [] []).app k.us).app (tU true 0 k.avs)) (j-n) _ hget;rw[show n+(j-n)=j from by omega,hs1]at e;rw[e]
     ·rw[<-hs1,Mn false _ _ _ _ (.inr (by omega)),ht_base j (by omega)];simp[hj]
    exact⟨λe=>(by rw[hg]at e;cases e),λ_=>hu⟩
  ·rw[hs1n];by_cases hp:j<(dw xs k.avs).length
   ·have hget:(dw xs k.avs)[j]?=some (dw xs k.avs)[j]:=List.getElem?_eq_getElem hp;have e:=Ts false (dw xs k.avs) n (((rt n [] [] []).app k.us).app (tU true 0 k.avs)) j _ hget;rw[hs1]at e;rw[e];obtain⟨v,hv,hr⟩:=htops.get hget;have:M.pin j=v:=by
     show(bZ xs args.toList).getD j undef=v;rw[List.getD_eq_getElem?_getD,hv];rfl
    rw[this];exact hE.av _ hr
   ·rw[<-hs1,Mn false _ _ _ _ (.inr (by omega)),ht_base _ (by omega)];simp only[AVr]
 refine wp_mono (hK w M _ w ⟨G',hR⟩) λe a' w' hqk=>?_;have key:∀s',uX w M s' a' w'->(s'.n=n/\(S.post xs).length=(dw xs k.avs).length/\(XR T n (dw xs k.avs).length fn.results.toList sh (S.post xs) (S.res xs)).wp s' λ_=>True)->
   a'.defers=[]/\∃v,(results fn a'.tmps).run P w'= .ok v w'/\∃I' vs Fp Fr',v=Wq vs/\Ret S I w xs args.toList F w' I' vs Fp Fr':=by
  rintro s' ⟨G2,h2⟩ ⟨hn2,hpl,ho⟩;unfold XR at ho;rw[Q.wp_bind]at ho;have hm:(dw xs k.avs).length=(bZ xs args.toList).length:=htops.len;rw[hm,<-hn2]at ho;obtain⟨ps,ho1,hps⟩:=OO h2 (i:=0) (vs:=bZ xs args.toList) (λk x hk=>by
   show(bZ xs args.toList).getD (0+k) undef=x;rw[a6j,List.getD_eq_getElem?_getD,hk];rfl) ho
  clear ho;rw[Q.wp_bind]at ho1;obtain⟨avs,vs,ho2,hvs,hrun⟩:=HH h2 hT ho1;clear ho1;rw[Q.wp_bind]at ho2;obtain⟨kk,foot,ho3,Tk⟩:=zT h2.mem _ (hps.app hvs) ho2;clear ho2;obtain⟨⟨hxs,hnd,hfz⟩,ho4⟩:=ho3;rw[Q.wp_bind]at ho4;obtain⟨us1,G1,_,m1,e1,hfd,hfrz,hbx,hrw,hfr,hexq⟩:=pi s' ho4 h2.mem (Frz.refl s');have hoas:=Tk.oas G1.I (Tr h2.mem Tk hfz m1 e1 hfd hfrz hbx hrw hexq hfr);rw[hxs]at hoas;obtain⟨Fp,Fr',p1,p2,p3⟩:=OAs.split hoas (by rw[hpl,hm]);refine⟨h2.df,_,HI hrun,G1.I,vs,Fp,Fr',rfl,⟨h2.mem.fr,m1.ii.1,λb o hi=>?_,λb o hi=>m1.ii.2 b o hi,m1.In,p1,p2,?_,λb hb=>?_⟩⟩
  ·refine World.cell?_of_block (a:=⟨b,o,none⟩) (h2.mem.fr.block b (hIn b o hi) (λhm=>?_));exact OAs.notI xs hargs b hm o hi
  ·rw[<-p3];exact Cc (Tk.nodup hnd) h2.mem
  ·rw[<-p3]at hb;obtain⟨x,_,hx⟩:=List.mem_flatMap.1 hb;exact(h2.mem.oM x b hx).symm
 cases e with
 |normal=>obtain⟨s',h1,h2⟩:=hqk;exact key s' h1 h2
 |ret=>obtain⟨s',h1,h2⟩:=hqk;exact key s' h1 h2
 |exit i=>obtain⟨s',h1,h2⟩:=hqk;exact h2.elim
 |goto l=>exact hqk.elim
 |panic c=>exact hqk.elim
 |outgrown=>exact hqk.elim
end
def OR(k:TK) (x:AV):Q Nat:=match k with
 |.slice _=>a2S x
 |.str=>Hs x
 |.map _ _=>CZ x
 |_=>.fail
def mmQ(f:Int->Int->Int) (x y:AV):Q AV:=match x,y with
 |.c (.d (.v (.int k a))),.c (.d (.v (.int _ b)))=>.ret (.c (.d (.v (.int k (f a b)))))
 |_,_=>.fail
def Fl(T:TypeId->Option TI) (b:Builtin) (o:Oper) (c:Call):Q (List Upd):=match b with
 |.len=>match c.args.toList,c.argTypes.toList with
  |[x],[t]=>(tq T t).bind λi=>(ev x).bind λx=>(OR i.k x).bind λn=>one o.dst (.c (.d (.v (.int .i64 (n:Int)))))
  |_,_=>.fail
 |.append=>match c.args.toList,c.argTypes.toList with
  |[x,y],[t,t']=>(tq T t).bind λi=>match i.k with
   |.slice e=>(tq T e).bind λie=>(Q.ofOpt o.dst).bind λd=>.req (t=t'/\0<ie.size) ((ev x).bind λx=>(ev y).bind λy=>match x,y with
    |.c x,.c y=>CY d e ie.size ie.bytes x y
    |_,_=>.fail)
   |_=>.fail
  |_,_=>.fail
 |.clear=>match c.args.toList,c.argTypes.toList with
  |[x],[t]=>(tq T t).bind λi=>match i.k with
   |.slice e=>(tq T e).bind λie=>(ev x).bind λx=>(a2T ie x).bind λus=>.ret (us++Hr o.dst .any)
   |_=>.fail
  |_,_=>.fail
 |.max=>match c.args.toList with
  |[x,y]=>(ev x).bind λx=>(ev y).bind λy=>(mmQ max x y).bind (one o.dst)
  |_=>.fail
 |.min=>match c.args.toList with
  |[x,y]=>(ev x).bind λx=>(ev y).bind λy=>(mmQ min x y).bind (one o.dst)
  |_=>.fail
 |_=>.fail
def fnQ:AV->Q (Nat×List AV)
 |.c (.d (.v (.func (.func f) a b)))=>.req (a= #[]/\b= #[]) (.ret (f,[]))
 |.c (.d (.clo f cs))=>.ret (f,[.c (.eptr cs)])
 |_=>.fail
theorem a0t{G:Gh}{s:St}{w:World}{v:AV}{u:Value}{K:Nat×List AV->Prop}(hv:AVr G s w v u) (hq:(fnQ v).wp s K):∃(f:FuncId) (ex:List AV) (cap:Array Value),u= .func (.func f) #[] cap/\AVs G s w ex cap.toList/\K (f,ex):=by
 unfold fnQ at hq;split at hq
 ·obtain⟨⟨rfl,rfl⟩,hq⟩:=hq;simp only[AVr,ACr,DVr]at hv;exact⟨_,[],#[],hv.1,by simp only[AVs],hq⟩
 ·simp only[AVr,ACr,DVr]at hv;obtain⟨ad,xs,h1,h2,h3⟩:=hv;exact⟨_,_,_,h1,by simp only[AVs,AVr,ACr];exact⟨_,_,rfl,⟨ad,xs,rfl,h2,h3⟩,rfl⟩,hq⟩
 ·exact hq.elim
def Mp:AV->Nat
 |.c (.d (.v (.pointer none)))=>1
 |.c (.d (.it t _))=>2+t
 |_=>0
def Ds:List AV->Nat
 |[]=>0
 |v::vs=>Mp v+5000*Ds vs
def JY(T:TypeId->Option TI) (Γ:List (Nat×xr)) (o:Oper) (c:Call):Q (List Upd):=match c.callee with
 |.value x=>(ev x).bind λv=>(fnQ v).bind λf=>(evs c.args.toList).bind λxs=>.req (f.1<1000000) (match jb Γ (f.1+Ds xs*1000000) with
  |some S=>match S.sp with
   |.none=>OM S o c f.2
   |sp=>match f.2 with
    |[]=>spQ sp o c
    |_=>.fail
  |none=>.fail)
 |.builtin b=>Fl T b o c
 |_=>.fail
section
variable {P:Program}{T:TypeId->Option TI}{o:Oper}
theorem tS{α:Type}{xs:Array α}{x y:α}(h:xs.toList=[x,y]):xs= #[x,y]:=by
 cases xs;simp only at h;subst h;rfl
theorem XU{t:TypeId}{d:TypeDesc}(hu:P.underlying t=some d) (ty:TypeId) (v:Value) (w:World) (n:Nat) (h:(d= .string/\∃b:ByteArray,v= .string b/\n=b.size)\/(∃e,d= .slice e)/\∃A c,v= .slice A n c) :
  (Builtin.len_ #[t] ty #[v]).run P w= .ok (.int .i64 (n:Int)) w:=by
 rcases h with⟨rfl,b,rfl,rfl⟩|⟨⟨e,rfl⟩,A,c,rfl⟩ <;> simp[Builtin.len_,run_underlying hu,goInt]
theorem a0u{f:Int->Int->Int}{G:Gh}{s:St}{w:World}{x y:AV}{u v:Value}{K:List Upd->Prop}(hx:AVr G s w x u) (hy:AVr G s w y v) (hq:(mmQ f x y).wp s λz=>(one o.dst z).wp s K) :
  ∃k a k' b,u= .int k a/\v= .int k' b/\K (Hr o.dst (.c (.d (.v (.int k (f a b)))))):=by
 unfold mmQ at hq;split at hq
 ·rename_i k a k' b;simp only[AVr,ACr,DVr]at hx hy;exact⟨k,a,k',b,hx.1,hy.1,hq⟩
 ·exact hq.elim
theorem Tu(hT:∀t i,T t=some i->TOk P t i){b:Builtin}{c:Call}(ho:o.op= .call c) (hc:c.callee= .builtin b):NW P o (Fl T b o c):=by
 intro W0 M s a w K Q' hd hR hq;obtain⟨G,h⟩:=hR;have hexec:∀(args:List Operand),c.args=args.toArray->∀r w',(∀consts,(Go.builtin b c.argTypes o.type consts (args.map a.eval).toArray).run P w= .ok r w')->(execOp a.eval o).run P w= .ok r w':=λargs ha r w' hb=>by
  unfold execOp;rw[ho];simp only[resolve,hc,ha];simp[invoke];exact hb _
 unfold Fl at hq;split at hq
 ·split at hq
  ·rename_i x t hx ht;obtain⟨i,hi,hq1⟩:=V7 (by rw[Q.wp_bind]at hq;exact hq);rw[Q.wp_bind]at hq1;obtain⟨v,hq2,hv⟩:=eW h hq1;rw[Q.wp_bind]at hq2;have hargs:=pd hx;have hty:=pd ht;obtain⟨d,hu,hk⟩:=(hT t i hi).und;have fin:∀n:Nat,one o.dst (.c (.d (.v (.int .i64 (n:Int)))))= .ret (Hr o.dst (.c (.d (.v (.int .i64 (n:Int)))))):=λ_=>rfl;have fin2:∀n:Nat,((d= .string/\∃b:ByteArray,a.eval x= .string b/\n=b.size)\/(∃e,d= .slice e)/\∃A c,a.eval x= .slice A n c)->K (Hr o.dst (.c (.d (.v (.int .i64 (n:Int))))))->pK P W0 M s o a w K Q':=λn hn hK=>by
    refine fO (v:=.int .i64 (n:Int)) h hd ?_ hK (hexec [x] hargs (.value (.int .i64 (n:Int))) w λconsts=>?_)
    ·simp only[AVr,ACr,DVr];exact⟨trivial,rfl⟩
    ·have:=XU hu o.type (a.eval x) w n hn;rw[hty];simp[Go.builtin,this]
   unfold OR at hq2;split at hq2
   ·rename_i e hki;rw[hki]at hk;obtain⟨A,n,cc,hv',hK⟩:=ZZ h hv hq2;exact fin2 n (.inr ⟨⟨e,hk⟩,A,cc,hv'⟩) hK
   ·rename_i hki;rw[hki]at hk;unfold Hs at hq2;split at hq2
    ·rename_i str;simp only[AVr,ACr,DVr]at hv;exact fin2 str.size (.inl ⟨hk,str,hv.1,rfl⟩) hq2
    ·exact hq2.elim
   ·rename_i kt vt hki;rw[hki]at hk;obtain⟨g,en,ck,hv',hh,hK⟩:=OP h hv hq2;refine fO (v:=.int .i64 (en.size:Int)) h hd ?_ hK (hexec [x] hargs (.value (.int .i64 (en.size:Int))) w λconsts=>?_)
    ·simp only[AVr,ACr,DVr];exact⟨trivial,rfl⟩
    ·have:=Mo (P:=P) hk hu o.type hh;rw[hty];simp[Go.builtin,hv',this]
   ·exact hq2.elim
  ·exact hq.elim
 ·split at hq
  ·rename_i x y t t' hx ht;obtain⟨i,hi,hq1⟩:=V7 (by rw[Q.wp_bind]at hq;exact hq);clear hq;split at hq1
   ·rename_i e hki;obtain⟨ie,hie,hq2⟩:=V7 (by rw[Q.wp_bind]at hq1;exact hq1);clear hq1;obtain⟨d,hdd,hq3⟩:=V7 (by rw[Q.wp_bind]at hq2;exact hq2);clear hq2;obtain⟨⟨rfl,hz0⟩,hq4⟩:=hq3;rw[Q.wp_bind]at hq4;obtain⟨v,hq5,hv⟩:=eW h hq4;clear hq4;rw[Q.wp_bind]at hq5;obtain⟨u,hq6,hu⟩:=eW h hq5;clear hq5;split at hq6
    ·obtain⟨dd,hun,hk⟩:=(hT t i hi).und;rw[hki]at hk;subst hk;refine a0a (hT e ie hie) hz0 hun h hdd (hd d hdd) (J2 hv) (J2 hu) hq6 λr w' hr=>hexec [x,y] (tS hx) _ _ λconsts=>?_;rw[tS ht];simp[Go.builtin,hr]
    ·exact hq6.elim
   ·exact hq1.elim
  ·exact hq.elim
 ·split at hq
  ·rename_i x t hx ht;rw[Q.wp_bind]at hq;obtain⟨i,hi,hq1⟩:=jo hq;clear hq;obtain⟨dd,hun,hk⟩:=(hT t i hi).und;split at hq1
   ·rename_i e hki;rw[hki]at hk;simp only at hk;subst hk;simp only[Q.wp_bind]at hq1;obtain⟨ie,hie,hq2⟩:=jo hq1;obtain⟨v,hq3,hv⟩:=eW h hq2;obtain⟨us,w',hK,hrun,hn,hR'⟩:=a0q (hT e ie hie) hun h hv hq3;refine eV (w':=w') (v:=.tuple #[]) (hexec [x] (pd hx) _ _ λconsts=>?_) ⟨_,hK,?_⟩
    ·have:c.argTypes[0]?=some t:=by
      rw[<-Array.getElem?_toList,ht];rfl
     simp[Go.builtin,hrun c.argTypes o.type this]
    ·rw[St.app_append];obtain⟨G',hR'⟩:=hR';exact hR'.putOne (λd hdd=>by rw[hn];exact hd d hdd) (by simp only[AVr])
   ·exact hq1.elim
  ·exact hq.elim
 ·split at hq
  ·rename_i x y hx;rw[Q.wp_bind]at hq;obtain⟨v,hq1,hv⟩:=eW h hq;clear hq;rw[Q.wp_bind]at hq1;obtain⟨u,hq2,hu⟩:=eW h hq1;clear hq1;rw[Q.wp_bind]at hq2;obtain⟨k,a',k',b',e1,e2,hK⟩:=a0u hv hu hq2;refine fO (v:=.int k (max a' b')) h hd ?_ hK (hexec [x,y] (tS hx) _ _ λconsts=>?_)
   ·simp only[AVr,ACr,DVr];exact⟨trivial,rfl⟩
   ·simp only[a55,a6B,e1,e2];have e3:(if b' > a' then b' else a')=max a' b':=by simp only[Int.max_def];split <;> split <;> omega
    simp[Go.builtin,Builtin.max_,Builtin.max2,e3]
  ·exact hq.elim
 ·split at hq
  ·rename_i x y hx;rw[Q.wp_bind]at hq;obtain⟨v,hq1,hv⟩:=eW h hq;clear hq;rw[Q.wp_bind]at hq1;obtain⟨u,hq2,hu⟩:=eW h hq1;clear hq1;rw[Q.wp_bind]at hq2;obtain⟨k,a',k',b',e1,e2,hK⟩:=a0u hv hu hq2;refine fO (v:=.int k (min a' b')) h hd ?_ hK (hexec [x,y] (tS hx) _ _ λconsts=>?_)
   ·simp only[AVr,ACr,DVr];exact⟨trivial,rfl⟩
   ·simp only[a55,a6B,e1,e2];have e3:(if b'<a' then b' else a')=min a' b':=by simp only[Int.min_def];split <;> split <;> omega
    simp[Go.builtin,Builtin.min_,Builtin.min2,e3]
  ·exact hq.elim
 ·exact hq.elim
theorem Fm(hT:∀t i,T t=some i->TOk P t i){Γ:List (Nat×xr)}(hΓ:∀p∈Γ,Tp P (p.1%1000000) p.2) (o:Oper) (c:Call) (ho:o.op= .call c):NW P o (JY T Γ o c):=by
 unfold JY;split
 ·rename_i x hc;intro W0 M s a w K Q' hd hR hq;obtain⟨G,h⟩:=hR;rw[Q.wp_bind]at hq;obtain⟨v,hq,hv⟩:=eW h hq;rw[Q.wp_bind]at hq;obtain⟨f,ex,cap,hf,hex,hq⟩:=a0t hv hq;rw[Q.wp_bind]at hq;obtain⟨xs,hq,_⟩:=JI h hq;obtain⟨hlt,hq⟩:=hq;split at hq
  ·rename_i S hS;have hF:Tp P f S:=by
    have:=hΓ _ (nm hS);simp only[Nat.add_mul_mod_self_right]at this;rw[a7j hlt]at this;exact this
   split at hq
   ·exact Ml ho hc hf hF hd h hex hq
   ·rename_i sp hne;cases ex with
    |nil=>
     simp only[AVs]at hex;have hcap:cap= #[]:=by cases cap;simp only at hex;subst hex;rfl
     subst hcap;exact XT ho hc hf hF rfl hd ⟨G,h⟩ hq
    |cons _ _=>exact hq.elim
  ·exact hq.elim
 ·rename_i b hc;exact Tu hT ho hc
 ·intro W0 M s a w K Q' hd hR hq;exact hq.elim
end
section
variable (T:TypeId->Option TI) (cq:Oper->Call->Q (List Upd))
end
theorem JZ{α β:Type}(f:α->β):∀(l:List (Nat×α)) (k:Nat),(jb l k).map f=jb (l.map λp=>(p.1,f p.2)) k
 |[],_=>rfl
 |(j,x)::l,k=>by
  simp only[jb,a55];split
  ·rfl
  ·exact JZ f l k
theorem Tv(a:Int) (m:Nat):a.fdiv (2^m)=a / 2^m:=Int.fdiv_eq_ediv_of_nonneg a (Int.le_of_lt (Int.pow_pos (by decide)))
theorem a0v(k:IntKind) (a b:Int):wa .shr k a b= .req (0<=b) (.ret (.int k (a / (2^(min b.toNat k.bits))))):=by rw[<-Tv];rfl
section
variable (T:TypeId->Option TI) (cq:Oper->Call->Q (List Upd))
end
section
variable {P:Program}{T:TypeId->Option TI}{cq:Oper->Call->Q (List Upd)}{K:AX->St->Prop}{s:St}
end
theorem Fo(x:UInt8):wc (rB x)=x:=by simp[wc,rB]
theorem Mq(l:List UInt8):(l.map rB).map wc=l:=by
 rw[a7v]
 conv=>rhs;rw[<-List.map_id l]
 exact a7d λx _=>Fo x
theorem HK{α β:Type}(f:α->β){l:List α}{i:Nat}(h:i<l.length) (d:β) (d':α):(l.map f).getD i d=f (l.getD i d'):=by
 simp only[List.getD_eq_getElem?_getD,List.getElem?_map,List.getElem?_eq_getElem h,a6e,a6m]
end Go.Proofs.YtjbgdpjgfjnkbaaGreatDoor.Am
