/- Texts laid together: AmEnt, AmEnt2, AmEnt3, AmApp, AmReg, AmCode, AmLe, AmDraw, AmSpec, AmTake, AmCall, AmCall2, AmCall3, AmKeys, AmFn, AmBuilt, AmEval. No conditions. -/
import Derived.Test.YtjbgdpjgfjnkbaaGreatDoorKA
import Derived.Below
import Derived.Laws.Entries
import Derived.Laws.Bits64
namespace Go.Proofs.YtjbgdpjgfjnkbaaGreatDoor.Am
open Go Go.MapKept
section
variable {P:Program} {W0:World} {M:Own} {G:Gh} {s:St} {a:Act} {w:World} {o:Oper} {K:List Upd->Prop} {Q':Exit->Act->World->Prop}
end
section
variable {P:Program} {W0:World} {M:Own} {G:Gh} {s:St} {a:Act} {w w':World} {o:Oper}
end
section
variable {P:Program} {T:TypeId->Option TI} {W0:World} {M:Own} {G:Gh} {s:St} {a:Act} {w:World} {o:Oper} {K:List Upd->Prop} {Q':Exit->Act->World->Prop}
end
end Go.Proofs.YtjbgdpjgfjnkbaaGreatDoor.Am
namespace Go.Proofs.YtjbgdpjgfjnkbaaGreatDoor.Am
open Go
section
variable {P:Program} {T:TypeId->Option TI} {W0:World} {M:Own} {G:Gh} {s:St} {a:Act} {w:World} {o:Oper} {K:List Upd->Prop} {Q':Exit->Act->World->Prop}
theorem UF {t e:TypeId} {i:TI} (hT:TOk P e i) (hu:P.underlying t=some (.slice e)) (ty:TypeId) {v:Value} {n z:Nat} {xs:List Value} (how:w.ownsRow 0 e z v n xs) (c:Nat) :
  (Builtin.append_ #[t,t] ty #[v,.slice none 0 c]).run P w= .ok v w:=by
 obtain⟨inf,zv,hinf,_⟩:=hT.info;rcases how.2 with⟨rfl,rfl⟩ | ⟨g,cap,cur,rfl,_,_,hnc,_⟩
 ·simp [Builtin.append_,run_underlying hu,Go.sizeOf,typeInfo,hinf,Builtin.lenOf,Builtin.firstCells]
 ·simp [Builtin.append_,run_underlying hu,Go.sizeOf,typeInfo,hinf,Builtin.lenOf,Builtin.firstCells,hnc,storeCells]
theorem ER {t e:TypeId} {i:TI} (hT:TOk P e i) (hz0:0 < i.size) (hu:P.underlying t=some (.slice e)) (ty:TypeId) {v u:Value} {n:Nat} {xs:List Value} (how:w.ownsRow 0 e i.size v n xs) {ys:List (List DV)} {I:Nat->Nat->Prop}
  (hd:DVr I w (.sl ys) u) (hal:zJ i.size ys) (hb:(n + ys.length) * i.bytes<=140737488355328) (hm:n + ys.length<=4611686018427387904) :
  ∃ v' w' yc,(Builtin.append_ #[t,t] ty #[v,u]).run P w= .ok v' w'/\w'.ownsRow 0 e i.size v' (n + ys.length) (xs ++ yc)/\U3 I w ys yc/\
   ((v'.ownBlock=v.ownBlock/\w.grownBy w' v.ownBlock)\/(w.grownBy w' none/\v'.ownBlock=some w.heap.size)):=by
 simp only [DVr] at hd;obtain⟨A,c,z,yc,rfl,h1,h2,h3,h4,h5,h6⟩:=hd;cases A with
 | none=>
  have h0:ys=[]:=by
   rcases a3I ys.length with h | h
   ·exact a3e h
   ·obtain⟨_,h,_⟩:=h5 h;cases h
  subst h0;exact⟨v,w,[],UF hT hu ty how c,by simpa using how,by simp [U3],.inl ⟨rfl,rfl,rfl,rfl,a3j _,λ_ _ _=>rfl⟩⟩
 | some ad=>
  obtain⟨inf,zv,hinf,hsz,hby,hz,hzl,hzn,hz1⟩:=hT.info;have hyl:=h6.len hal;have hcells:∀ j x,yc[j]?=some x->w.cell? (ad.add j)=some x:=by
   intro j x hj;have h0:0 < ys.length:=by
    rcases a3I ys.length with h | h
    ·rw [h] at hyl;have:yc=[]:=a3e (by omega);subst this;simp at hj
    ·exact h
   obtain⟨ad',e1,hc⟩:=h5 h0;injection e1 with e1;subst e1;exact(hc j x hj).1
  obtain⟨v',w',hr,k1,k2,_,k4⟩:=run_append_own_at (P:=P) w 0 t ty e inf zv i.size i.bytes hu hinf hz hsz hby (by rw [<-a3p,hzl];exact hzn) hz0 v n xs how ad ys.length c yc hyl hcells (h6.one) (by simp only [maxLen];omega) hb (a3B _);refine⟨v',w',yc,hr,k1,h6,?_⟩;rcases how.2 with⟨rfl,rfl⟩ | ⟨g,cap,cur,rfl,_,hg,hnc,hcm,hcs,htk⟩
  ·by_cases hy0:ys.length=0
   ·have h0:ys=[]:=a3e hy0;subst h0;rcases k4 with k4 | k4
    ·exact .inl ⟨k4,k2⟩
    ·exact .inr ⟨k2,k4⟩
   ·have hr2:=run_append_nil (P:=P) w t ty e inf zv hu hinf hz ad ys.length c yc (by rw [hyl,hsz]) hcells (by omega) (by omega) (by rw [hby];simp only [a3z] at hb;omega);rw [hr2] at hr;injection hr with e1 e2;subst e1;subst e2;exact .inr ⟨qH w _,rfl⟩
  ·by_cases hroom:n + ys.length<=cap
   ·have hfit:n * inf.size + yc.length<=cur.size:=by rw [hyl,hcs,hsz,<-a4K];exact a3v _ hroom
    have hr2:=run_append_room (P:=P) w t ty e inf hu hinf g n cap cur hg ad ys.length c yc (by rw [hyl,hsz]) hcells (h6.one) hroom hfit;rw [hr2] at hr;injection hr with e1 e2;subst e1;exact .inl ⟨rfl,k2⟩
   ·have holds:∀ j x,xs[j]?=some x->w.cell? ((⟨g,0,none⟩:Addr).add j)=some x:=how.cells (g:=g) rfl;have hr2:=run_append_grow (P:=P) w t ty e inf zv hu hinf hz ⟨g,0,none⟩ n cap xs (by rw [how.1,hsz]) holds ad ys.length c yc (by rw [hyl,hsz]) hcells (by omega) (by omega) (growslice_fits (by omega) (by rw [hby];exact hb));rw [hr2] at hr;injection hr with e1 e2;subst e1;subst e2;exact .inr ⟨qH w _,rfl⟩
theorem Hm {I:Nat->Nat->Prop} {e:TypeId} {z n m:Nat} {v v':Value} {w':World} {xs yc:List Value} (how:w.ownsRow 0 e z v n xs) (how':w'.ownsRow 0 e z v' m (xs ++ yc)) (hIn:∀ b o,I b o->b < w.heap.size)
  (hI:∀ g,v.ownBlock=some g->∀ o,I g o->o < n * z) (h:(v'.ownBlock=v.ownBlock/\w.grownBy w' v.ownBlock)\/(w.grownBy w' none/\v'.ownBlock=some w.heap.size)):ol I w w':=by
 intro b o hi;have hlt:=hIn b o hi;rcases h with⟨h1,h2⟩ | ⟨h1,_⟩
 ·by_cases hb:v.ownBlock=some b
  ·have ho:=hI b hb o hi;have hl:o < xs.length:=by rw [how.1];exact ho
   have c1:=how.cells hb o xs[o] (List.getElem?_eq_getElem hl);have c2:=how'.cells (h1.trans hb) o xs[o] (by rw [List.getElem?_append_left hl];exact List.getElem?_eq_getElem hl);have hadd:(⟨b,0,none⟩:Addr).add o=⟨b,o,none⟩:=by rw [gb _ _ rfl];simp
   rw [hadd] at c1 c2;rw [c1,c2]
  ·exact World.cell?_of_block (a:=⟨b,o,none⟩) (h2.block b hlt (λe=>hb e.symm))
 ·exact World.cell?_of_block (a:=⟨b,o,none⟩) (h1.block b hlt (by simp))
theorem WZ (h:Rel W0 M G s a w) {x:AV} {v:Value} {K:Nat->Prop} (hx:AVr G s w x v) (hq:(ZV x).wp s K):∃ A n c,v= .slice A n c/\K n:=by
 unfold ZV at hq;split at hq
 ·have h1:=I7 hx;simp only [ACr,DVr] at h1;obtain⟨A,c,z,xs,h1,_⟩:=h1;exact⟨A,_,c,h1,hq⟩
 ·have h1:=I7 hx;simp only [ACr] at h1;exact⟨none,0,0,h1,hq⟩
 ·rename_i id ver;simp only [Q.wp] at hq;split at hq
  ·rename_i R hR;obtain⟨⟨e,hE⟩,hq⟩:=hq;have h1:=I7 hx;simp only [ACr] at h1;obtain rfl:=h1.2.2 e (by rw [hR];rfl);obtain⟨_,_,xs,ho,_⟩:=(h.mem.rw id R hR).sl hE;rcases ho.2 with⟨hv,h0⟩ | ⟨g,cap,cur,hv,_⟩
   ·exact⟨none,0,0,hv,by rw [h0] at hq;exact hq⟩
   ·exact⟨_,_,cap,hv,hq⟩
  ·exact hq.elim
 ·exact hq.elim
theorem Xa {d:Nat} {t e:TypeId} {i:TI} (hT:TOk P e i) (hz0:0 < i.size) (hu:P.underlying t=some (.slice e)) (h:Rel W0 M G s a w) (hdd:o.dst=some d) (hd:d < s.n) {x y:AC} {u v:Value} (hx:ACr G s w x u) (hy:ACr G s w y v) (hq:(AU d e i.size i.bytes x y).wp s K)
  (hrun:∀ r w',(Builtin.append_ #[t,t] o.type #[u,v]).run P w= .ok r w'->(execOp a.eval o).run P w= .ok (.value r) w'):pg P W0 M s o a w K Q':=by
 unfold AU at hq;rw [Q.wp_bind] at hq;obtain⟨yd,hq1,_,hyd⟩:=zO hy hq;clear hq;split at hq1
 ·rename_i ys hys;obtain⟨⟨hal,heF⟩,hq2⟩:=hq1;rw [Q.wp_bind] at hq2;obtain⟨us,G',hq3,hR,hE,hf,hfrz,hb',hr',hfr⟩:=pj h hq2;clear hq2;have hdv:=hyd G'.I hE.I hf;rw [hys] at hdv;simp only [Q.wp] at hq3;have hver:(s.r d).ver=((s.app us).r d).ver:=((hfrz.2.2.2 d).1).symm;split at hq3
  ·obtain⟨⟨hb,hm⟩,hq4⟩:=hq3;simp only [ACr] at hx;subst hx;obtain⟨v',w',yc,hr,how',hde,halt⟩:=ER (n:=0) (xs:=[]) hT hz0 hu o.type (World.ownsRow_nil w 0 e i.size) hdv hal (by simpa using hb) (by simpa using hm);have hgn:w.grownBy w' none:=by
    rcases halt with⟨_,h2⟩ | ⟨h1,_⟩
    ·exact h2
    ·exact h1
   have hk:=Hm (World.ownsRow_nil w 0 e i.size) how' hR.mem.In (λg hg=>by cases hg) halt;rw [hver] at hq4;rw [a3z,a3E] at how';refine xH (s0:=s) (us:=us) hR hdd (by rw [hfrz.1];exact hd) (R:=⟨ys,i.size,e,false⟩) (v:=v') hgn ⟨hz0,hal,.inl ⟨heF,yc,how',U3.mono (λ_ _ h=>h) hk _ hde⟩⟩ (λb hb=>?_) rfl hq4 (hrun _ _ hr);rw [iZ how'] at hb;rcases halt with⟨h1,_⟩ | ⟨_,h1⟩
   ·rw [h1] at hb;cases hb
   ·rw [h1] at hb;injection hb with hb;omega
  ·rename_i id ver;simp only [Q.wp] at hq3;split at hq3
   ·rename_i R hRr;obtain⟨⟨e1,e2,e3,hb,hm⟩,hq4⟩:=hq3;simp only [ACr] at hx;have hu':=hx.2.2 e1 (by rw [hRr];rfl);obtain⟨fr,hR1,hfrf⟩:=(hfrz.2.2.2 id).2.2 R hRr;obtain⟨hz,huni,xs,how,hde0⟩:=(hR.mem.rw id _ hR1).sl (by simp only;rw [e3];exact heF);simp only at hz huni how hde0;rw [e2,e3] at how;rw [hr',<-hu'] at how;obtain⟨v',w',yc,hr,how',hde,halt⟩:=ER hT hz0 hu o.type how hdv hal hb hm;have hobu:=iZ how;have hobv:=iZ how';have hrI:∀ g,u.ownBlock=some g->∀ o',G'.I g o'->fr=true/\o' < R.es.length * i.size:=λg hg o' hi=>by
     have:=hR.mem.rI id _ g hR1 (by rw [hr',<-hu',hobu];exact hg) o' hi;rw [e2] at this;exact this
    have hk:=Hm how how' hR.mem.In (λg hg o' hi=>(hrI g hg o' hi).2) halt;obtain⟨m1,x1⟩:=hR.mem.dropRow id;have hownu:∀ g,u.ownBlock=some g->g ∈ own G' (s.app us) (.inr id):=λg hg=>nT hR1 (by rw [hr',<-hu',hobu];exact hg);have hout:∀ x g,u.ownBlock=some g->g ∉ own G' ((s.app us).setR id ⟨((s.app us).r id).ver,none⟩) x:=λx g hg hx'=>by
     have h1:g ∈ own G' (s.app us) x:=by
      rcases x with k | k
      ·exact hx'
      ·by_cases e:k=id
       ·subst e;simp [own,St.setR,upd] at hx'
       ·simpa [own,St.setR,upd,e] using hx'
     have:=hR.mem.dj x (.inr id) g h1 (hownu g hg);subst this;simp [own,St.setR,upd] at hx'
    have hMu:∀ g,u.ownBlock=some g->W0.heap.size<=g\/M g:=λg hg=>hR.mem.oM _ g (hownu g hg);have hgu:w.grownBy w' u.ownBlock/\(v'.ownBlock=u.ownBlock\/v'.ownBlock=some w.heap.size):=by
     rcases halt with⟨h1,h2⟩ | ⟨h1,h2⟩
     ·exact⟨h2,.inl h1⟩
     ·exact⟨⟨h1.os,h1.tape,h1.output,h1.size,λk hk' _=>h1.block k hk' (by simp)⟩,.inr h2⟩
    have m2:=m1.world hgu.1 hk (λx b hx' e=>hout x b e hx') (λb hb' hlt=>by rcases hMu b hb' with h | h;omega;exact h);have x2:Ext G' ((s.app us).setR id ⟨((s.app us).r id).ver,none⟩) w G' ((s.app us).setR id ⟨((s.app us).r id).ver,none⟩) w':=⟨λ_ _ h=>h,hk,λ_=>⟨a3j _,λ_ h=>⟨h,rfl⟩⟩,λ_=>⟨a3j _,λ_ h=>⟨h,rfl⟩⟩,λ_ _=>rfl⟩;have hvd:(((s.app us).setR id ⟨((s.app us).r id).ver,none⟩).r d).ver=(s.r d).ver:=by
     rw [hver];simp only [St.setR,upd];by_cases e:d=id
     ·subst e;simp
     ·simp [e]
    have hidv:((s.app us).r id).ver=(s.r id).ver:=(hfrz.2.2.2 id).1;have hrow:jb G'.I w' v' ⟨R.es ++ ys,i.size,e,R.fr || yd.2.contains id⟩:=by
     refine⟨hz0,λf hf'=>?_,.inl ⟨heF,xs ++ yc,by simp only [a2V];exact how',U3.mono (λ_ _ h=>h) hk _ (U3.app hde0 hde)⟩⟩;rcases List.mem_append.1 hf' with h | h
     ·rw [<-e2];exact huni f h
     ·exact hal f h
    obtain⟨m3,x3⟩:=m2.addRow d ((s.r d).ver + 1) v' ⟨R.es ++ ys,i.size,e,R.fr || yd.2.contains id⟩ (by rw [hvd];omega) hrow (λx b hv' hx'=>by
     rw [hobv] at hv';rcases hgu.2 with h | h
     ·rw [h] at hv';exact hout x b hv' hx'
     ·rw [h] at hv';injection hv' with hv';subst hv';have:=m1.ownlt hx';omega) (λg hg o' hi=>by
     rw [hobv] at hg;rcases hgu.2 with h | h
     ·rw [h] at hg;obtain⟨q1,q2⟩:=hrI g hg o' hi;refine⟨?_,by simp only [a2V,a4K];omega⟩;simp only [a3Y];rcases hfr id _ hR1 q1 with⟨R',r1,r2⟩ | r1
      ·rw [hRr] at r1;injection r1 with r1;subst r1;exact .inl r2
      ·exact .inr (by simpa using r1)
     ·rw [h] at hg;injection hg with hg;subst hg;have:=hR.mem.In _ _ hi;omega) (λg hg=>by
     rw [hobv] at hg;rcases hgu.2 with h | h
     ·rw [h] at hg;exact hMu g hg
     ·rw [h] at hg;injection hg with hg;subst hg;exact .inl hR.mem.fr.size)
    refine jc (hrun _ _ hr) ⟨_,hq4,?_⟩;have hR3:=hR.mem' ((x1.trans x2).trans x3) m3 rfl rfl;rw [St.app_append,hdd];rw [hidv] at hR3;refine⟨_,hR3.put (show d < _ from by show d < (s.app us).n;rw [hfrz.1];exact hd) ⟨λ_=>?_,λe=>by cases e⟩⟩;have hone:v'.oneCell'=true:=by
     rcases how'.2 with⟨rfl,_⟩ | ⟨g,cap,cur,rfl,_⟩ <;> rfl
    simp only [AVr,ACr,St.setR,upd,a3H];exact⟨hone,a3j _,λ_ _=>trivial⟩
   ·exact hq3.elim
  ·exact hq3.elim
 ·exact hq1.elim
end
section
variable {P:Program} {T:TypeId->Option TI} {cq:Oper->Call->Q (List Upd)}
theorem Tr (hT:∀ t i,T t=some i->TOk P t i) (hcq:∀ o c,o.op= .call c->LA P o (cq o c)) (o:Oper):LA P o (opQ T cq o):=by
 intro W0 M s a w K Q' hd hR hq;obtain⟨G,h⟩:=hR;unfold opQ at hq;split at hq
 ·rename_i x ho;exact LG (.inl ho) h hd hq
 ·rename_i x ho;exact LG (.inr ho) h hd hq
 ·rename_i c x y ho;exact UC ho h hd hq
 ·rename_i t ho;exact PX ho hT h hd hq
 ·rename_i t x ho;exact WW ho h hd hq
 ·rename_i t ps ho;exact Qg ho hT h hd hq
 ·rename_i t n ps ho;exact Be ho hT h hd hq
 ·rename_i t x ho;exact UD ho hT h hd hq
 ·rename_i t x y ho;split at hq
  ·exact hq.elim
  ·rename_i hdst;exact Qc ho hT h hdst hq
 ·rename_i x ho;exact EO ho h hd hq
 ·rename_i op t x y t' ho;exact Qb ho hT h hd hq
 ·rename_i op t x ho;exact UE ho h hd hq
 ·rename_i t t' x ho;exact JD ho hT h hd hq
 ·rename_i t x lo hi ho;exact Qd ho hT h hd hq
 ·rename_i t x f ho;exact PZ ho hT h hd hq
 ·rename_i t x y ho;exact Qf ho hT h hd hq
 ·rename_i t x y ho;exact LT ho hT h hd hq
 ·rename_i t x f ho;exact LU ho hT h hd hq
 ·rename_i x k ho;exact JA ho h hd hq
 ·rename_i t x y ho;exact CR ho hT h hd hq
 ·rename_i t r ho;exact JH ho hT h hd hq
 ·rename_i t x y z ho;split at hq
  ·exact hq.elim
  ·rename_i hdst;exact CX ho hdst hT h hq
 ·rename_i t x ho;exact JJ ho hT h hd hq
 ·rename_i x ho;exact UK ho h hd hq
 ·rename_i t x ho;exact wF ho hT h hd hq
 ·rename_i x xt t ho;exact Bh ho hT h hd hq
 ·rename_i c ho;exact hcq o c ho W0 M s a w K Q' hd ⟨G,h⟩ hq
 ·exact hq.elim
theorem Mc (hT:∀ t i,T t=some i->TOk P t i) (hcq:∀ o c,o.op= .call c->LA P o (cq o c)) {ops:Array Oper} {l:List Oper} (hl:ops=l.toArray) {o:Oper} {W0:World} {M:Own} {s:St} {a:Act} {w:World} {K:List Upd->Prop} {Q':Exit->Act->World->Prop}
  (hd:∀ d,o.dst=some d->d < s.n) (hR:uw W0 M s a w) (hq:wpO T cq l o s K) :
  if Region.wanted o (yielded ops a.tmps)=true then o.wp P a w (λa' w'=>∃ us,K us/\uw W0 M (s.app us) a' w') Q' else ∃ us,K us/\uw W0 M (s.app us) (a.put o.dst undef) w:=by
 unfold wpO opD at hq;obtain⟨G,h⟩:=hR;have skip:K (AZ o.dst)->∃ us,K us/\uw W0 M (s.app us) (a.put o.dst undef) w:=λhk=>by
  refine⟨_,hk,?_⟩;cases hdst:o.dst with
  | none=>exact⟨G,h⟩
  | some dd=>exact⟨G,h.put (hd dd hdst) ⟨λe=>by simp at e,λ_=>rfl⟩⟩
 split at hq
 ·rename_i hg;have hw:Region.wanted o (yielded ops a.tmps)=true:=by simp [Region.wanted,hg]
  rw [a28 hw];exact Tr hT hcq o W0 M s a w K Q' hd ⟨G,h⟩ hq
 ·rename_i j want hg;split at hq
  ·rename_i d hjd;have hoj:ops[j]?.bind (·.dst)=some d:=by rw [hl];simpa using hjd
   have hgv:=h.tm d;cases ho:ops[j]? with
   | none=>rw [ho] at hoj;cases hoj
   | some oj=>
    rw [ho] at hoj;have hdst:oj.dst=some d:=hoj;simp only [Q.wp] at hq;cases hgt:(s.t d).g with
    | false=>
     rw [hgt] at hq;have hw:Region.wanted o (yielded ops a.tmps)=false:=by
      have h1:=hgv.2 hgt;rw [Array.getD_eq_getD_getElem?] at h1;cases ht:a.tmps[d]? with
      | none=>simp [Region.wanted,hg,yielded,ho,hdst,ht]
      | some v=>
       rw [ht] at h1;simp only [a3A] at h1;subst h1;simp [Region.wanted,hg,yielded,ho,hdst,ht,undef]
     rw [a25 (by rw [hw];simp)];exact skip hq
    | true=>
     rw [hgt] at hq;simp only [Q.wp_bind] at hq;obtain⟨b,hx,hq⟩:∃ b,(s.t d).x= .c (.d (.v (.bool b)))/\((match b == want with | true=>opQ T cq o | false=>Q.ret (AZ o.dst)):Q (List Upd)).wp s K:=by
      unfold Q.bool at hq;split at hq
      ·rename_i b hb;exact⟨b,hb,hq⟩
      ·exact hq.elim
     have hw:Region.wanted o (yielded ops a.tmps)=(b == want):=by
      have:=hgv.1 hgt;rw [hx] at this;simp only [AVr,ACr,DVr] at this;have h1:=this.1;rw [Array.getD_eq_getD_getElem?] at h1;cases ht:a.tmps[d]? with
      | none=>rw [ht] at h1;simp [undef] at h1
      | some v=>
       rw [ht] at h1;simp only [a3A] at h1;subst h1;cases b <;> cases want <;> simp [Region.wanted,hg,yielded,ho,hdst,ht]
     rw [hw];cases hbw:(b == want) with
     | true=>
      rw [hbw] at hq;simp only [a3H];exact Tr hT hcq o W0 M s a w K Q' hd ⟨G,h⟩ hq
     | false=>
      rw [hbw] at hq;simp only [a4V,a3y];exact skip hq
  ·exact hq.elim
def wpR (T:TypeId->Option TI) (cq:Oper->Call->Q (List Upd)) (l:List Oper):List Oper->St->(St->Prop)->Prop
 | [],s,K=>K s
 | o :: rest,s,K=>wpO T cq l o s λus=>wpR T cq l rest (s.app us) K
def CY (n:Nat) (o:Oper):Bool:=match o.dst with | some d=>decide (d < n) | none=>true
theorem Md (s:St):∀ us:List Upd,(s.app us).n=s.n
 | []=>rfl
 | u :: us=>by rw [St.app,Md];cases u <;> rfl
theorem Me (hT:∀ t i,T t=some i->TOk P t i) (hcq:∀ o c,o.op= .call c->LA P o (cq o c)) {l:List Oper} {W0:World} {M:Own} {Q':Exit->Act->World->Prop} {K:St->Prop} {n:Nat} (hfin:∀ s' a' w',s'.n=n->K s'->uw W0 M s' a' w'->Q' .normal a' w') :
  ∀ {rest:List Oper} {s:St} {a:Act} {w:World},(rest.all (CY n))=true->s.n=n->uw W0 M s a w->wpR T cq l rest s K->wpList P l.toArray Q' rest a w
 | [],s,a,w,_,hn,hR,hq=>wpList_nil (hfin s a w hn hq hR)
 | o :: rest,s,a,w,hd,hn,hR,hq=>by
  simp only [a34,a24] at hd;simp only [wpR] at hq;have hd1:∀ d,o.dst=some d->d < s.n:=λd e=>by have h1:=hd.1;unfold CY at h1;rw [e] at h1;have h2:=a23 h1;rw [hn];exact h2
  have:=Mc (P:=P) hT hcq (ops:=l.toArray) rfl (Q':=Q') hd1 hR hq;refine wpList_step ?_;intro K' hK';split
  ·rename_i hw;rw [a28 hw] at this;refine Oper.wp_mono (λa' w'=>?_) this;rintro⟨us,hk,hr⟩;exact hK' _ _ (Me hT hcq hfin hd.2 (by rw [Md];exact hn) hr hk)
  ·rename_i hw;rw [a25 hw] at this;obtain⟨us,hk,hr⟩:=this;exact hK' _ _ (Me hT hcq hfin hd.2 (by rw [Md];exact hn) hr hk)
end
inductive AX where
 | normal
 | exit (id:Nat)
 | ret
def QK (W0:World) (M:Own) (K:AX->St->Prop):Exit->Act->World->Prop
 | .normal,a,w=>∃ s,uw W0 M s a w/\K .normal s
 | .exit i,a,w=>∃ s,uw W0 M s a w/\K (.exit i) s
 | .ret,a,w=>∃ s,uw W0 M s a w/\K .ret s
 | _,_,_=>False
def Tri (P:Program) (c:Code) (K:AX->St->Prop) (s:St):Prop:=∀ W0 M a w,uw W0 M s a w->c.wp P (QK W0 M K) a w
def Le (s s':St):Prop:=∀ W0 M a w,uw W0 M s a w->uw W0 M s' a w
def a1t (P:Program) (y:Code) (K:AX->St->Prop):AX->St->Prop
 | .normal,s=>Tri P y K s
 | .exit i,s=>K (.exit i) s
 | .ret,s=>K .ret s
def a1u (id:Nat) (K:AX->St->Prop):AX->St->Prop
 | .normal,s=>K .normal s
 | .exit i,s=>if i=id then K .normal s else K (.exit i) s
 | .ret,s=>K .ret s
def a0m (n:Nat) (I:Nat->St->Prop) (K:AX->St->Prop):AX->St->Prop
 | .normal,s=>∃ m s',m < n/\Le s s'/\I m s'
 | .exit i,s=>K (.exit i) s
 | .ret,s=>K .ret s
section
variable {P:Program} {T:TypeId->Option TI} {cq:Oper->Call->Q (List Upd)} {K:AX->St->Prop} {s:St}
theorem Le.refl (s:St):Le s s:=λ_ _ _ _ h=>h
theorem Le.trans {s1 s2 s3:St} (h:Le s1 s2) (k:Le s2 s3):Le s1 s3:=λW0 M a w r=>k W0 M a w (h W0 M a w r)
theorem Ql (h:K .normal s):Tri P .skip K s:=λ_ _ _ _ hR=>wp_skip ⟨s,hR,h⟩
theorem UL (h:K .ret s):Tri P .ret K s:=λ_ _ _ _ hR=>wp_ret ⟨s,hR,h⟩
theorem Qm {i:Nat} (h:K (.exit i) s):Tri P (.exit i) K s:=λ_ _ _ _ hR=>wp_exit ⟨s,hR,h⟩
theorem Xe {c:Code} {s':St} (hl:Le s s') (h:Tri P c K s'):Tri P c K s:=λW0 M a w hR=>h W0 M a w (hl W0 M a w hR)
theorem Bi {x y:Code} (h:Tri P x (a1t P y K) s):Tri P (.seq x y) K s:=λW0 M a w hR=>wp_seq (wp_mono (h W0 M a w hR) λe a' w' hq=>by
 cases e with
 | normal=>obtain⟨s',h1,h2⟩:=hq;exact h2 W0 M a' w' h1
 | exit i=>exact hq
 | ret=>exact hq
 | goto l=>exact hq.elim
 | panic c=>exact hq.elim
 | outgrown=>exact hq.elim)
theorem Mf {id:Nat} {c:Code} (h:Tri P c (a1u id K) s):Tri P (.block id c) K s:=λW0 M a w hR=>wp_block (wp_mono (h W0 M a w hR) λe a' w' hq=>by
 cases e with
 | normal=>exact hq
 | exit i=>
  obtain⟨s',h1,h2⟩:=hq;simp only [a1u] at h2;simp only [Exit.inBlock];split
  ·rename_i e;rw [a28 e] at h2;exact⟨s',h1,h2⟩
  ·rename_i e;rw [a25 e] at h2;exact⟨s',h1,h2⟩
 | ret=>exact hq
 | goto l=>exact hq.elim
 | panic c=>exact hq.elim
 | outgrown=>exact hq.elim)
theorem Qn {c:Operand} {x y:Code} (h:((ev c).bind Q.bool).wp s λb=>(b=true->Tri P x K s)/\(b=false->Tri P y K s)):Tri P (.cond c x y) K s:=λW0 M a w hR=>by
 obtain⟨G,hr⟩:=hR;rw [Q.wp_bind] at h;obtain⟨v,h1,hv⟩:=eY hr h;obtain⟨b,hb,_,h2⟩:=LC hv h1;refine wp_cond_split hb (λe=>?_) (λe=>?_)
 ·exact h2.1 e W0 M a w ⟨G,hr⟩
 ·exact h2.2 e W0 M a w ⟨G,hr⟩
theorem zR (hT:∀ t i,T t=some i->TOk P t i) (hcq:∀ o c,o.op= .call c->LA P o (cq o c)) {id:Nat} {l:List Oper} (hd:(l.all (CY s.n))=true) (h:wpR T cq l l s (K .normal)):Tri P (.region id l.toArray false) K s:=λ_W0 _M _a _w hR=>
 wp_region_lit (Me hT hcq (n:=s.n) (λs' _a' _w' _ hk hr=>⟨s',hr,hk⟩) hd rfl hR h)
theorem pm (p:Nat->Prop) (h:∃ n,p n):∃ n,p n/\∀ m,p m->n<=m:=by
 refine Classical.byContradiction λhc=>?_;have:∀ n,¬ p n:=λn=>by
  induction n using Nat.strongRecOn with
  | _ n ih=>
   intro hn;exact hc ⟨n,hn,λm hm=>by
    rcases a3O m n with h | h
    ·exact(ih m h hm).elim
    ·exact h⟩
 obtain⟨n,hn⟩:=h;exact this n hn
theorem Qo (I:Nat->St->Prop) {n0:Nat} {s0:St} {c:Code} (h0:Le s s0) (hi:I n0 s0) (h:∀ n s,I n s->Tri P c (a0m n I K) s):Tri P (.loop c) K s:=λW0 M a w hR=>by
 classical
 let J:Act->World->Nat->Prop:=λa w n=>∃ s,I n s/\uw W0 M s a w;let μ:Act->World->Nat:=λa w=>if h:∃ n,J a w n then Classical.choose (pm _ h) else 0
 refine wp_loop (λa w=>∃ n,J a w n) μ ⟨n0,s0,hi,h0 W0 M a w hR⟩ (λa w hJ=>?_);obtain⟨⟨s1,hi1,hr1⟩,_⟩:=Classical.choose_spec (pm _ hJ);have hμ:μ a w=Classical.choose (pm _ hJ):=dif_pos hJ;refine wp_mono (h _ s1 hi1 W0 M a w hr1) λe a' w' hq=>?_;cases e with
 | normal=>
  obtain⟨s',h1,m,s'',h2,h3,h4⟩:=hq;have hj:J a' w' m:=⟨s'',h4,h3 W0 M a' w' h1⟩;refine⟨⟨m,hj⟩,?_⟩;have h5:μ a' w'<=m:=by
   show(if h:∃ n,J a' w' n then Classical.choose (pm _ h) else 0)<=m
   rw [dif_pos ⟨m,hj⟩];exact(Classical.choose_spec (pm _ (⟨m,hj⟩:∃ n,J a' w' n))).2 m hj
  rw [hμ];omega
 | exit i=>exact hq
 | ret=>exact hq
 | goto l=>exact hq.elim
 | panic c=>exact hq.elim
 | outgrown=>exact hq.elim
end
def iw {α:Type}:List (Nat × α)->Nat->Option α
 | [],_=>none
 | (k,x) :: l,j=>if j=k then some x else iw l j
def pY (n:Nat) (t:List (Nat × AV)) (b:List (Nat × Nat × List AC)) (r:List (Nat × Option Nat × Row)):St:=
 ⟨n,λk=>⟨decide (k < n),(iw t k).getD .any⟩,λk=>⟨0,(iw b k).map (·.2)⟩,λk=>⟨0,(iw r k).map (·.2)⟩⟩
def Xf (s:St) (b:List (Nat × Nat × List AC)) (r:List (Nat × Option Nat × Row)):AC->AC->Prop
 | _,.junk=>True
 | .d x,.d y=>x=y
 | .nil,.nil=>True
 | .nil,.d y=>y= .sl []
 | .nil,.row id' ver'=>ver'=0/\(iw r id').map (·.1)=some none
 | .row id ver,.row id' ver'=>ver=(s.r id).ver/\ver'=0/\(iw r id').map (·.1)=some (some id)
 | .ptr id ver off,.ptr id' ver' off'=>ver=(s.b id).ver/\ver'=0/\off=off'/\(iw b id').map (·.1)=some id
 | .eptr cs,.eptr cs'=>cs=cs'
 | .rptr id ver i off sz,.rptr id' ver' i' off' sz'=>ver=(s.r id).ver/\ver'=0/\(iw r id').map (·.1)=some (some id)/\i=i'/\off=off'/\sz=sz'
 | _,_=>False
def wG (s:St) (b:List (Nat × Nat × List AC)) (r:List (Nat × Option Nat × Row)):List AC->List AC->Prop
 | [],[]=>True
 | x :: xs,y :: ys=>Xf s b r x y/\wG s b r xs ys
 | _,_=>False
def Xg (s:St) (b:List (Nat × Nat × List AC)) (r:List (Nat × Option Nat × Row)):AV->AV->Prop
 | _,.any=>True
 | .c x,.c y=>Xf s b r x y
 | .agg xs,.agg ys=>wG s b r xs ys
 | _,_=>False
def rowLe (R R':Row):Prop:=R.es=R'.es/\R.sz=R'.sz/\R.e=R'.e/\(R.fr=true->R'.fr=true)
def ro (s:St) (b:List (Nat × Nat × List AC)) (r:List (Nat × Option Nat × Row)):List (Nat × AV)->Prop
 | []=>True
 | (k,y) :: l=>((k < s.n->(s.t k).g=true)/\Xg s b r (s.t k).x y)/\ro s b r l
def UM (s:St) (b:List (Nat × Nat × List AC)) (r:List (Nat × Option Nat × Row)) (x:Option (List AC)) (y:List AC):Prop:=match x with
 | some cs=>wG s b r cs y
 | none=>False
def tL (s:St) (b:List (Nat × Nat × List AC)) (r:List (Nat × Option Nat × Row)):List (Nat × Nat × List AC)->Prop
 | []=>True
 | (_,id,y) :: l=>UM s b r (s.b id).c y/\tL s b r l
def rowSrc (s:St) (id:Option Nat) (R:Row):Prop:=match id with
 | none=>R.es=[]/\0 < R.sz/\R.e < ja
 | some id=>match(s.r id).c with
  | some R'=>rowLe R' R
  | none=>False
def rowsLe (s:St):List (Nat × Option Nat × Row)->Prop
 | []=>True
 | (_,id,R) :: l=>rowSrc s id R/\rowsLe s l
section
variable {s:St} {n:Nat} {t:List (Nat × AV)} {b:List (Nat × Nat × List AC)} {r:List (Nat × Option Nat × Row)}
theorem mr {α:Type}:∀ {l:List (Nat × α)} {k:Nat} {x:α},iw l k=some x->(k,x) ∈ l
 | [],_,_,h=>by simp [iw] at h
 | (j,y) :: l,k,x,h=>by
  simp only [iw] at h;split at h
  ·rename_i e;injection h with h;subst h;subst e;simp
  ·exact a3t _ (mr h)
theorem ro.get:∀ {l:List (Nat × AV)},ro s b r l->∀ {k:Nat} {y:AV},(k,y) ∈ l->(k < s.n->(s.t k).g=true)/\Xg s b r (s.t k).x y
 | (k0,y0) :: l,h,k,y,hm=>by
  rcases List.mem_cons.1 hm with e | hm
  ·injection e with e1 e2;subst e1;subst e2;exact h.1
  ·exact ro.get h.2 hm
theorem tL.get:∀ {l:List (Nat × Nat × List AC)},tL s b r l->∀ {k id:Nat} {y:List AC},(k,id,y) ∈ l->∃ cs,(s.b id).c=some cs/\wG s b r cs y
 | (k0,id0,y0) :: l,h,k,id,y,hm=>by
  rcases List.mem_cons.1 hm with e | hm
  ·injection e with e1 e2;injection e2 with e2 e3;subst e1;subst e2;subst e3;have:=h.1;unfold UM at this;split at this
   ·rename_i cs hc;exact⟨cs,hc,this⟩
   ·exact this.elim
  ·exact tL.get h.2 hm
theorem rowsLe.get:∀ {l:List (Nat × Option Nat × Row)},rowsLe s l->∀ {k:Nat} {id:Option Nat} {R:Row},(k,id,R) ∈ l->rowSrc s id R
 | (k0,id0,y0) :: l,h,k,id,y,hm=>by
  rcases List.mem_cons.1 hm with e | hm
  ·injection e with e1 e2;injection e2 with e2 e3;subst e1;subst e2;subst e3;exact h.1
  ·exact rowsLe.get h.2 hm
theorem wg {α β:Type} {f:α->β}:∀ {l:List α},(l.map f).Nodup->∀ {x y:α},x ∈ l->y ∈ l->f x=f y->x=y
 | a :: l,h,x,y,hx,hy,e=>by
  rw [a3h,a30] at h;rcases List.mem_cons.1 hx with rfl | hx' <;> rcases List.mem_cons.1 hy with rfl | hy'
  ·rfl
  ·exact(h.1 (by rw [e];exact a4v hy')).elim
  ·exact(h.1 (by rw [<-e];exact a4v hx')).elim
  ·exact wg h.2 hx' hy' e
theorem Xh {s:St} {k id:Nat} {R:Row} (hk:k < s.n) (hg:(s.t k).g=true) (hx:(s.t k).x= .c (.row id (s.r id).ver)) (hR:(s.r id).c=some R) (he:R.e < ja) :
  Le s ((s.app [.r id ⟨(s.r id).ver,some ⟨R.es,R.sz,R.e,true⟩⟩]).app [.t k ⟨true,.c (.d (.sl R.es))⟩]):=by
 rintro W0 M a w ⟨G,h⟩;obtain⟨I',m1,e1,hd⟩:=h.mem.freeze1 hR he;have h1:=h.mem' e1 m1 rfl rfl;have hv:=(h.tm k).1 hg;rw [hx] at hv;have hval:a.tmps.getD k undef=G.rw id:=by
  simp only [AVr,ACr] at hv;exact hv.2.2 trivial (by rw [hR];rfl)
 have h2:=h1.put (d:=k) hk (x:=⟨true,.c (.d (.sl R.es))⟩) (v:=a.tmps.getD k undef) ⟨λ_=>by simp only [AVr,ACr];rw [hval];exact hd,λe=>by cases e⟩;have ha:a.put (some k) (a.tmps.getD k undef)=a:=by
  unfold Act.put;have:a.tmps.setIfInBounds k (a.tmps.getD k undef)=a.tmps:=by
   apply Array.ext
   ·simp
   ·intro i h1 h2;rw [Array.getElem_setIfInBounds];split
    ·rename_i e;subst e;simp [Array.getD,h2]
    ·rfl
  simp only [this]
 rw [ha] at h2;exact⟨_,h2⟩
theorem a0n (hn:s.n=n) (ht:ro s b r t) (hb:tL s b r b) (hr:rowsLe s r) (hbn:(b.map (·.2.1)).Nodup) (hrn:(r.filterMap (·.2.1)).Nodup):Le s (pY n t b r):=by
 intro W0 M a w hR;obtain⟨G,h⟩:=hR;let G':Gh:=⟨G.I,λk=>G.bx (((iw b k).map (·.1)).getD 0),λk=>match(iw r k).map (·.1) with | some (some id)=>G.rw id | _=> .slice none 0 0,λk=>match(iw r k).map (·.1) with | some (some id)=>G.st id | _=>(undef,0),λk=>match(iw r k).map (·.1) with | some (some id)=>G.ex id | _=>[]⟩
 have hbsrc:∀ {k id:Nat} {y:List AC},iw b k=some (id,y)->∃ cs,(s.b id).c=some cs/\wG s b r cs y:=λh=>tL.get hb (mr h);have hrsrc:∀ {k:Nat} {id:Option Nat} {R:Row},iw r k=some (id,R)->rowSrc s id R:=λh=>rowsLe.get hr (mr h);have hac:∀ {x y:AC} {v:Value},Xf s b r x y->ACr G s w x v->ACr G' (pY n t b r) w y v:=by
  intro x y v hl hx;have hone:=hx.one;unfold Xf at hl;split at hl
  ·exact hone
  ·subst hl;exact hx
  ·exact hx
  ·subst hl;simp only [ACr] at hx ⊢;subst hx;simp only [DVr];exact⟨none,0,1,[],rfl,a3j _,by simp [maxLen],by omega,by simp,by simp,by simp [U3]⟩
  ·obtain⟨rfl,h2⟩:=hl;simp only [ACr] at hx ⊢;refine⟨hone,a3B _,λ_ _=>?_⟩;simp only [G',h2];exact hx
  ·obtain⟨h1,rfl,h2⟩:=hl;simp only [ACr] at hx ⊢;refine⟨hone,a3B _,λ_ hs=>?_⟩;simp only [G',h2];refine hx.2.2 h1 ?_;cases hlk:iw r _ with
   | none=>rw [hlk] at h2;cases h2
   | some p=>
    rw [hlk] at h2;obtain⟨id0,R0⟩:=p;injection h2 with h2;simp only at h2;subst h2;have:=hrsrc hlk;simp only [rowSrc] at this;split at this
    ·rename_i R' hR';rw [hR'];rfl
    ·exact this.elim
  ·obtain⟨h1,rfl,rfl,h2⟩:=hl;simp only [ACr] at hx ⊢;refine⟨hone,a3B _,λ_ hs=>?_⟩;simp only [G',h2,a3A];refine hx.2.2 h1 ?_;cases hlk:iw b _ with
   | none=>rw [hlk] at h2;cases h2
   | some p=>
    rw [hlk] at h2;obtain⟨id0,y0⟩:=p;injection h2 with h2;simp only at h2;subst h2;obtain⟨cs,hc,_⟩:=hbsrc hlk;rw [hc];rfl
  ·subst hl;exact hx
  ·obtain⟨h1,rfl,h2,rfl,rfl,rfl⟩:=hl;simp only [ACr] at hx ⊢;refine⟨hone,a3B _,λ_ hs=>?_⟩;simp only [G',h2];refine hx.2.2 h1 ?_;cases hlk:iw r _ with
   | none=>rw [hlk] at h2;cases h2
   | some p=>
    rw [hlk] at h2;obtain⟨id0,R0⟩:=p;injection h2 with h2;simp only at h2;subst h2;have:=hrsrc hlk;simp only [rowSrc] at this;split at this
    ·rename_i R' hR';rw [hR'];rfl
    ·exact this.elim
  ·exact hl.elim
 have hacs:∀ {xs ys:List AC} {vs:List Value},wG s b r xs ys->ACs G s w xs vs->ACs G' (pY n t b r) w ys vs:=by
  intro xs
  induction xs with
  | nil=>
   intro ys vs hl hx;cases ys with
   | nil=>exact hx
   | cons y ys=>exact hl.elim
  | cons x xs ih=>
   intro ys vs hl hx;cases ys with
   | nil=>exact hl.elim
   | cons y ys=>
    simp only [ACs] at hx ⊢;obtain⟨v,rest,h1,h2,h3⟩:=hx;exact⟨v,rest,h1,hac hl.1 h2,ih hl.2 h3⟩
 have howner:∀ x g,g ∈ own G' (pY n t b r) x->∃ y,g ∈ own G s y/\(match x with | .inl k=>∃ id cs,iw b k=some (id,cs)/\y= .inl id | .inr k=>∃ id R,iw r k=some (some id,R)/\y= .inr id):=by
  intro x g hx;rcases x with k | k
  ·have e0:((pY n t b r).b k).c=(iw b k).map (·.2):=rfl;simp only [own,e0] at hx;cases hlk:iw b k with
   | none=>simp [hlk] at hx
   | some p=>
    obtain⟨id,y⟩:=p;simp only [hlk,a3s,a5o,a3H,G',a3A,a3o] at hx;obtain⟨cs,hc,_⟩:=hbsrc hlk;exact⟨.inl id,by rw [hx];exact zH (by rw [hc];rfl),id,y,hlk,rfl⟩
  ·have e0:((pY n t b r).r k).c=(iw r k).map (·.2):=rfl;simp only [own,e0] at hx;cases hlk:iw r k with
   | none=>simp [hlk] at hx
   | some p=>
    obtain⟨id,R⟩:=p;cases id with
    | none=>simp [G',hlk,obk] at hx
    | some id=>
     simp only [hlk,a3s,G'] at hx;have:=hrsrc hlk;simp only [rowSrc] at this;split at this
     ·rename_i R' hR';exact⟨.inr id,by simp only [own,hR'];rw [this.2.2.1];exact hx,id,R,hlk,rfl⟩
     ·exact this.elim
 have hbinj:∀ {k k' id:Nat} {y y':List AC},iw b k=some (id,y)->iw b k'=some (id,y')->k=k':=by
  intro k k' id y y' h1 h2;have:=wg hbn (mr h1) (mr h2) rfl;injection this
 have hrinj:∀ {k k' id:Nat} {y y':Row},iw r k=some (some id,y)->iw r k'=some (some id,y')->k=k':=by
  intro k k' id y y' h1 h2;have key:∀ {l:List (Nat × Option Nat × Row)},(l.filterMap (·.2.1)).Nodup->∀ {p q:Nat × Option Nat × Row},p ∈ l->q ∈ l->p.2.1=some id->q.2.1=some id->p=q:=by
   intro l
   induction l with
   | nil=>intro _ p q hp;simp at hp
   | cons a l ih=>
    intro hnd p q hp hq e1 e2;rcases List.mem_cons.1 hp with rfl | hp' <;> rcases List.mem_cons.1 hq with rfl | hq'
    ·rfl
    ·rw [a4R (f:=λ(x:Nat × Option Nat × Row)=>x.2.1) e1,a30] at hnd;exact(hnd.1 (List.mem_filterMap.2 ⟨q,hq',e2⟩)).elim
    ·rw [a4R (f:=λ(x:Nat × Option Nat × Row)=>x.2.1) e2,a30] at hnd;exact(hnd.1 (List.mem_filterMap.2 ⟨p,hp',e1⟩)).elim
    ·refine ih ?_ hp' hq' e1 e2;cases ha:a.2.1 with
     | none=>rw [List.filterMap_cons_none (f:=λ(x:Nat × Option Nat × Row)=>x.2.1) ha] at hnd;exact hnd
     | some z=>rw [a4R (f:=λ(x:Nat × Option Nat × Row)=>x.2.1) ha,a30] at hnd;exact hnd.2
  have:=key hrn (mr h1) (mr h2) rfl rfl;injection this
 have hav:∀ {x y:AV} {v:Value},Xg s b r x y->AVr G s w x v->AVr G' (pY n t b r) w y v:=by
  intro x y v h2 hv;unfold Xg at h2;split at h2
  ·simp only [AVr]
  ·simp only [AVr] at hv ⊢;exact hac h2 hv
  ·simp only [AVr] at hv ⊢;obtain⟨vs,e,h3⟩:=hv;exact⟨vs,e,hacs h2 h3⟩
  ·exact h2.elim
 refine⟨G',h.sz.trans hn,h.df,λk=>?_,?_,λk=>?_⟩
 ·refine⟨λhk=>?_,λe=>?_⟩
  ·simp only [pY,a2W] at hk ⊢;cases hlk:iw t k with
   | none=>simp only [a4Q,AVr]
   | some y=>
    simp only [a3A];obtain⟨h1,h2⟩:=ro.get ht (mr hlk);exact hav h2 ((h.tm k).1 (h1 (by rw [hn];exact hk)))
  ·simp only [pY,a2U] at e;have hsz:=h.sz;rw [Array.getD_eq_getD_getElem?,Array.getElem?_eq_none (by omega)];rfl
 ·refine⟨λk cs hc=>?_,λk R hc=>?_,λx y g hx hy=>?_,λk hc o hi=>?_,λk R g hc hg o hi=>?_,λx g hx=>?_,h.mem.In,h.mem.fr,h.mem.ii,h.mem.gl,λk R hc hp=>?_,λk R hc hp=>?_⟩
  rotate_right 2
  rotate_left
  ·simp only [pY] at hc;cases hlk:iw r k with
   | none=>rw [hlk] at hc;cases hc
   | some p=>
    obtain⟨id,y⟩:=p;rw [hlk] at hc;injection hc with hc;simp only at hc;subst hc;have hsrc:=hrsrc hlk;cases id with
    | none=>
     obtain⟨e1,e2,eF⟩:=hsrc;exact absurd hp (eZ eF)
    | some id=>
     simp only [rowSrc] at hsrc;split at hsrc
     ·rename_i R' hR';obtain⟨e1,e2,e3,_⟩:=hsrc;obtain⟨⟨g,es,cl,k1,k2,k3,k4,k5⟩,k6⟩:=h.mem.sx id R' hR' (by rw [e3];exact hp);simp only [G',hlk,a3s];exact⟨⟨g,es,cl,k1,k2,k3,k4,by rw [<-e1,<-e3];exact k5⟩,k6⟩
     ·exact hsrc.elim
  rotate_right
  ·simp only [pY] at hc;cases hlk:iw r k with
   | none=>rw [hlk] at hc;cases hc
   | some p=>
    obtain⟨id,y⟩:=p;rw [hlk] at hc;injection hc with hc;simp only at hc;subst hc;have hsrc:=hrsrc hlk;cases id with
    | none=>
     obtain⟨e1,e2,eF⟩:=hsrc;exact absurd (ltp eF) (Nat.not_lt.2 hp)
    | some id=>
     simp only [rowSrc] at hsrc;split at hsrc
     ·rename_i R' hR';obtain⟨e1,e2,e3,_⟩:=hsrc;obtain⟨g,es,cl,i,m,k1,k2,k3,k4⟩:=h.mem.pe id R' hR' (by rw [e3];exact hp);simp only [G',hlk,a3s];exact⟨g,es,cl,i,m,k1,k2,by rw [<-e1];exact k3,k4⟩
     ·exact hsrc.elim
  ·simp only [pY] at hc;cases hlk:iw b k with
   | none=>rw [hlk] at hc;cases hc
   | some p=>
    obtain⟨id,y⟩:=p;rw [hlk] at hc;injection hc with hc;simp only at hc;subst hc;obtain⟨cs',hc',hl⟩:=hbsrc hlk;obtain⟨cur,ty,h1,h2⟩:=h.mem.bx id cs' hc';exact⟨cur,ty,by simp only [G',hlk,a3s,a3A];exact h1,hacs hl h2⟩
  ·simp only [pY] at hc;cases hlk:iw r k with
   | none=>rw [hlk] at hc;cases hc
   | some p=>
    obtain⟨id,y⟩:=p;rw [hlk] at hc;injection hc with hc;simp only at hc;subst hc;have hsrc:=hrsrc hlk;cases id with
    | none=>
     obtain⟨e1,e2,eF⟩:=hsrc;refine⟨e2,by simp [e1],.inl ⟨eF,[],?_,by simp [e1,U3]⟩⟩;simp only [G',hlk,a3s,e1,a3l];exact World.ownsRow_nil w 0 _ _
    | some id=>
     simp only [rowSrc] at hsrc;split at hsrc
     ·rename_i R' hR';obtain⟨e1,e2,e3,_⟩:=hsrc;have q:=h.mem.rw id R' hR';simp only [G',hlk,a3s];exact jb.as q e1 e2 e3
     ·exact hsrc.elim
  ·obtain⟨x',hx',mx⟩:=howner x g hx;obtain⟨y',hy',my⟩:=howner y g hy;have e:=h.mem.dj x' y' g hx' hy';subst e;rcases x with k | k <;> rcases y with j | j <;> simp only at mx my
   ·obtain⟨id,cs,l1,e1⟩:=mx;obtain⟨id',cs',l2,e2⟩:=my;rw [e1] at e2;injection e2 with e2;subst e2;rw [hbinj l1 l2]
   ·obtain⟨id,cs,l1,e1⟩:=mx;obtain⟨id',cs',l2,e2⟩:=my;rw [e1] at e2;cases e2
   ·obtain⟨id,cs,l1,e1⟩:=mx;obtain⟨id',cs',l2,e2⟩:=my;rw [e1] at e2;cases e2
   ·obtain⟨id,cs,l1,e1⟩:=mx;obtain⟨id',cs',l2,e2⟩:=my;rw [e1] at e2;injection e2 with e2;subst e2;rw [hrinj l1 l2]
  ·simp only [pY] at hc;cases hlk:iw b k with
   | none=>rw [hlk] at hc;cases hc
   | some p=>
    obtain⟨id,y⟩:=p;obtain⟨cs',hc',_⟩:=hbsrc hlk;simp only [G',hlk,a3s,a3A] at hi;exact h.mem.bI id (by rw [hc'];rfl) o hi
  ·simp only [pY] at hc;cases hlk:iw r k with
   | none=>rw [hlk] at hc;cases hc
   | some p=>
    obtain⟨id,y⟩:=p;rw [hlk] at hc;injection hc with hc;simp only at hc;subst hc;have hsrc:=hrsrc hlk;cases id with
    | none=>simp [G',hlk,obk] at hg
    | some id=>
     simp only [rowSrc] at hsrc;split at hsrc
     ·rename_i R' hR';obtain⟨e1,e2,_,e4⟩:=hsrc;simp only [G',hlk,a3s] at hg;obtain⟨q1,q2⟩:=h.mem.rI id R' g hR' hg o hi;exact⟨e4 q1,by rw [<-e1,<-e2];exact q2⟩
     ·exact hsrc.elim
  ·obtain⟨y,hy,_⟩:=howner x g hx;exact h.mem.oM y g hy
 ·have hv:=h.pin k;rw [hn] at hv;show AVr G' (pY n t b r) w ((iw t (n + k)).getD .any) (M.pin k);cases hlk:iw t (n + k) with
  | none=>simp only [a4Q,AVr]
  | some y=>
   simp only [a3A];obtain⟨_,h2⟩:=ro.get ht (mr hlk);exact hav h2 hv
end
def Upd.part:Upd->ao
 | .t k _=> .t k
 | .b k _=> .b k
 | .r k _=> .r k
def Q.wpt {α:Type}:Q α->St->List ao->(α->List ao->Prop)->Prop
 | .ret a,_,tr,K=>K a tr
 | .rdT k f,s,tr,K=>(f (s.t k)).wpt s (.t k :: tr) K
 | .rdB k f,s,tr,K=>(f (s.b k)).wpt s (.b k :: tr) K
 | .rdR k f,s,tr,K=>(f (s.r k)).wpt s (.r k :: tr) K
 | .req p q,s,tr,K=>p/\q.wpt s tr K
 | .fail,_,_,_=>False
def wpD (T:TypeId->Option TI) (cq:Oper->Call->Q (List Upd)) (l:List Oper):List Oper->St->List (List ao × List ao)->(St->List (List ao × List ao)->Prop)->Prop
 | [],s,tr,K=>K s tr
 | o :: rest,s,tr,K=>(opD T cq l o).wpt s [] λus rs=>wpD T cq l rest (s.app us) (tr ++ [(rs,us.map Upd.part)]) K
def Lo:List Oper->List (List Nat)->List (List Nat)
 | [],acc=>acc
 | o :: rest,acc=>Lo rest (acc ++ [(o.after.toList.filter (Region.binds .any)).flatMap λe=>e.on :: acc.getD e.on []])
def a0o:List Nat->List Nat->List Nat
 | [],a=>a
 | x :: xs,a=>a0o xs (bif a.contains x then a else x :: a)
def WC (acc:List (List Nat)):List Edge->List Nat
 | []=>[]
 | e :: es=>bif Region.binds .any e then a0o (e.on :: acc.getD e.on []) (WC acc es) else WC acc es
def a0p:List Oper->List (List Nat)->List (List Nat)
 | [],acc=>acc
 | o :: rest,acc=>a0p rest (acc ++ [WC acc o.after.toList])
theorem Hq:∀ (xs a:List Nat) (y:Nat),y ∈ a0o xs a->y ∈ xs\/y ∈ a
 | [],_,_,h=> .inr h
 | x :: xs,a,y,h=>by
  rcases Hq xs _ y h with h | h
  ·exact .inl (by simp [h])
  ·cases hc:a.contains x with
   | true=>rw [hc] at h;exact .inr h
   | false=>
    rw [hc] at h;rcases List.mem_cons.1 h with rfl | h
    ·exact .inl (by simp)
    ·exact .inr h
theorem Bj {acc acc':List (List Nat)} (hs:∀ k y,y ∈ acc.getD k []->y ∈ acc'.getD k []):∀ (es:List Edge) (y:Nat),y ∈ WC acc es->y ∈ (es.filter (Region.binds .any)).flatMap λe=>e.on :: acc'.getD e.on []
 | [],_,h=>by simp [WC] at h
 | e :: es,y,h=>by
  unfold WC at h;cases hb:Region.binds .any e with
  | true=>
   rw [hb] at h;rw [a4r hb,a3C,a4E];rcases Hq _ _ y h with h | h
   ·left;rcases List.mem_cons.1 h with rfl | h
    ·simp
    ·exact a3t _ (hs _ _ h)
   ·exact .inr (Bj hs es y h)
  | false=>
   rw [hb] at h;rw [a4W (by rw [hb];simp)];exact Bj hs es y h
theorem Hr:∀ (l:List Oper) (acc acc':List (List Nat)),acc.length=acc'.length->(∀ k y,y ∈ acc.getD k []->y ∈ acc'.getD k [])->∀ k y,y ∈ (a0p l acc).getD k []->y ∈ (Lo l acc').getD k []
 | [],_,_,_,hs,k,y,h=>hs k y h
 | o :: l,acc,acc',hl,hs,k,y,h=>by
  refine Hr l _ _ (by simp [hl]) (λk y hy=>?_) k y h;simp only [List.getD_eq_getElem?_getD,List.getElem?_append] at hy ⊢;by_cases h1:k < acc.length
  ·rw [a28 h1] at hy;rw [a28 (by omega)];have:=hs k y (by rw [List.getD_eq_getElem?_getD];exact hy)
   rwa [List.getD_eq_getElem?_getD] at this
  ·rw [a25 h1] at hy;rw [a25 (by omega)];by_cases h2:k=acc.length
   ·rw [h2,a47] at hy;rw [h2,hl,a47];exact Bj hs _ _ hy
   ·rw [List.getElem?_eq_none (by simp;omega)] at hy;simp at hy
def Qp (a b:List ao):Bool:=a.any λc=>b.contains c
def Xi (x y:List ao × List ao):Bool:=Qp x.1 y.2 || Qp x.2 y.1 || Qp x.2 y.2
def xN (l:List Oper) (tr:List (List ao × List ao)):Bool:=
 ((List.range l.length).all λi=>((l.getD i default).after.toList.all λe=> !Region.binds .any e || decide (e.on < i))) &&
 ((List.range l.length).all λi=>(List.range i).all λj=> !Xi (tr.getD j ([],[])) (tr.getD i ([],[])) || ((a0p l []).getD i []).contains j)
section
variable {P:Program} {T:TypeId->Option TI} {cq:Oper->Call->Q (List Upd)}
theorem xO {α:Type} {s:St} {K:α->List ao->Prop}:∀ {q:Q α} {tr:List ao},q.wpt s tr K->∃ a rs,q.wp s (· =a)/\(∀ c ∈ q.reads s,c ∈ rs)/\(∀ c ∈ tr,c ∈ rs)/\K a rs
 | .ret a,tr,h=>⟨a,tr,rfl,by simp [Q.reads],λc hc=>hc,h⟩
 | .rdT k f,tr,h=>by
  obtain⟨a,rs,h1,h2,h3,h4⟩:=xO (q:=f (s.t k)) h;exact⟨a,rs,h1,λc hc=>by rcases List.mem_cons.1 hc with rfl | hc;exact h3 _ (by simp);exact h2 c hc,λc hc=>h3 c (by simp [hc]),h4⟩
 | .rdB k f,tr,h=>by
  obtain⟨a,rs,h1,h2,h3,h4⟩:=xO (q:=f (s.b k)) h;exact⟨a,rs,h1,λc hc=>by rcases List.mem_cons.1 hc with rfl | hc;exact h3 _ (by simp);exact h2 c hc,λc hc=>h3 c (by simp [hc]),h4⟩
 | .rdR k f,tr,h=>by
  obtain⟨a,rs,h1,h2,h3,h4⟩:=xO (q:=f (s.r k)) h;exact⟨a,rs,h1,λc hc=>by rcases List.mem_cons.1 hc with rfl | hc;exact h3 _ (by simp);exact h2 c hc,λc hc=>h3 c (by simp [hc]),h4⟩
 | .req p q,tr,h=>by
  obtain⟨a,rs,h1,h2,h3,h4⟩:=xO (q:=q) h.2;exact⟨a,rs,⟨h.1,h1⟩,h2,h3,h4⟩
def sub (X:Nat->Bool):Nat->List (List Upd)->St->St
 | _,[],s=>s
 | i,us :: r,s=>sub X (i + 1) r (bif X i then s.app us else s)
theorem uH (s:St) (c:ao):c.same s s:=by cases c <;> rfl
theorem Mg {s s':St} {c:ao} (u:Upd) (h:c.same s s'):c.same (s.app1 u) (s'.app1 u):=by
 cases u with
 | t k x=>
  cases c with
  | t j=>
   simp only [ao.same,St.app1,St.setT,upd] at h ⊢;by_cases e:j=k
   ·simp [e]
   ·simp [e,h]
  | b j=>exact h
  | r j=>exact h
 | b k x=>
  cases c with
  | b j=>
   simp only [ao.same,St.app1,St.setB,upd] at h ⊢;by_cases e:j=k
   ·simp [e]
   ·simp [e,h]
  | t j=>exact h
  | r j=>exact h
 | r k x=>
  cases c with
  | r j=>
   simp only [ao.same,St.app1,St.setR,upd] at h ⊢;by_cases e:j=k
   ·simp [e]
   ·simp [e,h]
  | b j=>exact h
  | t j=>exact h
theorem wR {s s':St} {c:ao}:∀ (us:List Upd),c.same s s'->c.same (s.app us) (s'.app us)
 | [],h=>h
 | u :: us,h=>wR (s:=s.app1 u) (s':=s'.app1 u) us (Mg u h)
theorem JK {s:St} {c:ao} (u:Upd) (h:c ≠ u.part):c.same (s.app1 u) s:=by
 cases u with
 | t k x=>
  cases c with
  | t j=>simp only [ao.same,St.app1,St.setT,upd];rw [a25 (λe=>h (by rw [e];rfl))]
  | b j=>rfl
  | r j=>rfl
 | b k x=>
  cases c with
  | b j=>simp only [ao.same,St.app1,St.setB,upd];rw [a25 (λe=>h (by rw [e];rfl))]
  | t j=>rfl
  | r j=>rfl
 | r k x=>
  cases c with
  | r j=>simp only [ao.same,St.app1,St.setR,upd];rw [a25 (λe=>h (by rw [e];rfl))]
  | b j=>rfl
  | t j=>rfl
theorem pn {s1 s2 s3:St} {c:ao} (h:c.same s1 s2) (k:c.same s2 s3):c.same s1 s3:=by cases c <;> exact Eq.trans h k
theorem CZ {s1 s2:St} {c:ao} (h:c.same s1 s2):c.same s2 s1:=by cases c <;> exact Eq.symm h
theorem uI {c:ao}:∀ (us:List Upd) (s:St),c ∉ us.map Upd.part->c.same (s.app us) s
 | [],s,_=>uH s c
 | u :: us,s,h=>by
  simp only [a3h,a4c,not_or] at h;exact pn (uI us (s.app1 u) h.2) (JK u h.1)
theorem Mh {s s':St} {c:ao} (u:Upd) (h:c=u.part):c.same (s.app1 u) (s'.app1 u):=by
 subst h;cases u <;> simp [ao.same,Upd.part,St.app1,St.setT,St.setB,St.setR,upd]
theorem Hs {c:ao}:∀ (us:List Upd) (s s':St),c ∈ us.map Upd.part->c.same (s.app us) (s'.app us)
 | u :: us,s,s',h=>by
  simp only [a3h,a4c] at h;by_cases hc:c ∈ us.map Upd.part
  ·exact Hs us (s.app1 u) (s'.app1 u) hc
  ·rcases h with h | h
   ·exact wR us (Mh u h)
   ·exact(hc h).elim
theorem wS {c:ao} (X Y:Nat->Bool):∀ (L:List (List Upd)) (k:Nat) (s s':St),c.same s s'->(∀ j us,L[j]?=some us->c ∈ us.map Upd.part->X (k + j)=Y (k + j))->c.same (sub X k L s) (sub Y k L s')
 | [],_,_,_,h,_=>h
 | us :: L,k,s,s',h,hw=>by
  simp only [sub];refine wS X Y L (k + 1) _ _ ?_ (λj vs hj hc=>by have:=hw (j + 1) vs (by simpa using hj) hc;rwa [a3J,a3S 1 j]);by_cases hc:c ∈ us.map Upd.part
  ·have e:=hw 0 us rfl hc;simp only [a4A] at e;rw [e];cases Y k with
   | true=>exact wR us h
   | false=>exact h
  ·cases X k <;> cases Y k <;> simp only [cond_true,cond_false]
   ·exact h
   ·exact pn h (CZ (uI us s' hc))
   ·exact pn (uI us s hc) h
   ·exact wR us h
theorem Qq (X:Nat->Bool):∀ (L:List (List Upd)) (k:Nat) (s:St),(sub X k L s).n=s.n
 | [],_,_=>rfl
 | us :: L,k,s=>by rw [sub,Qq X L];cases X k <;> simp [Md]
theorem uJ (X:Nat->Bool):∀ (A:List (List Upd)) (B:List (List Upd)) (k:Nat) (s:St),sub X k (A ++ B) s=sub X (k + A.length) B (sub X k A s)
 | [],B,k,s=>by simp [sub]
 | us :: A,B,k,s=>by
  simp only [a3x,sub,a27];rw [uJ X A B (k + 1)];congr 1;omega
theorem Xj {s s':St} (hn:s.n=s'.n) (h:∀ c:ao,c.same s s'):s=s':=by
 obtain⟨n,t,b,r⟩:=s;obtain⟨n',t',b',r'⟩:=s';have h1:t=t':=funext λk=>h (.t k);have h2:b=b':=funext λk=>h (.b k);have h3:r=r':=funext λk=>h (.r k);simp only at hn;subst hn;subst h1;subst h2;subst h3;rfl
theorem ET (X:Nat->Bool):∀ (L:List (List Upd)) (k:Nat) (s:St),(∀ j,j < L.length->X (k + j)=true)->sub X k L s=sub (λ_=>true) k L s
 | [],_,_,_=>rfl
 | us :: L,k,s,h=>by
  simp only [sub];have:=h 0 (by simp);simp only [a4A] at this;rw [this];exact ET X L (k + 1) _ (λj hj=>by have:=h (j + 1) (by simpa using hj);rwa [a3J,a3S 1 j])
theorem wT (X:Nat->Bool):∀ (L:List (List Upd)) (k:Nat) (s:St),(∀ j,j < L.length->X (k + j)=false)->sub X k L s=s
 | [],_,_,_=>rfl
 | us :: L,k,s,h=>by
  simp only [sub];have:=h 0 (by simp);simp only [a4A] at this;rw [this];exact wT X L (k + 1) _ (λj hj=>by have:=h (j + 1) (by simpa using hj);rwa [a3J,a3S 1 j])
theorem UN (A B:List (List Upd)) (s:St):sub (λj=>decide (j < A.length)) 0 (A ++ B) s=sub (λ_=>true) 0 A s:=by
 rw [uJ,wT _ B _ _ (λj _=>by simp),ET _ A 0 s (λj hj=>by simp;exact hj)]
theorem Ht {l:List Oper} {K:St->List (List ao × List ao)->Prop}:∀ {rest:List Oper} {s0:St} {A:List (List Upd)} {tr:List (List ao × List ao)},
  wpD T cq l rest (sub (λ_=>true) 0 A s0) tr K->tr.length=A.length->(tr.map (·.2))=A.map (λus=>us.map Upd.part)->
  ∃ (B:List (List Upd)) (tr':List (List ao × List ao)),B.length=rest.length/\tr'.length=rest.length/\(tr'.map (·.2))=B.map (λus=>us.map Upd.part)/\K (sub (λ_=>true) 0 (A ++ B) s0) (tr ++ tr')/\
   ∀ i o us rs,rest[i]?=some o->B[i]?=some us->(tr'.map (·.1))[i]?=some rs->(opD T cq l o).wp (sub (λj=>decide (j < A.length + i)) 0 (A ++ B) s0) (· =us)/\∀ c ∈ (opD T cq l o).reads (sub (λj=>decide (j < A.length + i)) 0 (A ++ B) s0),c ∈ rs
 | [],s0,A,tr,h,_,_=>⟨[],[],rfl,rfl,rfl,by simp only [a3b];exact h,λi o us rs hi=>by simp at hi⟩
 | o :: rest,s0,A,tr,h,hl,hp=>by
  simp only [wpD] at h;obtain⟨us,rs,h1,h2,_,h3⟩:=xO h;have e1:(sub (λ_=>true) 0 A s0).app us=sub (λ_=>true) 0 (A ++ [us]) s0:=by rw [uJ];rfl
  rw [e1] at h3;obtain⟨B,tr',b1,b2,b3,b4,b5⟩:=Ht h3 (by simp [hl]) (by simp [hp]);refine⟨us :: B,(rs,us.map Upd.part) :: tr',by simp [b1],by simp [b2],by simp [b3],by simpa using b4,?_⟩;intro i o' us' rs' hi hu hr;cases i with
  | zero=>
   simp only [List.getElem?_cons_zero,Option.some.injEq] at hi hu;simp only [a3h,List.getElem?_cons_zero,Option.some.injEq] at hr;subst hi;subst hu;subst hr;rw [a4A,UN];exact⟨h1,h2⟩
  | succ i=>
   have:=b5 i o' us' rs' (by simpa using hi) (by simpa using hu) (by simpa using hr);simp only [a2V,a27,a3l,a3c,a3x,a3E] at this;rw [show A.length + (0 + 1) + i=A.length + (i + 1) from by omega] at this;exact this
theorem Bk:∀ (l:List Oper) (acc:List (List Nat)) (i:Nat),i < acc.length->(Lo l acc).getD i []=acc.getD i []
 | [],acc,i,_=>rfl
 | o :: l,acc,i,h=>by
  rw [Lo,Bk l _ i (by simp;omega)];simp only [List.getD_eq_getElem?_getD];rw [List.getElem?_append_left h]
def Lp (o:Oper):List Edge:=o.after.toList.filter (Region.binds .any)
theorem Da (o:Oper) (l:List Oper) (acc:List (List Nat)):Lo (o :: l) acc=Lo l (acc ++ [(Lp o).flatMap λe=>e.on :: acc.getD e.on []]):=rfl
theorem zS {α β:Type} {f g:α->List β}:∀ {l:List α},(∀ x ∈ l,f x=g x)->l.flatMap f=l.flatMap g
 | [],_=>rfl
 | x :: l,h=>by rw [a3C,a3C,h x (by simp),zS λy hy=>h y (by simp [hy])]
theorem UO (i:Nat):∀ (l:List Oper) (acc:List (List Nat)) (o:Oper),l[i]?=some o->(∀ e ∈ Lp o,e.on < acc.length + i)->
  (Lo l acc).getD (acc.length + i) []=(Lp o).flatMap λe=>e.on :: (Lo l acc).getD e.on []:=by
 induction i with
 | zero=>
  intro l acc o h he;cases l with
  | nil=>simp at h
  | cons o1 l=>
   simp only [List.getElem?_cons_zero,Option.some.injEq] at h;subst h;rw [Da,a4A,Bk l _ _ (by simp)];have e0:(acc ++ [(Lp o1).flatMap λe=>e.on :: acc.getD e.on []]).getD acc.length []=(Lp o1).flatMap λe=>e.on :: acc.getD e.on []:=by
    rw [List.getD_eq_getElem?_getD,List.getElem?_append_right (a3j _),a47];rfl
   rw [e0];refine zS λe hm=>?_;have h1:e.on < acc.length:=he e hm;rw [Bk l _ _ (by simp;omega)];simp only [List.getD_eq_getElem?_getD];rw [List.getElem?_append_left h1]
 | succ i ih=>
  intro l acc o h he;cases l with
  | nil=>simp at h
  | cons o1 l=>
   simp only [List.getElem?_cons_succ] at h;have:=ih l (acc ++ [(Lp o1).flatMap λe=>e.on :: acc.getD e.on []]) o h (λe hm=>by have:=he e hm;simp;omega);simp only [a2V,a27,a3l] at this;rw [Da,show acc.length + (i + 1)=acc.length + (0 + 1) + i from by omega];exact this
theorem JL (hT:∀ t i,T t=some i->TOk P t i) (hcq:∀ o c,o.op= .call c->LA P o (cq o c)) (hm:P.follows .mixedOrders=true) {id:Nat} {l:List Oper} {K:AX->St->Prop} {s:St} (hd:(l.all (CY s.n))=true)
  (h:wpD T cq l l s [] λs' tr=>xN l tr=true/\K .normal s'):Tri P (.region id l.toArray true) K s:=by
 intro W0 M a0 w0 hR0;have hR0':uw W0 M s a0 {w0 with drawn:=w0.drawn + 1}:=by
  obtain⟨G,h⟩:=hR0;obtain⟨m1,e1⟩:=h.mem.grow (w':={w0 with drawn:=w0.drawn + 1}) ⟨rfl,rfl,rfl,a3j _,λ_ _ _=>rfl⟩;exact⟨G,h.mem' e1 m1 rfl rfl⟩
 obtain⟨L,tr,b1,b2,b3,⟨hind,hK⟩,b5⟩:=Ht (A:=[]) (s0:=s) (tr:=[]) h rfl rfl;simp only [a3E,a3l,a3z] at b5 hK hind;simp only [xN,a24,a4f,List.mem_range,a3Y,a20,a2W] at hind;obtain⟨hedge,hcl⟩:=hind;have hedge':∀ i o,l[i]?=some o->∀ e ∈ Lp o,e.on < i:=by
  intro i o hi e hm;have hlt:i < l.length:=by
   rcases a3O i l.length with h | h
   ·exact h
   ·rw [List.getElem?_eq_none h] at hi;cases hi
  have:=hedge i hlt e (by rw [List.getD_eq_getElem?_getD,hi];exact(List.mem_filter.1 hm).1);rcases this with h | h
  ·have:=(List.mem_filter.1 hm).2;rw [h] at this;cases this
  ·exact h
 let X:Array Bool->Nat->Bool:=λlst j=>lst.getD j false;have hanc:∀ i o,l[i]?=some o->(Lo l []).getD i []=(Lp o).flatMap λe=>e.on :: (Lo l []).getD e.on []:=by
  intro i o hi;have:=UO i l [] o hi (λe hm=>by simpa using hedge' i o hi e hm);simpa using this
 let Down:Array Bool->Prop:=λlst=>∀ i o,l[i]?=some o->X lst i=true->∀ e ∈ Lp o,X lst e.on=true;have hdown:∀ lst,Down lst->∀ i o,l[i]?=some o->(∀ e ∈ Lp o,X lst e.on=true)->∀ j ∈ (Lo l []).getD i [],X lst j=true:=by
  intro lst hD i
  induction i using Nat.strongRecOn with
  | _ i ih=>
   intro o hi he j hj;rw [hanc i o hi] at hj;obtain⟨e,hm,hj⟩:=List.mem_flatMap.1 hj;rcases List.mem_cons.1 hj with rfl | hj
   ·exact he e hm
   ·have hlt:=hedge' i o hi e hm;have hil:i < l.length:=by
     rcases a3O i l.length with h | h
     ·exact h
     ·rw [List.getElem?_eq_none h] at hi;cases hi
    obtain⟨o2,ho2⟩:∃ o2,l[e.on]?=some o2:=⟨_,List.getElem?_eq_getElem (by omega)⟩;exact ih e.on hlt o2 ho2 (hD e.on o2 ho2 (he e hm)) j hj
 have hclash:∀ i j,j < i->i < l.length->∀ c,(c ∈ (tr.getD i ([],[])).1/\c ∈ (tr.getD j ([],[])).2)\/(c ∈ (tr.getD i ([],[])).2/\c ∈ (tr.getD j ([],[])).1)\/(c ∈ (tr.getD i ([],[])).2/\c ∈ (tr.getD j ([],[])).2)->j ∈ (Lo l []).getD i []:=by
  intro i j hji hi c hc;rcases hcl i hi j hji with h | h
  ·exfalso;have hmeet:∀ {x y:List ao},c ∈ x->c ∈ y->Qp x y=true:=λhx hy=>List.any_eq_true.2 ⟨c,hx,by simpa using hy⟩;simp only [Xi,a5d] at h;rcases hc with⟨h1,h2⟩ | ⟨h1,h2⟩ | ⟨h1,h2⟩
   ·rw [hmeet h2 h1] at h;exact absurd h.1.2 (by simp)
   ·rw [hmeet h2 h1] at h;exact absurd h.1.1 (by simp)
   ·rw [hmeet h2 h1] at h;exact absurd h.2 (by simp)
  ·exact Hr l [] [] rfl (λ_ _ h=>h) i j (by simpa using h)
 have htr2:∀ j us,L[j]?=some us->(tr.getD j ([],[])).2=us.map Upd.part:=by
  intro j us hj;have h1:(tr.map (·.2))[j]?=some (us.map Upd.part):=by rw [b3,List.getElem?_map,hj];rfl
  rw [List.getElem?_map] at h1;cases ht:tr[j]? with
  | none=>rw [ht] at h1;cases h1
  | some p=>rw [ht] at h1;injection h1 with h1;rw [List.getD_eq_getElem?_getD,ht];exact h1
 have hlen:L.length=l.length:=b1;have key:∀ fuel (lst:Array Bool) (a:Act) (w:World),lst.size=l.length->Down lst->((List.range l.length).countP λi=> !lst.getD i true)=fuel->uw W0 M (sub (X lst) 0 L s) a w->wpAny P .any l.toArray (QK W0 M K) fuel lst a w:=by
  intro fuel;have hend:∀ (lst:Array Bool) (a:Act) (w:World),lst.size=l.length->(∀ i,i < l.length->X lst i=true)->uw W0 M (sub (X lst) 0 L s) a w->QK W0 M K .normal a w:=by
   intro lst a w _ hall hR;rw [ET (X lst) L 0 s (λj hj=>by rw [a3z];exact hall j (by omega))] at hR;exact⟨_,hR,hK⟩
  have hdef:∀ (lst:Array Bool) (i:Nat),lst.size=l.length->i < l.length->lst.getD i true=X lst i:=by
   intro lst i hs hi;simp only [X,Array.getD_eq_getD_getElem?];rw [Array.getElem?_eq_getElem (by omega)];rfl
  have hready:∀ (lst:Array Bool) (i:Nat),lst.size=l.length->i ∈ Region.ready .any l.toArray lst->∃ o,l[i]?=some o/\i < l.length/\X lst i=false/\∀ e ∈ Lp o,X lst e.on=true:=by
   intro lst i hs hi;simp only [Region.ready,List.mem_filter,List.mem_range,a4a,a24,a20] at hi;obtain⟨h1,h2,h3⟩:=hi;refine⟨l[i],List.getElem?_eq_getElem h1,h1,by rw [<-hdef lst i hs h1];exact h2,λe hm=>?_⟩;have hg:(l.toArray)[i]?=some l[i]:=by simp [h1]
   rw [hg] at h3;simp only [a3s,a3A] at h3;have h4:=(Array.all_eq_true_iff_forall_mem.1 h3) e (by have:=(List.mem_filter.1 hm).1;simpa using this);have h5:=(List.mem_filter.1 hm).2;simp only [h5,a3m,Bool.false_or] at h4;exact h4
  have hmin:∀ (lst:Array Bool),lst.size=l.length->Region.ready .any l.toArray lst=[]->∀ i,i < l.length->X lst i=true:=by
   intro lst hs hr i
   induction i using Nat.strongRecOn with
   | _ i ih=>
    intro hi;cases hx:X lst i with
    | true=>rfl
    | false=>
     exfalso;have:i ∈ Region.ready .any l.toArray lst:=by
      simp only [Region.ready,List.mem_filter,List.mem_range,a4a,a24,a20];refine⟨hi,by rw [hdef lst i hs hi];exact hx,?_⟩;have hg:(l.toArray)[i]?=some l[i]:=by simp [hi]
      rw [hg];simp only [a3s,a3A];refine Array.all_eq_true_iff_forall_mem.2 λe hm=>?_;cases hb:Region.binds .any e with
      | false=>rfl
      | true=>
       simp only [a3m,Bool.false_or];have hd':e ∈ Lp l[i]:=List.mem_filter.2 ⟨by simpa using hm,hb⟩;have hlt:=hedge' i _ (List.getElem?_eq_getElem hi) e hd';exact ih e.on hlt (by omega)
     rw [hr] at this;cases this
  induction fuel with
  | zero=>
   intro lst a w hs hD hc hR;have hall:∀ i,i < l.length->X lst i=true:=by
    intro i hi;rw [List.countP_eq_zero] at hc;have:=hc i (List.mem_range.2 hi);rw [hdef lst i hs hi] at this;simpa using this
   refine⟨?_,hend lst a w hs hall hR⟩;rw [List.eq_nil_iff_forall_not_mem];intro i hi;obtain⟨o,_,h1,h2,_⟩:=hready lst i hs hi;rw [hall i h1] at h2;cases h2
  | succ fuel ih=>
   intro lst a w hs hD hc hR;refine⟨λhr=>hend lst a w hs (hmin lst hs hr) hR,λi hi=>?_⟩;obtain⟨o,ho,hil,hxi,hdi⟩:=hready lst i hs hi;have hxset:∀ j,X (lst.setIfInBounds i true) j=if j=i then true else X lst j:=by
    intro j;simp only [X,Array.getD_eq_getD_getElem?,Array.getElem?_setIfInBounds];by_cases e:i=j
    ·subst e;rw [a28 rfl,a28 (by omega),a28 rfl];rfl
    ·rw [a25 e,a25 (λh=>e h.symm)]
   obtain⟨us,hus⟩:∃ us,L[i]?=some us:=⟨_,List.getElem?_eq_getElem (by omega)⟩;obtain⟨rs,hrs⟩:∃ rs,(tr.map (·.1))[i]?=some rs:=⟨_,List.getElem?_eq_getElem (by rw [a3d];omega)⟩;obtain⟨c1,c2⟩:=b5 i o us rs ho hus hrs;have htr1:(tr.getD i ([],[])).1=rs:=by
    rw [List.getElem?_map] at hrs;cases ht:tr[i]? with
    | none=>rw [ht] at hrs;cases hrs
    | some p=>rw [ht] at hrs;injection hrs with hrs;rw [List.getD_eq_getElem?_getD,ht];exact hrs
   have hlt:∀ {j:Nat} {vs:List Upd},L[j]?=some vs->j < l.length:=by
    intro j vs hj;rcases a3O j L.length with h | h
    ·omega
    ·rw [List.getElem?_eq_none h] at hj;cases hj
   have hwp:(opD T cq l o).wp (sub (X lst) 0 L s) (· =us):=by
    refine Q.wp_same c1 λc hc'=>?_;have hcr:=c2 c hc';refine wS _ _ L 0 s s (uH s c) λj vs hj hcv=>?_;rw [a3z];have hw2:c ∈ (tr.getD j ([],[])).2:=by rw [htr2 j vs hj];exact hcv
    rcases a4Z j i with h | h | h
    ·have:=hclash i j h hil c (.inl ⟨by rw [htr1];exact hcr,hw2⟩);rw [hdown lst hD i o ho hdi j this];simp [h]
    ·subst h;rw [hxi];simp
    ·have:=hclash j i h (hlt hj) c (.inr (.inl ⟨hw2,by rw [htr1];exact hcr⟩));cases hxj:X lst j with
     | false=>simp;omega
     | true=>
      obtain⟨o2,ho2⟩:∃ o2,l[j]?=some o2:=⟨_,List.getElem?_eq_getElem (hlt hj)⟩;have:=hdown lst hD j o2 ho2 (hD j o2 ho2 hxj) i this;rw [hxi] at this;cases this
   have hstate:(sub (X lst) 0 L s).app us=sub (X (lst.setIfInBounds i true)) 0 L s:=by
    refine Xj (by rw [Md,Qq,Qq]) λc=>?_;have hsplit:L=L.take i ++ (us :: L.drop (i + 1)):=by
     rw [List.getElem?_eq_getElem (by omega)] at hus;injection hus with hus;rw [<-hus,List.getElem_cons_drop,a3q]
    by_cases hcu:c ∈ us.map Upd.part
    ·have e1:sub (X (lst.setIfInBounds i true)) 0 L s=sub (X (lst.setIfInBounds i true)) (i + 1) (L.drop (i + 1)) ((sub (X (lst.setIfInBounds i true)) 0 (L.take i) s).app us):=by
      conv=>lhs;rw [hsplit]
      rw [uJ];simp only [sub];have:0 + (L.take i).length=i:=by rw [a26];omega
      rw [this,hxset i,a28 rfl];rfl
     rw [e1];refine pn (Hs us _ (sub (X (lst.setIfInBounds i true)) 0 (L.take i) s) hcu) (CZ ?_);have hno:=wS (c:=c) (X (lst.setIfInBounds i true)) (λ_=>false) (L.drop (i + 1)) (i + 1) ((sub (X (lst.setIfInBounds i true)) 0 (L.take i) s).app us) _ (uH _ c) (λj vs hj hcv=>by
      rw [List.getElem?_drop] at hj;rw [hxset,a25 (by omega)];cases hxj:X lst (i + 1 + j) with
      | false=>rfl
      | true=>
       exfalso;have:=hclash (i + 1 + j) i (by omega) (hlt hj) c (.inr (.inr ⟨by rw [htr2 _ vs hj];exact hcv,by rw [htr2 i us hus];exact hcu⟩));obtain⟨o2,ho2⟩:∃ o2,l[i + 1 + j]?=some o2:=⟨_,List.getElem?_eq_getElem (hlt hj)⟩;have:=hdown lst hD _ o2 ho2 (hD _ o2 ho2 hxj) i this;rw [hxi] at this;cases this)
     rw [wT (λ_=>false) _ _ _ (λ_ _=>rfl)] at hno;exact hno
    ·refine pn (uI us _ hcu) ?_;refine wS _ _ L 0 s s (uH s c) λj vs hj hcv=>?_;rw [a3z,hxset];by_cases e:j=i
     ·subst e;rw [hus] at hj;injection hj with hj;subst hj;exact(hcu hcv).elim
     ·rw [a25 e]
   have hdo:∀ d,o.dst=some d->d < (sub (X lst) 0 L s).n:=by
    intro d e;rw [Qq];have:=List.all_eq_true.1 hd o (List.mem_of_getElem? ho);unfold CY at this;rw [e] at this;exact a23 this
   have hD':Down (lst.setIfInBounds i true):=by
    intro j oj hoj hxj e hm;rw [hxset] at hxj ⊢;split
    ·rfl
    ·by_cases ej:j=i
     ·subst ej;rw [ho] at hoj;injection hoj with hoj;subst hoj;exact hdi e hm
     ·rw [a25 ej] at hxj;exact hD j oj hoj hxj e hm
   have hcount:((List.range l.length).countP λj=> !(lst.setIfInBounds i true).getD j true)=fuel:=by
    have h1:∀ (r:List Nat),r.Nodup->(∀ j ∈ r,j < l.length)->i ∈ r->(r.countP λj=> !(lst.setIfInBounds i true).getD j true) + 1=r.countP λj=> !lst.getD j true:=by
     intro r
     induction r with
     | nil=>intro _ _ h;cases h
     | cons x r ihr=>
      intro hnd hb hmem;rw [a30] at hnd;have hxl:=hb x (by simp);have hsz':(lst.setIfInBounds i true).size=l.length:=by simpa using hs
      rw [List.countP_cons,List.countP_cons];by_cases e:x=i
      ·subst e;have h2:(r.countP λj=> !(lst.setIfInBounds x true).getD j true)=r.countP λj=> !lst.getD j true:=by
        apply List.countP_congr;intro j hj;have hjl:=hb j (by simp [hj]);rw [hdef _ j hsz' hjl,hdef lst j hs hjl,hxset,a25 (λ(e:j=x)=>hnd.1 (e ▸ hj))]
       rw [h2,hdef _ x hsz' hxl,hdef lst x hs hxl,hxset,a28 rfl,hxi];simp
      ·have hmem':i ∈ r:=by
        rcases List.mem_cons.1 hmem with h | h
        ·exact(e h.symm).elim
        ·exact h
       have:=ihr hnd.2 (λj hj=>hb j (by simp [hj])) hmem';rw [hdef _ x hsz' hxl,hdef lst x hs hxl,hxset,a25 e];omega
    have:=h1 (List.range l.length) List.nodup_range (λj hj=>List.mem_range.1 hj) (List.mem_range.2 hil);omega
   have hfin:=Mc (P:=P) hT hcq (ops:=l.toArray) rfl (Q':=QK W0 M K) hdo hR hwp;unfold wpOp;have hg:(l.toArray)[i]?=some o:=by simpa using ho
   rw [hg];simp only;split
   ·rename_i hw;rw [a28 hw] at hfin;refine .inl (Oper.wp_mono (λa' w'=>?_) hfin);rintro⟨us',rfl,hr⟩;rw [hstate] at hr;exact ih _ a' w' (by simpa using hs) hD' hcount hr
   ·rename_i hw;rw [a25 hw] at hfin;obtain⟨us',rfl,hr⟩:=hfin;rw [hstate] at hr;exact ih _ _ w (by simpa using hs) hD' hcount hr
 have hX0:∀ j,X (Array.replicate l.length false) j=false:=by
  intro j;simp only [X,Array.getD_eq_getD_getElem?,Array.getElem?_replicate];split <;> rfl
 refine wp_region_any hm ?_;rw [a4a];refine key l.length _ a0 _ (by simp) (λi o _ hx=>by rw [hX0] at hx;cases hx) ?_ ?_
 ·rw [List.countP_eq_length.2 (λj hj=>by simp [Array.getD_eq_getD_getElem?,List.mem_range.1 hj])];simp
 ·rw [wT _ L 0 s (λj _=>by rw [a3z];exact hX0 j)];exact hR0'
end
inductive OC where
 | d (x:DV)
 | row (sz:Nat) (e:TypeId) (es:List (List DV))
 | box (cs:List OC)
 | e (cs:List DV)
inductive OA where
 | c (x:OC)
 | agg (xs:List OC)
 | bx (cs:List OC)
 | rx (sz:Nat) (e:TypeId) (es:List (List DV))
mutual
def OCr (I:Nat->Nat->Prop) (w:World):OC->Value->List Nat->Prop
 | .d x,v,F=>F=[]/\DVr I w x v
 | .row sz e es,v,F=>∃ ex,jb I w v ⟨es,sz,e,false⟩/\F=(obk v).toList ++ (if kQ e then ex else [])/\(∀ g o,obk v=some g->¬ I g o)/\(kQ e->rk w v ex ⟨es,sz,e,false⟩/\∀ b ∈ ex,∀ o,¬ I b o)
 | .e cs,v,F=>F=[]/\∃ ad xs,v= .pointer (some ad)/\aU I w cs xs/\∀ j u,xs[j]?=some u->w.cell? (ad.add j)=some u/\I ad.block (ad.off + j)
 | .box cs,v,F=>∃ g cur ty Fs,v= .pointer (some ⟨g,0,none⟩)/\w.heap[g]?=some (.cells cur ty (0,0))/\OCs I w cs cur.toList Fs/\F=g :: Fs/\∀ o,¬ I g o
def OCs (I:Nat->Nat->Prop) (w:World):List OC->List Value->List Nat->Prop
 | [],xs,F=>xs=[]/\F=[]
 | c :: cs,xs,F=>∃ x r F1 F2,xs=x :: r/\OCr I w c x F1/\OCs I w cs r F2/\F=F1 ++ F2
end
def OAr (I:Nat->Nat->Prop) (w:World):OA->Value->List Nat->Prop
 | .c x,v,F=>OCr I w x v F
 | .agg xs,v,F=>∃ vs,v= .agg vs/\OCs I w xs vs.toList F
 | .bx cs,v,F=>OCr I w (.box cs) v F
 | .rx sz e es,v,F=>OCr I w (.row sz e es) v F
def OAs (I:Nat->Nat->Prop) (w:World):List OA->List Value->List Nat->Prop
 | [],xs,F=>xs=[]/\F=[]
 | c :: cs,xs,F=>∃ x r F1 F2,xs=x :: r/\OAr I w c x F1/\OAs I w cs r F2/\F=F1 ++ F2
theorem OCr.one {I:Nat->Nat->Prop} {w:World} {c:OC} {v:Value} {F:List Nat} (h:OCr I w c v F):v.oneCell'=true:=by
 cases c <;> simp only [OCr] at h
 case d=>exact h.2.one
 case row=>obtain⟨ex,h,_⟩:=h;exact h.one
 case box=>obtain⟨g,cur,ty,Fs,rfl,_⟩:=h;rfl
 case e=>obtain⟨_,ad,xs,rfl,_⟩:=h;rfl
structure Mk where
 ac:AC
 us:List Upd
 m:Nat
structure Mks where
 acs:List AC
 us:List Upd
 m:Nat
mutual
def mkC (n:Nat):OC->Q Mk
 | .d x=> .ret ⟨.d x,[],n⟩
 | .e cs=> .ret ⟨.eptr cs,[],n⟩
 | .row sz e es=> .req (e < pi) <| .rdR n λr=> .ret ⟨.row n (r.ver + 1),[.r n ⟨r.ver + 1,some ⟨es,sz,e,false⟩⟩],n + 1⟩
 | .box cs=> .rdB n λb=>(zT (n + 1) cs).bind λk=> .ret ⟨.ptr n (b.ver + 1) 0,k.us ++ [.b n ⟨b.ver + 1,some k.acs⟩],k.m⟩
def zT (n:Nat):List OC->Q Mks
 | []=> .ret ⟨[],[],n⟩
 | c :: cs=>(mkC n c).bind λk=>(zT k.m cs).bind λks=> .ret ⟨k.ac :: ks.acs,k.us ++ ks.us,ks.m⟩
end
def eM (n:Nat) (s0 s:St):Prop:=∀ k,n<=k->(s.b k).ver=(s0.b k).ver/\(s.r k).ver=(s0.r k).ver
theorem eM.le {n m:Nat} {s0 s:St} (h:eM n s0 s) (hm:n<=m):eM m s0 s:=λk hk=>h k (a3w hm hk)
structure Qr (W0:World) (M:Own) (G:Gh) (s0 s:St) (w:World) (n:Nat) (us:List Upd) (m:Nat) (F:List Nat) (G':Gh):Prop where
 mem:Mem W0 M G' (s.app us) w
 ext:Ext G s w G' (s.app us) w
 I:G'.I=G.I
 le:n<=m
 ver:eM m s0 (s.app us)
 own:∀ x b,b ∈ own G' (s.app us) x->b ∈ own G s x\/b ∈ F
 n_:(s.app us).n=s.n
 t:(s.app us).t=s.t
 old:∀ k,(k < n\/m<=k)->(s.app us).b k=s.b k/\(s.app us).r k=s.r k/\G'.bx k=G.bx k/\G'.rw k=G.rw k/\G'.ex k=G.ex k
section
variable {W0:World} {M:Own} {w:World} {s0:St}
theorem Qr.trans {G G1 G2:Gh} {s:St} {n m k:Nat} {us vs:List Upd} {F1 F2:List Nat} (h:Qr W0 M G s0 s w n us m F1 G1) (j:Qr W0 M G1 s0 (s.app us) w m vs k F2 G2):Qr W0 M G s0 s w n (us ++ vs) k (F1 ++ F2) G2:=by
 refine⟨by rw [St.app_append];exact j.mem,by rw [St.app_append];exact h.ext.trans j.ext,j.I.trans h.I,a3w h.le j.le,by rw [St.app_append];exact j.ver,λx b hx=>?_,by rw [St.app_append];exact j.n_.trans h.n_,by rw [St.app_append];exact j.t.trans h.t,λi hi=>?_⟩
 ·rw [St.app_append] at hx;rcases j.own x b hx with h1 | h1
  ·rcases h.own x b h1 with h2 | h2
   ·exact .inl h2
   ·exact .inr (by simp [h2])
  ·exact .inr (by simp [h1])
 ·rw [St.app_append];obtain⟨a1,a2,a3,a4,a5⟩:=h.old i (hi.imp id (a3w j.le));obtain⟨b1,b2,b3,b4,b5⟩:=j.old i (hi.imp (λh0=>a3U h0 h.le) id);exact⟨b1.trans a1,b2.trans a2,b3.trans a3,b4.trans a4,b5.trans a5⟩
def Lq (W0:World) (M:Own) (G:Gh) (s:St) (F:List Nat):Prop:=∀ b ∈ F,(∀ x,b ∉ own G s x)/\(W0.heap.size<=b\/M b)
theorem Lq.after {G G1:Gh} {s:St} {n m:Nat} {us:List Upd} {F1 F2:List Nat} (hf:Lq W0 M G s F2) (hd:∀ b ∈ F1,b ∉ F2) (h:Qr W0 M G s0 s w n us m F1 G1):Lq W0 M G1 (s.app us) F2:=λb hb=>by
 refine⟨λx hx=>?_,(hf b hb).2⟩;rcases h.own x b hx with h1 | h1
 ·exact(hf b hb).1 x h1
 ·exact hd b h1 hb
theorem wU (s:St) (k:Nat) (x:BS):s.app [.b k x]=s.setB k x:=rfl
theorem wV (s:St) (k:Nat) (x:RS):s.app [.r k x]=s.setR k x:=rfl
mutual
theorem Hu:∀ (c:OC) {n:Nat} {s:St} {G:Gh} {v:Value} {F:List Nat} {K:Mk->Prop},(mkC n c).wp s0 K->Mem W0 M G s w->OCr G.I w c v F->F.Nodup->Lq W0 M G s F->eM n s0 s->
  ∃ k G',K k/\Qr W0 M G s0 s w n k.us k.m F G'/\ACr G' (s.app k.us) w k.ac v
 | .d x,n,s,G,v,F,K,hq,hm,hc,hn,hf,hv=>by
  simp only [OCr] at hc;obtain⟨rfl,hd⟩:=hc;exact⟨_,G,hq,⟨hm,Ext.refl _ _ _,rfl,a3j _,hv,λx b h=> .inl h,rfl,rfl,λk _=>⟨rfl,rfl,rfl,rfl,rfl⟩⟩,by simpa only [ACr] using hd⟩
 | .e cs,n,s,G,v,F,K,hq,hm,hc,hn,hf,hv=>by
  simp only [OCr] at hc;obtain⟨rfl,hd⟩:=hc;exact⟨_,G,hq,⟨hm,Ext.refl _ _ _,rfl,a3j _,hv,λx b h=> .inl h,rfl,rfl,λk _=>⟨rfl,rfl,rfl,rfl,rfl⟩⟩,by simpa only [ACr] using hd⟩
 | .row sz e es,n,s,G,v,F,K,hq,hm,hc,hn,hf,hv=>by
  simp only [OCr] at hc;obtain⟨ex,hrow,rfl,hI,hsx⟩:=hc;simp only [mkC,Q.wp] at hq;obtain⟨hpf,hq⟩:=hq;have hver:=(hv n (a3j _)).2;obtain⟨m1,x1⟩:=hm.addRowX n ((s0.r n).ver + 1) v ⟨es,sz,e,false⟩ (by rw [hver];omega) hrow (λx b hb hx=>(hf b (by simp [hb])).1 x hx) (λg hg o hi=>(hI g o hg hi).elim) (λg hg=>(hf g (by simp [hg])).2) hpf (ex:=upd G.ex n ex) (λk hk=>by simp [upd,hk])
   (λhe=>by
    simp only [upd,a3H];exact⟨(hsx he).1,λb hb=>⟨λx hx=>(hf b (by simp [he,hb])).1 x hx,(hsx he).2 b hb,(hf b (by simp [he,hb])).2⟩⟩)
  refine⟨_,_,hq,⟨m1,x1,rfl,Nat.le_succ _,λk hk=>?_,λx b hx=>?_,rfl,rfl,λk hk=>?_⟩,?_⟩
  ·have hk':n + 1<=k:=hk;have:=hv k (by omega);simp only [wV,St.setR,upd];rw [a25 (by omega)];exact this
  ·rcases x with k | k
   ·exact .inl hx
   ·simp only [wV] at hx;by_cases e:k=n
    ·subst e;simp only [Am.own,St.setR,upd,a3H] at hx;exact .inr hx
    ·left;simpa [Am.own,St.setR,upd,e] using hx
  ·simp only [wV,St.setR,upd];have hne:k ≠ n:=by simp only at hk;omega
   simp [hne]
  ·simp only [ACr,wV,St.setR,upd,a3H];exact⟨hrow.one,a3j _,λ_ _=>trivial⟩
 | .box cs,n,s,G,v,F,K,hq,hm,hc,hn,hf,hv=>by
  simp only [OCr] at hc;obtain⟨g,cur,ty,Fs,rfl,hh,hcs,rfl,hI⟩:=hc;simp only [mkC,Q.wp] at hq;rw [Q.wp_bind] at hq;rw [a30] at hn;obtain⟨k,G1,hq,h1,h2⟩:=Bl cs hq hm hcs hn.2 (λb hb=>hf b (by simp [hb])) (hv.le (Nat.le_succ n));have hver:=(hv n (a3j _)).1;have hbn:((s.app k.us).b n).ver=(s0.b n).ver:=by rw [(h1.old n (.inl (a4o n))).1];exact hver
  obtain⟨m1,x1⟩:=h1.mem.addBox n ((s0.b n).ver + 1) g k.acs (by rw [hbn];omega) ⟨cur,ty,hh,h2⟩ (λx hx=>by
   rcases h1.own x g hx with h | h
   ·exact(hf g (by simp)).1 x h
   ·exact hn.1 h) (by rw [h1.I];exact hI) (hf g (by simp)).2
  refine⟨_,⟨G1.I,upd G1.bx n g,G1.rw,G1.st,G1.ex⟩,hq,⟨by rw [St.app_append];exact m1,by rw [St.app_append];exact h1.ext.trans x1,h1.I,a3w (Nat.le_succ n) h1.le,λj hj=>?_,λx b hx=>?_,by rw [St.app_append];exact h1.n_,by rw [St.app_append];exact h1.t,λj hj=>?_⟩,?_⟩
  ·have:=h1.ver j hj;have hle:=h1.le;rw [St.app_append];simp only [wU,St.setB,upd];rw [a25 (by have:n + 1<=j:=a3w hle hj;omega)];exact this
  ·rw [St.app_append] at hx;rcases x with j | j
   ·simp only [wU] at hx;by_cases e:j=n
    ·subst e;simp only [Am.own,St.setB,upd,a3H,a5o,a3o] at hx;exact .inr (by simp [hx])
    ·have hx':b ∈ Am.own G1 (s.app k.us) (.inl j):=by simpa [Am.own,St.setB,upd,e] using hx
     rcases h1.own _ _ hx' with h | h
     ·exact .inl h
     ·exact .inr (by simp [h])
   ·have hx':b ∈ Am.own G1 (s.app k.us) (.inr j):=hx;rcases h1.own _ _ hx' with h | h
    ·exact .inl h
    ·exact .inr (by simp [h])
  ·rw [St.app_append];obtain⟨a1,a2,a3,a4,a5⟩:=h1.old j (hj.imp Nat.lt_succ_of_lt id);simp only [wU,St.setB,upd];have hne:j ≠ n:=by have:=h1.le;simp only at hj;omega
   simp only [hne,a3y];exact⟨a1,a2,a3,a4,a5⟩
  ·rw [St.app_append];simp only [ACr,wU,St.setB,upd,a3H];exact⟨rfl,a3j _,λ_ _=>trivial⟩
theorem Bl:∀ (cs:List OC) {n:Nat} {s:St} {G:Gh} {vs:List Value} {F:List Nat} {K:Mks->Prop},(zT n cs).wp s0 K->Mem W0 M G s w->OCs G.I w cs vs F->F.Nodup->Lq W0 M G s F->eM n s0 s->
  ∃ k G',K k/\Qr W0 M G s0 s w n k.us k.m F G'/\ACs G' (s.app k.us) w k.acs vs
 | [],n,s,G,vs,F,K,hq,hm,hc,hn,hf,hv=>by
  simp only [OCs] at hc;obtain⟨rfl,rfl⟩:=hc;exact⟨_,G,hq,⟨hm,Ext.refl _ _ _,rfl,a3j _,hv,λx b h=> .inl h,rfl,rfl,λk _=>⟨rfl,rfl,rfl,rfl,rfl⟩⟩,by simp [ACs]⟩
 | c :: cs,n,s,G,vs,F,K,hq,hm,hc,hn,hf,hv=>by
  simp only [OCs] at hc;obtain⟨x,r,F1,F2,rfl,h1,h2,rfl⟩:=hc;simp only [zT,Q.wp_bind] at hq;rw [a32] at hn;obtain⟨k,G1,hq,j1,j2⟩:=Hu c hq hm h1 hn.1 (λb hb=>hf b (by simp [hb])) hv;have hf2:Lq W0 M G1 (s.app k.us) F2:=Lq.after (F1:=F1) (λb hb=>hf b (by simp [hb])) (λb hb1 hb2=>hn.2.2 b hb1 b hb2 rfl) j1;obtain⟨ks,G2,hq,j3,j4⟩:=Bl cs hq j1.mem (by rw [j1.I];exact h2) hn.2.1 hf2 j1.ver;refine⟨_,G2,hq,j1.trans j3,?_⟩;rw [St.app_append];simp only [ACs];exact⟨x,r,rfl,j3.ext.ac j2,j4⟩
end
end
inductive CSh where
 | D
 | R (sz:Nat) (e:TypeId)
 | B (cs:List CSh)
 | E
inductive ASh where
 | c (s:CSh)
 | agg (ss:List CSh)
 | bx (ss:List CSh)
 | rx (sz:Nat) (e:TypeId)
structure Tk where
 oc:OC
 fz:List Nat
 ids:List (Nat ⊕ Nat)
structure Tks where
 ocs:List OC
 fz:List Nat
 ids:List (Nat ⊕ Nat)
mutual
def xP:CSh->AC->Q Tk
 | .D,ac=>(toD ac).bind λd=> .ret ⟨.d d.1,d.2,[]⟩
 | .R sz e,.row id ver=> .rdR id λr=>match r.c with
  | some R=> .req (ver=r.ver/\R.sz=sz/\R.e=e/\R.fr=false) (.ret ⟨.row sz e R.es,[],[.inr id]⟩)
  | none=> .fail
 | .R sz e,.nil=> .req (0 < sz/\e < ja) (.ret ⟨.row sz e [],[],[]⟩)
 | .R _ _,_=> .fail
 | .E,.eptr cs=> .ret ⟨.e cs,[],[]⟩
 | .E,_=> .fail
 | .B cs,.ptr id ver off=> .rdB id λb=>match b.c with
  | some acs=>(fG cs acs).bind λk=> .req (ver=b.ver/\off=0) (.ret ⟨.box k.ocs,k.fz,.inl id :: k.ids⟩)
  | none=> .fail
 | .B _,_=> .fail
def fG:List CSh->List AC->Q Tks
 | [],[]=> .ret ⟨[],[],[]⟩
 | s :: ss,c :: cs=>(xP s c).bind λk=>(fG ss cs).bind λks=> .ret ⟨k.oc :: ks.ocs,k.fz ++ ks.fz,k.ids ++ ks.ids⟩
 | _,_=> .fail
end
structure Ta where
 oa:OA
 fz:List Nat
 ids:List (Nat ⊕ Nat)
 tops:List (Nat ⊕ Nat)
structure Tas where
 xs:List OA
 fz:List Nat
 ids:List (Nat ⊕ Nat)
 tops:List (Nat ⊕ Nat)
def Qs:ASh->AV->Q Ta
 | .c s,.c ac=>(xP s ac).bind λk=> .ret ⟨.c k.oc,k.fz,k.ids,[]⟩
 | .agg ss,.agg acs=>(fG ss acs).bind λk=> .ret ⟨.agg k.ocs,k.fz,k.ids,[]⟩
 | .bx ss,.c (.ptr id ver off)=> .rdB id λb=>match b.c with
  | some acs=>(fG ss acs).bind λk=> .req (ver=b.ver/\off=0) (.ret ⟨.bx k.ocs,k.fz,k.ids,[.inl id]⟩)
  | none=> .fail
 | .rx sz e,.c (.row id ver)=> .rdR id λr=>match r.c with
  | some R=> .req (ver=r.ver/\R.sz=sz/\R.e=e/\R.fr=false/\e < ja) (.ret ⟨.rx sz e R.es,[],[],[.inr id]⟩)
  | none=> .fail
 | .bx _,.c (.d (.v (.pointer none)))=> .ret ⟨.c (.d (.v (.pointer none))),[],[],[]⟩
 | _,_=> .fail
def xQ:List ASh->List AV->Q Tas
 | [],[]=> .ret ⟨[],[],[],[]⟩
 | s :: ss,c :: cs=>(Qs s c).bind λk=>(xQ ss cs).bind λks=> .ret ⟨k.oa :: ks.xs,k.fz ++ ks.fz,k.ids ++ ks.ids,k.tops ++ ks.tops⟩
 | _,_=> .fail
section
variable {W0:World} {M:Own} {G:Gh} {s:St} {w:World}
structure Bm (G:Gh) (s:St) (w:World) (I':Nat->Nat->Prop) (fz:List Nat) (ids:List (Nat ⊕ Nat)):Prop where
 I:∀ b o,G.I b o->I' b o
 fz:∀ id ∈ fz,∀ R,(s.r id).c=some R->DVr I' w (.sl R.es) (G.rw id)
 no:∀ x ∈ ids,∀ g,g ∈ own G s x->∀ o,¬ I' g o
theorem Bm.sub {I':Nat->Nat->Prop} {fz fz':List Nat} {ids ids':List (Nat ⊕ Nat)} (h:Bm G s w I' fz ids) (h1:∀ x ∈ fz',x ∈ fz) (h2:∀ x ∈ ids',x ∈ ids):Bm G s w I' fz' ids':=
 ⟨h.I,λid hm=>h.fz id (h1 id hm),λx hm=>h.no x (h2 x hm)⟩
def live (s:St):Nat ⊕ Nat->Prop
 | .inl id=>(s.b id).c.isSome=true
 | .inr id=>∃ R,(s.r id).c=some R/\R.fr=false
mutual
theorem Hv (h:Mem W0 M G s w):∀ (sh:CSh) {ac:AC} {v:Value} {K:Tk->Prop},ACr G s w ac v->(xP sh ac).wp s K->∃ k,K k/\(∀ x ∈ k.ids,live s x)/\∀ I',Bm G s w I' k.fz k.ids->OCr I' w k.oc v (k.ids.flatMap (own G s))
 | .D,ac,v,K,hx,hq=>by
  simp only [xP,Q.wp_bind,Q.wp] at hq;obtain⟨d,hq,_,hd⟩:=zO hx hq;exact⟨_,hq,by simp,λI' hf=>by simp only [OCr];exact⟨rfl,hd I' hf.I hf.fz⟩⟩
 | .E,ac,v,K,hx,hq=>by
  cases ac <;> simp only [xP,Q.wp] at hq <;> (try exact hq.elim)
  case eptr cs=>
   simp only [ACr] at hx;obtain⟨ad,xs,h1,h2,h3⟩:=hx;refine⟨_,hq,by simp,λI' hf=>?_⟩;simp only [OCr];exact⟨rfl,ad,xs,h1,aU.mono hf.I (ol.refl _ _) _ h2,λj u hu=>⟨(h3 j u hu).1,hf.I _ _ (h3 j u hu).2⟩⟩
 | .R sz e,ac,v,K,hx,hq=>by
  cases ac <;> simp only [xP,Q.wp] at hq <;> (try exact hq.elim)
  case nil=>
   simp only [ACr] at hx;subst hx;refine⟨_,hq.2,by simp,λI' hf=>?_⟩;simp only [OCr];exact⟨[],⟨hq.1.1,by simp,.inl ⟨hq.1.2,[],World.ownsRow_nil w 0 e sz,by simp [U3]⟩⟩,by simp [obk],λg o hg=>(by cases hg),λk=>absurd k (eZ hq.1.2)⟩
  case row id ver=>
   split at hq
   ·rename_i R hR;obtain⟨⟨h1,h2,h3,h4⟩,hq⟩:=hq;simp only [ACr] at hx;obtain rfl:=hx.2.2 h1 (by rw [hR];rfl);refine⟨_,hq,λx hm=>by simp at hm;subst hm;exact⟨R,hR,h4⟩,λI' hf=>?_⟩;have q:=(h.rw id R hR).mono hf.I;simp only [OCr];obtain⟨Re,Rz,Rt,Rf⟩:=R;simp only at h2 h3 h4;subst h2;subst h3;subst h4;exact⟨G.ex id,q,by simp [own,hR],λg o hg=>hf.no (.inr id) (by simp) g (nT hR hg) o,λhe=>⟨(h.sx id _ hR he).1,λb hb=>hf.no (.inr id) (by simp) b (uA hR he hb)⟩⟩
   ·exact hq.elim
 | .B cs,ac,v,K,hx,hq=>by
  cases ac <;> simp only [xP,Q.wp] at hq <;> (try exact hq.elim)
  case ptr id ver off=>
   split at hq
   ·rename_i acs hc;rw [Q.wp_bind] at hq;obtain⟨cur,ty,hh,hac⟩:=h.bx id acs hc;obtain⟨k,hk0,hl,hk⟩:=uK h cs hac hq;clear hq;obtain⟨⟨h1,h2⟩,hq⟩:=hk0;simp only [ACr] at hx;obtain rfl:=hx.2.2 h1 (by rw [hc];rfl);rw [h2];have hown:own G s (.inl id)=[G.bx id]:=by simp [own,hc]
    refine⟨_,hq,λx hm=>by
     rcases List.mem_cons.1 hm with rfl | hm
     ·simp [live,hc]
     ·exact hl x hm,λI' hf=>?_⟩
    simp only [OCr];refine⟨G.bx id,cur,ty,_,rfl,hh,hk I' (hf.sub (λ_ h=>h) (λx hm=>by simp [hm])),?_,λo=>hf.no (.inl id) (by simp) _ (by rw [hown];simp) o⟩;rw [a3C,hown];rfl
   ·exact hq.elim
theorem uK (h:Mem W0 M G s w):∀ (shs:List CSh) {acs:List AC} {vs:List Value} {K:Tks->Prop},ACs G s w acs vs->(fG shs acs).wp s K->∃ k,K k/\(∀ x ∈ k.ids,live s x)/\∀ I',Bm G s w I' k.fz k.ids->OCs I' w k.ocs vs (k.ids.flatMap (own G s))
 | [],acs,vs,K,hx,hq=>by
  cases acs with
  | nil=>
   simp only [ACs] at hx;subst hx;exact⟨_,hq,by simp,λI' hf=>by simp [OCs]⟩
  | cons c cs=>exact hq.elim
 | sh :: shs,acs,vs,K,hx,hq=>by
  cases acs with
  | nil=>exact hq.elim
  | cons c cs=>
   simp only [ACs] at hx;obtain⟨v,r,rfl,h1,h2⟩:=hx;simp only [fG,Q.wp_bind,Q.wp] at hq;obtain⟨k,hq,hl,hk⟩:=Hv h sh h1 hq;obtain⟨ks,hq,hls,hks⟩:=uK h shs h2 hq;refine⟨_,hq,λx hm=>by
    rcases List.mem_append.1 hm with hm | hm
    ·exact hl x hm
    ·exact hls x hm,λI' hf=>?_⟩
   simp only [OCs];exact⟨v,r,_,_,rfl,hk I' (hf.sub (λx hm=>by simp [hm]) (λx hm=>by simp [hm])),hks I' (hf.sub (λx hm=>by simp [hm]) (λx hm=>by simp [hm])),a4F⟩
end
def Xk (s:St):Nat ⊕ Nat->Prop
 | .inl _=>True
 | .inr id=>∃ R,(s.r id).c=some R/\R.e < ja
def kw (G:Gh):Nat ⊕ Nat->Value
 | .inl t=> .pointer (some ⟨G.bx t,0,none⟩)
 | .inr t=>G.rw t
theorem Qt (h:Mem W0 M G s w) {sh:ASh} {x:AV} {v:Value} {K:Ta->Prop} (hx:AVr G s w x v) (hq:(Qs sh x).wp s K) :
  ∃ k,K k/\(∀ x ∈ k.ids,live s x)/\(∀ x ∈ k.tops,live s x/\Xk s x)/\(∀ I',Bm G s w I' k.fz (k.tops ++ k.ids)->OAr I' w k.oa v ((k.tops ++ k.ids).flatMap (own G s)))/\
   ((k.tops=[]/\(∀ cs,k.oa ≠ .bx cs)/\∀ a b c,k.oa ≠ .rx a b c)\/(∃ id cs,k.tops=[.inl id]/\k.oa= .bx cs/\v=kw G (.inl id))\/∃ id a b c,k.tops=[.inr id]/\k.oa= .rx a b c/\v=kw G (.inr id)):=by
 unfold Qs at hq;split at hq
 ·simp only [Q.wp_bind,Q.wp] at hq;obtain⟨k,hq,hl,hk⟩:=Hv h _ (I7 hx) hq;exact⟨_,hq,hl,by simp,λI' hf=>by simpa [OAr] using hk I' (by simpa using hf),.inl ⟨rfl,by simp,by simp⟩⟩
 ·simp only [Q.wp_bind,Q.wp] at hq;simp only [AVr] at hx;obtain⟨vs,rfl,hx⟩:=hx;obtain⟨k,hq,hl,hk⟩:=uK h _ hx hq;exact⟨_,hq,hl,by simp,λI' hf=>by simp only [OAr];exact⟨vs,rfl,by simpa using hk I' (by simpa using hf)⟩,.inl ⟨rfl,by simp,by simp⟩⟩
 ·rename_i ss id ver off;simp only [Q.wp] at hq;split at hq
  ·rename_i acs hc;rw [Q.wp_bind] at hq;obtain⟨cur,ty,hh,hac⟩:=h.bx id acs hc;obtain⟨k,hk0,hl,hk⟩:=uK h ss hac hq;clear hq;obtain⟨⟨h1,h2⟩,hq⟩:=hk0;have hx':=I7 hx;simp only [ACr] at hx';obtain rfl:=hx'.2.2 h1 (by rw [hc];rfl);rw [h2];have hown:own G s (.inl id)=[G.bx id]:=by simp [own,hc]
   refine⟨_,hq,hl,λi hi=>by simp at hi;subst hi;simp [live,Xk,hc],λI' hf=>?_,.inr (.inl ⟨id,_,rfl,rfl,rfl⟩)⟩;simp only [OAr,OCr];refine⟨G.bx id,cur,ty,_,rfl,hh,hk I' (hf.sub (λ_ h=>h) (λx hm=>by simp [hm])),?_,λo=>hf.no (.inl id) (by simp) _ (by rw [hown];simp) o⟩;simp [hown]
  ·exact hq.elim
 ·rename_i sz e id ver;simp only [Q.wp] at hq;split at hq
  ·rename_i R hR;obtain⟨⟨h1,h2,h3,h4,h5⟩,hq⟩:=hq;have hx':=I7 hx;simp only [ACr] at hx';obtain rfl:=hx'.2.2 h1 (by rw [hR];rfl);refine⟨_,hq,by simp,λx hm=>by simp at hm;subst hm;exact⟨⟨R,hR,h4⟩,R,hR,by rw [h3];exact h5⟩,λI' hf=>?_,.inr (.inr ⟨id,_,_,_,rfl,rfl,rfl⟩)⟩;have q:=(h.rw id R hR).mono hf.I;simp only [OAr,OCr];obtain⟨Re,Rz,Rt,Rf⟩:=R;simp only at h2 h3 h4;subst h2;subst h3;subst h4;exact⟨G.ex id,q,by simp [own,hR],λg o hg=>hf.no (.inr id) (by simp) g (nT hR hg) o,λhe=>⟨(h.sx id _ hR he).1,λb hb=>hf.no (.inr id) (by simp) b (uA hR he hb)⟩⟩
  ·exact hq.elim
 ·have hx':=I7 hx;simp only [ACr,DVr] at hx';exact⟨_,hq,by simp,by simp,λI' hf=>by simp [OAr,OCr,DVr,hx'],.inl ⟨rfl,by simp,by simp⟩⟩
 ·exact hq.elim
def rq (G:Gh):List OA->List Value->List (Nat ⊕ Nat)->Prop
 | [],_,ts=>ts=[]
 | .bx _ :: xs,vs,ts=>∃ v r t tr,vs=v :: r/\ts=t :: tr/\v=kw G t/\rq G xs r tr
 | .rx _ _ _ :: xs,vs,ts=>∃ v r t tr,vs=v :: r/\ts=t :: tr/\v=kw G t/\rq G xs r tr
 | _ :: xs,vs,ts=>∃ v r,vs=v :: r/\rq G xs r ts
structure Xl (G:Gh) (s:St) (w:World) (k:Tas) (vs:List Value) (foot:List (Nat ⊕ Nat)):Prop where
 mem:∀ x,x ∈ foot ↔ x ∈ k.tops\/x ∈ k.ids
 live:∀ x ∈ foot,live s x
 rx:∀ x ∈ k.tops,Xk s x
 oas:∀ I',Bm G s w I' k.fz foot->OAs I' w k.xs vs (foot.flatMap (own G s))
 tops:rq G k.xs vs k.tops
 nodup:(k.tops ++ k.ids).Nodup->foot.Nodup
theorem xR (h:Mem W0 M G s w):∀ (shs:List ASh) {xs:List AV} {vs:List Value} {K:Tas->Prop},AVs G s w xs vs->(xQ shs xs).wp s K->∃ k foot,K k/\Xl G s w k vs foot
 | [],xs,vs,K,hx,hq=>by
  cases xs with
  | nil=>
   simp only [AVs] at hx;subst hx;exact⟨_,[],hq,⟨by simp,by simp,by simp,λI' hf=>by simp [OAs],by simp [rq],λh=>h⟩⟩
  | cons c cs=>exact hq.elim
 | sh :: shs,xs,vs,K,hx,hq=>by
  cases xs with
  | nil=>exact hq.elim
  | cons c cs=>
   simp only [AVs] at hx;obtain⟨v,r,rfl,h1,h2⟩:=hx;simp only [xQ,Q.wp_bind,Q.wp] at hq;obtain⟨k,hq,hl,hlt,hk,htop⟩:=Qt h h1 hq;obtain⟨ks,foot,hq,t1,t2,t6,t3,t4,t5⟩:=xR h shs h2 hq;refine⟨_,(k.tops ++ k.ids) ++ foot,hq,⟨λx=>?_,λx hm=>?_,λx hm=>?_,λI' hf=>?_,?_,λhnd=>?_⟩⟩
   ·simp only [a4E,t1 x];constructor
    ·rintro((h | h) | (h | h))
     ·exact .inl (.inl h)
     ·exact .inr (.inl h)
     ·exact .inl (.inr h)
     ·exact .inr (.inr h)
    ·rintro((h | h) | (h | h))
     ·exact .inl (.inl h)
     ·exact .inr (.inl h)
     ·exact .inl (.inr h)
     ·exact .inr (.inr h)
   ·rcases List.mem_append.1 hm with hm | hm
    ·rcases List.mem_append.1 hm with hm | hm
     ·exact(hlt x hm).1
     ·exact hl x hm
    ·exact t2 x hm
   ·rcases List.mem_append.1 hm with hm | hm
    ·exact(hlt x hm).2
    ·exact t6 x hm
   ·simp only [OAs];exact⟨v,r,_,_,rfl,hk I' (hf.sub (λx hm=>by simp [hm]) (λx hm=>List.mem_append_left _ hm)),t3 I' (hf.sub (λx hm=>by simp [hm]) (λx hm=>List.mem_append_right _ hm)),a4F⟩
   ·rcases htop with⟨e1,e2,e3⟩ | ⟨id,cs',e1,e2,e3⟩ | ⟨id,a',b',c',e1,e2,e3⟩
    ·simp only [e1,a3E];cases hoa:k.oa with
     | c x=>exact⟨v,r,rfl,t4⟩
     | agg x=>exact⟨v,r,rfl,t4⟩
     | bx x=>exact(e2 x hoa).elim
     | rx x y z=>exact(e3 x y z hoa).elim
    ·simp only [e1,e2];exact⟨v,r,.inl id,ks.tops,rfl,rfl,e3,t4⟩
    ·simp only [e1,e2];exact⟨v,r,.inr id,ks.tops,rfl,rfl,e3,t4⟩
   ·have hnd':((k.tops ++ k.ids) ++ (ks.tops ++ ks.ids)).Nodup:=by
     refine(List.Perm.nodup_iff ?_).1 hnd;simp only [a3c];refine List.Perm.append_left _ ?_;rw [<-a3c,<-a3c];exact List.Perm.append_right _ List.perm_append_comm
    rw [a32] at hnd' ⊢;refine⟨hnd'.1,t5 hnd'.2.1,λa ha b hb e=>hnd'.2.2 a ha b ?_ e⟩;rcases(t1 b).1 hb with h | h
    ·exact List.mem_append_left _ h
    ·exact List.mem_append_right _ h
end
inductive Sp where
 | none
 | keys (f1:FuncId)
 | sortI (f1:FuncId) (e:TypeId)
 | sortS (f1:FuncId) (e:TypeId)
def a0q (P:Program) (f f1:FuncId) (e:TypeId):Prop:=∀ (w:World) (b g:Nat) (ty:TypeId) (en:Array MapEntry) (clock:Nat) (ks:List Int),w.heap[b]?=some (.cells #[.map (some g)] ty (0,0))->w.heap[g]?=some (.map en clock)->Lu en.toList clock->
 en.toList.map (·.key)=ks.map (Value.int .i64)->ks.Nodup->(∀ x ∈ ks,(Lit.int .i64 x).wf=true)->ks.length<=maxLen->ks.length * 8<=140737488355328->
 Calls P f #[Jt f1 b] w λo w'=>∃ v,o= .returned v/\w'.ownsRow w.heap.size e 1 v ks.length ((ks.mergeSort λx y=>decide (x<=y)).map (Value.int .i64))/\RowKit.Below w.heap.size w w'
def Qu (l:List UInt8):Value:= .string ⟨l.toArray⟩
def a0r (P:Program) (f f1:FuncId) (e:TypeId):Prop:=∀ (w:World) (b g:Nat) (ty:TypeId) (en:Array MapEntry) (clock:Nat) (ks:List (List UInt8)),w.heap[b]?=some (.cells #[.map (some g)] ty (0,0))->w.heap[g]?=some (.map en clock)->Lu en.toList clock->
 en.toList.map (·.key)=ks.map Qu->ks.Nodup->(∀ x ∈ ks,x.length<=maxLen)->ks.length<=maxLen->ks.length * 16<=140737488355328->
 Calls P f #[Jt f1 b] w λo w'=>∃ v,o= .returned v/\w'.ownsRow w.heap.size e 1 v ks.length ((ks.mergeSort λx y=>decide (x<=y)).map Qu)/\RowKit.Below w.heap.size w w'
def a1v (P:Program) (f:FuncId):Sp->Prop
 | .none=>True
 | .keys f1=>∃ tm,∀ g w,Calls P f #[.map (some g)] w λe w'=>e= .returned (Jt f1 w.heap.size)/\w'=w.alloc (.cells #[.map (some g)] tm)
 | .sortI f1 e=>a0q P f f1 e
 | .sortS f1 e=>a0r P f f1 e
structure vH where
 sh:List ASh
 pre:List OA->Prop
 post:List OA->List OA
 res:List OA->List OA
 sp:Sp
 flat:Bool
def wh:OC->Bool
 | .d (.v _)=>true
 | _=>false
def Db:OA->Bool
 | .c x=>wh x
 | .agg xs=>xs.all wh
 | _=>false
theorem Hw {c:OC} (h:wh c=true):∃ u,c= .d (.v u):=by
 unfold wh at h;split at h
 ·exact⟨_,rfl⟩
 ·cases h
theorem Mi {I J:Nat->Nat->Prop} {w w':World}:∀ {cs:List OC} {vs:List Value} {F:List Nat},cs.all wh=true->OCs I w cs vs F->OCs J w' cs vs []/\F=[]
 | [],vs,F,_,h=>by simp only [OCs] at h ⊢;exact⟨⟨h.1,trivial⟩,h.2⟩
 | c :: cs,vs,F,hf,h=>by
  rw [a34,a24] at hf;obtain⟨u,rfl⟩:=Hw hf.1;simp only [OCs] at h ⊢;obtain⟨x,r,F1,F2,rfl,h1,h2,rfl⟩:=h;obtain⟨h3,rfl⟩:=Mi (J:=J) (w':=w') hf.2 h2;simp only [OCr,DVr] at h1 ⊢;obtain⟨rfl,h4⟩:=h1;exact⟨⟨x,r,[],[],rfl,⟨rfl,h4⟩,h3,rfl⟩,rfl⟩
theorem Mj {I J:Nat->Nat->Prop} {w w':World}:∀ {cs:List OA} {vs:List Value} {F:List Nat},cs.all Db=true->OAs I w cs vs F->OAs J w' cs vs []
 | [],vs,F,_,h=>by simp only [OAs] at h ⊢;exact⟨h.1,trivial⟩
 | c :: cs,vs,F,hf,h=>by
  rw [a34,a24] at hf;obtain⟨hf1,hf2⟩:=hf;simp only [OAs] at h ⊢;obtain⟨x,r,F1,F2,rfl,h1,h2,rfl⟩:=h;have h3:=Mj (J:=J) (w':=w') hf2 h2;refine⟨x,r,[],[],rfl,?_,h3,rfl⟩;unfold Db at hf1;split at hf1
  ·rename_i y;obtain⟨u,rfl⟩:=Hw hf1;simp only [OAr,OCr,DVr] at h1 ⊢;exact⟨trivial,h1.2⟩
  ·rename_i ys;simp only [OAr] at h1 ⊢;obtain⟨vs',e,h5⟩:=h1;exact⟨vs',e,(Mi (J:=J) (w':=w') hf1 h5).1⟩
  ·cases hf1
def bw:List OA->List Value->List Value
 | .bx _ :: xs,v :: vs=>v :: bw xs vs
 | .rx _ _ _ :: xs,v :: vs=>v :: bw xs vs
 | _ :: xs,_ :: vs=>bw xs vs
 | _,_=>[]
structure Ret (S:vH) (I:Nat->Nat->Prop) (w:World) (xs:List OA) (args:List Value) (F:List Nat) (w':World) (I':Nat->Nat->Prop) (vs:List Value) (Fp Fr':List Nat):Prop where
 fr:Fr w (· ∈ F) w'
 sub:∀ b o,I b o->I' b o
 keep:ol I w w'
 new:∀ b o,I' b o->I b o\/b ∈ F\/w.heap.size<=b
 lt:∀ b o,I' b o->b < w'.heap.size
 post:OAs I' w' (S.post xs) (bw xs args) Fp
 res:OAs I' w' (S.res xs) vs Fr'
 nodup:(Fp ++ Fr').Nodup
 own:∀ b ∈ Fp ++ Fr',b ∈ F\/w.heap.size<=b
def Ts (vs:List Value):Value:=match vs with
 | [v]=>v
 | vs=> .tuple vs.toArray
structure Qv (P:Program) (f:FuncId) (S:vH):Prop where
 sp:a1v P f S.sp
 isf:∃ fn,P.funcs[f]?=some fn/\fn.body.isSome=true/\(fn.name == "runtime.NumGoroutine")=false
 calls:∀ (w:World) (I:Nat->Nat->Prop) (F:List Nat) (args:Array Value) (xs:List OA),(∀ b o,I b o->b < w.heap.size)->Tj I w->OAs I w xs args.toList F->F.Nodup->S.pre xs->
  Calls P f args w fun | .returned v,w'=>∃ I' vs Fp Fr',v=Ts vs/\Ret S I w xs args.toList F w' I' vs Fp Fr' | _,_=>False
def EU:List (Nat ⊕ Nat)->Q (List Upd)
 | []=> .ret []
 | .inl id :: ids=> .rdB id λb=>(EU ids).bind λus=> .ret (.b id ⟨b.ver,none⟩ :: us)
 | .inr id :: ids=> .rdR id λb=>(EU ids).bind λus=> .ret (.r id ⟨b.ver,none⟩ :: us)
def ze:List (Nat ⊕ Nat)->List OA->Q (List Upd)
 | [],[]=> .ret []
 | .inl id :: ids,.bx cs :: css=> .rdB id λb=>(ze ids css).bind λus=> .ret (.b id ⟨b.ver,some (cs.map λ_=> .junk)⟩ :: us)
 | .inr id :: ids,.rx sz e es :: css=> .req (e < ja) <| .rdR id λr=>(ze ids css).bind λus=> .ret (.r id ⟨r.ver,some ⟨es,sz,e,false⟩⟩ :: us)
 | _,_=> .fail
def tid:Nat ⊕ Nat->Nat
 | .inl j=>j
 | .inr j=>j
structure Mps where
 us:List Upd
 m:Nat
def EV (n:Nat):List (Nat ⊕ Nat)->List OA->Q Mps
 | [],[]=> .ret ⟨[],n⟩
 | .inl id :: ids,.bx cs :: css=>(zT n cs).bind λk=> .req (∀ j ∈ .inl id :: ids,tid j < n\/k.m<=tid j) (.rdB id λb=>(EV k.m ids css).bind λp=> .ret ⟨k.us ++ (.b id ⟨b.ver,some k.acs⟩ :: p.us),p.m⟩)
 | .inr _ :: ids,.rx _ _ _ :: css=>EV n ids css
 | _,_=> .fail
structure Mka where
 av:AV
 us:List Upd
 m:Nat
structure a0s where
 avs:List AV
 us:List Upd
 m:Nat
def mkA (n:Nat):OA->Q Mka
 | .c x=>(mkC n x).bind λk=> .ret ⟨.c k.ac,k.us,k.m⟩
 | .agg xs=>(zT n xs).bind λk=> .ret ⟨.agg k.acs,k.us,k.m⟩
 | .bx cs=>(mkC n (.box cs)).bind λk=> .ret ⟨.c k.ac,k.us,k.m⟩
 | .rx sz e es=>(mkC n (.row sz e es)).bind λk=> .ret ⟨.c k.ac,k.us,k.m⟩
def UP (n:Nat):List OA->Q a0s
 | []=> .ret ⟨[],[],n⟩
 | c :: cs=>(mkA n c).bind λk=>(UP k.m cs).bind λks=> .ret ⟨k.av :: ks.avs,k.us ++ ks.us,ks.m⟩
def WD (vs:List AV):AV:=match vs with
 | [v]=>v
 | vs=> .tup vs
def wW:Option Nat->Nat
 | some d=>(d + 1) * 1000
 | none=>900
def Ml (S:vH) (o:Oper) (c:Call) (ex:List AV:=[]):Q (List Upd):=
 (evs c.args.toList).bind λxs=>(xQ S.sh (xs ++ ex)).bind λk=>
 .req ((k.tops ++ k.ids).Nodup/\(∀ id ∈ k.fz,Sum.inr id ∉ k.tops ++ k.ids)/\S.pre k.xs)
 (match S.flat && k.tops.isEmpty && k.ids.isEmpty with
 | true=> .req (S.post k.xs=[]/\(S.res k.xs).all Db=true) ((kT k.fz).bind λ_=>(UP (wW o.dst) (S.res k.xs)).bind λr=> .ret (r.us ++ He o.dst (WD r.avs)))
 | false=>(kT k.fz).bind λus1=>(EU k.ids).bind λus2=>(ze k.tops (S.post k.xs)).bind λus3=>(EV (wW o.dst) k.tops (S.post k.xs)).bind λp=>(UP p.m (S.res k.xs)).bind λr=>
 .ret (us1 ++ us2 ++ us3 ++ p.us ++ r.us ++ He o.dst (WD r.avs)))
section
variable {W0:World} {M:Own} {G:Gh} {s s' s0:St} {w w':World}
theorem Mem.dropBox (h:Mem W0 M G s w) (id:Nat):Mem W0 M G (s.setB id ⟨(s.b id).ver,none⟩) w/\Ext G s w G (s.setB id ⟨(s.b id).ver,none⟩) w:=by
 have E:Ext G s w G (s.setB id ⟨(s.b id).ver,none⟩) w:=by
  refine⟨λ_ _ h=>h,ol.refl _ _,λk=>?_,λ_=>⟨a3j _,λ_ h=>⟨h,rfl⟩⟩,λ_ _=>rfl⟩;simp only [St.setB,upd];by_cases e:k=id
  ·subst e;simp
  ·simp only [e,a3y];exact⟨a3j _,λ_ h=>⟨h,trivial⟩⟩
 have ho:∀ x b,b ∈ own G (s.setB id ⟨(s.b id).ver,none⟩) x->b ∈ own G s x:=by
  intro x b hx;rcases x with k | k
  ·by_cases e:k=id
   ·subst e;simp [own,St.setB,upd] at hx
   ·simpa [own,St.setB,upd,e] using hx
  ·exact hx
 refine⟨⟨λk c hc=>?_,λk R hc=>h.rw k R hc,λx y b hx hy=>h.dj x y b (ho x b hx) (ho y b hy),λk hc=>?_,h.rI,λx b hx=>h.oM x b (ho x b hx),h.In,h.fr,h.ii,h.gl.mono E.I E.keep,h.pe,h.sx⟩,E⟩
 ·simp only [St.setB,upd] at hc;by_cases e:k=id
  ·simp [e] at hc
  ·simp only [e,a3y] at hc;obtain⟨cur,ty,h1,h2⟩:=h.bx k c hc;exact⟨cur,ty,h1,E.acs h2⟩
 ·simp only [St.setB,upd] at hc;by_cases e:k=id
  ·simp [e] at hc
  ·simp only [e,a3y] at hc;exact h.bI k hc
structure a2n (G:Gh) (s s':St) (ids:List (Nat ⊕ Nat)):Prop where
 n_:s'.n=s.n
 t:s'.t=s.t
 gone:∀ x ∈ ids,own G s' x=[]
 less:∀ x b,b ∈ own G s' x->b ∈ own G s x
 b:∀ id,Sum.inl id ∉ ids->s'.b id=s.b id
 r:∀ id,Sum.inr id ∉ ids->s'.r id=s.r id
theorem xS (x:Nat ⊕ Nat) (id:Nat) (y:BS) (h:x ≠ .inl id):own G (s.setB id y) x=own G s x:=by
 rcases x with k | k
 ·have e:k ≠ id:=λe=>h (by rw [e]);simp [own,St.setB,upd,e]
 ·rfl
theorem EW (x:Nat ⊕ Nat) (id:Nat) (y:RS) (h:x ≠ .inr id):own G (s.setR id y) x=own G s x:=by
 rcases x with k | k
 ·rfl
 ·have e:k ≠ id:=λe=>h (by rw [e]);simp [own,St.setR,upd,e]
theorem eM.setB {n:Nat} (h:eM n s0 s) {id ver:Nat} {c:Option (List AC)} (he:n<=id->ver=(s.b id).ver):eM n s0 (s.setB id ⟨ver,c⟩):=λk hk=>by
 have:=h k hk;simp only [St.setB,upd];by_cases e:k=id
 ·subst e;simp only [a3H];exact⟨(he hk).trans this.1,this.2⟩
 ·simp only [e,a3y];exact this
theorem eM.setR {n:Nat} (h:eM n s0 s) {id ver:Nat} {c:Option Row} (he:n<=id->ver=(s.r id).ver):eM n s0 (s.setR id ⟨ver,c⟩):=λk hk=>by
 have:=h k hk;simp only [St.setR,upd];by_cases e:k=id
 ·subst e;simp only [a3H];exact⟨this.1,(he hk).trans this.2⟩
 ·simp only [e,a3y];exact this
theorem qI {x:Nat ⊕ Nat} (h:own G s x=[]) (hl:∀ x b,b ∈ own G s' x->b ∈ own G s x):own G s' x=[]:=
 List.eq_nil_iff_forall_not_mem.2 λb hb=>by have:=hl x b hb;rw [h] at this;cases this
theorem Bn:∀ {ids:List (Nat ⊕ Nat)} {s:St} {K:List Upd->Prop},(EU ids).wp s0 K->Mem W0 M G s w->eM 0 s0 s->∃ us,K us/\Mem W0 M G (s.app us) w/\Ext G s w G (s.app us) w/\eM 0 s0 (s.app us)/\a2n G s (s.app us) ids
 | [],s,K,hq,hm,hv=>⟨[],hq,hm,Ext.refl _ _ _,hv,⟨rfl,rfl,by simp,λx b h=>h,λ_ _=>rfl,λ_ _=>rfl⟩⟩
 | .inl id :: ids,s,K,hq,hm,hv=>by
  simp only [EU,Q.wp] at hq;rw [Q.wp_bind] at hq;have hver:(s0.b id).ver=(s.b id).ver:=((hv id (a3B _)).1).symm;obtain⟨m1,x1⟩:=hm.dropBox id;obtain⟨us,hK,m2,x2,v2,d2⟩:=Bn hq m1 (hv.setB (λ_=>rfl));have hless:∀ x b,b ∈ own G (s.setB id ⟨(s.b id).ver,none⟩) x->b ∈ own G s x:=λx b hx=>by
   by_cases e:x= .inl id
   ·subst e;simp [own,St.setB,upd] at hx
   ·rw [xS x id _ e] at hx;exact hx
  refine⟨_,hK,?_⟩;simp only [St.app,St.app1];rw [hver];refine⟨m2,x1.trans x2,v2,⟨d2.n_,d2.t,λx hx=>?_,λx b hx=>hless x b (d2.less x b hx),λk hk=>?_,λk hk=>?_⟩⟩
  ·rcases List.mem_cons.1 hx with rfl | hx
   ·refine qI ?_ d2.less;simp [own,St.setB,upd]
   ·exact d2.gone x hx
  ·rw [d2.b k (λh=>hk (a3t _ h))];have:k ≠ id:=λe=>hk (by simp [e]);simp [St.setB,upd,this]
  ·rw [d2.r k (λh=>hk (a3t _ h))];rfl
 | .inr id :: ids,s,K,hq,hm,hv=>by
  simp only [EU,Q.wp] at hq;rw [Q.wp_bind] at hq;have hver:(s0.r id).ver=(s.r id).ver:=((hv id (a3B _)).2).symm;obtain⟨m1,x1⟩:=hm.dropRow id;obtain⟨us,hK,m2,x2,v2,d2⟩:=Bn hq m1 (hv.setR (λ_=>rfl));have hless:∀ x b,b ∈ own G (s.setR id ⟨(s.r id).ver,none⟩) x->b ∈ own G s x:=λx b hx=>by
   by_cases e:x= .inr id
   ·subst e;simp [own,St.setR,upd] at hx
   ·rw [EW x id _ e] at hx;exact hx
  refine⟨_,hK,?_⟩;simp only [St.app,St.app1];rw [hver];refine⟨m2,x1.trans x2,v2,⟨d2.n_,d2.t,λx hx=>?_,λx b hx=>hless x b (d2.less x b hx),λk hk=>?_,λk hk=>?_⟩⟩
  ·rcases List.mem_cons.1 hx with rfl | hx
   ·refine qI ?_ d2.less;simp [own,St.setR,upd]
   ·exact d2.gone x hx
  ·rw [d2.b k (λh=>hk (a3t _ h))];rfl
  ·rw [d2.r k (λh=>hk (a3t _ h))];have:k ≠ id:=λe=>hk (by simp [e]);simp [St.setR,upd,this]
theorem UQ {cur:List Value} (h:∀ u ∈ cur,u.oneCell'=true):∀ {α:Type} {cs:List α},cs.length=cur.length->ACs G s w (cs.map λ_=> .junk) cur:=by
 intro α cs
 induction cur generalizing cs with
 | nil=>intro hl;cases cs with
  | nil=>simp [ACs]
  | cons c cs=>simp at hl
 | cons v vs ih=>intro hl;cases cs with
  | nil=>simp at hl
  | cons c cs=>
   simp only [a3h,ACs,ACr];exact⟨v,vs,rfl,h v (by simp),ih (λu hu=>h u (by simp [hu])) (by simpa using hl)⟩
theorem SEs.keptF {F:Nat->Prop} (fr:Fr w F w') {tp:TypeId}:∀ {cs:List (List DV)} {ms:List MapEntry} {xs:List Nat},SEs w tp cs ms xs->(∀ b ∈ xs,¬ F b)->SEs w' tp cs ms xs
 | [],_,_,h,_=>h
 | c :: cs,ms,xs,h,hne=>by
  simp only [SEs] at h ⊢;obtain⟨m,r,x,y,k,ps,vs,rfl,rfl,h1,h2,h3,h4,h5,h6,h7⟩:=h;refine⟨m,r,x,y,k,ps,vs,rfl,rfl,h1,h2,h3,⟨h4.1,?_⟩,h5,U3.mono (λ_ _ h=>h) (λ_ _ h=>h.elim) _ h6,h7.keptF fr λb hb=>hne b (by simp [hb])⟩;rcases h4.2 with h8 | ⟨g,cap,cur,hv,h9,hg,h10⟩
  ·exact .inl h8
  ·refine .inr ⟨g,cap,cur,hv,h9,?_,h10⟩;rw [hv] at h3;injection h3 with h3;rw [fr.block g (Array.getElem?_eq_some_iff.1 hg).1 (hne g (by simp only at h3;simp [h3]))];exact hg
theorem rk.keptF {F:Nat->Prop} (fr:Fr w F w') {v:Value} {ex:List Nat} {R:Row} (h:rk w v ex R) (hne:∀ b,obk v=some b\/b ∈ ex->¬ F b):rk w' v ex R:=by
 obtain⟨g,es,c,rfl,h1,h2,h3,h4⟩:=h;exact⟨g,es,c,rfl,(fr.block g (Array.getElem?_eq_some_iff.1 h1).1 (hne g (.inl rfl))).trans h1,h2,h3,h4.keptF fr λb hb=>hne b (.inr hb)⟩
theorem Mem.call (h:Mem W0 M G s w) {F:List Nat} {I':Nat->Nat->Prop} {tops:List (Nat ⊕ Nat)} (hr:∀ id,.inr id ∉ tops->s'.r id=s.r id) (hb:∀ id,.inl id ∉ tops->s'.b id=s.b id)
  (htr:∀ id,.inr id ∈ tops->(s.r id).c.isSome=true/\(s'.r id).ver=(s.r id).ver/\(∃ R',(s'.r id).c=some R'/\jb I' w' (G.rw id) R'/\R'.e < ja)/\(∀ g o,obk (G.rw id)=some g->¬ I' g o)/\∃ R,(s.r id).c=some R/\R.e < ja)
  (ht:∀ id,.inl id ∈ tops->(s.b id).c.isSome=true/\(s'.b id).ver=(s.b id).ver/\(∃ (n:Nat) (cs:List AC) (cur:Array Value) (ty:TypeId),(s'.b id).c=some cs/\w'.heap[G.bx id]?=some (.cells cur ty (0,0))/\cs=(List.replicate n ()).map (λ_=> .junk)/\n=cur.toList.length/\∀ u ∈ cur.toList,u.oneCell'=true)/\∀ o,¬ I' (G.bx id) o)
  (hF:∀ x b,b ∈ own G s x->b ∈ F->x ∈ tops) (hFM:∀ b ∈ F,W0.heap.size<=b\/M b)
  (fr:Fr w (· ∈ F) w') (sub:∀ b o,G.I b o->I' b o) (keep:ol G.I w w') (new:∀ b o,I' b o->G.I b o\/b ∈ F\/w.heap.size<=b) (lt:∀ b o,I' b o->b < w'.heap.size) :
  Mem W0 M ⟨I',G.bx,G.rw,G.st,G.ex⟩ s' w'/\Ext G s w ⟨I',G.bx,G.rw,G.st,G.ex⟩ s' w':=by
 have hs:∀ id,(s'.b id).c.isSome=(s.b id).c.isSome/\(s'.b id).ver=(s.b id).ver:=λid=>by
  by_cases e: .inl id ∈ tops
  ·obtain⟨h1,h2,⟨n,cs,cur,ty,h3,_⟩,_⟩:=ht id e;exact⟨by rw [h1,h3];rfl,h2⟩
  ·rw [hb id e];exact⟨rfl,rfl⟩
 have hsr:∀ id,(s'.r id).c.isSome=(s.r id).c.isSome/\(s'.r id).ver=(s.r id).ver:=λid=>by
  by_cases e: .inr id ∈ tops
  ·obtain⟨h1,h2,⟨R',h3,_⟩,_⟩:=htr id e;exact⟨by rw [h1,h3];rfl,h2⟩
  ·rw [hr id e];exact⟨rfl,rfl⟩
 have E:Ext G s w ⟨I',G.bx,G.rw,G.st,G.ex⟩ s' w':=
  ⟨sub,keep,λk=>⟨Nat.le_of_eq (hs k).2.symm,λ_ h1=>⟨by rw [<-(hs k).1];exact h1,rfl⟩⟩,λk=>⟨Nat.le_of_eq (hsr k).2.symm,λ_ h1=>⟨by rw [<-(hsr k).1];exact h1,rfl⟩⟩,λ_ _=>rfl⟩
 have ho:∀ x,own ⟨I',G.bx,G.rw,G.st,G.ex⟩ s' x=own G s x:=by
  intro x;rcases x with k | k
  ·simp only [own,(hs k).1]
  ·by_cases e: .inr k ∈ tops
   ·obtain⟨_,_,⟨R',h3,_,h5⟩,_,R,h6,h7⟩:=htr k e;simp only [own,h3,h6,eZ h5,eZ h7]
   ·simp only [own,hr k e]
 refine⟨⟨λk c hc=>?_,λk R hc=>?_,λx y b hx hy=>h.dj x y b (by rw [ho] at hx;exact hx) (by rw [ho] at hy;exact hy),λk hc o hi=>?_,λk R g hc hg o hi=>?_,λx b hx=>h.oM x b (by rw [ho] at hx;exact hx),lt,?_,⟨λb o hi=>sub b o (h.ii.1 b o hi),λb o hi=>?_⟩,h.gl.mono E.I E.keep,λk R hc hp=>by
  by_cases e: .inr k ∈ tops
  ·obtain⟨_,_,⟨R',h3,_,h5⟩,_⟩:=htr k e;rw [h3] at hc;injection hc with hc;subst hc;exact absurd (a43 h5 (by decide)) (Nat.not_lt.2 hp)
  ·rw [hr k e] at hc;obtain⟨g,es,cl,i,m,k1,k2,k3⟩:=h.pe k R hc hp;refine⟨g,es,cl,i,m,k1,(fr.block g (Array.getElem?_eq_some_iff.1 k2).1 (λhm=>e (hF (.inr k) g (by simp [own,hc,k1,obk]) hm))).trans k2,k3⟩,λk R hc hp=>by
  by_cases e: .inr k ∈ tops
  ·obtain⟨_,_,⟨R',h3,_,h5⟩,_⟩:=htr k e;rw [h3] at hc;injection hc with hc;subst hc;exact absurd hp (eZ h5)
  ·rw [hr k e] at hc;obtain⟨q1,q2⟩:=h.sx k R hc hp;have hnF:∀ b,obk (G.rw k)=some b\/b ∈ G.ex k->b ∉ F:=λb hb hm=>e (hF (.inr k) b (by
    rcases hb with hb | hb
    ·exact nT hc hb
    ·exact uA hc hp hb) hm)
   refine⟨q1.keptF (F:=(· ∈ F)) fr hnF,λb hb o hi=>?_⟩;rcases new _ _ hi with h1 | h1 | h1
   ·exact q2 b hb o h1
   ·exact hnF b (.inr hb) h1
   ·exact absurd (q1.lt hb) (Nat.not_lt.2 h1)⟩,E⟩
 ·by_cases e: .inl k ∈ tops
  ·obtain⟨_,_,⟨n,cs,cur,ty,h3,h4,h5,h6,h7⟩,_⟩:=ht k e;rw [h3] at hc;injection hc with hc;subst hc;refine⟨cur,ty,h4,?_⟩;rw [h5];exact UQ h7 (by simpa using h6)
  ·rw [hb k e] at hc;obtain⟨cur,ty,h1,h2⟩:=h.bx k c hc;have hlt:=(Array.getElem?_eq_some_iff.1 h1).1;refine⟨cur,ty,(fr.block _ hlt (λhm=>?_)).trans h1,E.acs h2⟩;exact e (hF (.inl k) (G.bx k) (zH (by rw [hc];rfl)) hm)
 ·by_cases e: .inr k ∈ tops
  ·obtain⟨_,_,⟨R',h3,h4,_⟩,_⟩:=htr k e;rw [h3] at hc;injection hc with hc;subst hc;exact h4
  rw [hr k e] at hc;obtain⟨h1,h2,⟨h0,xs,h3,h4⟩ | ⟨h0,g,ms,ck,hv,hg,h4,h5⟩ | ⟨h0,g,str,pos,hv,hg,h4⟩ | ⟨h0,g,hv,hg⟩⟩:=h.rw k R hc
  rotate_right
  ·exact⟨h1,h2,.inr (.inr (.inr ⟨h0,g,hv,a3U hg fr.size⟩))⟩
  rotate_left
  ·have hown:g ∈ own G s (.inr k):=by simp [own,hc,hv,obk]
   refine⟨h1,h2,.inr (.inl ⟨h0,g,ms,ck,hv,?_,h4.mono sub keep,h5⟩)⟩;rw [fr.block g (h.ownlt hown) (λhm=>?_)]
   ·exact hg
   ·exact e (hF _ _ hown hm)
  ·have hown:g ∈ own G s (.inr k):=by simp [own,hc,hv,obk]
   refine⟨h1,h2,.inr (.inr (.inl ⟨h0,g,str,pos,hv,?_,h4⟩))⟩;rw [fr.block g (h.ownlt hown) (λhm=>?_)]
   ·exact hg
   ·exact e (hF _ _ hown hm)
  refine⟨h1,h2,.inl ⟨h0,xs,⟨h3.1,?_⟩,U3.mono sub keep _ h4⟩⟩;rcases h3.2 with h5 | ⟨g,cap,cur,hv,h6,hg,h7⟩
  ·exact .inl h5
  ·refine .inr ⟨g,cap,cur,hv,h6,?_,h7⟩;have hown:g ∈ own G s (.inr k):=by simp [own,hc,hv,obk]
   rw [fr.block g (h.ownlt hown) (λhm=>?_)]
   ·exact hg
   ·exact e (hF _ _ hown hm)
 ·have hc':(s.b k).c.isSome=true:=by rw [<-(hs k).1];exact hc
  have hown:(G.bx k) ∈ own G s (.inl k):=by simp [own,hc']
  rcases new _ _ hi with h1 | h1 | h1
  ·exact h.bI k hc' o h1
  ·exact(ht k (hF _ _ hown h1)).2.2.2 o hi
  ·exact absurd h1 (Nat.not_le.2 (h.ownlt hown))
 ·by_cases e: .inr k ∈ tops
  ·exact((htr k e).2.2.2.1 g o hg hi).elim
  rw [hr k e] at hc;have hown:g ∈ own G s (.inr k):=nT hc hg;rcases new _ _ hi with h1 | h1 | h1
  ·exact h.rI k R g hc hg o h1
  ·exact(e (hF _ _ hown h1)).elim
  ·have:=h.ownlt hown;omega
 ·exact⟨fr.os.trans h.fr.os,fr.tape.trans h.fr.tape,fr.output.trans h.fr.output,a3w h.fr.size fr.size,λk hk hm=>(fr.block k (a3U hk h.fr.size) (λhF'=>by
   rcases hFM k hF' with h1 | h1
   ·omega
   ·exact hm h1)).trans (h.fr.block k hk hm)⟩
 ·rcases new b o hi with h1 | h1 | h1
  ·exact h.ii.2 b o h1
  ·rcases hFM b h1 with h2 | h2
   ·exact .inr (.inr h2)
   ·exact .inr (.inl h2)
  ·exact .inr (.inr (a3w h.fr.size h1))
end
theorem OCs.len {I:Nat->Nat->Prop} {w:World}:∀ {cs:List OC} {vs:List Value} {F:List Nat},OCs I w cs vs F->cs.length=vs.length
 | [],vs,F,h=>by simp only [OCs] at h;rw [h.1];rfl
 | c :: cs,vs,F,h=>by
  simp only [OCs] at h;obtain⟨x,r,F1,F2,rfl,_,h2,_⟩:=h;simp [OCs.len h2]
theorem OCs.one {I:Nat->Nat->Prop} {w:World}:∀ {cs:List OC} {vs:List Value} {F:List Nat},OCs I w cs vs F->∀ u ∈ vs,u.oneCell'=true
 | [],vs,F,h,u,hu=>by simp only [OCs] at h;rw [h.1] at hu;simp at hu
 | c :: cs,vs,F,h,u,hu=>by
  simp only [OCs] at h;obtain⟨x,r,F1,F2,rfl,h1,h2,_⟩:=h;rcases List.mem_cons.1 hu with rfl | hu
  ·exact h1.one
  ·exact OCs.one h2 u hu
theorem po {G:Gh}:∀ {xs:List OA} {vs:List Value} {ts:List (Nat ⊕ Nat)},rq G xs vs ts->bw xs vs=ts.map (kw G)
 | [],_,ts,h=>by simp only [rq] at h;subst h;simp [bw]
 | .bx cs :: xs,vs,ts,h=>by
  simp only [rq] at h;obtain⟨v,r,t,tr,rfl,rfl,rfl,h⟩:=h;simp only [bw,a3h,po h]
 | .rx _ _ _ :: xs,vs,ts,h=>by
  simp only [rq] at h;obtain⟨v,r,t,tr,rfl,rfl,rfl,h⟩:=h;simp only [bw,a3h,po h]
 | .c x :: xs,vs,ts,h=>by
  simp only [rq] at h;obtain⟨v,r,rfl,h⟩:=h;simp only [bw,po h]
 | .agg x :: xs,vs,ts,h=>by
  simp only [rq] at h;obtain⟨v,r,rfl,h⟩:=h;simp only [bw,po h]
def uL (G:Gh):Nat ⊕ Nat->Option Nat
 | .inl t=>some (G.bx t)
 | .inr t=>obk (G.rw t)
def tB:List (Nat ⊕ Nat)->List OA->Prop
 | [],[]=>True
 | .inl _ :: ids,.bx _ :: css=>tB ids css
 | .inr _ :: ids,.rx _ e _ :: css=>e < ja/\tB ids css
 | _,_=>False
theorem sj {G:Gh} {s:St} {x:Nat ⊕ Nat} {b:Nat} (h:b ∈ own G s x) (hx:Xk s x):uL G x=some b:=by
 rcases x with k | k
 ·rw [(AO.1 h).2];rfl
 ·obtain⟨R,h1,h2⟩:=rj.1 h;obtain⟨R',h3,h4⟩:=hx;rw [h1] at h3;injection h3 with h3;subst h3;rcases h2 with h2 | ⟨h2,_⟩
  ·exact h2
  ·exact absurd h2 (eZ h4)
theorem xT {s:St}:∀ {tops:List (Nat ⊕ Nat)} {css:List OA} {K:List Upd->Prop},(ze tops css).wp s K->tB tops css
 | [],[],_,_=>trivial
 | .inl id :: ids,.bx cs :: css,K,h=>by
  simp only [ze,Q.wp] at h;rw [Q.wp_bind] at h;show tB ids css;exact xT h
 | .inr id :: ids,.rx _ _ _ :: css,K,h=>by
  simp only [ze,Q.wp] at h;have h':=h.2;rw [Q.wp_bind] at h';exact⟨h.1,xT h'⟩
 | [],_ :: _,_,h=>h.elim
 | .inl _ :: _,[],_,h=>h.elim
 | .inl _ :: _,.c _ :: _,_,h=>h.elim
 | .inl _ :: _,.agg _ :: _,_,h=>h.elim
 | .inl _ :: _,.rx _ _ _ :: _,_,h=>h.elim
 | .inr _ :: _,[],_,h=>h.elim
 | .inr _ :: _,.c _ :: _,_,h=>h.elim
 | .inr _ :: _,.agg _ :: _,_,h=>h.elim
 | .inr _ :: _,.bx _ :: _,_,h=>h.elim
section
variable {W0:World} {M:Own} {G:Gh} {s s' s0:St} {w w':World}
theorem xU {I:Nat->Nat->Prop} {cs:List OC} {css:List OA} {id:Nat} {ids:List (Nat ⊕ Nat)} {F:List Nat} (h:OAs I w (.bx cs :: css) ((.inl id :: ids).map (kw G)) F) :
  ∃ cur ty Fs F2,w.heap[G.bx id]?=some (.cells cur ty (0,0))/\OCs I w cs cur.toList Fs/\(∀ o,¬ I (G.bx id) o)/\F=(G.bx id :: Fs) ++ F2/\OAs I w css (ids.map (kw G)) F2:=by
 simp only [a3h,OAs,OAr,OCr] at h;obtain⟨x,r,F1,F2,e,⟨g,cur,ty,Fs,e2,h1,h2,rfl,h3⟩,h4,rfl⟩:=h;injection e with e1 e3;subst e1;subst e3;simp only [kw] at e2;injection e2 with e2;injection e2 with e2;injection e2 with e2 _ _;subst e2;exact⟨cur,ty,Fs,F2,h1,h2,h3,rfl,h4⟩
theorem tM {I:Nat->Nat->Prop} {sz:Nat} {e:TypeId} {es:List (List DV)} {css:List OA} {id:Nat} {ids:List (Nat ⊕ Nat)} {F:List Nat} (h:OAs I w (.rx sz e es :: css) ((.inr id :: ids).map (kw G)) F) (he:e < ja) :
  ∃ F2,jb I w (G.rw id) ⟨es,sz,e,false⟩/\(∀ g o,obk (G.rw id)=some g->¬ I g o)/\F=(obk (G.rw id)).toList ++ F2/\OAs I w css (ids.map (kw G)) F2:=by
 simp only [a3h,OAs,OAr,OCr] at h;obtain⟨x,r,F1,F2,e,⟨ex,h1,rfl,h2,_⟩,h4,rfl⟩:=h;injection e with e1 e3;subst e1;subst e3;exact⟨F2,h1,h2,by simp [eZ he,kw],h4⟩
theorem sk {I:Nat->Nat->Prop}:∀ {ids:List (Nat ⊕ Nat)} {css:List OA} {F:List Nat},tB ids css->OAs I w css (ids.map (kw G)) F->∀ t ∈ ids,∀ b,uL G t=some b->b ∈ F
 | [],_,_,_,_,t,ht,_,_=>by simp at ht
 | .inl id :: ids,.bx cs :: css,F,hf,h,t,ht,b,hb=>by
  obtain⟨cur,ty,Fs,F2,_,_,_,rfl,h4⟩:=xU h;rcases List.mem_cons.1 ht with rfl | ht
  ·simp only [uL,Option.some.injEq] at hb;simp [hb]
  ·have hf':tB ids css:=hf;have:=sk hf' h4 t ht b hb;simp [this]
 | .inr id :: ids,.rx _ _ _ :: css,F,hf,h,t,ht,b,hb=>by
  obtain⟨F2,_,_,rfl,h4⟩:=tM h hf.1;rcases List.mem_cons.1 ht with rfl | ht
  ·simp only [uL] at hb;simp [hb]
  ·have hf':tB ids css:=hf.2;have:=sk hf' h4 t ht b hb;simp [this]
 | .inl _ :: _,[],_,hf,_,_,_,_,_=>hf.elim
 | .inl _ :: _,.c _ :: _,_,hf,_,_,_,_,_=>hf.elim
 | .inl _ :: _,.agg _ :: _,_,hf,_,_,_,_,_=>hf.elim
 | .inl _ :: _,.rx _ _ _ :: _,_,hf,_,_,_,_,_=>hf.elim
 | .inr _ :: _,[],_,hf,_,_,_,_,_=>hf.elim
 | .inr _ :: _,.c _ :: _,_,hf,_,_,_,_,_=>hf.elim
 | .inr _ :: _,.agg _ :: _,_,hf,_,_,_,_,_=>hf.elim
 | .inr _ :: _,.bx _ :: _,_,hf,_,_,_,_,_=>hf.elim
def Xm (I:Nat->Nat->Prop) (G:Gh) (w:World) (s s':St) (id:Nat):Prop:=(s'.b id).ver=(s.b id).ver/\(∃ (n:Nat) (cs:List AC) (cur:Array Value) (ty:TypeId),(s'.b id).c=some cs/\w.heap[G.bx id]?=some (.cells cur ty (0,0))/\cs=(List.replicate n ()).map (λ_=> .junk)/\n=cur.toList.length/\∀ u ∈ cur.toList,u.oneCell'=true)/\∀ o,¬ I (G.bx id) o
def Xn (I:Nat->Nat->Prop) (G:Gh) (w:World) (s s':St) (id:Nat):Prop:=(s'.r id).ver=(s.r id).ver/\(∃ R',(s'.r id).c=some R'/\jb I w (G.rw id) R'/\R'.e < ja)/\∀ g o,obk (G.rw id)=some g->¬ I g o
structure a2o (I:Nat->Nat->Prop) (G:Gh) (w:World) (s0 s s':St) (tops:List (Nat ⊕ Nat)):Prop where
 n_:s'.n=s.n
 t:s'.t=s.t
 ver:eM 0 s0 s'
 b:∀ id,Sum.inl id ∉ tops->s'.b id=s.b id
 r:∀ id,Sum.inr id ∉ tops->s'.r id=s.r id
 tb:∀ id,Sum.inl id ∈ tops->Xm I G w s s' id
 tr:∀ id,Sum.inr id ∈ tops->Xn I G w s s' id
theorem Bo {I:Nat->Nat->Prop}:∀ {tops:List (Nat ⊕ Nat)} {css:List OA} {s:St} {F:List Nat} {K:List Upd->Prop},(ze tops css).wp s0 K->eM 0 s0 s->tops.Nodup->OAs I w css (tops.map (kw G)) F->
  ∃ us,K us/\a2o I G w s0 s (s.app us) tops
 | [],[],s,F,K,hq,hv,_,h=>⟨[],hq,rfl,rfl,hv,λ_ _=>rfl,λ_ _=>rfl,by simp,by simp⟩
 | .inl id :: ids,.bx cs :: css,s,F,K,hq,hv,hn,h=>by
   simp only [ze,Q.wp] at hq;rw [Q.wp_bind] at hq;obtain⟨cur,ty,Fs,F2,h1,h2,h3,rfl,h4⟩:=xU h;rw [a30] at hn;have hver:(s0.b id).ver=(s.b id).ver:=((hv id (a3B _)).1).symm;obtain⟨us,hK,k⟩:=Bo (s:=s.setB id ⟨(s0.b id).ver,some (cs.map λ_=> .junk)⟩) hq (hv.setB (λ_=>hver)) hn.2 h4;refine⟨_,hK,k.n_,k.t,k.ver,λj hj=>?_,λj hj=>?_,λj hj=>?_,λj hj=>?_⟩
   ·simp only [St.app,St.app1];rw [k.b j (λh=>hj (a3t _ h))];have:j ≠ id:=λe=>hj (by simp [e]);simp [St.setB,upd,this]
   ·simp only [St.app,St.app1];rw [k.r j (λh=>hj (a3t _ h))];rfl
   ·simp only [St.app,St.app1];by_cases e:j=id
    ·subst e;unfold Xm;rw [k.b j hn.1];simp only [St.setB,upd,a3H];refine⟨hver,⟨cs.length,_,cur,ty,rfl,h1,?_,OCs.len h2,OCs.one h2⟩,h3⟩;rw [List.map_const',List.map_const',a3W]
    ·have hj':Sum.inl j ∈ ids:=by
      rcases List.mem_cons.1 hj with h | h
      ·injection h with h;exact(e h).elim
      ·exact h
     obtain⟨a1,a2,a3⟩:=k.tb j hj';refine⟨a1.trans ?_,a2,a3⟩;simp [St.setB,upd,e]
   ·simp only [St.app,St.app1];have hj':Sum.inr j ∈ ids:=by
     rcases List.mem_cons.1 hj with h | h
     ·cases h
     ·exact h
    obtain⟨a1,a2,a3⟩:=k.tr j hj';exact⟨a1.trans rfl,a2,a3⟩
 | .inr id :: ids,.rx sz e es :: css,s,F,K,hq,hv,hn,h=>by
   simp only [ze,Q.wp] at hq;obtain⟨hpf,hq⟩:=hq;rw [Q.wp_bind] at hq;obtain⟨F2,h1,h2,rfl,h4⟩:=tM h hpf;rw [a30] at hn;have hver:(s0.r id).ver=(s.r id).ver:=((hv id (a3B _)).2).symm;obtain⟨us,hK,k⟩:=Bo (s:=s.setR id ⟨(s0.r id).ver,some ⟨es,sz,e,false⟩⟩) hq (hv.setR (λ_=>hver)) hn.2 h4;refine⟨_,hK,k.n_,k.t,k.ver,λj hj=>?_,λj hj=>?_,λj hj=>?_,λj hj=>?_⟩
   ·simp only [St.app,St.app1];rw [k.b j (λh=>hj (a3t _ h))];rfl
   ·simp only [St.app,St.app1];rw [k.r j (λh=>hj (a3t _ h))];have:j ≠ id:=λe=>hj (by simp [e]);simp [St.setR,upd,this]
   ·simp only [St.app,St.app1];have hj':Sum.inl j ∈ ids:=by
     rcases List.mem_cons.1 hj with h | h
     ·cases h
     ·exact h
    obtain⟨a1,a2,a3⟩:=k.tb j hj';exact⟨a1.trans rfl,a2,a3⟩
   ·simp only [St.app,St.app1];by_cases e:j=id
    ·subst e;unfold Xn;rw [k.r j hn.1];simp only [St.setR,upd,a3H];exact⟨hver,⟨_,rfl,h1,hpf⟩,h2⟩
    ·have hj':Sum.inr j ∈ ids:=by
      rcases List.mem_cons.1 hj with h | h
      ·injection h with h;exact(e h).elim
      ·exact h
     obtain⟨a1,a2,a3⟩:=k.tr j hj';refine⟨a1.trans ?_,a2,a3⟩;simp [St.setR,upd,e]
 | [],_ :: _,_,_,_,hq,_,_,_=>hq.elim
 | .inl _ :: _,[],_,_,_,hq,_,_,_=>hq.elim
 | .inl _ :: _,.c _ :: _,_,_,_,hq,_,_,_=>hq.elim
 | .inl _ :: _,.agg _ :: _,_,_,_,hq,_,_,_=>hq.elim
 | .inl _ :: _,.rx _ _ _ :: _,_,_,_,hq,_,_,_=>hq.elim
 | .inr _ :: _,[],_,_,_,hq,_,_,_=>hq.elim
 | .inr _ :: _,.c _ :: _,_,_,_,hq,_,_,_=>hq.elim
 | .inr _ :: _,.agg _ :: _,_,_,_,hq,_,_,_=>hq.elim
 | .inr _ :: _,.bx _ :: _,_,_,_,hq,_,_,_=>hq.elim
def a0t (W0:World) (M:Own) (G:Gh) (s:St) (F:List Nat) (tops:List (Nat ⊕ Nat)):Prop:=∀ b ∈ F,(∀ x,b ∈ own G s x->x ∈ tops)/\(W0.heap.size<=b\/M b)
theorem JM (w:World) (x:Option Nat):w.grownBy w x:=⟨rfl,rfl,rfl,a3j _,λ_ _ _=>rfl⟩
theorem Qw {id:Nat} {ver:Nat} {cs:List AC} (h:(s.b id).c.isSome=true) (x:Nat ⊕ Nat):own G (s.setB id ⟨ver,some cs⟩) x=own G s x:=by
 by_cases e:x= .inl id
 ·subst e;simp [own,St.setB,upd,h]
 ·exact xS x id _ e
def xV (s0 s:St):Nat ⊕ Nat->Prop
 | .inl id=>(s.b id).ver=(s0.b id).ver/\(s.b id).c.isSome=true
 | .inr id=>∃ R,(s.r id).c=some R/\R.e < ja
theorem xV.rx {s0 s:St} {x:Nat ⊕ Nat} (h:xV s0 s x):Xk s x:=by
 cases x with
 | inl _=>trivial
 | inr _=>exact h
theorem Bp:∀ {tops:List (Nat ⊕ Nat)} {css:List OA} {n:Nat} {s:St} {G:Gh} {F:List Nat} {K:Mps->Prop},(EV n tops css).wp s0 K->tB tops css->Mem W0 M G s w->(∀ x ∈ tops,xV s0 s x)->eM n s0 s->OAs G.I w css (tops.map (kw G)) F->tops.Nodup->F.Nodup->a0t W0 M G s F tops->
  ∃ p G',K p/\Mem W0 M G' (s.app p.us) w/\Ext G s w G' (s.app p.us) w/\G'.I=G.I/\eM p.m s0 (s.app p.us)/\(∀ x b,b ∈ own G' (s.app p.us) x->b ∈ own G s x\/b ∈ F)/\(s.app p.us).n=s.n/\(s.app p.us).t=s.t
 | [],[],n,s,G,F,K,hq,_,hm,hT,hv,h,_,_,_=>⟨_,G,hq,hm,Ext.refl _ _ _,rfl,hv,λx b h=> .inl h,rfl,rfl⟩
 | .inr id :: ids,.rx sz e es :: css,n,s,G,F,K,hq,hf,hm,hT,hv,h,hn,hF,hTF=>by
   obtain⟨F2,h1,h2,rfl,h4⟩:=tM h hf.1;rw [a30] at hn;rw [a32] at hF;obtain⟨hF1,hF2,hF3⟩:=hF;obtain⟨p,G',hK,q1,q2,q3,q4,q5,q6,q7⟩:=Bp (tops:=ids) (css:=css) (show(EV n ids css).wp s0 K from hq) (show tB ids css from hf.2) hm (λx hx=>hT x (by simp [hx])) hv h4 hn.2 hF2 (λb hb=>by
    refine⟨λx hx=>?_,(hTF b (by simp [hb])).2⟩;rcases List.mem_cons.1 ((hTF b (by simp [hb])).1 x hx) with e | e
    ·subst e;have:=sj hx (hT _ (by simp)).rx;simp only [uL] at this;exact(hF3 b (by simp [this]) b hb rfl).elim
    ·exact e)
   exact⟨p,G',hK,q1,q2,q3,q4,λx b hx=>(q5 x b hx).imp (λh=>h) (λh=>by simp [h]),q6,q7⟩
 | .inl id :: ids,.bx cs :: css,n,s,G,F,K,hq,hf,hm,hT,hv,h,hn,hF,hTF=>by
   simp only [EV] at hq;rw [Q.wp_bind] at hq;obtain⟨cur,ty,Fs,F2,h1,h2,h3,rfl,h4⟩:=xU h;rw [a30] at hn;rw [a32] at hF;obtain⟨hF1,hF2,hF3⟩:=hF;rw [a30] at hF1;have hf':tB ids css:=hf;have hheads:=sk hf' h4;have hfree:Lq W0 M G s Fs:=λb hb=>by
    refine⟨λx hx=>?_,(hTF b (by simp [hb])).2⟩;have ht:=(hTF b (by simp [hb])).1 x hx;have hbt:=sj hx (hT x ht).rx;rcases List.mem_cons.1 ht with rfl | ht
    ·simp only [uL,Option.some.injEq] at hbt;exact hF1.1 (hbt ▸ hb)
    ·exact hF3 b (by simp [hb]) b (hheads x ht b hbt) rfl
   obtain⟨k,G1,hq1,j1,j2⟩:=Bl cs hq hm h2 hF1.2 hfree hv;clear hq;obtain⟨hreq,hq⟩:=hq1;simp only [Q.wp] at hq;rw [Q.wp_bind] at hq;have hold:∀ j ∈ Sum.inl id :: ids,(s.app k.us).b (tid j)=s.b (tid j)/\G1.bx (tid j)=G.bx (tid j)/\(s.app k.us).r (tid j)=s.r (tid j)/\G1.rw (tid j)=G.rw (tid j):=λj hj=>by
    obtain⟨a1,a2,a3,a4,_⟩:=j1.old (tid j) (hreq j hj);exact⟨a1,a3,a2,a4⟩
   obtain⟨hb1,hg1,_,_⟩:=hold (.inl id) (by simp);simp only [tid] at hb1 hg1;have hT0:=hT (.inl id) (by simp);simp only [xV] at hT0;have hlive:((s.app k.us).b id).c.isSome=true:=by rw [hb1];exact hT0.2
   obtain⟨cs0,hcs0⟩:=Option.isSome_iff_exists.1 hlive;have hver:((s.app k.us).b id).ver=(s0.b id).ver:=by rw [hb1];exact hT0.1
   obtain⟨m2,e2⟩:=j1.mem.setBox hcs0 (JM w _) (by rw [hg1];exact h1) j2;rw [hver] at m2 e2;have hmap:ids.map (kw G1)=ids.map (kw G):=a37 λj hj=>by
    obtain⟨_,a2,_,a4⟩:=hold j (by simp [hj]);cases j <;> simp only [kw,tid] at a2 a4 ⊢
    ·rw [a2]
    ·exact a4
   have hown2:∀ x,own G1 ((s.app k.us).setB id ⟨(s0.b id).ver,some k.acs⟩) x=own G1 (s.app k.us) x:=Qw hlive;obtain⟨p,G',hK,q1,q2,q3,q4,q5,q6,q7⟩:=Bp hq hf' m2 (λj hj=>by
    have hjT:=hT j (by simp [hj]);cases j with
    | inr j=>
     obtain⟨R,h8,h9⟩:=hjT;refine⟨R,?_,h9⟩;have:=(hold (.inr j) (by simp [hj])).2.2.1;simp only [tid] at this;show((s.app k.us).r j).c=some R;rw [this];exact h8
    | inl j=>
     have hne:j ≠ id:=λe=>hn.1 (e ▸ hj);simp only [xV,St.setB,upd,hne,a3y] at hjT ⊢;have:=(hold (.inl j) (by simp [hj])).1;simp only [tid] at this;rw [this];exact hjT) (j1.ver.setB (λ_=>hver.symm)) (by rw [hmap,j1.I];exact h4) hn.2 hF2 (λb hb=>by
    refine⟨λx hx=>?_,(hTF b (by simp [hb])).2⟩;rw [hown2] at hx;rcases j1.own x b hx with h5 | h5
    ·rcases List.mem_cons.1 ((hTF b (by simp [hb])).1 x h5) with ht | ht
     ·exfalso;subst ht;have:=sj h5 (hT _ (by simp)).rx;simp only [uL,Option.some.injEq] at this;exact hF3 b (by simp [this]) b hb rfl
     ·exact ht
    ·exact(hF3 b (by simp [h5]) b hb rfl).elim)
   refine⟨_,G',hK,?_,?_,q3.trans j1.I,?_,λx b hx=>?_,?_,?_⟩
   ·rw [St.app_append];exact q1
   ·rw [St.app_append];exact(j1.ext.trans e2).trans q2
   ·rw [St.app_append];exact q4
   ·rw [St.app_append] at hx;rcases q5 x b hx with h5 | h5
    ·rw [hown2] at h5;rcases j1.own x b h5 with h6 | h6
     ·exact .inl h6
     ·exact .inr (by simp [h6])
    ·exact .inr (by simp [h5])
   ·rw [St.app_append];exact q6.trans j1.n_
   ·rw [St.app_append];exact q7.trans j1.t
 | [],_ :: _,_,_,_,_,_,hq,_,_,_,_,_,_,_,_=>hq.elim
 | .inl _ :: _,[],_,_,_,_,_,hq,_,_,_,_,_,_,_,_=>hq.elim
 | .inl _ :: _,.c _ :: _,_,_,_,_,_,hq,_,_,_,_,_,_,_,_=>hq.elim
 | .inl _ :: _,.agg _ :: _,_,_,_,_,_,hq,_,_,_,_,_,_,_,_=>hq.elim
 | .inl _ :: _,.rx _ _ _ :: _,_,_,_,_,_,hq,_,_,_,_,_,_,_,_=>hq.elim
 | .inr _ :: _,[],_,_,_,_,_,hq,_,_,_,_,_,_,_,_=>hq.elim
 | .inr _ :: _,.c _ :: _,_,_,_,_,_,hq,_,_,_,_,_,_,_,_=>hq.elim
 | .inr _ :: _,.agg _ :: _,_,_,_,_,_,hq,_,_,_,_,_,_,_,_=>hq.elim
 | .inr _ :: _,.bx _ :: _,_,_,_,_,_,hq,_,_,_,_,_,_,_,_=>hq.elim
theorem Xo {c:OA} {n:Nat} {v:Value} {F:List Nat} {K:Mka->Prop} (hq:(mkA n c).wp s0 K) (hm:Mem W0 M G s w) (hc:OAr G.I w c v F) (hn:F.Nodup) (hf:Lq W0 M G s F) (hv:eM n s0 s) :
  ∃ k G',K k/\Qr W0 M G s0 s w n k.us k.m F G'/\AVr G' (s.app k.us) w k.av v:=by
 cases c with
 | c x=>
  simp only [mkA,Q.wp_bind,Q.wp] at hq;simp only [OAr] at hc;obtain⟨k,G',hq,h1,h2⟩:=Hu x hq hm hc hn hf hv;exact⟨_,G',hq,h1,by simpa only [AVr] using h2⟩
 | agg xs=>
  simp only [mkA,Q.wp_bind,Q.wp] at hq;simp only [OAr] at hc;obtain⟨vs,rfl,hc⟩:=hc;obtain⟨k,G',hq,h1,h2⟩:=Bl xs hq hm hc hn hf hv;exact⟨_,G',hq,h1,by simp only [AVr];exact⟨vs,rfl,h2⟩⟩
 | bx cs=>
  simp only [mkA,Q.wp_bind,Q.wp] at hq;simp only [OAr] at hc;obtain⟨k,G',hq,h1,h2⟩:=Hu (.box cs) hq hm hc hn hf hv;exact⟨_,G',hq,h1,by simpa only [AVr] using h2⟩
 | rx sz e es=>
  simp only [mkA,Q.wp_bind,Q.wp] at hq;simp only [OAr] at hc;obtain⟨k,G',hq,h1,h2⟩:=Hu (.row sz e es) hq hm hc hn hf hv;exact⟨_,G',hq,h1,by simpa only [AVr] using h2⟩
theorem Bq:∀ (cs:List OA) {n:Nat} {s:St} {G:Gh} {vs:List Value} {F:List Nat} {K:a0s->Prop},(UP n cs).wp s0 K->Mem W0 M G s w->OAs G.I w cs vs F->F.Nodup->Lq W0 M G s F->eM n s0 s->
  ∃ k G',K k/\Qr W0 M G s0 s w n k.us k.m F G'/\AVs G' (s.app k.us) w k.avs vs
 | [],n,s,G,vs,F,K,hq,hm,hc,hn,hf,hv=>by
  simp only [OAs] at hc;obtain⟨rfl,rfl⟩:=hc;exact⟨_,G,hq,⟨hm,Ext.refl _ _ _,rfl,a3j _,hv,λx b h=> .inl h,rfl,rfl,λk _=>⟨rfl,rfl,rfl,rfl,rfl⟩⟩,by simp [AVs]⟩
 | c :: cs,n,s,G,vs,F,K,hq,hm,hc,hn,hf,hv=>by
  simp only [OAs] at hc;obtain⟨x,r,F1,F2,rfl,h1,h2,rfl⟩:=hc;simp only [UP,Q.wp_bind] at hq;rw [a32] at hn;obtain⟨k,G1,hq,j1,j2⟩:=Xo hq hm h1 hn.1 (λb hb=>hf b (by simp [hb])) hv;have hf2:Lq W0 M G1 (s.app k.us) F2:=Lq.after (F1:=F1) (λb hb=>hf b (by simp [hb])) (λb hb1 hb2=>hn.2.2 b hb1 b hb2 rfl) j1;obtain⟨ks,G2,hq,j3,j4⟩:=Bq cs hq j1.mem (by rw [j1.I];exact h2) hn.2.1 hf2 j1.ver;refine⟨_,G2,hq,j1.trans j3,?_⟩;rw [St.app_append];simp only [AVs];exact⟨x,r,rfl,j3.ext.av _ j2,j4⟩
theorem AVs.len:∀ {xs:List AV} {vs:List Value},AVs G s w xs vs->xs.length=vs.length
 | [],vs,h=>by simp only [AVs] at h;subst h;rfl
 | x :: xs,vs,h=>by
  simp only [AVs] at h;obtain⟨v,r,rfl,_,h⟩:=h;simp [AVs.len h]
theorem Tu {xs:List AV} {vs:List Value} (h:AVs G s w xs vs):AVr G s w (WD xs) (Ts vs):=by
 match xs,vs,h.len,h with
 | [],[],_,h=>simp only [WD,Ts,AVr];exact⟨_,rfl,h⟩
 | [x],[v],_,h=>
  simp only [AVs] at h;obtain⟨v',r,e,h1,h2⟩:=h;injection e with e1 _;subst e1;exact h1
 | x :: y :: xs,v :: u :: vs,_,h=>simp only [WD,Ts,AVr];exact⟨_,rfl,h⟩
end
theorem Frz.own {G G':Gh} {s s':St} (h:Frz s s') (hb:G'.bx=G.bx) (hr:G'.rw=G.rw) (hx:G'.ex=G.ex) (x:Nat ⊕ Nat):own G' s' x=own G s x:=by
 rcases x with k | k
 ·simp only [Am.own,h.2.2.1,hb]
 ·have h1:=h.2.2.2 k;cases hc:(s.r k).c with
  | none=>simp only [Am.own,h1.2.1 hc,hc]
  | some R=>obtain⟨fr,h2,_⟩:=h1.2.2 R hc;simp only [Am.own,h2,hc,hr,hx]
theorem Mm {W0:World} {M:Own} {G:Gh} {s:St} {w:World} (h:Mem W0 M G s w) (x:Nat ⊕ Nat):(own G s x).Nodup:=by
 rcases x with k | k
 ·simp only [own];split <;> simp
 ·simp only [own];split
  ·rename_i R hR;by_cases he:kQ R.e
   ·obtain⟨⟨g,es,c,h1,_,_,h2,_⟩,_⟩:=h.sx k R hR he;simp only [he,a3H,h1,obk];exact h2
   ·simp only [he,a3y,a3b];cases obk (G.rw k) <;> simp
  ·exact a4j
theorem zU {W0:World} {M:Own} {G:Gh} {s:St} {w:World} {foot:List (Nat ⊕ Nat)} (hn:foot.Nodup) (h:Mem W0 M G s w):(foot.flatMap (own G s)).Nodup:=by
 induction foot with
 | nil=>exact a4j
 | cons x foot ih=>
  rw [a30] at hn;rw [a3C,a32];refine⟨Mm h x,ih hn.2,λb hb b' hb' e=>?_⟩;subst e;obtain⟨y,hy,hyb⟩:=List.mem_flatMap.1 hb';have:=h.dj x y b hb hyb;subst this;exact hn.1 hy
section
variable {P:Program} {o:Oper}
theorem Hx {cap:Array Value} {a:Act} {w:World} {c:Call} {f:FuncId} {S:vH} (ho:o.op= .call c) (hc:a.eval (match c.callee with | .value x=>x | _=> .const .nilFunc)= .func (.func f) #[] cap) (hv:∃ x,c.callee= .value x) (hf:Qv P f S) :
  (execOp a.eval o).run P w= .ok (.enter f (c.args.map a.eval ++ cap)) w:=by
 obtain⟨x,hx⟩:=hv;obtain⟨fn,h1,h2,h3⟩:=hf.isf;rw [hx] at hc;simp only at hc;have hb:fn.body.isNone=false:=by cases hfb:fn.body with
  | none=>rw [hfb] at h2;cases h2
  | some b=>rfl
 have hcf:∀ args,(callFunc f args).run P w= .ok (.enter f args) w:=λargs=>by
  have h4:¬ fn.name= "runtime.NumGoroutine" :=by simpa using h3
  have h5:¬ fn.body=none:=by intro e;rw [e] at h2;cases h2
  unfold callFunc;simp [h1,h4,h5]
 unfold execOp;rw [ho];simp only [resolve,hx,hc,Deferred.ofValue];simp [invoke,hcf]
theorem AVs.app {G:Gh} {s:St} {w:World}:∀ {xs ys:List AV} {us vs:List Value},AVs G s w xs us->AVs G s w ys vs->AVs G s w (xs ++ ys) (us ++ vs)
 | [],_,us,_,h,k=>by simp only [AVs] at h;subst h;exact k
 | x :: xs,ys,us,vs,h,k=>by
  simp only [AVs] at h;obtain⟨v,r,rfl,h1,h2⟩:=h;simp only [a3x,AVs];exact⟨v,r ++ vs,rfl,h1,AVs.app h2 k⟩
theorem JN {G:Gh} {c:Call} {x:Operand} {cap:Array Value} {ex:List AV} {f:FuncId} {S:vH} {W0:World} {M:Own} {s:St} {a:Act} {w:World} {K:List Upd->Prop} {Q':Exit->Act->World->Prop} (ho:o.op= .call c) (hcx:c.callee= .value x) (hc:a.eval x= .func (.func f) #[] cap) (hf:Qv P f S)
  (hd:∀ d,o.dst=some d->d < s.n) (h:Rel W0 M G s a w) (hex:AVs G s w ex cap.toList) (hq:(Ml S o c ex).wp s K):o.wp P a w (λa' w'=>∃ us,K us/\uw W0 M (s.app us) a' w') Q':=by
 have hal:(c.args.map a.eval ++ cap).toList=c.args.toList.map a.eval ++ cap.toList:=by rw [Array.toList_append,Array.toList_map]
 unfold Ml at hq;rw [Q.wp_bind] at hq;obtain⟨xs,hq1,hxs⟩:=Hh h hq;clear hq;rw [Q.wp_bind] at hq1;obtain⟨k,foot,hq2,T⟩:=xR h.mem _ (hxs.app hex) hq1;clear hq1;obtain⟨⟨hnd,hfz,hpre⟩,hq3⟩:=hq2;have hrun:=Hx (w:=w) (a:=a) ho (by rw [hcx];exact hc) ⟨_,hcx⟩ hf;cases hfl:S.flat && k.tops.isEmpty && k.ids.isEmpty with
 | true=>
  rw [hfl] at hq3;obtain⟨⟨_,hres0⟩,hq3⟩:=hq3;rw [Q.wp_bind] at hq3;obtain⟨us1,G1,hq4,m1,e1,hfd,_⟩:=nU s hq3 h.mem (Frz.refl s);rw [Q.wp_bind] at hq4;rw [a24,a24,List.isEmpty_iff,List.isEmpty_iff] at hfl;have hfoot0:foot=[]:=List.eq_nil_iff_forall_not_mem.2 λx hx=>by
   have:=(T.mem x).1 hx;rw [hfl.1.2,hfl.2] at this;rcases this with h | h <;> cases h
  have hoas:=T.oas G1.I ⟨e1.I,hfd,λx hx=>by rw [hfoot0] at hx;cases hx⟩;rw [hfoot0] at hoas;have hcalls:=hf.calls w G1.I [] (c.args.map a.eval ++ cap) k.xs m1.In m1.gl (by rw [hal];exact hoas) a4j hpre;unfold Oper.wp;rw [hrun];refine Calls.mono hcalls λe w' he=>?_
  match e,he with
  | .panicked _,he=>exact he.elim
  | .outgrown,he=>exact he.elim
  | .returned v,⟨I',vs,Fp,Fr',hve,R⟩=>
  subst hve;show ∃ us,K us/\uw W0 M (s.app us) (a.put o.dst (Ts vs)) w';have hg:w.grownBy w' none:=⟨R.fr.os,R.fr.tape,R.fr.output,R.fr.size,λb hb _=>R.fr.block b hb (by simp)⟩;obtain⟨m2,e2⟩:=h.mem.grow hg;obtain⟨r,G5,hq8,m5,hav⟩:=Bq (s0:=s) _ hq4 m2 (Mj hres0 R.res) a4j (λb hb=>by cases hb) (λ_ _=>⟨rfl,rfl⟩);refine⟨_,hq8,?_⟩;rw [St.app_append];have hrel:=h.mem' (e2.trans m5.ext) m5.mem m5.n_ m5.t;exact hrel.putOne (λd e=>by rw [m5.n_];exact hd d e) (Tu hav)
 | false=>
 rw [hfl] at hq3;simp only at hq3;rw [Q.wp_bind] at hq3;obtain⟨us1,G1,hq4,m1,e1,hfd,hfrz,hbx,hrw,hfr,hexq⟩:=nU s hq3 h.mem (Frz.refl s);clear hq3;rw [Q.wp_bind] at hq4;have hv1:eM 0 s (s.app us1):=λk _=>⟨by rw [hfrz.2.2.1],(hfrz.2.2.2 k).1⟩;obtain⟨us2,hq5,m2,e2,hv2,D⟩:=Bn hq4 m1 hv1;clear hq4;rw [Q.wp_bind] at hq5;have hown1:∀ x,own G1 (s.app us1) x=own G s x:=λx=>hfrz.own hbx hrw hexq x;have hless:∀ x b,b ∈ own G1 ((s.app us1).app us2) x->b ∈ own G s x:=λx b hx=>by rw [<-hown1];exact D.less x b hx
 have hfoot:=T.nodup hnd;rw [a32] at hnd;obtain⟨hnd1,hnd2,hnd3⟩:=hnd;have hfixed:Bm G s w G1.I k.fz foot:=by
  refine⟨e1.I,hfd,λx hx g hg o' hi=>?_⟩;have hg1:g ∈ own G1 (s.app us1) x:=by rw [hown1];exact hg
  rcases x with id | id
  ·obtain⟨hs,rfl⟩:=AO.1 hg1;exact m1.bI id hs o' hi
  ·obtain⟨R,hRs,hRf⟩:=T.live _ hx;obtain⟨fr,hR1,_⟩:=(hfrz.2.2.2 id).2.2 R hRs;obtain⟨R2,hR2,hg2⟩:=rj.1 hg1;rw [hR1] at hR2;injection hR2 with hR2;subst hR2;rcases hg2 with hg1 | ⟨he2,hg2⟩
   rotate_left
   ·exact(m1.sx id _ hR1 he2).2 g hg2 o' hi
   have hfr1:=(m1.rI id _ g hR1 hg1 o' hi).1;rcases hfr id _ hR1 hfr1 with⟨R',r1,r2⟩ | r1
   ·rw [hRs] at r1;injection r1 with r1;subst r1;rw [hRf] at r2;cases r2
   ·exact hfz id r1 (List.mem_append.2 ((T.mem _).1 hx))
 have hoas:=T.oas G1.I hfixed;have hFn:=zU hfoot h.mem;have hFmem:∀ b,b ∈ foot.flatMap (own G s)->∃ x ∈ foot,b ∈ own G s x:=λb hb=>by simpa [List.mem_flatMap] using hb
 have hFM:∀ b ∈ foot.flatMap (own G s),W0.heap.size<=b\/M b:=λb hb=>by
  obtain⟨x,_,hx⟩:=hFmem b hb;exact h.mem.oM x b hx
 have hF2:∀ x b,b ∈ own G1 ((s.app us1).app us2) x->b ∈ foot.flatMap (own G s)->x ∈ k.tops:=λx b hx hb=>by
  obtain⟨y,hy,hyb⟩:=hFmem b hb;have hxy:=h.mem.dj x y b (hless x b hx) hyb;subst hxy;rcases(T.mem x).1 hy with h5 | h5
  ·exact h5
  ·rw [D.gone x h5] at hx;cases hx
 have hcalls:=hf.calls w G1.I (foot.flatMap (own G s)) (c.args.map a.eval ++ cap) k.xs m1.In m1.gl (by rw [hal];exact hoas) hFn hpre;unfold Oper.wp;rw [hrun];refine Calls.mono hcalls λe w' he=>?_
 match e,he with
 | .panicked _,he=>exact he.elim
 | .outgrown,he=>exact he.elim
 | .returned v,⟨I',vs,Fp,Fr',hve,R⟩=>
 subst hve;show ∃ us,K us/\uw W0 M (s.app us) (a.put o.dst (Ts vs)) w';have hpost:=R.post;rw [hal] at hpost;rw [po T.tops] at hpost;have hfit:=xT hq5;obtain⟨us3,hq6,J⟩:=Bo (G:=G) hq5 hv2 hnd1 hpost;clear hq5;rw [Q.wp_bind] at hq6;have hbxe:∀ id,G1.bx id=G.bx id:=λid=>by rw [hbx]
 have hrwe:∀ id,G1.rw id=G.rw id:=λid=>by rw [hrw]
 have hni:∀ x ∈ k.tops,x ∉ k.ids:=λx hx h5=>hnd3 x hx _ h5 rfl;have hlv:∀ x ∈ k.tops,live s x:=λx hx=>T.live x ((T.mem _).2 (.inl hx));have hlr:∀ id,Sum.inr id ∈ k.tops->(((s.app us1).app us2).r id).c.isSome=true:=λid hid=>by
  obtain⟨R0,hR0,_⟩:=hlv _ hid;obtain⟨fr,hR1,_⟩:=(hfrz.2.2.2 id).2.2 R0 hR0;rw [D.r id (hni _ hid),hR1];rfl
 obtain⟨m3,e3⟩:=m2.call (s':=((s.app us1).app us2).app us3) (F:=foot.flatMap (own G s)) (I':=I') (tops:=k.tops) J.r J.b (λid hid=>by
  obtain⟨a1,a2,a3⟩:=J.tr id hid;obtain⟨R0,hR0,hE0⟩:=T.rx _ hid;obtain⟨fr,hR1,_⟩:=(hfrz.2.2.2 id).2.2 R0 hR0;exact⟨hlr id hid,a1,by rw [hrwe];exact a2,by rw [hrwe];exact a3,⟨R0.es,R0.sz,R0.e,fr⟩,by rw [D.r id (hni _ hid)];exact hR1,hE0⟩) (λid hid=>by
  have hl:=hlv _ hid;obtain⟨a1,a2,a3⟩:=J.tb id hid;refine⟨?_,a1,by rw [hbxe];exact a2,by rw [hbxe];exact a3⟩;rw [D.b id (hni _ hid),hfrz.2.2.1];exact hl) hF2 hFM R.fr R.sub R.keep R.new R.lt
 have hown3:∀ x b,b ∈ own ⟨I',G1.bx,G1.rw,G1.st,G1.ex⟩ (((s.app us1).app us2).app us3) x->b ∈ own G1 ((s.app us1).app us2) x:=λx b hx=>by
  rcases x with id | id
  ·by_cases hid:Sum.inl id ∈ k.tops
   ·have hl:=hlv _ hid;simp only [live] at hl;have:(((s.app us1).app us2).b id).c.isSome=true:=by rw [D.b id (hni _ hid),hfrz.2.2.1];exact hl
    obtain⟨_,⟨n,cs,cur,ty,h3,_⟩,_⟩:=J.tb id hid;simp only [own,h3,this] at hx ⊢;exact hx
   ·simp only [own,J.b id hid] at hx ⊢;exact hx
  ·by_cases hid:Sum.inr id ∈ k.tops
   ·obtain⟨R0,hR0,hE0⟩:=T.rx _ hid;obtain⟨fr,hR1,_⟩:=(hfrz.2.2.2 id).2.2 R0 hR0;obtain⟨_,⟨R',h3,_,h9⟩,_⟩:=J.tr id hid;obtain⟨R2,h10,h11⟩:=rj.1 hx;rw [h3] at h10;injection h10 with h10;subst h10;rcases h11 with h11 | ⟨h11,_⟩
    ·exact nT (by rw [D.r id (hni _ hid)];exact hR1) h11
    ·exact absurd h11 (eZ h9)
   ·simp only [own,J.r id hid] at hx ⊢;exact hx
 have hnodup:=R.nodup;rw [a32] at hnodup;have hTF:∀ b ∈ Fp ++ Fr',(∀ x,b ∈ own ⟨I',G1.bx,G1.rw,G1.st,G1.ex⟩ (((s.app us1).app us2).app us3) x->x ∈ k.tops)/\(W0.heap.size<=b\/M b):=λb hb=>by
  rcases R.own b hb with h5 | h5
  ·exact⟨λx hx=>hF2 x b (hown3 x b hx) h5,hFM b h5⟩
  ·exact⟨λx hx=>by have:=m2.ownlt (hown3 x b hx);omega,.inl (a3w h.mem.fr.size h5)⟩
 have hmap:k.tops.map (kw ⟨I',G1.bx,G1.rw,G1.st,G1.ex⟩)=k.tops.map (kw G):=a37 λj _=>by cases j <;> simp only [kw,hbxe,hrwe]
 obtain⟨p,G4,hq7,m4,e4,hI4,hv4,hown4,hn4,ht4⟩:=Bp hq6 hfit m3 (λx hid=>by
  cases x with
  | inr id=>
   obtain⟨_,⟨R',h3,_,h5⟩,_⟩:=J.tr id hid;exact⟨R',h3,h5⟩
  | inl id=>
   refine⟨(J.ver id (a3B _)).1,?_⟩;obtain⟨_,⟨n,cs,cur,ty,h3,_⟩,_⟩:=J.tb id hid;rw [h3];rfl) (J.ver.le (a3B _)) (by rw [hmap];exact hpost) hnd1 hnodup.1 (λb hb=>hTF b (by simp [hb]))
 clear hq6;rw [Q.wp_bind] at hq7;obtain⟨r,G5,hq8,m5,hav⟩:=Bq _ hq7 m4 (by rw [hI4];exact R.res) hnodup.2.1 (λb hb=>by
  refine⟨λx hx=>?_,(hTF b (by simp [hb])).2⟩;rcases hown4 x b hx with h5 | h5
  ·have ht:=(hTF b (by simp [hb])).1 x h5;have hbt:uL G x=some b:=by
    have:=sj h5 (by
     cases x with
     | inl _=>trivial
     | inr id=>
      obtain⟨_,⟨R',h3,_,h5⟩,_⟩:=J.tr id ht;exact⟨R',h3,h5⟩)
    cases x <;> simp only [uL,hbxe,hrwe] at this ⊢ <;> exact this
   exact hnodup.2.2 b (sk hfit hpost x ht b hbt) b hb rfl
  ·exact hnodup.2.2 b h5 b hb rfl) hv4
 clear hq7;refine⟨_,hq8,?_⟩;rw [St.app_append,St.app_append,St.app_append,St.app_append,St.app_append];have E:=(((e1.trans e2).trans e3).trans e4).trans m5.ext;have hn5:(((((s.app us1).app us2).app us3).app p.us).app r.us).n=s.n:=(m5.n_.trans hn4).trans ((J.n_.trans D.n_).trans hfrz.1);have ht5:(((((s.app us1).app us2).app us3).app p.us).app r.us).t=s.t:=(m5.t.trans ht4).trans ((J.t.trans D.t).trans hfrz.2.1);have hrel:=h.mem' E m5.mem hn5 ht5;exact hrel.putOne (λd e=>by rw [hn5];exact hd d e) (Tu hav)
end
theorem pp {α:Type} {xs:Array α} {x:α} (h:xs.toList=[x]):xs= #[x]:=by
 cases xs;simp only at h;subst h;rfl
def Tv:List DV->Int
 | .v (.int _ n) :: _=>n
 | _=>0
def Tw:List DV->List UInt8
 | .v (.string b) :: _=>b.data.toList
 | _=>[]
def Xq (es:List (List DV)):Prop:=(∀ c ∈ es,∃ n r,c= .v (.int .i64 n) :: r)/\(es.map Tv).Nodup/\(∀ x ∈ es.map Tv,(Lit.int .i64 x).wf=true)/\es.length<=maxLen/\es.length * 8<=140737488355328
def Xr (es:List (List DV)):Prop:=(∀ c ∈ es,∃ l r,c= .v (Qu l) :: r)/\(es.map Tw).Nodup/\(∀ x ∈ es.map Tw,x.length<=maxLen)/\es.length<=maxLen/\es.length * 16<=140737488355328
def sortI (es:List (List DV)):List (List DV):=((es.map Tv).mergeSort λx y=>decide (x<=y)).map λx=>[.v (.int .i64 x)]
def sortS (es:List (List DV)):List (List DV):=((es.map Tw).mergeSort λx y=>decide (x<=y)).map λx=>[.v (Qu x)]
def UU (f1:FuncId) (o:Oper):List AV->Q (List Upd)
 | [.c (.row id ver)]=>(Q.ofOpt o.dst).bind λd=> .rdR id λr=>match r.c with
  | some R=> .req (ver=r.ver/\ja<=R.e/\R.e ≠ qQ/\¬ kQ R.e) (.rdB d λb=> .ret [.b d ⟨b.ver + 1,some [.row id ver]⟩,.t d ⟨true,.clo f1 d (b.ver + 1)⟩])
  | none=> .fail
 | _=> .fail
def Mp (f1:FuncId) (e:TypeId) (good:List (List DV)->Prop) (srt:List (List DV)->List (List DV)) (o:Oper):List AV->Q (List Upd)
 | [.clo f id ver]=>(Q.ofOpt o.dst).bind λd=> .rdB id λb=>match b.c with
  | some [.row rid rver]=> .rdR rid λr=>match r.c with
   | some R=> .req (f=f1/\ver=b.ver/\rver=r.ver/\ja<=R.e/\(R.e ≠ qQ/\¬ kQ R.e)/\mKs R.e=1/\mKa R.e=false/\e < ja/\good R.es) (.rdR d λrd=> .ret [.r d ⟨rd.ver + 1,some ⟨srt R.es,1,e,false⟩⟩,.t d ⟨true,.c (.row d (rd.ver + 1))⟩])
   | none=> .fail
  | _=> .fail
 | _=> .fail
def spQ (sp:Sp) (o:Oper) (c:Call):Q (List Upd):=(evs c.args.toList).bind λxs=>match sp with
 | .none=> .fail
 | .keys f1=>UU f1 o xs
 | .sortI f1 e=>Mp f1 e Xq sortI o xs
 | .sortS f1 e=>Mp f1 e Xr sortS o xs
section
variable {P:Program} {W0:World} {M:Own} {G:Gh} {s:St} {a:Act} {w:World} {o:Oper} {K:List Upd->Prop} {Q':Exit->Act->World->Prop}
theorem Tx {I:Nat->Nat->Prop} {e:Nat} (h1:mKs e=1) (h2:mKa e=false):∀ {es:List (List DV)} {ms:List MapEntry},MEs I w e es ms->(∀ c ∈ es,∃ n r,c= .v (.int .i64 n) :: r)->ms.map (·.key)=(es.map Tv).map (Value.int .i64)
 | [],ms,h,_=>by simp only [MEs] at h;subst h;rfl
 | c :: es,ms,h,hk=>by
  simp only [MEs] at h;obtain⟨m,r,rfl,hm,hr⟩:=h;obtain⟨n,q,hc⟩:=hk c (by simp);have:=(LX (k:= .int .i64) h1 h2 hm ⟨_,q,hc,rfl⟩).1;rw [a3h,a3h,a3h,Tx h1 h2 hr (λc hc=>hk c (by simp [hc])),this,hc];rfl
theorem Ty {I:Nat->Nat->Prop} {e:Nat} (h1:mKs e=1) (h2:mKa e=false):∀ {es:List (List DV)} {ms:List MapEntry},MEs I w e es ms->(∀ c ∈ es,∃ l r,c= .v (Qu l) :: r)->ms.map (·.key)=(es.map Tw).map Qu
 | [],ms,h,_=>by simp only [MEs] at h;subst h;rfl
 | c :: es,ms,h,hk=>by
  simp only [MEs] at h;obtain⟨m,r,rfl,hm,hr⟩:=h;obtain⟨n,q,hc⟩:=hk c (by simp);have:=(LX (k:= .str) h1 h2 hm ⟨_,q,hc,trivial⟩).1;rw [a3h,a3h,a3h,Ty h1 h2 hr (λc hc=>hk c (by simp [hc])),this,hc];rfl
theorem xW {c:Call} {x:Operand} {f:FuncId} {S:vH} (ho:o.op= .call c) (hcx:c.callee= .value x) (hc:a.eval x= .func (.func f) #[] #[]) (hf:Qv P f S) {post:Ending->World->Prop}
  (hcalls:Calls P f (c.args.map a.eval) w post) (hk:∀ e w',post e w'->∃ v,e= .returned v/\∃ us,K us/\uw W0 M (s.app us) (a.put o.dst v) w'):pg P W0 M s o a w K Q':=by
 have hrun:=Hx (w:=w) (a:=a) ho (by rw [hcx];exact hc) ⟨_,hcx⟩ hf;unfold pg Oper.wp;rw [hrun];refine Calls.mono hcalls λe w' he=>?_;obtain⟨v,rfl,h⟩:=hk e w' he;exact h
theorem Dc {c:Call} {x:Operand} {f f1:FuncId} {S:vH} {e:TypeId} {good:List (List DV)->Prop} {srt:List (List DV)->List (List DV)} (ho:o.op= .call c) (hcx:c.callee= .value x) (hc:a.eval x= .func (.func f) #[] #[]) (hf:Qv P f S)
  (hsort:∀ (w:World) (I:Nat->Nat->Prop) (b g:Nat) (ty:TypeId) (en:Array MapEntry) (clock:Nat) (me:Nat) (es:List (List DV)),w.heap[b]?=some (.cells #[.map (some g)] ty (0,0))->w.heap[g]?=some (.map en clock)->Lu en.toList clock->
   mKs me=1->mKa me=false->MEs I w me es en.toList->good es->Calls P f #[Jt f1 b] w λo w'=>∃ v ks,o= .returned v/\w'.ownsRow w.heap.size e 1 v (srt es).length ks/\(∀ I' w'',U3 I' w'' (srt es) ks)/\(∀ c ∈ srt es,c.length=1)/\RowKit.Below w.heap.size w w')
  (hd:∀ d,o.dst=some d->d < s.n) (_hR:uw W0 M s a w) {xs:List AV} {vs:List Value} (hargs:(c.args.map a.eval).toList=vs) (hxs:AVs G s w xs vs) (h:Rel W0 M G s a w) (hq:(Mp f1 e good srt o xs).wp s K):pg P W0 M s o a w K Q':=by
 unfold Mp at hq;split at hq
 ·rename_i f' id ver;rw [Q.wp_bind] at hq;obtain⟨d,hdd,hq1⟩:=W2 hq;clear hq;simp only [Q.wp] at hq1;split at hq1
  ·rename_i rid rver hb;simp only [Q.wp] at hq1;split at hq1
   ·rename_i R hRr;obtain⟨⟨rfl,hver,hrver,hE,hEi,hm1,hm2,heF,hgood⟩,hq2⟩:=hq1;simp only [Q.wp] at hq2;simp only [AVs,AVr] at hxs;obtain⟨v,r,rfl,⟨_,hclo⟩,rfl⟩:=hxs;obtain rfl:=hclo hver (by rw [hb];rfl);obtain⟨cur,ty,hbx,hac⟩:=h.mem.bx id _ hb;simp only [ACs,ACr] at hac;obtain⟨u,r,hcur,⟨_,_,hrow⟩,rfl⟩:=hac;have hu:=hrow hrver (by rw [hRr];rfl);obtain⟨g,en,clock,hrw,hg,hme,hborn,hsz,hlen⟩:=h.mem.map_at hRr hE hEi;have hcur':cur= #[.map (some g)]:=by rw [<-hrw,<-hu];exact pp hcur
    subst hcur';have hargs':c.args.map a.eval= #[Jt f' (G.bx id)]:=pp hargs;refine xW ho hcx hc hf (by rw [hargs'];exact hsort w G.I (G.bx id) g ty en clock R.e R.es hbx hg hborn hm1 hm2 hme hgood) ?_;rintro ex w' ⟨v,ks,rfl,hown,hdv,h1,hB⟩;refine⟨v,rfl,_,hq2,?_⟩;have hgr:w.grownBy w' none:=⟨hB.os,hB.tape,hB.output,hB.size,λk hk _=>hB.block k hk⟩;obtain⟨m1,e1⟩:=h.mem.grow hgr;have hbk:∀ b,obk v=some b->w.heap.size<=b:=λb hb'=>by
     rcases hown.2 with⟨rfl,_⟩ | ⟨g',cap,cur',rfl,hle,_⟩
     ·cases hb'
     ·injection hb' with hb';subst hb';exact hle
    have hown0:w'.ownsRow 0 e 1 v (srt R.es).length ks:=by
     refine⟨hown.1,?_⟩;rcases hown.2 with hn | ⟨g',cap,cur',hv,_,rest⟩
     ·exact .inl hn
     ·exact .inr ⟨g',cap,cur',hv,a3B _,rest⟩
    have hrowok:jb G.I w' v ⟨srt R.es,1,e,false⟩:=⟨Nat.one_pos,h1,.inl ⟨heF,ks,hown0,hdv _ _⟩⟩;obtain⟨m2,e2⟩:=m1.addRow d ((s.r d).ver + 1) v ⟨srt R.es,1,e,false⟩ (a4o _) hrowok (λx b hv hx=>by have:=h.mem.ownlt hx;have:=hbk b hv;omega) (λg hv o hi=>by have:=h.mem.In _ _ hi;have:=hbk g hv;omega) (λg hv=> .inl (a3w h.mem.fr.size (hbk g hv)));have h2:=h.mem' (e1.trans e2) m2 rfl rfl;rw [hdd];refine⟨_,h2.put (show d < (s.setR d _).n from hd d hdd) ⟨λ_=>?_,λe=>by cases e⟩⟩;simp only [AVr,ACr,St.setR,upd,a3H];exact⟨hrowok.one,a3j _,λ_ _=>trivial⟩
   ·exact hq1.elim
  ·exact hq1.elim
 ·exact hq.elim
theorem Tz (I:Nat->Nat->Prop) (w:World):∀ ks:List Int,U3 I w (ks.map λx=>[DV.v (.int .i64 x)]) (ks.map (Value.int .i64))
 | []=>by simp [U3]
 | k :: ks=>by
  simp only [a3h,U3,aU,DVr];exact⟨[_],_,rfl,⟨_,[],rfl,⟨rfl,rfl⟩,rfl⟩,Tz I w ks⟩
theorem TA (I:Nat->Nat->Prop) (w:World):∀ ks:List (List UInt8),U3 I w (ks.map λx=>[DV.v (Qu x)]) (ks.map Qu)
 | []=>by simp [U3]
 | k :: ks=>by
  simp only [a3h,U3,aU,DVr];exact⟨[_],_,rfl,⟨_,[],rfl,⟨rfl,rfl⟩,rfl⟩,TA I w ks⟩
theorem UV {c:Call} {x:Operand} {f:FuncId} {S:vH} {sp:Sp} (ho:o.op= .call c) (hcx:c.callee= .value x) (hc:a.eval x= .func (.func f) #[] #[]) (hf:Qv P f S) (hsp:S.sp=sp)
  (hd:∀ d,o.dst=some d->d < s.n) (hR:uw W0 M s a w) (hq:(spQ sp o c).wp s K):pg P W0 M s o a w K Q':=by
 obtain⟨G,h⟩:=hR;unfold spQ at hq;rw [Q.wp_bind] at hq;obtain⟨xs,hq1,hxs⟩:=Hh h hq;clear hq
 revert hq1
 intro hq;have hargs:(c.args.map a.eval).toList=c.args.toList.map a.eval:=by rw [Array.toList_map]
 have hok:=hf.sp;rw [hsp] at hok;cases sp with
 | none=>exact hq.elim
 | keys f1=>
  obtain⟨tm,hok⟩:=hok;simp only at hq;unfold UU at hq;split at hq
  ·rename_i id ver;rw [Q.wp_bind] at hq;obtain⟨d,hdd,hq1⟩:=W2 hq;clear hq;simp only [Q.wp] at hq1;split at hq1
   ·rename_i R hRr;obtain⟨⟨hver,hE,hEi⟩,hq2⟩:=hq1;simp only [Q.wp] at hq2;have hxs0:=hxs;simp only [AVs,AVr,ACr] at hxs;obtain⟨v,r,hv,⟨hone,hle,hrow⟩,rfl⟩:=hxs;have hu:=hrow hver (by rw [hRr];rfl);obtain⟨g,en,clock,hrw,_⟩:=h.mem.map_at hRr hE hEi;rw [hrw] at hu;subst hu;have hargs':c.args.map a.eval= #[.map (some g)]:=pp (hargs.trans hv);refine xW ho hcx hc hf (by rw [hargs'];exact hok g w) ?_;rintro ex w' ⟨rfl,rfl⟩;refine⟨_,rfl,_,hq2,?_⟩;obtain⟨m1,e1⟩:=h.mem.grow (lW w (.cells #[.map (some g)] tm));have hac:ACs G s w [.row id ver] [.map (some g)]:=by
     simp only [ACs,ACr];exact⟨_,[],rfl,⟨rfl,hle,λ_ _=>hrw.symm⟩,rfl⟩
    obtain⟨m2,e2⟩:=m1.addBox d ((s.b d).ver + 1) w.heap.size [.row id ver] (a4o _) ⟨#[.map (some g)],tm,heap_alloc_new w _,e1.acs hac⟩ (λx hx=>by have:=h.mem.ownlt hx;omega) (λo hi=>by have:=h.mem.In _ _ hi;omega) (.inl h.mem.fr.size);have h2:=h.mem' (e1.trans e2) m2 rfl rfl;rw [hdd];refine⟨_,h2.put (show d < (s.setB d _).n from hd d hdd) ⟨λ_=>?_,λe=>by cases e⟩⟩;simp only [AVr,St.setB,upd,a3H];exact⟨a3j _,λ_ _=>trivial⟩
   ·exact hq1.elim
  ·exact hq.elim
 | sortI f1 e=>
  refine Dc ho hcx hc hf ?_ hd ⟨G,h⟩ hargs hxs h hq;intro w I b g ty en clock me es hb hg hborn h1 h2 hme hgood;obtain⟨g1,g2,g3,g4,g5⟩:=hgood;refine(hok w b g ty en clock (es.map Tv) hb hg hborn (Tx h1 h2 hme g1) g2 g3 (by simpa using g4) (by simpa using g5)).mono ?_;rintro ex w' ⟨v,rfl,hown,hB⟩;refine⟨v,_,rfl,?_,λI' w''=>Tz I' w'' _,λc hc=>?_,hB⟩
  ·rw [show(sortI es).length=(es.map Tv).length from by simp [sortI]];exact hown
  ·obtain⟨k,_,rfl⟩:=List.mem_map.1 hc;rfl
 | sortS f1 e=>
  refine Dc ho hcx hc hf ?_ hd ⟨G,h⟩ hargs hxs h hq;intro w I b g ty en clock me es hb hg hborn h1 h2 hme hgood;obtain⟨g1,g2,g3,g4,g5⟩:=hgood;refine(hok w b g ty en clock (es.map Tw) hb hg hborn (Ty h1 h2 hme g1) g2 g3 (by simpa using g4) (by simpa using g5)).mono ?_;rintro ex w' ⟨v,rfl,hown,hB⟩;refine⟨v,_,rfl,?_,λI' w''=>TA I' w'' _,λc hc=>?_,hB⟩
  ·rw [show(sortS es).length=(es.map Tw).length from by simp [sortS]];exact hown
  ·obtain⟨k,_,rfl⟩:=List.mem_map.1 hc;rfl
end
def UR (T:TypeId->Option TI):List ResultVar->Q (List AV)
 | []=> .ret []
 | .tmp t :: rs=>(ev (.tmp t)).bind λv=>(UR T rs).bind λvs=> .ret (v :: vs)
 | .cell a t :: rs=>(tq T t).bind λi=>(ev (.tmp a)).bind λp=>(Jv i p).bind λv=>(UR T rs).bind λvs=> .ret (v :: vs)
def Xp (n:Nat):Nat->Q (List AV)
 | 0=> .ret []
 | m + 1=> .rdT n λx=>(Xp (n + 1) m).bind λvs=> .ret (x.x :: vs)
def cR:List OA->List AV->List AV
 | .bx _ :: xs,v :: vs=>v :: cR xs vs
 | .rx _ _ _ :: xs,v :: vs=>v :: cR xs vs
 | _ :: xs,_ :: vs=>cR xs vs
 | _,_=>[]
def tU (g:Bool) (i:Nat):List AV->List Upd
 | []=>[]
 | v :: vs=> .t i ⟨g,v⟩ :: tU g (i + 1) vs
def UT (T:TypeId->Option TI) (n m:Nat) (rs:List ResultVar) (sh:List ASh) (post:List OA) (res:List OA):Q Unit:=
 (Xp n m).bind λps=>(UR T rs).bind λvs=>(xQ sh (ps ++ vs)).bind λk=>
 .req (k.xs=post ++ res/\(k.tops ++ k.ids).Nodup/\∀ id ∈ k.fz,Sum.inr id ∉ k.tops ++ k.ids) ((kT k.fz).bind λ_=> .ret ())
def a1w (T:TypeId->Option TI) (n m:Nat) (rs:List ResultVar) (sh:List ASh) (post:List OA) (res:List OA):AX->St->Prop
 | .exit _,_=>False
 | _,s=>s.n=n/\post.length=m/\(UT T n m rs sh post res).wp s λ_=>True
section
variable {P:Program} {T:TypeId->Option TI} {W0:World} {M:Own} {G:Gh} {s:St} {a:Act} {w:World}
def WE (tmps:Array Value):ResultVar->Sem Value
 | .tmp t=>pure (tmps.getD t undef)
 | .cell a t=>do loadVar t (<-asAddr (tmps.getD a undef))
theorem JO (fn:Func) (tmps:Array Value):results fn tmps=(do let vs<-fn.results.mapM (WE tmps);pure (if h:vs.size=1 then vs[0] else .tuple vs)):=by
 unfold results;congr 1
theorem EX (h:Rel W0 M G s a w) (hT:∀ t i,T t=some i->TOk P t i):∀ {rs:List ResultVar} {K:List AV->Prop},(UR T rs).wp s K->∃ avs vs,K avs/\AVs G s w avs vs/\(rs.mapM (WE a.tmps)).run P w= .ok vs w
 | [],K,hq=>⟨[],[],hq,by simp [AVs],rfl⟩
 | .tmp t :: rs,K,hq=>by
  simp only [UR,Q.wp_bind] at hq;obtain⟨v,hq,h1⟩:=eY h hq;obtain⟨avs,vs,hq,h2,h3⟩:=EX h hT hq;refine⟨_,a.eval (.tmp t) :: vs,hq,by simp only [AVs];exact⟨_,_,rfl,h1,h2⟩,?_⟩;have e:a.eval (.tmp t)=a.tmps.getD t undef:=rfl;rw [a5w,e];simp [WE,h3]
 | .cell b t :: rs,K,hq=>by
  simp only [UR,Q.wp_bind] at hq;obtain⟨i,hi,hq⟩:=W2 hq;obtain⟨p,hq,h1⟩:=eY h hq;obtain⟨y,v,ad,hp,hq,hy,hrun⟩:=LE h (hT t i hi) h1 hq;obtain⟨avs,vs,hq,h2,h3⟩:=EX h hT hq;refine⟨_,v :: vs,hq,by simp only [AVs];exact⟨_,_,rfl,hy,h2⟩,?_⟩;rw [a5w];have hp':a.tmps.getD b undef= .pointer (some ad):=hp;have hr1:(WE a.tmps (.cell b t)).run P w= .ok v w:=by
   simp only [WE,hp',Sem.run_bind];simp [asAddr,hrun]
  simp only [Sem.run_bind,hr1,Result.andThen_ok,h3];rfl
theorem EY {fn:Func} {tmps:Array Value} {vs:List Value} (h:(fn.results.toList.mapM (WE tmps)).run P w= .ok vs w):(results fn tmps).run P w= .ok (Ts vs) w:=by
 rw [JO,Array.mapM_eq_mapM_toList];simp only [Sem.run_bind,Sem.run_map,h,Result.andThen_ok]
 match vs with
 | []=>rfl
 | [v]=>rfl
 | v :: u :: vs=>rfl
theorem Qx (_h:Mem W0 M G s w) {k:Tas} {vs:List Value} {foot:List (Nat ⊕ Nat)} (T:Xl G s w k vs foot) (hfz:∀ id ∈ k.fz,Sum.inr id ∉ k.tops ++ k.ids) {us1:List Upd} {G1:Gh} (m1:Mem W0 M G1 (s.app us1) w) (e1:Ext G s w G1 (s.app us1) w)
  (hfd:∀ id ∈ k.fz,∀ R,(s.r id).c=some R->DVr G1.I w (.sl R.es) (G.rw id)) (hfrz:Frz s (s.app us1)) (hbx:G1.bx=G.bx) (hrw:G1.rw=G.rw) (hex:G1.ex=G.ex)
  (hfr:∀ id R,((s.app us1).r id).c=some R->R.fr=true->(∃ R',(s.r id).c=some R'/\R'.fr=true)\/id ∈ k.fz):Bm G s w G1.I k.fz foot:=by
 refine⟨e1.I,hfd,λx hx g hg o' hi=>?_⟩;have hg1:g ∈ own G1 (s.app us1) x:=by rw [hfrz.own hbx hrw hex];exact hg
 rcases x with id | id
 ·obtain⟨hs,rfl⟩:=AO.1 hg1;exact m1.bI id hs o' hi
 ·obtain⟨R,hRs,hRf⟩:=T.live _ hx;obtain⟨fr,hR1,_⟩:=(hfrz.2.2.2 id).2.2 R hRs;obtain⟨R2,hR2,hg2⟩:=rj.1 hg1;rw [hR1] at hR2;injection hR2 with hR2;subst hR2;rcases hg2 with hg1 | ⟨he2,hg2⟩
  rotate_left
  ·exact(m1.sx id _ hR1 he2).2 g hg2 o' hi
  have hfr1:=(m1.rI id _ g hR1 hg1 o' hi).1;rcases hfr id _ hR1 hfr1 with⟨R',r1,r2⟩ | r1
  ·rw [hRs] at r1;injection r1 with r1;subst r1;rw [hRf] at r2;cases r2
  ·have:=hfz id r1;rw [a4E] at this;exact this ((T.mem _).1 hx)
theorem OAs.len {I:Nat->Nat->Prop}:∀ {xs:List OA} {vs:List Value} {F:List Nat},OAs I w xs vs F->xs.length=vs.length
 | [],vs,F,h=>by simp only [OAs] at h;rw [h.1];rfl
 | c :: cs,vs,F,h=>by
  simp only [OAs] at h;obtain⟨x,r,F1,F2,rfl,_,h2,_⟩:=h;simp [OAs.len h2]
theorem OAs.split {I:Nat->Nat->Prop}:∀ {xs ys:List OA} {us vs:List Value} {F:List Nat},OAs I w (xs ++ ys) (us ++ vs) F->xs.length=us.length->∃ F1 F2,OAs I w xs us F1/\OAs I w ys vs F2/\F=F1 ++ F2
 | [],ys,us,vs,F,h,hl=>by
  have:us=[]:=a3e hl.symm;subst this;exact⟨[],F,by simp [OAs],h,rfl⟩
 | x :: xs,ys,us,vs,F,h,hl=>by
  cases us with
  | nil=>simp at hl
  | cons u us=>
   simp only [a3x,OAs] at h;obtain⟨v,r,F1,F2,e,h1,h2,rfl⟩:=h;injection e with e1 e2;subst e1;subst e2;obtain⟨F3,F4,k1,k2,rfl⟩:=OAs.split h2 (by simpa using hl);exact⟨F1 ++ F3,F4,by simp only [OAs];exact⟨u,us,F1,F3,rfl,h1,k1,rfl⟩,k2,by simp⟩
mutual
theorem OCr.notI {I:Nat->Nat->Prop}:∀ (c:OC) {v:Value} {F:List Nat},OCr I w c v F->∀ b ∈ F,∀ o,¬ I b o
 | .d _,v,F,h,b,hb,o=>by simp only [OCr] at h;rw [h.1] at hb;simp at hb
 | .e _,v,F,h,b,hb,o=>by simp only [OCr] at h;rw [h.1] at hb;simp at hb
 | .row _ e _,v,F,h,b,hb,o=>by
  simp only [OCr] at h;obtain⟨ex,_,rfl,h3,h4⟩:=h;rcases List.mem_append.1 hb with hb | hb
  ·exact h3 b o (by simpa using hb)
  ·by_cases he:kQ e
   ·rw [a28 he] at hb;exact(h4 he).2 b hb o
   ·rw [a25 he] at hb;cases hb
 | .box cs,v,F,h,b,hb,o=>by
  simp only [OCr] at h;obtain⟨g,cur,ty,Fs,_,_,h3,rfl,h5⟩:=h;rcases List.mem_cons.1 hb with rfl | hb
  ·exact h5 o
  ·exact OCs.notI cs h3 b hb o
theorem OCs.notI {I:Nat->Nat->Prop}:∀ (cs:List OC) {vs:List Value} {F:List Nat},OCs I w cs vs F->∀ b ∈ F,∀ o,¬ I b o
 | [],vs,F,h,b,hb,o=>by simp only [OCs] at h;rw [h.2] at hb;simp at hb
 | c :: cs,vs,F,h,b,hb,o=>by
  simp only [OCs] at h;obtain⟨x,r,F1,F2,rfl,h1,h2,rfl⟩:=h;rcases List.mem_append.1 hb with hb | hb
  ·exact OCr.notI c h1 b hb o
  ·exact OCs.notI cs h2 b hb o
end
theorem OAs.notI {I:Nat->Nat->Prop}:∀ (cs:List OA) {vs:List Value} {F:List Nat},OAs I w cs vs F->∀ b ∈ F,∀ o,¬ I b o
 | [],vs,F,h,b,hb,o=>by simp only [OAs] at h;rw [h.2] at hb;simp at hb
 | c :: cs,vs,F,h,b,hb,o=>by
  simp only [OAs] at h;obtain⟨x,r,F1,F2,rfl,h1,h2,rfl⟩:=h;rcases List.mem_append.1 hb with hb | hb
  ·cases c <;> simp only [OAr] at h1
   ·exact OCr.notI _ h1 b hb o
   ·obtain⟨vs,_,h1⟩:=h1;exact OCs.notI _ h1 b hb o
   ·exact OCr.notI _ h1 b hb o
   ·exact OCr.notI _ h1 b hb o
  ·exact OAs.notI cs h2 b hb o
theorem rt:∀ {xs:List OA} {avs:List AV} {vs:List Value},AVs G s w avs vs->AVs G s w (cR xs avs) (bw xs vs)
 | [],avs,vs,h=>by simp [cR,bw,AVs]
 | .bx cs :: xs,[],vs,h=>by simp only [AVs] at h;subst h;simp [cR,bw,AVs]
 | .bx cs :: xs,a :: avs,vs,h=>by
  simp only [AVs] at h;obtain⟨v,r,rfl,h1,h2⟩:=h;simp only [cR,bw,AVs];exact⟨v,_,rfl,h1,rt h2⟩
 | .rx _ _ _ :: xs,[],vs,h=>by simp only [AVs] at h;subst h;simp [cR,bw,AVs]
 | .rx _ _ _ :: xs,a :: avs,vs,h=>by
  simp only [AVs] at h;obtain⟨v,r,rfl,h1,h2⟩:=h;simp only [cR,bw,AVs];exact⟨v,_,rfl,h1,rt h2⟩
 | .c cs :: xs,[],vs,h=>by simp only [AVs] at h;subst h;simp [cR,bw,AVs]
 | .c cs :: xs,a :: avs,vs,h=>by
  simp only [AVs] at h;obtain⟨v,r,rfl,h1,h2⟩:=h;simp only [cR,bw];exact rt h2
 | .agg cs :: xs,[],vs,h=>by simp only [AVs] at h;subst h;simp [cR,bw,AVs]
 | .agg cs :: xs,a :: avs,vs,h=>by
  simp only [AVs] at h;obtain⟨v,r,rfl,h1,h2⟩:=h;simp only [cR,bw];exact rt h2
theorem Mn (h:Rel W0 M G s a w):∀ {vs:List Value} {i:Nat} {K:List AV->Prop},(∀ k x,vs[k]?=some x->M.pin (i + k)=x)->(Xp (s.n + i) vs.length).wp s K->∃ avs,K avs/\AVs G s w avs vs
 | [],i,K,_,hq=>⟨[],hq,by simp [AVs]⟩
 | v :: vs,i,K,hp,hq=>by
  simp only [a27,Xp,Q.wp] at hq;rw [Q.wp_bind] at hq;obtain⟨avs,hq,h2⟩:=Mn h (i:=i + 1) (vs:=vs) (λk x hk=>by have:=hp (k + 1) x (by simpa using hk);rw [<-this];congr 1;omega) hq;refine⟨_,hq,?_⟩;simp only [AVs];refine⟨v,vs,rfl,?_,h2⟩;have h1:=h.pin i;have h3:=hp 0 v (by simp);rw [a4A] at h3;rw [h3] at h1;exact h1
theorem EZ (g:Bool):∀ (vs:List AV) (i:Nat) (s:St),(s.app (tU g i vs)).n=s.n/\(s.app (tU g i vs)).b=s.b/\(s.app (tU g i vs)).r=s.r
 | [],_,_=>⟨rfl,rfl,rfl⟩
 | v :: vs,i,s=>EZ g vs (i + 1) (s.setT i ⟨g,v⟩)
theorem JP (g:Bool):∀ (vs:List AV) (i:Nat) (s:St) (j:Nat),(j < i\/i + vs.length<=j)->(s.app (tU g i vs)).t j=s.t j
 | [],_,_,_,_=>rfl
 | v :: vs,i,s,j,h=>by
  simp only [a27] at h;refine(JP g vs (i + 1) (s.setT i ⟨g,v⟩) j (by omega)).trans ?_;have:j ≠ i:=by omega
  simp [St.setT,upd,this]
theorem Qy (g:Bool):∀ (vs:List AV) (i:Nat) (s:St) (j:Nat) (v:AV),vs[j]?=some v->(s.app (tU g i vs)).t (i + j)=⟨g,v⟩
 | [],_,_,_,_,h=>by simp at h
 | v :: vs,i,s,j,u,h=>by
  cases j with
  | zero=>
   simp at h;subst h;refine(JP g vs (i + 1) (s.setT i ⟨g,v⟩) (i + 0) (by omega)).trans ?_;simp [St.setT,upd]
  | succ j=>
   have:=Qy g vs (i + 1) (s.setT i ⟨g,v⟩) j u (by simpa using h);rw [show i + (j + 1)=i + 1 + j from by omega];exact this
theorem a1x {f:FuncId} {fn:Func} {c:Code} {S:vH} (hT:∀ t i,T t=some i->TOk P t i) (hf:P.funcs[f]?=some fn) (hb:fn.body=some c) (hname:(fn.name == "runtime.NumGoroutine")=false) (B:Nat)
  (h:∀ xs,S.pre xs->xs.length<=fn.ntmps/\∃ sh,(UP B xs).wp (pY fn.ntmps [] [] []) λk=>Tri P c (a1w T fn.ntmps (cR xs k.avs).length fn.results.toList sh (S.post xs) (S.res xs)) ((((pY fn.ntmps [] [] []).app k.us).app (tU true 0 k.avs)).app (tU false fn.ntmps (cR xs k.avs)))) (hsp:S.sp= .none:=by rfl):Qv P f S:=by
 refine⟨by rw [hsp];trivial,⟨fn,hf,by rw [hb];rfl,hname⟩,λw I F args xs hIn hgl hargs hF hpre=>?_⟩;obtain⟨hlen,sh,hq⟩:=h xs hpre;refine calls_of_wp hf hb ?_;generalize hn:fn.ntmps=n at *
 have hal:args.size<=n:=by rw [<-a3p,<-hargs.len];exact hlen
 let M:Own:=⟨(· ∈ F),I,λk=>(bw xs args.toList).getD k undef⟩;let G0:Gh:=⟨I,λ_=>0,λ_=> .slice none 0 0,λ_=>(undef,0),λ_=>[]⟩;have hown0:∀ x,own G0 (pY n [] [] []) x=[]:=λx=>by cases x <;> rfl
 have m0:Mem w M G0 (pY n [] [] []) w:=⟨λid cs hc=>(by cases hc),λid R hc=>(by cases hc),λx y b hx=>(by rw [hown0] at hx;cases hx),λid hc=>(by cases hc),λid R g hc=>(by cases hc),λx b hx=>(by rw [hown0] at hx;cases hx),hIn,⟨rfl,rfl,rfl,a3j _,λ_ _ _=>rfl⟩,⟨λ_ _ h=>h,λ_ _ h=> .inl h⟩,hgl,λid R hc=>(by cases hc),λid R hc=>(by cases hc)⟩;obtain⟨k,G',hK,made,hav⟩:=Bq xs hq m0 hargs hF (λb hb=>⟨λx hx=>(by rw [hown0] at hx;cases hx),.inr hb⟩) (λ_ _=>⟨rfl,rfl⟩);have htops:=rt (xs:=xs) hav;have havl:=hav.len;rw [a3p] at havl;generalize hs1:(((pY n [] [] []).app k.us).app (tU true 0 k.avs)).app (tU false n (cR xs k.avs))=s1 at *
 obtain⟨a1,a2,a3⟩:=EZ true k.avs 0 ((pY n [] [] []).app k.us);obtain⟨b1,b2,b3⟩:=EZ false (cR xs k.avs) n (((pY n [] [] []).app k.us).app (tU true 0 k.avs));rw [hs1] at b1 b2 b3;have hs1n:s1.n=n:=b1.trans (a1.trans made.n_);have hE:Ext G' ((pY n [] [] []).app k.us) w G' s1 w:=by
  have:=Ext.slots G' ((pY n [] [] []).app k.us) w s1.n s1.t;have e:(⟨s1.n,s1.t,((pY n [] [] []).app k.us).b,((pY n [] [] []).app k.us).r⟩:St)=s1:=by rw [<-a2,<-a3,<-b2,<-b3]
  rw [e] at this;exact this
 have hM1:Mem w M G' s1 w:=by
  have:=made.mem.slots s1.n s1.t;have e:(⟨s1.n,s1.t,((pY n [] [] []).app k.us).b,((pY n [] [] []).app k.us).r⟩:St)=s1:=by rw [<-a2,<-a3,<-b2,<-b3]
  rw [e] at this;exact this
 have ht_lo:∀ j,j < n->s1.t j=(((pY n [] [] []).app k.us).app (tU true 0 k.avs)).t j:=λj hj=>by rw [<-hs1];exact JP false _ _ _ _ (.inl hj)
 have ht_base:∀ j,k.avs.length<=j->(((pY n [] [] []).app k.us).app (tU true 0 k.avs)).t j=⟨decide (j < n),.any⟩:=λj hj=>by
  rw [JP true _ _ _ _ (.inr (by omega)),made.t];rfl
 have hR:Rel w M G' s1 {tmps:=args ++ Array.replicate (n - args.size) undef,defers:=[]} w:=by
  refine⟨by rw [hs1n];simp;omega,rfl,λj=>?_,hM1,λj=>?_⟩
  ·by_cases hj:j < n
   ·rw [ht_lo j hj];by_cases hja:j < k.avs.length
    ·have hget:k.avs[j]?=some k.avs[j]:=List.getElem?_eq_getElem hja;have e:=Qy true k.avs 0 ((pY n [] [] []).app k.us) j _ hget;rw [a3z] at e;rw [e];obtain⟨v,hv,hr⟩:=hav.get hget;refine⟨λ_=>?_,λe=>by cases e⟩;have:(args ++ Array.replicate (n - args.size) undef).getD j undef=v:=by
      rw [Array.getD_eq_getD_getElem?,Array.getElem?_append_left (by omega)];rw [Array.getElem?_toList] at hv;rw [hv];rfl
     simp only [this];exact hE.av _ hr
    ·rw [ht_base j (by omega)];exact⟨λ_=>by simp only [AVr],λe=>by simp [hj] at e⟩
   ·have hu:(args ++ Array.replicate (n - args.size) undef).getD j undef=undef:=by
     rw [Array.getD_eq_getD_getElem?,Array.getElem?_eq_none (by simp;omega)];rfl
    have hg:(s1.t j).g=false:=by
     by_cases hp:j < n + (cR xs k.avs).length
     ·have hget:(cR xs k.avs)[j - n]?=some (cR xs k.avs)[j - n]:=List.getElem?_eq_getElem (by omega);have e:=Qy false (cR xs k.avs) n (((pY n [] [] []).app k.us).app (tU true 0 k.avs)) (j - n) _ hget;rw [show n + (j - n)=j from by omega,hs1] at e;rw [e]
     ·rw [<-hs1,JP false _ _ _ _ (.inr (by omega)),ht_base j (by omega)];simp [hj]
    exact⟨λe=>(by rw [hg] at e;cases e),λ_=>hu⟩
  ·rw [hs1n];by_cases hp:j < (cR xs k.avs).length
   ·have hget:(cR xs k.avs)[j]?=some (cR xs k.avs)[j]:=List.getElem?_eq_getElem hp;have e:=Qy false (cR xs k.avs) n (((pY n [] [] []).app k.us).app (tU true 0 k.avs)) j _ hget;rw [hs1] at e;rw [e];obtain⟨v,hv,hr⟩:=htops.get hget;have:M.pin j=v:=by
     show(bw xs args.toList).getD j undef=v;rw [List.getD_eq_getElem?_getD,hv];rfl
    rw [this];exact hE.av _ hr
   ·rw [<-hs1,JP false _ _ _ _ (.inr (by omega)),ht_base _ (by omega)];simp only [AVr]
 refine wp_mono (hK w M _ w ⟨G',hR⟩) λe a' w' hqk=>?_;have key:∀ s',uw w M s' a' w'->(s'.n=n/\(S.post xs).length=(cR xs k.avs).length/\(UT T n (cR xs k.avs).length fn.results.toList sh (S.post xs) (S.res xs)).wp s' λ_=>True)->
   a'.defers=[]/\∃ v,(results fn a'.tmps).run P w'= .ok v w'/\∃ I' vs Fp Fr',v=Ts vs/\Ret S I w xs args.toList F w' I' vs Fp Fr':=by
  rintro s' ⟨G2,h2⟩ ⟨hn2,hpl,ho⟩;unfold UT at ho;rw [Q.wp_bind] at ho;have hm:(cR xs k.avs).length=(bw xs args.toList).length:=htops.len;rw [hm,<-hn2] at ho;obtain⟨ps,ho1,hps⟩:=Mn h2 (i:=0) (vs:=bw xs args.toList) (λk x hk=>by
   show(bw xs args.toList).getD (0 + k) undef=x;rw [a3z,List.getD_eq_getElem?_getD,hk];rfl) ho
  clear ho;rw [Q.wp_bind] at ho1;obtain⟨avs,vs,ho2,hvs,hrun⟩:=EX h2 hT ho1;clear ho1;rw [Q.wp_bind] at ho2;obtain⟨kk,foot,ho3,Tk⟩:=xR h2.mem _ (hps.app hvs) ho2;clear ho2;obtain⟨⟨hxs,hnd,hfz⟩,ho4⟩:=ho3;rw [Q.wp_bind] at ho4;obtain⟨us1,G1,_,m1,e1,hfd,hfrz,hbx,hrw,hfr,hexq⟩:=nU s' ho4 h2.mem (Frz.refl s');have hoas:=Tk.oas G1.I (Qx h2.mem Tk hfz m1 e1 hfd hfrz hbx hrw hexq hfr);rw [hxs] at hoas;obtain⟨Fp,Fr',p1,p2,p3⟩:=OAs.split hoas (by rw [hpl,hm]);refine⟨h2.df,_,EY hrun,G1.I,vs,Fp,Fr',rfl,⟨h2.mem.fr,m1.ii.1,λb o hi=>?_,λb o hi=>m1.ii.2 b o hi,m1.In,p1,p2,?_,λb hb=>?_⟩⟩
  ·refine World.cell?_of_block (a:=⟨b,o,none⟩) (h2.mem.fr.block b (hIn b o hi) (λhm=>?_));exact OAs.notI xs hargs b hm o hi
  ·rw [<-p3];exact zU (Tk.nodup hnd) h2.mem
  ·rw [<-p3] at hb;obtain⟨x,_,hx⟩:=List.mem_flatMap.1 hb;exact(h2.mem.oM x b hx).symm
 cases e with
 | normal=>obtain⟨s',h1,h2⟩:=hqk;exact key s' h1 h2
 | ret=>obtain⟨s',h1,h2⟩:=hqk;exact key s' h1 h2
 | exit i=>obtain⟨s',h1,h2⟩:=hqk;exact h2.elim
 | goto l=>exact hqk.elim
 | panic c=>exact hqk.elim
 | outgrown=>exact hqk.elim
end
def Mq (k:TK) (x:AV):Q Nat:=match k with
 | .slice _=>ZV x
 | .str=>EK x
 | .map _ _=>AW x
 | _=> .fail
def mmQ (f:Int->Int->Int) (x y:AV):Q AV:=match x,y with
 | .c (.d (.v (.int k a))),.c (.d (.v (.int _ b)))=> .ret (.c (.d (.v (.int k (f a b)))))
 | _,_=> .fail
def Dd (T:TypeId->Option TI) (b:Builtin) (o:Oper) (c:Call):Q (List Upd):=match b with
 | .len=>match c.args.toList,c.argTypes.toList with
  | [x],[t]=>(tq T t).bind λi=>(ev x).bind λx=>(Mq i.k x).bind λn=>one o.dst (.c (.d (.v (.int .i64 (n:Int)))))
  | _,_=> .fail
 | .append=>match c.args.toList,c.argTypes.toList with
  | [x,y],[t,t']=>(tq T t).bind λi=>match i.k with
   | .slice e=>(tq T e).bind λie=>(Q.ofOpt o.dst).bind λd=> .req (t=t'/\0 < ie.size) ((ev x).bind λx=>(ev y).bind λy=>match x,y with
    | .c x,.c y=>AU d e ie.size ie.bytes x y
    | _,_=> .fail)
   | _=> .fail
  | _,_=> .fail
 | .max=>match c.args.toList with
  | [x,y]=>(ev x).bind λx=>(ev y).bind λy=>(mmQ max x y).bind (one o.dst)
  | _=> .fail
 | .min=>match c.args.toList with
  | [x,y]=>(ev x).bind λx=>(ev y).bind λy=>(mmQ min x y).bind (one o.dst)
  | _=> .fail
 | _=> .fail
def fnQ:AV->Q (Nat × List AV)
 | .c (.d (.v (.func (.func f) a b)))=> .req (a= #[]/\b= #[]) (.ret (f,[]))
 | .c (.d (.clo f cs))=> .ret (f,[.c (.eptr cs)])
 | _=> .fail
theorem Xs {G:Gh} {s:St} {w:World} {v:AV} {u:Value} {K:Nat × List AV->Prop} (hv:AVr G s w v u) (hq:(fnQ v).wp s K):∃ (f:FuncId) (ex:List AV) (cap:Array Value),u= .func (.func f) #[] cap/\AVs G s w ex cap.toList/\K (f,ex):=by
 unfold fnQ at hq;split at hq
 ·obtain⟨⟨rfl,rfl⟩,hq⟩:=hq;simp only [AVr,ACr,DVr] at hv;exact⟨_,[],#[],hv.1,by simp only [AVs],hq⟩
 ·simp only [AVr,ACr,DVr] at hv;obtain⟨ad,xs,h1,h2,h3⟩:=hv;exact⟨_,_,_,h1,by simp only [AVs,AVr,ACr];exact⟨_,_,rfl,⟨ad,xs,rfl,h2,h3⟩,rfl⟩,hq⟩
 ·exact hq.elim
def JR:AV->Nat
 | .c (.d (.v (.pointer none)))=>1
 | .c (.d (.it t _))=>2 + t
 | _=>0
def Br:List AV->Nat
 | []=>0
 | v :: vs=>JR v + 5000 * Br vs
def Hy (T:TypeId->Option TI) (Γ:List (Nat × vH)) (o:Oper) (c:Call):Q (List Upd):=match c.callee with
 | .value x=>(ev x).bind λv=>(fnQ v).bind λf=>(evs c.args.toList).bind λxs=> .req (f.1 < 1000000) (match iw Γ (f.1 + Br xs * 1000000) with
  | some S=>match S.sp with
   | .none=>Ml S o c f.2
   | sp=>match f.2 with
    | []=>spQ sp o c
    | _=> .fail
  | none=> .fail)
 | .builtin b=>Dd T b o c
 | _=> .fail
section
variable {P:Program} {T:TypeId->Option TI} {o:Oper}
theorem sm {α:Type} {xs:Array α} {x y:α} (h:xs.toList=[x,y]):xs= #[x,y]:=by
 cases xs;simp only at h;subst h;rfl
theorem UW {t:TypeId} {d:TypeDesc} (hu:P.underlying t=some d) (ty:TypeId) (v:Value) (w:World) (n:Nat) (h:(d= .string/\∃ b:ByteArray,v= .string b/\n=b.size)\/(∃ e,d= .slice e)/\∃ A c,v= .slice A n c) :
  (Builtin.len_ #[t] ty #[v]).run P w= .ok (.int .i64 (n:Int)) w:=by
 rcases h with⟨rfl,b,rfl,rfl⟩ | ⟨⟨e,rfl⟩,A,c,rfl⟩ <;> simp [Builtin.len_,run_underlying hu,goInt]
theorem Xt {f:Int->Int->Int} {G:Gh} {s:St} {w:World} {x y:AV} {u v:Value} {K:List Upd->Prop} (hx:AVr G s w x u) (hy:AVr G s w y v) (hq:(mmQ f x y).wp s λz=>(one o.dst z).wp s K) :
  ∃ k a k' b,u= .int k a/\v= .int k' b/\K (He o.dst (.c (.d (.v (.int k (f a b)))))):=by
 unfold mmQ at hq;split at hq
 ·rename_i k a k' b;simp only [AVr,ACr,DVr] at hx hy;exact⟨k,a,k',b,hx.1,hy.1,hq⟩
 ·exact hq.elim
theorem Qz (hT:∀ t i,T t=some i->TOk P t i) {b:Builtin} {c:Call} (ho:o.op= .call c) (hc:c.callee= .builtin b):LA P o (Dd T b o c):=by
 intro W0 M s a w K Q' hd hR hq;obtain⟨G,h⟩:=hR;have hexec:∀ (args:List Operand),c.args=args.toArray->∀ r w',(∀ consts,(Go.builtin b c.argTypes o.type consts (args.map a.eval).toArray).run P w= .ok r w')->(execOp a.eval o).run P w= .ok r w':=λargs ha r w' hb=>by
  unfold execOp;rw [ho];simp only [resolve,hc,ha];simp [invoke];exact hb _
 unfold Dd at hq;split at hq
 ·split at hq
  ·rename_i x t hx ht;obtain⟨i,hi,hq1⟩:=W2 (by rw [Q.wp_bind] at hq;exact hq);rw [Q.wp_bind] at hq1;obtain⟨v,hq2,hv⟩:=eY h hq1;rw [Q.wp_bind] at hq2;have hargs:=pp hx;have hty:=pp ht;obtain⟨d,hu,hk⟩:=(hT t i hi).und;have fin:∀ n:Nat,one o.dst (.c (.d (.v (.int .i64 (n:Int)))))= .ret (He o.dst (.c (.d (.v (.int .i64 (n:Int)))))):=λ_=>rfl;have fin2:∀ n:Nat,((d= .string/\∃ b:ByteArray,a.eval x= .string b/\n=b.size)\/(∃ e,d= .slice e)/\∃ A c,a.eval x= .slice A n c)->K (He o.dst (.c (.d (.v (.int .i64 (n:Int))))))->pg P W0 M s o a w K Q':=λn hn hK=>by
    refine fF (v:= .int .i64 (n:Int)) h hd ?_ hK (hexec [x] hargs (.value (.int .i64 (n:Int))) w λconsts=>?_)
    ·simp only [AVr,ACr,DVr];exact⟨trivial,rfl⟩
    ·have:=UW hu o.type (a.eval x) w n hn;rw [hty];simp [Go.builtin,this]
   unfold Mq at hq2;split at hq2
   ·rename_i e hki;rw [hki] at hk;obtain⟨A,n,cc,hv',hK⟩:=WZ h hv hq2;exact fin2 n (.inr ⟨⟨e,hk⟩,A,cc,hv'⟩) hK
   ·rename_i hki;rw [hki] at hk;unfold EK at hq2;split at hq2
    ·rename_i str;simp only [AVr,ACr,DVr] at hv;exact fin2 str.size (.inl ⟨hk,str,hv.1,rfl⟩) hq2
    ·exact hq2.elim
   ·rename_i kt vt hki;rw [hki] at hk;obtain⟨g,en,ck,hv',hh,hK⟩:=Mo h hv hq2;refine fF (v:= .int .i64 (en.size:Int)) h hd ?_ hK (hexec [x] hargs (.value (.int .i64 (en.size:Int))) w λconsts=>?_)
    ·simp only [AVr,ACr,DVr];exact⟨trivial,rfl⟩
    ·have:=JQ (P:=P) hk hu o.type hh;rw [hty];simp [Go.builtin,hv',this]
   ·exact hq2.elim
  ·exact hq.elim
 ·split at hq
  ·rename_i x y t t' hx ht;obtain⟨i,hi,hq1⟩:=W2 (by rw [Q.wp_bind] at hq;exact hq);clear hq;split at hq1
   ·rename_i e hki;obtain⟨ie,hie,hq2⟩:=W2 (by rw [Q.wp_bind] at hq1;exact hq1);clear hq1;obtain⟨d,hdd,hq3⟩:=W2 (by rw [Q.wp_bind] at hq2;exact hq2);clear hq2;obtain⟨⟨rfl,hz0⟩,hq4⟩:=hq3;rw [Q.wp_bind] at hq4;obtain⟨v,hq5,hv⟩:=eY h hq4;clear hq4;rw [Q.wp_bind] at hq5;obtain⟨u,hq6,hu⟩:=eY h hq5;clear hq5;split at hq6
    ·obtain⟨dd,hun,hk⟩:=(hT t i hi).und;rw [hki] at hk;subst hk;refine Xa (hT e ie hie) hz0 hun h hdd (hd d hdd) (I7 hv) (I7 hu) hq6 λr w' hr=>hexec [x,y] (sm hx) _ _ λconsts=>?_;rw [sm ht];simp [Go.builtin,hr]
    ·exact hq6.elim
   ·exact hq1.elim
  ·exact hq.elim
 ·split at hq
  ·rename_i x y hx;rw [Q.wp_bind] at hq;obtain⟨v,hq1,hv⟩:=eY h hq;clear hq;rw [Q.wp_bind] at hq1;obtain⟨u,hq2,hu⟩:=eY h hq1;clear hq1;rw [Q.wp_bind] at hq2;obtain⟨k,a',k',b',e1,e2,hK⟩:=Xt hv hu hq2;refine fF (v:= .int k (max a' b')) h hd ?_ hK (hexec [x,y] (sm hx) _ _ λconsts=>?_)
   ·simp only [AVr,ACr,DVr];exact⟨trivial,rfl⟩
   ·simp only [a3h,a3K,e1,e2];have e3:(if b' > a' then b' else a')=max a' b':=by simp only [Int.max_def];split <;> split <;> omega
    simp [Go.builtin,Builtin.max_,Builtin.max2,e3]
  ·exact hq.elim
 ·split at hq
  ·rename_i x y hx;rw [Q.wp_bind] at hq;obtain⟨v,hq1,hv⟩:=eY h hq;clear hq;rw [Q.wp_bind] at hq1;obtain⟨u,hq2,hu⟩:=eY h hq1;clear hq1;rw [Q.wp_bind] at hq2;obtain⟨k,a',k',b',e1,e2,hK⟩:=Xt hv hu hq2;refine fF (v:= .int k (min a' b')) h hd ?_ hK (hexec [x,y] (sm hx) _ _ λconsts=>?_)
   ·simp only [AVr,ACr,DVr];exact⟨trivial,rfl⟩
   ·simp only [a3h,a3K,e1,e2];have e3:(if b' < a' then b' else a')=min a' b':=by simp only [Int.min_def];split <;> split <;> omega
    simp [Go.builtin,Builtin.min_,Builtin.min2,e3]
  ·exact hq.elim
 ·exact hq.elim
theorem De (hT:∀ t i,T t=some i->TOk P t i) {Γ:List (Nat × vH)} (hΓ:∀ p ∈ Γ,Qv P (p.1 % 1000000) p.2) (o:Oper) (c:Call) (ho:o.op= .call c):LA P o (Hy T Γ o c):=by
 unfold Hy;split
 ·rename_i x hc;intro W0 M s a w K Q' hd hR hq;obtain⟨G,h⟩:=hR;rw [Q.wp_bind] at hq;obtain⟨v,hq,hv⟩:=eY h hq;rw [Q.wp_bind] at hq;obtain⟨f,ex,cap,hf,hex,hq⟩:=Xs hv hq;rw [Q.wp_bind] at hq;obtain⟨xs,hq,_⟩:=Hh h hq;obtain⟨hlt,hq⟩:=hq;split at hq
  ·rename_i S hS;have hF:Qv P f S:=by
    have:=hΓ _ (mr hS);simp only [Nat.add_mul_mod_self_right] at this;rw [a4p hlt] at this;exact this
   split at hq
   ·exact JN ho hc hf hF hd h hex hq
   ·rename_i sp hne;cases ex with
    | nil=>
     simp only [AVs] at hex;have hcap:cap= #[]:=by cases cap;simp only at hex;subst hex;rfl
     subst hcap;exact UV ho hc hf hF rfl hd ⟨G,h⟩ hq
    | cons _ _=>exact hq.elim
  ·exact hq.elim
 ·rename_i b hc;exact Qz hT ho hc
 ·intro W0 M s a w K Q' hd hR hq;exact hq.elim
end
section
variable (T:TypeId->Option TI) (cq:Oper->Call->Q (List Upd))
end
theorem Hz {α β:Type} (f:α->β):∀ (l:List (Nat × α)) (k:Nat),(iw l k).map f=iw (l.map λp=>(p.1,f p.2)) k
 | [],_=>rfl
 | (j,x) :: l,k=>by
  simp only [iw,a3h];split
  ·rfl
  ·exact Hz f l k
theorem QA (a:Int) (m:Nat):a.fdiv (2 ^ m)=a / 2 ^ m:=Int.fdiv_eq_ediv_of_nonneg a (Int.le_of_lt (Int.pow_pos (by decide)))
theorem Xu (k:IntKind) (a b:Int):uC .shr k a b= .req (0<=b) (.ret (.int k (a / (2 ^ (min b.toNat k.bits))))):=by rw [<-QA];rfl
section
variable (T:TypeId->Option TI) (cq:Oper->Call->Q (List Upd))
end
section
variable {P:Program} {T:TypeId->Option TI} {cq:Oper->Call->Q (List Upd)} {K:AX->St->Prop} {s:St}
end
theorem Df (x:UInt8):uE (qe x)=x:=by simp [uE,qe]
theorem JS (l:List UInt8):(l.map qe).map uE=l:=by
 rw [a4z]
 conv=>rhs;rw [<-List.map_id l]
 exact a37 λx _=>Df x
theorem Fa {α β:Type} (f:α->β) {l:List α} {i:Nat} (h:i < l.length) (d:β) (d':α):(l.map f).getD i d=f (l.getD i d'):=by
 simp only [List.getD_eq_getElem?_getD,List.getElem?_map,List.getElem?_eq_getElem h,a3s,a3A]
end Go.Proofs.YtjbgdpjgfjnkbaaGreatDoor.Am
