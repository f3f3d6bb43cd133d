/- Texts laid together: Hand6, Hand7, Hand8, Hand9, Hand10. No conditions. -/
import Derived.Test.YthkhcbphbabefaaGreatQAG
namespace Go.Proofs.YthkhcbphbabefaaGreat.Am
open Go
def mF(a:Act):List Nat->List Value->Prop
 |p::ps,v::vs=>a.tmps.getD p undef=v/\mF a ps vs
 |_,_=>True
theorem mF.get{a:Act}:∀{ps:List Nat}{vs:List Value},mF a ps vs->∀(j p:Nat) (v:Value),ps[j]?=some p->vs[j]?=some v->a.tmps.getD p undef=v
 |[],_,_,j,p,v,h,_=>by simp at h
 |_::_,[],_,j,p,v,_,h=>by simp at h
 |p::ps,v::vs,h,0,p',v',hp,hv=>by simp at hp hv;subst hp;subst hv;exact h.1
 |p::ps,v::vs,h,j+1,p',v',hp,hv=>mF.get h.2 j p' v' (by simpa using hp) (by simpa using hv)
theorem kq.call{P:Program}{c:Code}{j n:Nat}{ps:List Nat}{sm:List (Nat×Nat)}{rs:List Nat}{S:TFn}(h:kq P c j n ps sm rs S){Q:Exit->Act->World->Prop}{a:Act}{w:World}{I:Nat->Nat->Prop}{F:List Nat}{vals:List Value}(x:S.args.den){r:S.R}(hG:S.G x=some r) (hIn:∀b o,I b o->b<w.heap.size) (hgl:nX I w) (hargs:OAs I w (S.args.oas x) vals F) (hF:F.Nodup)
  (hs:a.tmps.size=n) (hd:a.defers=[]) (hav:mF a ps vals)
  (hfin:∀a' w' I' vs Fp Fr',a'.tmps.size=n->a'.defers=[]->(∀p∈sm,a'.tmps.getD p.1 undef=(D4 (S.args.oas x) vals).getD p.2 undef)->vs=rs.map (λk=>a'.tmps.getD k undef)->GS S r I w F (D4 (S.args.oas x) vals) (uM vs) w' I' vs Fp Fr'->DD P Q j c a' w'):c.wp P Q a w:=by
 refine h.ok.runs w I F vals (S.args.oas x) a Q hIn hgl hargs hF ⟨x,r,rfl,hG⟩ hs hd hav.get λa' w' I' vs Fp Fr' h1 h2 h3 h4 H=>?_;refine hfin a' w' I' vs Fp Fr' h1 h2 h3 h4 ⟨rfl,H.fr,H.sub,H.keep,H.new,H.lt,?_,?_,H.nodup,H.own,H.odd,H.soft⟩
 ·have:=H.post;rw[TFn.post_of h.args hG]at this;exact this
 ·have:=H.res;rw[TFn.res_of h.args hG]at this;exact this
theorem FF{w:World}{x ar:Addr}{u u' v:Value}(hx:w.cell? x=some u) (ha:w.cell? ar=some u') (hne:u≠u'):(w.setCells ar.block ar.off [v]).cell? x=some u:=by
 refine(World.cell?_setCells_out ar.block [v] ar.off w x λhb hs=>?_).trans hx;by_cases e:x.off=ar.off
 ·exfalso;have e1:=dw hx;have e2:=dw ha;rw[hb,e]at e1;rw[e1]at hx;rw[e2]at ha;rw[hx]at ha;injection ha with ha;exact hne ha
 ·simp only[Qg,QF];omega
theorem wk{w:World}{b off g:Nat}{vs:List Value}(h:g≠b):(w.setCells b off vs).heap[g]?=w.heap[g]?:=db b g h vs off w
section
variable {I:Nat->Nat->Prop}{w:World}
theorem ib:OAs I w [] [] []:=by simp only[OAs];exact⟨trivial,trivial⟩
theorem ic{d:DV}{v:Value}{cs:List OA}{vs:List Value}{F:List Nat}(h:DVr I w d v) (k:OAs I w cs vs F):OAs I w (.c (.d d)::cs) (v::vs) F:=by
 simp only[OAs,OAr,OCr];exact⟨v,vs,[],F,rfl,⟨rfl,h⟩,k,rfl⟩
theorem Ey{c:List OC}{v:Value}{cs:List OA}{vs:List Value}{F F':List Nat}(h:OCr I w (.box c) v F) (k:OAs I w cs vs F'):OAs I w (.bx c::cs) (v::vs) (F++F'):=by
 simp only[OAs,OAr];exact⟨v,vs,F,F',rfl,h,k,rfl⟩
theorem jk{vs:List Value}{F:List Nat}(h:OAs I w [] vs F):vs=[]/\F=[]:=by simpa only[OAs]using h
theorem Y9{d:DV}{cs:List OA}{vs:List Value}{F:List Nat}(h:OAs I w (.c (.d d)::cs) vs F):∃v r,vs=v::r/\DVr I w d v/\OAs I w cs r F:=by
 simp only[OAs,OAr,OCr]at h;obtain⟨v,r,F1,F2,rfl,⟨rfl,h1⟩,h2,rfl⟩:=h;exact⟨v,r,rfl,h1,h2⟩
theorem FG{c:List OC}{cs:List OA}{vs:List Value}{F:List Nat}(h:OAs I w (.bx c::cs) vs F):∃v r F1 F2,vs=v::r/\OCr I w (.box c) v F1/\OAs I w cs r F2/\F=F1++F2:=by
 simpa only[OAs,OAr]using h
theorem jM{v:Value}(h:v.oneCell'=true):DVr I w (.v v) v:=by simp only[DVr];exact⟨trivial,h⟩
theorem bH{x y:Value}(h:DVr I w (.v y) x):x=y:=by simp only[DVr]at h;exact h.1
end
structure LI (I0:Nat->Nat->Prop) (w0:World) (F0:List Nat) (p:jL) (vp:Value) (e:o8) (ve:Value) (ge:Nat) (by_:UInt8) (x8:Int) (g:Nat) (v:Nat->Value) (J:Nat->Nat->Nat->Prop) (Fp:List Nat) (i:Nat) (a:Act) (w:World):Prop where
 apt:Apt I0 w0 F0 (.box (dL p)) vp (.box (eL e)) ve ge w Fp J
 lst:∀n,i<=n->n<3->DVr (J n) w (.sl (xU e)) (v n)
 hg:w.heap[g]?=some (.cells #[v 0,v 1,v 2] 41 (0,0))
 gn:g∉ge::Fp
 gj:∀i b o,J i b o->b≠g
 sz:a.tmps.size=179
 df:a.defers=[]
 t73:a.tmps.getD 73 undef= .slice (some ⟨g,0,none⟩) 3 3
 t74:a.tmps.getD 74 undef= .int .i64 3
 t75:a.tmps.getD 75 undef= .int .i64 (i:Int)
 t1:a.tmps.getD 1 undef= .int .u8 (by_.toNat:Int)
 t5:a.tmps.getD 5 undef=vp
 t6:a.tmps.getD 6 undef=ve
 t8:a.tmps.getD 8 undef= .int .i64 x8
noncomputable def c16:Code:=kV (M0 1 HN)
abbrev sH:TFn:=mkF [ad (.kv A9),.bx (.cons (.d C4) .nil),ad .op,ad i_6,ad .byte,ad .op,ad i_6,ad i_6] (.cons (.cons (.d C4) .nil) .nil) [ad (.kv A9),ad .op,ad i_6,ad .byte,ad .op,ad i_6,ad i_6] pJ
theorem PD:kq Tryz.prog c16 2 179 [10,6,5,8,1,73,74,75] [(6,0)] [10,5,8,1,73,74,75] sH:=Bi
abbrev Opq:={v:Value // opV v=true}
theorem F_h(e:o8) (hsame:B8 e e=some true) (a0 a2:Opq) (a3:Int) (a4:UInt8) (a5:Opq) (a6 a7:Int):pJ (a0,[e]) e a2 a3 a4 a5 a6 a7=some (e,(a0,[e]),a2,a3,a4,a5,a6,a7):=by
 unfold pJ J0;simp[chk,sel,hsame,Nat.blt,Nat.ble]
section
variable {I0:Nat->Nat->Prop}{w0 w:World}{F0 Fp:List Nat}{vp ve:Value}{ge:Nat}{e:o8}{p:jL}{a:Act}{Q:Exit->Act->World->Prop}{by_:UInt8}{x8:Int}{g:Nat}{v:Nat->Value}{J:Nat->Nat->Nat->Prop}{i:Nat}
theorem LI.seg(h:LI I0 w0 F0 p vp e ve ge by_ x8 g v J Fp i a w) (hi:i<3) (hsame:B8 e e=some true) (h10:a.tmps.getD 10 undef=v i) (hvp:opV vp=true)
  (hQ:∀a' w',LI I0 w0 F0 p vp e ve ge by_ x8 g v J Fp i a' w'->a'.tmps.getD 10 undef=v i->Q .normal a' w'):c16.wp Tryz.prog Q a w:=by
 have hl:=h.lst i (PW _) hi;have hov:opV (v i)=true:=by
  simp only[DVr]at hl;obtain⟨A,c,z,xs,h1,_⟩:=hl;rw[h1];rfl
 have h0:=h.apt;have hlt:∀b o,I0 b o->b<w.heap.size:=λb o hi=>Qi (h0.odd b o hi).2 h0.fr.size;have hge:=OCr.notI _ h0.ent ge (by simp);have hgeJ:∀k o,¬J k ge o:=λk o hj=>(h0.mark k ge o hj).2.2.1 (Qn ..);let x:sH.args.den:=((⟨v i,hov⟩,[e]),((e,()),(⟨vp,hvp⟩,(x8,(by_,(⟨.slice (some ⟨g,0,none⟩) 3 3,rfl⟩,((3:Int),((i:Int),()))))))));refine kq.call PD (I:=λb o=>J i b o\/I0 b o) (F:=[ge]) (vals:=[v i,ve,vp,.int .i64 x8,.int .u8 (by_.toNat:Int),.slice (some ⟨g,0,none⟩) 3 3,.int .i64 3,.int .i64 (i:Int)]) x (F_h e hsame _ _ _ _ _ _ _) (λb o hb=>?_) (mD _ _) ?_ (by simp) h.sz h.df ⟨h10,h.t6,h.t5,h.t8,h.t1,h.t73,h.t74,h.t75,trivial⟩ ?_
 ·rcases hb with hb|hb
  ·exact(h0.mark i b o hb).2.1
  ·exact hlt b o hb
 ·show OAs _ w [.c (.d (.kv (v i) (xU e))),.bx (eL e++[]),.c (.d (.v vp)),.c (.d (.v (.int .i64 x8))),.c (.d (.v (.int .u8 (by_.toNat:Int)))),.c (.d (.v (.slice (some ⟨g,0,none⟩) 3 3))),.c (.d (.v (.int .i64 3))),.c (.d (.v (.int .i64 (i:Int))))] _ _;rw[PO];have hbox:OCr (λb o=>J i b o\/I0 b o) w (.box (eL e)) ve [ge]:=OCr.frame (λ_ _ h=>.inr h) (U9.refl _ _) (PW _) _ h0.ent (λ_ _=>rfl) λb hb o hm=>by
   rw[List.mem_singleton.1 hb]at hm;rcases hm with hm|hm
   ·exact hgeJ i o hm
   ·exact hge o hm
  have hl':DVr (λb o=>J i b o\/I0 b o) w (.kv (v i) (xU e)) (v i):=by
   have:=DVr.mono (I':=λb o=>J i b o\/I0 b o) (λ_ _ h=>.inl h) (U9.refl (J i) w) (.sl (xU e)) hl;simp only[DVr]at this⊢;exact⟨trivial,this⟩
  exact ic hl' (Ey (F':=[]) hbox (ic (jM (su hvp)) (ic (jM rfl) (ic (jM rfl) (ic (jM rfl) (ic (jM rfl) (ic (jM rfl) ib)))))))
 ·intro a' w' I' vs Fp' Fr' hs' hd' hsm hvs hL;have hpost:=hL.post
  replace hpost:OAs I' w' [.bx (eL e++[])] [ve] Fp':=hpost
  rw[PO]at hpost;obtain⟨v1,r1,F1,F2,e1,hpo,hr1,rfl⟩:=FG hpost;injection e1 with e1 e2;subst e1;subst e2;obtain⟨_,rfl⟩:=jk hr1;obtain⟨cur,ty,hve,_,_⟩:=mC h0.ent;have hF1:F1=[ge]:=by
   have hpo':=hpo;simp only[OCr]at hpo';obtain⟨g',cur',ty',Fs,e3,_,hc,rfl,_⟩:=hpo';obtain⟨_,rfl⟩:=BY.1 hc;rw[hve]at e3;injection e3 with e3;injection e3 with e3;injection e3 with e3;rw[e3]
  subst hF1;have hmge:∀b,b∈[ge]->b=ge:=λb hb=>List.mem_singleton.1 hb;have he:OCr I0 w' (.box (eL e)) ve [ge]:=OCr.odd _ (uj e) hpo (λb o hi ho=>by
   rcases hL.odd b o hi ho with hj|hj
   ·have:=(h0.mark i b o hj).1;omega
   ·exact hj) (λb hb=>by rw[hmge b hb];exact hge)
  have hap:Apt I0 w0 F0 (.box (dL p)) vp (.box (eL e)) ve ge w' Fp J:=h0.upd hL.fr (λb hb=>by
   rw[hmge b hb];exact⟨(List.nodup_cons.1 h0.nd).1,hge,h0.own ge (Qn ..)⟩) he λk b o hj=>(dY (hL.fr.block b (h0.mark k b o hj).2.1 λhm=>by rw[hmge b hm]at hj;exact hgeJ k o hj)).2
  have hgl:g<w.heap.size:=(Array.getElem?_eq_some_iff.1 h.hg).1;have hres:=hL.res
  replace hres:OAs I' w' [.c (.d (.kv (v i) (xU e))),.c (.d (.v vp)),.c (.d (.v (.int .i64 x8))),.c (.d (.v (.int .u8 (by_.toNat:Int)))),.c (.d (.v (.slice (some ⟨g,0,none⟩) 3 3))),.c (.d (.v (.int .i64 3))),.c (.d (.v (.int .i64 (i:Int))))] vs Fr':=hres
  rw[hvs]at hres;obtain⟨y0,s0,q0,z0,hres⟩:=Y9 hres;obtain⟨y1,s1,q1,z1,hres⟩:=Y9 hres;obtain⟨y2,s2,q2,z2,hres⟩:=Y9 hres;obtain⟨y3,s3,q3,z3,hres⟩:=Y9 hres;obtain⟨y4,s4,q4,z4,hres⟩:=Y9 hres;obtain⟨y5,s5,q5,z5,hres⟩:=Y9 hres;obtain⟨y6,s6,q6,z6,hres⟩:=Y9 hres;subst q6;subst q5;subst q4;subst q3;subst q2;subst q1;simp only[PQ,Qs,List.cons.injEq]at q0;obtain⟨k10,k5,k8,k1,k73,k74,k75,_⟩:=q0;have hk10:y0=v i:=by simp only[DVr]at z0;exact z0.1
  refine hQ a' w' ⟨hap,λn hin hn=>?_,?_,h.gn,h.gj,hs',hd',k73.trans (bH z4),k74.trans (bH z5),k75.trans (bH z6),k1.trans (bH z3),k5.trans (bH z1),?_,k8.trans (bH z2)⟩ (k10.trans hk10)
  ·exact DVr.mono (λ_ _ h=>h) (hL.fr.keep λb o hj=>⟨(h0.mark n b o hj).2.1,λhm=>by rw[hmge b hm]at hj;exact hgeJ n o hj⟩) _ (h.lst n hin hn)
  ·exact(hL.fr.block g hgl λhm=>h.gn (by rw[hmge g hm];exact Qn ..)).trans h.hg
  ·exact hsm (6,0) (Qn ..)
end
theorem NI(v:Nat->Value):∀{i:Nat},i<3->(#[v 0,v 1,v 2]:Array Value)[i]?=some (v i)
 |0,_=>rfl
 |1,_=>rfl
 |2,_=>rfl
section
variable {I0:Nat->Nat->Prop}{w0 w:World}{F0 Fp:List Nat}{vp ve:Value}{ge:Nat}{e:o8}{p:jL}{a:Act}{Q:Exit->Act->World->Prop}{by_:UInt8}{x8:Int}{g:Nat}{v:Nat->Value}{J:Nat->Nat->Nat->Prop}{i:Nat}
theorem LI.slots(h:LI I0 w0 F0 p vp e ve ge by_ x8 g v J Fp i a w){a':Act}(hs:a'.tmps.size=179) (hd:a'.defers=a.defers) (hk:∀k,k∈[73,74,75,1,5,6,8]->a'.tmps.getD k undef=a.tmps.getD k undef):LI I0 w0 F0 p vp e ve ge by_ x8 g v J Fp i a' w:=
 ⟨h.apt,h.lst,h.hg,h.gn,h.gj,hs,hd.trans h.df,(hk 73 (by simp)).trans h.t73,(hk 74 (by simp)).trans h.t74,(hk 75 (by simp)).trans h.t75,(hk 1 (by simp)).trans h.t1,(hk 5 (by simp)).trans h.t5,(hk 6 (by simp)).trans h.t6,(hk 8 (by simp)).trans h.t8⟩
theorem LI.round(h:LI I0 w0 F0 p vp e ve ge by_ x8 g v J Fp i a w) (hi:i<3) (hsame:B8 e e=some true) (hraw:e.2.1≠[]) (hpeers:e.2.2.2.2.2.2.2.2.2≠[]) (hvp:opV vp=true)
  (hQ:∀a' w',LI I0 w0 F0 p vp e ve ge by_ x8 g v J Fp (i+1) a' w'->Q .normal a' w'):rJ.wp Tryz.prog Q a w:=by
 rw[show rJ= .seq c14 (.seq (.cond (.tmp 76) .skip (.exit 0)) (.seq (.block 1 HN) c20))from rfl];refine wp_seq (Lg (i:=(i:Int)) (n:=3) h.sz h.t75 h.t74 λa1 s1 d1 t76 k1=>?_);have h1:=h.slots s1 d1 λk hk=>k1 k (by rintro rfl;simp at hk);have hb:a1.eval (.tmp 76)= .bool true:=t76.trans (by rw[PT (by omega)]);refine wp_seq (wp_cond_true hb (wp_skip ?_));refine wp_seq (wp_block ?_);rw[show HN= .seq c15 (.seq c16 (.seq c18 c19))from rfl];have hcell:w.cell? ((⟨g,0,none⟩:Addr).add i)=some (v i):=by
  rw[H1 _ _ rfl];simp only[World.cell?,h.hg,Qo];exact NI v hi
 refine wp_seq (NE (i:=i) s1 h1.t73 h1.t75 hi hcell λa2 s2 d2 t10 k2=>?_);have h2:=h1.slots s2 d2 λk hk=>k2 k (by simp at hk;omega);refine wp_seq (h2.seg hi hsame t10 hvp λa3 w3 h3 t10=>?_);obtain⟨ad,c,ar,nr,cr,aq,nq,cq,b0,p0,hv,q1,q2,q3,q4,q5,q6,q7,q8⟩:=BN (h3.lst i (PW _) hi) hraw hpeers;have far:∀{x:Addr} {u:Value},w3.cell? x=some u->J i x.block (2*x.off)->w3.frozen? x=false:=fun {x u} hx hj=>by
  have:=(h3.apt.mark i _ _ hj).2.2.2.2.1;rw[show 2*x.off / 2=x.off from by omega]at this;rw[dw hx];exact this
 refine wp_seq (NC h3.sz (t10.trans hv) (by decide) h3.t1 q1 q2 q3 (far q3 q4) λy a4 hy s4 d4 k4=>?_);have m1:=h3.apt.set q4 ar.off [y];have c40:(w3.setCells ar.block ar.off [y]).cell? (ad.add 40)=some (.slice (some aq) nq cq):=FF q5 q3 (by intro e;cases e);have caq:(w3.setCells ar.block ar.off [y]).cell? aq=some (.int .i64 p0):=FF q7 q3 (by intro e;cases e);have t10':a4.tmps.getD 10 undef= .slice (some ad) 1 c:=(k4 10 (by decide)).trans (t10.trans hv);refine ND s4 t10' (by decide) c40 q6 caq (by rw[World.frozen?_setCells];exact far q7 q8) λz a5 hz s5 d5 k5=>?_;have m2:=m1.set q8 aq.off [z];have hgr:g≠ar.block:=λe=>h3.gj _ _ _ q4 e.symm;have hgq:g≠aq.block:=λe=>h3.gj _ _ _ q8 e.symm;have kk:∀k,k∈[73,74,75,1,5,6,8]->a5.tmps.getD k undef=a3.tmps.getD k undef:=λk hk=>by
  have hk':k<90:=by simp at hk;omega
  rw[k5 k (by omega),k4 k (by omega)]
 have h75:a5.tmps.getD 75 undef= .int .i64 (i:Int):=(kk 75 (by simp)).trans h3.t75;refine NF s5 h75 (by omega) λa6 s6 d6 t75 k6=>?_;refine hQ a6 _ ⟨m2,λn hin hn=>?_,?_,h3.gn,h3.gj,s6,by rw[d6,d5,d4];exact h3.df,?_,?_,?_,?_,?_,?_,?_⟩
 ·have hne:n≠i:=by omega
  exact m1.other q8 hne aq.off [z] (h3.apt.other q4 hne ar.off [y] (h3.lst n (by omega) hn))
 ·rw[wk hgq,wk hgr];exact h3.hg
 ·rw[k6 73 (by decide),kk 73 (by simp)];exact h3.t73
 ·rw[k6 74 (by decide),kk 74 (by simp)];exact h3.t74
 ·rw[t75];norm_cast
 ·rw[k6 1 (by decide),kk 1 (by simp)];exact h3.t1
 ·rw[k6 5 (by decide),kk 5 (by simp)];exact h3.t5
 ·rw[k6 6 (by decide),kk 6 (by simp)];exact h3.t6
 ·rw[k6 8 (by decide),kk 8 (by simp)];exact h3.t8
theorem LI.last(h:LI I0 w0 F0 p vp e ve ge by_ x8 g v J Fp 3 a w) (hQ:∀a',LI I0 w0 F0 p vp e ve ge by_ x8 g v J Fp 3 a' w->Q (.exit 0) a' w):rJ.wp Tryz.prog Q a w:=by
 rw[show rJ= .seq c14 (.seq (.cond (.tmp 76) .skip (.exit 0)) (.seq (.block 1 HN) c20))from rfl];refine wp_seq (Lg (i:=3) (n:=3) h.sz h.t75 h.t74 λa1 s1 d1 t76 k1=>?_);have h1:=h.slots s1 d1 λk hk=>k1 k (by rintro rfl;simp at hk);have hb:a1.eval (.tmp 76)= .bool false:=t76.trans rfl;exact wp_seq (wp_cond_false hb (wp_exit (hQ a1 h1)))
noncomputable def HU:Code:=M0 1 (kV (M0 11 (L5 Tryz.f3)))
theorem LI.loop(h:LI I0 w0 F0 p vp e ve ge by_ x8 g v J Fp 0 a w) (hsame:B8 e e=some true) (hraw:e.2.1≠[]) (hpeers:e.2.2.2.2.2.2.2.2.2≠[]) (hvp:opV vp=true)
  (hQ:∀a' w',LI I0 w0 F0 p vp e ve ge by_ x8 g v J Fp 3 a' w'->Q .normal a' w'):HU.wp Tryz.prog Q a w:=by
 rw[show HU= .block 0 (.loop rJ)from rfl];refine wp_block (wp_loop_rounds 4 ?_);exact h.round (by decide) hsame hraw hpeers hvp λa1 w1 h1=>h1.round (by decide) hsame hraw hpeers hvp λa2 w2 h2=>h2.round (by decide) hsame hraw hpeers hvp λa3 w3 h3=>h3.last λa4 h4=>hQ a4 w3 h4
end
def ul:OC->DV
 |.d x=>x
 |.row _ _ es=>lnD es
 |_=>.v undef
def rM:OC->Prop
 |.d _=>True
 |.row _ e es=>e<Q7/\∀c∈es,∀d∈c,∃x,d= .v x
 |_=>False
section
variable {I K:Nat->Nat->Prop}{w:World}
theorem OCr.lend(hIK:∀b o,I b o->K b o):∀{c:OC}{v:Value}{F:List Nat},rM c->OCr I w c v F->(∀b∈F,∀o,o%2=1->K b o)->DVr K w (ul c) v
 |.d x,v,F,_,h,_=>by
  simp only[OCr]at h;exact DVr.mono hIK (U9.refl _ _) x h.2
 |.row sz e es,v,F,hk,h,hF=>by
  simp only[OCr]at h;obtain⟨ex,hrow,rfl,_,_⟩:=h;obtain⟨hz,hlen,xs,hown,hdv⟩:=hrow.sl hk.1;have hd:D2 K w es xs:=bY hk.2 hdv;obtain⟨hl,hs⟩:=hown;cases es with
  |nil=>
   simp only[D2]at hd;simp only[ul,lnD,DVr];rcases hs with⟨rfl,_⟩|⟨g,cap,cur,rfl,_,hg,hc1,hc2,hcs,hct⟩
   ·exact⟨none,0,sz,[],rfl,PW _,by decide,hz,hlen,λh0=>by simp at h0,rfl⟩
   ·exact⟨_,cap,sz,[],rfl,hc1,hc2,hz,hlen,λh0=>by simp at h0,rfl⟩
  |cons c es=>
   simp only[ul,lnD,DVr];rcases hs with⟨_,hn⟩|⟨g,cap,cur,rfl,_,hg,hc1,hc2,hcs,hct⟩
   ·simp at hn
   ·refine⟨some ⟨g,0,none⟩,cap,sz,xs,rfl,hc1,hc2,hz,hlen,λ_=>⟨_,rfl,λj u hu=>⟨?_,hF g (by simp[obk]) _ (by omega)⟩⟩,hd⟩;rw[<-hct]at hu;have hu':cur.toList[j]?=some u:=by
     rw[List.getElem?_take]at hu;split at hu
     ·exact hu
     ·cases hu
    rw[H1 _ _ rfl];simp only[World.cell?,hg,Qo];simpa using hu'
 |.box _,_,_,h,_,_=>h.elim
 |.e _,_,_,h,_,_=>h.elim
theorem OCs.lend(hIK:∀b o,I b o->K b o):∀{cs:List OC}{vs:List Value}{F:List Nat},(∀c∈cs,rM c)->OCs I w cs vs F->(∀b∈F,∀o,o%2=1->K b o)->E4 K w (cs.map ul) vs
 |[],vs,F,_,h,_=>by
  simp only[OCs]at h;simp only[Qs,E4];exact h.1
 |c::cs,vs,F,hk,h,hF=>by
  simp only[OCs]at h;obtain⟨x,r,F1,F2,rfl,h1,h2,rfl⟩:=h;simp only[PQ,E4];exact⟨x,r,rfl,OCr.lend hIK (hk c (by simp)) h1 λb hb=>hF b (by simp[hb]),OCs.lend hIK (λc hc=>hk c (by simp[hc])) h2 λb hb=>hF b (by simp[hb])⟩
end
abbrev FT:OTs:=.cons (.d (.arr 32 .byte)) (.cons (.row .byte 5) (.cons (.d .str) (.cons (.d u_6) (.cons (.d u_6) (.cons (.d u_6) (.cons (.d i_6) (.cons (.d i_6) (.cons (.d i_6) (.cons (.row i_6 3) .nil)))))))))
def fD(e:o8):FT.den:=(e.1,(e.2.1,(e.2.2.1,(e.2.2.2.1,(e.2.2.2.2.1,(e.2.2.2.2.2.1,(e.2.2.2.2.2.2.1,(e.2.2.2.2.2.2.2.1,(e.2.2.2.2.2.2.2.2.1,(e.2.2.2.2.2.2.2.2.2,()))))))))))
def fT(e:o8):List OC:=FT.ocs (fD e)
theorem HV(e:o8):(fT e).map ul=U.enc C4 e:=by
 have h:∀(l:List DV),(l.map OC.d).map ul=l:=λl=>by
  rw[QN];exact(Rh λ_ _=>rfl).trans (TE _)
 show((((U.arr 32 .byte).enc e.1).map OC.d++_).map ul)=(U.arr 32 .byte).enc e.1++_;rw[PV,h];rfl
theorem NJ(e:o8):∀c∈fT e,rM c:=by
 intro c hc;have hd:∀(l:List DV),∀c∈l.map OC.d,rM c:=λl c hc=>by
  obtain⟨d,_,rfl⟩:=List.mem_map.1 hc;trivial
 have hr:∀(u:U) (t:Nat) (l:List u.den),u.noSl=true->t<Q7->∀c∈[OC.row u.size t (l.map u.enc)],rM c:=λu t l hu ht c hc=>by
  rw[List.mem_singleton.1 hc];refine⟨ht,λc hc d hd=>?_⟩;obtain⟨x,_,rfl⟩:=List.mem_map.1 hc;exact Y6 u hu x d hd
 have hc':c∈((U.arr 32 .byte).enc e.1).map OC.d++([OC.row (U.byte).size 5 (List.map U.byte.enc e.2.1)]++(((U.str).enc e.2.2.1).map OC.d++((u_6.enc e.2.2.2.1).map OC.d++((u_6.enc e.2.2.2.2.1).map OC.d++((u_6.enc e.2.2.2.2.2.1).map OC.d++((i_6.enc e.2.2.2.2.2.2.1).map OC.d++((i_6.enc e.2.2.2.2.2.2.2.1).map OC.d++((i_6.enc e.2.2.2.2.2.2.2.2.1).map OC.d++([OC.row i_6.size 3 (List.map i_6.enc e.2.2.2.2.2.2.2.2.2)]++[]))))))))):=hc;simp only[RQ,SI,or_false]at hc';rcases hc' with h|h|h|h|h|h|h|h|h|h
 ·exact hd _ c h
 ·exact hr .byte 5 _ rfl (by decide) c h
 ·exact hd _ c h
 ·exact hd _ c h
 ·exact hd _ c h
 ·exact hd _ c h
 ·exact hd _ c h
 ·exact hd _ c h
 ·exact hd _ c h
 ·exact hr i_6 3 _ rfl (by decide) c h
abbrev BR:TFn:=mkF [.bx uh,ag C4] (.cons uh .nil) [ad i_6] O9
theorem NK:FnT Tryz.prog 10 BR:=eW
abbrev sE:TFn:=mkF [.bx FT,ad .byte,ad .op,ad .op,ad i_6] (.cons FT .nil) [ad .op,ad .op,ad i_6,ad .byte] pH
theorem PE:kq Tryz.prog (M0 9 (L5 Tryz.f3)) 2 179 [7,1,5,6,8] [] [5,6,8,1] sE:=Bg
abbrev sG:TFn:=mkF [.bx uh,.bx (.cons (.d A9) .nil),ad i_6] (.cons uh (.cons (.cons (.d A9) .nil) .nil)) [ad .bool] pI
theorem PF:kq Tryz.prog (M0 12 (L5 Tryz.f3)) 5 179 [5,6,8] [] [4] sG:=Bh
theorem rN{α:Type}(o:Option α):chk true o=o:=rfl
theorem Ez(op:BinOp) (a b:Int):decide (0<=bits op .u8 a b/\bits op .u8 a b<256)=true:=by
 refine PT ?_;unfold bits;rw[IntKind.wrap_u8];omega
theorem F_e(e:o8) (hraw:e.2.1≠[]) (hpeers:e.2.2.2.2.2.2.2.2.2≠[]) (b:UInt8) (x y:Opq) (n:Int):∃r,sE.G (fD e,(b,(x,(y,(n,())))))=some r/\∃f':FT.den,sE.posts.ocs (sE.out r).1=[.bx (FT.ocs f')]/\sE.res.oas (sE.out r).2=[.c (.d (.v x.1)),.c (.d (.v y.1)),.c (.d (.v (.int .i64 n))),.c (.d (.v (.int .u8 (b.toNat:Int))))]:=by
 have h1:0<e.2.1.length:=List.length_pos_iff.2 hraw;have h2:0<e.2.2.2.2.2.2.2.2.2.length:=List.length_pos_iff.2 hpeers;have e1:decide ((0:Int)<=0/\0<((e.2.1.length:Nat):Int))=true:=PT (by omega);have e2:decide (0<e.2.1.length)=true:=PT h1;have e4:decide ((0:Int)<=0/\0<((e.2.2.2.2.2.2.2.2.2.length:Nat):Int))=true:=PT (by omega);have e5:decide (0<e.2.2.2.2.2.2.2.2.2.length)=true:=PT h2;have h:∃raw' peers',pH e.1 e.2.1 e.2.2.1 e.2.2.2.1 e.2.2.2.2.1 e.2.2.2.2.2.1 e.2.2.2.2.2.2.1 e.2.2.2.2.2.2.2.1 e.2.2.2.2.2.2.2.2.1 e.2.2.2.2.2.2.2.2.2 b x y n=some (e.1,raw',e.2.2.1,e.2.2.2.1,e.2.2.2.2.1,e.2.2.2.2.2.1,e.2.2.2.2.2.2.1,e.2.2.2.2.2.2.2.1,e.2.2.2.2.2.2.2.2.1,peers',x,y,n,b):=by
  unfold pH;simp only[e1,e2,e4,e5,Ez,rN];exact⟨_,_,rfl⟩
 obtain⟨raw',peers',h⟩:=h;exact⟨_,h,(e.1,(raw',(e.2.2.1,(e.2.2.2.1,(e.2.2.2.2.1,(e.2.2.2.2.2.1,(e.2.2.2.2.2.2.1,(e.2.2.2.2.2.2.2.1,(e.2.2.2.2.2.2.2.2.1,(peers',())))))))))),rfl,rfl⟩
theorem mid{I2:Nat->Nat->Prop}{w:World}{p p1:jL}{e:o8}{Fp Ff:List Nat}{ge:Nat}{vp ve vf:Value}{by_:UInt8}{x8:Int}{a:Act}{Q:Exit->Act->World->Prop}(hev:∀b o,I2 b o->o%2=0/\b<w.heap.size)
  (hp:OCr I2 w (.box (dT p)) vp Fp) (he:OCr I2 w (.box (eT e)) ve [ge]) (hf:OCr I2 w (.box (fT e)) vf Ff) (hnd:(Fp++(ge::Ff)).Nodup)
  (hs:a.tmps.size=179) (hd:a.defers=[]) (t5:a.tmps.getD 5 undef=vp) (t6:a.tmps.getD 6 undef=ve) (t7:a.tmps.getD 7 undef=vf) (t1:a.tmps.getD 1 undef= .int .u8 (by_.toNat:Int))
  (hraw:e.2.1≠[]) (hpeers:e.2.2.2.2.2.2.2.2.2≠[]) (hsame:B8 e e=some true)
  (hins:∃r,BR.G (p,((e,()),()))=some r/\BR.posts.ocs (BR.out r).1=[.bx (dT p1)]/\BR.res.oas (BR.out r).2=[.c (.d (.v (.int .i64 x8)))])
  (hE:kz jj (p1,()) p1 [e]) (hS:kz mA (p1,()) p1 [e]) (hN:kz mB (p1,(e.2.2.1,())) p1 [e])
  (hG:∃r,sG.G (p1,((e,()),(x8,())))=some r/\sG.res.oas (sG.out r).2=[.c (.d (.v (.bool true)))])
  (hQ:∀a' w',a'.tmps.getD 4 undef= .bool true->a'.defers=[]->a'.tmps.size=179->Fr w (· ∈ Fp++(ge::Ff)) w'->Q .ret a' w'):(M0 8 (L5 Tryz.f3)).wp Tryz.prog Q a w:=by
 rw[show M0 8 (L5 Tryz.f3)= .seq c10 (M0 9 (L5 Tryz.f3))from rfl];obtain⟨hnp,hngf,hdis⟩:=List.nodup_append.1 hnd;obtain⟨hgef,hnf⟩:=List.nodup_cons.1 hngf;have hpge:ge∉Fp:=λhm=>hdis ge hm ge (Qn ..) rfl;have hpf:∀b∈Fp,b∉Ff:=λb hb hm=>hdis b hb b (Qc _ hm) rfl;have hf':=hf;simp only[OCr]at hf';obtain⟨gf,cur,ty,Fs,rfl,hgf,hcs,rfl,hgfI⟩:=hf';have hFlt:∀b∈gf::Fs,b<w.heap.size:=OCr.ltF _ hf;let I3:Nat->Nat->Prop:=λb o=>I2 b o\/(b∈Fs/\o%2=1);have hIn3:∀b o,I3 b o->b<w.heap.size:=λb o hi=>by
  rcases hi with hi|⟨hi,_⟩
  ·exact(hev b o hi).2
  ·exact hFlt b (Qc _ hi)
 have hp3:OCr I3 w (.box (dT p)) vp Fp:=OCr.frame (λ_ _ h=>.inl h) (U9.refl _ _) (PW _) _ hp (λ_ _=>rfl) λb hb o hi=>by
  rcases hi with hi|⟨hi,_⟩
  ·exact OCr.notI _ hp b hb o hi
  ·exact hpf b hb (Qc _ hi)
 have hcur:E4 I3 w (U.enc C4 e) cur.toList:=by
  rw[<-HV];exact OCs.lend (λ_ _ h=>.inl h) (NJ e) hcs λb hb o ho=>.inr ⟨hb,ho⟩
 have hcz:cur.size=41:=by
  have h:cur.toList.length=41:=hcur.len.trans (U.enc_len C4 e)
  rwa [PZ]at h
 obtain⟨r1,hG1,hp1,hr1⟩:=hins;have hargs:OAs I3 w [.bx (dT p),.agg (eL e++[])] [vp,.agg cur] Fp:=by
  rw[PO];simp only[OAs,OAr];exact⟨vp,_,Fp,[],rfl,hp3,⟨_,_,[],[],rfl,⟨cur,rfl,BY.2 ⟨hcur,rfl⟩⟩,⟨rfl,rfl⟩,rfl⟩,(PO _).symm⟩
 refine wp_seq (NG NK (I:=I3) (F:=Fp) (x:=(p,((e,()),()))) hG1 hs t7 hgf hcz hIn3 (mD _ _) (by rw[t5];exact hargs) hnp λv w3 I3' vs Fp3 Fr3 a3 hL hs3 hd3 t8 hk3=>?_);rw[t5]at hL;have hpost:=hL.post;rw[hp1]at hpost
 replace hpost:OAs I3' w3 [.bx (dT p1)] [vp] Fp3:=hpost
 obtain⟨v1,q1,F1,F2,e1,hpo,hq1,rfl⟩:=FG hpost;injection e1 with e1 e2;subst e1;subst e2;obtain⟨_,rfl⟩:=jk hq1;have hres:=hL.res;rw[hr1]at hres;obtain⟨v2,q2,rfl,hv2,hq2⟩:=Y9 hres;obtain⟨rfl,rfl⟩:=jk hq2;have hv2':=bH hv2;subst hv2';have hval:=hL.val;simp only[uM]at hval;subst hval;have hnd3:=hL.nodup;have how3:=hL.own;have hfr3:=hL.fr;simp only[PO]at hnd3 how3;rw[PO]at hpost;let K:Nat->Nat->Prop:=evI I3';have hK2:∀b o,I2 b o->K b o:=λb o hi=>⟨hL.sub b o (.inl hi),⟨o / 2,by have:=(hev b o hi).1;omega⟩⟩;have hKlt:∀b o,K b o->b<w3.heap.size:=λb o hi=>hL.lt b o hi.1;have hKn:∀b,b<w.heap.size->b∉Fp->(∀o,¬I2 b o)->∀o,¬K b o:=λb hb hbp h2 o hi=>by
  obtain⟨hi,o',rfl⟩:=hi;rcases hL.new b _ hi with(hi|⟨_,hi⟩)|hi|hi
  ·exact h2 _ hi
  ·omega
  ·exact hbp hi
  ·omega
 have hp4:OCr K w3 (.box (dT p1)) vp F1:=LO.ev _ (kZ p1) hpo;have hge0:ge<w.heap.size:=OCr.ltF _ he ge (by simp);have hk3':U9 I2 w w3:=hfr3.keep λb o hi=>⟨(hev b o hi).2,λhm=>OCr.notI _ hp b hm o hi⟩;have he4:OCr K w3 (.box (eT e)) ve [ge]:=OCr.frame hK2 hk3' hfr3.size _ he (λb hb=>by
  rw[List.mem_singleton.1 hb];exact hfr3.block ge hge0 hpge) λb hb=>by
  rw[List.mem_singleton.1 hb];exact hKn ge hge0 hpge (OCr.notI _ he ge (by simp))
 have hf4:OCr K w3 (.box (fT e)) (.pointer (some ⟨gf,0,none⟩)) (gf::Fs):=OCr.frame hK2 hk3' hfr3.size _ hf (λb hb=>hfr3.block b (hFlt b hb) λhm=>hpf b hm hb) λb hb=>hKn b (hFlt b hb) (λhm=>hpf b hm hb) (OCr.notI _ hf b hb);have hF1:∀b∈F1,b∈Fp\/w.heap.size<=b:=how3;have hF1f:∀b∈F1,b∉gf::Fs:=λb hb hm=>by
  rcases hF1 b hb with h|h
  ·exact hpf b h hm
  ·have:=hFlt b hm;omega
 have hF1e:ge∉F1:=λhm=>by
  rcases hF1 ge hm with h|h
  ·exact hpge h
  ·omega
 have hopv:∀{J:Nat->Nat->Prop} {u:World} {cs:List OC} {y:Value} {G:List Nat},OCr J u (.box cs) y G->opV y=true:=λh=>by
  simp only[OCr]at h;obtain⟨g,cur,ty,Fs,rfl,_⟩:=h;rfl
 have hvp:=hopv hp;have hve:=hopv he;obtain⟨r2,hG2,f',hp2,hr2⟩:=F_e e hraw hpeers by_ ⟨vp,hvp⟩ ⟨ve,hve⟩ x8;have g7:a3.tmps.getD 7 undef= .pointer (some ⟨gf,0,none⟩):=(hk3 7 (by decide) (by decide)).trans t7;have g1:a3.tmps.getD 1 undef= .int .u8 (by_.toNat:Int):=(hk3 1 (by decide) (by decide)).trans t1;have g5:a3.tmps.getD 5 undef=vp:=(hk3 5 (by decide) (by decide)).trans t5;have g6:a3.tmps.getD 6 undef=ve:=(hk3 6 (by decide) (by decide)).trans t6;refine kq.call PE (I:=K) (F:=gf::Fs) (vals:=[.pointer (some ⟨gf,0,none⟩),.int .u8 (by_.toNat:Int),vp,ve,.int .i64 x8]) (fD e,(by_,(⟨vp,hvp⟩,(⟨ve,hve⟩,(x8,()))))) hG2 hKlt (mD _ _) ?_ hnf hs3 (hd3.trans hd) ⟨g7,g1,g5,g6,t8,trivial⟩ ?_
 ·show OAs K w3 [.bx (fT e),.c (.d (.v (.int .u8 (by_.toNat:Int)))),.c (.d (.v vp)),.c (.d (.v ve)),.c (.d (.v (.int .i64 x8)))] _ _;exact Ey (F':=[]) hf4 (ic (jM rfl) (ic (jM (su hvp)) (ic (jM (su hve)) (ic (jM rfl) ib)))) |> (λh=>by rw[PO]at h;exact h)
 intro a4 w4 I4' vs4 Fp4 Fr4 hs4 hd4 _ hvs4 hL4;have hres4:=hL4.res;rw[hr2,hvs4]at hres4;obtain⟨y0,s0,q0,z0,hres4⟩:=Y9 hres4;obtain⟨y1,s1,q1,z1,hres4⟩:=Y9 hres4;obtain⟨y2,s2,q2,z2,hres4⟩:=Y9 hres4;obtain⟨y3,s3,q3,z3,hres4⟩:=Y9 hres4;subst q3;subst q2;subst q1;simp only[PQ,Qs,List.cons.injEq]at q0;obtain⟨k5,k6,k8,k1,_⟩:=q0;have u5:a4.tmps.getD 5 undef=vp:=k5.trans (bH z0);have u6:a4.tmps.getD 6 undef=ve:=k6.trans (bH z1);have u8:a4.tmps.getD 8 undef= .int .i64 x8:=k8.trans (bH z2);have u1:a4.tmps.getD 1 undef= .int .u8 (by_.toNat:Int):=k1.trans (bH z3);have hfr4:=hL4.fr;have hKf:∀b∈gf::Fs,∀o,¬K b o:=OCr.notI _ hf4;have hkeep4:U9 K w3 w4:=hfr4.keep λb o hi=>⟨hKlt b o hi,λhm=>hKf b hm o hi⟩;have hp5:OCr K w4 (.box (dT p1)) vp F1:=OCr.frame (λ_ _ h=>h) hkeep4 hfr4.size _ hp4 (λb hb=>hfr4.block b (OCr.ltF _ hp4 b hb) λhm=>hF1f b hb hm) (OCr.notI _ hp4);have he5:OCr K w4 (.box (eT e)) ve [ge]:=OCr.frame (λ_ _ h=>h) hkeep4 hfr4.size _ he4 (λb hb=>hfr4.block b (OCr.ltF _ he4 b hb) λhm=>by rw[List.mem_singleton.1 hb]at hm;exact hgef hm) (OCr.notI _ he4);show(M0 11 (L5 Tryz.f3)).wp Tryz.prog Q a4 w4;rw[show M0 11 (L5 Tryz.f3)= .seq (.seq c13 HU) (M0 12 (L5 Tryz.f3))from rfl];have hA:Apt (mQ K) w4 (ge::F1) (.box (dL p1)) vp (.box (eL e)) ve ge w4 F1 λ_ _ _=>False:=by
  refine⟨Fr.refl,λb o hi=>?_,LO.to _ (kZ p1) hp5,List.nodup_cons.2 ⟨hF1e,hnd3⟩,λb hb=>.inl hb,LO.to _ (uj e) he5,λi b o h=>h.elim,λi j b o o' h=>h.elim⟩;obtain⟨o',rfl,hi⟩:=hi;exact⟨by omega,Qi (hKlt b _ hi) hfr4.size⟩
 refine wp_seq (wp_seq (NH hA hE hS hN hs4 u5 u6 λa5 w5 Fp5 J g v hA5 hl5 h73 hg5 hgn hgj _ _ h74 h75 hs5 hd5 hk5=>?_));have h0:LI (mQ K) w4 (ge::F1) p1 vp e ve ge by_ x8 g v J Fp5 0 a5 w5:=⟨hA5,λn _ hn=>hl5 n hn,hg5,hgn,hgj,hs5,hd5.trans hd4,h73,h74,h75,(hk5 1 (by decide)).trans u1,(hk5 5 (by decide)).trans u5,(hk5 6 (by decide)).trans u6,(hk5 8 (by decide)).trans u8⟩;refine h0.loop hsame hraw hpeers hvp λa6 w6 h6=>?_;have hp6:=LO.back _ (kZ p1) h6.apt.pool;have he6:=LO.back _ (uj e) h6.apt.ent;obtain⟨r3,hG3,hr3⟩:=hG;obtain⟨hn6a,hn6b⟩:=List.nodup_cons.1 h6.apt.nd;refine kq.call PF (I:=qW (mQ K)) (F:=Fp5++([ge]++[])) (vals:=[vp,ve,.int .i64 x8]) (p1,((e,()),(x8,()))) hG3 (λb o hi=>?_) (mD _ _) ?_ ?_ h6.sz h6.df ⟨h6.t5,h6.t6,h6.t8,trivial⟩ ?_
 ·obtain⟨o',rfl,hi⟩:=hi;exact Qi (h6.apt.odd b _ hi).2 h6.apt.fr.size
 ·show OAs _ w6 [.bx (dT p1),.bx (eT e++[]),.c (.d (.v (.int .i64 x8)))] _ _;rw[PO];exact Ey hp6 (Ey he6 (ic (jM rfl) ib))
 ·rw[PO];refine List.nodup_append.2 ⟨hn6b,by simp,λx hx y hy e=>?_⟩;rw[List.mem_singleton.1 hy]at e;exact hn6a (e▸hx)
 intro a7 w7 I7 vs7 Fp7 Fr7 hs7 hd7 _ hvs7 hL7;have hres7:=hL7.res;rw[hr3,hvs7]at hres7;obtain⟨y0',s0',q0',z0',hres7⟩:=Y9 hres7;simp only[PQ,Qs,List.cons.injEq]at q0';show Code.ret.wp Tryz.prog Q a7 w7;refine wp_ret (hQ a7 w7 (q0'.1.trans (bH z0')) hd7 hs7 ?_);have f1:Fr w (· ∈ Fp++(ge::gf::Fs)) w3:=hfr3.mono λb hb=>QH _ hb;have f2:Fr w (· ∈ Fp++(ge::gf::Fs)) w4:=f1.trans hfr4 λb hb=>.inl (Rj _ (Qc _ hb));have hf0:∀b,b∈ge::F1->b∈Fp++(ge::gf::Fs)\/w.heap.size<=b:=λb hb=>by
  rcases List.mem_cons.1 hb with rfl|hb
  ·exact .inl (Rj _ (Qn ..))
  ·rcases hF1 b hb with h|h
   ·exact .inl (QH _ h)
   ·exact .inr h
 have f3:Fr w (· ∈ Fp++(ge::gf::Fs)) w6:=f2.trans h6.apt.fr hf0;refine f3.trans hL7.fr λb hb=>?_;have hb':b∈ge::Fp5:=by
  simp only[PO,RQ,Qp]at hb;rcases hb with hb|rfl
  ·exact Qc _ hb
  ·exact Qn ..
 rcases h6.apt.own b hb' with h|h
 ·exact hf0 b h
 ·exact .inr (Qt (Qt hfr3.size hfr4.size) h)
abbrev sA:TFn:=mkF [ad (.sl i_6),ad .byte] .nil [ad (.sl i_6),ad .byte] AW
theorem PG:kq Tryz.prog (L5 Tryz.f3) 1 179 [0,1] [] [0,1] sA:=Bc
abbrev sB:TFn:=mkF [ad (.sl i_6),ad .byte] .nil [ad .bool,ad (.sl i_6),ad .byte] gS
theorem PH:kq Tryz.prog (kV (M0 1 (L5 Tryz.f3))) 1 179 [0,1] [] [18,0,1] sB:=Bd
abbrev sR:TFn:=mkF [] .nil [ad .bool] pF
theorem PI:kq Tryz.prog (Ly (M0 1 (kV (M0 1 (L5 Tryz.f3))))) 1 179 [] [] [4] sR:=Be
abbrev sC:TFn:=mkF [ad (.sl i_6),ad .byte] .nil [.c (.box uh),.c (.box (.cons (.d A9) .nil)),.c (.box FT),ad .byte] pG
theorem PK:kq Tryz.prog (M0 2 (L5 Tryz.f3)) 6 179 [0,1] [] [5,6,7,1] sC:=Bf
def jN(k:List Int) (b:UInt8):Prop:=
 (gS k b=some (true,k,b)/\pF=some true)\/
 (gS k b=some (false,k,b)/\∃(p p1:jL) (e:o8) (x8:Int),(∃r,sC.G (k,(b,()))=some r/\sC.res.oas (sC.out r).2=[.c (.box (dT p)),.c (.box (eT e++[])),.c (.box (fT e)),.c (.d (.v (.int .u8 (b.toNat:Int))))])/\
  e.2.1≠[]/\e.2.2.2.2.2.2.2.2.2≠[]/\B8 e e=some true/\
  (∃r,BR.G (p,((e,()),()))=some r/\BR.posts.ocs (BR.out r).1=[.bx (dT p1)]/\BR.res.oas (BR.out r).2=[.c (.d (.v (.int .i64 x8)))])/\
  kz jj (p1,()) p1 [e]/\kz mA (p1,()) p1 [e]/\kz mB (p1,(e.2.2.1,())) p1 [e]/\
  (∃r,sG.G (p1,((e,()),(x8,())))=some r/\sG.res.oas (sG.out r).2=[.c (.d (.v (.bool true)))]))
open Classical in
noncomputable def E6(k:List Int) (b:UInt8):Option Bool:=if jN k b then some true else none
noncomputable abbrev cZ:TFn:=mkF [ad (.sl i_6),ad .byte] .nil [ad .bool] E6
def kD(k:List Int):DV:=.sl (k.map (U.int .i64).enc)
theorem BT:∀(k:List (U.int .i64).den),mz (k.map (U.int .i64).enc)=true
 |[]=>rfl
 |x::k=>by
  rw[PQ];simp only[mz,PM];exact⟨rfl,BT k⟩
theorem HW:FnT Tryz.prog 3 cZ:=by
 refine⟨rfl,rfl,⟨trivial,⟨_,Tryz.func3,rfl,rfl⟩,λw I F args xs hIn hgl hargs hF hpre=>?_⟩⟩;obtain⟨⟨k,b,u⟩,r,rfl,hG⟩:=hpre;have eres:cZ.spec.res (cZ.args.oas (k,b,u))=cZ.res.oas (cZ.out r).2:=TFn.res_of (S:=cZ) rfl hG;have epost:cZ.spec.post (cZ.args.oas (k,b,u))=cZ.posts.ocs (cZ.out r).1:=TFn.post_of (S:=cZ) rfl hG;change List Int at k;change UInt8 at b
 replace hG:E6 k b=some r:=hG
 have hfacts:jN k b/\r=true:=by
  unfold E6 at hG;split at hG
  ·rename_i h;injection hG with hG;exact⟨h,hG.symm⟩
  ·cases hG
 obtain⟨hfacts,rfl⟩:=hfacts
 replace hargs:OAs I w [.c (.d (kD k)),.c (.d (.v (.int .u8 (b.toNat:Int))))] args.toList F:=hargs
 obtain⟨vk,q1,ha1,hvk,hargs⟩:=Y9 hargs;obtain⟨vb,q2,rfl,hvb,hargs⟩:=Y9 hargs;obtain⟨rfl,rfl⟩:=jk hargs;have hvb':=bH hvb;subst hvb';have ha:args= #[vk,.int .u8 (b.toNat:Int)]:=by cases args;simp only at ha1;subst ha1;rfl
 subst ha;refine calls_of_wp Tryz.func3 rfl ?_;have fin:∀(e:Exit) (a':Act) (w':World),e= .ret->a'.tmps.getD 4 undef= .bool true->a'.defers=[]->Fr w (λ_=>False) w'->bodyPost Tryz.prog Tryz.f3 (fun | .returned v,w'=>∃I' vs Fp Fr',v=uM vs/\Ret cZ.spec I w (cZ.args.oas (k,b,u)) [vk,.int .u8 (b.toNat:Int)] [] w' I' vs Fp Fr' | _,_=>False) e a' w':=λe a' w' he h4 hd hfr=>by
  subst he;refine⟨hd,uM [.bool true],lz ?_,I,[.bool true],[],[],rfl,⟨hfr.mono λ_ h=>h.elim,λ_ _ h=>h,hfr.keep λb o hi=>⟨hIn b o hi,λh=>h⟩,λ_ _ h=>.inl h,λb o hi=>Qi (hIn b o hi) hfr.size,?_,?_,QM,λb hb=>by simp at hb,λ_ _ h _=>h,λb o hi _ hn=>absurd hi hn⟩⟩
  ·rw[show Tryz.f3.results.toList=[ResultVar.tmp 4]from rfl];simp only[Sf,List.mapM_nil,BV,Sem.run_bind,Sem.run_pure,Result.andThen_ok,h4]
  ·rw[epost];exact ib
  ·rw[eres];show OAs I w' [.c (.d (.v (.bool true)))] [.bool true] [];exact ic (jM rfl) ib
 have two:∀{J:Nat->Nat->Prop} {u:World} {v0:Value},DVr J u (kD k) v0->OAs J u [.c (.d (kD k)),.c (.d (.v (.int .u8 (b.toNat:Int))))] [v0,.int .u8 (b.toNat:Int)] []:=λh=>ic h (ic (jM rfl) ib);refine kq.call PG (I:=I) (F:=[]) (vals:=[vk,.int .u8 (b.toNat:Int)]) (k,(b,())) (r:=(k,b)) rfl hIn (mD _ _) (two hvk) QM (by rw[Array.size_append,Array.size_replicate];rfl) rfl ⟨by rw[Array.getD_eq_getD_getElem?,Array.getElem?_append_left (by simp)];rfl,by rw[Array.getD_eq_getD_getElem?,Array.getElem?_append_left (by simp)];rfl,trivial⟩ λa1 w1 I1 vs1 Fp1 Fr1 hs1 hd1 _ hvs1 hL1=>?_;have hr1:=hL1.res
 replace hr1:OAs I1 w1 [.c (.d (kD k)),.c (.d (.v (.int .u8 (b.toNat:Int))))] vs1 Fr1:=hr1
 rw[hvs1]at hr1;obtain⟨y0,s0,p0,z0,hr1⟩:=Y9 hr1;obtain⟨y1,s1,p1,z1,hr1⟩:=Y9 hr1;subst p1;simp only[PQ,Qs,List.cons.injEq]at p0;have t0:a1.tmps.getD 0 undef=y0:=p0.1;have t1:a1.tmps.getD 1 undef= .int .u8 (b.toNat:Int):=p0.2.1.trans (bH z1);have f1:Fr w (λ_=>False) w1:=hL1.fr.mono λx hx=>by simp at hx
 show(M0 1 (L5 Tryz.f3)).wp Tryz.prog _ a1 w1;rw[show M0 1 (L5 Tryz.f3)= .seq (kV (M0 1 (L5 Tryz.f3))) (M0 2 (L5 Tryz.f3))from rfl];have seqB:∀(t:Bool),gS k b=some (t,k,b)->∀(Q:Exit->Act->World->Prop),(∀a2 w2 (I2:Nat->Nat->Prop) (v2:Value),a2.tmps.size=179->a2.defers=[]->Fr w (λ_=>False) w2->a2.tmps.getD 18 undef= .bool t->a2.tmps.getD 0 undef=v2->a2.tmps.getD 1 undef= .int .u8 (b.toNat:Int)->(∀b o,I2 b o->b<w2.heap.size)->DVr I2 w2 (kD k) v2->(M0 1 (kV (M0 1 (L5 Tryz.f3)))).wp Tryz.prog Q a2 w2)->(kV (M0 1 (L5 Tryz.f3))).wp Tryz.prog Q a1 w1:=λt ht Q hQ=>by
  refine kq.call PH (I:=I1) (F:=[]) (vals:=[y0,.int .u8 (b.toNat:Int)]) (k,(b,())) (r:=(t,k,b)) ht hL1.lt (mD _ _) (two z0) QM hs1 hd1 ⟨t0,t1,trivial⟩ λa2 w2 I2 vs2 Fp2 Fr2 hs2 hd2 _ hvs2 hL2=>?_;have hr2:=hL2.res
  replace hr2:OAs I2 w2 [.c (.d (.v (.bool t))),.c (.d (kD k)),.c (.d (.v (.int .u8 (b.toNat:Int))))] vs2 Fr2:=hr2
  rw[hvs2]at hr2;obtain⟨x0,s0,m0,n0,hr2⟩:=Y9 hr2;obtain⟨x1,s1,m1,n1,hr2⟩:=Y9 hr2;obtain⟨x2,s2,m2,n2,hr2⟩:=Y9 hr2;subst m2;subst m1;simp only[PQ,Qs,List.cons.injEq]at m0;exact hQ a2 w2 I2 x1 hs2 hd2 (f1.trans hL2.fr λx hx=>by simp at hx) (m0.1.trans (bH n0)) m0.2.1 (m0.2.2.1.trans (bH n2)) hL2.lt n1
 rcases hfacts with⟨hb,hr⟩|⟨hb,p,p1,e,x8,⟨r,hC,hCr⟩,hraw,hpeers,hsame,hins,hE,hS,hN,hg⟩
 ·refine wp_seq (seqB true hb _ λa2 w2 I2 v2 hs2 hd2 f2 t18 _ _ hlt2 _=>?_);rw[show M0 1 (kV (M0 1 (L5 Tryz.f3)))= .cond (.tmp 18) (Ly (M0 1 (kV (M0 1 (L5 Tryz.f3))))) .skip from rfl];refine wp_cond_true t18 ?_;refine kq.call PI (I:=I2) (F:=[]) (vals:=[]) () (r:=true) hr hlt2 (mD _ _) ib QM hs2 hd2 trivial λa3 w3 I3 vs3 Fp3 Fr3 hs3 hd3 _ hvs3 hL3=>?_;have hr3:=hL3.res
  replace hr3:OAs I3 w3 [.c (.d (.v (.bool true)))] vs3 Fr3:=hr3
  rw[hvs3]at hr3;obtain⟨x0,s0,m0,n0,hr3⟩:=Y9 hr3;simp only[PQ,Qs,List.cons.injEq]at m0;show Code.ret.wp Tryz.prog _ a3 w3;exact wp_ret (fin .ret a3 w3 rfl (m0.1.trans (bH n0)) hd3 (f2.trans hL3.fr λx hx=>by simp at hx))
 ·refine wp_seq (seqB false hb _ λa2 w2 I2 v2 hs2 hd2 f2 t18 t0 t1 hlt2 hk2=>?_);rw[show M0 1 (kV (M0 1 (L5 Tryz.f3)))= .cond (.tmp 18) (Ly (M0 1 (kV (M0 1 (L5 Tryz.f3))))) .skip from rfl];refine wp_cond_false t18 (wp_skip ?_);have hev2:DVr (evI I2) w2 (kD k) v2:=DVr.ev _ (by unfold kD;simp only[Es];exact BT k) hk2;refine kq.call PK (I:=evI I2) (F:=[]) (vals:=[v2,.int .u8 (b.toNat:Int)]) (k,(b,())) hC (λx o hx=>hlt2 x o hx.1) (mD _ _) (two hev2) QM hs2 hd2 ⟨t0,t1,trivial⟩ λa3 w3 I3 vs3 Fp3 Fr3 hs3 hd3 _ hvs3 hL3=>?_;have hr3:=hL3.res;rw[hCr,PO,hvs3]at hr3;simp only[OAs,OAr]at hr3;obtain⟨m0,s0,G1,G2,q0,hp,⟨m1,s1,G3,G4,q1,he,⟨m2,s2,G5,G6,q2,hf,⟨m3,s3,G7,G8,q3,hby,⟨q4,rfl⟩,rfl⟩,rfl⟩,rfl⟩,rfl⟩:=hr3;simp only[OCr,DVr]at hby
  obtain⟨rfl,hby,_⟩:=hby
  subst q4;subst q3;subst q2;subst q1;simp only[PQ,Qs,List.cons.injEq]at q0;obtain⟨k5,k6,k7,k1,_⟩:=q0;obtain⟨ge,rfl⟩:∃ge,G3=[ge]:=by
   simp only[OCr]at he;obtain⟨g,cur,ty,Fs,_,_,hc,rfl,_⟩:=he;obtain⟨_,rfl⟩:=BY.1 hc;exact⟨g,rfl⟩
  have hnd:=hL3.nodup;have how:=hL3.own;have hFp3:Fp3=[]:=(jk (show OAs I3 w3 [] _ Fp3 from hL3.post)).2;subst hFp3;simp only[QT,PO]at hnd how;refine mid (λx o hx=>⟨?_,hL3.lt x o hx⟩) hp he hf hnd hs3 hd3 k5 k6 k7 (k1.trans hby) hraw hpeers hsame hins hE hS hN hg λa4 w4 h4 hd4 hs4 hfr4=>?_
  ·rcases Nat.mod_two_eq_zero_or_one o with h|h
   ·exact h
   ·obtain⟨_,o',rfl⟩:=hL3.odd x o hx h;omega
  ·refine fin .ret a4 w4 rfl h4 hd4 (((f2.trans hL3.fr λx hx=>by simp at hx)).trans hfr4 λx hx=>.inr ?_);rcases how x hx with h|h
   ·simp at h
   ·exact Qt f2.size h
theorem du:FnT Tryz.prog 3 cZ:=HW
end Go.Proofs.YthkhcbphbabefaaGreat.Am
