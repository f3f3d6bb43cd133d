/- Texts laid together: AmEnt, AmEnt2, AmEnt3, AmApp, AmReg, AmCode, AmLe, AmDraw, AmSpec, AmTake, AmCall, AmCall2, AmCall3, AmKeys, AmTail, AmFn, AmBuilt, AmEval. No conditions. -/
import Derived.Test.YthkhcbphbabefaaGreatKA
import Derived.Below
import Derived.Laws.Entries
import Derived.Laws.Bits64
namespace Go.Proofs.YthkhcbphbabefaaGreat.Am
open Go Go.MapKept
section
variable {P:Program}{W0:World}{M:Own}{G:Gh}{s:St}{a:Act}{w:World}{o:Oper}{K:List Upd->Prop}{Q':Exit->Act->World->Prop}
theorem uD{kv:Value}{c:List DV}(hc:V0 kv (kOf c)=true):∀{es:List (List DV)},dv kv es=none->dv kv (es++[c])=some es.length
 |[],_=>by simp[dv,hc]
 |e::es,h=>by
  unfold dv at h;split at h
  ·cases h
  ·rename_i hs;have h':dv kv es=none:=by simpa using h
   simp[dv,hs,uD hc h']
theorem uE{kv:Value}{c:List DV}(hc:V0 kv (kOf c)=true):∀{es:List (List DV)}{j:Nat},dv kv es=some j->dv kv (es.set j c)=some j
 |[],_,h=>by cases h
 |e::es,j,h=>by
  unfold dv at h;split at h
  ·injection h with h;subst h;simp[dv,hc]
  ·rename_i hs;obtain⟨i,h1,rfl⟩:=Option.map_eq_some_iff.1 h;simp[dv,hs,uE hc h1]
theorem Cw{kv:Value}{x:List DV}{es:List (List DV)}(hs:V0 kv kv=true):dv kv (jo kv x es)=some ((dv kv es).getD es.length):=by
 unfold jo;cases h:dv kv es with
 |none=>exact uD (by exact hs) h
 |some j=>exact uE (by exact hs) h
theorem yG{k:TK}{kv u:Value}(hk:wid k=none->KK k kv) (hu:KA k u) (hs:V0 kv u=true):u=kv:=by
 cases hw:wid k with
 |none=>
  have h1:=hk hw;have h2:=(iw hw).1 hu;clear hk hu hw;cases kv <;> try (exfalso;exact Sn hs)
  case int q a=>
   cases u <;> try (exfalso;exact Sn hs)
   case int q' b=>
    have hs:a=b:=PN hs;cases k <;> try exact h1.elim
    case int q0=>
     have h1:q=q0:=h1;have h2:q'=q0:=h2;rw[h1,h2,hs]
  case string a=>
   cases u <;> try (exfalso;exact Sn hs)
   case string b=>
    have hs:a.data.toList=b.data.toList:=PN hs;obtain⟨⟨a⟩⟩:=a;obtain⟨⟨b⟩⟩:=b;simp only at hs;rw[hs]
 |some n=>
  unfold KA at hu;rw[hw]at hu;cases u <;> try exact hu.elim
  case string q=>
   cases kv <;> try (exfalso;exact Sn hs)
   case string p=>
    have hs:p.data.toList=q.data.toList:=PN hs;obtain⟨⟨p⟩⟩:=p;obtain⟨⟨q⟩⟩:=q;simp only at hs;rw[hs]
theorem KL.self{k:TK}{kv:Value}(h:KL k kv):V0 kv kv=true:=by
 cases hw:wid k with
 |none=>
  have h1:=(cw hw).1 h;unfold KK at h1;split at h1
  ·simp[V0]
  ·simp[V0]
  ·exact h1.elim
 |some n=>
  unfold KL at h;rw[hw]at h;obtain⟨s,rfl,_⟩:=h;simp[V0]
theorem FX{t kt vt:TypeId}{k:TK}{iv:TI}(hm:P.underlying t=some (.map kt vt)) (hK:mH P kt k) (hTv:TOk P vt iv){g:Nat}{entries:Array MapEntry}{clock:Nat}(hh:w.heap[g]?=some (.map entries clock)){I:Nat->Nat->Prop}{e:Nat}{es:List (List DV)}(f1:mKs e=(wid k).getD 1) (f2:mKa e=(wid k).isSome) (f3:mVa e=iv.agg)
  (hme:MEs I w e es entries.toList) (hb:jm entries.toList clock) {kv:Value} (hkk:KL k kv) (hall:eQ k es) :
  ∃entries' clock' u i m,(Instr.mapEntry t (.map (some g)) (P4 k kv)).run P w= .ok (.tuple #[u,.int .i64 (m.born:Int)]) {w with heap:=w.heap.setIfInBounds g (.map entries' clock')}/\MEs I w e (jo kv ((ga kv es).getD (iv.zero.map Y5)) es) entries'.toList/\jm entries'.toList clock'/\
   dv kv (jo kv ((ga kv es).getD (iv.zero.map Y5)) es)=some i/\entries'.toList[i]?=some m:=by
 have hf:=hK.find hkk f1 f2 hme hall w;have hck:=λem=>hK.check hkk w em;have hsame:V0 kv kv=true:=hkk.self;obtain⟨z,hz,hzc⟩:=EG hTv (I:=I) w;rw[Cw hsame];have hlen:es.length=entries.toList.length:=hme.len.symm;cases hidx:dv kv es with
 |none=>
  rw[hidx]at hf;simp only[RH]at hf;refine⟨entries.push ⟨P4 k kv,z,clock⟩,clock+1,z,es.length,⟨P4 k kv,z,clock⟩,?_,?_,?_,rfl,?_⟩
  ·simp[Instr.mapEntry,run_underlying hm,MapKept.run_getObj_map hh,hck,hf,MapKept.run_setObj_map _ hh,hz,goInt]
  ·simp only[jo,hidx,ga,RH,RC,Sc];exact MEs.app (yB f1 f2 f3 hkk hzc clock) hme
  ·rw[Sc];refine⟨List.pairwise_append.2 ⟨hb.1,by simp,λx hx y hy=>?_⟩,λx hx=>?_⟩
   ·simp only[Qp]at hy;subst hy;exact hb.2 x hx
   ·rcases List.mem_append.1 hx with hx|hx
    ·have:=hb.2 x hx;omega
    ·simp only[Qp]at hx;subst hx;exact Rn _
  ·rw[Sc,hlen];simp
 |some j=>
  rw[hidx]at hf;simp only[Qm]at hf;obtain⟨hj,hsv⟩:=gG hidx;obtain⟨m,hmj,hM⟩:=hme.get hj;have hmem:es.getD j []∈es:=by rw[List.getD_eq_getElem?_getD,List.getElem?_eq_getElem hj];exact RK hj
  obtain⟨k1,k2,_⟩:=uB f1 f2 hM (hall _ hmem);have hkey:m.key=P4 k kv:=by rw[k1,hK.same hkk k2 hsv]
  have h2:entries[0+j]?=some m:=by
   have h2:entries[0+j]?=entries.toList[j]?:=by simp
   rw[h2,hmj]
  have hold:((entries[0+j]?).map (·.key)).getD (P4 k kv)=P4 k kv:=by rw[h2];simp[hkey]
  have hbo:((entries[0+j]?).map (λx=>(x.born:Int))).getD 0=(m.born:Int):=by rw[h2];rfl
  have hcv:=hM.2;rw[f3]at hcv;have hj2:j<entries.toList.length:=by omega
  refine⟨entries.modify (0+j) λe=>{e with key:=P4 k kv},clock,(entries.toList.getD j default).val,j,{m with key:=P4 k kv},?_,?_,?_,rfl,?_⟩
  ·simp only[Instr.mapEntry,run_underlying hm,MapKept.run_getObj_map hh,hck,hf,MapKept.run_setObj_map _ hh,Sem.run_bind,Result.andThen_ok,hold,hK.stays hkk,hbo,goInt,Sem.run_pure]
  ·rw[Qo,Z8 entries j _ hmj];simp only[jo,hidx,ga,Qm,Qq];exact MEs.set (yB f1 f2 f3 hkk hcv m.born) j hme
  ·rw[Qo,Z8 entries j _ hmj];exact ow hb hmj rfl
  ·rw[Qo,Z8 entries j _ hmj];rw[List.getElem?_set_self hj2]
theorem qu{ms:List MapEntry}{c i:Nat}{m:MapEntry}(hb:jm ms c) (hm:ms[i]?=some m):ms.findIdx? (λe=>(e.born:Int)==(m.born:Int))=some i:=by
 obtain⟨hi,rfl⟩:=List.getElem?_eq_some_iff.1 hm;rw[List.findIdx?_eq_some_iff_getElem];refine⟨hi,by simp,λj hj=>?_⟩;have:=(List.pairwise_iff_getElem.1 hb.1) j i (by omega) hi hj;simp only[Tv,ne_eq];omega
theorem FY{t:TypeId}{k:TK}{g:Nat}{entries:Array MapEntry}{clock:Nat}(hh:w.heap[g]?=some (.map entries clock)){I:Nat->Nat->Prop}{e:Nat}{b:Bool}{es:List (List DV)}(f1:mKs e=(wid k).getD 1) (f2:mKa e=(wid k).isSome) (f3:mVa e=b)
  (hme:MEs I w e es entries.toList) (hb:jm entries.toList clock) {kv v:Value} (hkk:wid k=none->KK k kv) (hall:eQ k es) {x:List DV} (hcv:CV I w b x v) {i:Nat} {m:MapEntry} (hi:dv kv es=some i) (hm:entries.toList[i]?=some m) :
  ∃entries',(Instr.entryStore t (.map (some g)) (.int .i64 (m.born:Int)) v).run P w= .ok () {w with heap:=w.heap.setIfInBounds g (.map entries' clock)}/\MEs I w e (jo kv x es) entries'.toList/\jm entries'.toList clock:=by
 obtain⟨hj,hsv⟩:=gG hi;obtain⟨m',hmj,hM⟩:=hme.get hj;rw[hm]at hmj;injection hmj with hmj;subst hmj;have hmem:es.getD i []∈es:=by rw[List.getD_eq_getElem?_getD,List.getElem?_eq_getElem hj];exact RK hj
 obtain⟨k1,k2,k3⟩:=uB f1 f2 hM (hall _ hmem);have hkv:=yG hkk k2 hsv;rw[hkv]at k1 k3;have hkey:m.key=P4 k kv:=k1;have hfi:entries.findIdx? (λe=>(e.born:Int)==(m.born:Int))=some i:=by
  rw[show entries=entries.toList.toArray from rfl,List.findIdx?_toArray];exact qu hb hm
 refine⟨entries.modify i λe=>{e with val:=v},?_,?_,?_⟩
 ·simp[Instr.entryStore,MapKept.run_getObj_map hh,MapKept.run_setObj_map _ hh,asInt,asIntOf,hfi]
 ·rw[Z8 entries i _ hm];simp only[jo,hi];have h1:=yB f1 f2 f3 k3 hcv m.born;have h2:({m with val:=v}:MapEntry)=⟨P4 k kv,v,m.born⟩:=by cases m;simp only at hkey;subst hkey;rfl
  rw[h2];exact MEs.set h1 i hme
 ·rw[Z8 entries i _ hm];exact ow hb hm rfl
end
section
variable {P:Program}{W0:World}{M:Own}{G:Gh}{s:St}{a:Act}{w w':World}{o:Oper}
theorem Mem.setRowE(h:Mem W0 M G s w){id:Nat}{R:Row}{es':List (List DV)}(hR:(s.r id).c=some R) (hnf:R.fr=false){e':Nat}(hns:¬Q4 R.e/\¬Q4 e') (hpe:M2<=e'->Is w' (G.rw id) (G.st id) ⟨es',R.sz,e',false⟩){g:Nat}(hrg:obk (G.rw id)=some g) (hg:w.grownBy w' (some g)) (hnew:U9 G.I w w'->M4 G.I w' (G.rw id) ⟨es',R.sz,e',false⟩) :
  Mem W0 M G (s.setR id ⟨(s.r id).ver,some ⟨es',R.sz,e',false⟩⟩) w'/\Ext G s w G (s.setR id ⟨(s.r id).ver,some ⟨es',R.sz,e',false⟩⟩) w':=by
 have hlive:(s.r id).c.isSome=true:=by rw[hR];rfl
 have hown:g∈own G s (.inr id):=by simp[own,hR,hrg]
 have hno:∀o,¬G.I g o:=λo hi=>by have:=(h.rI id R g hR hrg o hi).1;rw[hnf]at this;cases this
 have hk:U9 G.I w w':=λb o hi=>dY (hg.block b (h.In b o hi) (λe=>by injection e with e;subst e;exact hno o hi));have E:Ext G s w G (s.setR id ⟨(s.r id).ver,some ⟨es',R.sz,e',false⟩⟩) w':=by
  refine⟨λ_ _ h=>h,hk,λ_=>⟨PW _,λ_ h=>⟨h,rfl⟩⟩,λk=>?_,λ_ _=>rfl⟩;simp only[St.setR,upd];by_cases e:k=id
  ·subst e;simp only[Qy];exact⟨PW _,λ_ _=>⟨hlive,trivial⟩⟩
  ·simp only[e,Qr];exact⟨PW _,λ_ h=>⟨h,trivial⟩⟩
 have ho:∀x,own G (s.setR id ⟨(s.r id).ver,some ⟨es',R.sz,e',false⟩⟩) x=own G s x:=by
  intro x;rcases x with k|k
  ·rfl
  ·by_cases e:k=id
   ·subst e;simp[own,St.setR,upd,hR,hns.1,hns.2]
   ·simp[own,St.setR,upd,e]
 refine⟨⟨λk c hck=>?_,λk R' hck=>?_,λx y b hx hy=>h.dj x y b (by rw[ho]at hx;exact hx) (by rw[ho]at hy;exact hy),h.bI,λk R' g' hck hg'=>?_,λx b hx=>h.oM x b (by rw[ho]at hx;exact hx),λb o hi=>Qi (h.In b o hi) hg.size,h.fr.grown hg (λb hb hlt=>?_),h.ii,h.gl.mono E.I E.keep,λk R' hck hp=>by
  simp only[St.setR,upd]at hck;by_cases e:k=id
  ·simp only[e,Qy]at hck;injection hck with hck;subst hck;rw[e];exact hpe hp
  ·simp only[e,Qr]at hck;refine(h.pe k R' hck hp).kept hg (λb hb e1=>?_);injection e1 with e1;subst e1;have:=h.dj (.inr k) (.inr id) g (by simp[own,hck,hb]) hown;injection this with this;exact e this,λk R' hck hp=>by
  simp only[St.setR,upd]at hck;by_cases e:k=id
  ·simp only[e,Qy]at hck;injection hck with hck;subst hck;exact absurd hp hns.2
  ·simp only[e,Qr]at hck;refine⟨(h.sx k R' hck hp).1.kept hg (λb hb e1=>?_),(h.sx k R' hck hp).2⟩;injection e1 with e1;subst e1;have:=h.dj (.inr k) (.inr id) g (by
    rcases hb with hb|hb
    ·exact bO hck hb
    ·exact gt hck hp hb) hown
   injection this with this;exact e this⟩,E⟩
 ·have hck':(s.b k).c=some c:=hck;obtain⟨cur,ty',h1,h2⟩:=h.bx k c hck';have hlt:=(Array.getElem?_eq_some_iff.1 h1).1;refine⟨cur,ty',(hg.block _ hlt (λe1=>?_)).trans h1,E.acs h2⟩;injection e1 with e1;cases h.dj (.inl k) (.inr id) g (by simp[own,hck',e1]) hown
 ·simp only[St.setR,upd]at hck;by_cases e:k=id
  ·subst e;simp only[Qy]at hck;injection hck with hck;subst hck;exact hnew hk
  ·simp only[e,Qr]at hck;refine ownsRow.kept' (h.rw k R' hck) hg (λb hb e1=>?_) hk;injection e1 with e1;subst e1;have:=h.dj (.inr k) (.inr id) g (by simp[own,hck,hb]) hown;injection this with this;exact e this
 ·simp only[St.setR,upd]at hck;by_cases e:k=id
  ·subst e;rw[hrg]at hg';injection hg' with hg';subst hg';intro o hi;exact(hno o hi).elim
  ·simp only[e,Qr]at hck;exact h.rI k R' g' hck hg'
 ·injection hb with hb;subst hb;rcases h.oM _ _ hown with h1|h1
  ·omega
  ·exact h1
theorem Mem.stamp(h:Mem W0 M G s w) (id:Nat) (x:Value×Int) (hnp:∀R,(s.r id).c=some R->R.e<M2) :
  Mem W0 M ⟨G.I,G.bx,G.rw,upd G.st id x,G.ex⟩ (s.setB (pbx id) ⟨(s.b (pbx id)).ver+1,none⟩) w/\Ext G s w ⟨G.I,G.bx,G.rw,upd G.st id x,G.ex⟩ (s.setB (pbx id) ⟨(s.b (pbx id)).ver+1,none⟩) w:=by
 have E:Ext G s w ⟨G.I,G.bx,G.rw,upd G.st id x,G.ex⟩ (s.setB (pbx id) ⟨(s.b (pbx id)).ver+1,none⟩) w:=by
  refine⟨λ_ _ h=>h,U9.refl _ _,λk=>?_,λ_=>⟨PW _,λ_ h=>⟨h,rfl⟩⟩,λk e=>?_⟩
  ·simp only[St.setB,upd];by_cases e:k=pbx id
   ·subst e;simp only[Qy];exact⟨by omega,λe=>by omega⟩
   ·simp only[e,Qr];exact⟨PW _,λ_ h=>⟨h,trivial⟩⟩
  ·simp only[St.setB,upd]at e⊢;by_cases ek:k=id
   ·subst ek;simp only[Qy]at e;omega
   ·simp only[ek,Qr]
 have ho:∀y b,b∈own ⟨G.I,G.bx,G.rw,upd G.st id x,G.ex⟩ (s.setB (pbx id) ⟨(s.b (pbx id)).ver+1,none⟩) y->b∈own G s y:=by
  intro y b hx;rcases y with k|k
  ·by_cases e:k=pbx id
   ·subst e;simp[own,St.setB,upd]at hx
   ·simpa [own,St.setB,upd,e]using hx
  ·exact hx
 refine⟨⟨λk c hc=>?_,λk R hc=>h.rw k R hc,λy z b hx hy=>h.dj y z b (ho y b hx) (ho z b hy),λk hc=>?_,h.rI,λy b hx=>h.oM y b (ho y b hx),h.In,h.fr,h.ii,h.gl.mono E.I E.keep,λk R hc hp=>?_,h.sx⟩,E⟩
 ·simp only[St.setB,upd]at hc;by_cases e:k=pbx id
  ·simp[e]at hc
  ·simp only[e,Qr]at hc;obtain⟨cur,ty,h1,h2⟩:=h.bx k c hc;exact⟨cur,ty,h1,E.acs h2⟩
 ·simp only[St.setB,upd]at hc;by_cases e:k=pbx id
  ·simp[e]at hc
  ·simp only[e,Qr]at hc;exact h.bI k hc
 ·have hc':(s.r k).c=some R:=hc;by_cases e:k=id
  ·subst e;exact absurd (hnp R hc') (Nat.not_lt.2 hp)
  ·simp only[upd,e,Qr];exact h.pe k R hc' hp
end
section
variable {P:Program}{T:TypeId->Option TI}{W0:World}{M:Own}{G:Gh}{s:St}{a:Act}{w:World}{o:Oper}{K:List Upd->Prop}{Q':Exit->Act->World->Prop}
theorem np(e:Nat):mKs (e+M2)=mKs e/\mKa (e+M2)=mKa e/\mVa (e+M2)=mVa e:=by
 have h1:(e+M2) / 2%2=e / 2%2:=by simp only[M2];omega
 have h2:(e+M2)%2=e%2:=by simp only[M2];omega
 refine⟨?_,?_,?_⟩
 ·simp only[mKs,M2];omega
 ·simp only[mKa,h1]
 ·simp only[mVa,h2]
theorem MEs.pend{I:Nat->Nat->Prop}{e:Nat}:∀{cs:List (List DV)}{ms:List MapEntry},MEs I w e cs ms->MEs I w (e+M2) cs ms
 |[],_,h=>h
 |c::cs,ms,h=>by
  simp only[MEs]at h⊢;obtain⟨m,r,h1,h2,h3⟩:=h;obtain⟨f1,f2,f3⟩:=np e;refine⟨m,r,h1,?_,MEs.pend h3⟩;unfold ME at h2⊢;rw[f1,f2,f3];exact h2
theorem MEs.unpend{I:Nat->Nat->Prop}{e:Nat}:∀{cs:List (List DV)}{ms:List MapEntry},MEs I w (e+M2) cs ms->MEs I w e cs ms
 |[],_,h=>h
 |c::cs,ms,h=>by
  simp only[MEs]at h⊢;obtain⟨m,r,h1,h2,h3⟩:=h;obtain⟨f1,f2,f3⟩:=np e;refine⟨m,r,h1,?_,MEs.unpend h3⟩;unfold ME at h2⊢;rw[f1,f2,f3]at h2;exact h2
theorem mK(s:St) (id k:Nat) (x y:RS) (b:BS):((s.setR id x).setB k b).setR id y=(s.setR id y).setB k b:=by
 simp only[St.setR,St.setB,St.mk.injEq,true_and];funext j;simp only[upd];split <;> rfl
theorem II{t kt vt:TypeId}{ik iv:TI}{x y:Operand}{d:Nat}(ho:o.op= .mapEntry t x y) (hdst:o.dst=some d) (hd:d<s.n) (hu1:P.underlying t=some (.map kt vt)) (hTk:mH P kt ik.k) (hTv:TOk P vt iv) (h:Rel W0 M G s a w){m:AV}(hm:AVr G s w m (a.eval x)){kv:Value}(hkv:a.eval y=P4 ik.k kv) (hL:(wid ik.k=none->KK ik.k kv)->KL ik.k kv)
  (hq:(Iz d ik iv kv m).wp s K):bU P W0 M s o a w K Q':=by
 unfold Iz at hq;split at hq
 ·rename_i id ver;simp only[Q.wp]at hq;split at hq
  ·rename_i R hR;simp only[Q.wp]at hq;obtain⟨⟨e1,e2,e3,e4,hkq,hall⟩,hq⟩:=hq;have hm':=C2 hm;simp only[ACr]at hm';have hv:=hm'.2.2 e1 (by rw[hR];rfl);obtain⟨f1,f2,f3,f4,f5⟩:=bV ik.k iv.agg;rw[<-e2]at f1 f2 f3 f4 f5;obtain⟨g,entries,clock,hg,hh,hme,hbn,hz,hlen⟩:=h.mem.map_at hR f4 f5;obtain⟨en',cl',u,i,me,hrun,hme',hbn',hidx,hmi⟩:=FX hu1 hTk hTv hh f1 f2 f3 hme hbn (hL hkq) hall;obtain⟨hgr,hnew⟩:=cP (o':=.map en' cl') hh;have hzl:(List.map Y5 iv.zero).length=iv.size:=by rw[PR];exact(uv hTv).2
   have hll:∀e∈jo kv ((ga kv R.es).getD (iv.zero.map Y5)) R.es,e.length=R.sz:=sb hlen (by
    rw[e3];congr 1;cases hidx0:dv kv R.es with
    |none=>simp only[ga,hidx0,RH,RC];exact hzl
    |some j=>
     simp only[ga,hidx0,Qm,Qq];have hj:=(gG hidx0).1;have hmem:R.es.getD j []∈R.es:=by rw[List.getD_eq_getElem?_getD,List.getElem?_eq_getElem hj];exact RK hj
     rw[Qk,hlen _ hmem,e3];omega)
   obtain⟨m2,x2⟩:=h.mem.setRow hR e4 (show R.e<M2 by rw[e2];exact wA _ _) (by rw[e2];exact(bV _ _).2.2.2.2.2) (g:=g) (by rw[hg];rfl) hgr (es':=jo kv ((ga kv R.es).getD (iv.zero.map Y5)) R.es) (λhkp=>⟨hz,hll,.inr (.inl ⟨⟨f4,f5⟩,g,en',cl',hg,hnew,hme'.mono (λ_ _ h=>h) hkp,hbn'⟩)⟩);generalize hES:jo kv ((ga kv R.es).getD (iv.zero.map Y5)) R.es=ES at *
   generalize hW:({w with heap:=w.heap.setIfInBounds g (.map en' cl')}:World)=w2 at *
   obtain⟨m3,x3⟩:=m2.stamp id (kv,(me.born:Int)) (λR' hR'=>by
    simp only[St.setR,upd,Qy]at hR';injection hR' with hR';subst hR';show R.e<M2;rw[e2];exact wA _ _)
   obtain⟨m4,x4⟩:=m3.setRowE (id:=id) (R:=⟨ES,R.sz,R.e,false⟩) (es':=ES) (e':=R.e+M2) (g:=g) (w':=w2) (by simp only[St.setR,St.setB,upd,Qy]) rfl ⟨by rw[e2];exact(bV _ _).2.2.2.2.2,λk=>absurd k.2 (Nat.not_lt.2 (Sa _ _))⟩
    (λ_=>⟨g,en',cl',i,me,hg,hnew,by simp only[upd,Qy];exact hidx,hmi,by simp only[upd,Qy]⟩) (by rw[hg];rfl) ⟨rfl,rfl,rfl,PW _,λ_ _ _=>rfl⟩
    (λhkp=>⟨hz,hll,.inr (.inl ⟨⟨Qt f4 (SE _ _),λe9=>absurd (Sa M2 R.e) (by rw[show R.e+M2=dx from e9];decide),λk=>absurd k.2 (Nat.not_lt.2 (Sa _ _))⟩,g,en',cl',hg,hnew,(hme'.mono (λ_ _ h=>h) x2.keep).pend,hbn'⟩)⟩)
   have hex:(execOp a.eval o).run P w= .ok (.value (.tuple #[u,.int .i64 (me.born:Int)])) w2:=by
    unfold execOp;rw[ho];have hv':a.eval x= .map (some g):=by rw[hv,hg]
    simp only[Sem.run_bind,hv',hkv,hrun,Result.andThen_ok];rfl
   refine J6 hex ⟨_,hq,?_⟩;have h2:=h.mem' (x2.trans (x3.trans x4)) m4 rfl rfl;rw[hdst];have h3:=h2.put (d:=d) (x:=⟨true,.ent true id ((s.b (pbx id)).ver+1) kv⟩) (v:=.tuple #[u,.int .i64 (me.born:Int)]) hd ⟨λ_=>by
    simp only[AVr,St.setR,St.setB,upd,Qy];exact⟨PW _,λ_=>⟨trivial,λ_=>⟨u,rfl⟩,λe=>by cases e⟩⟩,λe=>by cases e⟩
   have es:s.app [Upd.r id ⟨(s.r id).ver,some ⟨ES,R.sz,R.e+M2,false⟩⟩,.b (pbx id) ⟨(s.b (pbx id)).ver+1,none⟩,.t d ⟨true,.ent true id ((s.b (pbx id)).ver+1) kv⟩]=((((s.setR id ⟨(s.r id).ver,some ⟨ES,R.sz,R.e,false⟩⟩).setB (pbx id) ⟨(s.b (pbx id)).ver+1,none⟩).setR id ⟨(s.r id).ver,some ⟨ES,R.sz,R.e+M2,false⟩⟩).setT d ⟨true,.ent true id ((s.b (pbx id)).ver+1) kv⟩):=by
    rw[mK];rfl
   rw[es];refine⟨⟨G.I,G.bx,G.rw,upd G.st id (kv,(me.born:Int)),G.ex⟩,?_⟩;simpa only[St.setR,St.setB,upd,Qy]using h3
  ·exact hq.elim
 ·exact hq.elim
theorem IJ{t:TypeId}{ik iv:TI}{x y z:Operand}(ho:o.op= .entryStore t x y z) (hdst:o.dst=none) (h:Rel W0 M G s a w){m st:AV}{cs:List AC}(hm:AVr G s w m (a.eval x)) (hst:AVr G s w st (a.eval y)) (hcs:ACs G s w cs (a.eval z).cells.toList)
  (hcv0:∀(I:Nat->Nat->Prop) (ds:List DV),E4 I w ds (a.eval z).cells.toList->CV I w iv.agg ds (a.eval z)) (hq:(IA ik iv cs m st).wp s K):bU P W0 M s o a w K Q':=by
 have hput:a.put o.dst undef=a:=by rw[hdst];rfl
 unfold IA at hq;split at hq
 ·rename_i id ver id' pv kv;rw[Q.wp_bind]at hq;obtain⟨d,hq1,hdl,hds⟩:=ed hcs hq;rw[Q.wp_bind]at hq1;obtain⟨us,G',hq2,hR',hE,hf,hfrz,hb',hr',hfr⟩:=co h hq1;simp only[Q.wp]at hq2;split at hq2
  ·rename_i R hR;obtain⟨⟨rfl,e0,e1,e2,e3,e4,hnot,hdi,hkq,hall⟩,hq3⟩:=hq2;have hm':=C2 hm;simp only[ACr]at hm';have hv:=hm'.2.2 e1 (by rw[hR];rfl);simp only[AVr]at hst;obtain⟨s1,_,s2⟩:=hst.2 e0;have hsv:=s2 trivial;have hcv:=hcv0 G'.I d.1 (hds G'.I hE.I hf);obtain⟨fr,hR1,_⟩:=(hfrz.2.2.2 id').2.2 R hR;have hfr0:fr=false:=by
    cases fr with
    |false=>rfl
    |true=>
     rcases hfr id' _ hR1 rfl with⟨R',h1,h2⟩|h1
     ·rw[hR]at h1;injection h1 with h1;subst h1;rw[e4]at h2;cases h2
     ·exact(hnot h1).elim
   subst hfr0;have hver:=(hfrz.2.2.2 id').1;obtain⟨f1,f2,f3,f4,f5⟩:=bV ik.k iv.agg;have hGst:G'.st id'=G.st id':=hE.st id' (by rw[hfrz.2.2.1]);obtain⟨g,entries,clock,i,me,hg,hh,hidx,hmi,hborn⟩:=hR'.mem.pe id' _ hR1 (by show M2<=R.e;rw[e2];exact Sa _ _);rw[hGst,<-s1]at hidx;rw[hGst]at hborn;obtain⟨g',entries',clock',hg',hh',hme,hbn,hz,hlen⟩:=hR'.mem.map_at hR1 (by show Q7<=R.e;rw[e2];exact Qt f4 (SE _ _)) ⟨by show R.e≠dx;rw[e2];exact λe9=>absurd (Sa M2 (mW ik.k iv.agg)) (by rw[e9];decide),by show ¬Q4 R.e;rw[e2];exact yy _⟩;rw[hg]at hg';injection hg' with hg';injection hg' with hg';subst hg';rw[hh]at hh';injection hh' with hh';injection hh' with hh1 hh2;subst hh1;subst hh2;simp only[e2]at hme;have hme0:MEs G'.I w (mW ik.k iv.agg) R.es entries.toList:=hme.unpend;obtain⟨en',hrun,hme',hbn'⟩:=FY (P:=P) (t:=t) hh f1 f2 f3 hme0 hbn hkq hall hcv hidx hmi;obtain⟨hgr,hnew⟩:=cP (o':=.map en' clock) hh;obtain⟨m2,e5⟩:=hR'.mem.setRowE hR1 rfl (e':=mW ik.k iv.agg) ⟨by rw[e2];exact yy _,f5.2⟩ (λhp=>absurd (wA ik.k iv.agg) (Nat.not_lt.2 hp)) (g:=g) (by rw[hg];rfl) hgr (es':=jo kv d.1 R.es) (λhkp=>⟨hz,sb hlen (by simp only;omega),.inr (.inl ⟨⟨f4,f5⟩,g,en',clock,hg,hnew,hme'.mono (λ_ _ h=>h) hkp,hbn'⟩)⟩);rw[hver]at m2 e5;have hex:(execOp a.eval o).run P w= .ok .skip {w with heap:=w.heap.setIfInBounds g (.map en' clock)}:=by
    unfold execOp;rw[ho];have hv':a.eval x= .map (some g):=by rw[hv,<-hr',hg]
    rw[<-hborn]at hsv;simp only[Sem.run_bind,hv',hsv,hrun,Result.andThen_ok];rfl
   refine ip hex ⟨_,hq3,G',?_⟩;rw[hput,St.app_append];exact hR'.mem' e5 m2 rfl rfl
  ·exact hq2.elim
 ·exact hq.elim
theorem se{t:TypeId}{x y:Operand}(ho:o.op= .mapEntry t x y) (hT:∀t i,T t=some i->TOk P t i) (h:Rel W0 M G s a w) (hd:∀d,o.dst=some d->d<s.n)
  (hq:((tq T t).bind λi=>(Q.ofOpt o.dst).bind λd=>(ev x).bind λm=>(ev y).bind λk=>match i.k with
   |.map kt vt=>(tq T kt).bind λik=>(tq T vt).bind λiv=>(ws T ik k).bind λkv=>Iz d ik iv kv m
   |_=>.fail).wp s K):bU P W0 M s o a w K Q':=by
 simp only[Q.wp_bind]at hq;obtain⟨i,hi,hq⟩:=M3 hq;obtain⟨d1,hu1,hk1⟩:=(hT t i hi).und;obtain⟨d,hdst,hq⟩:=H2 hq;obtain⟨m,hq,hm⟩:=K3 h hq;obtain⟨k,hq,hk⟩:=K3 h hq;split at hq
 ·rename_i kt vt hkk;rw[hkk]at hk1;simp only at hk1;subst hk1;simp only[Q.wp_bind]at hq;obtain⟨ik,hik,hq⟩:=M3 hq;obtain⟨iv,hiv,hq⟩:=M3 hq;obtain⟨kv,hq,hkv,hKo,hL⟩:=ov hT (hT kt ik hik) hk hq;exact II ho hdst (hd d hdst) hu1 hKo (hT vt iv hiv) h hm hkv hL hq
 ·exact hq.elim
theorem oy{t:TypeId}{x y z:Operand}(ho:o.op= .entryStore t x y z) (hdst:o.dst=none) (_hT:∀t i,T t=some i->TOk P t i) (h:Rel W0 M G s a w)
  (hq:((tq T t).bind λi=>(ev x).bind λm=>(ev y).bind λst=>(ev z).bind λx=>match i.k with
   |.map kt vt=>(tq T kt).bind λik=>(tq T vt).bind λiv=>(lh iv.agg x).bind λcs=>IA ik iv cs m st
   |_=>.fail).wp s K):bU P W0 M s o a w K Q':=by
 simp only[Q.wp_bind]at hq;obtain⟨i,hi,hq⟩:=M3 hq;obtain⟨m,hq,hm⟩:=K3 h hq;obtain⟨st,hq,hst⟩:=K3 h hq;obtain⟨u,hq,hu⟩:=K3 h hq;split at hq
 ·rename_i kt vt hkk;simp only[Q.wp_bind]at hq;obtain⟨ik,hik,hq⟩:=M3 hq;obtain⟨iv,hiv,hq⟩:=M3 hq;obtain⟨cs,hq,hcs,hcv0⟩:=qr hu hq;exact IJ ho hdst h hm hst hcs hcv0 hq
 ·exact hq.elim
end
end Go.Proofs.YthkhcbphbabefaaGreat.Am
namespace Go.Proofs.YthkhcbphbabefaaGreat.Am
open Go
section
variable {P:Program}{T:TypeId->Option TI}{W0:World}{M:Own}{G:Gh}{s:St}{a:Act}{w:World}{o:Oper}{K:List Upd->Prop}{Q':Exit->Act->World->Prop}
theorem FR{t e:TypeId}{i:TI}(hT:TOk P e i) (hu:P.underlying t=some (.slice e)) (ty:TypeId){v:Value}{n z:Nat}{xs:List Value}(how:w.ownsRow 0 e z v n xs) (c:Nat) :
  (Builtin.append_ #[t,t] ty #[v,.slice none 0 c]).run P w= .ok v w:=by
 obtain⟨inf,zv,hinf,_⟩:=hT.info;rcases how.2 with⟨rfl,rfl⟩|⟨g,cap,cur,rfl,_,_,hnc,_⟩
 ·simp[Builtin.append_,run_underlying hu,Go.sizeOf,typeInfo,hinf,Builtin.lenOf,Builtin.firstCells]
 ·simp[Builtin.append_,run_underlying hu,Go.sizeOf,typeInfo,hinf,Builtin.lenOf,Builtin.firstCells,hnc,storeCells]
theorem rZ{t e:TypeId}{i:TI}(hT:TOk P e i) (hz0:0<i.size) (hu:P.underlying t=some (.slice e)) (ty:TypeId){v u:Value}{n:Nat}{xs:List Value}(how:w.ownsRow 0 e i.size v n xs){ys:List (List DV)}{I:Nat->Nat->Prop}
  (hd:DVr I w (.sl ys) u) (hal:nb i.size ys) (hb:(n+ys.length)*i.bytes<=140737488355328) (hm:n+ys.length<=4611686018427387904) :
  ∃v' w' yc,(Builtin.append_ #[t,t] ty #[v,u]).run P w= .ok v' w'/\w'.ownsRow 0 e i.size v' (n+ys.length) (xs++yc)/\D2 I w ys yc/\
   ((v'.ownBlock=v.ownBlock/\w.grownBy w' v.ownBlock)\/(w.grownBy w' none/\v'.ownBlock=some w.heap.size)):=by
 simp only[DVr]at hd;obtain⟨A,c,z,yc,rfl,h1,h2,h3,h4,h5,h6⟩:=hd;cases A with
 |none=>
  have h0:ys=[]:=by
   rcases RL ys.length with h|h
   ·exact Qd h
   ·obtain⟨_,h,_⟩:=h5 h;cases h
  subst h0;exact⟨v,w,[],FR hT hu ty how c,by simpa using how,by simp[D2],.inl ⟨rfl,rfl,rfl,rfl,PW _,λ_ _ _=>rfl⟩⟩
 |some ad=>
  obtain⟨inf,zv,hinf,hsz,hby,hz,hzl,hzn,hz1⟩:=hT.info;have hyl:=h6.len hal;have hcells:∀j x,yc[j]?=some x->w.cell? (ad.add j)=some x:=by
   intro j x hj;have h0:0<ys.length:=by
    rcases RL ys.length with h|h
    ·rw[h]at hyl;have:yc=[]:=Qd (by omega);subst this;simp at hj
    ·exact h
   obtain⟨ad',e1,hc⟩:=h5 h0;injection e1 with e1;subst e1;exact(hc j x hj).1
  obtain⟨v',w',hr,k1,k2,_,k4⟩:=run_append_own_at (P:=P) w 0 t ty e inf zv i.size i.bytes hu hinf hz hsz hby (by rw[<-PZ,hzl];exact hzn) hz0 v n xs how ad ys.length c yc hyl hcells (h6.one) (by simp only[maxLen];omega) hb (QE _);refine⟨v',w',yc,hr,k1,h6,?_⟩;rcases how.2 with⟨rfl,rfl⟩|⟨g,cap,cur,rfl,_,hg,hnc,hcm,hcs,htk⟩
  ·by_cases hy0:ys.length=0
   ·have h0:ys=[]:=Qd hy0;subst h0;rcases k4 with k4|k4
    ·exact .inl ⟨k4,k2⟩
    ·exact .inr ⟨k2,k4⟩
   ·have hr2:=run_append_nil (P:=P) w t ty e inf zv hu hinf hz ad ys.length c yc (by rw[hyl,hsz]) hcells (by omega) (by omega) (by rw[hby];simp only[Qo]at hb;omega);rw[hr2]at hr;injection hr with e1 e2;subst e1;subst e2;exact .inr ⟨eP w _,rfl⟩
  ·by_cases hroom:n+ys.length<=cap
   ·have hfit:n*inf.size+yc.length<=cur.size:=by rw[hyl,hcs,hsz,<-TF];exact QA _ hroom
    have hr2:=run_append_room (P:=P) w t ty e inf hu hinf g n cap cur hg ad ys.length c yc (by rw[hyl,hsz]) hcells (h6.one) hroom hfit;rw[hr2]at hr;injection hr with e1 e2;subst e1;exact .inl ⟨rfl,k2⟩
   ·have holds:∀j x,xs[j]?=some x->w.cell? ((⟨g,0,none⟩:Addr).add j)=some x:=how.cells (g:=g) rfl;have hr2:=run_append_grow (P:=P) w t ty e inf zv hu hinf hz ⟨g,0,none⟩ n cap xs (by rw[how.1,hsz]) holds ad ys.length c yc (by rw[hyl,hsz]) hcells (by omega) (by omega) (growslice_fits (by omega) (by rw[hby];exact hb));rw[hr2]at hr;injection hr with e1 e2;subst e1;subst e2;exact .inr ⟨eP w _,rfl⟩
theorem uA{I:Nat->Nat->Prop}{e:TypeId}{z n m:Nat}{v v':Value}{w':World}{xs yc:List Value}(how:w.ownsRow 0 e z v n xs) (how':w'.ownsRow 0 e z v' m (xs++yc)) (hIn:∀b o,I b o->b<w.heap.size)
  (hI:∀g,v.ownBlock=some g->∀o,I g o->o<2*(n*z)) (h:(v'.ownBlock=v.ownBlock/\w.grownBy w' v.ownBlock)\/(w.grownBy w' none/\v'.ownBlock=some w.heap.size)):U9 I w w':=by
 intro b o hi;have hlt:=hIn b o hi;rcases h with⟨h1,h2⟩|⟨h1,_⟩
 ·by_cases hb:v.ownBlock=some b
  ·have ho:=hI b hb o hi;have hl:o / 2<xs.length:=by rw[how.1];omega
   have c1:=how.cells hb (o / 2) xs[o / 2] (List.getElem?_eq_getElem hl);have c2:=how'.cells (h1.trans hb) (o / 2) xs[o / 2] (by rw[List.getElem?_append_left hl];exact List.getElem?_eq_getElem hl);have hadd:(⟨b,0,none⟩:Addr).add (o / 2)=⟨b,o / 2,none⟩:=by rw[H1 _ _ rfl];simp
   rw[hadd]at c1 c2;exact⟨by rw[c1,c2],by rw[ig how hb,ig how' (h1.trans hb)]⟩
  ·exact dY (h2.block b hlt (λe=>hb e.symm))
 ·exact dY (h1.block b hlt (by simp))
theorem IE(h:Rel W0 M G s a w){x:AV}{v:Value}{K:Nat->Prop}(hx:AVr G s w x v) (hq:(Ln x).wp s K):∃A n c,v= .slice A n c/\K n:=by
 unfold Ln at hq;split at hq
 ·have h1:=C2 hx;simp only[ACr,DVr]at h1;obtain⟨A,c,z,xs,h1,_⟩:=h1;exact⟨A,_,c,h1,hq⟩
 ·have h1:=C2 hx;simp only[ACr,DVr]at h1;obtain⟨A,c,z,xs,h1,_⟩:=h1;exact⟨A,_,c,h1,hq⟩
 ·have h1:=C2 hx;simp only[ACr,DVr]at h1;obtain⟨_,A,c,z,xs,h1,_⟩:=h1;exact⟨A,_,c,h1,hq⟩
 ·have h1:=C2 hx;simp only[ACr]at h1;exact⟨none,0,0,h1,hq⟩
 ·rename_i id ver;simp only[Q.wp]at hq;split at hq
  ·rename_i R hR;obtain⟨⟨e,hE⟩,hq⟩:=hq;have h1:=C2 hx;simp only[ACr]at h1;obtain rfl:=h1.2.2 e (by rw[hR];rfl);obtain⟨_,_,xs,ho,_⟩:=(h.mem.rw id R hR).sl hE;rcases ho.2 with⟨hv,h0⟩|⟨g,cap,cur,hv,_⟩
   ·exact⟨none,0,0,hv,by rw[h0]at hq;exact hq⟩
   ·exact⟨_,_,cap,hv,hq⟩
  ·exact hq.elim
 ·exact hq.elim
theorem IF{d:Nat}{t e:TypeId}{i:TI}(hT:TOk P e i) (hz0:0<i.size) (hu:P.underlying t=some (.slice e)) (h:Rel W0 M G s a w) (hdd:o.dst=some d) (hd:d<s.n){x y:AC}{u v:Value}(hx:ACr G s w x u) (hy:ACr G s w y v) (hq:(og d e i.size i.bytes x y).wp s K)
  (hrun:∀r w',(Builtin.append_ #[t,t] o.type #[u,v]).run P w= .ok r w'->(execOp a.eval o).run P w= .ok (.value r) w'):bU P W0 M s o a w K Q':=by
 unfold og at hq;rw[Q.wp_bind]at hq;obtain⟨yd,hq1,_,hyd⟩:=ni hy hq;clear hq;split at hq1
 ·rename_i ys hys;obtain⟨⟨hal,heF⟩,hq2⟩:=hq1;rw[Q.wp_bind]at hq2;obtain⟨us,G',hq3,hR,hE,hf,hfrz,hb',hr',hfr⟩:=co h hq2;clear hq2;have hdv:=hyd G'.I hE.I hf;rw[hys]at hdv;simp only[Q.wp]at hq3;have hver:(s.r d).ver=((s.app us).r d).ver:=((hfrz.2.2.2 d).1).symm;split at hq3
  ·obtain⟨⟨hb,hm⟩,hq4⟩:=hq3;simp only[ACr]at hx;subst hx;obtain⟨v',w',yc,hr,how',hde,halt⟩:=rZ (n:=0) (xs:=[]) hT hz0 hu o.type (World.ownsRow_nil w 0 e i.size) hdv hal (by simpa using hb) (by simpa using hm);have hgn:w.grownBy w' none:=by
    rcases halt with⟨_,h2⟩|⟨h1,_⟩
    ·exact h2
    ·exact h1
   have hk:=uA (World.ownsRow_nil w 0 e i.size) how' hR.mem.In (λg hg=>by cases hg) halt;rw[hver]at hq4;rw[Qo,QT]at how';refine lj (s0:=s) (us:=us) hR hdd (by rw[hfrz.1];exact hd) (R:=⟨ys,i.size,e,false⟩) (v:=v') hgn ⟨hz0,hal,.inl ⟨heF,yc,how',D2.mono (λ_ _ h=>h) hk _ hde⟩⟩ (λb hb=>?_) rfl hq4 (hrun _ _ hr);rw[N7 how']at hb;rcases halt with⟨h1,_⟩|⟨_,h1⟩
   ·rw[h1]at hb;cases hb
   ·rw[h1]at hb;injection hb with hb;omega
  ·rename_i id ver;simp only[Q.wp]at hq3;split at hq3
   ·rename_i R hRr;obtain⟨⟨e1,e2,e3,hb,hm⟩,hq4⟩:=hq3;simp only[ACr]at hx;have hu':=hx.2.2 e1 (by rw[hRr];rfl);obtain⟨fr,hR1,hfrf⟩:=(hfrz.2.2.2 id).2.2 R hRr;obtain⟨hz,huni,xs,how,hde0⟩:=(hR.mem.rw id _ hR1).sl (by simp only;rw[e3];exact heF);simp only at hz huni how hde0;rw[e2,e3]at how;rw[hr',<-hu']at how;obtain⟨v',w',yc,hr,how',hde,halt⟩:=rZ hT hz0 hu o.type how hdv hal hb hm;have hobu:=N7 how;have hobv:=N7 how';have hrI:∀g,u.ownBlock=some g->∀o',G'.I g o'->fr=true/\o'<2*(R.es.length*i.size):=λg hg o' hi=>by
     have:=hR.mem.rI id _ g hR1 (by rw[hr',<-hu',hobu];exact hg) o' hi;rw[e2]at this;exact this
    have hk:=uA how how' hR.mem.In (λg hg o' hi=>(hrI g hg o' hi).2) halt;obtain⟨m1,x1⟩:=hR.mem.dropRow id;have hownu:∀g,u.ownBlock=some g->g∈own G' (s.app us) (.inr id):=λg hg=>bO hR1 (by rw[hr',<-hu',hobu];exact hg);have hout:∀x g,u.ownBlock=some g->g∉own G' ((s.app us).setR id ⟨((s.app us).r id).ver,none⟩) x:=λx g hg hx'=>by
     have h1:g∈own G' (s.app us) x:=by
      rcases x with k|k
      ·exact hx'
      ·by_cases e:k=id
       ·subst e;simp[own,St.setR,upd]at hx'
       ·simpa [own,St.setR,upd,e]using hx'
     have:=hR.mem.dj x (.inr id) g h1 (hownu g hg);subst this;simp[own,St.setR,upd]at hx'
    have hMu:∀g,u.ownBlock=some g->W0.heap.size<=g\/M g:=λg hg=>hR.mem.oM _ g (hownu g hg);have hgu:w.grownBy w' u.ownBlock/\(v'.ownBlock=u.ownBlock\/v'.ownBlock=some w.heap.size):=by
     rcases halt with⟨h1,h2⟩|⟨h1,h2⟩
     ·exact⟨h2,.inl h1⟩
     ·exact⟨⟨h1.os,h1.tape,h1.output,h1.size,λk hk' _=>h1.block k hk' (by simp)⟩,.inr h2⟩
    have m2:=m1.world hgu.1 hk (λx b hx' e=>hout x b e hx') (λb hb' hlt=>by rcases hMu b hb' with h|h;omega;exact h);have x2:Ext G' ((s.app us).setR id ⟨((s.app us).r id).ver,none⟩) w G' ((s.app us).setR id ⟨((s.app us).r id).ver,none⟩) w':=⟨λ_ _ h=>h,hk,λ_=>⟨PW _,λ_ h=>⟨h,rfl⟩⟩,λ_=>⟨PW _,λ_ h=>⟨h,rfl⟩⟩,λ_ _=>rfl⟩;have hvd:(((s.app us).setR id ⟨((s.app us).r id).ver,none⟩).r d).ver=(s.r d).ver:=by
     rw[hver];simp only[St.setR,upd];by_cases e:d=id
     ·subst e;simp
     ·simp[e]
    have hidv:((s.app us).r id).ver=(s.r id).ver:=(hfrz.2.2.2 id).1;have hrow:M4 G'.I w' v' ⟨R.es++ys,i.size,e,R.fr||yd.2.contains id⟩:=by
     refine⟨hz0,λf hf'=>?_,.inl ⟨heF,xs++yc,by simp only[PU];exact how',D2.mono (λ_ _ h=>h) hk _ (D2.app hde0 hde)⟩⟩;rcases List.mem_append.1 hf' with h|h
     ·rw[<-e2];exact huni f h
     ·exact hal f h
    obtain⟨m3,x3⟩:=m2.addRow d ((s.r d).ver+1) v' ⟨R.es++ys,i.size,e,R.fr||yd.2.contains id⟩ (by rw[hvd];omega) hrow (λx b hv' hx'=>by
     rw[hobv]at hv';rcases hgu.2 with h|h
     ·rw[h]at hv';exact hout x b hv' hx'
     ·rw[h]at hv';injection hv' with hv';subst hv';have:=m1.ownlt hx';omega) (λg hg o' hi=>by
     rw[hobv]at hg;rcases hgu.2 with h|h
     ·rw[h]at hg;obtain⟨q1,q2⟩:=hrI g hg o' hi;refine⟨?_,by simp only[PU,TF];omega⟩;simp only[RI];rcases hfr id _ hR1 q1 with⟨R',r1,r2⟩|r1
      ·rw[hRr]at r1;injection r1 with r1;subst r1;exact .inl r2
      ·exact .inr (by simpa using r1)
     ·rw[h]at hg;injection hg with hg;subst hg;have:=hR.mem.In _ _ hi;omega) (λg hg=>by
     rw[hobv]at hg;rcases hgu.2 with h|h
     ·rw[h]at hg;exact hMu g hg
     ·rw[h]at hg;injection hg with hg;subst hg;exact .inl hR.mem.fr.size)
    refine J6 (hrun _ _ hr) ⟨_,hq4,?_⟩;have hR3:=hR.mem' ((x1.trans x2).trans x3) m3 rfl rfl;rw[St.app_append,hdd];rw[hidv]at hR3;refine⟨_,hR3.put (show d<_ from by show d<(s.app us).n;rw[hfrz.1];exact hd) ⟨λ_=>?_,λe=>by cases e⟩⟩;have hone:v'.oneCell'=true:=by
     rcases how'.2 with⟨rfl,_⟩|⟨g,cap,cur,rfl,_⟩ <;> rfl
    simp only[AVr,ACr,St.setR,upd,Qy];exact⟨hone,PW _,λ_ _=>trivial⟩
   ·exact hq3.elim
  ·exact hq3.elim
 ·exact hq1.elim
end
section
variable {P:Program}{T:TypeId->Option TI}{cq:Oper->Call->Q (List Upd)}
theorem EH(hT:∀t i,T t=some i->TOk P t i) (hcq:∀o c,o.op= .call c->xO P o (cq o c)) (o:Oper):xO P o (opQ T cq o):=by
 intro W0 M s a w K Q' hd hR hq;obtain⟨G,h⟩:=hR;unfold opQ at hq;split at hq
 ·rename_i x ho;exact yi (.inl ho) h hd hq
 ·rename_i x ho;exact yi (.inr ho) h hd hq
 ·rename_i c x y ho;exact FN ho h hd hq
 ·rename_i t ho;exact Cj ho hT h hd hq
 ·rename_i t x ho;exact IB ho h hd hq
 ·rename_i t ps ho;exact Cs ho hT h hd hq
 ·rename_i t n ps ho;exact oq ho hT h hd hq
 ·rename_i t x ho;exact FO ho hT h hd hq
 ·rename_i t x y ho;split at hq
  ·exact hq.elim
  ·rename_i hdst;exact Co ho hT h hdst hq
 ·rename_i x ho;exact rW ho h hd hq
 ·rename_i op t x y t' ho;exact Cn ho hT h hd hq
 ·rename_i op t x ho;exact FP ho h hd hq
 ·rename_i t t' x ho;exact wy ho hT h hd hq
 ·rename_i t x lo hi ho;exact Cp ho hT h hd hq
 ·rename_i t x f ho;exact Cl ho hT h hd hq
 ·rename_i t x y ho;exact Cr ho hT h hd hq
 ·rename_i t x y ho;exact yw ho hT h hd hq
 ·rename_i t x f ho;exact yx ho hT h hd hq
 ·rename_i x k ho;exact wu ho h hd hq
 ·rename_i t x y ho;exact qo ho hT h hd hq
 ·rename_i t r ho;exact wD ho hT h hd hq
 ·rename_i t x y ok ho;exact yD ho hT h hd hq
 ·rename_i t x y z ho;split at hq
  ·exact hq.elim
  ·rename_i hdst;exact qt ho hdst hT h hq
 ·rename_i t x y ho;exact se ho hT h hd hq
 ·rename_i t x y z ho;split at hq
  ·exact hq.elim
  ·rename_i hdst;exact oy ho hdst hT h hq
 ·rename_i t x ho;exact wF ho hT h hd hq
 ·rename_i x ho;exact FW ho h hd hq
 ·rename_i fn fs cs ho;exact sf ho h hd hq
 ·rename_i t x ho;exact kj ho hT h hd hq
 ·rename_i x xt t ho;exact ox ho hT h hd hq
 ·rename_i c ho;exact hcq o c ho W0 M s a w K Q' hd ⟨G,h⟩ hq
 ·exact hq.elim
theorem yH(hT:∀t i,T t=some i->TOk P t i) (hcq:∀o c,o.op= .call c->xO P o (cq o c)){ops:Array Oper}{l:List Oper}(hl:ops=l.toArray){o:Oper}{W0:World}{M:Own}{s:St}{a:Act}{w:World}{K:List Upd->Prop}{Q':Exit->Act->World->Prop}
  (hd:∀d,o.dst=some d->d<s.n) (hR:fA W0 M s a w) (hq:wpO T cq l o s K) :
  if Region.wanted o (yielded ops a.tmps)=true then o.wp P a w (λa' w'=>∃us,K us/\fA W0 M (s.app us) a' w') Q' else ∃us,K us/\fA W0 M (s.app us) (a.put o.dst undef) w:=by
 unfold wpO opD at hq;obtain⟨G,h⟩:=hR;have skip:K (ol o.dst)->∃us,K us/\fA W0 M (s.app us) (a.put o.dst undef) w:=λhk=>by
  refine⟨_,hk,?_⟩;cases hdst:o.dst with
  |none=>exact⟨G,h⟩
  |some dd=>exact⟨G,h.put (hd dd hdst) ⟨λe=>by simp at e,λ_=>rfl⟩⟩
 split at hq
 ·rename_i hg;have hw:Region.wanted o (yielded ops a.tmps)=true:=by simp[Region.wanted,hg]
  rw[Qx hw];exact EH hT hcq o W0 M s a w K Q' hd ⟨G,h⟩ hq
 ·rename_i j want hg;split at hq
  ·rename_i d hjd;have hoj:ops[j]?.bind (·.dst)=some d:=by rw[hl];simpa using hjd
   have hgv:=h.tm d;cases ho:ops[j]? with
   |none=>rw[ho]at hoj;cases hoj
   |some oj=>
    rw[ho]at hoj;have hdst:oj.dst=some d:=hoj;simp only[Q.wp]at hq;cases hgt:(s.t d).g with
    |false=>
     rw[hgt]at hq;have hw:Region.wanted o (yielded ops a.tmps)=false:=by
      have h1:=hgv.2 hgt;rw[Array.getD_eq_getD_getElem?]at h1;cases ht:a.tmps[d]? with
      |none=>simp[Region.wanted,hg,yielded,ho,hdst,ht]
      |some v=>
       rw[ht]at h1;simp only[Qq]at h1;subst h1;simp[Region.wanted,hg,yielded,ho,hdst,ht,undef]
     rw[Ql (by rw[hw];simp)];exact skip hq
    |true=>
     rw[hgt]at hq;simp only[Q.wp_bind]at hq;obtain⟨b,hx,hq⟩:∃b,(s.t d).x= .c (.d (.v (.bool b)))/\((match b==want with|true=>opQ T cq o|false=>Q.ret (ol o.dst)):Q (List Upd)).wp s K:=by
      unfold Q.bool at hq;split at hq
      ·rename_i b hb;exact⟨b,hb,hq⟩
      ·exact hq.elim
     have hw:Region.wanted o (yielded ops a.tmps)=(b==want):=by
      have:=hgv.1 hgt;rw[hx]at this;simp only[AVr,ACr,DVr]at this;have h1:=this.1;rw[Array.getD_eq_getD_getElem?]at h1;cases ht:a.tmps[d]? with
      |none=>rw[ht]at h1;simp[undef]at h1
      |some v=>
       rw[ht]at h1;simp only[Qq]at h1;subst h1;cases b <;> cases want <;> simp[Region.wanted,hg,yielded,ho,hdst,ht]
     rw[hw];cases hbw:(b==want) with
     |true=>
      rw[hbw]at hq;simp only[Qy];exact EH hT hcq o W0 M s a w K Q' hd ⟨G,h⟩ hq
     |false=>
      rw[hbw]at hq;simp only[Bool.false_eq_true,Qr];exact skip hq
  ·exact hq.elim
def wpR(T:TypeId->Option TI) (cq:Oper->Call->Q (List Upd)) (l:List Oper):List Oper->St->(St->Prop)->Prop
 |[],s,K=>K s
 |o::rest,s,K=>wpO T cq l o s λus=>wpR T cq l rest (s.app us) K
def qv(n:Nat) (o:Oper):Bool:=match o.dst with | some d=>decide (d<n) | none=>true
theorem yI(s:St):∀us:List Upd,(s.app us).n=s.n
 |[]=>rfl
 |u::us=>by rw[St.app,yI];cases u <;> rfl
theorem yJ(hT:∀t i,T t=some i->TOk P t i) (hcq:∀o c,o.op= .call c->xO P o (cq o c)){l:List Oper}{W0:World}{M:Own}{Q':Exit->Act->World->Prop}{K:St->Prop}{n:Nat}(hfin:∀s' a' w',s'.n=n->K s'->fA W0 M s' a' w'->Q' .normal a' w') :
  ∀{rest:List Oper} {s:St} {a:Act} {w:World},(rest.all (qv n))=true->s.n=n->fA W0 M s a w->wpR T cq l rest s K->wpList P l.toArray Q' rest a w
 |[],s,a,w,_,hn,hR,hq=>wpList_nil (hfin s a w hn hq hR)
 |o::rest,s,a,w,hd,hn,hR,hq=>by
  simp only[Rc,PM]at hd;simp only[wpR]at hq;have hd1:∀d,o.dst=some d->d<s.n:=λd e=>by have h1:=hd.1;unfold qv at h1;rw[e]at h1;have h2:=PN h1;rw[hn];exact h2
  have:=yH (P:=P) hT hcq (ops:=l.toArray) rfl (Q':=Q') hd1 hR hq;refine wpList_step ?_;intro K' hK';split
  ·rename_i hw;rw[Qx hw]at this;refine Oper.wp_mono (λa' w'=>?_) this;rintro⟨us,hk,hr⟩;exact hK' _ _ (yJ hT hcq hfin hd.2 (by rw[yI];exact hn) hr hk)
  ·rename_i hw;rw[Ql hw]at this;obtain⟨us,hk,hr⟩:=this;exact hK' _ _ (yJ hT hcq hfin hd.2 (by rw[yI];exact hn) hr hk)
end
inductive AX where
 |normal
 |exit (id:Nat)
 |ret
def QK(W0:World) (M:Own) (K:AX->St->Prop):Exit->Act->World->Prop
 |.normal,a,w=>∃s,fA W0 M s a w/\K .normal s
 |.exit i,a,w=>∃s,fA W0 M s a w/\K (.exit i) s
 |.ret,a,w=>∃s,fA W0 M s a w/\K .ret s
 |_,_,_=>False
def Tri(P:Program) (c:Code) (K:AX->St->Prop) (s:St):Prop:=∀W0 M a w,fA W0 M s a w->c.wp P (QK W0 M K) a w
def Le(s s':St):Prop:=∀W0 M a w,fA W0 M s a w->fA W0 M s' a w
def NM(P:Program) (y:Code) (K:AX->St->Prop):AX->St->Prop
 |.normal,s=>Tri P y K s
 |.exit i,s=>K (.exit i) s
 |.ret,s=>K .ret s
def NN(id:Nat) (K:AX->St->Prop):AX->St->Prop
 |.normal,s=>K .normal s
 |.exit i,s=>if i=id then K .normal s else K (.exit i) s
 |.ret,s=>K .ret s
def LK(n:Nat) (I:Nat->St->Prop) (K:AX->St->Prop):AX->St->Prop
 |.normal,s=>∃m s',m<n/\Le s s'/\I m s'
 |.exit i,s=>K (.exit i) s
 |.ret,s=>K .ret s
section
variable {P:Program}{T:TypeId->Option TI}{cq:Oper->Call->Q (List Upd)}{K:AX->St->Prop}{s:St}
theorem Le.refl(s:St):Le s s:=λ_ _ _ _ h=>h
theorem Le.trans{s1 s2 s3:St}(h:Le s1 s2) (k:Le s2 s3):Le s1 s3:=λW0 M a w r=>k W0 M a w (h W0 M a w r)
theorem Cx(h:K .normal s):Tri P .skip K s:=λ_ _ _ _ hR=>wp_skip ⟨s,hR,h⟩
theorem FZ(h:K .ret s):Tri P .ret K s:=λ_ _ _ _ hR=>wp_ret ⟨s,hR,h⟩
theorem Cy{i:Nat}(h:K (.exit i) s):Tri P (.exit i) K s:=λ_ _ _ _ hR=>wp_exit ⟨s,hR,h⟩
theorem IK{c:Code}{s':St}(hl:Le s s') (h:Tri P c K s'):Tri P c K s:=λW0 M a w hR=>h W0 M a w (hl W0 M a w hR)
theorem oz{x y:Code}(h:Tri P x (NM P y K) s):Tri P (.seq x y) K s:=λW0 M a w hR=>wp_seq (wp_mono (h W0 M a w hR) λe a' w' hq=>by
 cases e with
 |normal=>obtain⟨s',h1,h2⟩:=hq;exact h2 W0 M a' w' h1
 |exit i=>exact hq
 |ret=>exact hq
 |goto l=>exact hq.elim
 |panic c=>exact hq.elim
 |outgrown=>exact hq.elim)
theorem yK{id:Nat}{c:Code}(h:Tri P c (NN id K) s):Tri P (.block id c) K s:=λW0 M a w hR=>wp_block (wp_mono (h W0 M a w hR) λe a' w' hq=>by
 cases e with
 |normal=>exact hq
 |exit i=>
  obtain⟨s',h1,h2⟩:=hq;simp only[NN]at h2;simp only[Exit.inBlock];split
  ·rename_i e;rw[Qx e]at h2;exact⟨s',h1,h2⟩
  ·rename_i e;rw[Ql e]at h2;exact⟨s',h1,h2⟩
 |ret=>exact hq
 |goto l=>exact hq.elim
 |panic c=>exact hq.elim
 |outgrown=>exact hq.elim)
theorem Cz{c:Operand}{x y:Code}(h:((ev c).bind Q.bool).wp s λb=>(b=true->Tri P x K s)/\(b=false->Tri P y K s)):Tri P (.cond c x y) K s:=λW0 M a w hR=>by
 obtain⟨G,hr⟩:=hR;rw[Q.wp_bind]at h;obtain⟨v,h1,hv⟩:=K3 hr h;obtain⟨b,hb,_,h2⟩:=ye hv h1;refine wp_cond_split hb (λe=>?_) (λe=>?_)
 ·exact h2.1 e W0 M a w ⟨G,hr⟩
 ·exact h2.2 e W0 M a w ⟨G,hr⟩
theorem nt(hT:∀t i,T t=some i->TOk P t i) (hcq:∀o c,o.op= .call c->xO P o (cq o c)){id:Nat}{l:List Oper}(hd:(l.all (qv s.n))=true) (h:wpR T cq l l s (K .normal)):Tri P (.region id l.toArray false) K s:=λ_W0 _M _a _w hR=>
 wp_region_lit (yJ hT hcq (n:=s.n) (λs' _a' _w' _ hk hr=>⟨s',hr,hk⟩) hd rfl hR h)
theorem dC(p:Nat->Prop) (h:∃n,p n):∃n,p n/\∀m,p m->n<=m:=by
 refine Classical.byContradiction λhc=>?_;have:∀n,¬p n:=λn=>by
  induction n using Nat.strongRecOn with
  |_ n ih=>
   intro hn;exact hc ⟨n,hn,λm hm=>by
    rcases Rv m n with h|h
    ·exact(ih m h hm).elim
    ·exact h⟩
 obtain⟨n,hn⟩:=h;exact this n hn
theorem CA(I:Nat->St->Prop){n0:Nat}{s0:St}{c:Code}(h0:Le s s0) (hi:I n0 s0) (h:∀n s,I n s->Tri P c (LK n I K) s):Tri P (.loop c) K s:=λW0 M a w hR=>by
 classical
 let J:Act->World->Nat->Prop:=λa w n=>∃s,I n s/\fA W0 M s a w;let μ:Act->World->Nat:=λa w=>if h:∃n,J a w n then Classical.choose (dC _ h)else 0
 refine wp_loop (λa w=>∃n,J a w n) μ ⟨n0,s0,hi,h0 W0 M a w hR⟩ (λa w hJ=>?_);obtain⟨⟨s1,hi1,hr1⟩,_⟩:=Classical.choose_spec (dC _ hJ);have hμ:μ a w=Classical.choose (dC _ hJ):=dif_pos hJ;refine wp_mono (h _ s1 hi1 W0 M a w hr1) λe a' w' hq=>?_;cases e with
 |normal=>
  obtain⟨s',h1,m,s'',h2,h3,h4⟩:=hq;have hj:J a' w' m:=⟨s'',h4,h3 W0 M a' w' h1⟩;refine⟨⟨m,hj⟩,?_⟩;have h5:μ a' w'<=m:=by
   show(if h:∃n,J a' w' n then Classical.choose (dC _ h)else 0)<=m
   rw[dif_pos ⟨m,hj⟩];exact(Classical.choose_spec (dC _ (⟨m,hj⟩:∃n,J a' w' n))).2 m hj
  rw[hμ];omega
 |exit i=>exact hq
 |ret=>exact hq
 |goto l=>exact hq.elim
 |panic c=>exact hq.elim
 |outgrown=>exact hq.elim
end
def U6{α:Type}:List (Nat×α)->Nat->Option α
 |[],_=>none
 |(k,x)::l,j=>if j=k then some x else U6 l j
def Z9(n:Nat) (t:List (Nat×AV)) (b:List (Nat×Nat×List AC)) (r:List (Nat×Option Nat×Row)):St:=
 ⟨n,λk=>⟨decide (k<n),(U6 t k).getD .any⟩,λk=>⟨0,(U6 b k).map (·.2)⟩,λk=>⟨0,(U6 r k).map (·.2)⟩⟩
def IL(s:St) (b:List (Nat×Nat×List AC)) (r:List (Nat×Option Nat×Row)):AC->AC->Prop
 |_,.junk=>True
 |.d x,.d y=>x=y
 |.nil,.nil=>True
 |.nil,.d y=>y= .sl []
 |.nil,.row id' ver'=>ver'=0/\(U6 r id').map (·.1)=some none
 |.row id ver,.row id' ver'=>ver=(s.r id).ver/\ver'=0/\(U6 r id').map (·.1)=some (some id)
 |.ptr id ver off,.ptr id' ver' off'=>ver=(s.b id).ver/\ver'=0/\off=off'/\(U6 b id').map (·.1)=some id
 |.eptr cs,.eptr cs'=>cs=cs'
 |.rptr id ver i off sz,.rptr id' ver' i' off' sz'=>ver=(s.r id).ver/\ver'=0/\(U6 r id').map (·.1)=some (some id)/\i=i'/\off=off'/\sz=sz'
 |_,_=>False
def km(s:St) (b:List (Nat×Nat×List AC)) (r:List (Nat×Option Nat×Row)):List AC->List AC->Prop
 |[],[]=>True
 |x::xs,y::ys=>IL s b r x y/\km s b r xs ys
 |_,_=>False
def IM(s:St) (b:List (Nat×Nat×List AC)) (r:List (Nat×Option Nat×Row)):AV->AV->Prop
 |_,.any=>True
 |.c x,.c y=>IL s b r x y
 |.agg xs,.agg ys=>km s b r xs ys
 |_,_=>False
def rowLe(R R':Row):Prop:=R.es=R'.es/\R.sz=R'.sz/\R.e=R'.e/\(R.fr=true->R'.fr=true)
def fe(s:St) (b:List (Nat×Nat×List AC)) (r:List (Nat×Option Nat×Row)):List (Nat×AV)->Prop
 |[]=>True
 |(k,y)::l=>((k<s.n->(s.t k).g=true)/\IM s b r (s.t k).x y)/\fe s b r l
def Ga(s:St) (b:List (Nat×Nat×List AC)) (r:List (Nat×Option Nat×Row)) (x:Option (List AC)) (y:List AC):Prop:=match x with
 |some cs=>km s b r cs y
 |none=>False
def gH(s:St) (b:List (Nat×Nat×List AC)) (r:List (Nat×Option Nat×Row)):List (Nat×Nat×List AC)->Prop
 |[]=>True
 |(_,id,y)::l=>Ga s b r (s.b id).c y/\gH s b r l
def rowSrc(s:St) (id:Option Nat) (R:Row):Prop:=match id with
 |none=>R.es=[]/\0<R.sz/\R.e<Q7
 |some id=>match(s.r id).c with
  |some R'=>rowLe R' R
  |none=>False
def rowsLe(s:St):List (Nat×Option Nat×Row)->Prop
 |[]=>True
 |(_,id,R)::l=>rowSrc s id R/\rowsLe s l
section
variable {s:St}{n:Nat}{t:List (Nat×AV)}{b:List (Nat×Nat×List AC)}{r:List (Nat×Option Nat×Row)}
theorem bl{α:Type}:∀{l:List (Nat×α)}{k:Nat}{x:α},U6 l k=some x->(k,x)∈l
 |[],_,_,h=>by simp[U6]at h
 |(j,y)::l,k,x,h=>by
  simp only[U6]at h;split at h
  ·rename_i e;injection h with h;subst h;subst e;simp
  ·exact Qc _ (bl h)
theorem fe.get:∀{l:List (Nat×AV)},fe s b r l->∀{k:Nat}{y:AV},(k,y)∈l->(k<s.n->(s.t k).g=true)/\IM s b r (s.t k).x y
 |(k0,y0)::l,h,k,y,hm=>by
  rcases List.mem_cons.1 hm with e|hm
  ·injection e with e1 e2;subst e1;subst e2;exact h.1
  ·exact fe.get h.2 hm
theorem gH.get:∀{l:List (Nat×Nat×List AC)},gH s b r l->∀{k id:Nat}{y:List AC},(k,id,y)∈l->∃cs,(s.b id).c=some cs/\km s b r cs y
 |(k0,id0,y0)::l,h,k,id,y,hm=>by
  rcases List.mem_cons.1 hm with e|hm
  ·injection e with e1 e2;injection e2 with e2 e3;subst e1;subst e2;subst e3;have:=h.1;unfold Ga at this;split at this
   ·rename_i cs hc;exact⟨cs,hc,this⟩
   ·exact this.elim
  ·exact gH.get h.2 hm
theorem rowsLe.get:∀{l:List (Nat×Option Nat×Row)},rowsLe s l->∀{k:Nat}{id:Option Nat}{R:Row},(k,id,R)∈l->rowSrc s id R
 |(k0,id0,y0)::l,h,k,id,y,hm=>by
  rcases List.mem_cons.1 hm with e|hm
  ·injection e with e1 e2;injection e2 with e2 e3;subst e1;subst e2;subst e3;exact h.1
  ·exact rowsLe.get h.2 hm
theorem jQ{α β:Type}{f:α->β}:∀{l:List α},(l.map f).Nodup->∀{x y:α},x∈l->y∈l->f x=f y->x=y
 |a::l,h,x,y,hx,hy,e=>by
  rw[PQ,Qz]at h;rcases List.mem_cons.1 hx with rfl|hx' <;> rcases List.mem_cons.1 hy with rfl|hy'
  ·rfl
  ·exact(h.1 (by rw[e];exact SO hy')).elim
  ·exact(h.1 (by rw[<-e];exact SO hx')).elim
  ·exact jQ h.2 hx' hy' e
theorem IN{s:St}{k id:Nat}{R:Row}(hk:k<s.n) (hg:(s.t k).g=true) (hx:(s.t k).x= .c (.row id (s.r id).ver)) (hR:(s.r id).c=some R) (he:R.e<Q7) :
  Le s ((s.app [.r id ⟨(s.r id).ver,some ⟨R.es,R.sz,R.e,true⟩⟩]).app [.t k ⟨true,.c (.d (.sl R.es))⟩]):=by
 rintro W0 M a w ⟨G,h⟩;obtain⟨I',m1,e1,hd⟩:=h.mem.freeze1 hR he;have h1:=h.mem' e1 m1 rfl rfl;have hv:=(h.tm k).1 hg;rw[hx]at hv;have hval:a.tmps.getD k undef=G.rw id:=by
  simp only[AVr,ACr]at hv;exact hv.2.2 trivial (by rw[hR];rfl)
 have h2:=h1.put (d:=k) hk (x:=⟨true,.c (.d (.sl R.es))⟩) (v:=a.tmps.getD k undef) ⟨λ_=>by simp only[AVr,ACr];rw[hval];exact hd,λe=>by cases e⟩;have ha:a.put (some k) (a.tmps.getD k undef)=a:=by
  unfold Act.put;have:a.tmps.setIfInBounds k (a.tmps.getD k undef)=a.tmps:=by
   apply Array.ext
   ·simp
   ·intro i h1 h2;rw[Array.getElem_setIfInBounds];split
    ·rename_i e;subst e;simp[Array.getD,h2]
    ·rfl
  simp only[this]
 rw[ha]at h2;exact⟨_,h2⟩
theorem LL(hn:s.n=n) (ht:fe s b r t) (hb:gH s b r b) (hr:rowsLe s r) (hbn:(b.map (·.2.1)).Nodup) (hrn:(r.filterMap (·.2.1)).Nodup):Le s (Z9 n t b r):=by
 intro W0 M a w hR;obtain⟨G,h⟩:=hR;let G':Gh:=⟨G.I,λk=>G.bx (((U6 b k).map (·.1)).getD 0),λk=>match(U6 r k).map (·.1)with|some (some id)=>G.rw id|_=>.slice none 0 0,λk=>match(U6 r k).map (·.1)with|some (some id)=>G.st id|_=>(undef,0),λk=>match(U6 r k).map (·.1)with|some (some id)=>G.ex id|_=>[]⟩
 have hbsrc:∀{k id:Nat} {y:List AC},U6 b k=some (id,y)->∃cs,(s.b id).c=some cs/\km s b r cs y:=λh=>gH.get hb (bl h);have hrsrc:∀{k:Nat} {id:Option Nat} {R:Row},U6 r k=some (id,R)->rowSrc s id R:=λh=>rowsLe.get hr (bl h);have hac:∀{x y:AC} {v:Value},IL s b r x y->ACr G s w x v->ACr G' (Z9 n t b r) w y v:=by
  intro x y v hl hx;have hone:=hx.one;unfold IL at hl;split at hl
  ·exact hone
  ·subst hl;exact hx
  ·exact hx
  ·subst hl;simp only[ACr]at hx⊢;subst hx;simp only[DVr];exact⟨none,0,1,[],rfl,PW _,by simp[maxLen],by omega,by simp,by simp,by simp[D2]⟩
  ·obtain⟨rfl,h2⟩:=hl;simp only[ACr]at hx⊢;refine⟨hone,QE _,λ_ _=>?_⟩;simp only[G',h2];exact hx
  ·obtain⟨h1,rfl,h2⟩:=hl;simp only[ACr]at hx⊢;refine⟨hone,QE _,λ_ hs=>?_⟩;simp only[G',h2];refine hx.2.2 h1 ?_;cases hlk:U6 r _ with
   |none=>rw[hlk]at h2;cases h2
   |some p=>
    rw[hlk]at h2;obtain⟨id0,R0⟩:=p;injection h2 with h2;simp only at h2;subst h2;have:=hrsrc hlk;simp only[rowSrc]at this;split at this
    ·rename_i R' hR';rw[hR'];rfl
    ·exact this.elim
  ·obtain⟨h1,rfl,rfl,h2⟩:=hl;simp only[ACr]at hx⊢;refine⟨hone,QE _,λ_ hs=>?_⟩;simp only[G',h2,Qq];refine hx.2.2 h1 ?_;cases hlk:U6 b _ with
   |none=>rw[hlk]at h2;cases h2
   |some p=>
    rw[hlk]at h2;obtain⟨id0,y0⟩:=p;injection h2 with h2;simp only at h2;subst h2;obtain⟨cs,hc,_⟩:=hbsrc hlk;rw[hc];rfl
  ·subst hl;exact hx
  ·obtain⟨h1,rfl,h2,rfl,rfl,rfl⟩:=hl;simp only[ACr]at hx⊢;refine⟨hone,QE _,λ_ hs=>?_⟩;simp only[G',h2];refine hx.2.2 h1 ?_;cases hlk:U6 r _ with
   |none=>rw[hlk]at h2;cases h2
   |some p=>
    rw[hlk]at h2;obtain⟨id0,R0⟩:=p;injection h2 with h2;simp only at h2;subst h2;have:=hrsrc hlk;simp only[rowSrc]at this;split at this
    ·rename_i R' hR';rw[hR'];rfl
    ·exact this.elim
  ·exact hl.elim
 have hacs:∀{xs ys:List AC} {vs:List Value},km s b r xs ys->ACs G s w xs vs->ACs G' (Z9 n t b r) w ys vs:=by
  intro xs
  induction xs with
  |nil=>
   intro ys vs hl hx;cases ys with
   |nil=>exact hx
   |cons y ys=>exact hl.elim
  |cons x xs ih=>
   intro ys vs hl hx;cases ys with
   |nil=>exact hl.elim
   |cons y ys=>
    simp only[ACs]at hx⊢;obtain⟨v,rest,h1,h2,h3⟩:=hx;exact⟨v,rest,h1,hac hl.1 h2,ih hl.2 h3⟩
 have howner:∀x g,g∈own G' (Z9 n t b r) x->∃y,g∈own G s y/\(match x with | .inl k=>∃id cs,U6 b k=some (id,cs)/\y= .inl id | .inr k=>∃id R,U6 r k=some (some id,R)/\y= .inr id):=by
  intro x g hx;rcases x with k|k
  ·have e0:((Z9 n t b r).b k).c=(U6 b k).map (·.2):=rfl;simp only[own,e0]at hx;cases hlk:U6 b k with
   |none=>simp[hlk]at hx
   |some p=>
    obtain⟨id,y⟩:=p;simp only[hlk,Qm,ST,Qy,G',Qq,Qp]at hx;obtain⟨cs,hc,_⟩:=hbsrc hlk;exact⟨.inl id,by rw[hx];exact mZ (by rw[hc];rfl),id,y,hlk,rfl⟩
  ·have e0:((Z9 n t b r).r k).c=(U6 r k).map (·.2):=rfl;simp only[own,e0]at hx;cases hlk:U6 r k with
   |none=>simp[hlk]at hx
   |some p=>
    obtain⟨id,R⟩:=p;cases id with
    |none=>simp[G',hlk,obk]at hx
    |some id=>
     simp only[hlk,Qm,G']at hx;have:=hrsrc hlk;simp only[rowSrc]at this;split at this
     ·rename_i R' hR';exact⟨.inr id,by simp only[own,hR'];rw[this.2.2.1];exact hx,id,R,hlk,rfl⟩
     ·exact this.elim
 have hbinj:∀{k k' id:Nat} {y y':List AC},U6 b k=some (id,y)->U6 b k'=some (id,y')->k=k':=by
  intro k k' id y y' h1 h2;have:=jQ hbn (bl h1) (bl h2) rfl;injection this
 have hrinj:∀{k k' id:Nat} {y y':Row},U6 r k=some (some id,y)->U6 r k'=some (some id,y')->k=k':=by
  intro k k' id y y' h1 h2;have key:∀{l:List (Nat×Option Nat×Row)},(l.filterMap (·.2.1)).Nodup->∀{p q:Nat×Option Nat×Row},p∈l->q∈l->p.2.1=some id->q.2.1=some id->p=q:=by
   intro l
   induction l with
   |nil=>intro _ p q hp;simp at hp
   |cons a l ih=>
    intro hnd p q hp hq e1 e2;rcases List.mem_cons.1 hp with rfl|hp' <;> rcases List.mem_cons.1 hq with rfl|hq'
    ·rfl
    ·rw[Si (f:=λ(x:Nat×Option Nat×Row)=>x.2.1) e1,Qz]at hnd;exact(hnd.1 (List.mem_filterMap.2 ⟨q,hq',e2⟩)).elim
    ·rw[Si (f:=λ(x:Nat×Option Nat×Row)=>x.2.1) e2,Qz]at hnd;exact(hnd.1 (List.mem_filterMap.2 ⟨p,hp',e1⟩)).elim
    ·refine ih ?_ hp' hq' e1 e2;cases ha:a.2.1 with
     |none=>rw[List.filterMap_cons_none (f:=λ(x:Nat×Option Nat×Row)=>x.2.1) ha]at hnd;exact hnd
     |some z=>rw[Si (f:=λ(x:Nat×Option Nat×Row)=>x.2.1) ha,Qz]at hnd;exact hnd.2
  have:=key hrn (bl h1) (bl h2) rfl rfl;injection this
 have hav:∀{x y:AV} {v:Value},IM s b r x y->AVr G s w x v->AVr G' (Z9 n t b r) w y v:=by
  intro x y v h2 hv;unfold IM at h2;split at h2
  ·simp only[AVr]
  ·simp only[AVr]at hv⊢;exact hac h2 hv
  ·simp only[AVr]at hv⊢;obtain⟨vs,e,h3⟩:=hv;exact⟨vs,e,hacs h2 h3⟩
  ·exact h2.elim
 refine⟨G',h.sz.trans hn,h.df,λk=>?_,?_,λk=>?_⟩
 ·refine⟨λhk=>?_,λe=>?_⟩
  ·simp only[Z9,PX]at hk⊢;cases hlk:U6 t k with
   |none=>simp only[RC,AVr]
   |some y=>
    simp only[Qq];obtain⟨h1,h2⟩:=fe.get ht (bl hlk);exact hav h2 ((h.tm k).1 (h1 (by rw[hn];exact hk)))
  ·simp only[Z9,Qa]at e;have hsz:=h.sz;rw[Array.getD_eq_getD_getElem?,Array.getElem?_eq_none (by omega)];rfl
 ·refine⟨λk cs hc=>?_,λk R hc=>?_,λx y g hx hy=>?_,λk hc o hi=>?_,λk R g hc hg o hi=>?_,λx g hx=>?_,h.mem.In,h.mem.fr,h.mem.ii,h.mem.gl,λk R hc hp=>?_,λk R hc hp=>?_⟩
  rotate_right 2
  rotate_left
  ·simp only[Z9]at hc;cases hlk:U6 r k with
   |none=>rw[hlk]at hc;cases hc
   |some p=>
    obtain⟨id,y⟩:=p;rw[hlk]at hc;injection hc with hc;simp only at hc;subst hc;have hsrc:=hrsrc hlk;cases id with
    |none=>
     obtain⟨e1,e2,eF⟩:=hsrc;exact absurd hp (D3 eF)
    |some id=>
     simp only[rowSrc]at hsrc;split at hsrc
     ·rename_i R' hR';obtain⟨e1,e2,e3,_⟩:=hsrc;obtain⟨⟨g,es,cl,k1,k2,k3,k4,k5⟩,k6⟩:=h.mem.sx id R' hR' (by rw[e3];exact hp);simp only[G',hlk,Qm];exact⟨⟨g,es,cl,k1,k2,k3,k4,by rw[<-e1,<-e3];exact k5⟩,k6⟩
     ·exact hsrc.elim
  rotate_right
  ·simp only[Z9]at hc;cases hlk:U6 r k with
   |none=>rw[hlk]at hc;cases hc
   |some p=>
    obtain⟨id,y⟩:=p;rw[hlk]at hc;injection hc with hc;simp only at hc;subst hc;have hsrc:=hrsrc hlk;cases id with
    |none=>
     obtain⟨e1,e2,eF⟩:=hsrc;exact absurd (ltp eF) (Nat.not_lt.2 hp)
    |some id=>
     simp only[rowSrc]at hsrc;split at hsrc
     ·rename_i R' hR';obtain⟨e1,e2,e3,_⟩:=hsrc;obtain⟨g,es,cl,i,m,k1,k2,k3,k4⟩:=h.mem.pe id R' hR' (by rw[e3];exact hp);simp only[G',hlk,Qm];exact⟨g,es,cl,i,m,k1,k2,by rw[<-e1];exact k3,k4⟩
     ·exact hsrc.elim
  ·simp only[Z9]at hc;cases hlk:U6 b k with
   |none=>rw[hlk]at hc;cases hc
   |some p=>
    obtain⟨id,y⟩:=p;rw[hlk]at hc;injection hc with hc;simp only at hc;subst hc;obtain⟨cs',hc',hl⟩:=hbsrc hlk;obtain⟨cur,ty,h1,h2⟩:=h.mem.bx id cs' hc';exact⟨cur,ty,by simp only[G',hlk,Qm,Qq];exact h1,hacs hl h2⟩
  ·simp only[Z9]at hc;cases hlk:U6 r k with
   |none=>rw[hlk]at hc;cases hc
   |some p=>
    obtain⟨id,y⟩:=p;rw[hlk]at hc;injection hc with hc;simp only at hc;subst hc;have hsrc:=hrsrc hlk;cases id with
    |none=>
     obtain⟨e1,e2,eF⟩:=hsrc;refine⟨e2,by simp[e1],.inl ⟨eF,[],?_,by simp[e1,D2]⟩⟩;simp only[G',hlk,Qm,e1,QF];exact World.ownsRow_nil w 0 _ _
    |some id=>
     simp only[rowSrc]at hsrc;split at hsrc
     ·rename_i R' hR';obtain⟨e1,e2,e3,_⟩:=hsrc;have q:=h.mem.rw id R' hR';simp only[G',hlk,Qm];exact M4.as q e1 e2 e3
     ·exact hsrc.elim
  ·obtain⟨x',hx',mx⟩:=howner x g hx;obtain⟨y',hy',my⟩:=howner y g hy;have e:=h.mem.dj x' y' g hx' hy';subst e;rcases x with k|k <;> rcases y with j|j <;> simp only at mx my
   ·obtain⟨id,cs,l1,e1⟩:=mx;obtain⟨id',cs',l2,e2⟩:=my;rw[e1]at e2;injection e2 with e2;subst e2;rw[hbinj l1 l2]
   ·obtain⟨id,cs,l1,e1⟩:=mx;obtain⟨id',cs',l2,e2⟩:=my;rw[e1]at e2;cases e2
   ·obtain⟨id,cs,l1,e1⟩:=mx;obtain⟨id',cs',l2,e2⟩:=my;rw[e1]at e2;cases e2
   ·obtain⟨id,cs,l1,e1⟩:=mx;obtain⟨id',cs',l2,e2⟩:=my;rw[e1]at e2;injection e2 with e2;subst e2;rw[hrinj l1 l2]
  ·simp only[Z9]at hc;cases hlk:U6 b k with
   |none=>rw[hlk]at hc;cases hc
   |some p=>
    obtain⟨id,y⟩:=p;obtain⟨cs',hc',_⟩:=hbsrc hlk;simp only[G',hlk,Qm,Qq]at hi;exact h.mem.bI id (by rw[hc'];rfl) o hi
  ·simp only[Z9]at hc;cases hlk:U6 r k with
   |none=>rw[hlk]at hc;cases hc
   |some p=>
    obtain⟨id,y⟩:=p;rw[hlk]at hc;injection hc with hc;simp only at hc;subst hc;have hsrc:=hrsrc hlk;cases id with
    |none=>simp[G',hlk,obk]at hg
    |some id=>
     simp only[rowSrc]at hsrc;split at hsrc
     ·rename_i R' hR';obtain⟨e1,e2,_,e4⟩:=hsrc;simp only[G',hlk,Qm]at hg;obtain⟨q1,q2⟩:=h.mem.rI id R' g hR' hg o hi;exact⟨e4 q1,by rw[<-e1,<-e2];exact q2⟩
     ·exact hsrc.elim
  ·obtain⟨y,hy,_⟩:=howner x g hx;exact h.mem.oM y g hy
 ·have hv:=h.pin k;rw[hn]at hv;show AVr G' (Z9 n t b r) w ((U6 t (n+k)).getD .any) (M.pin k);cases hlk:U6 t (n+k) with
  |none=>simp only[RC,AVr]
  |some y=>
   simp only[Qq];obtain⟨_,h2⟩:=fe.get ht (bl hlk);exact hav h2 hv
end
def Upd.part:Upd->J5
 |.t k _=>.t k
 |.b k _=>.b k
 |.r k _=>.r k
def Q.wpt{α:Type}:Q α->St->List J5->(α->List J5->Prop)->Prop
 |.ret a,_,tr,K=>K a tr
 |.rdT k f,s,tr,K=>(f (s.t k)).wpt s (.t k::tr) K
 |.rdB k f,s,tr,K=>(f (s.b k)).wpt s (.b k::tr) K
 |.rdR k f,s,tr,K=>(f (s.r k)).wpt s (.r k::tr) K
 |.req p q,s,tr,K=>p/\q.wpt s tr K
 |.fail,_,_,_=>False
def wpD(T:TypeId->Option TI) (cq:Oper->Call->Q (List Upd)) (l:List Oper):List Oper->St->List (List J5×List J5)->(St->List (List J5×List J5)->Prop)->Prop
 |[],s,tr,K=>K s tr
 |o::rest,s,tr,K=>(opD T cq l o).wpt s [] λus rs=>wpD T cq l rest (s.app us) (tr++[(rs,us.map Upd.part)]) K
def xP:List Oper->List (List Nat)->List (List Nat)
 |[],acc=>acc
 |o::rest,acc=>xP rest (acc++[(o.after.toList.filter (Region.binds .any)).flatMap λe=>e.on::acc.getD e.on []])
def LM:List Nat->List Nat->List Nat
 |[],a=>a
 |x::xs,a=>LM xs (bif a.contains x then a else x::a)
def Ib(acc:List (List Nat)):List Edge->List Nat
 |[]=>[]
 |e::es=>bif Region.binds .any e then LM (e.on::acc.getD e.on []) (Ib acc es)else Ib acc es
def LN:List Oper->List (List Nat)->List (List Nat)
 |[],acc=>acc
 |o::rest,acc=>LN rest (acc++[Ib acc o.after.toList])
theorem uF:∀(xs a:List Nat) (y:Nat),y∈LM xs a->y∈xs\/y∈a
 |[],_,_,h=>.inr h
 |x::xs,a,y,h=>by
  rcases uF xs _ y h with h|h
  ·exact .inl (by simp[h])
  ·cases hc:a.contains x with
   |true=>rw[hc]at h;exact .inr h
   |false=>
    rw[hc]at h;rcases List.mem_cons.1 h with rfl|h
    ·exact .inl (by simp)
    ·exact .inr h
theorem oA{acc acc':List (List Nat)}(hs:∀k y,y∈acc.getD k []->y∈acc'.getD k []):∀(es:List Edge) (y:Nat),y∈Ib acc es->y∈(es.filter (Region.binds .any)).flatMap λe=>e.on::acc'.getD e.on []
 |[],_,h=>by simp[Ib]at h
 |e::es,y,h=>by
  unfold Ib at h;cases hb:Region.binds .any e with
  |true=>
   rw[hb]at h;rw[RU hb,QB,RQ];rcases uF _ _ y h with h|h
   ·left;rcases List.mem_cons.1 h with rfl|h
    ·simp
    ·exact Qc _ (hs _ _ h)
   ·exact .inr (oA hs es y h)
  |false=>
   rw[hb]at h;rw[Rl (by rw[hb];simp)];exact oA hs es y h
theorem uG:∀(l:List Oper) (acc acc':List (List Nat)),acc.length=acc'.length->(∀k y,y∈acc.getD k []->y∈acc'.getD k [])->∀k y,y∈(LN l acc).getD k []->y∈(xP l acc').getD k []
 |[],_,_,_,hs,k,y,h=>hs k y h
 |o::l,acc,acc',hl,hs,k,y,h=>by
  refine uG l _ _ (by simp[hl]) (λk y hy=>?_) k y h;simp only[List.getD_eq_getElem?_getD,List.getElem?_append]at hy⊢;by_cases h1:k<acc.length
  ·rw[Qx h1]at hy;rw[Qx (by omega)];have:=hs k y (by rw[List.getD_eq_getElem?_getD];exact hy)
   rwa [List.getD_eq_getElem?_getD]at this
  ·rw[Ql h1]at hy;rw[Ql (by omega)];by_cases h2:k=acc.length
   ·rw[h2,To]at hy;rw[h2,hl,To];exact oA hs _ _ hy
   ·rw[List.getElem?_eq_none (by simp;omega)]at hy;simp at hy
def CB(a b:List J5):Bool:=a.any λc=>b.contains c
def IP(x y:List J5×List J5):Bool:=CB x.1 y.2||CB x.2 y.1||CB x.2 y.2
def lm(l:List Oper) (tr:List (List J5×List J5)):Bool:=
 ((List.range l.length).all λi=>((l.getD i default).after.toList.all λe=> !Region.binds .any e||decide (e.on<i))) &&
 ((List.range l.length).all λi=>(List.range i).all λj=> !IP (tr.getD j ([],[])) (tr.getD i ([],[]))||((LN l []).getD i []).contains j)
section
variable {P:Program}{T:TypeId->Option TI}{cq:Oper->Call->Q (List Upd)}
theorem lp{α:Type}{s:St}{K:α->List J5->Prop}:∀{q:Q α}{tr:List J5},q.wpt s tr K->∃a rs,q.wp s (· =a)/\(∀c∈q.reads s,c∈rs)/\(∀c∈tr,c∈rs)/\K a rs
 |.ret a,tr,h=>⟨a,tr,rfl,by simp[Q.reads],λc hc=>hc,h⟩
 |.rdT k f,tr,h=>by
  obtain⟨a,rs,h1,h2,h3,h4⟩:=lp (q:=f (s.t k)) h;exact⟨a,rs,h1,λc hc=>by rcases List.mem_cons.1 hc with rfl|hc;exact h3 _ (by simp);exact h2 c hc,λc hc=>h3 c (by simp[hc]),h4⟩
 |.rdB k f,tr,h=>by
  obtain⟨a,rs,h1,h2,h3,h4⟩:=lp (q:=f (s.b k)) h;exact⟨a,rs,h1,λc hc=>by rcases List.mem_cons.1 hc with rfl|hc;exact h3 _ (by simp);exact h2 c hc,λc hc=>h3 c (by simp[hc]),h4⟩
 |.rdR k f,tr,h=>by
  obtain⟨a,rs,h1,h2,h3,h4⟩:=lp (q:=f (s.r k)) h;exact⟨a,rs,h1,λc hc=>by rcases List.mem_cons.1 hc with rfl|hc;exact h3 _ (by simp);exact h2 c hc,λc hc=>h3 c (by simp[hc]),h4⟩
 |.req p q,tr,h=>by
  obtain⟨a,rs,h1,h2,h3,h4⟩:=lp (q:=q) h.2;exact⟨a,rs,⟨h.1,h1⟩,h2,h3,h4⟩
def sub(X:Nat->Bool):Nat->List (List Upd)->St->St
 |_,[],s=>s
 |i,us::r,s=>sub X (i+1) r (bif X i then s.app us else s)
theorem iy(s:St) (c:J5):c.same s s:=by cases c <;> rfl
theorem yL{s s':St}{c:J5}(u:Upd) (h:c.same s s'):c.same (s.app1 u) (s'.app1 u):=by
 cases u with
 |t k x=>
  cases c with
  |t j=>
   simp only[J5.same,St.app1,St.setT,upd]at h⊢;by_cases e:j=k
   ·simp[e]
   ·simp[e,h]
  |b j=>exact h
  |r j=>exact h
 |b k x=>
  cases c with
  |b j=>
   simp only[J5.same,St.app1,St.setB,upd]at h⊢;by_cases e:j=k
   ·simp[e]
   ·simp[e,h]
  |t j=>exact h
  |r j=>exact h
 |r k x=>
  cases c with
  |r j=>
   simp only[J5.same,St.app1,St.setR,upd]at h⊢;by_cases e:j=k
   ·simp[e]
   ·simp[e,h]
  |b j=>exact h
  |t j=>exact h
theorem kC{s s':St}{c:J5}:∀(us:List Upd),c.same s s'->c.same (s.app us) (s'.app us)
 |[],h=>h
 |u::us,h=>kC (s:=s.app1 u) (s':=s'.app1 u) us (yL u h)
theorem wG{s:St}{c:J5}(u:Upd) (h:c≠u.part):c.same (s.app1 u) s:=by
 cases u with
 |t k x=>
  cases c with
  |t j=>simp only[J5.same,St.app1,St.setT,upd];rw[Ql (λe=>h (by rw[e];rfl))]
  |b j=>rfl
  |r j=>rfl
 |b k x=>
  cases c with
  |b j=>simp only[J5.same,St.app1,St.setB,upd];rw[Ql (λe=>h (by rw[e];rfl))]
  |t j=>rfl
  |r j=>rfl
 |r k x=>
  cases c with
  |r j=>simp only[J5.same,St.app1,St.setR,upd];rw[Ql (λe=>h (by rw[e];rfl))]
  |b j=>rfl
  |t j=>rfl
theorem dD{s1 s2 s3:St}{c:J5}(h:c.same s1 s2) (k:c.same s2 s3):c.same s1 s3:=by cases c <;> exact Eq.trans h k
theorem qw{s1 s2:St}{c:J5}(h:c.same s1 s2):c.same s2 s1:=by cases c <;> exact Eq.symm h
theorem iz{c:J5}:∀(us:List Upd) (s:St),c∉us.map Upd.part->c.same (s.app us) s
 |[],s,_=>iy s c
 |u::us,s,h=>by
  simp only[PQ,QY,not_or]at h;exact dD (iz us (s.app1 u) h.2) (wG u h.1)
theorem yM{s s':St}{c:J5}(u:Upd) (h:c=u.part):c.same (s.app1 u) (s'.app1 u):=by
 subst h;cases u <;> simp[J5.same,Upd.part,St.app1,St.setT,St.setB,St.setR,upd]
theorem uH{c:J5}:∀(us:List Upd) (s s':St),c∈us.map Upd.part->c.same (s.app us) (s'.app us)
 |u::us,s,s',h=>by
  simp only[PQ,QY]at h;by_cases hc:c∈us.map Upd.part
  ·exact uH us (s.app1 u) (s'.app1 u) hc
  ·rcases h with h|h
   ·exact kC us (yM u h)
   ·exact(hc h).elim
theorem kE{c:J5}(X Y:Nat->Bool):∀(L:List (List Upd)) (k:Nat) (s s':St),c.same s s'->(∀j us,L[j]?=some us->c∈us.map Upd.part->X (k+j)=Y (k+j))->c.same (sub X k L s) (sub Y k L s')
 |[],_,_,_,h,_=>h
 |us::L,k,s,s',h,hw=>by
  simp only[sub];refine kE X Y L (k+1) _ _ ?_ (λj vs hj hc=>by have:=hw (j+1) vs (by simpa using hj) hc;rwa [QO,QV 1 j]);by_cases hc:c∈us.map Upd.part
  ·have e:=hw 0 us rfl hc;simp only[RT]at e;rw[e];cases Y k with
   |true=>exact kC us h
   |false=>exact h
  ·cases X k <;> cases Y k <;> simp only[cond_true,cond_false]
   ·exact h
   ·exact dD h (qw (iz us s' hc))
   ·exact dD (iz us s hc) h
   ·exact kC us h
theorem CC(X:Nat->Bool):∀(L:List (List Upd)) (k:Nat) (s:St),(sub X k L s).n=s.n
 |[],_,_=>rfl
 |us::L,k,s=>by rw[sub,CC X L];cases X k <;> simp[yI]
theorem iA(X:Nat->Bool):∀(A:List (List Upd)) (B:List (List Upd)) (k:Nat) (s:St),sub X k (A++B) s=sub X (k+A.length) B (sub X k A s)
 |[],B,k,s=>by simp[sub]
 |us::A,B,k,s=>by
  simp only[Qu,sub,Qg];rw[iA X A B (k+1)];congr 1;omega
theorem IQ{s s':St}(hn:s.n=s'.n) (h:∀c:J5,c.same s s'):s=s':=by
 obtain⟨n,t,b,r⟩:=s;obtain⟨n',t',b',r'⟩:=s';have h1:t=t':=funext λk=>h (.t k);have h2:b=b':=funext λk=>h (.b k);have h3:r=r':=funext λk=>h (.r k);simp only at hn;subst hn;subst h1;subst h2;subst h3;rfl
theorem sg(X:Nat->Bool):∀(L:List (List Upd)) (k:Nat) (s:St),(∀j,j<L.length->X (k+j)=true)->sub X k L s=sub (λ_=>true) k L s
 |[],_,_,_=>rfl
 |us::L,k,s,h=>by
  simp only[sub];have:=h 0 (by simp);simp only[RT]at this;rw[this];exact sg X L (k+1) _ (λj hj=>by have:=h (j+1) (by simpa using hj);rwa [QO,QV 1 j])
theorem kF(X:Nat->Bool):∀(L:List (List Upd)) (k:Nat) (s:St),(∀j,j<L.length->X (k+j)=false)->sub X k L s=s
 |[],_,_,_=>rfl
 |us::L,k,s,h=>by
  simp only[sub];have:=h 0 (by simp);simp only[RT]at this;rw[this];exact kF X L (k+1) _ (λj hj=>by have:=h (j+1) (by simpa using hj);rwa [QO,QV 1 j])
theorem Gb(A B:List (List Upd)) (s:St):sub (λj=>decide (j<A.length)) 0 (A++B) s=sub (λ_=>true) 0 A s:=by
 rw[iA,kF _ B _ _ (λj _=>by simp),sg _ A 0 s (λj hj=>by simp;exact hj)]
theorem uI{l:List Oper}{K:St->List (List J5×List J5)->Prop}:∀{rest:List Oper}{s0:St}{A:List (List Upd)}{tr:List (List J5×List J5)},
  wpD T cq l rest (sub (λ_=>true) 0 A s0) tr K->tr.length=A.length->(tr.map (·.2))=A.map (λus=>us.map Upd.part)->
  ∃(B:List (List Upd)) (tr':List (List J5×List J5)),B.length=rest.length/\tr'.length=rest.length/\(tr'.map (·.2))=B.map (λus=>us.map Upd.part)/\K (sub (λ_=>true) 0 (A++B) s0) (tr++tr')/\
   ∀i o us rs,rest[i]?=some o->B[i]?=some us->(tr'.map (·.1))[i]?=some rs->(opD T cq l o).wp (sub (λj=>decide (j<A.length+i)) 0 (A++B) s0) (· =us)/\∀c∈(opD T cq l o).reads (sub (λj=>decide (j<A.length+i)) 0 (A++B) s0),c∈rs
 |[],s0,A,tr,h,_,_=>⟨[],[],rfl,rfl,rfl,by simp only[PO];exact h,λi o us rs hi=>by simp at hi⟩
 |o::rest,s0,A,tr,h,hl,hp=>by
  simp only[wpD]at h;obtain⟨us,rs,h1,h2,_,h3⟩:=lp h;have e1:(sub (λ_=>true) 0 A s0).app us=sub (λ_=>true) 0 (A++[us]) s0:=by rw[iA];rfl
  rw[e1]at h3;obtain⟨B,tr',b1,b2,b3,b4,b5⟩:=uI h3 (by simp[hl]) (by simp[hp]);refine⟨us::B,(rs,us.map Upd.part)::tr',by simp[b1],by simp[b2],by simp[b3],by simpa using b4,?_⟩;intro i o' us' rs' hi hu hr;cases i with
  |zero=>
   simp only[List.getElem?_cons_zero,Option.some.injEq]at hi hu;simp only[PQ,List.getElem?_cons_zero,Option.some.injEq]at hr;subst hi;subst hu;subst hr;rw[RT,Gb];exact⟨h1,h2⟩
  |succ i=>
   have:=b5 i o' us' rs' (by simpa using hi) (by simpa using hu) (by simpa using hr);simp only[PU,Qg,QF,Qe,Qu,QT]at this;rw[show A.length+(0+1)+i=A.length+(i+1)from by omega]at this;exact this
theorem oB:∀(l:List Oper) (acc:List (List Nat)) (i:Nat),i<acc.length->(xP l acc).getD i []=acc.getD i []
 |[],acc,i,_=>rfl
 |o::l,acc,i,h=>by
  rw[xP,oB l _ i (by simp;omega)];simp only[List.getD_eq_getElem?_getD];rw[List.getElem?_append_left h]
def jr(o:Oper):List Edge:=o.after.toList.filter (Region.binds .any)
theorem qx(o:Oper) (l:List Oper) (acc:List (List Nat)):xP (o::l) acc=xP l (acc++[(jr o).flatMap λe=>e.on::acc.getD e.on []]):=rfl
theorem nu{α β:Type}{f g:α->List β}:∀{l:List α},(∀x∈l,f x=g x)->l.flatMap f=l.flatMap g
 |[],_=>rfl
 |x::l,h=>by rw[QB,QB,h x (by simp),nu λy hy=>h y (by simp[hy])]
theorem Gc(i:Nat):∀(l:List Oper) (acc:List (List Nat)) (o:Oper),l[i]?=some o->(∀e∈jr o,e.on<acc.length+i)->
  (xP l acc).getD (acc.length+i) []=(jr o).flatMap λe=>e.on::(xP l acc).getD e.on []:=by
 induction i with
 |zero=>
  intro l acc o h he;cases l with
  |nil=>simp at h
  |cons o1 l=>
   simp only[List.getElem?_cons_zero,Option.some.injEq]at h;subst h;rw[qx,RT,oB l _ _ (by simp)];have e0:(acc++[(jr o1).flatMap λe=>e.on::acc.getD e.on []]).getD acc.length []=(jr o1).flatMap λe=>e.on::acc.getD e.on []:=by
    rw[List.getD_eq_getElem?_getD,List.getElem?_append_right (PW _),To];rfl
   rw[e0];refine nu λe hm=>?_;have h1:e.on<acc.length:=he e hm;rw[oB l _ _ (by simp;omega)];simp only[List.getD_eq_getElem?_getD];rw[List.getElem?_append_left h1]
 |succ i ih=>
  intro l acc o h he;cases l with
  |nil=>simp at h
  |cons o1 l=>
   simp only[List.getElem?_cons_succ]at h;have:=ih l (acc++[(jr o1).flatMap λe=>e.on::acc.getD e.on []]) o h (λe hm=>by have:=he e hm;simp;omega);simp only[PU,Qg,QF]at this;rw[qx,show acc.length+(i+1)=acc.length+(0+1)+i from by omega];exact this
theorem wH(hT:∀t i,T t=some i->TOk P t i) (hcq:∀o c,o.op= .call c->xO P o (cq o c)) (hm:P.follows .mixedOrders=true){id:Nat}{l:List Oper}{K:AX->St->Prop}{s:St}(hd:(l.all (qv s.n))=true)
  (h:wpD T cq l l s [] λs' tr=>lm l tr=true/\K .normal s'):Tri P (.region id l.toArray true) K s:=by
 intro W0 M a0 w0 hR0;have hR0':fA W0 M s a0 {w0 with drawn:=w0.drawn+1}:=by
  obtain⟨G,h⟩:=hR0;obtain⟨m1,e1⟩:=h.mem.grow (w':={w0 with drawn:=w0.drawn+1}) ⟨rfl,rfl,rfl,PW _,λ_ _ _=>rfl⟩;exact⟨G,h.mem' e1 m1 rfl rfl⟩
 obtain⟨L,tr,b1,b2,b3,⟨hind,hK⟩,b5⟩:=uI (A:=[]) (s0:=s) (tr:=[]) h rfl rfl;simp only[QT,QF,Qo]at b5 hK hind;simp only[lm,PM,Sg,Sy,RI,Qf,PX]at hind;obtain⟨hedge,hcl⟩:=hind;have hedge':∀i o,l[i]?=some o->∀e∈jr o,e.on<i:=by
  intro i o hi e hm;have hlt:i<l.length:=by
   rcases Rv i l.length with h|h
   ·exact h
   ·rw[List.getElem?_eq_none h]at hi;cases hi
  have:=hedge i hlt e (by rw[List.getD_eq_getElem?_getD,hi];exact(List.mem_filter.1 hm).1);rcases this with h|h
  ·have:=(List.mem_filter.1 hm).2;rw[h]at this;cases this
  ·exact h
 let X:Array Bool->Nat->Bool:=λlst j=>lst.getD j false;have hanc:∀i o,l[i]?=some o->(xP l []).getD i []=(jr o).flatMap λe=>e.on::(xP l []).getD e.on []:=by
  intro i o hi;have:=Gc i l [] o hi (λe hm=>by simpa using hedge' i o hi e hm);simpa using this
 let Down:Array Bool->Prop:=λlst=>∀i o,l[i]?=some o->X lst i=true->∀e∈jr o,X lst e.on=true;have hdown:∀lst,Down lst->∀i o,l[i]?=some o->(∀e∈jr o,X lst e.on=true)->∀j∈(xP l []).getD i [],X lst j=true:=by
  intro lst hD i
  induction i using Nat.strongRecOn with
  |_ i ih=>
   intro o hi he j hj;rw[hanc i o hi]at hj;obtain⟨e,hm,hj⟩:=List.mem_flatMap.1 hj;rcases List.mem_cons.1 hj with rfl|hj
   ·exact he e hm
   ·have hlt:=hedge' i o hi e hm;have hil:i<l.length:=by
     rcases Rv i l.length with h|h
     ·exact h
     ·rw[List.getElem?_eq_none h]at hi;cases hi
    obtain⟨o2,ho2⟩:∃o2,l[e.on]?=some o2:=⟨_,List.getElem?_eq_getElem (by omega)⟩;exact ih e.on hlt o2 ho2 (hD e.on o2 ho2 (he e hm)) j hj
 have hclash:∀i j,j<i->i<l.length->∀c,(c∈(tr.getD i ([],[])).1/\c∈(tr.getD j ([],[])).2)\/(c∈(tr.getD i ([],[])).2/\c∈(tr.getD j ([],[])).1)\/(c∈(tr.getD i ([],[])).2/\c∈(tr.getD j ([],[])).2)->j∈(xP l []).getD i []:=by
  intro i j hji hi c hc;rcases hcl i hi j hji with h|h
  ·exfalso;have hmeet:∀{x y:List J5},c∈x->c∈y->CB x y=true:=λhx hy=>List.any_eq_true.2 ⟨c,hx,by simpa using hy⟩;simp only[IP,SL]at h;rcases hc with⟨h1,h2⟩|⟨h1,h2⟩|⟨h1,h2⟩
   ·rw[hmeet h2 h1]at h;exact absurd h.1.2 (by simp)
   ·rw[hmeet h2 h1]at h;exact absurd h.1.1 (by simp)
   ·rw[hmeet h2 h1]at h;exact absurd h.2 (by simp)
  ·exact uG l [] [] rfl (λ_ _ h=>h) i j (by simpa using h)
 have htr2:∀j us,L[j]?=some us->(tr.getD j ([],[])).2=us.map Upd.part:=by
  intro j us hj;have h1:(tr.map (·.2))[j]?=some (us.map Upd.part):=by rw[b3,List.getElem?_map,hj];rfl
  rw[List.getElem?_map]at h1;cases ht:tr[j]? with
  |none=>rw[ht]at h1;cases h1
  |some p=>rw[ht]at h1;injection h1 with h1;rw[List.getD_eq_getElem?_getD,ht];exact h1
 have hlen:L.length=l.length:=b1;have key:∀fuel (lst:Array Bool) (a:Act) (w:World),lst.size=l.length->Down lst->((List.range l.length).countP λi=> !lst.getD i true)=fuel->fA W0 M (sub (X lst) 0 L s) a w->wpAny P .any l.toArray (QK W0 M K) fuel lst a w:=by
  intro fuel;have hend:∀(lst:Array Bool) (a:Act) (w:World),lst.size=l.length->(∀i,i<l.length->X lst i=true)->fA W0 M (sub (X lst) 0 L s) a w->QK W0 M K .normal a w:=by
   intro lst a w _ hall hR;rw[sg (X lst) L 0 s (λj hj=>by rw[Qo];exact hall j (by omega))]at hR;exact⟨_,hR,hK⟩
  have hdef:∀(lst:Array Bool) (i:Nat),lst.size=l.length->i<l.length->lst.getD i true=X lst i:=by
   intro lst i hs hi;simp only[X,Array.getD_eq_getD_getElem?];rw[Array.getElem?_eq_getElem (by omega)];rfl
  have hready:∀(lst:Array Bool) (i:Nat),lst.size=l.length->i∈Region.ready .any l.toArray lst->∃o,l[i]?=some o/\i<l.length/\X lst i=false/\∀e∈jr o,X lst e.on=true:=by
   intro lst i hs hi;simp only[Region.ready,SP,Sy,QC,PM,Qf]at hi;obtain⟨h1,h2,h3⟩:=hi;refine⟨l[i],List.getElem?_eq_getElem h1,h1,by rw[<-hdef lst i hs h1];exact h2,λe hm=>?_⟩;have hg:(l.toArray)[i]?=some l[i]:=by simp[h1]
   rw[hg]at h3;simp only[Qm,Qq]at h3;have h4:=(Array.all_eq_true_iff_forall_mem.1 h3) e (by have:=(List.mem_filter.1 hm).1;simpa using this);have h5:=(List.mem_filter.1 hm).2;simp only[h5,RE,Td]at h4;exact h4
  have hmin:∀(lst:Array Bool),lst.size=l.length->Region.ready .any l.toArray lst=[]->∀i,i<l.length->X lst i=true:=by
   intro lst hs hr i
   induction i using Nat.strongRecOn with
   |_ i ih=>
    intro hi;cases hx:X lst i with
    |true=>rfl
    |false=>
     exfalso;have:i∈Region.ready .any l.toArray lst:=by
      simp only[Region.ready,SP,Sy,QC,PM,Qf];refine⟨hi,by rw[hdef lst i hs hi];exact hx,?_⟩;have hg:(l.toArray)[i]?=some l[i]:=by simp[hi]
      rw[hg];simp only[Qm,Qq];refine Array.all_eq_true_iff_forall_mem.2 λe hm=>?_;cases hb:Region.binds .any e with
      |false=>rfl
      |true=>
       simp only[RE,Td];have hd':e∈jr l[i]:=List.mem_filter.2 ⟨by simpa using hm,hb⟩;have hlt:=hedge' i _ (List.getElem?_eq_getElem hi) e hd';exact ih e.on hlt (by omega)
     rw[hr]at this;cases this
  induction fuel with
  |zero=>
   intro lst a w hs hD hc hR;have hall:∀i,i<l.length->X lst i=true:=by
    intro i hi;rw[List.countP_eq_zero]at hc;have:=hc i (List.mem_range.2 hi);rw[hdef lst i hs hi]at this;simpa using this
   refine⟨?_,hend lst a w hs hall hR⟩;rw[SC];intro i hi;obtain⟨o,_,h1,h2,_⟩:=hready lst i hs hi;rw[hall i h1]at h2;cases h2
  |succ fuel ih=>
   intro lst a w hs hD hc hR;refine⟨λhr=>hend lst a w hs (hmin lst hs hr) hR,λi hi=>?_⟩;obtain⟨o,ho,hil,hxi,hdi⟩:=hready lst i hs hi;have hxset:∀j,X (lst.setIfInBounds i true) j=if j=i then true else X lst j:=by
    intro j;simp only[X,Array.getD_eq_getD_getElem?,Array.getElem?_setIfInBounds];by_cases e:i=j
    ·subst e;rw[Qx rfl,Qx (by omega),Qx rfl];rfl
    ·rw[Ql e,Ql (λh=>e h.symm)]
   obtain⟨us,hus⟩:∃us,L[i]?=some us:=⟨_,List.getElem?_eq_getElem (by omega)⟩;obtain⟨rs,hrs⟩:∃rs,(tr.map (·.1))[i]?=some rs:=⟨_,List.getElem?_eq_getElem (by rw[PR];omega)⟩;obtain⟨c1,c2⟩:=b5 i o us rs ho hus hrs;have htr1:(tr.getD i ([],[])).1=rs:=by
    rw[List.getElem?_map]at hrs;cases ht:tr[i]? with
    |none=>rw[ht]at hrs;cases hrs
    |some p=>rw[ht]at hrs;injection hrs with hrs;rw[List.getD_eq_getElem?_getD,ht];exact hrs
   have hlt:∀{j:Nat} {vs:List Upd},L[j]?=some vs->j<l.length:=by
    intro j vs hj;rcases Rv j L.length with h|h
    ·omega
    ·rw[List.getElem?_eq_none h]at hj;cases hj
   have hwp:(opD T cq l o).wp (sub (X lst) 0 L s) (· =us):=by
    refine Q.wp_same c1 λc hc'=>?_;have hcr:=c2 c hc';refine kE _ _ L 0 s s (iy s c) λj vs hj hcv=>?_;rw[Qo];have hw2:c∈(tr.getD j ([],[])).2:=by rw[htr2 j vs hj];exact hcv
    rcases Nat.lt_trichotomy j i with h|h|h
    ·have:=hclash i j h hil c (.inl ⟨by rw[htr1];exact hcr,hw2⟩);rw[hdown lst hD i o ho hdi j this];simp[h]
    ·subst h;rw[hxi];simp
    ·have:=hclash j i h (hlt hj) c (.inr (.inl ⟨hw2,by rw[htr1];exact hcr⟩));cases hxj:X lst j with
     |false=>simp;omega
     |true=>
      obtain⟨o2,ho2⟩:∃o2,l[j]?=some o2:=⟨_,List.getElem?_eq_getElem (hlt hj)⟩;have:=hdown lst hD j o2 ho2 (hD j o2 ho2 hxj) i this;rw[hxi]at this;cases this
   have hstate:(sub (X lst) 0 L s).app us=sub (X (lst.setIfInBounds i true)) 0 L s:=by
    refine IQ (by rw[yI,CC,CC]) λc=>?_;have hsplit:L=L.take i++(us::L.drop (i+1)):=by
     rw[List.getElem?_eq_getElem (by omega)]at hus;injection hus with hus;rw[<-hus,RZ,Qv]
    by_cases hcu:c∈us.map Upd.part
    ·have e1:sub (X (lst.setIfInBounds i true)) 0 L s=sub (X (lst.setIfInBounds i true)) (i+1) (L.drop (i+1)) ((sub (X (lst.setIfInBounds i true)) 0 (L.take i) s).app us):=by
      conv=>lhs;rw[hsplit]
      rw[iA];simp only[sub];have:0+(L.take i).length=i:=by rw[Qb];omega
      rw[this,hxset i,Qx rfl];rfl
     rw[e1];refine dD (uH us _ (sub (X (lst.setIfInBounds i true)) 0 (L.take i) s) hcu) (qw ?_);have hno:=kE (c:=c) (X (lst.setIfInBounds i true)) (λ_=>false) (L.drop (i+1)) (i+1) ((sub (X (lst.setIfInBounds i true)) 0 (L.take i) s).app us) _ (iy _ c) (λj vs hj hcv=>by
      rw[List.getElem?_drop]at hj;rw[hxset,Ql (by omega)];cases hxj:X lst (i+1+j) with
      |false=>rfl
      |true=>
       exfalso;have:=hclash (i+1+j) i (by omega) (hlt hj) c (.inr (.inr ⟨by rw[htr2 _ vs hj];exact hcv,by rw[htr2 i us hus];exact hcu⟩));obtain⟨o2,ho2⟩:∃o2,l[i+1+j]?=some o2:=⟨_,List.getElem?_eq_getElem (hlt hj)⟩;have:=hdown lst hD _ o2 ho2 (hD _ o2 ho2 hxj) i this;rw[hxi]at this;cases this)
     rw[kF (λ_=>false) _ _ _ (λ_ _=>rfl)]at hno;exact hno
    ·refine dD (iz us _ hcu) ?_;refine kE _ _ L 0 s s (iy s c) λj vs hj hcv=>?_;rw[Qo,hxset];by_cases e:j=i
     ·subst e;rw[hus]at hj;injection hj with hj;subst hj;exact(hcu hcv).elim
     ·rw[Ql e]
   have hdo:∀d,o.dst=some d->d<(sub (X lst) 0 L s).n:=by
    intro d e;rw[CC];have:=List.all_eq_true.1 hd o (List.mem_of_getElem? ho);unfold qv at this;rw[e]at this;exact PN this
   have hD':Down (lst.setIfInBounds i true):=by
    intro j oj hoj hxj e hm;rw[hxset]at hxj⊢;split
    ·rfl
    ·by_cases ej:j=i
     ·subst ej;rw[ho]at hoj;injection hoj with hoj;subst hoj;exact hdi e hm
     ·rw[Ql ej]at hxj;exact hD j oj hoj hxj e hm
   have hcount:((List.range l.length).countP λj=> !(lst.setIfInBounds i true).getD j true)=fuel:=by
    have h1:∀(r:List Nat),r.Nodup->(∀j∈r,j<l.length)->i∈r->(r.countP λj=> !(lst.setIfInBounds i true).getD j true)+1=r.countP λj=> !lst.getD j true:=by
     intro r
     induction r with
     |nil=>intro _ _ h;cases h
     |cons x r ihr=>
      intro hnd hb hmem;rw[Qz]at hnd;have hxl:=hb x (by simp);have hsz':(lst.setIfInBounds i true).size=l.length:=by simpa using hs
      rw[SF,SF];by_cases e:x=i
      ·subst e;have h2:(r.countP λj=> !(lst.setIfInBounds x true).getD j true)=r.countP λj=> !lst.getD j true:=by
        apply List.countP_congr;intro j hj;have hjl:=hb j (by simp[hj]);rw[hdef _ j hsz' hjl,hdef lst j hs hjl,hxset,Ql (λ(e:j=x)=>hnd.1 (e▸hj))]
       rw[h2,hdef _ x hsz' hxl,hdef lst x hs hxl,hxset,Qx rfl,hxi];simp
      ·have hmem':i∈r:=by
        rcases List.mem_cons.1 hmem with h|h
        ·exact(e h.symm).elim
        ·exact h
       have:=ihr hnd.2 (λj hj=>hb j (by simp[hj])) hmem';rw[hdef _ x hsz' hxl,hdef lst x hs hxl,hxset,Ql e];omega
    have:=h1 (List.range l.length) List.nodup_range (λj hj=>List.mem_range.1 hj) (List.mem_range.2 hil);omega
   have hfin:=yH (P:=P) hT hcq (ops:=l.toArray) rfl (Q':=QK W0 M K) hdo hR hwp;unfold wpOp;have hg:(l.toArray)[i]?=some o:=by simpa using ho
   rw[hg];simp only;split
   ·rename_i hw;rw[Qx hw]at hfin;refine .inl (Oper.wp_mono (λa' w'=>?_) hfin);rintro⟨us',rfl,hr⟩;rw[hstate]at hr;exact ih _ a' w' (by simpa using hs) hD' hcount hr
   ·rename_i hw;rw[Ql hw]at hfin;obtain⟨us',rfl,hr⟩:=hfin;rw[hstate]at hr;exact ih _ _ w (by simpa using hs) hD' hcount hr
 have hX0:∀j,X (Array.replicate l.length false) j=false:=by
  intro j;simp only[X,Array.getD_eq_getD_getElem?,Array.getElem?_replicate];split <;> rfl
 refine wp_region_any hm ?_;rw[QC];refine key l.length _ a0 _ (by simp) (λi o _ hx=>by rw[hX0]at hx;cases hx) ?_ ?_
 ·rw[List.countP_eq_length.2 (λj hj=>by simp[Array.getD_eq_getD_getElem?,List.mem_range.1 hj])];simp
 ·rw[kF _ L 0 s (λj _=>by rw[Qo];exact hX0 j)];exact hR0'
end
inductive OC where
 |d (x:DV)
 |row (sz:Nat) (e:TypeId) (es:List (List DV))
 |box (cs:List OC)
 |e (cs:List DV)
inductive OA where
 |c (x:OC)
 |agg (xs:List OC)
 |bx (cs:List OC)
 |rx (sz:Nat) (e:TypeId) (es:List (List DV))
mutual
def OCr(I:Nat->Nat->Prop) (w:World):OC->Value->List Nat->Prop
 |.d x,v,F=>F=[]/\DVr I w x v
 |.row sz e es,v,F=>∃ex,M4 I w v ⟨es,sz,e,false⟩/\F=(obk v).toList++(if Q4 e then ex else [])/\(∀g o,obk v=some g->¬I g o)/\(Q4 e->cO w v ex ⟨es,sz,e,false⟩/\∀b∈ex,∀o,¬I b o)
 |.e cs,v,F=>F=[]/\∃ad xs,v= .pointer (some ad)/\E4 I w cs xs/\∀j u,xs[j]?=some u->w.cell? (ad.add j)=some u/\I ad.block (2*(ad.off+j))
 |.box cs,v,F=>∃g cur ty Fs,v= .pointer (some ⟨g,0,none⟩)/\w.heap[g]?=some (.cells cur ty (0,0))/\OCs I w cs cur.toList Fs/\F=g::Fs/\∀o,¬I g o
def OCs(I:Nat->Nat->Prop) (w:World):List OC->List Value->List Nat->Prop
 |[],xs,F=>xs=[]/\F=[]
 |c::cs,xs,F=>∃x r F1 F2,xs=x::r/\OCr I w c x F1/\OCs I w cs r F2/\F=F1++F2
end
def OAr(I:Nat->Nat->Prop) (w:World):OA->Value->List Nat->Prop
 |.c x,v,F=>OCr I w x v F
 |.agg xs,v,F=>∃vs,v= .agg vs/\OCs I w xs vs.toList F
 |.bx cs,v,F=>OCr I w (.box cs) v F
 |.rx sz e es,v,F=>OCr I w (.row sz e es) v F
def OAs(I:Nat->Nat->Prop) (w:World):List OA->List Value->List Nat->Prop
 |[],xs,F=>xs=[]/\F=[]
 |c::cs,xs,F=>∃x r F1 F2,xs=x::r/\OAr I w c x F1/\OAs I w cs r F2/\F=F1++F2
theorem OCr.one{I:Nat->Nat->Prop}{w:World}{c:OC}{v:Value}{F:List Nat}(h:OCr I w c v F):v.oneCell'=true:=by
 cases c <;> simp only[OCr]at h
 case d=>exact h.2.one
 case row=>obtain⟨ex,h,_⟩:=h;exact h.one
 case box=>obtain⟨g,cur,ty,Fs,rfl,_⟩:=h;rfl
 case e=>obtain⟨_,ad,xs,rfl,_⟩:=h;rfl
structure Mk where
 ac:AC
 us:List Upd
 m:Nat
structure Mks where
 acs:List AC
 us:List Upd
 m:Nat
mutual
def mkC(n:Nat):OC->Q Mk
 |.d x=>.ret ⟨.d x,[],n⟩
 |.e cs=>.ret ⟨.eptr cs,[],n⟩
 |.row sz e es=>.req (e<M2) <| .rdR n λr=>.ret ⟨.row n (r.ver+1),[.r n ⟨r.ver+1,some ⟨es,sz,e,false⟩⟩],n+1⟩
 |.box cs=>.rdB n λb=>(nv (n+1) cs).bind λk=>.ret ⟨.ptr n (b.ver+1) 0,k.us++[.b n ⟨b.ver+1,some k.acs⟩],k.m⟩
def nv(n:Nat):List OC->Q Mks
 |[]=>.ret ⟨[],[],n⟩
 |c::cs=>(mkC n c).bind λk=>(nv k.m cs).bind λks=>.ret ⟨k.ac::ks.acs,k.us++ks.us,ks.m⟩
end
def P1(n:Nat) (s0 s:St):Prop:=∀k,n<=k->(s.b k).ver=(s0.b k).ver/\(s.r k).ver=(s0.r k).ver
theorem P1.le{n m:Nat}{s0 s:St}(h:P1 n s0 s) (hm:n<=m):P1 m s0 s:=λk hk=>h k (Qt hm hk)
structure CD (W0:World) (M:Own) (G:Gh) (s0 s:St) (w:World) (n:Nat) (us:List Upd) (m:Nat) (F:List Nat) (G':Gh):Prop where
 mem:Mem W0 M G' (s.app us) w
 ext:Ext G s w G' (s.app us) w
 I:G'.I=G.I
 le:n<=m
 ver:P1 m s0 (s.app us)
 own:∀x b,b∈own G' (s.app us) x->b∈own G s x\/b∈F
 n_:(s.app us).n=s.n
 t:(s.app us).t=s.t
 old:∀k,(k<n\/m<=k)->(s.app us).b k=s.b k/\(s.app us).r k=s.r k/\G'.bx k=G.bx k/\G'.rw k=G.rw k/\G'.ex k=G.ex k
section
variable {W0:World}{M:Own}{w:World}{s0:St}
theorem CD.trans{G G1 G2:Gh}{s:St}{n m k:Nat}{us vs:List Upd}{F1 F2:List Nat}(h:CD W0 M G s0 s w n us m F1 G1) (j:CD W0 M G1 s0 (s.app us) w m vs k F2 G2):CD W0 M G s0 s w n (us++vs) k (F1++F2) G2:=by
 refine⟨by rw[St.app_append];exact j.mem,by rw[St.app_append];exact h.ext.trans j.ext,j.I.trans h.I,Qt h.le j.le,by rw[St.app_append];exact j.ver,λx b hx=>?_,by rw[St.app_append];exact j.n_.trans h.n_,by rw[St.app_append];exact j.t.trans h.t,λi hi=>?_⟩
 ·rw[St.app_append]at hx;rcases j.own x b hx with h1|h1
  ·rcases h.own x b h1 with h2|h2
   ·exact .inl h2
   ·exact .inr (by simp[h2])
  ·exact .inr (by simp[h1])
 ·rw[St.app_append];obtain⟨a1,a2,a3,a4,a5⟩:=h.old i (hi.imp id (Qt j.le));obtain⟨b1,b2,b3,b4,b5⟩:=j.old i (hi.imp (λh0=>Qi h0 h.le) id);exact⟨b1.trans a1,b2.trans a2,b3.trans a3,b4.trans a4,b5.trans a5⟩
def xQ(W0:World) (M:Own) (G:Gh) (s:St) (F:List Nat):Prop:=∀b∈F,(∀x,b∉own G s x)/\(W0.heap.size<=b\/M b)
theorem xQ.after{G G1:Gh}{s:St}{n m:Nat}{us:List Upd}{F1 F2:List Nat}(hf:xQ W0 M G s F2) (hd:∀b∈F1,b∉F2) (h:CD W0 M G s0 s w n us m F1 G1):xQ W0 M G1 (s.app us) F2:=λb hb=>by
 refine⟨λx hx=>?_,(hf b hb).2⟩;rcases h.own x b hx with h1|h1
 ·exact(hf b hb).1 x h1
 ·exact hd b h1 hb
theorem kG(s:St) (k:Nat) (x:BS):s.app [.b k x]=s.setB k x:=rfl
theorem kH(s:St) (k:Nat) (x:RS):s.app [.r k x]=s.setR k x:=rfl
mutual
theorem uJ:∀(c:OC){n:Nat}{s:St}{G:Gh}{v:Value}{F:List Nat}{K:Mk->Prop},(mkC n c).wp s0 K->Mem W0 M G s w->OCr G.I w c v F->F.Nodup->xQ W0 M G s F->P1 n s0 s->
  ∃k G',K k/\CD W0 M G s0 s w n k.us k.m F G'/\ACr G' (s.app k.us) w k.ac v
 |.d x,n,s,G,v,F,K,hq,hm,hc,hn,hf,hv=>by
  simp only[OCr]at hc;obtain⟨rfl,hd⟩:=hc;exact⟨_,G,hq,⟨hm,Ext.refl _ _ _,rfl,PW _,hv,λx b h=>.inl h,rfl,rfl,λk _=>⟨rfl,rfl,rfl,rfl,rfl⟩⟩,by simpa only[ACr]using hd⟩
 |.e cs,n,s,G,v,F,K,hq,hm,hc,hn,hf,hv=>by
  simp only[OCr]at hc;obtain⟨rfl,hd⟩:=hc;exact⟨_,G,hq,⟨hm,Ext.refl _ _ _,rfl,PW _,hv,λx b h=>.inl h,rfl,rfl,λk _=>⟨rfl,rfl,rfl,rfl,rfl⟩⟩,by simpa only[ACr]using hd⟩
 |.row sz e es,n,s,G,v,F,K,hq,hm,hc,hn,hf,hv=>by
  simp only[OCr]at hc;obtain⟨ex,hrow,rfl,hI,hsx⟩:=hc;simp only[mkC,Q.wp]at hq;obtain⟨hpf,hq⟩:=hq;have hver:=(hv n (PW _)).2;obtain⟨m1,x1⟩:=hm.addRowX n ((s0.r n).ver+1) v ⟨es,sz,e,false⟩ (by rw[hver];omega) hrow (λx b hb hx=>(hf b (by simp[hb])).1 x hx) (λg hg o hi=>(hI g o hg hi).elim) (λg hg=>(hf g (by simp[hg])).2) hpf (ex:=upd G.ex n ex) (λk hk=>by simp[upd,hk])
   (λhe=>by
    simp only[upd,Qy];exact⟨(hsx he).1,λb hb=>⟨λx hx=>(hf b (by simp[he,hb])).1 x hx,(hsx he).2 b hb,(hf b (by simp[he,hb])).2⟩⟩)
  refine⟨_,_,hq,⟨m1,x1,rfl,SN _,λk hk=>?_,λx b hx=>?_,rfl,rfl,λk hk=>?_⟩,?_⟩
  ·have hk':n+1<=k:=hk;have:=hv k (by omega);simp only[kH,St.setR,upd];rw[Ql (by omega)];exact this
  ·rcases x with k|k
   ·exact .inl hx
   ·simp only[kH]at hx;by_cases e:k=n
    ·subst e;simp only[Am.own,St.setR,upd,Qy]at hx;exact .inr hx
    ·left;simpa [Am.own,St.setR,upd,e]using hx
  ·simp only[kH,St.setR,upd];have hne:k≠n:=by simp only at hk;omega
   simp[hne]
  ·simp only[ACr,kH,St.setR,upd,Qy];exact⟨hrow.one,PW _,λ_ _=>trivial⟩
 |.box cs,n,s,G,v,F,K,hq,hm,hc,hn,hf,hv=>by
  simp only[OCr]at hc;obtain⟨g,cur,ty,Fs,rfl,hh,hcs,rfl,hI⟩:=hc;simp only[mkC,Q.wp]at hq;rw[Q.wp_bind]at hq;rw[Qz]at hn;obtain⟨k,G1,hq,h1,h2⟩:=oC cs hq hm hcs hn.2 (λb hb=>hf b (by simp[hb])) (hv.le (SN n));have hver:=(hv n (PW _)).1;have hbn:((s.app k.us).b n).ver=(s0.b n).ver:=by rw[(h1.old n (.inl (Rn n))).1];exact hver
  obtain⟨m1,x1⟩:=h1.mem.addBox n ((s0.b n).ver+1) g k.acs (by rw[hbn];omega) ⟨cur,ty,hh,h2⟩ (λx hx=>by
   rcases h1.own x g hx with h|h
   ·exact(hf g (by simp)).1 x h
   ·exact hn.1 h) (by rw[h1.I];exact hI) (hf g (by simp)).2
  refine⟨_,⟨G1.I,upd G1.bx n g,G1.rw,G1.st,G1.ex⟩,hq,⟨by rw[St.app_append];exact m1,by rw[St.app_append];exact h1.ext.trans x1,h1.I,Qt (SN n) h1.le,λj hj=>?_,λx b hx=>?_,by rw[St.app_append];exact h1.n_,by rw[St.app_append];exact h1.t,λj hj=>?_⟩,?_⟩
  ·have:=h1.ver j hj;have hle:=h1.le;rw[St.app_append];simp only[kG,St.setB,upd];rw[Ql (by have:n+1<=j:=Qt hle hj;omega)];exact this
  ·rw[St.app_append]at hx;rcases x with j|j
   ·simp only[kG]at hx;by_cases e:j=n
    ·subst e;simp only[Am.own,St.setB,upd,Qy,ST,Qp]at hx;exact .inr (by simp[hx])
    ·have hx':b∈Am.own G1 (s.app k.us) (.inl j):=by simpa [Am.own,St.setB,upd,e]using hx
     rcases h1.own _ _ hx' with h|h
     ·exact .inl h
     ·exact .inr (by simp[h])
   ·have hx':b∈Am.own G1 (s.app k.us) (.inr j):=hx;rcases h1.own _ _ hx' with h|h
    ·exact .inl h
    ·exact .inr (by simp[h])
  ·rw[St.app_append];obtain⟨a1,a2,a3,a4,a5⟩:=h1.old j (hj.imp Nat.lt_succ_of_lt id);simp only[kG,St.setB,upd];have hne:j≠n:=by have:=h1.le;simp only at hj;omega
   simp only[hne,Qr];exact⟨a1,a2,a3,a4,a5⟩
  ·rw[St.app_append];simp only[ACr,kG,St.setB,upd,Qy];exact⟨rfl,PW _,λ_ _=>trivial⟩
theorem oC:∀(cs:List OC){n:Nat}{s:St}{G:Gh}{vs:List Value}{F:List Nat}{K:Mks->Prop},(nv n cs).wp s0 K->Mem W0 M G s w->OCs G.I w cs vs F->F.Nodup->xQ W0 M G s F->P1 n s0 s->
  ∃k G',K k/\CD W0 M G s0 s w n k.us k.m F G'/\ACs G' (s.app k.us) w k.acs vs
 |[],n,s,G,vs,F,K,hq,hm,hc,hn,hf,hv=>by
  simp only[OCs]at hc;obtain⟨rfl,rfl⟩:=hc;exact⟨_,G,hq,⟨hm,Ext.refl _ _ _,rfl,PW _,hv,λx b h=>.inl h,rfl,rfl,λk _=>⟨rfl,rfl,rfl,rfl,rfl⟩⟩,by simp[ACs]⟩
 |c::cs,n,s,G,vs,F,K,hq,hm,hc,hn,hf,hv=>by
  simp only[OCs]at hc;obtain⟨x,r,F1,F2,rfl,h1,h2,rfl⟩:=hc;simp only[nv,Q.wp_bind]at hq;rw[QP]at hn;obtain⟨k,G1,hq,j1,j2⟩:=uJ c hq hm h1 hn.1 (λb hb=>hf b (by simp[hb])) hv;have hf2:xQ W0 M G1 (s.app k.us) F2:=xQ.after (F1:=F1) (λb hb=>hf b (by simp[hb])) (λb hb1 hb2=>hn.2.2 b hb1 b hb2 rfl) j1;obtain⟨ks,G2,hq,j3,j4⟩:=oC cs hq j1.mem (by rw[j1.I];exact h2) hn.2.1 hf2 j1.ver;refine⟨_,G2,hq,j1.trans j3,?_⟩;rw[St.app_append];simp only[ACs];exact⟨x,r,rfl,j3.ext.ac j2,j4⟩
end
end
inductive CSh where
 |D
 |R (sz:Nat) (e:TypeId)
 |B (cs:List CSh)
 |E
inductive ASh where
 |c (s:CSh)
 |agg (ss:List CSh)
 |bx (ss:List CSh)
 |rx (sz:Nat) (e:TypeId)
structure Tk where
 oc:OC
 fz:List Nat
 ids:List (Nat⊕Nat)
structure Tks where
 ocs:List OC
 fz:List Nat
 ids:List (Nat⊕Nat)
mutual
def lr:CSh->AC->Q Tk
 |.D,ac=>(toD ac).bind λd=>.ret ⟨.d d.1,d.2,[]⟩
 |.R sz e,.row id ver=>.rdR id λr=>match r.c with
  |some R=>.req (ver=r.ver/\R.sz=sz/\R.e=e/\R.fr=false) (.ret ⟨.row sz e R.es,[],[.inr id]⟩)
  |none=>.fail
 |.R sz e,.nil=>.req (0<sz/\e<Q7) (.ret ⟨.row sz e [],[],[]⟩)
 |.R _ _,_=>.fail
 |.E,.eptr cs=>.ret ⟨.e cs,[],[]⟩
 |.E,_=>.fail
 |.B cs,.ptr id ver off=>.rdB id λb=>match b.c with
  |some acs=>(P9 cs acs).bind λk=>.req (ver=b.ver/\off=0) (.ret ⟨.box k.ocs,k.fz,.inl id::k.ids⟩)
  |none=>.fail
 |.B _,_=>.fail
def P9:List CSh->List AC->Q Tks
 |[],[]=>.ret ⟨[],[],[]⟩
 |s::ss,c::cs=>(lr s c).bind λk=>(P9 ss cs).bind λks=>.ret ⟨k.oc::ks.ocs,k.fz++ks.fz,k.ids++ks.ids⟩
 |_,_=>.fail
end
structure Ta where
 oa:OA
 fz:List Nat
 ids:List (Nat⊕Nat)
 tops:List (Nat⊕Nat)
structure Tas where
 xs:List OA
 fz:List Nat
 ids:List (Nat⊕Nat)
 tops:List (Nat⊕Nat)
def CE:ASh->AV->Q Ta
 |.c s,.c ac=>(lr s ac).bind λk=>.ret ⟨.c k.oc,k.fz,k.ids,[]⟩
 |.agg ss,.agg acs=>(P9 ss acs).bind λk=>.ret ⟨.agg k.ocs,k.fz,k.ids,[]⟩
 |.bx ss,.c (.ptr id ver off)=>.rdB id λb=>match b.c with
  |some acs=>(P9 ss acs).bind λk=>.req (ver=b.ver/\off=0) (.ret ⟨.bx k.ocs,k.fz,k.ids,[.inl id]⟩)
  |none=>.fail
 |.rx sz e,.c (.row id ver)=>.rdR id λr=>match r.c with
  |some R=>.req (ver=r.ver/\R.sz=sz/\R.e=e/\R.fr=false/\e<Q7) (.ret ⟨.rx sz e R.es,[],[],[.inr id]⟩)
  |none=>.fail
 |.bx _,.c (.d (.v (.pointer none)))=>.ret ⟨.c (.d (.v (.pointer none))),[],[],[]⟩
 |_,_=>.fail
def ls:List ASh->List AV->Q Tas
 |[],[]=>.ret ⟨[],[],[],[]⟩
 |s::ss,c::cs=>(CE s c).bind λk=>(ls ss cs).bind λks=>.ret ⟨k.oa::ks.xs,k.fz++ks.fz,k.ids++ks.ids,k.tops++ks.tops⟩
 |_,_=>.fail
section
variable {W0:World}{M:Own}{G:Gh}{s:St}{w:World}
structure oD (G:Gh) (s:St) (w:World) (I':Nat->Nat->Prop) (fz:List Nat) (ids:List (Nat⊕Nat)):Prop where
 I:∀b o,G.I b o->I' b o
 fz:∀id∈fz,∀R,(s.r id).c=some R->DVr I' w (.sl R.es) (G.rw id)
 no:∀x∈ids,∀g,g∈own G s x->∀o,¬I' g o
theorem oD.sub{I':Nat->Nat->Prop}{fz fz':List Nat}{ids ids':List (Nat⊕Nat)}(h:oD G s w I' fz ids) (h1:∀x∈fz',x∈fz) (h2:∀x∈ids',x∈ids):oD G s w I' fz' ids':=
 ⟨h.I,λid hm=>h.fz id (h1 id hm),λx hm=>h.no x (h2 x hm)⟩
def live(s:St):Nat⊕Nat->Prop
 |.inl id=>(s.b id).c.isSome=true
 |.inr id=>∃R,(s.r id).c=some R/\R.fr=false
mutual
theorem uK(h:Mem W0 M G s w):∀(sh:CSh){ac:AC}{v:Value}{K:Tk->Prop},ACr G s w ac v->(lr sh ac).wp s K->∃k,K k/\(∀x∈k.ids,live s x)/\∀I',oD G s w I' k.fz k.ids->OCr I' w k.oc v (k.ids.flatMap (own G s))
 |.D,ac,v,K,hx,hq=>by
  simp only[lr,Q.wp_bind,Q.wp]at hq;obtain⟨d,hq,_,hd⟩:=ni hx hq;exact⟨_,hq,by simp,λI' hf=>by simp only[OCr];exact⟨rfl,hd I' hf.I hf.fz⟩⟩
 |.E,ac,v,K,hx,hq=>by
  cases ac <;> simp only[lr,Q.wp]at hq <;> (try exact hq.elim)
  case eptr cs=>
   simp only[ACr]at hx;obtain⟨ad,xs,h1,h2,h3⟩:=hx;refine⟨_,hq,by simp,λI' hf=>?_⟩;simp only[OCr];exact⟨rfl,ad,xs,h1,E4.mono hf.I (U9.refl _ _) _ h2,λj u hu=>⟨(h3 j u hu).1,hf.I _ _ (h3 j u hu).2⟩⟩
 |.R sz e,ac,v,K,hx,hq=>by
  cases ac <;> simp only[lr,Q.wp]at hq <;> (try exact hq.elim)
  case nil=>
   simp only[ACr]at hx;subst hx;refine⟨_,hq.2,by simp,λI' hf=>?_⟩;simp only[OCr];exact⟨[],⟨hq.1.1,by simp,.inl ⟨hq.1.2,[],World.ownsRow_nil w 0 e sz,by simp[D2]⟩⟩,by simp[obk],λg o hg=>(by cases hg),λk=>absurd k (D3 hq.1.2)⟩
  case row id ver=>
   split at hq
   ·rename_i R hR;obtain⟨⟨h1,h2,h3,h4⟩,hq⟩:=hq;simp only[ACr]at hx;obtain rfl:=hx.2.2 h1 (by rw[hR];rfl);refine⟨_,hq,λx hm=>by simp at hm;subst hm;exact⟨R,hR,h4⟩,λI' hf=>?_⟩;have q:=(h.rw id R hR).mono hf.I;simp only[OCr];obtain⟨Re,Rz,Rt,Rf⟩:=R;simp only at h2 h3 h4;subst h2;subst h3;subst h4;exact⟨G.ex id,q,by simp[own,hR],λg o hg=>hf.no (.inr id) (by simp) g (bO hR hg) o,λhe=>⟨(h.sx id _ hR he).1,λb hb=>hf.no (.inr id) (by simp) b (gt hR he hb)⟩⟩
   ·exact hq.elim
 |.B cs,ac,v,K,hx,hq=>by
  cases ac <;> simp only[lr,Q.wp]at hq <;> (try exact hq.elim)
  case ptr id ver off=>
   split at hq
   ·rename_i acs hc;rw[Q.wp_bind]at hq;obtain⟨cur,ty,hh,hac⟩:=h.bx id acs hc;obtain⟨k,hk0,hl,hk⟩:=iB h cs hac hq;clear hq;obtain⟨⟨h1,h2⟩,hq⟩:=hk0;simp only[ACr]at hx;obtain rfl:=hx.2.2 h1 (by rw[hc];rfl);rw[h2];have hown:own G s (.inl id)=[G.bx id]:=by simp[own,hc]
    refine⟨_,hq,λx hm=>by
     rcases List.mem_cons.1 hm with rfl|hm
     ·simp[live,hc]
     ·exact hl x hm,λI' hf=>?_⟩
    simp only[OCr];refine⟨G.bx id,cur,ty,_,rfl,hh,hk I' (hf.sub (λ_ h=>h) (λx hm=>by simp[hm])),?_,λo=>hf.no (.inl id) (by simp) _ (by rw[hown];simp) o⟩;rw[QB,hown];rfl
   ·exact hq.elim
theorem iB(h:Mem W0 M G s w):∀(shs:List CSh){acs:List AC}{vs:List Value}{K:Tks->Prop},ACs G s w acs vs->(P9 shs acs).wp s K->∃k,K k/\(∀x∈k.ids,live s x)/\∀I',oD G s w I' k.fz k.ids->OCs I' w k.ocs vs (k.ids.flatMap (own G s))
 |[],acs,vs,K,hx,hq=>by
  cases acs with
  |nil=>
   simp only[ACs]at hx;subst hx;exact⟨_,hq,by simp,λI' hf=>by simp[OCs]⟩
  |cons c cs=>exact hq.elim
 |sh::shs,acs,vs,K,hx,hq=>by
  cases acs with
  |nil=>exact hq.elim
  |cons c cs=>
   simp only[ACs]at hx;obtain⟨v,r,rfl,h1,h2⟩:=hx;simp only[P9,Q.wp_bind,Q.wp]at hq;obtain⟨k,hq,hl,hk⟩:=uK h sh h1 hq;obtain⟨ks,hq,hls,hks⟩:=iB h shs h2 hq;refine⟨_,hq,λx hm=>by
    rcases List.mem_append.1 hm with hm|hm
    ·exact hl x hm
    ·exact hls x hm,λI' hf=>?_⟩
   simp only[OCs];exact⟨v,r,_,_,rfl,hk I' (hf.sub (λx hm=>by simp[hm]) (λx hm=>by simp[hm])),hks I' (hf.sub (λx hm=>by simp[hm]) (λx hm=>by simp[hm])),RV⟩
end
def IR(s:St):Nat⊕Nat->Prop
 |.inl _=>True
 |.inr id=>∃R,(s.r id).c=some R/\R.e<Q7
def ao(G:Gh):Nat⊕Nat->Value
 |.inl t=>.pointer (some ⟨G.bx t,0,none⟩)
 |.inr t=>G.rw t
theorem CF(h:Mem W0 M G s w){sh:ASh}{x:AV}{v:Value}{K:Ta->Prop}(hx:AVr G s w x v) (hq:(CE sh x).wp s K) :
  ∃k,K k/\(∀x∈k.ids,live s x)/\(∀x∈k.tops,live s x/\IR s x)/\(∀I',oD G s w I' k.fz (k.tops++k.ids)->OAr I' w k.oa v ((k.tops++k.ids).flatMap (own G s)))/\
   ((k.tops=[]/\(∀cs,k.oa ≠ .bx cs)/\∀a b c,k.oa ≠ .rx a b c)\/(∃id cs,k.tops=[.inl id]/\k.oa= .bx cs/\v=ao G (.inl id))\/∃id a b c,k.tops=[.inr id]/\k.oa= .rx a b c/\v=ao G (.inr id)):=by
 unfold CE at hq;split at hq
 ·simp only[Q.wp_bind,Q.wp]at hq;obtain⟨k,hq,hl,hk⟩:=uK h _ (C2 hx) hq;exact⟨_,hq,hl,by simp,λI' hf=>by simpa [OAr]using hk I' (by simpa using hf),.inl ⟨rfl,by simp,by simp⟩⟩
 ·simp only[Q.wp_bind,Q.wp]at hq;simp only[AVr]at hx;obtain⟨vs,rfl,hx⟩:=hx;obtain⟨k,hq,hl,hk⟩:=iB h _ hx hq;exact⟨_,hq,hl,by simp,λI' hf=>by simp only[OAr];exact⟨vs,rfl,by simpa using hk I' (by simpa using hf)⟩,.inl ⟨rfl,by simp,by simp⟩⟩
 ·rename_i ss id ver off;simp only[Q.wp]at hq;split at hq
  ·rename_i acs hc;rw[Q.wp_bind]at hq;obtain⟨cur,ty,hh,hac⟩:=h.bx id acs hc;obtain⟨k,hk0,hl,hk⟩:=iB h ss hac hq;clear hq;obtain⟨⟨h1,h2⟩,hq⟩:=hk0;have hx':=C2 hx;simp only[ACr]at hx';obtain rfl:=hx'.2.2 h1 (by rw[hc];rfl);rw[h2];have hown:own G s (.inl id)=[G.bx id]:=by simp[own,hc]
   refine⟨_,hq,hl,λi hi=>by simp at hi;subst hi;simp[live,IR,hc],λI' hf=>?_,.inr (.inl ⟨id,_,rfl,rfl,rfl⟩)⟩;simp only[OAr,OCr];refine⟨G.bx id,cur,ty,_,rfl,hh,hk I' (hf.sub (λ_ h=>h) (λx hm=>by simp[hm])),?_,λo=>hf.no (.inl id) (by simp) _ (by rw[hown];simp) o⟩;simp[hown]
  ·exact hq.elim
 ·rename_i sz e id ver;simp only[Q.wp]at hq;split at hq
  ·rename_i R hR;obtain⟨⟨h1,h2,h3,h4,h5⟩,hq⟩:=hq;have hx':=C2 hx;simp only[ACr]at hx';obtain rfl:=hx'.2.2 h1 (by rw[hR];rfl);refine⟨_,hq,by simp,λx hm=>by simp at hm;subst hm;exact⟨⟨R,hR,h4⟩,R,hR,by rw[h3];exact h5⟩,λI' hf=>?_,.inr (.inr ⟨id,_,_,_,rfl,rfl,rfl⟩)⟩;have q:=(h.rw id R hR).mono hf.I;simp only[OAr,OCr];obtain⟨Re,Rz,Rt,Rf⟩:=R;simp only at h2 h3 h4;subst h2;subst h3;subst h4;exact⟨G.ex id,q,by simp[own,hR],λg o hg=>hf.no (.inr id) (by simp) g (bO hR hg) o,λhe=>⟨(h.sx id _ hR he).1,λb hb=>hf.no (.inr id) (by simp) b (gt hR he hb)⟩⟩
  ·exact hq.elim
 ·have hx':=C2 hx;simp only[ACr,DVr]at hx';exact⟨_,hq,by simp,by simp,λI' hf=>by simp[OAr,OCr,DVr,hx'],.inl ⟨rfl,by simp,by simp⟩⟩
 ·exact hq.elim
def ff(G:Gh):List OA->List Value->List (Nat⊕Nat)->Prop
 |[],_,ts=>ts=[]
 |.bx _::xs,vs,ts=>∃v r t tr,vs=v::r/\ts=t::tr/\v=ao G t/\ff G xs r tr
 |.rx _ _ _::xs,vs,ts=>∃v r t tr,vs=v::r/\ts=t::tr/\v=ao G t/\ff G xs r tr
 |_::xs,vs,ts=>∃v r,vs=v::r/\ff G xs r ts
structure IS (G:Gh) (s:St) (w:World) (k:Tas) (vs:List Value) (foot:List (Nat⊕Nat)):Prop where
 mem:∀x,x∈foot↔x∈k.tops\/x∈k.ids
 live:∀x∈foot,live s x
 rx:∀x∈k.tops,IR s x
 oas:∀I',oD G s w I' k.fz foot->OAs I' w k.xs vs (foot.flatMap (own G s))
 tops:ff G k.xs vs k.tops
 nodup:(k.tops++k.ids).Nodup->foot.Nodup
theorem iC(h:Mem W0 M G s w):∀(shs:List ASh){xs:List AV}{vs:List Value}{K:Tas->Prop},AVs G s w xs vs->(ls shs xs).wp s K->∃k foot,K k/\IS G s w k vs foot
 |[],xs,vs,K,hx,hq=>by
  cases xs with
  |nil=>
   simp only[AVs]at hx;subst hx;exact⟨_,[],hq,⟨by simp,by simp,by simp,λI' hf=>by simp[OAs],by simp[ff],λh=>h⟩⟩
  |cons c cs=>exact hq.elim
 |sh::shs,xs,vs,K,hx,hq=>by
  cases xs with
  |nil=>exact hq.elim
  |cons c cs=>
   simp only[AVs]at hx;obtain⟨v,r,rfl,h1,h2⟩:=hx;simp only[ls,Q.wp_bind,Q.wp]at hq;obtain⟨k,hq,hl,hlt,hk,htop⟩:=CF h h1 hq;obtain⟨ks,foot,hq,t1,t2,t6,t3,t4,t5⟩:=iC h shs h2 hq;refine⟨_,(k.tops++k.ids)++foot,hq,⟨λx=>?_,λx hm=>?_,λx hm=>?_,λI' hf=>?_,?_,λhnd=>?_⟩⟩
   ·simp only[RQ,t1 x];constructor
    ·rintro((h|h)|(h|h))
     ·exact .inl (.inl h)
     ·exact .inr (.inl h)
     ·exact .inl (.inr h)
     ·exact .inr (.inr h)
    ·rintro((h|h)|(h|h))
     ·exact .inl (.inl h)
     ·exact .inr (.inl h)
     ·exact .inl (.inr h)
     ·exact .inr (.inr h)
   ·rcases List.mem_append.1 hm with hm|hm
    ·rcases List.mem_append.1 hm with hm|hm
     ·exact(hlt x hm).1
     ·exact hl x hm
    ·exact t2 x hm
   ·rcases List.mem_append.1 hm with hm|hm
    ·exact(hlt x hm).2
    ·exact t6 x hm
   ·simp only[OAs];exact⟨v,r,_,_,rfl,hk I' (hf.sub (λx hm=>by simp[hm]) (λx hm=>QH _ hm)),t3 I' (hf.sub (λx hm=>by simp[hm]) (λx hm=>Rj _ hm)),RV⟩
   ·rcases htop with⟨e1,e2,e3⟩|⟨id,cs',e1,e2,e3⟩|⟨id,a',b',c',e1,e2,e3⟩
    ·simp only[e1,QT];cases hoa:k.oa with
     |c x=>exact⟨v,r,rfl,t4⟩
     |agg x=>exact⟨v,r,rfl,t4⟩
     |bx x=>exact(e2 x hoa).elim
     |rx x y z=>exact(e3 x y z hoa).elim
    ·simp only[e1,e2];exact⟨v,r,.inl id,ks.tops,rfl,rfl,e3,t4⟩
    ·simp only[e1,e2];exact⟨v,r,.inr id,ks.tops,rfl,rfl,e3,t4⟩
   ·have hnd':((k.tops++k.ids)++(ks.tops++ks.ids)).Nodup:=by
     refine(List.Perm.nodup_iff ?_).1 hnd;simp only[Qe];refine List.Perm.append_left _ ?_;rw[<-Qe,<-Qe];exact List.Perm.append_right _ QX
    rw[QP]at hnd'⊢;refine⟨hnd'.1,t5 hnd'.2.1,λa ha b hb e=>hnd'.2.2 a ha b ?_ e⟩;rcases(t1 b).1 hb with h|h
    ·exact QH _ h
    ·exact Rj _ h
end
inductive Sp where
 |none
 |keys (f1:FuncId)
 |sortI (f1:FuncId) (e:TypeId)
 |sortS (f1:FuncId) (e:TypeId)
def IU(P:Program) (f f1:FuncId) (e:TypeId):Prop:=∀(w:World) (b g:Nat) (ty:TypeId) (en:Array MapEntry) (clock:Nat) (ks:List Int),w.heap[b]?=some (.cells #[.map (some g)] ty (0,0))->w.heap[g]?=some (.map en clock)->jm en.toList clock->
 en.toList.map (·.key)=ks.map (Value.int .i64)->ks.Nodup->(∀x∈ks,(Lit.int .i64 x).wf=true)->ks.length<=maxLen->ks.length*8<=140737488355328->
 Calls P f #[rR f1 b] w λo w'=>∃v,o= .returned v/\w'.ownsRow w.heap.size e 1 v ks.length ((ks.mergeSort λx y=>decide (x<=y)).map (Value.int .i64))/\RowKit.Below w.heap.size w w'
def CG(l:List UInt8):Value:=.string ⟨l.toArray⟩
def LP(P:Program) (f f1:FuncId) (e:TypeId):Prop:=∀(w:World) (b g:Nat) (ty:TypeId) (en:Array MapEntry) (clock:Nat) (ks:List (List UInt8)),w.heap[b]?=some (.cells #[.map (some g)] ty (0,0))->w.heap[g]?=some (.map en clock)->jm en.toList clock->
 en.toList.map (·.key)=ks.map CG->ks.Nodup->(∀x∈ks,x.length<=maxLen)->ks.length<=maxLen->ks.length*16<=140737488355328->
 Calls P f #[rR f1 b] w λo w'=>∃v,o= .returned v/\w'.ownsRow w.heap.size e 1 v ks.length ((ks.mergeSort λx y=>decide (x<=y)).map CG)/\RowKit.Below w.heap.size w w'
def Gd(P:Program) (f:FuncId):Sp->Prop
 |.none=>True
 |.keys f1=>∃tm,∀g w,Calls P f #[.map (some g)] w λe w'=>e= .returned (rR f1 w.heap.size)/\w'=w.alloc (.cells #[.map (some g)] tm)
 |.sortI f1 e=>IU P f f1 e
 |.sortS f1 e=>LP P f f1 e
structure fg where
 sh:List ASh
 pre:List OA->Prop
 post:List OA->List OA
 res:List OA->List OA
 sp:Sp
 flat:Bool
def jR:OC->Bool
 |.d (.v _)=>true
 |_=>false
def nw:OA->Bool
 |.c x=>jR x
 |.agg xs=>xs.all jR
 |_=>false
theorem uL{c:OC}(h:jR c=true):∃u,c= .d (.v u):=by
 unfold jR at h;split at h
 ·exact⟨_,rfl⟩
 ·cases h
theorem yN{I J:Nat->Nat->Prop}{w w':World}:∀{cs:List OC}{vs:List Value}{F:List Nat},cs.all jR=true->OCs I w cs vs F->OCs J w' cs vs []/\F=[]
 |[],vs,F,_,h=>by simp only[OCs]at h⊢;exact⟨⟨h.1,trivial⟩,h.2⟩
 |c::cs,vs,F,hf,h=>by
  rw[Rc,PM]at hf;obtain⟨u,rfl⟩:=uL hf.1;simp only[OCs]at h⊢;obtain⟨x,r,F1,F2,rfl,h1,h2,rfl⟩:=h;obtain⟨h3,rfl⟩:=yN (J:=J) (w':=w') hf.2 h2;simp only[OCr,DVr]at h1⊢;obtain⟨rfl,h4⟩:=h1;exact⟨⟨x,r,[],[],rfl,⟨rfl,h4⟩,h3,rfl⟩,rfl⟩
theorem si{I J:Nat->Nat->Prop}{w w':World}:∀{cs:List OA}{vs:List Value}{F:List Nat},cs.all nw=true->OAs I w cs vs F->OAs J w' cs vs []
 |[],vs,F,_,h=>by simp only[OAs]at h⊢;exact⟨h.1,trivial⟩
 |c::cs,vs,F,hf,h=>by
  rw[Rc,PM]at hf;obtain⟨hf1,hf2⟩:=hf;simp only[OAs]at h⊢;obtain⟨x,r,F1,F2,rfl,h1,h2,rfl⟩:=h;have h3:=si (J:=J) (w':=w') hf2 h2;refine⟨x,r,[],[],rfl,?_,h3,rfl⟩;unfold nw at hf1;split at hf1
  ·rename_i y;obtain⟨u,rfl⟩:=uL hf1;simp only[OAr,OCr,DVr]at h1⊢;exact⟨trivial,h1.2⟩
  ·rename_i ys;simp only[OAr]at h1⊢;obtain⟨vs',e,h5⟩:=h1;exact⟨vs',e,(yN (J:=J) (w':=w') hf1 h5).1⟩
  ·cases hf1
def D4:List OA->List Value->List Value
 |.bx _::xs,v::vs=>v::D4 xs vs
 |.rx _ _ _::xs,v::vs=>v::D4 xs vs
 |_::xs,_::vs=>D4 xs vs
 |_,_=>[]
structure Ret (S:fg) (I:Nat->Nat->Prop) (w:World) (xs:List OA) (args:List Value) (F:List Nat) (w':World) (I':Nat->Nat->Prop) (vs:List Value) (Fp Fr':List Nat):Prop where
 fr:Fr w (· ∈ F) w'
 sub:∀b o,I b o->I' b o
 keep:U9 I w w'
 new:∀b o,I' b o->I b o\/b∈F\/w.heap.size<=b
 lt:∀b o,I' b o->b<w'.heap.size
 post:OAs I' w' (S.post xs) (D4 xs args) Fp
 res:OAs I' w' (S.res xs) vs Fr'
 nodup:(Fp++Fr').Nodup
 own:∀b∈Fp++Fr',b∈F\/w.heap.size<=b
 odd:∀b o,I' b o->o%2=1->I b o
 soft:∀b o,I' b o->o%2=0->¬I b o->w'.frozen? ⟨b,o / 2,none⟩=false
def uM(vs:List Value):Value:=match vs with
 |[v]=>v
 |vs=>.tuple vs.toArray
structure CH (P:Program) (f:FuncId) (S:fg):Prop where
 sp:Gd P f S.sp
 isf:∃fn,P.funcs[f]?=some fn/\fn.body.isSome=true/\(fn.name== "runtime.NumGoroutine")=false
 calls:∀(w:World) (I:Nat->Nat->Prop) (F:List Nat) (args:Array Value) (xs:List OA),(∀b o,I b o->b<w.heap.size)->nX I w->OAs I w xs args.toList F->F.Nodup->S.pre xs->
  Calls P f args w fun | .returned v,w'=>∃I' vs Fp Fr',v=uM vs/\Ret S I w xs args.toList F w' I' vs Fp Fr' | _,_=>False
def sj:List (Nat⊕Nat)->Q (List Upd)
 |[]=>.ret []
 |.inl id::ids=>.rdB id λb=>(sj ids).bind λus=>.ret (.b id ⟨b.ver,none⟩::us)
 |.inr id::ids=>.rdR id λb=>(sj ids).bind λus=>.ret (.r id ⟨b.ver,none⟩::us)
def mL:List (Nat⊕Nat)->List OA->Q (List Upd)
 |[],[]=>.ret []
 |.inl id::ids,.bx cs::css=>.rdB id λb=>(mL ids css).bind λus=>.ret (.b id ⟨b.ver,some (cs.map λ_=>.junk)⟩::us)
 |.inr id::ids,.rx sz e es::css=>.req (e<Q7) <| .rdR id λr=>(mL ids css).bind λus=>.ret (.r id ⟨r.ver,some ⟨es,sz,e,false⟩⟩::us)
 |_,_=>.fail
def tid:Nat⊕Nat->Nat
 |.inl j=>j
 |.inr j=>j
structure Mps where
 us:List Upd
 m:Nat
def sk(n:Nat):List (Nat⊕Nat)->List OA->Q Mps
 |[],[]=>.ret ⟨[],n⟩
 |.inl id::ids,.bx cs::css=>(nv n cs).bind λk=>.req (∀j ∈ .inl id::ids,tid j<n\/k.m<=tid j) (.rdB id λb=>(sk k.m ids css).bind λp=>.ret ⟨k.us++(.b id ⟨b.ver,some k.acs⟩::p.us),p.m⟩)
 |.inr _::ids,.rx _ _ _::css=>sk n ids css
 |_,_=>.fail
structure Mka where
 av:AV
 us:List Upd
 m:Nat
structure LQ where
 avs:List AV
 us:List Upd
 m:Nat
def mkA(n:Nat):OA->Q Mka
 |.c x=>(mkC n x).bind λk=>.ret ⟨.c k.ac,k.us,k.m⟩
 |.agg xs=>(nv n xs).bind λk=>.ret ⟨.agg k.acs,k.us,k.m⟩
 |.bx cs=>(mkC n (.box cs)).bind λk=>.ret ⟨.c k.ac,k.us,k.m⟩
 |.rx sz e es=>(mkC n (.row sz e es)).bind λk=>.ret ⟨.c k.ac,k.us,k.m⟩
def EI(n:Nat):List OA->Q LQ
 |[]=>.ret ⟨[],[],n⟩
 |c::cs=>(mkA n c).bind λk=>(EI k.m cs).bind λks=>.ret ⟨k.av::ks.avs,k.us++ks.us,ks.m⟩
def Ic(vs:List AV):AV:=match vs with
 |[v]=>v
 |vs=>.tup vs
def kI:Option Nat->Nat
 |some d=>(d+1)*1000
 |none=>900
def yO(S:fg) (o:Oper) (c:Call) (ex:List AV:=[]):Q (List Upd):=
 (evs c.args.toList).bind λxs=>(ls S.sh (xs++ex)).bind λk=>
 .req ((k.tops++k.ids).Nodup/\(∀id∈k.fz,Sum.inr id∉k.tops++k.ids)/\S.pre k.xs)
 (match S.flat&&k.tops.isEmpty&&k.ids.isEmpty with
 |true=>.req (S.post k.xs=[]/\(S.res k.xs).all nw=true) ((ak k.fz).bind λ_=>(EI (kI o.dst) (S.res k.xs)).bind λr=>.ret (r.us++rO o.dst (Ic r.avs)))
 |false=>(ak k.fz).bind λus1=>(sj k.ids).bind λus2=>(mL k.tops (S.post k.xs)).bind λus3=>(sk (kI o.dst) k.tops (S.post k.xs)).bind λp=>(EI p.m (S.res k.xs)).bind λr=>
 .ret (us1++us2++us3++p.us++r.us++rO o.dst (Ic r.avs)))
section
variable {W0:World}{M:Own}{G:Gh}{s s' s0:St}{w w':World}
theorem Mem.dropBox(h:Mem W0 M G s w) (id:Nat):Mem W0 M G (s.setB id ⟨(s.b id).ver,none⟩) w/\Ext G s w G (s.setB id ⟨(s.b id).ver,none⟩) w:=by
 have E:Ext G s w G (s.setB id ⟨(s.b id).ver,none⟩) w:=by
  refine⟨λ_ _ h=>h,U9.refl _ _,λk=>?_,λ_=>⟨PW _,λ_ h=>⟨h,rfl⟩⟩,λ_ _=>rfl⟩;simp only[St.setB,upd];by_cases e:k=id
  ·subst e;simp
  ·simp only[e,Qr];exact⟨PW _,λ_ h=>⟨h,trivial⟩⟩
 have ho:∀x b,b∈own G (s.setB id ⟨(s.b id).ver,none⟩) x->b∈own G s x:=by
  intro x b hx;rcases x with k|k
  ·by_cases e:k=id
   ·subst e;simp[own,St.setB,upd]at hx
   ·simpa [own,St.setB,upd,e]using hx
  ·exact hx
 refine⟨⟨λk c hc=>?_,λk R hc=>h.rw k R hc,λx y b hx hy=>h.dj x y b (ho x b hx) (ho y b hy),λk hc=>?_,h.rI,λx b hx=>h.oM x b (ho x b hx),h.In,h.fr,h.ii,h.gl.mono E.I E.keep,h.pe,h.sx⟩,E⟩
 ·simp only[St.setB,upd]at hc;by_cases e:k=id
  ·simp[e]at hc
  ·simp only[e,Qr]at hc;obtain⟨cur,ty,h1,h2⟩:=h.bx k c hc;exact⟨cur,ty,h1,E.acs h2⟩
 ·simp only[St.setB,upd]at hc;by_cases e:k=id
  ·simp[e]at hc
  ·simp only[e,Qr]at hc;exact h.bI k hc
structure OS (G:Gh) (s s':St) (ids:List (Nat⊕Nat)):Prop where
 n_:s'.n=s.n
 t:s'.t=s.t
 gone:∀x∈ids,own G s' x=[]
 less:∀x b,b∈own G s' x->b∈own G s x
 b:∀id,Sum.inl id∉ids->s'.b id=s.b id
 r:∀id,Sum.inr id∉ids->s'.r id=s.r id
theorem lu(x:Nat⊕Nat) (id:Nat) (y:BS) (h:x ≠ .inl id):own G (s.setB id y) x=own G s x:=by
 rcases x with k|k
 ·have e:k≠id:=λe=>h (by rw[e]);simp[own,St.setB,upd,e]
 ·rfl
theorem so(x:Nat⊕Nat) (id:Nat) (y:RS) (h:x ≠ .inr id):own G (s.setR id y) x=own G s x:=by
 rcases x with k|k
 ·rfl
 ·have e:k≠id:=λe=>h (by rw[e]);simp[own,St.setR,upd,e]
theorem P1.setB{n:Nat}(h:P1 n s0 s){id ver:Nat}{c:Option (List AC)}(he:n<=id->ver=(s.b id).ver):P1 n s0 (s.setB id ⟨ver,c⟩):=λk hk=>by
 have:=h k hk;simp only[St.setB,upd];by_cases e:k=id
 ·subst e;simp only[Qy];exact⟨(he hk).trans this.1,this.2⟩
 ·simp only[e,Qr];exact this
theorem P1.setR{n:Nat}(h:P1 n s0 s){id ver:Nat}{c:Option Row}(he:n<=id->ver=(s.r id).ver):P1 n s0 (s.setR id ⟨ver,c⟩):=λk hk=>by
 have:=h k hk;simp only[St.setR,upd];by_cases e:k=id
 ·subst e;simp only[Qy];exact⟨this.1,(he hk).trans this.2⟩
 ·simp only[e,Qr];exact this
theorem eR{x:Nat⊕Nat}(h:own G s x=[]) (hl:∀x b,b∈own G s' x->b∈own G s x):own G s' x=[]:=
 List.eq_nil_iff_forall_not_mem.2 λb hb=>by have:=hl x b hb;rw[h]at this;cases this
theorem oE:∀{ids:List (Nat⊕Nat)}{s:St}{K:List Upd->Prop},(sj ids).wp s0 K->Mem W0 M G s w->P1 0 s0 s->∃us,K us/\Mem W0 M G (s.app us) w/\Ext G s w G (s.app us) w/\P1 0 s0 (s.app us)/\OS G s (s.app us) ids
 |[],s,K,hq,hm,hv=>⟨[],hq,hm,Ext.refl _ _ _,hv,⟨rfl,rfl,by simp,λx b h=>h,λ_ _=>rfl,λ_ _=>rfl⟩⟩
 |.inl id::ids,s,K,hq,hm,hv=>by
  simp only[sj,Q.wp]at hq;rw[Q.wp_bind]at hq;have hver:(s0.b id).ver=(s.b id).ver:=((hv id (QE _)).1).symm;obtain⟨m1,x1⟩:=hm.dropBox id;obtain⟨us,hK,m2,x2,v2,d2⟩:=oE hq m1 (hv.setB (λ_=>rfl));have hless:∀x b,b∈own G (s.setB id ⟨(s.b id).ver,none⟩) x->b∈own G s x:=λx b hx=>by
   by_cases e:x= .inl id
   ·subst e;simp[own,St.setB,upd]at hx
   ·rw[lu x id _ e]at hx;exact hx
  refine⟨_,hK,?_⟩;simp only[St.app,St.app1];rw[hver];refine⟨m2,x1.trans x2,v2,⟨d2.n_,d2.t,λx hx=>?_,λx b hx=>hless x b (d2.less x b hx),λk hk=>?_,λk hk=>?_⟩⟩
  ·rcases List.mem_cons.1 hx with rfl|hx
   ·refine eR ?_ d2.less;simp[own,St.setB,upd]
   ·exact d2.gone x hx
  ·rw[d2.b k (λh=>hk (Qc _ h))];have:k≠id:=λe=>hk (by simp[e]);simp[St.setB,upd,this]
  ·rw[d2.r k (λh=>hk (Qc _ h))];rfl
 |.inr id::ids,s,K,hq,hm,hv=>by
  simp only[sj,Q.wp]at hq;rw[Q.wp_bind]at hq;have hver:(s0.r id).ver=(s.r id).ver:=((hv id (QE _)).2).symm;obtain⟨m1,x1⟩:=hm.dropRow id;obtain⟨us,hK,m2,x2,v2,d2⟩:=oE hq m1 (hv.setR (λ_=>rfl));have hless:∀x b,b∈own G (s.setR id ⟨(s.r id).ver,none⟩) x->b∈own G s x:=λx b hx=>by
   by_cases e:x= .inr id
   ·subst e;simp[own,St.setR,upd]at hx
   ·rw[so x id _ e]at hx;exact hx
  refine⟨_,hK,?_⟩;simp only[St.app,St.app1];rw[hver];refine⟨m2,x1.trans x2,v2,⟨d2.n_,d2.t,λx hx=>?_,λx b hx=>hless x b (d2.less x b hx),λk hk=>?_,λk hk=>?_⟩⟩
  ·rcases List.mem_cons.1 hx with rfl|hx
   ·refine eR ?_ d2.less;simp[own,St.setR,upd]
   ·exact d2.gone x hx
  ·rw[d2.b k (λh=>hk (Qc _ h))];rfl
  ·rw[d2.r k (λh=>hk (Qc _ h))];have:k≠id:=λe=>hk (by simp[e]);simp[St.setR,upd,this]
theorem Ge{cur:List Value}(h:∀u∈cur,u.oneCell'=true):∀{α:Type}{cs:List α},cs.length=cur.length->ACs G s w (cs.map λ_=>.junk) cur:=by
 intro α cs
 induction cur generalizing cs with
 |nil=>intro hl;cases cs with
  |nil=>simp[ACs]
  |cons c cs=>simp at hl
 |cons v vs ih=>intro hl;cases cs with
  |nil=>simp at hl
  |cons c cs=>
   simp only[PQ,ACs,ACr];exact⟨v,vs,rfl,h v (by simp),ih (λu hu=>h u (by simp[hu])) (by simpa using hl)⟩
theorem SEs.keptF{F:Nat->Prop}(fr:Fr w F w'){tp:TypeId}:∀{cs:List (List DV)}{ms:List MapEntry}{xs:List Nat},SEs w tp cs ms xs->(∀b∈xs,¬F b)->SEs w' tp cs ms xs
 |[],_,_,h,_=>h
 |c::cs,ms,xs,h,hne=>by
  simp only[SEs]at h⊢;obtain⟨m,r,x,y,k,ps,vs,rfl,rfl,h1,h2,h3,h4,h5,h6,h7⟩:=h;refine⟨m,r,x,y,k,ps,vs,rfl,rfl,h1,h2,h3,⟨h4.1,?_⟩,h5,D2.mono (λ_ _ h=>h) (λ_ _ h=>h.elim) _ h6,h7.keptF fr λb hb=>hne b (by simp[hb])⟩;rcases h4.2 with h8|⟨g,cap,cur,hv,h9,hg,h10⟩
  ·exact .inl h8
  ·refine .inr ⟨g,cap,cur,hv,h9,?_,h10⟩;rw[hv]at h3;injection h3 with h3;rw[fr.block g (Array.getElem?_eq_some_iff.1 hg).1 (hne g (by simp only at h3;simp[h3]))];exact hg
theorem cO.keptF{F:Nat->Prop}(fr:Fr w F w'){v:Value}{ex:List Nat}{R:Row}(h:cO w v ex R) (hne:∀b,obk v=some b\/b∈ex->¬F b):cO w' v ex R:=by
 obtain⟨g,es,c,rfl,h1,h2,h3,h4⟩:=h;exact⟨g,es,c,rfl,(fr.block g (Array.getElem?_eq_some_iff.1 h1).1 (hne g (.inl rfl))).trans h1,h2,h3,h4.keptF fr λb hb=>hne b (.inr hb)⟩
theorem Mem.call(h:Mem W0 M G s w){F:List Nat}{I':Nat->Nat->Prop}{tops:List (Nat⊕Nat)}(hr:∀id,.inr id∉tops->s'.r id=s.r id) (hb:∀id,.inl id∉tops->s'.b id=s.b id)
  (htr:∀id,.inr id∈tops->(s.r id).c.isSome=true/\(s'.r id).ver=(s.r id).ver/\(∃R',(s'.r id).c=some R'/\M4 I' w' (G.rw id) R'/\R'.e<Q7)/\(∀g o,obk (G.rw id)=some g->¬I' g o)/\∃R,(s.r id).c=some R/\R.e<Q7)
  (ht:∀id,.inl id∈tops->(s.b id).c.isSome=true/\(s'.b id).ver=(s.b id).ver/\(∃(n:Nat) (cs:List AC) (cur:Array Value) (ty:TypeId),(s'.b id).c=some cs/\w'.heap[G.bx id]?=some (.cells cur ty (0,0))/\cs=(List.replicate n ()).map (λ_=>.junk)/\n=cur.toList.length/\∀u∈cur.toList,u.oneCell'=true)/\∀o,¬I' (G.bx id) o)
  (hF:∀x b,b∈own G s x->b∈F->x∈tops) (hFM:∀b∈F,W0.heap.size<=b\/M b)
  (fr:Fr w (· ∈ F) w') (sub:∀b o,G.I b o->I' b o) (keep:U9 G.I w w') (new:∀b o,I' b o->G.I b o\/b∈F\/w.heap.size<=b) (lt:∀b o,I' b o->b<w'.heap.size) (odd:∀b o,I' b o->o%2=1->G.I b o) (soft:∀b o,I' b o->o%2=0->¬G.I b o->w'.frozen? ⟨b,o / 2,none⟩=false) :
  Mem W0 M ⟨I',G.bx,G.rw,G.st,G.ex⟩ s' w'/\Ext G s w ⟨I',G.bx,G.rw,G.st,G.ex⟩ s' w':=by
 have hs:∀id,(s'.b id).c.isSome=(s.b id).c.isSome/\(s'.b id).ver=(s.b id).ver:=λid=>by
  by_cases e: .inl id∈tops
  ·obtain⟨h1,h2,⟨n,cs,cur,ty,h3,_⟩,_⟩:=ht id e;exact⟨by rw[h1,h3];rfl,h2⟩
  ·rw[hb id e];exact⟨rfl,rfl⟩
 have hsr:∀id,(s'.r id).c.isSome=(s.r id).c.isSome/\(s'.r id).ver=(s.r id).ver:=λid=>by
  by_cases e: .inr id∈tops
  ·obtain⟨h1,h2,⟨R',h3,_⟩,_⟩:=htr id e;exact⟨by rw[h1,h3];rfl,h2⟩
  ·rw[hr id e];exact⟨rfl,rfl⟩
 have E:Ext G s w ⟨I',G.bx,G.rw,G.st,G.ex⟩ s' w':=
  ⟨sub,keep,λk=>⟨Nat.le_of_eq (hs k).2.symm,λ_ h1=>⟨by rw[<-(hs k).1];exact h1,rfl⟩⟩,λk=>⟨Nat.le_of_eq (hsr k).2.symm,λ_ h1=>⟨by rw[<-(hsr k).1];exact h1,rfl⟩⟩,λ_ _=>rfl⟩
 have ho:∀x,own ⟨I',G.bx,G.rw,G.st,G.ex⟩ s' x=own G s x:=by
  intro x;rcases x with k|k
  ·simp only[own,(hs k).1]
  ·by_cases e: .inr k∈tops
   ·obtain⟨_,_,⟨R',h3,_,h5⟩,_,R,h6,h7⟩:=htr k e;simp only[own,h3,h6,D3 h5,D3 h7]
   ·simp only[own,hr k e]
 refine⟨⟨λk c hc=>?_,λk R hc=>?_,λx y b hx hy=>h.dj x y b (by rw[ho]at hx;exact hx) (by rw[ho]at hy;exact hy),λk hc o hi=>?_,λk R g hc hg o hi=>?_,λx b hx=>h.oM x b (by rw[ho]at hx;exact hx),lt,?_,⟨λb o hi=>sub b o (h.ii.1 b o hi),λb o hi=>?_⟩,⟨h.gl.1.mono E.I E.keep,λb o hi h0 hn=>by
  by_cases hg:G.I b o
  ·exact(keep b o hg).2.trans (h.gl.2 b o hg h0 hn)
  ·exact soft b o hi h0 hg⟩,λk R hc hp=>by
  by_cases e: .inr k∈tops
  ·obtain⟨_,_,⟨R',h3,_,h5⟩,_⟩:=htr k e;rw[h3]at hc;injection hc with hc;subst hc;exact absurd (SA h5 (by decide)) (Nat.not_lt.2 hp)
  ·rw[hr k e]at hc;obtain⟨g,es,cl,i,m,k1,k2,k3⟩:=h.pe k R hc hp;refine⟨g,es,cl,i,m,k1,(fr.block g (Array.getElem?_eq_some_iff.1 k2).1 (λhm=>e (hF (.inr k) g (by simp[own,hc,k1,obk]) hm))).trans k2,k3⟩,λk R hc hp=>by
  by_cases e: .inr k∈tops
  ·obtain⟨_,_,⟨R',h3,_,h5⟩,_⟩:=htr k e;rw[h3]at hc;injection hc with hc;subst hc;exact absurd hp (D3 h5)
  ·rw[hr k e]at hc;obtain⟨q1,q2⟩:=h.sx k R hc hp;have hnF:∀b,obk (G.rw k)=some b\/b∈G.ex k->b∉F:=λb hb hm=>e (hF (.inr k) b (by
    rcases hb with hb|hb
    ·exact bO hc hb
    ·exact gt hc hp hb) hm)
   refine⟨q1.keptF (F:=(· ∈ F)) fr hnF,λb hb o hi=>?_⟩;rcases new _ _ hi with h1|h1|h1
   ·exact q2 b hb o h1
   ·exact hnF b (.inr hb) h1
   ·exact absurd (q1.lt hb) (Nat.not_lt.2 h1)⟩,E⟩
 ·by_cases e: .inl k∈tops
  ·obtain⟨_,_,⟨n,cs,cur,ty,h3,h4,h5,h6,h7⟩,_⟩:=ht k e;rw[h3]at hc;injection hc with hc;subst hc;refine⟨cur,ty,h4,?_⟩;rw[h5];exact Ge h7 (by simpa using h6)
  ·rw[hb k e]at hc;obtain⟨cur,ty,h1,h2⟩:=h.bx k c hc;have hlt:=(Array.getElem?_eq_some_iff.1 h1).1;refine⟨cur,ty,(fr.block _ hlt (λhm=>?_)).trans h1,E.acs h2⟩;exact e (hF (.inl k) (G.bx k) (mZ (by rw[hc];rfl)) hm)
 ·by_cases e: .inr k∈tops
  ·obtain⟨_,_,⟨R',h3,h4,_⟩,_⟩:=htr k e;rw[h3]at hc;injection hc with hc;subst hc;exact h4
  rw[hr k e]at hc;obtain⟨h1,h2,⟨h0,xs,h3,h4⟩|⟨h0,g,ms,ck,hv,hg,h4,h5⟩|⟨h0,g,str,pos,hv,hg,h4⟩|⟨h0,g,hv,hg⟩⟩:=h.rw k R hc
  rotate_right
  ·exact⟨h1,h2,.inr (.inr (.inr ⟨h0,g,hv,Qi hg fr.size⟩))⟩
  rotate_left
  ·have hown:g∈own G s (.inr k):=by simp[own,hc,hv,obk]
   refine⟨h1,h2,.inr (.inl ⟨h0,g,ms,ck,hv,?_,h4.mono sub keep,h5⟩)⟩;rw[fr.block g (h.ownlt hown) (λhm=>?_)]
   ·exact hg
   ·exact e (hF _ _ hown hm)
  ·have hown:g∈own G s (.inr k):=by simp[own,hc,hv,obk]
   refine⟨h1,h2,.inr (.inr (.inl ⟨h0,g,str,pos,hv,?_,h4⟩))⟩;rw[fr.block g (h.ownlt hown) (λhm=>?_)]
   ·exact hg
   ·exact e (hF _ _ hown hm)
  refine⟨h1,h2,.inl ⟨h0,xs,⟨h3.1,?_⟩,D2.mono sub keep _ h4⟩⟩;rcases h3.2 with h5|⟨g,cap,cur,hv,h6,hg,h7⟩
  ·exact .inl h5
  ·refine .inr ⟨g,cap,cur,hv,h6,?_,h7⟩;have hown:g∈own G s (.inr k):=by simp[own,hc,hv,obk]
   rw[fr.block g (h.ownlt hown) (λhm=>?_)]
   ·exact hg
   ·exact e (hF _ _ hown hm)
 ·have hc':(s.b k).c.isSome=true:=by rw[<-(hs k).1];exact hc
  have hown:(G.bx k)∈own G s (.inl k):=by simp[own,hc']
  rcases new _ _ hi with h1|h1|h1
  ·exact h.bI k hc' o h1
  ·exact(ht k (hF _ _ hown h1)).2.2.2 o hi
  ·exact absurd h1 (Nat.not_le.2 (h.ownlt hown))
 ·by_cases e: .inr k∈tops
  ·exact((htr k e).2.2.2.1 g o hg hi).elim
  rw[hr k e]at hc;have hown:g∈own G s (.inr k):=bO hc hg;rcases new _ _ hi with h1|h1|h1
  ·exact h.rI k R g hc hg o h1
  ·exact(e (hF _ _ hown h1)).elim
  ·have:=h.ownlt hown;omega
 ·exact⟨fr.os.trans h.fr.os,fr.tape.trans h.fr.tape,fr.output.trans h.fr.output,Qt h.fr.size fr.size,λk hk hm=>(fr.block k (Qi hk h.fr.size) (λhF'=>by
   rcases hFM k hF' with h1|h1
   ·omega
   ·exact hm h1)).trans (h.fr.block k hk hm)⟩
 ·rcases new b o hi with h1|h1|h1
  ·exact h.ii.2 b o h1
  ·rcases hFM b h1 with h2|h2
   ·exact⟨.inr (.inr h2),λh0=>(h.ii.2 b o (odd b o hi h0)).2 h0⟩
   ·exact⟨.inr (.inl h2),λh0=>(h.ii.2 b o (odd b o hi h0)).2 h0⟩
  ·exact⟨.inr (.inr (Qt h.fr.size h1)),λh0=>(h.ii.2 b o (odd b o hi h0)).2 h0⟩
end
theorem OCs.len{I:Nat->Nat->Prop}{w:World}:∀{cs:List OC}{vs:List Value}{F:List Nat},OCs I w cs vs F->cs.length=vs.length
 |[],vs,F,h=>by simp only[OCs]at h;rw[h.1];rfl
 |c::cs,vs,F,h=>by
  simp only[OCs]at h;obtain⟨x,r,F1,F2,rfl,_,h2,_⟩:=h;simp[OCs.len h2]
theorem OCs.one{I:Nat->Nat->Prop}{w:World}:∀{cs:List OC}{vs:List Value}{F:List Nat},OCs I w cs vs F->∀u∈vs,u.oneCell'=true
 |[],vs,F,h,u,hu=>by simp only[OCs]at h;rw[h.1]at hu;simp at hu
 |c::cs,vs,F,h,u,hu=>by
  simp only[OCs]at h;obtain⟨x,r,F1,F2,rfl,h1,h2,_⟩:=h;rcases List.mem_cons.1 hu with rfl|hu
  ·exact h1.one
  ·exact OCs.one h2 u hu
theorem dE{G:Gh}:∀{xs:List OA}{vs:List Value}{ts:List (Nat⊕Nat)},ff G xs vs ts->D4 xs vs=ts.map (ao G)
 |[],_,ts,h=>by simp only[ff]at h;subst h;simp[D4]
 |.bx cs::xs,vs,ts,h=>by
  simp only[ff]at h;obtain⟨v,r,t,tr,rfl,rfl,rfl,h⟩:=h;simp only[D4,PQ,dE h]
 |.rx _ _ _::xs,vs,ts,h=>by
  simp only[ff]at h;obtain⟨v,r,t,tr,rfl,rfl,rfl,h⟩:=h;simp only[D4,PQ,dE h]
 |.c x::xs,vs,ts,h=>by
  simp only[ff]at h;obtain⟨v,r,rfl,h⟩:=h;simp only[D4,dE h]
 |.agg x::xs,vs,ts,h=>by
  simp only[ff]at h;obtain⟨v,r,rfl,h⟩:=h;simp only[D4,dE h]
def iD(G:Gh):Nat⊕Nat->Option Nat
 |.inl t=>some (G.bx t)
 |.inr t=>obk (G.rw t)
def gy:List (Nat⊕Nat)->List OA->Prop
 |[],[]=>True
 |.inl _::ids,.bx _::css=>gy ids css
 |.inr _::ids,.rx _ e _::css=>e<Q7/\gy ids css
 |_,_=>False
theorem fG{G:Gh}{s:St}{x:Nat⊕Nat}{b:Nat}(h:b∈own G s x) (hx:IR s x):iD G x=some b:=by
 rcases x with k|k
 ·rw[(nY.1 h).2];rfl
 ·obtain⟨R,h1,h2⟩:=fb.1 h;obtain⟨R',h3,h4⟩:=hx;rw[h1]at h3;injection h3 with h3;subst h3;rcases h2 with h2|⟨h2,_⟩
  ·exact h2
  ·exact absurd h2 (D3 h4)
theorem lv{s:St}:∀{tops:List (Nat⊕Nat)}{css:List OA}{K:List Upd->Prop},(mL tops css).wp s K->gy tops css
 |[],[],_,_=>trivial
 |.inl id::ids,.bx cs::css,K,h=>by
  simp only[mL,Q.wp]at h;rw[Q.wp_bind]at h;show gy ids css;exact lv h
 |.inr id::ids,.rx _ _ _::css,K,h=>by
  simp only[mL,Q.wp]at h;have h':=h.2;rw[Q.wp_bind]at h';exact⟨h.1,lv h'⟩
 |[],_::_,_,h=>h.elim
 |.inl _::_,[],_,h=>h.elim
 |.inl _::_,.c _::_,_,h=>h.elim
 |.inl _::_,.agg _::_,_,h=>h.elim
 |.inl _::_,.rx _ _ _::_,_,h=>h.elim
 |.inr _::_,[],_,h=>h.elim
 |.inr _::_,.c _::_,_,h=>h.elim
 |.inr _::_,.agg _::_,_,h=>h.elim
 |.inr _::_,.bx _::_,_,h=>h.elim
section
variable {W0:World}{M:Own}{G:Gh}{s s' s0:St}{w w':World}
theorem lw{I:Nat->Nat->Prop}{cs:List OC}{css:List OA}{id:Nat}{ids:List (Nat⊕Nat)}{F:List Nat}(h:OAs I w (.bx cs::css) ((.inl id::ids).map (ao G)) F) :
  ∃cur ty Fs F2,w.heap[G.bx id]?=some (.cells cur ty (0,0))/\OCs I w cs cur.toList Fs/\(∀o,¬I (G.bx id) o)/\F=(G.bx id::Fs)++F2/\OAs I w css (ids.map (ao G)) F2:=by
 simp only[PQ,OAs,OAr,OCr]at h;obtain⟨x,r,F1,F2,e,⟨g,cur,ty,Fs,e2,h1,h2,rfl,h3⟩,h4,rfl⟩:=h;injection e with e1 e3;subst e1;subst e3;simp only[ao]at e2;injection e2 with e2;injection e2 with e2;injection e2 with e2 _ _;subst e2;exact⟨cur,ty,Fs,F2,h1,h2,h3,rfl,h4⟩
theorem gI{I:Nat->Nat->Prop}{sz:Nat}{e:TypeId}{es:List (List DV)}{css:List OA}{id:Nat}{ids:List (Nat⊕Nat)}{F:List Nat}(h:OAs I w (.rx sz e es::css) ((.inr id::ids).map (ao G)) F) (he:e<Q7) :
  ∃F2,M4 I w (G.rw id) ⟨es,sz,e,false⟩/\(∀g o,obk (G.rw id)=some g->¬I g o)/\F=(obk (G.rw id)).toList++F2/\OAs I w css (ids.map (ao G)) F2:=by
 simp only[PQ,OAs,OAr,OCr]at h;obtain⟨x,r,F1,F2,e,⟨ex,h1,rfl,h2,_⟩,h4,rfl⟩:=h;injection e with e1 e3;subst e1;subst e3;exact⟨F2,h1,h2,by simp[D3 he,ao],h4⟩
theorem fH{I:Nat->Nat->Prop}:∀{ids:List (Nat⊕Nat)}{css:List OA}{F:List Nat},gy ids css->OAs I w css (ids.map (ao G)) F->∀t∈ids,∀b,iD G t=some b->b∈F
 |[],_,_,_,_,t,ht,_,_=>by simp at ht
 |.inl id::ids,.bx cs::css,F,hf,h,t,ht,b,hb=>by
  obtain⟨cur,ty,Fs,F2,_,_,_,rfl,h4⟩:=lw h;rcases List.mem_cons.1 ht with rfl|ht
  ·simp only[iD,Option.some.injEq]at hb;simp[hb]
  ·have hf':gy ids css:=hf;have:=fH hf' h4 t ht b hb;simp[this]
 |.inr id::ids,.rx _ _ _::css,F,hf,h,t,ht,b,hb=>by
  obtain⟨F2,_,_,rfl,h4⟩:=gI h hf.1;rcases List.mem_cons.1 ht with rfl|ht
  ·simp only[iD]at hb;simp[hb]
  ·have hf':gy ids css:=hf.2;have:=fH hf' h4 t ht b hb;simp[this]
 |.inl _::_,[],_,hf,_,_,_,_,_=>hf.elim
 |.inl _::_,.c _::_,_,hf,_,_,_,_,_=>hf.elim
 |.inl _::_,.agg _::_,_,hf,_,_,_,_,_=>hf.elim
 |.inl _::_,.rx _ _ _::_,_,hf,_,_,_,_,_=>hf.elim
 |.inr _::_,[],_,hf,_,_,_,_,_=>hf.elim
 |.inr _::_,.c _::_,_,hf,_,_,_,_,_=>hf.elim
 |.inr _::_,.agg _::_,_,hf,_,_,_,_,_=>hf.elim
 |.inr _::_,.bx _::_,_,hf,_,_,_,_,_=>hf.elim
def IV(I:Nat->Nat->Prop) (G:Gh) (w:World) (s s':St) (id:Nat):Prop:=(s'.b id).ver=(s.b id).ver/\(∃(n:Nat) (cs:List AC) (cur:Array Value) (ty:TypeId),(s'.b id).c=some cs/\w.heap[G.bx id]?=some (.cells cur ty (0,0))/\cs=(List.replicate n ()).map (λ_=>.junk)/\n=cur.toList.length/\∀u∈cur.toList,u.oneCell'=true)/\∀o,¬I (G.bx id) o
def IW(I:Nat->Nat->Prop) (G:Gh) (w:World) (s s':St) (id:Nat):Prop:=(s'.r id).ver=(s.r id).ver/\(∃R',(s'.r id).c=some R'/\M4 I w (G.rw id) R'/\R'.e<Q7)/\∀g o,obk (G.rw id)=some g->¬I g o
structure OU (I:Nat->Nat->Prop) (G:Gh) (w:World) (s0 s s':St) (tops:List (Nat⊕Nat)):Prop where
 n_:s'.n=s.n
 t:s'.t=s.t
 ver:P1 0 s0 s'
 b:∀id,Sum.inl id∉tops->s'.b id=s.b id
 r:∀id,Sum.inr id∉tops->s'.r id=s.r id
 tb:∀id,Sum.inl id∈tops->IV I G w s s' id
 tr:∀id,Sum.inr id∈tops->IW I G w s s' id
theorem oF{I:Nat->Nat->Prop}:∀{tops:List (Nat⊕Nat)}{css:List OA}{s:St}{F:List Nat}{K:List Upd->Prop},(mL tops css).wp s0 K->P1 0 s0 s->tops.Nodup->OAs I w css (tops.map (ao G)) F->
  ∃us,K us/\OU I G w s0 s (s.app us) tops
 |[],[],s,F,K,hq,hv,_,h=>⟨[],hq,rfl,rfl,hv,λ_ _=>rfl,λ_ _=>rfl,by simp,by simp⟩
 |.inl id::ids,.bx cs::css,s,F,K,hq,hv,hn,h=>by
   simp only[mL,Q.wp]at hq;rw[Q.wp_bind]at hq;obtain⟨cur,ty,Fs,F2,h1,h2,h3,rfl,h4⟩:=lw h;rw[Qz]at hn;have hver:(s0.b id).ver=(s.b id).ver:=((hv id (QE _)).1).symm;obtain⟨us,hK,k⟩:=oF (s:=s.setB id ⟨(s0.b id).ver,some (cs.map λ_=>.junk)⟩) hq (hv.setB (λ_=>hver)) hn.2 h4;refine⟨_,hK,k.n_,k.t,k.ver,λj hj=>?_,λj hj=>?_,λj hj=>?_,λj hj=>?_⟩
   ·simp only[St.app,St.app1];rw[k.b j (λh=>hj (Qc _ h))];have:j≠id:=λe=>hj (by simp[e]);simp[St.setB,upd,this]
   ·simp only[St.app,St.app1];rw[k.r j (λh=>hj (Qc _ h))];rfl
   ·simp only[St.app,St.app1];by_cases e:j=id
    ·subst e;unfold IV;rw[k.b j hn.1];simp only[St.setB,upd,Qy];refine⟨hver,⟨cs.length,_,cur,ty,rfl,h1,?_,OCs.len h2,OCs.one h2⟩,h3⟩;rw[List.map_const',List.map_const',QL]
    ·have hj':Sum.inl j∈ids:=by
      rcases List.mem_cons.1 hj with h|h
      ·injection h with h;exact(e h).elim
      ·exact h
     obtain⟨a1,a2,a3⟩:=k.tb j hj';refine⟨a1.trans ?_,a2,a3⟩;simp[St.setB,upd,e]
   ·simp only[St.app,St.app1];have hj':Sum.inr j∈ids:=by
     rcases List.mem_cons.1 hj with h|h
     ·cases h
     ·exact h
    obtain⟨a1,a2,a3⟩:=k.tr j hj';exact⟨a1.trans rfl,a2,a3⟩
 |.inr id::ids,.rx sz e es::css,s,F,K,hq,hv,hn,h=>by
   simp only[mL,Q.wp]at hq;obtain⟨hpf,hq⟩:=hq;rw[Q.wp_bind]at hq;obtain⟨F2,h1,h2,rfl,h4⟩:=gI h hpf;rw[Qz]at hn;have hver:(s0.r id).ver=(s.r id).ver:=((hv id (QE _)).2).symm;obtain⟨us,hK,k⟩:=oF (s:=s.setR id ⟨(s0.r id).ver,some ⟨es,sz,e,false⟩⟩) hq (hv.setR (λ_=>hver)) hn.2 h4;refine⟨_,hK,k.n_,k.t,k.ver,λj hj=>?_,λj hj=>?_,λj hj=>?_,λj hj=>?_⟩
   ·simp only[St.app,St.app1];rw[k.b j (λh=>hj (Qc _ h))];rfl
   ·simp only[St.app,St.app1];rw[k.r j (λh=>hj (Qc _ h))];have:j≠id:=λe=>hj (by simp[e]);simp[St.setR,upd,this]
   ·simp only[St.app,St.app1];have hj':Sum.inl j∈ids:=by
     rcases List.mem_cons.1 hj with h|h
     ·cases h
     ·exact h
    obtain⟨a1,a2,a3⟩:=k.tb j hj';exact⟨a1.trans rfl,a2,a3⟩
   ·simp only[St.app,St.app1];by_cases e:j=id
    ·subst e;unfold IW;rw[k.r j hn.1];simp only[St.setR,upd,Qy];exact⟨hver,⟨_,rfl,h1,hpf⟩,h2⟩
    ·have hj':Sum.inr j∈ids:=by
      rcases List.mem_cons.1 hj with h|h
      ·injection h with h;exact(e h).elim
      ·exact h
     obtain⟨a1,a2,a3⟩:=k.tr j hj';refine⟨a1.trans ?_,a2,a3⟩;simp[St.setR,upd,e]
 |[],_::_,_,_,_,hq,_,_,_=>hq.elim
 |.inl _::_,[],_,_,_,hq,_,_,_=>hq.elim
 |.inl _::_,.c _::_,_,_,_,hq,_,_,_=>hq.elim
 |.inl _::_,.agg _::_,_,_,_,hq,_,_,_=>hq.elim
 |.inl _::_,.rx _ _ _::_,_,_,_,hq,_,_,_=>hq.elim
 |.inr _::_,[],_,_,_,hq,_,_,_=>hq.elim
 |.inr _::_,.c _::_,_,_,_,hq,_,_,_=>hq.elim
 |.inr _::_,.agg _::_,_,_,_,hq,_,_,_=>hq.elim
 |.inr _::_,.bx _::_,_,_,_,hq,_,_,_=>hq.elim
def LS(W0:World) (M:Own) (G:Gh) (s:St) (F:List Nat) (tops:List (Nat⊕Nat)):Prop:=∀b∈F,(∀x,b∈own G s x->x∈tops)/\(W0.heap.size<=b\/M b)
theorem wI(w:World) (x:Option Nat):w.grownBy w x:=⟨rfl,rfl,rfl,PW _,λ_ _ _=>rfl⟩
theorem CI{id:Nat}{ver:Nat}{cs:List AC}(h:(s.b id).c.isSome=true) (x:Nat⊕Nat):own G (s.setB id ⟨ver,some cs⟩) x=own G s x:=by
 by_cases e:x= .inl id
 ·subst e;simp[own,St.setB,upd,h]
 ·exact lu x id _ e
def lx(s0 s:St):Nat⊕Nat->Prop
 |.inl id=>(s.b id).ver=(s0.b id).ver/\(s.b id).c.isSome=true
 |.inr id=>∃R,(s.r id).c=some R/\R.e<Q7
theorem lx.rx{s0 s:St}{x:Nat⊕Nat}(h:lx s0 s x):IR s x:=by
 cases x with
 |inl _=>trivial
 |inr _=>exact h
theorem oG:∀{tops:List (Nat⊕Nat)}{css:List OA}{n:Nat}{s:St}{G:Gh}{F:List Nat}{K:Mps->Prop},(sk n tops css).wp s0 K->gy tops css->Mem W0 M G s w->(∀x∈tops,lx s0 s x)->P1 n s0 s->OAs G.I w css (tops.map (ao G)) F->tops.Nodup->F.Nodup->LS W0 M G s F tops->
  ∃p G',K p/\Mem W0 M G' (s.app p.us) w/\Ext G s w G' (s.app p.us) w/\G'.I=G.I/\P1 p.m s0 (s.app p.us)/\(∀x b,b∈own G' (s.app p.us) x->b∈own G s x\/b∈F)/\(s.app p.us).n=s.n/\(s.app p.us).t=s.t
 |[],[],n,s,G,F,K,hq,_,hm,hT,hv,h,_,_,_=>⟨_,G,hq,hm,Ext.refl _ _ _,rfl,hv,λx b h=>.inl h,rfl,rfl⟩
 |.inr id::ids,.rx sz e es::css,n,s,G,F,K,hq,hf,hm,hT,hv,h,hn,hF,hTF=>by
   obtain⟨F2,h1,h2,rfl,h4⟩:=gI h hf.1;rw[Qz]at hn;rw[QP]at hF;obtain⟨hF1,hF2,hF3⟩:=hF;obtain⟨p,G',hK,q1,q2,q3,q4,q5,q6,q7⟩:=oG (tops:=ids) (css:=css) (show(sk n ids css).wp s0 K from hq) (show gy ids css from hf.2) hm (λx hx=>hT x (by simp[hx])) hv h4 hn.2 hF2 (λb hb=>by
    refine⟨λx hx=>?_,(hTF b (by simp[hb])).2⟩;rcases List.mem_cons.1 ((hTF b (by simp[hb])).1 x hx)with e|e
    ·subst e;have:=fG hx (hT _ (by simp)).rx;simp only[iD]at this;exact(hF3 b (by simp[this]) b hb rfl).elim
    ·exact e)
   exact⟨p,G',hK,q1,q2,q3,q4,λx b hx=>(q5 x b hx).imp (λh=>h) (λh=>by simp[h]),q6,q7⟩
 |.inl id::ids,.bx cs::css,n,s,G,F,K,hq,hf,hm,hT,hv,h,hn,hF,hTF=>by
   simp only[sk]at hq;rw[Q.wp_bind]at hq;obtain⟨cur,ty,Fs,F2,h1,h2,h3,rfl,h4⟩:=lw h;rw[Qz]at hn;rw[QP]at hF;obtain⟨hF1,hF2,hF3⟩:=hF;rw[Qz]at hF1;have hf':gy ids css:=hf;have hheads:=fH hf' h4;have hfree:xQ W0 M G s Fs:=λb hb=>by
    refine⟨λx hx=>?_,(hTF b (by simp[hb])).2⟩;have ht:=(hTF b (by simp[hb])).1 x hx;have hbt:=fG hx (hT x ht).rx;rcases List.mem_cons.1 ht with rfl|ht
    ·simp only[iD,Option.some.injEq]at hbt;exact hF1.1 (hbt▸hb)
    ·exact hF3 b (by simp[hb]) b (hheads x ht b hbt) rfl
   obtain⟨k,G1,hq1,j1,j2⟩:=oC cs hq hm h2 hF1.2 hfree hv;clear hq;obtain⟨hreq,hq⟩:=hq1;simp only[Q.wp]at hq;rw[Q.wp_bind]at hq;have hold:∀j∈Sum.inl id::ids,(s.app k.us).b (tid j)=s.b (tid j)/\G1.bx (tid j)=G.bx (tid j)/\(s.app k.us).r (tid j)=s.r (tid j)/\G1.rw (tid j)=G.rw (tid j):=λj hj=>by
    obtain⟨a1,a2,a3,a4,_⟩:=j1.old (tid j) (hreq j hj);exact⟨a1,a3,a2,a4⟩
   obtain⟨hb1,hg1,_,_⟩:=hold (.inl id) (by simp);simp only[tid]at hb1 hg1;have hT0:=hT (.inl id) (by simp);simp only[lx]at hT0;have hlive:((s.app k.us).b id).c.isSome=true:=by rw[hb1];exact hT0.2
   obtain⟨cs0,hcs0⟩:=Option.isSome_iff_exists.1 hlive;have hver:((s.app k.us).b id).ver=(s0.b id).ver:=by rw[hb1];exact hT0.1
   obtain⟨m2,e2⟩:=j1.mem.setBox hcs0 (wI w _) (by rw[hg1];exact h1) j2;rw[hver]at m2 e2;have hmap:ids.map (ao G1)=ids.map (ao G):=Rh λj hj=>by
    obtain⟨_,a2,_,a4⟩:=hold j (by simp[hj]);cases j <;> simp only[ao,tid]at a2 a4⊢
    ·rw[a2]
    ·exact a4
   have hown2:∀x,own G1 ((s.app k.us).setB id ⟨(s0.b id).ver,some k.acs⟩) x=own G1 (s.app k.us) x:=CI hlive;obtain⟨p,G',hK,q1,q2,q3,q4,q5,q6,q7⟩:=oG hq hf' m2 (λj hj=>by
    have hjT:=hT j (by simp[hj]);cases j with
    |inr j=>
     obtain⟨R,h8,h9⟩:=hjT;refine⟨R,?_,h9⟩;have:=(hold (.inr j) (by simp[hj])).2.2.1;simp only[tid]at this;show((s.app k.us).r j).c=some R;rw[this];exact h8
    |inl j=>
     have hne:j≠id:=λe=>hn.1 (e▸hj);simp only[lx,St.setB,upd,hne,Qr]at hjT⊢;have:=(hold (.inl j) (by simp[hj])).1;simp only[tid]at this;rw[this];exact hjT) (j1.ver.setB (λ_=>hver.symm)) (by rw[hmap,j1.I];exact h4) hn.2 hF2 (λb hb=>by
    refine⟨λx hx=>?_,(hTF b (by simp[hb])).2⟩;rw[hown2]at hx;rcases j1.own x b hx with h5|h5
    ·rcases List.mem_cons.1 ((hTF b (by simp[hb])).1 x h5)with ht|ht
     ·exfalso;subst ht;have:=fG h5 (hT _ (by simp)).rx;simp only[iD,Option.some.injEq]at this;exact hF3 b (by simp[this]) b hb rfl
     ·exact ht
    ·exact(hF3 b (by simp[h5]) b hb rfl).elim)
   refine⟨_,G',hK,?_,?_,q3.trans j1.I,?_,λx b hx=>?_,?_,?_⟩
   ·rw[St.app_append];exact q1
   ·rw[St.app_append];exact(j1.ext.trans e2).trans q2
   ·rw[St.app_append];exact q4
   ·rw[St.app_append]at hx;rcases q5 x b hx with h5|h5
    ·rw[hown2]at h5;rcases j1.own x b h5 with h6|h6
     ·exact .inl h6
     ·exact .inr (by simp[h6])
    ·exact .inr (by simp[h5])
   ·rw[St.app_append];exact q6.trans j1.n_
   ·rw[St.app_append];exact q7.trans j1.t
 |[],_::_,_,_,_,_,_,hq,_,_,_,_,_,_,_,_=>hq.elim
 |.inl _::_,[],_,_,_,_,_,hq,_,_,_,_,_,_,_,_=>hq.elim
 |.inl _::_,.c _::_,_,_,_,_,_,hq,_,_,_,_,_,_,_,_=>hq.elim
 |.inl _::_,.agg _::_,_,_,_,_,_,hq,_,_,_,_,_,_,_,_=>hq.elim
 |.inl _::_,.rx _ _ _::_,_,_,_,_,_,hq,_,_,_,_,_,_,_,_=>hq.elim
 |.inr _::_,[],_,_,_,_,_,hq,_,_,_,_,_,_,_,_=>hq.elim
 |.inr _::_,.c _::_,_,_,_,_,_,hq,_,_,_,_,_,_,_,_=>hq.elim
 |.inr _::_,.agg _::_,_,_,_,_,_,hq,_,_,_,_,_,_,_,_=>hq.elim
 |.inr _::_,.bx _::_,_,_,_,_,_,hq,_,_,_,_,_,_,_,_=>hq.elim
theorem IX{c:OA}{n:Nat}{v:Value}{F:List Nat}{K:Mka->Prop}(hq:(mkA n c).wp s0 K) (hm:Mem W0 M G s w) (hc:OAr G.I w c v F) (hn:F.Nodup) (hf:xQ W0 M G s F) (hv:P1 n s0 s) :
  ∃k G',K k/\CD W0 M G s0 s w n k.us k.m F G'/\AVr G' (s.app k.us) w k.av v:=by
 cases c with
 |c x=>
  simp only[mkA,Q.wp_bind,Q.wp]at hq;simp only[OAr]at hc;obtain⟨k,G',hq,h1,h2⟩:=uJ x hq hm hc hn hf hv;exact⟨_,G',hq,h1,by simpa only[AVr]using h2⟩
 |agg xs=>
  simp only[mkA,Q.wp_bind,Q.wp]at hq;simp only[OAr]at hc;obtain⟨vs,rfl,hc⟩:=hc;obtain⟨k,G',hq,h1,h2⟩:=oC xs hq hm hc hn hf hv;exact⟨_,G',hq,h1,by simp only[AVr];exact⟨vs,rfl,h2⟩⟩
 |bx cs=>
  simp only[mkA,Q.wp_bind,Q.wp]at hq;simp only[OAr]at hc;obtain⟨k,G',hq,h1,h2⟩:=uJ (.box cs) hq hm hc hn hf hv;exact⟨_,G',hq,h1,by simpa only[AVr]using h2⟩
 |rx sz e es=>
  simp only[mkA,Q.wp_bind,Q.wp]at hq;simp only[OAr]at hc;obtain⟨k,G',hq,h1,h2⟩:=uJ (.row sz e es) hq hm hc hn hf hv;exact⟨_,G',hq,h1,by simpa only[AVr]using h2⟩
theorem ly:∀(cs:List OA){n:Nat}{s:St}{G:Gh}{vs:List Value}{F:List Nat}{K:LQ->Prop},(EI n cs).wp s0 K->Mem W0 M G s w->OAs G.I w cs vs F->F.Nodup->xQ W0 M G s F->P1 n s0 s->
  ∃k G',K k/\CD W0 M G s0 s w n k.us k.m F G'/\AVs G' (s.app k.us) w k.avs vs
 |[],n,s,G,vs,F,K,hq,hm,hc,hn,hf,hv=>by
  simp only[OAs]at hc;obtain⟨rfl,rfl⟩:=hc;exact⟨_,G,hq,⟨hm,Ext.refl _ _ _,rfl,PW _,hv,λx b h=>.inl h,rfl,rfl,λk _=>⟨rfl,rfl,rfl,rfl,rfl⟩⟩,by simp[AVs]⟩
 |c::cs,n,s,G,vs,F,K,hq,hm,hc,hn,hf,hv=>by
  simp only[OAs]at hc;obtain⟨x,r,F1,F2,rfl,h1,h2,rfl⟩:=hc;simp only[EI,Q.wp_bind]at hq;rw[QP]at hn;obtain⟨k,G1,hq,j1,j2⟩:=IX hq hm h1 hn.1 (λb hb=>hf b (by simp[hb])) hv;have hf2:xQ W0 M G1 (s.app k.us) F2:=xQ.after (F1:=F1) (λb hb=>hf b (by simp[hb])) (λb hb1 hb2=>hn.2.2 b hb1 b hb2 rfl) j1;obtain⟨ks,G2,hq,j3,j4⟩:=ly cs hq j1.mem (by rw[j1.I];exact h2) hn.2.1 hf2 j1.ver;refine⟨_,G2,hq,j1.trans j3,?_⟩;rw[St.app_append];simp only[AVs];exact⟨x,r,rfl,j3.ext.av _ j2,j4⟩
theorem AVs.len:∀{xs:List AV}{vs:List Value},AVs G s w xs vs->xs.length=vs.length
 |[],vs,h=>by simp only[AVs]at h;subst h;rfl
 |x::xs,vs,h=>by
  simp only[AVs]at h;obtain⟨v,r,rfl,_,h⟩:=h;simp[AVs.len h]
theorem EJ{xs:List AV}{vs:List Value}(h:AVs G s w xs vs):AVr G s w (Ic xs) (uM vs):=by
 match xs,vs,h.len,h with
 |[],[],_,h=>simp only[Ic,uM,AVr];exact⟨_,rfl,h⟩
 |[x],[v],_,h=>
  simp only[AVs]at h;obtain⟨v',r,e,h1,h2⟩:=h;injection e with e1 _;subst e1;exact h1
 |x::y::xs,v::u::vs,_,h=>simp only[Ic,uM,AVr];exact⟨_,rfl,h⟩
end
theorem Frz.own{G G':Gh}{s s':St}(h:Frz s s') (hb:G'.bx=G.bx) (hr:G'.rw=G.rw) (hx:G'.ex=G.ex) (x:Nat⊕Nat):own G' s' x=own G s x:=by
 rcases x with k|k
 ·simp only[Am.own,h.2.2.1,hb]
 ·have h1:=h.2.2.2 k;cases hc:(s.r k).c with
  |none=>simp only[Am.own,h1.2.1 hc,hc]
  |some R=>obtain⟨fr,h2,_⟩:=h1.2.2 R hc;simp only[Am.own,h2,hc,hr,hx]
theorem yP{W0:World}{M:Own}{G:Gh}{s:St}{w:World}(h:Mem W0 M G s w) (x:Nat⊕Nat):(own G s x).Nodup:=by
 rcases x with k|k
 ·simp only[own];split <;> simp
 ·simp only[own];split
  ·rename_i R hR;by_cases he:Q4 R.e
   ·obtain⟨⟨g,es,c,h1,_,_,h2,_⟩,_⟩:=h.sx k R hR he;simp only[he,Qy,h1,obk];exact h2
   ·simp only[he,Qr,PO];cases obk (G.rw k) <;> simp
  ·exact QM
theorem js{W0:World}{M:Own}{G:Gh}{s:St}{w:World}{foot:List (Nat⊕Nat)}(hn:foot.Nodup) (h:Mem W0 M G s w):(foot.flatMap (own G s)).Nodup:=by
 induction foot with
 |nil=>exact QM
 |cons x foot ih=>
  rw[Qz]at hn;rw[QB,QP];refine⟨yP h x,ih hn.2,λb hb b' hb' e=>?_⟩;subst e;obtain⟨y,hy,hyb⟩:=List.mem_flatMap.1 hb';have:=h.dj x y b hb hyb;subst this;exact hn.1 hy
section
variable {P:Program}{o:Oper}
theorem kJ{cap:Array Value}{a:Act}{w:World}{c:Call}{f:FuncId}{S:fg}(ho:o.op= .call c) (hc:a.eval (match c.callee with | .value x=>x | _=>.const .nilFunc)= .func (.func f) #[] cap) (hv:∃x,c.callee= .value x) (hf:CH P f S) :
  (execOp a.eval o).run P w= .ok (.enter f (c.args.map a.eval++cap)) w:=by
 obtain⟨x,hx⟩:=hv;obtain⟨fn,h1,h2,h3⟩:=hf.isf;rw[hx]at hc;simp only at hc;have hb:fn.body.isNone=false:=by cases hfb:fn.body with
  |none=>rw[hfb]at h2;cases h2
  |some b=>rfl
 have hcf:∀args,(callFunc f args).run P w= .ok (.enter f args) w:=λargs=>by
  have h4:¬fn.name= "runtime.NumGoroutine" :=by simpa using h3
  have h5:¬fn.body=none:=by intro e;rw[e]at h2;cases h2
  unfold callFunc;simp[h1,h4,h5]
 unfold execOp;rw[ho];simp only[resolve,hx,hc,Deferred.ofValue];simp[invoke,hcf]
theorem AVs.app{G:Gh}{s:St}{w:World}:∀{xs ys:List AV}{us vs:List Value},AVs G s w xs us->AVs G s w ys vs->AVs G s w (xs++ys) (us++vs)
 |[],_,us,_,h,k=>by simp only[AVs]at h;subst h;exact k
 |x::xs,ys,us,vs,h,k=>by
  simp only[AVs]at h;obtain⟨v,r,rfl,h1,h2⟩:=h;simp only[Qu,AVs];exact⟨v,r++vs,rfl,h1,AVs.app h2 k⟩
theorem wJ{G:Gh}{c:Call}{x:Operand}{cap:Array Value}{ex:List AV}{f:FuncId}{S:fg}{W0:World}{M:Own}{s:St}{a:Act}{w:World}{K:List Upd->Prop}{Q':Exit->Act->World->Prop}(ho:o.op= .call c) (hcx:c.callee= .value x) (hc:a.eval x= .func (.func f) #[] cap) (hf:CH P f S)
  (hd:∀d,o.dst=some d->d<s.n) (h:Rel W0 M G s a w) (hex:AVs G s w ex cap.toList) (hq:(yO S o c ex).wp s K):o.wp P a w (λa' w'=>∃us,K us/\fA W0 M (s.app us) a' w') Q':=by
 have hal:(c.args.map a.eval++cap).toList=c.args.toList.map a.eval++cap.toList:=by rw[Array.toList_append,SG]
 unfold yO at hq;rw[Q.wp_bind]at hq;obtain⟨xs,hq1,hxs⟩:=uu h hq;clear hq;rw[Q.wp_bind]at hq1;obtain⟨k,foot,hq2,T⟩:=iC h.mem _ (hxs.app hex) hq1;clear hq1;obtain⟨⟨hnd,hfz,hpre⟩,hq3⟩:=hq2;have hrun:=kJ (w:=w) (a:=a) ho (by rw[hcx];exact hc) ⟨_,hcx⟩ hf;cases hfl:S.flat&&k.tops.isEmpty&&k.ids.isEmpty with
 |true=>
  rw[hfl]at hq3;obtain⟨⟨_,hres0⟩,hq3⟩:=hq3;rw[Q.wp_bind]at hq3;obtain⟨us1,G1,hq4,m1,e1,hfd,_⟩:=bq s hq3 h.mem (Frz.refl s);rw[Q.wp_bind]at hq4;rw[PM,PM,Tl,Tl]at hfl;have hfoot0:foot=[]:=List.eq_nil_iff_forall_not_mem.2 λx hx=>by
   have:=(T.mem x).1 hx;rw[hfl.1.2,hfl.2]at this;rcases this with h|h <;> cases h
  have hoas:=T.oas G1.I ⟨e1.I,hfd,λx hx=>by rw[hfoot0]at hx;cases hx⟩;rw[hfoot0]at hoas;have hcalls:=hf.calls w G1.I [] (c.args.map a.eval++cap) k.xs m1.In m1.gl.1 (by rw[hal];exact hoas) QM hpre;unfold Oper.wp;rw[hrun];refine Calls.mono hcalls λe w' he=>?_
  match e,he with
  |.panicked _,he=>exact he.elim
  |.outgrown,he=>exact he.elim
  |.returned v,⟨I',vs,Fp,Fr',hve,R⟩=>
  subst hve;show ∃us,K us/\fA W0 M (s.app us) (a.put o.dst (uM vs)) w';have hg:w.grownBy w' none:=⟨R.fr.os,R.fr.tape,R.fr.output,R.fr.size,λb hb _=>R.fr.block b hb (by simp)⟩;obtain⟨m2,e2⟩:=h.mem.grow hg;obtain⟨r,G5,hq8,m5,hav⟩:=ly (s0:=s) _ hq4 m2 (si hres0 R.res) QM (λb hb=>by cases hb) (λ_ _=>⟨rfl,rfl⟩);refine⟨_,hq8,?_⟩;rw[St.app_append];have hrel:=h.mem' (e2.trans m5.ext) m5.mem m5.n_ m5.t;exact hrel.putOne (λd e=>by rw[m5.n_];exact hd d e) (EJ hav)
 |false=>
 rw[hfl]at hq3;simp only at hq3;rw[Q.wp_bind]at hq3;obtain⟨us1,G1,hq4,m1,e1,hfd,hfrz,hbx,hrw,hfr,hexq⟩:=bq s hq3 h.mem (Frz.refl s);clear hq3;rw[Q.wp_bind]at hq4;have hv1:P1 0 s (s.app us1):=λk _=>⟨by rw[hfrz.2.2.1],(hfrz.2.2.2 k).1⟩;obtain⟨us2,hq5,m2,e2,hv2,D⟩:=oE hq4 m1 hv1;clear hq4;rw[Q.wp_bind]at hq5;have hown1:∀x,own G1 (s.app us1) x=own G s x:=λx=>hfrz.own hbx hrw hexq x;have hless:∀x b,b∈own G1 ((s.app us1).app us2) x->b∈own G s x:=λx b hx=>by rw[<-hown1];exact D.less x b hx
 have hfoot:=T.nodup hnd;rw[QP]at hnd;obtain⟨hnd1,hnd2,hnd3⟩:=hnd;have hfixed:oD G s w G1.I k.fz foot:=by
  refine⟨e1.I,hfd,λx hx g hg o' hi=>?_⟩;have hg1:g∈own G1 (s.app us1) x:=by rw[hown1];exact hg
  rcases x with id|id
  ·obtain⟨hs,rfl⟩:=nY.1 hg1;exact m1.bI id hs o' hi
  ·obtain⟨R,hRs,hRf⟩:=T.live _ hx;obtain⟨fr,hR1,_⟩:=(hfrz.2.2.2 id).2.2 R hRs;obtain⟨R2,hR2,hg2⟩:=fb.1 hg1;rw[hR1]at hR2;injection hR2 with hR2;subst hR2;rcases hg2 with hg1|⟨he2,hg2⟩
   rotate_left
   ·exact(m1.sx id _ hR1 he2).2 g hg2 o' hi
   have hfr1:=(m1.rI id _ g hR1 hg1 o' hi).1;rcases hfr id _ hR1 hfr1 with⟨R',r1,r2⟩|r1
   ·rw[hRs]at r1;injection r1 with r1;subst r1;rw[hRf]at r2;cases r2
   ·exact hfz id r1 (List.mem_append.2 ((T.mem _).1 hx))
 have hoas:=T.oas G1.I hfixed;have hFn:=js hfoot h.mem;have hFmem:∀b,b∈foot.flatMap (own G s)->∃x∈foot,b∈own G s x:=λb hb=>by simpa [List.mem_flatMap]using hb
 have hFM:∀b∈foot.flatMap (own G s),W0.heap.size<=b\/M b:=λb hb=>by
  obtain⟨x,_,hx⟩:=hFmem b hb;exact h.mem.oM x b hx
 have hF2:∀x b,b∈own G1 ((s.app us1).app us2) x->b∈foot.flatMap (own G s)->x∈k.tops:=λx b hx hb=>by
  obtain⟨y,hy,hyb⟩:=hFmem b hb;have hxy:=h.mem.dj x y b (hless x b hx) hyb;subst hxy;rcases(T.mem x).1 hy with h5|h5
  ·exact h5
  ·rw[D.gone x h5]at hx;cases hx
 have hcalls:=hf.calls w G1.I (foot.flatMap (own G s)) (c.args.map a.eval++cap) k.xs m1.In m1.gl.1 (by rw[hal];exact hoas) hFn hpre;unfold Oper.wp;rw[hrun];refine Calls.mono hcalls λe w' he=>?_
 match e,he with
 |.panicked _,he=>exact he.elim
 |.outgrown,he=>exact he.elim
 |.returned v,⟨I',vs,Fp,Fr',hve,R⟩=>
 subst hve;show ∃us,K us/\fA W0 M (s.app us) (a.put o.dst (uM vs)) w';have hpost:=R.post;rw[hal]at hpost;rw[dE T.tops]at hpost;have hfit:=lv hq5;obtain⟨us3,hq6,J⟩:=oF (G:=G) hq5 hv2 hnd1 hpost;clear hq5;rw[Q.wp_bind]at hq6;have hbxe:∀id,G1.bx id=G.bx id:=λid=>by rw[hbx]
 have hrwe:∀id,G1.rw id=G.rw id:=λid=>by rw[hrw]
 have hni:∀x∈k.tops,x∉k.ids:=λx hx h5=>hnd3 x hx _ h5 rfl;have hlv:∀x∈k.tops,live s x:=λx hx=>T.live x ((T.mem _).2 (.inl hx));have hlr:∀id,Sum.inr id∈k.tops->(((s.app us1).app us2).r id).c.isSome=true:=λid hid=>by
  obtain⟨R0,hR0,_⟩:=hlv _ hid;obtain⟨fr,hR1,_⟩:=(hfrz.2.2.2 id).2.2 R0 hR0;rw[D.r id (hni _ hid),hR1];rfl
 obtain⟨m3,e3⟩:=m2.call (s':=((s.app us1).app us2).app us3) (F:=foot.flatMap (own G s)) (I':=I') (tops:=k.tops) J.r J.b (λid hid=>by
  obtain⟨a1,a2,a3⟩:=J.tr id hid;obtain⟨R0,hR0,hE0⟩:=T.rx _ hid;obtain⟨fr,hR1,_⟩:=(hfrz.2.2.2 id).2.2 R0 hR0;exact⟨hlr id hid,a1,by rw[hrwe];exact a2,by rw[hrwe];exact a3,⟨R0.es,R0.sz,R0.e,fr⟩,by rw[D.r id (hni _ hid)];exact hR1,hE0⟩) (λid hid=>by
  have hl:=hlv _ hid;obtain⟨a1,a2,a3⟩:=J.tb id hid;refine⟨?_,a1,by rw[hbxe];exact a2,by rw[hbxe];exact a3⟩;rw[D.b id (hni _ hid),hfrz.2.2.1];exact hl) hF2 hFM R.fr R.sub R.keep R.new R.lt R.odd R.soft
 have hown3:∀x b,b∈own ⟨I',G1.bx,G1.rw,G1.st,G1.ex⟩ (((s.app us1).app us2).app us3) x->b∈own G1 ((s.app us1).app us2) x:=λx b hx=>by
  rcases x with id|id
  ·by_cases hid:Sum.inl id∈k.tops
   ·have hl:=hlv _ hid;simp only[live]at hl;have:(((s.app us1).app us2).b id).c.isSome=true:=by rw[D.b id (hni _ hid),hfrz.2.2.1];exact hl
    obtain⟨_,⟨n,cs,cur,ty,h3,_⟩,_⟩:=J.tb id hid;simp only[own,h3,this]at hx⊢;exact hx
   ·simp only[own,J.b id hid]at hx⊢;exact hx
  ·by_cases hid:Sum.inr id∈k.tops
   ·obtain⟨R0,hR0,hE0⟩:=T.rx _ hid;obtain⟨fr,hR1,_⟩:=(hfrz.2.2.2 id).2.2 R0 hR0;obtain⟨_,⟨R',h3,_,h9⟩,_⟩:=J.tr id hid;obtain⟨R2,h10,h11⟩:=fb.1 hx;rw[h3]at h10;injection h10 with h10;subst h10;rcases h11 with h11|⟨h11,_⟩
    ·exact bO (by rw[D.r id (hni _ hid)];exact hR1) h11
    ·exact absurd h11 (D3 h9)
   ·simp only[own,J.r id hid]at hx⊢;exact hx
 have hnodup:=R.nodup;rw[QP]at hnodup;have hTF:∀b∈Fp++Fr',(∀x,b∈own ⟨I',G1.bx,G1.rw,G1.st,G1.ex⟩ (((s.app us1).app us2).app us3) x->x∈k.tops)/\(W0.heap.size<=b\/M b):=λb hb=>by
  rcases R.own b hb with h5|h5
  ·exact⟨λx hx=>hF2 x b (hown3 x b hx) h5,hFM b h5⟩
  ·exact⟨λx hx=>by have:=m2.ownlt (hown3 x b hx);omega,.inl (Qt h.mem.fr.size h5)⟩
 have hmap:k.tops.map (ao ⟨I',G1.bx,G1.rw,G1.st,G1.ex⟩)=k.tops.map (ao G):=Rh λj _=>by cases j <;> simp only[ao,hbxe,hrwe]
 obtain⟨p,G4,hq7,m4,e4,hI4,hv4,hown4,hn4,ht4⟩:=oG hq6 hfit m3 (λx hid=>by
  cases x with
  |inr id=>
   obtain⟨_,⟨R',h3,_,h5⟩,_⟩:=J.tr id hid;exact⟨R',h3,h5⟩
  |inl id=>
   refine⟨(J.ver id (QE _)).1,?_⟩;obtain⟨_,⟨n,cs,cur,ty,h3,_⟩,_⟩:=J.tb id hid;rw[h3];rfl) (J.ver.le (QE _)) (by rw[hmap];exact hpost) hnd1 hnodup.1 (λb hb=>hTF b (by simp[hb]))
 clear hq6;rw[Q.wp_bind]at hq7;obtain⟨r,G5,hq8,m5,hav⟩:=ly _ hq7 m4 (by rw[hI4];exact R.res) hnodup.2.1 (λb hb=>by
  refine⟨λx hx=>?_,(hTF b (by simp[hb])).2⟩;rcases hown4 x b hx with h5|h5
  ·have ht:=(hTF b (by simp[hb])).1 x h5;have hbt:iD G x=some b:=by
    have:=fG h5 (by
     cases x with
     |inl _=>trivial
     |inr id=>
      obtain⟨_,⟨R',h3,_,h5⟩,_⟩:=J.tr id ht;exact⟨R',h3,h5⟩)
    cases x <;> simp only[iD,hbxe,hrwe]at this⊢ <;> exact this
   exact hnodup.2.2 b (fH hfit hpost x ht b hbt) b hb rfl
  ·exact hnodup.2.2 b h5 b hb rfl) hv4
 clear hq7;refine⟨_,hq8,?_⟩;rw[St.app_append,St.app_append,St.app_append,St.app_append,St.app_append];have E:=(((e1.trans e2).trans e3).trans e4).trans m5.ext;have hn5:(((((s.app us1).app us2).app us3).app p.us).app r.us).n=s.n:=(m5.n_.trans hn4).trans ((J.n_.trans D.n_).trans hfrz.1);have ht5:(((((s.app us1).app us2).app us3).app p.us).app r.us).t=s.t:=(m5.t.trans ht4).trans ((J.t.trans D.t).trans hfrz.2.1);have hrel:=h.mem' E m5.mem hn5 ht5;exact hrel.putOne (λd e=>by rw[hn5];exact hd d e) (EJ hav)
end
theorem ct{α:Type}{xs:Array α}{x:α}(h:xs.toList=[x]):xs= #[x]:=by
 cases xs;simp only at h;subst h;rfl
def EK:List DV->Int
 |.v (.int _ n)::_=>n
 |_=>0
def EL:List DV->List UInt8
 |.v (.string b)::_=>b.data.toList
 |_=>[]
def Jb(es:List (List DV)):Prop:=(∀c∈es,∃n r,c= .v (.int .i64 n)::r)/\(es.map EK).Nodup/\(∀x∈es.map EK,(Lit.int .i64 x).wf=true)/\es.length<=maxLen/\es.length*8<=140737488355328
def Jc(es:List (List DV)):Prop:=(∀c∈es,∃l r,c= .v (CG l)::r)/\(es.map EL).Nodup/\(∀x∈es.map EL,x.length<=maxLen)/\es.length<=maxLen/\es.length*16<=140737488355328
def sortI(es:List (List DV)):List (List DV):=((es.map EK).mergeSort λx y=>decide (x<=y)).map λx=>[.v (.int .i64 x)]
def sortS(es:List (List DV)):List (List DV):=((es.map EL).mergeSort λx y=>decide (x<=y)).map λx=>[.v (CG x)]
def Gg(f1:FuncId) (o:Oper):List AV->Q (List Upd)
 |[.c (.row id ver)]=>(Q.ofOpt o.dst).bind λd=>.rdR id λr=>match r.c with
  |some R=>.req (ver=r.ver/\Q7<=R.e/\R.e≠dx/\¬Q4 R.e) (.rdB d λb=>.ret [.b d ⟨b.ver+1,some [.row id ver]⟩,.t d ⟨true,.clo f1 d (b.ver+1)⟩])
  |none=>.fail
 |_=>.fail
def yR(f1:FuncId) (e:TypeId) (good:List (List DV)->Prop) (srt:List (List DV)->List (List DV)) (o:Oper):List AV->Q (List Upd)
 |[.clo f id ver]=>(Q.ofOpt o.dst).bind λd=>.rdB id λb=>match b.c with
  |some [.row rid rver]=>.rdR rid λr=>match r.c with
   |some R=>.req (f=f1/\ver=b.ver/\rver=r.ver/\Q7<=R.e/\(R.e≠dx/\¬Q4 R.e)/\mKs R.e=1/\mKa R.e=false/\e<Q7/\good R.es) (.rdR d λrd=>.ret [.r d ⟨rd.ver+1,some ⟨srt R.es,1,e,false⟩⟩,.t d ⟨true,.c (.row d (rd.ver+1))⟩])
   |none=>.fail
  |_=>.fail
 |_=>.fail
def spQ(sp:Sp) (o:Oper) (c:Call):Q (List Upd):=(evs c.args.toList).bind λxs=>match sp with
 |.none=>.fail
 |.keys f1=>Gg f1 o xs
 |.sortI f1 e=>yR f1 e Jb sortI o xs
 |.sortS f1 e=>yR f1 e Jc sortS o xs
section
variable {P:Program}{W0:World}{M:Own}{G:Gh}{s:St}{a:Act}{w:World}{o:Oper}{K:List Upd->Prop}{Q':Exit->Act->World->Prop}
theorem EM{I:Nat->Nat->Prop}{e:Nat}(h1:mKs e=1) (h2:mKa e=false):∀{es:List (List DV)}{ms:List MapEntry},MEs I w e es ms->(∀c∈es,∃n r,c= .v (.int .i64 n)::r)->ms.map (·.key)=(es.map EK).map (Value.int .i64)
 |[],ms,h,_=>by simp only[MEs]at h;subst h;rfl
 |c::es,ms,h,hk=>by
  simp only[MEs]at h;obtain⟨m,r,rfl,hm,hr⟩:=h;obtain⟨n,q,hc⟩:=hk c (by simp);have:=(yA (k:=.int .i64) h1 h2 hm ⟨_,q,hc,rfl⟩).1;rw[PQ,PQ,PQ,EM h1 h2 hr (λc hc=>hk c (by simp[hc])),this,hc];rfl
theorem EN{I:Nat->Nat->Prop}{e:Nat}(h1:mKs e=1) (h2:mKa e=false):∀{es:List (List DV)}{ms:List MapEntry},MEs I w e es ms->(∀c∈es,∃l r,c= .v (CG l)::r)->ms.map (·.key)=(es.map EL).map CG
 |[],ms,h,_=>by simp only[MEs]at h;subst h;rfl
 |c::es,ms,h,hk=>by
  simp only[MEs]at h;obtain⟨m,r,rfl,hm,hr⟩:=h;obtain⟨n,q,hc⟩:=hk c (by simp);have:=(yA (k:=.str) h1 h2 hm ⟨_,q,hc,trivial⟩).1;rw[PQ,PQ,PQ,EN h1 h2 hr (λc hc=>hk c (by simp[hc])),this,hc];rfl
theorem lA{c:Call}{x:Operand}{f:FuncId}{S:fg}(ho:o.op= .call c) (hcx:c.callee= .value x) (hc:a.eval x= .func (.func f) #[] #[]) (hf:CH P f S){post:Ending->World->Prop}
  (hcalls:Calls P f (c.args.map a.eval) w post) (hk:∀e w',post e w'->∃v,e= .returned v/\∃us,K us/\fA W0 M (s.app us) (a.put o.dst v) w'):bU P W0 M s o a w K Q':=by
 have hrun:=kJ (w:=w) (a:=a) ho (by rw[hcx];exact hc) ⟨_,hcx⟩ hf;unfold bU Oper.wp;rw[hrun];refine Calls.mono hcalls λe w' he=>?_;obtain⟨v,rfl,h⟩:=hk e w' he;exact h
theorem qy{c:Call}{x:Operand}{f f1:FuncId}{S:fg}{e:TypeId}{good:List (List DV)->Prop}{srt:List (List DV)->List (List DV)}(ho:o.op= .call c) (hcx:c.callee= .value x) (hc:a.eval x= .func (.func f) #[] #[]) (hf:CH P f S)
  (hsort:∀(w:World) (I:Nat->Nat->Prop) (b g:Nat) (ty:TypeId) (en:Array MapEntry) (clock:Nat) (me:Nat) (es:List (List DV)),w.heap[b]?=some (.cells #[.map (some g)] ty (0,0))->w.heap[g]?=some (.map en clock)->jm en.toList clock->
   mKs me=1->mKa me=false->MEs I w me es en.toList->good es->Calls P f #[rR f1 b] w λo w'=>∃v ks,o= .returned v/\w'.ownsRow w.heap.size e 1 v (srt es).length ks/\(∀I' w'',D2 I' w'' (srt es) ks)/\(∀c∈srt es,c.length=1)/\RowKit.Below w.heap.size w w')
  (hd:∀d,o.dst=some d->d<s.n) (_hR:fA W0 M s a w) {xs:List AV} {vs:List Value} (hargs:(c.args.map a.eval).toList=vs) (hxs:AVs G s w xs vs) (h:Rel W0 M G s a w) (hq:(yR f1 e good srt o xs).wp s K):bU P W0 M s o a w K Q':=by
 unfold yR at hq;split at hq
 ·rename_i f' id ver;rw[Q.wp_bind]at hq;obtain⟨d,hdd,hq1⟩:=H2 hq;clear hq;simp only[Q.wp]at hq1;split at hq1
  ·rename_i rid rver hb;simp only[Q.wp]at hq1;split at hq1
   ·rename_i R hRr;obtain⟨⟨rfl,hver,hrver,hE,hEi,hm1,hm2,heF,hgood⟩,hq2⟩:=hq1;simp only[Q.wp]at hq2;simp only[AVs,AVr]at hxs;obtain⟨v,r,rfl,⟨_,hclo⟩,rfl⟩:=hxs;obtain rfl:=hclo hver (by rw[hb];rfl);obtain⟨cur,ty,hbx,hac⟩:=h.mem.bx id _ hb;simp only[ACs,ACr]at hac;obtain⟨u,r,hcur,⟨_,_,hrow⟩,rfl⟩:=hac;have hu:=hrow hrver (by rw[hRr];rfl);obtain⟨g,en,clock,hrw,hg,hme,hborn,hsz,hlen⟩:=h.mem.map_at hRr hE hEi;have hcur':cur= #[.map (some g)]:=by rw[<-hrw,<-hu];exact ct hcur
    subst hcur';have hargs':c.args.map a.eval= #[rR f' (G.bx id)]:=ct hargs;refine lA ho hcx hc hf (by rw[hargs'];exact hsort w G.I (G.bx id) g ty en clock R.e R.es hbx hg hborn hm1 hm2 hme hgood) ?_;rintro ex w' ⟨v,ks,rfl,hown,hdv,h1,hB⟩;refine⟨v,rfl,_,hq2,?_⟩;have hgr:w.grownBy w' none:=⟨hB.os,hB.tape,hB.output,hB.size,λk hk _=>hB.block k hk⟩;obtain⟨m1,e1⟩:=h.mem.grow hgr;have hbk:∀b,obk v=some b->w.heap.size<=b:=λb hb'=>by
     rcases hown.2 with⟨rfl,_⟩|⟨g',cap,cur',rfl,hle,_⟩
     ·cases hb'
     ·injection hb' with hb';subst hb';exact hle
    have hown0:w'.ownsRow 0 e 1 v (srt R.es).length ks:=by
     refine⟨hown.1,?_⟩;rcases hown.2 with hn|⟨g',cap,cur',hv,_,rest⟩
     ·exact .inl hn
     ·exact .inr ⟨g',cap,cur',hv,QE _,rest⟩
    have hrowok:M4 G.I w' v ⟨srt R.es,1,e,false⟩:=⟨Nat.one_pos,h1,.inl ⟨heF,ks,hown0,hdv _ _⟩⟩;obtain⟨m2,e2⟩:=m1.addRow d ((s.r d).ver+1) v ⟨srt R.es,1,e,false⟩ (Rn _) hrowok (λx b hv hx=>by have:=h.mem.ownlt hx;have:=hbk b hv;omega) (λg hv o hi=>by have:=h.mem.In _ _ hi;have:=hbk g hv;omega) (λg hv=>.inl (Qt h.mem.fr.size (hbk g hv)));have h2:=h.mem' (e1.trans e2) m2 rfl rfl;rw[hdd];refine⟨_,h2.put (show d<(s.setR d _).n from hd d hdd) ⟨λ_=>?_,λe=>by cases e⟩⟩;simp only[AVr,ACr,St.setR,upd,Qy];exact⟨hrowok.one,PW _,λ_ _=>trivial⟩
   ·exact hq1.elim
  ·exact hq1.elim
 ·exact hq.elim
theorem EO(I:Nat->Nat->Prop) (w:World):∀ks:List Int,D2 I w (ks.map λx=>[DV.v (.int .i64 x)]) (ks.map (Value.int .i64))
 |[]=>by simp[D2]
 |k::ks=>by
  simp only[PQ,D2,E4,DVr];exact⟨[_],_,rfl,⟨_,[],rfl,⟨rfl,rfl⟩,rfl⟩,EO I w ks⟩
theorem EP(I:Nat->Nat->Prop) (w:World):∀ks:List (List UInt8),D2 I w (ks.map λx=>[DV.v (CG x)]) (ks.map CG)
 |[]=>by simp[D2]
 |k::ks=>by
  simp only[PQ,D2,E4,DVr];exact⟨[_],_,rfl,⟨_,[],rfl,⟨rfl,rfl⟩,rfl⟩,EP I w ks⟩
theorem Gi{c:Call}{x:Operand}{f:FuncId}{S:fg}{sp:Sp}(ho:o.op= .call c) (hcx:c.callee= .value x) (hc:a.eval x= .func (.func f) #[] #[]) (hf:CH P f S) (hsp:S.sp=sp)
  (hd:∀d,o.dst=some d->d<s.n) (hR:fA W0 M s a w) (hq:(spQ sp o c).wp s K):bU P W0 M s o a w K Q':=by
 obtain⟨G,h⟩:=hR;unfold spQ at hq;rw[Q.wp_bind]at hq;obtain⟨xs,hq1,hxs⟩:=uu h hq;clear hq
 revert hq1
 intro hq;have hargs:(c.args.map a.eval).toList=c.args.toList.map a.eval:=by rw[SG]
 have hok:=hf.sp;rw[hsp]at hok;cases sp with
 |none=>exact hq.elim
 |keys f1=>
  obtain⟨tm,hok⟩:=hok;simp only at hq;unfold Gg at hq;split at hq
  ·rename_i id ver;rw[Q.wp_bind]at hq;obtain⟨d,hdd,hq1⟩:=H2 hq;clear hq;simp only[Q.wp]at hq1;split at hq1
   ·rename_i R hRr;obtain⟨⟨hver,hE,hEi⟩,hq2⟩:=hq1;simp only[Q.wp]at hq2;have hxs0:=hxs;simp only[AVs,AVr,ACr]at hxs;obtain⟨v,r,hv,⟨hone,hle,hrow⟩,rfl⟩:=hxs;have hu:=hrow hver (by rw[hRr];rfl);obtain⟨g,en,clock,hrw,_⟩:=h.mem.map_at hRr hE hEi;rw[hrw]at hu;subst hu;have hargs':c.args.map a.eval= #[.map (some g)]:=ct (hargs.trans hv);refine lA ho hcx hc hf (by rw[hargs'];exact hok g w) ?_;rintro ex w' ⟨rfl,rfl⟩;refine⟨_,rfl,_,hq2,?_⟩;obtain⟨m1,e1⟩:=h.mem.grow (D9 w (.cells #[.map (some g)] tm));have hac:ACs G s w [.row id ver] [.map (some g)]:=by
     simp only[ACs,ACr];exact⟨_,[],rfl,⟨rfl,hle,λ_ _=>hrw.symm⟩,rfl⟩
    obtain⟨m2,e2⟩:=m1.addBox d ((s.b d).ver+1) w.heap.size [.row id ver] (Rn _) ⟨#[.map (some g)],tm,heap_alloc_new w _,e1.acs hac⟩ (λx hx=>by have:=h.mem.ownlt hx;omega) (λo hi=>by have:=h.mem.In _ _ hi;omega) (.inl h.mem.fr.size);have h2:=h.mem' (e1.trans e2) m2 rfl rfl;rw[hdd];refine⟨_,h2.put (show d<(s.setB d _).n from hd d hdd) ⟨λ_=>?_,λe=>by cases e⟩⟩;simp only[AVr,St.setB,upd,Qy];exact⟨PW _,λ_ _=>trivial⟩
   ·exact hq1.elim
  ·exact hq.elim
 |sortI f1 e=>
  refine qy ho hcx hc hf ?_ hd ⟨G,h⟩ hargs hxs h hq;intro w I b g ty en clock me es hb hg hborn h1 h2 hme hgood;obtain⟨g1,g2,g3,g4,g5⟩:=hgood;refine(hok w b g ty en clock (es.map EK) hb hg hborn (EM h1 h2 hme g1) g2 g3 (by simpa using g4) (by simpa using g5)).mono ?_;rintro ex w' ⟨v,rfl,hown,hB⟩;refine⟨v,_,rfl,?_,λI' w''=>EO I' w'' _,λc hc=>?_,hB⟩
  ·rw[show(sortI es).length=(es.map EK).length from by simp[sortI]];exact hown
  ·obtain⟨k,_,rfl⟩:=List.mem_map.1 hc;rfl
 |sortS f1 e=>
  refine qy ho hcx hc hf ?_ hd ⟨G,h⟩ hargs hxs h hq;intro w I b g ty en clock me es hb hg hborn h1 h2 hme hgood;obtain⟨g1,g2,g3,g4,g5⟩:=hgood;refine(hok w b g ty en clock (es.map EL) hb hg hborn (EN h1 h2 hme g1) g2 g3 (by simpa using g4) (by simpa using g5)).mono ?_;rintro ex w' ⟨v,rfl,hown,hB⟩;refine⟨v,_,rfl,?_,λI' w''=>EP I' w'' _,λc hc=>?_,hB⟩
  ·rw[show(sortS es).length=(es.map EL).length from by simp[sortS]];exact hown
  ·obtain⟨k,_,rfl⟩:=List.mem_map.1 hc;rfl
end
section
variable {P:Program}{W0:World}{M:Own}{G:Gh}{s:St}{a:Act}{w:World}
theorem Ja{t e:TypeId}{ie:TI}(hT:TOk P e ie) (hu:P.underlying t=some (.slice e)) (h:Rel W0 M G s a w){x:AV}{v:Value}{K:List Upd->Prop}(hx:AVr G s w x v) (hq:(Lo ie x).wp s K) :
  ∃us w',K us/\(∀(ts:Array TypeId) ty,ts[0]?=some t->(Builtin.clear_ ts ty #[v]).run P w= .ok (.tuple #[]) w')/\(s.app us).n=s.n/\fA W0 M (s.app us) a w':=by
 unfold Lo at hq;split at hq
 ·rename_i id ver i z;simp only[Q.wp]at hq;split at hq
  ·rename_i R hR;obtain⟨⟨e1,hE,e3,e4,e5,e6⟩,hq⟩:=hq;simp only[AVr]at hx;obtain⟨A,n,c,hrw,hin,hvv⟩:=hx.2 e1 (by rw[hR];rfl);obtain⟨hz,hul,xs,ho,hd⟩:=(h.mem.rw id R hR).sl hE;rcases ho.2 with⟨_,h0⟩|⟨g,cap,cur,hv1,_,hg,hnc,hcm,hcs,htk⟩
   ·omega
   rw[hrw]at hv1;injection hv1 with a1 a2 a3;subst a1;subst a2;subst a3;obtain⟨inf,zv,hinf,hsz,hby,hzv,hzl,hzn,hz1⟩:=hT.info;have hzs:zv.cells.size=ie.size:=by rw[<-PZ,hzl];exact hzn
   obtain⟨zs,hzsd⟩:∃zs,zs=(List.replicate (R.es.length-i) ie.zero).flatten:=⟨_,rfl⟩;have hzc:(Builtin.zeroCells zv.cells (R.es.length-i)).toList=zs:=by
    unfold Builtin.zeroCells;have:=fd zv.cells (R.es.length-i) zv.cells.size rfl (by omega);rw[hzsd,<-hzl];exact this
   have hde:D2 G.I w (List.replicate (R.es.length-i) (ie.zero.map Y5)) zs:=by
    rw[hzsd];exact D2.replicate (fF hz1) _
   have hzlen:∀e'∈List.replicate (R.es.length-i) (ie.zero.map Y5),e'.length=R.sz:=λe' hm=>by
    rw[RA hm,e4,<-e5];simpa using hzn
   have hzz:zs.length=(R.es.length-i)*R.sz:=by
    have:=hde.len hzlen
    rwa [QL]at this
   have hmul:i*R.sz+(R.es.length-i)*R.sz=R.es.length*R.sz:=by
    rw[<-TF];congr 1;omega
   have hcap:R.es.length*R.sz<=cur.size:=by rw[hcs];exact QA _ hnc
   obtain⟨cur',hh',htl⟩:=V2 g R.e zs (i*R.sz) w cur hg (by omega);have hrunS:=run_storeCells_cells (P:=P) g (i*R.sz) zs 0 w (λj hj=>by rw[cell_of_row w g _ cur R.e _ hg];simp;omega) (λj _=>frozen_of_row w g _ cur R.e hg) (λu hm=>hde.one u hm);rw[RT]at hrunS;have hcl:cur.toList.length=cur.size:=PZ;have hxs:xs=cur.toList.take (R.es.length*R.sz):=htk.symm;have htake:cur'.toList.take (R.es.length*R.sz)=xs.take (i*R.sz)++zs:=by
    rw[htl,nj _ _ _ _ (by omega) (by omega),<-hxs];have hxl:xs.length=R.es.length*R.sz:=by rw[hxs,Qb];omega
    unfold setAt;rw[Rr (by omega),PO]
   have hcur':cur'.size=cur.size:=by
    have:=congrArg List.length htl;rw[dz (by omega),PZ,hcl]at this;exact this
   have hxlen:(xs.take (i*R.sz)++zs).length=R.es.length*R.sz:=by
    rw[<-htake,Qb,PZ,hcur'];omega
   have hnew:=(D2.take hd hul i).app hde;have hlen:(R.es.take i++List.replicate (R.es.length-i) (ie.zero.map Y5)).length=R.es.length:=by
    rw[PU,Qb,QL];omega
   obtain⟨m2,e7⟩:=h.mem.setRow hR e3 (ltp hE) (D3 hE) (g:=g) (by rw[hrw];rfl) (P0 g (i*R.sz) zs w) (es':=R.es.take i++List.replicate (R.es.length-i) (ie.zero.map Y5)) (λhkp=>⟨hz,λe' hm=>by
    rcases List.mem_append.1 hm with hm|hm
    ·exact hul e' (RP hm)
    ·exact hzlen e' hm,.inl ⟨hE,xs.take (i*R.sz)++zs,⟨by rw[hlen];exact hxlen,.inr ⟨g,_,cur',by rw[hrw];simp[hlen],QE _,hh',by rw[hlen];exact hnc,hcm,by rw[hcur'];exact hcs,by rw[hlen];exact htake⟩⟩,D2.mono (λ_ _ h=>h) hkp _ hnew⟩⟩)
   refine⟨_,w.setCells g (i*R.sz) zs,hq,λts ty ht=>?_,rfl,G,h.mem' e7 m2 rfl rfl⟩;have hzrun:(zeroValue e).run P w= .ok zv w:=by simp[zeroValue,typeInfo,hinf,hzv]
   have hA:v= .slice (some ⟨g,i*R.sz,none⟩) (R.es.length-i) (c-i):=by
    rw[hvv,Ql (by omega),Qm,H1 _ _ rfl,e4,Qo]
   have hm1:R.es.length-i≠0:=by omega
   obtain⟨m,hm⟩:∃m,R.es.length-i=m+1:=⟨R.es.length-i-1,by omega⟩;rw[hm]at hzc;rw[hA,hm];simp[Builtin.clear_,ht,run_underlying hu,hzrun,hzc,hrunS]
  ·exact hq.elim
 ·exact hq.elim
end
def Gf(T:TypeId->Option TI):List ResultVar->Q (List AV)
 |[]=>.ret []
 |.tmp t::rs=>(ev (.tmp t)).bind λv=>(Gf T rs).bind λvs=>.ret (v::vs)
 |.cell a t::rs=>(tq T t).bind λi=>(ev (.tmp a)).bind λp=>(wm i p).bind λv=>(Gf T rs).bind λvs=>.ret (v::vs)
def IY(n:Nat):Nat->Q (List AV)
 |0=>.ret []
 |m+1=>.rdT n λx=>(IY (n+1) m).bind λvs=>.ret (x.x::vs)
def E9:List OA->List AV->List AV
 |.bx _::xs,v::vs=>v::E9 xs vs
 |.rx _ _ _::xs,v::vs=>v::E9 xs vs
 |_::xs,_::vs=>E9 xs vs
 |_,_=>[]
def tU(g:Bool) (i:Nat):List AV->List Upd
 |[]=>[]
 |v::vs=>.t i ⟨g,v⟩::tU g (i+1) vs
def CJ(T:TypeId->Option TI) (n m:Nat) (rs:List ResultVar) (sh:List ASh) (post:List OA) (res:List OA):Q Unit:=
 (IY n m).bind λps=>(Gf T rs).bind λvs=>(ls sh (ps++vs)).bind λk=>
 .req (k.xs=post++res/\(k.tops++k.ids).Nodup/\∀id∈k.fz,Sum.inr id∉k.tops++k.ids) ((ak k.fz).bind λ_=>.ret ())
def NO(T:TypeId->Option TI) (n m:Nat) (rs:List ResultVar) (sh:List ASh) (post:List OA) (res:List OA):AX->St->Prop
 |.exit _,_=>False
 |_,s=>s.n=n/\post.length=m/\(CJ T n m rs sh post res).wp s λ_=>True
section
variable {P:Program}{T:TypeId->Option TI}{W0:World}{M:Own}{G:Gh}{s:St}{a:Act}{w:World}
def BV(tmps:Array Value):ResultVar->Sem Value
 |.tmp t=>pure (tmps.getD t undef)
 |.cell a t=>do loadVar t (<-asAddr (tmps.getD a undef))
theorem wK(fn:Func) (tmps:Array Value):results fn tmps=(do let vs<-fn.results.mapM (BV tmps);pure (if h:vs.size=1 then vs[0]else .tuple vs)):=by
 unfold results;congr 1
theorem oH(h:Rel W0 M G s a w) (hT:∀t i,T t=some i->TOk P t i):∀{rs:List ResultVar}{K:List AV->Prop},(Gf T rs).wp s K->∃avs vs,K avs/\AVs G s w avs vs/\(rs.mapM (BV a.tmps)).run P w= .ok vs w
 |[],K,hq=>⟨[],[],hq,by simp[AVs],rfl⟩
 |.tmp t::rs,K,hq=>by
  simp only[Gf,Q.wp_bind]at hq;obtain⟨v,hq,h1⟩:=K3 h hq;obtain⟨avs,vs,hq,h2,h3⟩:=oH h hT hq;refine⟨_,a.eval (.tmp t)::vs,hq,by simp only[AVs];exact⟨_,_,rfl,h1,h2⟩,?_⟩;have e:a.eval (.tmp t)=a.tmps.getD t undef:=rfl;rw[Sf,e];simp[BV,h3]
 |.cell b t::rs,K,hq=>by
  simp only[Gf,Q.wp_bind]at hq;obtain⟨i,hi,hq⟩:=H2 hq;obtain⟨p,hq,h1⟩:=K3 h hq;obtain⟨y,v,ad,hp,hq,hy,hrun⟩:=yg h (hT t i hi) h1 hq;obtain⟨avs,vs,hq,h2,h3⟩:=oH h hT hq;refine⟨_,v::vs,hq,by simp only[AVs];exact⟨_,_,rfl,hy,h2⟩,?_⟩;rw[Sf];have hp':a.tmps.getD b undef= .pointer (some ad):=hp;have hr1:(BV a.tmps (.cell b t)).run P w= .ok v w:=by
   simp only[BV,hp',Sem.run_bind];simp[asAddr,hrun]
  simp only[Sem.run_bind,hr1,Result.andThen_ok,h3];rfl
theorem lz{fn:Func}{tmps:Array Value}{vs:List Value}(h:(fn.results.toList.mapM (BV tmps)).run P w= .ok vs w):(results fn tmps).run P w= .ok (uM vs) w:=by
 rw[wK,Array.mapM_eq_mapM_toList];simp only[Sem.run_bind,Sem.run_map,h,Result.andThen_ok]
 match vs with
 |[]=>rfl
 |[v]=>rfl
 |v::u::vs=>rfl
theorem uN(_h:Mem W0 M G s w){k:Tas}{vs:List Value}{foot:List (Nat⊕Nat)}(T:IS G s w k vs foot) (hfz:∀id∈k.fz,Sum.inr id∉k.tops++k.ids){us1:List Upd}{G1:Gh}(m1:Mem W0 M G1 (s.app us1) w) (e1:Ext G s w G1 (s.app us1) w)
  (hfd:∀id∈k.fz,∀R,(s.r id).c=some R->DVr G1.I w (.sl R.es) (G.rw id)) (hfrz:Frz s (s.app us1)) (hbx:G1.bx=G.bx) (hrw:G1.rw=G.rw) (hex:G1.ex=G.ex)
  (hfr:∀id R,((s.app us1).r id).c=some R->R.fr=true->(∃R',(s.r id).c=some R'/\R'.fr=true)\/id∈k.fz):oD G s w G1.I k.fz foot:=by
 refine⟨e1.I,hfd,λx hx g hg o' hi=>?_⟩;have hg1:g∈own G1 (s.app us1) x:=by rw[hfrz.own hbx hrw hex];exact hg
 rcases x with id|id
 ·obtain⟨hs,rfl⟩:=nY.1 hg1;exact m1.bI id hs o' hi
 ·obtain⟨R,hRs,hRf⟩:=T.live _ hx;obtain⟨fr,hR1,_⟩:=(hfrz.2.2.2 id).2.2 R hRs;obtain⟨R2,hR2,hg2⟩:=fb.1 hg1;rw[hR1]at hR2;injection hR2 with hR2;subst hR2;rcases hg2 with hg1|⟨he2,hg2⟩
  rotate_left
  ·exact(m1.sx id _ hR1 he2).2 g hg2 o' hi
  have hfr1:=(m1.rI id _ g hR1 hg1 o' hi).1;rcases hfr id _ hR1 hfr1 with⟨R',r1,r2⟩|r1
  ·rw[hRs]at r1;injection r1 with r1;subst r1;rw[hRf]at r2;cases r2
  ·have:=hfz id r1;rw[RQ]at this;exact this ((T.mem _).1 hx)
theorem OAs.len{I:Nat->Nat->Prop}:∀{xs:List OA}{vs:List Value}{F:List Nat},OAs I w xs vs F->xs.length=vs.length
 |[],vs,F,h=>by simp only[OAs]at h;rw[h.1];rfl
 |c::cs,vs,F,h=>by
  simp only[OAs]at h;obtain⟨x,r,F1,F2,rfl,_,h2,_⟩:=h;simp[OAs.len h2]
theorem OAs.split{I:Nat->Nat->Prop}:∀{xs ys:List OA}{us vs:List Value}{F:List Nat},OAs I w (xs++ys) (us++vs) F->xs.length=us.length->∃F1 F2,OAs I w xs us F1/\OAs I w ys vs F2/\F=F1++F2
 |[],ys,us,vs,F,h,hl=>by
  have:us=[]:=Qd hl.symm;subst this;exact⟨[],F,by simp[OAs],h,rfl⟩
 |x::xs,ys,us,vs,F,h,hl=>by
  cases us with
  |nil=>simp at hl
  |cons u us=>
   simp only[Qu,OAs]at h;obtain⟨v,r,F1,F2,e,h1,h2,rfl⟩:=h;injection e with e1 e2;subst e1;subst e2;obtain⟨F3,F4,k1,k2,rfl⟩:=OAs.split h2 (by simpa using hl);exact⟨F1++F3,F4,by simp only[OAs];exact⟨u,us,F1,F3,rfl,h1,k1,rfl⟩,k2,by simp⟩
mutual
theorem OCr.notI{I:Nat->Nat->Prop}:∀(c:OC){v:Value}{F:List Nat},OCr I w c v F->∀b∈F,∀o,¬I b o
 |.d _,v,F,h,b,hb,o=>by simp only[OCr]at h;rw[h.1]at hb;simp at hb
 |.e _,v,F,h,b,hb,o=>by simp only[OCr]at h;rw[h.1]at hb;simp at hb
 |.row _ e _,v,F,h,b,hb,o=>by
  simp only[OCr]at h;obtain⟨ex,_,rfl,h3,h4⟩:=h;rcases List.mem_append.1 hb with hb|hb
  ·exact h3 b o (by simpa using hb)
  ·by_cases he:Q4 e
   ·rw[Qx he]at hb;exact(h4 he).2 b hb o
   ·rw[Ql he]at hb;cases hb
 |.box cs,v,F,h,b,hb,o=>by
  simp only[OCr]at h;obtain⟨g,cur,ty,Fs,_,_,h3,rfl,h5⟩:=h;rcases List.mem_cons.1 hb with rfl|hb
  ·exact h5 o
  ·exact OCs.notI cs h3 b hb o
theorem OCs.notI{I:Nat->Nat->Prop}:∀(cs:List OC){vs:List Value}{F:List Nat},OCs I w cs vs F->∀b∈F,∀o,¬I b o
 |[],vs,F,h,b,hb,o=>by simp only[OCs]at h;rw[h.2]at hb;simp at hb
 |c::cs,vs,F,h,b,hb,o=>by
  simp only[OCs]at h;obtain⟨x,r,F1,F2,rfl,h1,h2,rfl⟩:=h;rcases List.mem_append.1 hb with hb|hb
  ·exact OCr.notI c h1 b hb o
  ·exact OCs.notI cs h2 b hb o
end
theorem OAs.notI{I:Nat->Nat->Prop}:∀(cs:List OA){vs:List Value}{F:List Nat},OAs I w cs vs F->∀b∈F,∀o,¬I b o
 |[],vs,F,h,b,hb,o=>by simp only[OAs]at h;rw[h.2]at hb;simp at hb
 |c::cs,vs,F,h,b,hb,o=>by
  simp only[OAs]at h;obtain⟨x,r,F1,F2,rfl,h1,h2,rfl⟩:=h;rcases List.mem_append.1 hb with hb|hb
  ·cases c <;> simp only[OAr]at h1
   ·exact OCr.notI _ h1 b hb o
   ·obtain⟨vs,_,h1⟩:=h1;exact OCs.notI _ h1 b hb o
   ·exact OCr.notI _ h1 b hb o
   ·exact OCr.notI _ h1 b hb o
  ·exact OAs.notI cs h2 b hb o
theorem dF:∀{xs:List OA}{avs:List AV}{vs:List Value},AVs G s w avs vs->AVs G s w (E9 xs avs) (D4 xs vs)
 |[],avs,vs,h=>by simp[E9,D4,AVs]
 |.bx cs::xs,[],vs,h=>by simp only[AVs]at h;subst h;simp[E9,D4,AVs]
 |.bx cs::xs,a::avs,vs,h=>by
  simp only[AVs]at h;obtain⟨v,r,rfl,h1,h2⟩:=h;simp only[E9,D4,AVs];exact⟨v,_,rfl,h1,dF h2⟩
 |.rx _ _ _::xs,[],vs,h=>by simp only[AVs]at h;subst h;simp[E9,D4,AVs]
 |.rx _ _ _::xs,a::avs,vs,h=>by
  simp only[AVs]at h;obtain⟨v,r,rfl,h1,h2⟩:=h;simp only[E9,D4,AVs];exact⟨v,_,rfl,h1,dF h2⟩
 |.c cs::xs,[],vs,h=>by simp only[AVs]at h;subst h;simp[E9,D4,AVs]
 |.c cs::xs,a::avs,vs,h=>by
  simp only[AVs]at h;obtain⟨v,r,rfl,h1,h2⟩:=h;simp only[E9,D4];exact dF h2
 |.agg cs::xs,[],vs,h=>by simp only[AVs]at h;subst h;simp[E9,D4,AVs]
 |.agg cs::xs,a::avs,vs,h=>by
  simp only[AVs]at h;obtain⟨v,r,rfl,h1,h2⟩:=h;simp only[E9,D4];exact dF h2
theorem sq(h:Rel W0 M G s a w):∀{vs:List Value}{i:Nat}{K:List AV->Prop},(∀k x,vs[k]?=some x->M.pin (i+k)=x)->(IY (s.n+i) vs.length).wp s K->∃avs,K avs/\AVs G s w avs vs
 |[],i,K,_,hq=>⟨[],hq,by simp[AVs]⟩
 |v::vs,i,K,hp,hq=>by
  simp only[Qg,IY,Q.wp]at hq;rw[Q.wp_bind]at hq;obtain⟨avs,hq,h2⟩:=sq h (i:=i+1) (vs:=vs) (λk x hk=>by have:=hp (k+1) x (by simpa using hk);rw[<-this];congr 1;omega) hq;refine⟨_,hq,?_⟩;simp only[AVs];refine⟨v,vs,rfl,?_,h2⟩;have h1:=h.pin i;have h3:=hp 0 v (by simp);rw[RT]at h3;rw[h3]at h1;exact h1
theorem oI(g:Bool):∀(vs:List AV) (i:Nat) (s:St),(s.app (tU g i vs)).n=s.n/\(s.app (tU g i vs)).b=s.b/\(s.app (tU g i vs)).r=s.r
 |[],_,_=>⟨rfl,rfl,rfl⟩
 |v::vs,i,s=>oI g vs (i+1) (s.setT i ⟨g,v⟩)
theorem oJ(g:Bool):∀(vs:List AV) (i:Nat) (s:St) (j:Nat),(j<i\/i+vs.length<=j)->(s.app (tU g i vs)).t j=s.t j
 |[],_,_,_,_=>rfl
 |v::vs,i,s,j,h=>by
  simp only[Qg]at h;refine(oJ g vs (i+1) (s.setT i ⟨g,v⟩) j (by omega)).trans ?_;have:j≠i:=by omega
  simp[St.setT,upd,this]
theorem wL(g:Bool):∀(vs:List AV) (i:Nat) (s:St) (j:Nat) (v:AV),vs[j]?=some v->(s.app (tU g i vs)).t (i+j)=⟨g,v⟩
 |[],_,_,_,_,h=>by simp at h
 |v::vs,i,s,j,u,h=>by
  cases j with
  |zero=>
   simp at h;subst h;refine(oJ g vs (i+1) (s.setT i ⟨g,v⟩) (i+0) (by omega)).trans ?_;simp[St.setT,upd]
  |succ j=>
   have:=wL g vs (i+1) (s.setT i ⟨g,v⟩) j u (by simpa using h);rw[show i+(j+1)=i+1+j from by omega];exact this
theorem NP{f:FuncId}{fn:Func}{c:Code}{S:fg}(hT:∀t i,T t=some i->TOk P t i) (hf:P.funcs[f]?=some fn) (hb:fn.body=some c) (hname:(fn.name== "runtime.NumGoroutine")=false) (B:Nat)
  (h:∀xs,S.pre xs->xs.length<=fn.ntmps/\∃sh,(EI B xs).wp (Z9 fn.ntmps [] [] []) λk=>Tri P c (NO T fn.ntmps (E9 xs k.avs).length fn.results.toList sh (S.post xs) (S.res xs)) ((((Z9 fn.ntmps [] [] []).app k.us).app (tU true 0 k.avs)).app (tU false fn.ntmps (E9 xs k.avs)))) (hsp:S.sp= .none:=by rfl):CH P f S:=by
 refine⟨by rw[hsp];trivial,⟨fn,hf,by rw[hb];rfl,hname⟩,λw I F args xs hIn hgl hargs hF hpre=>?_⟩;obtain⟨hlen,sh,hq⟩:=h xs hpre;refine calls_of_wp hf hb ?_;generalize hn:fn.ntmps=n at *
 have hal:args.size<=n:=by rw[<-PZ,<-hargs.len];exact hlen
 let M:Own:=⟨(· ∈ F),I,λk=>(D4 xs args.toList).getD k undef⟩;let G0:Gh:=⟨I,λ_=>0,λ_=>.slice none 0 0,λ_=>(undef,0),λ_=>[]⟩;have hown0:∀x,own G0 (Z9 n [] [] []) x=[]:=λx=>by cases x <;> rfl
 have m0:Mem w M G0 (Z9 n [] [] []) w:=⟨λid cs hc=>(by cases hc),λid R hc=>(by cases hc),λx y b hx=>(by rw[hown0]at hx;cases hx),λid hc=>(by cases hc),λid R g hc=>(by cases hc),λx b hx=>(by rw[hown0]at hx;cases hx),hIn,⟨rfl,rfl,rfl,PW _,λ_ _ _=>rfl⟩,⟨λ_ _ h=>h,λ_ _ h=>⟨.inl h,λ_=>h⟩⟩,⟨hgl,λb o hi _ hn=>absurd hi hn⟩,λid R hc=>(by cases hc),λid R hc=>(by cases hc)⟩;obtain⟨k,G',hK,made,hav⟩:=ly xs hq m0 hargs hF (λb hb=>⟨λx hx=>(by rw[hown0]at hx;cases hx),.inr hb⟩) (λ_ _=>⟨rfl,rfl⟩);have htops:=dF (xs:=xs) hav;have havl:=hav.len;rw[PZ]at havl;generalize hs1:(((Z9 n [] [] []).app k.us).app (tU true 0 k.avs)).app (tU false n (E9 xs k.avs))=s1 at *
 obtain⟨a1,a2,a3⟩:=oI true k.avs 0 ((Z9 n [] [] []).app k.us);obtain⟨b1,b2,b3⟩:=oI false (E9 xs k.avs) n (((Z9 n [] [] []).app k.us).app (tU true 0 k.avs));rw[hs1]at b1 b2 b3;have hs1n:s1.n=n:=b1.trans (a1.trans made.n_);have hE:Ext G' ((Z9 n [] [] []).app k.us) w G' s1 w:=by
  have:=Ext.slots G' ((Z9 n [] [] []).app k.us) w s1.n s1.t;have e:(⟨s1.n,s1.t,((Z9 n [] [] []).app k.us).b,((Z9 n [] [] []).app k.us).r⟩:St)=s1:=by rw[<-a2,<-a3,<-b2,<-b3]
  rw[e]at this;exact this
 have hM1:Mem w M G' s1 w:=by
  have:=made.mem.slots s1.n s1.t;have e:(⟨s1.n,s1.t,((Z9 n [] [] []).app k.us).b,((Z9 n [] [] []).app k.us).r⟩:St)=s1:=by rw[<-a2,<-a3,<-b2,<-b3]
  rw[e]at this;exact this
 have ht_lo:∀j,j<n->s1.t j=(((Z9 n [] [] []).app k.us).app (tU true 0 k.avs)).t j:=λj hj=>by rw[<-hs1];exact oJ false _ _ _ _ (.inl hj)
 have ht_base:∀j,k.avs.length<=j->(((Z9 n [] [] []).app k.us).app (tU true 0 k.avs)).t j=⟨decide (j<n),.any⟩:=λj hj=>by
  rw[oJ true _ _ _ _ (.inr (by omega)),made.t];rfl
 have hR:Rel w M G' s1 {tmps:=args++Array.replicate (n-args.size) undef,defers:=[]} w:=by
  refine⟨by rw[hs1n];simp;omega,rfl,λj=>?_,hM1,λj=>?_⟩
  ·by_cases hj:j<n
   ·rw[ht_lo j hj];by_cases hja:j<k.avs.length
    ·have hget:k.avs[j]?=some k.avs[j]:=List.getElem?_eq_getElem hja;have e:=wL true k.avs 0 ((Z9 n [] [] []).app k.us) j _ hget;rw[Qo]at e;rw[e];obtain⟨v,hv,hr⟩:=hav.get hget;refine⟨λ_=>?_,λe=>by cases e⟩;have:(args++Array.replicate (n-args.size) undef).getD j undef=v:=by
      rw[Array.getD_eq_getD_getElem?,Array.getElem?_append_left (by omega)];rw[Array.getElem?_toList]at hv;rw[hv];rfl
     simp only[this];exact hE.av _ hr
    ·rw[ht_base j (by omega)];exact⟨λ_=>by simp only[AVr],λe=>by simp[hj]at e⟩
   ·have hu:(args++Array.replicate (n-args.size) undef).getD j undef=undef:=by
     rw[Array.getD_eq_getD_getElem?,Array.getElem?_eq_none (by simp;omega)];rfl
    have hg:(s1.t j).g=false:=by
     by_cases hp:j<n+(E9 xs k.avs).length
     ·have hget:(E9 xs k.avs)[j-n]?=some (E9 xs k.avs)[j-n]:=List.getElem?_eq_getElem (by omega);have e:=wL false (E9 xs k.avs) n (((Z9 n [] [] []).app k.us).app (tU true 0 k.avs)) (j-n) _ hget;rw[show n+(j-n)=j from by omega,hs1]at e;rw[e]
     ·rw[<-hs1,oJ false _ _ _ _ (.inr (by omega)),ht_base j (by omega)];simp[hj]
    exact⟨λe=>(by rw[hg]at e;cases e),λ_=>hu⟩
  ·rw[hs1n];by_cases hp:j<(E9 xs k.avs).length
   ·have hget:(E9 xs k.avs)[j]?=some (E9 xs k.avs)[j]:=List.getElem?_eq_getElem hp;have e:=wL false (E9 xs k.avs) n (((Z9 n [] [] []).app k.us).app (tU true 0 k.avs)) j _ hget;rw[hs1]at e;rw[e];obtain⟨v,hv,hr⟩:=htops.get hget;have:M.pin j=v:=by
     show(D4 xs args.toList).getD j undef=v;rw[List.getD_eq_getElem?_getD,hv];rfl
    rw[this];exact hE.av _ hr
   ·rw[<-hs1,oJ false _ _ _ _ (.inr (by omega)),ht_base _ (by omega)];simp only[AVr]
 refine wp_mono (hK w M _ w ⟨G',hR⟩) λe a' w' hqk=>?_;have key:∀s',fA w M s' a' w'->(s'.n=n/\(S.post xs).length=(E9 xs k.avs).length/\(CJ T n (E9 xs k.avs).length fn.results.toList sh (S.post xs) (S.res xs)).wp s' λ_=>True)->
   a'.defers=[]/\∃v,(results fn a'.tmps).run P w'= .ok v w'/\∃I' vs Fp Fr',v=uM vs/\Ret S I w xs args.toList F w' I' vs Fp Fr':=by
  rintro s' ⟨G2,h2⟩ ⟨hn2,hpl,ho⟩;unfold CJ at ho;rw[Q.wp_bind]at ho;have hm:(E9 xs k.avs).length=(D4 xs args.toList).length:=htops.len;rw[hm,<-hn2]at ho;obtain⟨ps,ho1,hps⟩:=sq h2 (i:=0) (vs:=D4 xs args.toList) (λk x hk=>by
   show(D4 xs args.toList).getD (0+k) undef=x;rw[Qo,List.getD_eq_getElem?_getD,hk];rfl) ho
  clear ho;rw[Q.wp_bind]at ho1;obtain⟨avs,vs,ho2,hvs,hrun⟩:=oH h2 hT ho1;clear ho1;rw[Q.wp_bind]at ho2;obtain⟨kk,foot,ho3,Tk⟩:=iC h2.mem _ (hps.app hvs) ho2;clear ho2;obtain⟨⟨hxs,hnd,hfz⟩,ho4⟩:=ho3;rw[Q.wp_bind]at ho4;obtain⟨us1,G1,_,m1,e1,hfd,hfrz,hbx,hrw,hfr,hexq⟩:=bq s' ho4 h2.mem (Frz.refl s');have hoas:=Tk.oas G1.I (uN h2.mem Tk hfz m1 e1 hfd hfrz hbx hrw hexq hfr);rw[hxs]at hoas;obtain⟨Fp,Fr',p1,p2,p3⟩:=OAs.split hoas (by rw[hpl,hm]);refine⟨h2.df,_,lz hrun,G1.I,vs,Fp,Fr',rfl,⟨h2.mem.fr,m1.ii.1,λb o hi=>?_,λb o hi=>(m1.ii.2 b o hi).1,m1.In,p1,p2,?_,λb hb=>?_,λb o hi ho=>(m1.ii.2 b o hi).2 ho,m1.gl.2⟩⟩
  ·refine dY (h2.mem.fr.block b (hIn b o hi) (λhm=>?_));exact OAs.notI xs hargs b hm o hi
  ·rw[<-p3];exact js (Tk.nodup hnd) h2.mem
  ·rw[<-p3]at hb;obtain⟨x,_,hx⟩:=List.mem_flatMap.1 hb;exact(h2.mem.oM x b hx).symm
 cases e with
 |normal=>obtain⟨s',h1,h2⟩:=hqk;exact key s' h1 h2
 |ret=>obtain⟨s',h1,h2⟩:=hqk;exact key s' h1 h2
 |exit i=>obtain⟨s',h1,h2⟩:=hqk;exact h2.elim
 |goto l=>exact hqk.elim
 |panic c=>exact hqk.elim
 |outgrown=>exact hqk.elim
end
def yS(k:TK) (x:AV):Q Nat:=match k with
 |.slice _=>Ln x
 |.str=>rT x
 |.map _ _=>oh x
 |_=>.fail
def mmQ(f:Int->Int->Int) (x y:AV):Q AV:=match x,y with
 |.c (.d (.v (.int k a))),.c (.d (.v (.int _ b)))=>.ret (.c (.d (.v (.int k (f a b)))))
 |_,_=>.fail
def qz(T:TypeId->Option TI) (b:Builtin) (o:Oper) (c:Call):Q (List Upd):=match b with
 |.len=>match c.args.toList,c.argTypes.toList with
  |[x],[t]=>(tq T t).bind λi=>(ev x).bind λx=>(yS i.k x).bind λn=>one o.dst (.c (.d (.v (.int .i64 (n:Int)))))
  |_,_=>.fail
 |.append=>match c.args.toList,c.argTypes.toList with
  |[x,y],[t,t']=>(tq T t).bind λi=>match i.k with
   |.slice e=>(tq T e).bind λie=>(Q.ofOpt o.dst).bind λd=>.req (t=t'/\0<ie.size) ((ev x).bind λx=>(ev y).bind λy=>match x,y with
    |.c x,.c y=>og d e ie.size ie.bytes x y
    |_,_=>.fail)
   |_=>.fail
  |_,_=>.fail
 |.delete=>match c.args.toList,c.argTypes.toList with
  |[x,y],t::_=>(tq T t).bind λi=>match i.k with
   |.map kt vt=>(tq T kt).bind λik=>(tq T vt).bind λiv=>(ev x).bind λm=>(ev y).bind λk=>(ws T ik k).bind λkv=>(Lr ik iv kv m).bind λus=>.ret (us++rO o.dst .any)
   |_=>.fail
  |_,_=>.fail
 |.clear=>match c.args.toList,c.argTypes.toList with
  |[x],[t]=>(tq T t).bind λi=>match i.k with
   |.slice e=>(tq T e).bind λie=>(ev x).bind λx=>(Lo ie x).bind λus=>.ret (us++rO o.dst .any)
   |_=>.fail
  |_,_=>.fail
 |.max=>match c.args.toList with
  |[x,y]=>(ev x).bind λx=>(ev y).bind λy=>(mmQ max x y).bind (one o.dst)
  |_=>.fail
 |.min=>match c.args.toList with
  |[x,y]=>(ev x).bind λx=>(ev y).bind λy=>(mmQ min x y).bind (one o.dst)
  |_=>.fail
 |_=>.fail
def fnQ:AV->Q (Nat×List AV)
 |.c (.d (.v (.func (.func f) a b)))=>.req (a= #[]/\b= #[]) (.ret (f,[]))
 |.c (.d (.clo f cs))=>.ret (f,[.c (.eptr cs)])
 |_=>.fail
theorem Jd{G:Gh}{s:St}{w:World}{v:AV}{u:Value}{K:Nat×List AV->Prop}(hv:AVr G s w v u) (hq:(fnQ v).wp s K):∃(f:FuncId) (ex:List AV) (cap:Array Value),u= .func (.func f) #[] cap/\AVs G s w ex cap.toList/\K (f,ex):=by
 unfold fnQ at hq;split at hq
 ·obtain⟨⟨rfl,rfl⟩,hq⟩:=hq;simp only[AVr,ACr,DVr]at hv;exact⟨_,[],#[],hv.1,by simp only[AVs],hq⟩
 ·simp only[AVr,ACr,DVr]at hv;obtain⟨ad,xs,h1,h2,h3⟩:=hv;exact⟨_,_,_,h1,by simp only[AVs,AVr,ACr];exact⟨_,_,rfl,⟨ad,xs,rfl,h2,h3⟩,rfl⟩,hq⟩
 ·exact hq.elim
def qA:AV->Nat
 |.c (.d (.v (.pointer none)))=>1
 |.c (.d (.it t _))=>2+t
 |_=>0
def oK:List AV->Nat
 |[]=>0
 |v::vs=>qA v+5000*oK vs
def uO(T:TypeId->Option TI) (Γ:List (Nat×fg)) (o:Oper) (c:Call):Q (List Upd):=match c.callee with
 |.value x=>(ev x).bind λv=>(fnQ v).bind λf=>(evs c.args.toList).bind λxs=>.req (f.1<1000000) (match U6 Γ (f.1+oK xs*1000000) with
  |some S=>match S.sp with
   |.none=>yO S o c f.2
   |sp=>match f.2 with
    |[]=>spQ sp o c
    |_=>.fail
  |none=>.fail)
 |.builtin b=>qz T b o c
 |_=>.fail
section
variable {P:Program}{T:TypeId->Option TI}{o:Oper}
theorem dG{α:Type}{xs:Array α}{x y:α}(h:xs.toList=[x,y]):xs= #[x,y]:=by
 cases xs;simp only at h;subst h;rfl
theorem yT{t:TypeId}{d:TypeDesc}(hu:P.underlying t=some d) (ty:TypeId) (v:Value) (w:World) (n:Nat) (h:(d= .string/\∃b:ByteArray,v= .string b/\n=b.size)\/(∃e,d= .slice e)/\∃A c,v= .slice A n c) :
  (Builtin.len_ #[t] ty #[v]).run P w= .ok (.int .i64 (n:Int)) w:=by
 rcases h with⟨rfl,b,rfl,rfl⟩|⟨⟨e,rfl⟩,A,c,rfl⟩ <;> simp[Builtin.len_,run_underlying hu,goInt]
theorem Je{f:Int->Int->Int}{G:Gh}{s:St}{w:World}{x y:AV}{u v:Value}{K:List Upd->Prop}(hx:AVr G s w x u) (hy:AVr G s w y v) (hq:(mmQ f x y).wp s λz=>(one o.dst z).wp s K) :
  ∃k a k' b,u= .int k a/\v= .int k' b/\K (rO o.dst (.c (.d (.v (.int k (f a b)))))):=by
 unfold mmQ at hq;split at hq
 ·rename_i k a k' b;simp only[AVr,ACr,DVr]at hx hy;exact⟨k,a,k',b,hx.1,hy.1,hq⟩
 ·exact hq.elim
theorem CL(hT:∀t i,T t=some i->TOk P t i){b:Builtin}{c:Call}(ho:o.op= .call c) (hc:c.callee= .builtin b):xO P o (qz T b o c):=by
 intro W0 M s a w K Q' hd hR hq;obtain⟨G,h⟩:=hR;have hexec:∀(args:List Operand),c.args=args.toArray->∀r w',(∀consts,(Go.builtin b c.argTypes o.type consts (args.map a.eval).toArray).run P w= .ok r w')->(execOp a.eval o).run P w= .ok r w':=λargs ha r w' hb=>by
  unfold execOp;rw[ho];simp only[resolve,hc,ha];simp[invoke];exact hb _
 unfold qz at hq;split at hq
 ·split at hq
  ·rename_i x t hx ht;obtain⟨i,hi,hq1⟩:=H2 (by rw[Q.wp_bind]at hq;exact hq);rw[Q.wp_bind]at hq1;obtain⟨v,hq2,hv⟩:=K3 h hq1;rw[Q.wp_bind]at hq2;have hargs:=ct hx;have hty:=ct ht;obtain⟨d,hu,hk⟩:=(hT t i hi).und;have fin:∀n:Nat,one o.dst (.c (.d (.v (.int .i64 (n:Int)))))= .ret (rO o.dst (.c (.d (.v (.int .i64 (n:Int)))))):=λ_=>rfl;have fin2:∀n:Nat,((d= .string/\∃b:ByteArray,a.eval x= .string b/\n=b.size)\/(∃e,d= .slice e)/\∃A c,a.eval x= .slice A n c)->K (rO o.dst (.c (.d (.v (.int .i64 (n:Int))))))->bU P W0 M s o a w K Q':=λn hn hK=>by
    refine O0 (v:=.int .i64 (n:Int)) h hd ?_ hK (hexec [x] hargs (.value (.int .i64 (n:Int))) w λconsts=>?_)
    ·simp only[AVr,ACr,DVr];exact⟨trivial,rfl⟩
    ·have:=yT hu o.type (a.eval x) w n hn;rw[hty];simp[Go.builtin,this]
   unfold yS at hq2;split at hq2
   ·rename_i e hki;rw[hki]at hk;obtain⟨A,n,cc,hv',hK⟩:=IE h hv hq2;exact fin2 n (.inr ⟨⟨e,hk⟩,A,cc,hv'⟩) hK
   ·rename_i hki;rw[hki]at hk;unfold rT at hq2;split at hq2
    ·rename_i str;simp only[AVr,ACr,DVr]at hv;exact fin2 str.size (.inl ⟨hk,str,hv.1,rfl⟩) hq2
    ·exact hq2.elim
   ·rename_i kt vt hki;rw[hki]at hk;obtain⟨g,en,ck,hv',hh,hK⟩:=yQ h hv hq2;refine O0 (v:=.int .i64 (en.size:Int)) h hd ?_ hK (hexec [x] hargs (.value (.int .i64 (en.size:Int))) w λconsts=>?_)
    ·simp only[AVr,ACr,DVr];exact⟨trivial,rfl⟩
    ·have:=wM (P:=P) hk hu o.type hh;rw[hty];simp[Go.builtin,hv',this]
   ·exact hq2.elim
  ·exact hq.elim
 ·split at hq
  ·rename_i x y t t' hx ht;obtain⟨i,hi,hq1⟩:=H2 (by rw[Q.wp_bind]at hq;exact hq);clear hq;split at hq1
   ·rename_i e hki;obtain⟨ie,hie,hq2⟩:=H2 (by rw[Q.wp_bind]at hq1;exact hq1);clear hq1;obtain⟨d,hdd,hq3⟩:=H2 (by rw[Q.wp_bind]at hq2;exact hq2);clear hq2;obtain⟨⟨rfl,hz0⟩,hq4⟩:=hq3;rw[Q.wp_bind]at hq4;obtain⟨v,hq5,hv⟩:=K3 h hq4;clear hq4;rw[Q.wp_bind]at hq5;obtain⟨u,hq6,hu⟩:=K3 h hq5;clear hq5;split at hq6
    ·obtain⟨dd,hun,hk⟩:=(hT t i hi).und;rw[hki]at hk;subst hk;refine IF (hT e ie hie) hz0 hun h hdd (hd d hdd) (C2 hv) (C2 hu) hq6 λr w' hr=>hexec [x,y] (dG hx) _ _ λconsts=>?_;rw[dG ht];simp[Go.builtin,hr]
    ·exact hq6.elim
   ·exact hq1.elim
  ·exact hq.elim
 ·split at hq
  ·rename_i x y t ts hx ht;rw[Q.wp_bind]at hq;obtain⟨i,hi,hq1⟩:=M3 hq;clear hq;obtain⟨dd,hun,hk⟩:=(hT t i hi).und;split at hq1
   ·rename_i kt vt hki;rw[hki]at hk;simp only at hk;subst hk;simp only[Q.wp_bind]at hq1;obtain⟨ik,hik,hq2⟩:=M3 hq1;obtain⟨iv,hiv,hq3⟩:=M3 hq2;obtain⟨m,hq4,hm⟩:=K3 h hq3;obtain⟨k,hq5,hkv⟩:=K3 h hq4;obtain⟨kv,hq6,hkv,hKO,hL⟩:=ov hT (hT kt ik hik) hkv hq5;obtain⟨us,w',hK,hrun,hn,hR'⟩:=IZ hun hKO h hL hm hq6;rw[<-hkv]at hrun;refine J6 (w':=w') (v:=.tuple #[]) (hexec [x,y] (dG hx) _ _ λconsts=>?_) ⟨_,hK,?_⟩
    ·have:c.argTypes[0]?=some t:=by
      rw[<-Array.getElem?_toList,ht];rfl
     simp[Go.builtin,hrun c.argTypes o.type this]
    ·rw[St.app_append];obtain⟨G',hR'⟩:=hR';exact hR'.putOne (λd hdd=>by rw[hn];exact hd d hdd) (by simp only[AVr])
   ·exact hq1.elim
  ·exact hq.elim
 ·split at hq
  ·rename_i x t hx ht;rw[Q.wp_bind]at hq;obtain⟨i,hi,hq1⟩:=M3 hq;clear hq;obtain⟨dd,hun,hk⟩:=(hT t i hi).und;split at hq1
   ·rename_i e hki;rw[hki]at hk;simp only at hk;subst hk;simp only[Q.wp_bind]at hq1;obtain⟨ie,hie,hq2⟩:=M3 hq1;obtain⟨v,hq3,hv⟩:=K3 h hq2;obtain⟨us,w',hK,hrun,hn,hR'⟩:=Ja (hT e ie hie) hun h hv hq3;refine J6 (w':=w') (v:=.tuple #[]) (hexec [x] (ct hx) _ _ λconsts=>?_) ⟨_,hK,?_⟩
    ·have:c.argTypes[0]?=some t:=by
      rw[<-Array.getElem?_toList,ht];rfl
     simp[Go.builtin,hrun c.argTypes o.type this]
    ·rw[St.app_append];obtain⟨G',hR'⟩:=hR';exact hR'.putOne (λd hdd=>by rw[hn];exact hd d hdd) (by simp only[AVr])
   ·exact hq1.elim
  ·exact hq.elim
 ·split at hq
  ·rename_i x y hx;rw[Q.wp_bind]at hq;obtain⟨v,hq1,hv⟩:=K3 h hq;clear hq;rw[Q.wp_bind]at hq1;obtain⟨u,hq2,hu⟩:=K3 h hq1;clear hq1;rw[Q.wp_bind]at hq2;obtain⟨k,a',k',b',e1,e2,hK⟩:=Je hv hu hq2;refine O0 (v:=.int k (max a' b')) h hd ?_ hK (hexec [x,y] (dG hx) _ _ λconsts=>?_)
   ·simp only[AVr,ACr,DVr];exact⟨trivial,rfl⟩
   ·simp only[PQ,Qs,e1,e2];have e3:(if b' > a' then b' else a')=max a' b':=by simp only[Int.max_def];split <;> split <;> omega
    simp[Go.builtin,Builtin.max_,Builtin.max2,e3]
  ·exact hq.elim
 ·split at hq
  ·rename_i x y hx;rw[Q.wp_bind]at hq;obtain⟨v,hq1,hv⟩:=K3 h hq;clear hq;rw[Q.wp_bind]at hq1;obtain⟨u,hq2,hu⟩:=K3 h hq1;clear hq1;rw[Q.wp_bind]at hq2;obtain⟨k,a',k',b',e1,e2,hK⟩:=Je hv hu hq2;refine O0 (v:=.int k (min a' b')) h hd ?_ hK (hexec [x,y] (dG hx) _ _ λconsts=>?_)
   ·simp only[AVr,ACr,DVr];exact⟨trivial,rfl⟩
   ·simp only[PQ,Qs,e1,e2];have e3:(if b'<a' then b' else a')=min a' b':=by simp only[Int.min_def];split <;> split <;> omega
    simp[Go.builtin,Builtin.min_,Builtin.min2,e3]
  ·exact hq.elim
 ·exact hq.elim
theorem lB(hT:∀t i,T t=some i->TOk P t i){Γ:List (Nat×fg)}(hΓ:∀p∈Γ,CH P (p.1%1000000) p.2) (o:Oper) (c:Call) (ho:o.op= .call c):xO P o (uO T Γ o c):=by
 unfold uO;split
 ·rename_i x hc;intro W0 M s a w K Q' hd hR hq;obtain⟨G,h⟩:=hR;rw[Q.wp_bind]at hq;obtain⟨v,hq,hv⟩:=K3 h hq;rw[Q.wp_bind]at hq;obtain⟨f,ex,cap,hf,hex,hq⟩:=Jd hv hq;rw[Q.wp_bind]at hq;obtain⟨xs,hq,_⟩:=uu h hq;obtain⟨hlt,hq⟩:=hq;split at hq
  ·rename_i S hS;have hF:CH P f S:=by
    have:=hΓ _ (bl hS);simp only[Nat.add_mul_mod_self_right]at this;rw[Ti hlt]at this;exact this
   split at hq
   ·exact wJ ho hc hf hF hd h hex hq
   ·rename_i sp hne;cases ex with
    |nil=>
     simp only[AVs]at hex;have hcap:cap= #[]:=by cases cap;simp only at hex;subst hex;rfl
     subst hcap;exact Gi ho hc hf hF rfl hd ⟨G,h⟩ hq
    |cons _ _=>exact hq.elim
  ·exact hq.elim
 ·rename_i b hc;exact CL hT ho hc
 ·intro W0 M s a w K Q' hd hR hq;exact hq.elim
end
section
variable (T:TypeId->Option TI) (cq:Oper->Call->Q (List Upd))
end
theorem uQ{α β:Type}(f:α->β):∀(l:List (Nat×α)) (k:Nat),(U6 l k).map f=U6 (l.map λp=>(p.1,f p.2)) k
 |[],_=>rfl
 |(j,x)::l,k=>by
  simp only[U6,PQ];split
  ·rfl
  ·exact uQ f l k
theorem CM(a:Int) (m:Nat):a.fdiv (2^m)=a / 2^m:=Int.fdiv_eq_ediv_of_nonneg a (Int.le_of_lt (Int.pow_pos (by decide)))
theorem Jf(k:IntKind) (a b:Int):il .shr k a b= .req (0<=b) (.ret (.int k (a / (2^(min b.toNat k.bits))))):=by rw[<-CM];rfl
section
variable (T:TypeId->Option TI) (cq:Oper->Call->Q (List Upd))
end
section
variable {P:Program}{T:TypeId->Option TI}{cq:Oper->Call->Q (List Upd)}{K:AX->St->Prop}{s:St}
end
theorem qB(x:UInt8):io (ec x)=x:=by simp[io,ec]
theorem wN(l:List UInt8):(l.map ec).map io=l:=by
 rw[QN]
 conv=>rhs;rw[<-TE l]
 exact Rh λx _=>qB x
theorem sr{α β:Type}(f:α->β){l:List α}{i:Nat}(h:i<l.length) (d:β) (d':α):(l.map f).getD i d=f (l.getD i d'):=by
 simp only[List.getD_eq_getElem?_getD,List.getElem?_map,List.getElem?_eq_getElem h,Qm,Qq]
end Go.Proofs.YthkhcbphbabefaaGreat.Am
