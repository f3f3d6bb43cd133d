/- Texts laid together: AmEnt, AmEnt2, AmEnt3, AmApp, AmReg, AmCode, AmLe, AmDraw, AmSpec, AmTake, AmCall, AmCall2, AmCall3, AmKeys, AmFn, AmBuilt, AmEval. No conditions. -/
import Derived.Test.YtacnfjjkhpkloaaGreatKA
import Derived.Below
import Derived.Laws.Entries
import Derived.Laws.Bits64
namespace Go.Proofs.YtacnfjjkhpkloaaGreat.Am
open Go Go.MapKept
section
variable {P:Program} {W0:World} {M:Own} {G:Gh} {s:St} {a:Act} {w:World} {o:Oper} {K:List Upd->Prop} {Q':Exit->Act->World->Prop}
theorem b5C {kv:Value} {c:List DV} (hc:a0M kv (kOf c)=true):∀ {es:List (List DV)},a4z kv es=none->a4z kv (es ++ [c])=some es.length
 | [],_=>by simp [a4z,hc]
 | e :: es,h=>by
  unfold a4z at h
  split at h
  ·cases h
  ·rename_i hs
   have h':a4z kv es=none:=by simpa using h
   simp [a4z,hs,b5C hc h']
theorem b5D {kv:Value} {c:List DV} (hc:a0M kv (kOf c)=true):∀ {es:List (List DV)} {j:Nat},a4z kv es=some j->a4z kv (es.set j c)=some j
 | [],_,h=>by cases h
 | e :: es,j,h=>by
  unfold a4z at h
  split at h
  ·injection h with h;subst h;simp [a4z,hc]
  ·rename_i hs
   obtain⟨i,h1,rfl⟩:=Option.map_eq_some_iff.1 h
   simp [a4z,hs,b5D hc h1]
theorem c1e {kv:Value} {x:List DV} {es:List (List DV)} (hs:a0M kv kv=true):a4z kv (a8e kv x es)=some ((a4z kv es).getD es.length):=by
 unfold a8e
 cases h:a4z kv es with
 | none=>exact b5C (by exact hs) h
 | some j=>exact b5D (by exact hs) h
theorem b8v {k:TK} {kv u:Value} (hk:wid k=none->KK k kv) (hu:KA k u) (hs:a0M kv u=true):u=kv:=by
 cases hw:wid k with
 | none=>
  have h1:=hk hw
  have h2:=(a7y hw).1 hu
  clear hk hu hw
  cases kv <;> try (exfalso;exact Bool.false_ne_true hs)
  case int q a=>
   cases u <;> try (exfalso;exact Bool.false_ne_true hs)
   case int q' b=>
    have hs:a=b:=of_decide_eq_true hs
    cases k <;> try exact h1.elim
    case int q0=>
     have h1:q=q0:=h1
     have h2:q'=q0:=h2
     rw [h1,h2,hs]
  case string a=>
   cases u <;> try (exfalso;exact Bool.false_ne_true hs)
   case string b=>
    have hs:a.data.toList=b.data.toList:=of_decide_eq_true hs
    obtain⟨⟨a⟩⟩:=a
    obtain⟨⟨b⟩⟩:=b
    simp only at hs
    rw [hs]
 | some n=>
  unfold KA at hu
  rw [hw] at hu
  cases u <;> try exact hu.elim
  case string q=>
   cases kv <;> try (exfalso;exact Bool.false_ne_true hs)
   case string p=>
    have hs:p.data.toList=q.data.toList:=of_decide_eq_true hs
    obtain⟨⟨p⟩⟩:=p
    obtain⟨⟨q⟩⟩:=q
    simp only at hs
    rw [hs]
theorem KL.self {k:TK} {kv:Value} (h:KL k kv):a0M kv kv=true:=by
 cases hw:wid k with
 | none=>
  have h1:=(a3N hw).1 h
  unfold KK at h1
  split at h1
  ·simp [a0M]
  ·simp [a0M]
  ·exact h1.elim
 | some n=>
  unfold KL at h
  rw [hw] at h
  obtain⟨s,rfl,_⟩:=h
  simp [a0M]
theorem c3y {t kt vt:TypeId} {k:TK} {iv:TI} (hm:P.underlying t=some (.map kt vt)) (hK:b0r P kt k) (hTv:TOk P vt iv) {g:Nat} {entries:Array MapEntry} {clock:Nat} (hh:w.heap[g]?=some (.map entries clock)) {I:Nat->Nat->Prop} {e:Nat} {es:List (List DV)} (f1:mKs e=(wid k).getD 1) (f2:mKa e=(wid k).isSome) (f3:mVa e=iv.agg)
  (hme:MEs I w e es entries.toList) (hb:a8c entries.toList clock) {kv:Value} (hkk:KL k kv) (hall:a5s k es) :
  ∃ entries' clock' u i m,(Instr.mapEntry t (.map (some g)) (X1 k kv)).run P w= .ok (.tuple #[u,.int .i64 (m.born:Int)]) {w with heap:=w.heap.setIfInBounds g (.map entries' clock')}/\MEs I w e (a8e kv ((a6x kv es).getD (iv.zero.map a2S)) es) entries'.toList/\a8c entries'.toList clock'/\
   a4z kv (a8e kv ((a6x kv es).getD (iv.zero.map a2S)) es)=some i/\entries'.toList[i]?=some m:=by
 have hf:=hK.find hkk f1 f2 hme hall w
 have hck:=fun em=>hK.check hkk w em
 have hsame:a0M kv kv=true:=hkk.self
 obtain⟨z,hz,hzc⟩:=c2M hTv (I:=I) w
 rw [c1e hsame]
 have hlen:es.length=entries.toList.length:=hme.len.symm
 cases hidx:a4z kv es with
 | none=>
  rw [hidx] at hf
  simp only [Option.map_none] at hf
  refine⟨entries.push ⟨X1 k kv,z,clock⟩,clock + 1,z,es.length,⟨X1 k kv,z,clock⟩,?_,?_,?_,rfl,?_⟩
  ·simp [Instr.mapEntry,run_underlying hm,MapKept.run_getObj_map hh,hck,hf,MapKept.run_setObj_map _ hh,hz,goInt]
  ·simp only [a8e,hidx,a6x,Option.map_none,Option.getD_none,Array.toList_push]
   exact MEs.app (b8q f1 f2 f3 hkk hzc clock) hme
  ·rw [Array.toList_push]
   refine⟨List.pairwise_append.2 ⟨hb.1,by simp,fun x hx y hy=>?_⟩,fun x hx=>?_⟩
   ·simp only [List.mem_singleton] at hy;subst hy;exact hb.2 x hx
   ·rcases List.mem_append.1 hx with hx | hx
    ·have:=hb.2 x hx;omega
    ·simp only [List.mem_singleton] at hx;subst hx;exact Nat.lt_succ_self _
  ·rw [Array.toList_push,hlen];simp
 | some j=>
  rw [hidx] at hf
  simp only [Option.map_some] at hf
  obtain⟨hj,hsv⟩:=a6Y hidx
  obtain⟨m,hmj,hM⟩:=hme.get hj
  have hmem:es.getD j [] ∈ es:=by rw [List.getD_eq_getElem?_getD,List.getElem?_eq_getElem hj];exact List.getElem_mem hj
  obtain⟨k1,k2,_⟩:=b5A f1 f2 hM (hall _ hmem)
  have hkey:m.key=X1 k kv:=by rw [k1,hK.same hkk k2 hsv]
  have h2:entries[0 + j]?=some m:=by
   have h2:entries[0 + j]?=entries.toList[j]?:=by simp
   rw [h2,hmj]
  have hold:((entries[0 + j]?).map (·.key)).getD (X1 k kv)=X1 k kv:=by rw [h2];simp [hkey]
  have hbo:((entries[0 + j]?).map (fun x=>(x.born:Int))).getD 0=(m.born:Int):=by rw [h2];rfl
  have hcv:=hM.2
  rw [f3] at hcv
  have hj2:j < entries.toList.length:=by omega
  refine⟨entries.modify (0 + j) fun e=>{e with key:=X1 k kv},clock,(entries.toList.getD j default).val,j,{m with key:=X1 k kv},?_,?_,?_,rfl,?_⟩
  ·simp only [Instr.mapEntry,run_underlying hm,MapKept.run_getObj_map hh,hck,hf,MapKept.run_setObj_map _ hh,Sem.run_bind,Result.andThen_ok,hold,hK.stays hkk,hbo,goInt,Sem.run_pure]
  ·rw [Nat.zero_add,a1y entries j _ hmj]
   simp only [a8e,hidx,a6x,Option.map_some,Option.getD_some]
   exact MEs.set (b8q f1 f2 f3 hkk hcv m.born) j hme
  ·rw [Nat.zero_add,a1y entries j _ hmj]
   exact b1v hb hmj rfl
  ·rw [Nat.zero_add,a1y entries j _ hmj]
   rw [List.getElem?_set_self hj2]
theorem b2X {ms:List MapEntry} {c i:Nat} {m:MapEntry} (hb:a8c ms c) (hm:ms[i]?=some m):ms.findIdx? (fun e=>(e.born:Int) == (m.born:Int))=some i:=by
 obtain⟨hi,rfl⟩:=List.getElem?_eq_some_iff.1 hm
 rw [List.findIdx?_eq_some_iff_getElem]
 refine⟨hi,by simp,fun j hj=>?_⟩
 have:=(List.pairwise_iff_getElem.1 hb.1) j i (by omega) hi hj
 simp only [beq_iff_eq,ne_eq]
 omega
theorem c3z {t:TypeId} {k:TK} {g:Nat} {entries:Array MapEntry} {clock:Nat} (hh:w.heap[g]?=some (.map entries clock)) {I:Nat->Nat->Prop} {e:Nat} {b:Bool} {es:List (List DV)} (f1:mKs e=(wid k).getD 1) (f2:mKa e=(wid k).isSome) (f3:mVa e=b)
  (hme:MEs I w e es entries.toList) (hb:a8c entries.toList clock) {kv v:Value} (hkk:wid k=none->KK k kv) (hall:a5s k es) {x:List DV} (hcv:CV I w b x v) {i:Nat} {m:MapEntry} (hi:a4z kv es=some i) (hm:entries.toList[i]?=some m) :
  ∃ entries',(Instr.entryStore t (.map (some g)) (.int .i64 (m.born:Int)) v).run P w= .ok () {w with heap:=w.heap.setIfInBounds g (.map entries' clock)}/\MEs I w e (a8e kv x es) entries'.toList/\a8c entries'.toList clock:=by
 obtain⟨hj,hsv⟩:=a6Y hi
 obtain⟨m',hmj,hM⟩:=hme.get hj
 rw [hm] at hmj
 injection hmj with hmj
 subst hmj
 have hmem:es.getD i [] ∈ es:=by rw [List.getD_eq_getElem?_getD,List.getElem?_eq_getElem hj];exact List.getElem_mem hj
 obtain⟨k1,k2,k3⟩:=b5A f1 f2 hM (hall _ hmem)
 have hkv:=b8v hkk k2 hsv
 rw [hkv] at k1 k3
 have hkey:m.key=X1 k kv:=k1
 have hfi:entries.findIdx? (fun e=>(e.born:Int) == (m.born:Int))=some i:=by
  rw [show entries=entries.toList.toArray from rfl,List.findIdx?_toArray];exact b2X hb hm
 refine⟨entries.modify i fun e=>{e with val:=v},?_,?_,?_⟩
 ·simp [Instr.entryStore,MapKept.run_getObj_map hh,MapKept.run_setObj_map _ hh,asInt,asIntOf,hfi]
 ·rw [a1y entries i _ hm]
  simp only [a8e,hi]
  have h1:=b8q f1 f2 f3 k3 hcv m.born
  have h2:({m with val:=v}:MapEntry)=⟨X1 k kv,v,m.born⟩:=by cases m;simp only at hkey;subst hkey;rfl
  rw [h2]
  exact MEs.set h1 i hme
 ·rw [a1y entries i _ hm]
  exact b1v hb hm rfl
end
end Go.Proofs.YtacnfjjkhpkloaaGreat.Am
namespace Go.Proofs.YtacnfjjkhpkloaaGreat.Am
open Go Go.MapKept
section
variable {P:Program} {W0:World} {M:Own} {G:Gh} {s:St} {a:Act} {w w':World} {o:Oper}
theorem Mem.setRowE (h:Mem W0 M G s w) {id:Nat} {R:Row} {es':List (List DV)} (hR:(s.r id).c=some R) (hnf:R.fr=false) {e':Nat} (hns:¬ a0L R.e/\¬ a0L e') (hpe:R7<=e'->c5g w' (G.rw id) (G.st id) ⟨es',R.sz,e',false⟩) {g:Nat} (hrg:obk (G.rw id)=some g) (hg:w.grownBy w' (some g)) (hnew:a2R G.I w w'->a0b G.I w' (G.rw id) ⟨es',R.sz,e',false⟩) :
  Mem W0 M G (s.setR id ⟨(s.r id).ver,some ⟨es',R.sz,e',false⟩⟩) w'/\Ext G s w G (s.setR id ⟨(s.r id).ver,some ⟨es',R.sz,e',false⟩⟩) w':=by
 have hlive:(s.r id).c.isSome=true:=by rw [hR];rfl
 have hown:g ∈ own G s (.inr id):=by simp [own,hR,hrg]
 have hno:∀ o,¬ G.I g o:=fun o hi=>by have:=(h.rI id R g hR hrg o hi).1;rw [hnf] at this;cases this
 have hk:a2R G.I w w':=fun b o hi=>World.cell?_of_block (a:=⟨b,o,none⟩) (hg.block b (h.In b o hi) (fun e=>by injection e with e;subst e;exact hno o hi))
 have E:Ext G s w G (s.setR id ⟨(s.r id).ver,some ⟨es',R.sz,e',false⟩⟩) w':=by
  refine⟨fun _ _ h=>h,hk,fun _=>⟨Nat.le_refl _,fun _ h=>⟨h,rfl⟩⟩,fun k=>?_,fun _ _=>rfl⟩
  simp only [St.setR,upd]
  by_cases e:k=id
  ·subst e;simp only [if_true];exact⟨Nat.le_refl _,fun _ _=>⟨hlive,trivial⟩⟩
  ·simp only [e,if_false];exact⟨Nat.le_refl _,fun _ h=>⟨h,trivial⟩⟩
 have ho:∀ x,own G (s.setR id ⟨(s.r id).ver,some ⟨es',R.sz,e',false⟩⟩) x=own G s x:=by
  intro x
  rcases x with k | k
  ·rfl
  ·by_cases e:k=id
   ·subst e;simp [own,St.setR,upd,hR,hns.1,hns.2]
   ·simp [own,St.setR,upd,e]
 refine⟨⟨fun k c hck=>?_,fun k R' hck=>?_,fun x y b hx hy=>h.dj x y b (by rw [ho] at hx;exact hx) (by rw [ho] at hy;exact hy),h.bI,fun k R' g' hck hg'=>?_,fun x b hx=>h.oM x b (by rw [ho] at hx;exact hx),fun b o hi=>Nat.lt_of_lt_of_le (h.In b o hi) hg.size,h.fr.grown hg (fun b hb hlt=>?_),h.ii,h.gl.mono E.I E.keep,fun k R' hck hp=>by
  simp only [St.setR,upd] at hck
  by_cases e:k=id
  ·simp only [e,if_true] at hck;injection hck with hck;subst hck
   rw [e];exact hpe hp
  ·simp only [e,if_false] at hck
   refine(h.pe k R' hck hp).kept hg (fun b hb e1=>?_)
   injection e1 with e1;subst e1
   have:=h.dj (.inr k) (.inr id) g (by simp [own,hck,hb]) hown
   injection this with this
   exact e this,fun k R' hck hp=>by
  simp only [St.setR,upd] at hck
  by_cases e:k=id
  ·simp only [e,if_true] at hck;injection hck with hck;subst hck
   exact absurd hp hns.2
  ·simp only [e,if_false] at hck
   refine⟨(h.sx k R' hck hp).1.kept hg (fun b hb e1=>?_),(h.sx k R' hck hp).2⟩
   injection e1 with e1;subst e1
   have:=h.dj (.inr k) (.inr id) g (by
    rcases hb with hb | hb
    ·exact a3q hck hb
    ·exact a6I hck hp hb) hown
   injection this with this
   exact e this⟩,E⟩
 ·have hck':(s.b k).c=some c:=hck
  obtain⟨cur,ty',h1,h2⟩:=h.bx k c hck'
  have hlt:=(Array.getElem?_eq_some_iff.1 h1).1
  refine⟨cur,ty',(hg.block _ hlt (fun e1=>?_)).trans h1,E.acs h2⟩
  injection e1 with e1
  cases h.dj (.inl k) (.inr id) g (by simp [own,hck',e1]) hown
 ·simp only [St.setR,upd] at hck
  by_cases e:k=id
  ·subst e
   simp only [if_true] at hck
   injection hck with hck;subst hck
   exact hnew hk
  ·simp only [e,if_false] at hck
   refine ownsRow.kept' (h.rw k R' hck) hg (fun b hb e1=>?_) hk
   injection e1 with e1;subst e1
   have:=h.dj (.inr k) (.inr id) g (by simp [own,hck,hb]) hown
   injection this with this
   exact e this
 ·simp only [St.setR,upd] at hck
  by_cases e:k=id
  ·subst e
   rw [hrg] at hg'
   injection hg' with hg';subst hg'
   intro o hi
   exact(hno o hi).elim
  ·simp only [e,if_false] at hck
   exact h.rI k R' g' hck hg'
 ·injection hb with hb;subst hb
  rcases h.oM _ _ hown with h1 | h1
  ·omega
  ·exact h1
theorem Mem.stamp (h:Mem W0 M G s w) (id:Nat) (x:Value × Int) (hnp:∀ R,(s.r id).c=some R->R.e < R7) :
  Mem W0 M ⟨G.I,G.bx,G.rw,upd G.st id x,G.ex⟩ (s.setB (pbx id) ⟨(s.b (pbx id)).ver + 1,none⟩) w/\Ext G s w ⟨G.I,G.bx,G.rw,upd G.st id x,G.ex⟩ (s.setB (pbx id) ⟨(s.b (pbx id)).ver + 1,none⟩) w:=by
 have E:Ext G s w ⟨G.I,G.bx,G.rw,upd G.st id x,G.ex⟩ (s.setB (pbx id) ⟨(s.b (pbx id)).ver + 1,none⟩) w:=by
  refine⟨fun _ _ h=>h,a2R.refl _ _,fun k=>?_,fun _=>⟨Nat.le_refl _,fun _ h=>⟨h,rfl⟩⟩,fun k e=>?_⟩
  ·simp only [St.setB,upd]
   by_cases e:k=pbx id
   ·subst e;simp only [if_true];exact⟨by omega,fun e=>by omega⟩
   ·simp only [e,if_false];exact⟨Nat.le_refl _,fun _ h=>⟨h,trivial⟩⟩
  ·simp only [St.setB,upd] at e ⊢
   by_cases ek:k=id
   ·subst ek;simp only [if_true] at e;omega
   ·simp only [ek,if_false]
 have ho:∀ y b,b ∈ own ⟨G.I,G.bx,G.rw,upd G.st id x,G.ex⟩ (s.setB (pbx id) ⟨(s.b (pbx id)).ver + 1,none⟩) y->b ∈ own G s y:=by
  intro y b hx
  rcases y with k | k
  ·by_cases e:k=pbx id
   ·subst e;simp [own,St.setB,upd] at hx
   ·simpa [own,St.setB,upd,e] using hx
  ·exact hx
 refine⟨⟨fun k c hc=>?_,fun k R hc=>h.rw k R hc,fun y z b hx hy=>h.dj y z b (ho y b hx) (ho z b hy),fun k hc=>?_,h.rI,fun y b hx=>h.oM y b (ho y b hx),h.In,h.fr,h.ii,h.gl.mono E.I E.keep,fun k R hc hp=>?_,h.sx⟩,E⟩
 ·simp only [St.setB,upd] at hc
  by_cases e:k=pbx id
  ·simp [e] at hc
  ·simp only [e,if_false] at hc
   obtain⟨cur,ty,h1,h2⟩:=h.bx k c hc
   exact⟨cur,ty,h1,E.acs h2⟩
 ·simp only [St.setB,upd] at hc
  by_cases e:k=pbx id
  ·simp [e] at hc
  ·simp only [e,if_false] at hc;exact h.bI k hc
 ·have hc':(s.r k).c=some R:=hc
  by_cases e:k=id
  ·subst e;exact absurd (hnp R hc') (Nat.not_lt.2 hp)
  ·simp only [upd,e,if_false];exact h.pe k R hc' hp
end
end Go.Proofs.YtacnfjjkhpkloaaGreat.Am
namespace Go.Proofs.YtacnfjjkhpkloaaGreat.Am
open Go Go.MapKept
section
variable {P:Program} {T:TypeId->Option TI} {W0:World} {M:Own} {G:Gh} {s:St} {a:Act} {w:World} {o:Oper} {K:List Upd->Prop} {Q':Exit->Act->World->Prop}
theorem b0O (e:Nat):mKs (e + R7)=mKs e/\mKa (e + R7)=mKa e/\mVa (e + R7)=mVa e:=by
 have h1:(e + R7) / 2 % 2=e / 2 % 2:=by simp only [R7];omega
 have h2:(e + R7) % 2=e % 2:=by simp only [R7];omega
 refine⟨?_,?_,?_⟩
 ·simp only [mKs,R7];omega
 ·simp only [mKa,h1]
 ·simp only [mVa,h2]
theorem MEs.pend {I:Nat->Nat->Prop} {e:Nat}:∀ {cs:List (List DV)} {ms:List MapEntry},MEs I w e cs ms->MEs I w (e + R7) cs ms
 | [],_,h=>h
 | c :: cs,ms,h=>by
  simp only [MEs] at h ⊢
  obtain⟨m,r,h1,h2,h3⟩:=h
  obtain⟨f1,f2,f3⟩:=b0O e
  refine⟨m,r,h1,?_,MEs.pend h3⟩
  unfold ME at h2 ⊢
  rw [f1,f2,f3]
  exact h2
theorem MEs.unpend {I:Nat->Nat->Prop} {e:Nat}:∀ {cs:List (List DV)} {ms:List MapEntry},MEs I w (e + R7) cs ms->MEs I w e cs ms
 | [],_,h=>h
 | c :: cs,ms,h=>by
  simp only [MEs] at h ⊢
  obtain⟨m,r,h1,h2,h3⟩:=h
  obtain⟨f1,f2,f3⟩:=b0O e
  refine⟨m,r,h1,?_,MEs.unpend h3⟩
  unfold ME at h2 ⊢
  rw [f1,f2,f3] at h2
  exact h2
theorem b0u (s:St) (id k:Nat) (x y:RS) (b:BS):((s.setR id x).setB k b).setR id y=(s.setR id y).setB k b:=by
 simp only [St.setR,St.setB,St.mk.injEq,true_and]
 funext j
 simp only [upd]
 split <;> rfl
theorem c5v {t kt vt:TypeId} {ik iv:TI} {x y:Operand} {d:Nat} (ho:o.op= .mapEntry t x y) (hdst:o.dst=some d) (hd:d < s.n) (hu1:P.underlying t=some (.map kt vt)) (hTk:b0r P kt ik.k) (hTv:TOk P vt iv) (h:Rel W0 M G s a w) {m:AV} (hm:AVr G s w m (a.eval x)) {kv:Value} (hkv:a.eval y=X1 ik.k kv) (hL:(wid ik.k=none->KK ik.k kv)->KL ik.k kv)
  (hq:(c5n d ik iv kv m).wp s K):a3M P W0 M s o a w K Q':=by
 unfold c5n at hq
 split at hq
 ·rename_i id ver
  simp only [Q.wp] at hq
  split at hq
  ·rename_i R hR
   simp only [Q.wp] at hq
   obtain⟨⟨e1,e2,e3,e4,hkq,hall⟩,hq⟩:=hq
   have hm':=E2 hm
   simp only [ACr] at hm'
   have hv:=hm'.2.2 e1 (by rw [hR];rfl)
   obtain⟨f1,f2,f3,f4,f5⟩:=a3C ik.k iv.agg
   rw [<-e2] at f1 f2 f3 f4 f5
   obtain⟨g,entries,clock,hg,hh,hme,hbn,hz,hlen⟩:=h.mem.map_at hR f4 f5
   obtain⟨en',cl',u,i,me,hrun,hme',hbn',hidx,hmi⟩:=c3y hu1 hTk hTv hh f1 f2 f3 hme hbn (hL hkq) hall
   obtain⟨hgr,hnew⟩:=a38 (o':= .map en' cl') hh
   have hzl:(List.map a2S iv.zero).length=iv.size:=by rw [List.length_map];exact(b5v hTv).2
   have hll:∀ e ∈ a8e kv ((a6x kv R.es).getD (iv.zero.map a2S)) R.es,e.length=R.sz:=b34 hlen (by
    rw [e3]
    congr 1
    cases hidx0:a4z kv R.es with
    | none=>simp only [a6x,hidx0,Option.map_none,Option.getD_none];exact hzl
    | some j=>
     simp only [a6x,hidx0,Option.map_some,Option.getD_some]
     have hj:=(a6Y hidx0).1
     have hmem:R.es.getD j [] ∈ R.es:=by rw [List.getD_eq_getElem?_getD,List.getElem?_eq_getElem hj];exact List.getElem_mem hj
     rw [List.length_drop,hlen _ hmem,e3];omega)
   obtain⟨m2,x2⟩:=h.mem.setRow hR e4 (show R.e < R7 by rw [e2];exact b6U _ _) (by rw [e2];exact(a3C _ _).2.2.2.2.2) (g:=g) (by rw [hg];rfl) hgr (es':=a8e kv ((a6x kv R.es).getD (iv.zero.map a2S)) R.es) (fun hkp=>⟨hz,hll,.inr (.inl ⟨⟨f4,f5⟩,g,en',cl',hg,hnew,hme'.mono (fun _ _ h=>h) hkp,hbn'⟩)⟩)
   generalize hES:a8e kv ((a6x kv R.es).getD (iv.zero.map a2S)) R.es=ES at *
   generalize hW:({w with heap:=w.heap.setIfInBounds g (.map en' cl')}:World)=w2 at *
   obtain⟨m3,x3⟩:=m2.stamp id (kv,(me.born:Int)) (fun R' hR'=>by
    simp only [St.setR,upd,if_true] at hR'
    injection hR' with hR';subst hR'
    show R.e < R7
    rw [e2];exact b6U _ _)
   obtain⟨m4,x4⟩:=m3.setRowE (id:=id) (R:=⟨ES,R.sz,R.e,false⟩) (es':=ES) (e':=R.e + R7) (g:=g) (w':=w2) (by simp only [St.setR,St.setB,upd,if_true]) rfl ⟨by rw [e2];exact(a3C _ _).2.2.2.2.2,fun k=>absurd k.2 (Nat.not_lt.2 (Nat.le_add_left _ _))⟩
    (fun _=>⟨g,en',cl',i,me,hg,hnew,by simp only [upd,if_true];exact hidx,hmi,by simp only [upd,if_true]⟩) (by rw [hg];rfl) ⟨rfl,rfl,rfl,Nat.le_refl _,fun _ _ _=>rfl⟩
    (fun hkp=>⟨hz,hll,.inr (.inl ⟨⟨Nat.le_trans f4 (Nat.le_add_right _ _),fun e9=>absurd (Nat.le_add_left R7 R.e) (by rw [show R.e + R7=a4A from e9];decide),fun k=>absurd k.2 (Nat.not_lt.2 (Nat.le_add_left _ _))⟩,g,en',cl',hg,hnew,(hme'.mono (fun _ _ h=>h) x2.keep).pend,hbn'⟩)⟩)
   have hex:(execOp a.eval o).run P w= .ok (.value (.tuple #[u,.int .i64 (me.born:Int)])) w2:=by
    unfold execOp
    rw [ho]
    have hv':a.eval x= .map (some g):=by rw [hv,hg]
    simp only [Sem.run_bind,hv',hkv,hrun,Result.andThen_ok]
    rfl
   refine U7 hex ⟨_,hq,?_⟩
   have h2:=h.mem' (x2.trans (x3.trans x4)) m4 rfl rfl
   rw [hdst]
   have h3:=h2.put (d:=d) (x:=⟨true,.ent true id ((s.b (pbx id)).ver + 1) kv⟩) (v:= .tuple #[u,.int .i64 (me.born:Int)]) hd ⟨fun _=>by
    simp only [AVr,St.setR,St.setB,upd,if_true]
    exact⟨Nat.le_refl _,fun _=>⟨trivial,fun _=>⟨u,rfl⟩,fun e=>by cases e⟩⟩,fun e=>by cases e⟩
   have es:s.app [Upd.r id ⟨(s.r id).ver,some ⟨ES,R.sz,R.e + R7,false⟩⟩,.b (pbx id) ⟨(s.b (pbx id)).ver + 1,none⟩,.t d ⟨true,.ent true id ((s.b (pbx id)).ver + 1) kv⟩]=((((s.setR id ⟨(s.r id).ver,some ⟨ES,R.sz,R.e,false⟩⟩).setB (pbx id) ⟨(s.b (pbx id)).ver + 1,none⟩).setR id ⟨(s.r id).ver,some ⟨ES,R.sz,R.e + R7,false⟩⟩).setT d ⟨true,.ent true id ((s.b (pbx id)).ver + 1) kv⟩):=by
    rw [b0u];rfl
   rw [es]
   refine⟨⟨G.I,G.bx,G.rw,upd G.st id (kv,(me.born:Int)),G.ex⟩,?_⟩
   simpa only [St.setR,St.setB,upd,if_true] using h3
  ·exact hq.elim
 ·exact hq.elim
theorem c5w {t:TypeId} {ik iv:TI} {x y z:Operand} (ho:o.op= .entryStore t x y z) (hdst:o.dst=none) (h:Rel W0 M G s a w) {m st:AV} {cs:List AC} (hm:AVr G s w m (a.eval x)) (hst:AVr G s w st (a.eval y)) (hcs:ACs G s w cs (a.eval z).cells.toList)
  (hcv0:∀ (I:Nat->Nat->Prop) (ds:List DV),J4 I w ds (a.eval z).cells.toList->CV I w iv.agg ds (a.eval z)) (hq:(c5o ik iv cs m st).wp s K):a3M P W0 M s o a w K Q':=by
 have hput:a.put o.dst undef=a:=by rw [hdst];rfl
 unfold c5o at hq
 split at hq
 ·rename_i id ver id' pv kv
  rw [Q.wp_bind] at hq
  obtain⟨d,hq1,hdl,hds⟩:=a5L hcs hq
  rw [Q.wp_bind] at hq1
  obtain⟨us,G',hq2,hR',hE,hf,hfrz,hb',hr',hfr⟩:=a3K h hq1
  simp only [Q.wp] at hq2
  split at hq2
  ·rename_i R hR
   obtain⟨⟨rfl,e0,e1,e2,e3,e4,hnot,hdi,hkq,hall⟩,hq3⟩:=hq2
   have hm':=E2 hm
   simp only [ACr] at hm'
   have hv:=hm'.2.2 e1 (by rw [hR];rfl)
   simp only [AVr] at hst
   obtain⟨s1,_,s2⟩:=hst.2 e0
   have hsv:=s2 trivial
   have hcv:=hcv0 G'.I d.1 (hds G'.I hE.I hf)
   obtain⟨fr,hR1,_⟩:=(hfrz.2.2.2 id').2.2 R hR
   have hfr0:fr=false:=by
    cases fr with
    | false=>rfl
    | true=>
     rcases hfr id' _ hR1 rfl with⟨R',h1,h2⟩ | h1
     ·rw [hR] at h1;injection h1 with h1;subst h1;rw [e4] at h2;cases h2
     ·exact(hnot h1).elim
   subst hfr0
   have hver:=(hfrz.2.2.2 id').1
   obtain⟨f1,f2,f3,f4,f5⟩:=a3C ik.k iv.agg
   have hGst:G'.st id'=G.st id':=hE.st id' (by rw [hfrz.2.2.1])
   obtain⟨g,entries,clock,i,me,hg,hh,hidx,hmi,hborn⟩:=hR'.mem.pe id' _ hR1 (by show R7<=R.e;rw [e2];exact Nat.le_add_left _ _)
   rw [hGst,<-s1] at hidx
   rw [hGst] at hborn
   obtain⟨g',entries',clock',hg',hh',hme,hbn,hz,hlen⟩:=hR'.mem.map_at hR1 (by show a0S<=R.e;rw [e2];exact Nat.le_trans f4 (Nat.le_add_right _ _)) ⟨by show R.e ≠ a4A;rw [e2];exact fun e9=>absurd (Nat.le_add_left R7 (mW ik.k iv.agg)) (by rw [e9];decide),by show ¬ a0L R.e;rw [e2];exact b8n _⟩
   rw [hg] at hg';injection hg' with hg';injection hg' with hg';subst hg'
   rw [hh] at hh';injection hh' with hh';injection hh' with hh1 hh2;subst hh1;subst hh2
   simp only [e2] at hme
   have hme0:MEs G'.I w (mW ik.k iv.agg) R.es entries.toList:=hme.unpend
   obtain⟨en',hrun,hme',hbn'⟩:=c3z (P:=P) (t:=t) hh f1 f2 f3 hme0 hbn hkq hall hcv hidx hmi
   obtain⟨hgr,hnew⟩:=a38 (o':= .map en' clock) hh
   obtain⟨m2,e5⟩:=hR'.mem.setRowE hR1 rfl (e':=mW ik.k iv.agg) ⟨by rw [e2];exact b8n _,f5.2⟩ (fun hp=>absurd (b6U ik.k iv.agg) (Nat.not_lt.2 hp)) (g:=g) (by rw [hg];rfl) hgr (es':=a8e kv d.1 R.es) (fun hkp=>⟨hz,b34 hlen (by simp only;omega),.inr (.inl ⟨⟨f4,f5⟩,g,en',clock,hg,hnew,hme'.mono (fun _ _ h=>h) hkp,hbn'⟩)⟩)
   rw [hver] at m2 e5
   have hex:(execOp a.eval o).run P w= .ok .skip {w with heap:=w.heap.setIfInBounds g (.map en' clock)}:=by
    unfold execOp
    rw [ho]
    have hv':a.eval x= .map (some g):=by rw [hv,<-hr',hg]
    rw [<-hborn] at hsv
    simp only [Sem.run_bind,hv',hsv,hrun,Result.andThen_ok]
    rfl
   refine b1p hex ⟨_,hq3,G',?_⟩
   rw [hput,St.app_append]
   exact hR'.mem' e5 m2 rfl rfl
  ·exact hq2.elim
 ·exact hq.elim
theorem b35 {t:TypeId} {x y:Operand} (ho:o.op= .mapEntry t x y) (hT:∀ t i,T t=some i->TOk P t i) (h:Rel W0 M G s a w) (hd:∀ d,o.dst=some d->d < s.n)
  (hq:((tq T t).bind fun i=>(Q.ofOpt o.dst).bind fun d=>(ev x).bind fun m=>(ev y).bind fun k=>match i.k with
   | .map kt vt=>(tq T kt).bind fun ik=>(tq T vt).bind fun iv=>(b6N T ik k).bind fun kv=>c5n d ik iv kv m
   | _=> .fail).wp s K):a3M P W0 M s o a w K Q':=by
 simp only [Q.wp_bind] at hq
 obtain⟨i,hi,hq⟩:=U1 hq
 obtain⟨d1,hu1,hk1⟩:=(hT t i hi).und
 obtain⟨d,hdst,hq⟩:=J7 hq
 obtain⟨m,hq,hm⟩:=P1 h hq
 obtain⟨k,hq,hk⟩:=P1 h hq
 split at hq
 ·rename_i kt vt hkk
  rw [hkk] at hk1
  simp only at hk1
  subst hk1
  simp only [Q.wp_bind] at hq
  obtain⟨ik,hik,hq⟩:=U1 hq
  obtain⟨iv,hiv,hq⟩:=U1 hq
  obtain⟨kv,hq,hkv,hKo,hL⟩:=b1u hT (hT kt ik hik) hk hq
  exact c5v ho hdst (hd d hdst) hu1 hKo (hT vt iv hiv) h hm hkv hL hq
 ·exact hq.elim
theorem b1x {t:TypeId} {x y z:Operand} (ho:o.op= .entryStore t x y z) (hdst:o.dst=none) (_hT:∀ t i,T t=some i->TOk P t i) (h:Rel W0 M G s a w)
  (hq:((tq T t).bind fun i=>(ev x).bind fun m=>(ev y).bind fun st=>(ev z).bind fun x=>match i.k with
   | .map kt vt=>(tq T kt).bind fun ik=>(tq T vt).bind fun iv=>(a9v iv.agg x).bind fun cs=>c5o ik iv cs m st
   | _=> .fail).wp s K):a3M P W0 M s o a w K Q':=by
 simp only [Q.wp_bind] at hq
 obtain⟨i,hi,hq⟩:=U1 hq
 obtain⟨m,hq,hm⟩:=P1 h hq
 obtain⟨st,hq,hst⟩:=P1 h hq
 obtain⟨u,hq,hu⟩:=P1 h hq
 split at hq
 ·rename_i kt vt hkk
  simp only [Q.wp_bind] at hq
  obtain⟨ik,hik,hq⟩:=U1 hq
  obtain⟨iv,hiv,hq⟩:=U1 hq
  obtain⟨cs,hq,hcs,hcv0⟩:=b2V hu hq
  exact c5w ho hdst h hm hst hcs hcv0 hq
 ·exact hq.elim
end
end Go.Proofs.YtacnfjjkhpkloaaGreat.Am
namespace Go.Proofs.YtacnfjjkhpkloaaGreat.Am
open Go
section
variable {P:Program} {T:TypeId->Option TI} {W0:World} {M:Own} {G:Gh} {s:St} {a:Act} {w:World} {o:Oper} {K:List Upd->Prop} {Q':Exit->Act->World->Prop}
theorem c3u {t e:TypeId} {i:TI} (hT:TOk P e i) (hu:P.underlying t=some (.slice e)) (ty:TypeId) {v:Value} {n z:Nat} {xs:List Value} (how:w.ownsRow 0 e z v n xs) (c:Nat) :
  (Builtin.append_ #[t,t] ty #[v,.slice none 0 c]).run P w= .ok v w:=by
 obtain⟨inf,zv,hinf,_⟩:=hT.info
 rcases how.2 with⟨rfl,rfl⟩ | ⟨g,cap,cur,rfl,_,_,hnc,_⟩
 ·simp [Builtin.append_,run_underlying hu,Go.sizeOf,typeInfo,hinf,Builtin.lenOf,Builtin.firstCells]
 ·simp [Builtin.append_,run_underlying hu,Go.sizeOf,typeInfo,hinf,Builtin.lenOf,Builtin.firstCells,hnc,storeCells]
theorem b32 {t e:TypeId} {i:TI} (hT:TOk P e i) (hz0:0 < i.size) (hu:P.underlying t=some (.slice e)) (ty:TypeId) {v u:Value} {n:Nat} {xs:List Value} (how:w.ownsRow 0 e i.size v n xs) {ys:List (List DV)} {I:Nat->Nat->Prop}
  (hd:DVr I w (.sl ys) u) (hal:b0G i.size ys) (hb:(n + ys.length) * i.bytes<=140737488355328) (hm:n + ys.length<=4611686018427387904) :
  ∃ v' w' yc,(Builtin.append_ #[t,t] ty #[v,u]).run P w= .ok v' w'/\w'.ownsRow 0 e i.size v' (n + ys.length) (xs ++ yc)/\H6 I w ys yc/\
   ((v'.ownBlock=v.ownBlock/\w.grownBy w' v.ownBlock)\/(w.grownBy w' none/\v'.ownBlock=some w.heap.size)):=by
 simp only [DVr] at hd
 obtain⟨A,c,z,yc,rfl,h1,h2,h3,h4,h5,h6⟩:=hd
 cases A with
 | none=>
  have h0:ys=[]:=by
   rcases Nat.eq_zero_or_pos ys.length with h | h
   ·exact List.eq_nil_of_length_eq_zero h
   ·obtain⟨_,h,_⟩:=h5 h;cases h
  subst h0
  exact⟨v,w,[],c3u hT hu ty how c,by simpa using how,by simp [H6],.inl ⟨rfl,rfl,rfl,rfl,Nat.le_refl _,fun _ _ _=>rfl⟩⟩
 | some ad=>
  obtain⟨inf,zv,hinf,hsz,hby,hz,hzl,hzn,hz1⟩:=hT.info
  have hyl:=h6.len hal
  have hcells:∀ j x,yc[j]?=some x->w.cell? (ad.add j)=some x:=by
   intro j x hj
   have h0:0 < ys.length:=by
    rcases Nat.eq_zero_or_pos ys.length with h | h
    ·rw [h] at hyl
     have:yc=[]:=List.eq_nil_of_length_eq_zero (by omega)
     subst this;simp at hj
    ·exact h
   obtain⟨ad',e1,hc⟩:=h5 h0
   injection e1 with e1;subst e1
   exact(hc j x hj).1
  obtain⟨v',w',hr,k1,k2,_,k4⟩:=run_append_own_at (P:=P) w 0 t ty e inf zv i.size i.bytes hu hinf hz hsz hby (by rw [<-Array.length_toList,hzl];exact hzn) hz0 v n xs how ad ys.length c yc hyl hcells (h6.one) (by simp only [maxLen];omega) hb (Nat.zero_le _)
  refine⟨v',w',yc,hr,k1,h6,?_⟩
  rcases how.2 with⟨rfl,rfl⟩ | ⟨g,cap,cur,rfl,_,hg,hnc,hcm,hcs,htk⟩
  ·by_cases hy0:ys.length=0
   ·have h0:ys=[]:=List.eq_nil_of_length_eq_zero hy0
    subst h0
    rcases k4 with k4 | k4
    ·exact .inl ⟨k4,k2⟩
    ·exact .inr ⟨k2,k4⟩
   ·have hr2:=run_append_nil (P:=P) w t ty e inf zv hu hinf hz ad ys.length c yc (by rw [hyl,hsz]) hcells (by omega) (by omega) (by rw [hby];simp only [Nat.zero_add] at hb;omega)
    rw [hr2] at hr
    injection hr with e1 e2
    subst e1;subst e2
    exact .inr ⟨a5r w _,rfl⟩
  ·by_cases hroom:n + ys.length<=cap
   ·have hfit:n * inf.size + yc.length<=cur.size:=by rw [hyl,hcs,hsz,<-Nat.add_mul];exact Nat.mul_le_mul_right _ hroom
    have hr2:=run_append_room (P:=P) w t ty e inf hu hinf g n cap cur hg ad ys.length c yc (by rw [hyl,hsz]) hcells (h6.one) hroom hfit
    rw [hr2] at hr
    injection hr with e1 e2
    subst e1
    exact .inl ⟨rfl,k2⟩
   ·have holds:∀ j x,xs[j]?=some x->w.cell? ((⟨g,0,none⟩:Addr).add j)=some x:=how.cells (g:=g) rfl
    have hr2:=run_append_grow (P:=P) w t ty e inf zv hu hinf hz ⟨g,0,none⟩ n cap xs (by rw [how.1,hsz]) holds ad ys.length c yc (by rw [hyl,hsz]) hcells (by omega) (by omega) (growslice_fits (by omega) (by rw [hby];exact hb))
    rw [hr2] at hr
    injection hr with e1 e2
    subst e1;subst e2
    exact .inr ⟨a5r w _,rfl⟩
theorem b5z {I:Nat->Nat->Prop} {e:TypeId} {z n m:Nat} {v v':Value} {w':World} {xs yc:List Value} (how:w.ownsRow 0 e z v n xs) (how':w'.ownsRow 0 e z v' m (xs ++ yc)) (hIn:∀ b o,I b o->b < w.heap.size)
  (hI:∀ g,v.ownBlock=some g->∀ o,I g o->o < n * z) (h:(v'.ownBlock=v.ownBlock/\w.grownBy w' v.ownBlock)\/(w.grownBy w' none/\v'.ownBlock=some w.heap.size)):a2R I w w':=by
 intro b o hi
 have hlt:=hIn b o hi
 rcases h with⟨h1,h2⟩ | ⟨h1,_⟩
 ·by_cases hb:v.ownBlock=some b
  ·have ho:=hI b hb o hi
   have hl:o < xs.length:=by rw [how.1];exact ho
   have c1:=how.cells hb o xs[o] (List.getElem?_eq_getElem hl)
   have c2:=how'.cells (h1.trans hb) o xs[o] (by rw [List.getElem?_append_left hl];exact List.getElem?_eq_getElem hl)
   have hadd:(⟨b,0,none⟩:Addr).add o=⟨b,o,none⟩:=by rw [U6 _ _ rfl];simp
   rw [hadd] at c1 c2
   rw [c1,c2]
  ·exact World.cell?_of_block (a:=⟨b,o,none⟩) (h2.block b hlt (fun e=>hb e.symm))
 ·exact World.cell?_of_block (a:=⟨b,o,none⟩) (h1.block b hlt (by simp))
theorem c5s (h:Rel W0 M G s a w) {x:AV} {v:Value} {K:Nat->Prop} (hx:AVr G s w x v) (hq:(c7v x).wp s K):∃ A n c,v= .slice A n c/\K n:=by
 unfold c7v at hq
 split at hq
 ·have h1:=E2 hx
  simp only [ACr,DVr] at h1
  obtain⟨A,c,z,xs,h1,_⟩:=h1
  exact⟨A,_,c,h1,hq⟩
 ·have h1:=E2 hx
  simp only [ACr] at h1
  exact⟨none,0,0,h1,hq⟩
 ·rename_i id ver
  simp only [Q.wp] at hq
  split at hq
  ·rename_i R hR
   obtain⟨⟨e,hE⟩,hq⟩:=hq
   have h1:=E2 hx
   simp only [ACr] at h1
   obtain rfl:=h1.2.2 e (by rw [hR];rfl)
   obtain⟨_,_,xs,ho,_⟩:=(h.mem.rw id R hR).sl hE
   rcases ho.2 with⟨hv,h0⟩ | ⟨g,cap,cur,hv,_⟩
   ·exact⟨none,0,0,hv,by rw [h0] at hq;exact hq⟩
   ·exact⟨_,_,cap,hv,hq⟩
  ·exact hq.elim
 ·exact hq.elim
theorem c5t {d:Nat} {t e:TypeId} {i:TI} (hT:TOk P e i) (hz0:0 < i.size) (hu:P.underlying t=some (.slice e)) (h:Rel W0 M G s a w) (hdd:o.dst=some d) (hd:d < s.n) {x y:AC} {u v:Value} (hx:ACr G s w x u) (hy:ACr G s w y v) (hq:(b1l d e i.size i.bytes x y).wp s K)
  (hrun:∀ r w',(Builtin.append_ #[t,t] o.type #[u,v]).run P w= .ok r w'->(execOp a.eval o).run P w= .ok (.value r) w'):a3M P W0 M s o a w K Q':=by
 unfold b1l at hq
 rw [Q.wp_bind] at hq
 obtain⟨yd,hq1,_,hyd⟩:=b0L hy hq
 clear hq
 split at hq1
 ·rename_i ys hys
  obtain⟨⟨hal,heF⟩,hq2⟩:=hq1
  rw [Q.wp_bind] at hq2
  obtain⟨us,G',hq3,hR,hE,hf,hfrz,hb',hr',hfr⟩:=a3K h hq2
  clear hq2
  have hdv:=hyd G'.I hE.I hf
  rw [hys] at hdv
  simp only [Q.wp] at hq3
  have hver:(s.r d).ver=((s.app us).r d).ver:=((hfrz.2.2.2 d).1).symm
  split at hq3
  ·obtain⟨⟨hb,hm⟩,hq4⟩:=hq3
   simp only [ACr] at hx
   subst hx
   obtain⟨v',w',yc,hr,how',hde,halt⟩:=b32 (n:=0) (xs:=[]) hT hz0 hu o.type (World.ownsRow_nil w 0 e i.size) hdv hal (by simpa using hb) (by simpa using hm)
   have hgn:w.grownBy w' none:=by
    rcases halt with⟨_,h2⟩ | ⟨h1,_⟩
    ·exact h2
    ·exact h1
   have hk:=b5z (World.ownsRow_nil w 0 e i.size) how' hR.mem.In (fun g hg=>by cases hg) halt
   rw [hver] at hq4
   rw [Nat.zero_add,List.nil_append] at how'
   refine a9x (s0:=s) (us:=us) hR hdd (by rw [hfrz.1];exact hd) (R:=⟨ys,i.size,e,false⟩) (v:=v') hgn ⟨hz0,hal,.inl ⟨heF,yc,how',H6.mono (fun _ _ h=>h) hk _ hde⟩⟩ (fun b hb=>?_) rfl hq4 (hrun _ _ hr)
   rw [a0j how'] at hb
   rcases halt with⟨h1,_⟩ | ⟨_,h1⟩
   ·rw [h1] at hb;cases hb
   ·rw [h1] at hb;injection hb with hb;omega
  ·rename_i id ver
   simp only [Q.wp] at hq3
   split at hq3
   ·rename_i R hRr
    obtain⟨⟨e1,e2,e3,hb,hm⟩,hq4⟩:=hq3
    simp only [ACr] at hx
    have hu':=hx.2.2 e1 (by rw [hRr];rfl)
    obtain⟨fr,hR1,hfrf⟩:=(hfrz.2.2.2 id).2.2 R hRr
    obtain⟨hz,huni,xs,how,hde0⟩:=(hR.mem.rw id _ hR1).sl (by simp only;rw [e3];exact heF)
    simp only at hz huni how hde0
    rw [e2,e3] at how
    rw [hr',<-hu'] at how
    obtain⟨v',w',yc,hr,how',hde,halt⟩:=b32 hT hz0 hu o.type how hdv hal hb hm
    have hobu:=a0j how
    have hobv:=a0j how'
    have hrI:∀ g,u.ownBlock=some g->∀ o',G'.I g o'->fr=true/\o' < R.es.length * i.size:=fun g hg o' hi=>by
     have:=hR.mem.rI id _ g hR1 (by rw [hr',<-hu',hobu];exact hg) o' hi
     rw [e2] at this
     exact this
    have hk:=b5z how how' hR.mem.In (fun g hg o' hi=>(hrI g hg o' hi).2) halt
    obtain⟨m1,x1⟩:=hR.mem.dropRow id
    have hownu:∀ g,u.ownBlock=some g->g ∈ own G' (s.app us) (.inr id):=fun g hg=>a3q hR1 (by rw [hr',<-hu',hobu];exact hg)
    have hout:∀ x g,u.ownBlock=some g->g ∉ own G' ((s.app us).setR id ⟨((s.app us).r id).ver,none⟩) x:=fun x g hg hx'=>by
     have h1:g ∈ own G' (s.app us) x:=by
      rcases x with k | k
      ·exact hx'
      ·by_cases e:k=id
       ·subst e;simp [own,St.setR,upd] at hx'
       ·simpa [own,St.setR,upd,e] using hx'
     have:=hR.mem.dj x (.inr id) g h1 (hownu g hg)
     subst this
     simp [own,St.setR,upd] at hx'
    have hMu:∀ g,u.ownBlock=some g->W0.heap.size<=g\/M g:=fun g hg=>hR.mem.oM _ g (hownu g hg)
    have hgu:w.grownBy w' u.ownBlock/\(v'.ownBlock=u.ownBlock\/v'.ownBlock=some w.heap.size):=by
     rcases halt with⟨h1,h2⟩ | ⟨h1,h2⟩
     ·exact⟨h2,.inl h1⟩
     ·exact⟨⟨h1.os,h1.tape,h1.output,h1.size,fun k hk' _=>h1.block k hk' (by simp)⟩,.inr h2⟩
    have m2:=m1.world hgu.1 hk (fun x b hx' e=>hout x b e hx') (fun b hb' hlt=>by rcases hMu b hb' with h | h;omega;exact h)
    have x2:Ext G' ((s.app us).setR id ⟨((s.app us).r id).ver,none⟩) w G' ((s.app us).setR id ⟨((s.app us).r id).ver,none⟩) w':=⟨fun _ _ h=>h,hk,fun _=>⟨Nat.le_refl _,fun _ h=>⟨h,rfl⟩⟩,fun _=>⟨Nat.le_refl _,fun _ h=>⟨h,rfl⟩⟩,fun _ _=>rfl⟩
    have hvd:(((s.app us).setR id ⟨((s.app us).r id).ver,none⟩).r d).ver=(s.r d).ver:=by
     rw [hver]
     simp only [St.setR,upd]
     by_cases e:d=id
     ·subst e;simp
     ·simp [e]
    have hidv:((s.app us).r id).ver=(s.r id).ver:=(hfrz.2.2.2 id).1
    have hrow:a0b G'.I w' v' ⟨R.es ++ ys,i.size,e,R.fr || yd.2.contains id⟩:=by
     refine⟨hz0,fun f hf'=>?_,.inl ⟨heF,xs ++ yc,by simp only [List.length_append];exact how',H6.mono (fun _ _ h=>h) hk _ (H6.app hde0 hde)⟩⟩
     rcases List.mem_append.1 hf' with h | h
     ·rw [<-e2];exact huni f h
     ·exact hal f h
    obtain⟨m3,x3⟩:=m2.addRow d ((s.r d).ver + 1) v' ⟨R.es ++ ys,i.size,e,R.fr || yd.2.contains id⟩ (by rw [hvd];omega) hrow (fun x b hv' hx'=>by
     rw [hobv] at hv'
     rcases hgu.2 with h | h
     ·rw [h] at hv';exact hout x b hv' hx'
     ·rw [h] at hv';injection hv' with hv';subst hv';have:=m1.ownlt hx';omega) (fun g hg o' hi=>by
     rw [hobv] at hg
     rcases hgu.2 with h | h
     ·rw [h] at hg
      obtain⟨q1,q2⟩:=hrI g hg o' hi
      refine⟨?_,by simp only [List.length_append,Nat.add_mul];omega⟩
      simp only [Bool.or_eq_true]
      rcases hfr id _ hR1 q1 with⟨R',r1,r2⟩ | r1
      ·rw [hRr] at r1;injection r1 with r1;subst r1;exact .inl r2
      ·exact .inr (by simpa using r1)
     ·rw [h] at hg;injection hg with hg;subst hg;have:=hR.mem.In _ _ hi;omega) (fun g hg=>by
     rw [hobv] at hg
     rcases hgu.2 with h | h
     ·rw [h] at hg;exact hMu g hg
     ·rw [h] at hg;injection hg with hg;subst hg;exact .inl hR.mem.fr.size)
    refine U7 (hrun _ _ hr) ⟨_,hq4,?_⟩
    have hR3:=hR.mem' ((x1.trans x2).trans x3) m3 rfl rfl
    rw [St.app_append,hdd]
    rw [hidv] at hR3
    refine⟨_,hR3.put (show d < _ from by show d < (s.app us).n;rw [hfrz.1];exact hd) ⟨fun _=>?_,fun e=>by cases e⟩⟩
    have hone:v'.oneCell'=true:=by
     rcases how'.2 with⟨rfl,_⟩ | ⟨g,cap,cur,rfl,_⟩ <;> rfl
    simp only [AVr,ACr,St.setR,upd,if_true]
    exact⟨hone,Nat.le_refl _,fun _ _=>trivial⟩
   ·exact hq3.elim
  ·exact hq3.elim
 ·exact hq1.elim
end
end Go.Proofs.YtacnfjjkhpkloaaGreat.Am
namespace Go.Proofs.YtacnfjjkhpkloaaGreat.Am
open Go
section
variable {P:Program} {T:TypeId->Option TI} {cq:Oper->Call->Q (List Upd)}
theorem c2N (hT:∀ t i,T t=some i->TOk P t i) (hcq:∀ o c,o.op= .call c->b75 P o (cq o c)) (o:Oper):b75 P o (opQ T cq o):=by
 intro W0 M s a w K Q' hd hR hq
 obtain⟨G,h⟩:=hR
 unfold opQ at hq
 split at hq
 ·rename_i x ho;exact b8b (.inl ho) h hd hq
 ·rename_i x ho;exact b8b (.inr ho) h hd hq
 ·rename_i c x y ho;exact c3r ho h hd hq
 ·rename_i t ho;exact c01 ho hT h hd hq
 ·rename_i t x ho;exact c5p ho h hd hq
 ·rename_i t ps ho;exact c1a ho hT h hd hq
 ·rename_i t n ps ho;exact b1s ho hT h hd hq
 ·rename_i t x ho;exact c3s ho hT h hd hq
 ·rename_i t x y ho
  split at hq
  ·exact hq.elim
  ·rename_i hdst;exact c02 ho hT h hdst hq
 ·rename_i x ho;exact b3Z ho h hd hq
 ·rename_i op t x y t' ho;exact c06 ho hT h hd hq
 ·rename_i op t x ho;exact c3t ho h hd hq
 ·rename_i t t' x ho;exact b6T ho hT h hd hq
 ·rename_i t x lo hi ho;exact c07 ho hT h hd hq
 ·rename_i t x f ho;exact c04 ho hT h hd hq
 ·rename_i t x y ho;exact c09 ho hT h hd hq
 ·rename_i t x y ho;exact b8l ho hT h hd hq
 ·rename_i t x f ho;exact b8m ho hT h hd hq
 ·rename_i x k ho;exact b6Q ho h hd hq
 ·rename_i t x y ho;exact b2S ho hT h hd hq
 ·rename_i t r ho;exact b6X ho hT h hd hq
 ·rename_i t x y ok ho;exact b8s ho hT h hd hq
 ·rename_i t x y z ho
  split at hq
  ·exact hq.elim
  ·rename_i hdst;exact b2W ho hdst hT h hq
 ·rename_i t x y ho;exact b35 ho hT h hd hq
 ·rename_i t x y z ho
  split at hq
  ·exact hq.elim
  ·rename_i hdst;exact b1x ho hdst hT h hq
 ·rename_i t x ho;exact b6Z ho hT h hd hq
 ·rename_i x ho;exact c3x ho h hd hq
 ·rename_i fn fs cs ho;exact b36 ho h hd hq
 ·rename_i t x ho;exact a8S ho hT h hd hq
 ·rename_i x xt t ho;exact b1w ho hT h hd hq
 ·rename_i c ho;exact hcq o c ho W0 M s a w K Q' hd ⟨G,h⟩ hq
 ·exact hq.elim
theorem b8w (hT:∀ t i,T t=some i->TOk P t i) (hcq:∀ o c,o.op= .call c->b75 P o (cq o c)) {ops:Array Oper} {l:List Oper} (hl:ops=l.toArray) {o:Oper} {W0:World} {M:Own} {s:St} {a:Act} {w:World} {K:List Upd->Prop} {Q':Exit->Act->World->Prop}
  (hd:∀ d,o.dst=some d->d < s.n) (hR:a6U W0 M s a w) (hq:wpO T cq l o s K) :
  if Region.wanted o (yielded ops a.tmps)=true then o.wp P a w (fun a' w'=>∃ us,K us/\a6U W0 M (s.app us) a' w') Q' else ∃ us,K us/\a6U W0 M (s.app us) (a.put o.dst undef) w:=by
 unfold wpO opD at hq
 obtain⟨G,h⟩:=hR
 have skip:K (b1o o.dst)->∃ us,K us/\a6U W0 M (s.app us) (a.put o.dst undef) w:=fun hk=>by
  refine⟨_,hk,?_⟩
  cases hdst:o.dst with
  | none=>exact⟨G,h⟩
  | some dd=>exact⟨G,h.put (hd dd hdst) ⟨fun e=>by simp at e,fun _=>rfl⟩⟩
 split at hq
 ·rename_i hg
  have hw:Region.wanted o (yielded ops a.tmps)=true:=by simp [Region.wanted,hg]
  rw [if_pos hw]
  exact c2N hT hcq o W0 M s a w K Q' hd ⟨G,h⟩ hq
 ·rename_i j want hg
  split at hq
  ·rename_i d hjd
   have hoj:ops[j]?.bind (·.dst)=some d:=by rw [hl];simpa using hjd
   have hgv:=h.tm d
   cases ho:ops[j]? with
   | none=>rw [ho] at hoj;cases hoj
   | some oj=>
    rw [ho] at hoj
    have hdst:oj.dst=some d:=hoj
    simp only [Q.wp] at hq
    cases hgt:(s.t d).g with
    | false=>
     rw [hgt] at hq
     have hw:Region.wanted o (yielded ops a.tmps)=false:=by
      have h1:=hgv.2 hgt
      rw [Array.getD_eq_getD_getElem?] at h1
      cases ht:a.tmps[d]? with
      | none=>simp [Region.wanted,hg,yielded,ho,hdst,ht]
      | some v=>
       rw [ht] at h1
       simp only [Option.getD_some] at h1
       subst h1
       simp [Region.wanted,hg,yielded,ho,hdst,ht,undef]
     rw [if_neg (by rw [hw];simp)]
     exact skip hq
    | true=>
     rw [hgt] at hq
     simp only [Q.wp_bind] at hq
     obtain⟨b,hx,hq⟩:∃ b,(s.t d).x= .c (.d (.v (.bool b)))/\((match b == want with | true=>opQ T cq o | false=>Q.ret (b1o o.dst)):Q (List Upd)).wp s K:=by
      unfold Q.bool at hq
      split at hq
      ·rename_i b hb;exact⟨b,hb,hq⟩
      ·exact hq.elim
     have hw:Region.wanted o (yielded ops a.tmps)=(b == want):=by
      have:=hgv.1 hgt
      rw [hx] at this
      simp only [AVr,ACr,DVr] at this
      have h1:=this.1
      rw [Array.getD_eq_getD_getElem?] at h1
      cases ht:a.tmps[d]? with
      | none=>rw [ht] at h1;simp [undef] at h1
      | some v=>
       rw [ht] at h1
       simp only [Option.getD_some] at h1
       subst h1
       cases b <;> cases want <;> simp [Region.wanted,hg,yielded,ho,hdst,ht]
     rw [hw]
     cases hbw:(b == want) with
     | true=>
      rw [hbw] at hq
      simp only [if_true]
      exact c2N hT hcq o W0 M s a w K Q' hd ⟨G,h⟩ hq
     | false=>
      rw [hbw] at hq
      simp only [Bool.false_eq_true,if_false]
      exact skip hq
  ·exact hq.elim
def wpR (T:TypeId->Option TI) (cq:Oper->Call->Q (List Upd)) (l:List Oper):List Oper->St->(St->Prop)->Prop
 | [],s,K=>K s
 | o :: rest,s,K=>wpO T cq l o s fun us=>wpR T cq l rest (s.app us) K
def b2Y (n:Nat) (o:Oper):Bool:=match o.dst with | some d=>decide (d < n) | none=>true
theorem b8x (s:St):∀ us:List Upd,(s.app us).n=s.n
 | []=>rfl
 | u :: us=>by rw [St.app,b8x];cases u <;> rfl
theorem b8y (hT:∀ t i,T t=some i->TOk P t i) (hcq:∀ o c,o.op= .call c->b75 P o (cq o c)) {l:List Oper} {W0:World} {M:Own} {Q':Exit->Act->World->Prop} {K:St->Prop} {n:Nat} (hfin:∀ s' a' w',s'.n=n->K s'->a6U W0 M s' a' w'->Q' .normal a' w') :
  ∀ {rest:List Oper} {s:St} {a:Act} {w:World},(rest.all (b2Y n))=true->s.n=n->a6U W0 M s a w->wpR T cq l rest s K->wpList P l.toArray Q' rest a w
 | [],s,a,w,_,hn,hR,hq=>wpList_nil (hfin s a w hn hq hR)
 | o :: rest,s,a,w,hd,hn,hR,hq=>by
  simp only [List.all_cons,Bool.and_eq_true] at hd
  simp only [wpR] at hq
  have hd1:∀ d,o.dst=some d->d < s.n:=fun d e=>by have h1:=hd.1;unfold b2Y at h1;rw [e] at h1;have h2:=of_decide_eq_true h1;rw [hn];exact h2
  have:=b8w (P:=P) hT hcq (ops:=l.toArray) rfl (Q':=Q') hd1 hR hq
  refine wpList_step ?_
  intro K' hK'
  split
  ·rename_i hw
   rw [if_pos hw] at this
   refine Oper.wp_mono (fun a' w'=>?_) this
   rintro⟨us,hk,hr⟩
   exact hK' _ _ (b8y hT hcq hfin hd.2 (by rw [b8x];exact hn) hr hk)
  ·rename_i hw
   rw [if_neg hw] at this
   obtain⟨us,hk,hr⟩:=this
   exact hK' _ _ (b8y hT hcq hfin hd.2 (by rw [b8x];exact hn) hr hk)
end
end Go.Proofs.YtacnfjjkhpkloaaGreat.Am
namespace Go.Proofs.YtacnfjjkhpkloaaGreat.Am
open Go
inductive AX where
 | normal
 | exit (id:Nat)
 | ret
def QK (W0:World) (M:Own) (K:AX->St->Prop):Exit->Act->World->Prop
 | .normal,a,w=>∃ s,a6U W0 M s a w/\K .normal s
 | .exit i,a,w=>∃ s,a6U W0 M s a w/\K (.exit i) s
 | .ret,a,w=>∃ s,a6U W0 M s a w/\K .ret s
 | _,_,_=>False
def Tri (P:Program) (c:Code) (K:AX->St->Prop) (s:St):Prop:=∀ W0 M a w,a6U W0 M s a w->c.wp P (QK W0 M K) a w
def Le (s s':St):Prop:=∀ W0 M a w,a6U W0 M s a w->a6U W0 M s' a w
def c9e (P:Program) (y:Code) (K:AX->St->Prop):AX->St->Prop
 | .normal,s=>Tri P y K s
 | .exit i,s=>K (.exit i) s
 | .ret,s=>K .ret s
def c9f (id:Nat) (K:AX->St->Prop):AX->St->Prop
 | .normal,s=>K .normal s
 | .exit i,s=>if i=id then K .normal s else K (.exit i) s
 | .ret,s=>K .ret s
def c7O (n:Nat) (I:Nat->St->Prop) (K:AX->St->Prop):AX->St->Prop
 | .normal,s=>∃ m s',m < n/\Le s s'/\I m s'
 | .exit i,s=>K (.exit i) s
 | .ret,s=>K .ret s
section
variable {P:Program} {T:TypeId->Option TI} {cq:Oper->Call->Q (List Upd)} {K:AX->St->Prop} {s:St}
theorem Le.refl (s:St):Le s s:=fun _ _ _ _ h=>h
theorem Le.trans {s1 s2 s3:St} (h:Le s1 s2) (k:Le s2 s3):Le s1 s3:=fun W0 M a w r=>k W0 M a w (h W0 M a w r)
theorem c1f (h:K .normal s):Tri P .skip K s:=fun _ _ _ _ hR=>wp_skip ⟨s,hR,h⟩
theorem c3A (h:K .ret s):Tri P .ret K s:=fun _ _ _ _ hR=>wp_ret ⟨s,hR,h⟩
theorem c1g {i:Nat} (h:K (.exit i) s):Tri P (.exit i) K s:=fun _ _ _ _ hR=>wp_exit ⟨s,hR,h⟩
theorem c5x {c:Code} {s':St} (hl:Le s s') (h:Tri P c K s'):Tri P c K s:=fun W0 M a w hR=>h W0 M a w (hl W0 M a w hR)
theorem b1y {x y:Code} (h:Tri P x (c9e P y K) s):Tri P (.seq x y) K s:=fun W0 M a w hR=>wp_seq (wp_mono (h W0 M a w hR) fun e a' w' hq=>by
 cases e with
 | normal=>obtain⟨s',h1,h2⟩:=hq;exact h2 W0 M a' w' h1
 | exit i=>exact hq
 | ret=>exact hq
 | goto l=>exact hq.elim
 | panic c=>exact hq.elim
 | outgrown=>exact hq.elim)
theorem b8z {id:Nat} {c:Code} (h:Tri P c (c9f id K) s):Tri P (.block id c) K s:=fun W0 M a w hR=>wp_block (wp_mono (h W0 M a w hR) fun e a' w' hq=>by
 cases e with
 | normal=>exact hq
 | exit i=>
  obtain⟨s',h1,h2⟩:=hq
  simp only [c9f] at h2
  simp only [Exit.inBlock]
  split
  ·rename_i e;rw [if_pos e] at h2;exact⟨s',h1,h2⟩
  ·rename_i e;rw [if_neg e] at h2;exact⟨s',h1,h2⟩
 | ret=>exact hq
 | goto l=>exact hq.elim
 | panic c=>exact hq.elim
 | outgrown=>exact hq.elim)
theorem c1h {c:Operand} {x y:Code} (h:((ev c).bind Q.bool).wp s fun b=>(b=true->Tri P x K s)/\(b=false->Tri P y K s)):Tri P (.cond c x y) K s:=fun W0 M a w hR=>by
 obtain⟨G,hr⟩:=hR
 rw [Q.wp_bind] at h
 obtain⟨v,h1,hv⟩:=P1 hr h
 obtain⟨b,hb,_,h2⟩:=b77 hv h1
 refine wp_cond_split hb (fun e=>?_) (fun e=>?_)
 ·exact h2.1 e W0 M a w ⟨G,hr⟩
 ·exact h2.2 e W0 M a w ⟨G,hr⟩
theorem b0P (hT:∀ t i,T t=some i->TOk P t i) (hcq:∀ o c,o.op= .call c->b75 P o (cq o c)) {id:Nat} {l:List Oper} (hd:(l.all (b2Y s.n))=true) (h:wpR T cq l l s (K .normal)):Tri P (.region id l.toArray false) K s:=fun _W0 _M _a _w hR=>
 wp_region_lit (b8y hT hcq (n:=s.n) (fun s' _a' _w' _ hk hr=>⟨s',hr,hk⟩) hd rfl hR h)
theorem a4C (p:Nat->Prop) (h:∃ n,p n):∃ n,p n/\∀ m,p m->n<=m:=by
 refine Classical.byContradiction fun hc=>?_
 have:∀ n,¬ p n:=fun n=>by
  induction n using Nat.strongRecOn with
  | _ n ih=>
   intro hn
   exact hc ⟨n,hn,fun m hm=>by
    rcases Nat.lt_or_ge m n with h | h
    ·exact(ih m h hm).elim
    ·exact h⟩
 obtain⟨n,hn⟩:=h
 exact this n hn
theorem c1i (I:Nat->St->Prop) {n0:Nat} {s0:St} {c:Code} (h0:Le s s0) (hi:I n0 s0) (h:∀ n s,I n s->Tri P c (c7O n I K) s):Tri P (.loop c) K s:=fun W0 M a w hR=>by
 classical
 let J:Act->World->Nat->Prop:=fun a w n=>∃ s,I n s/\a6U W0 M s a w
 let μ:Act->World->Nat:=fun a w=>if h:∃ n,J a w n then Classical.choose (a4C _ h) else 0
 refine wp_loop (fun a w=>∃ n,J a w n) μ ⟨n0,s0,hi,h0 W0 M a w hR⟩ (fun a w hJ=>?_)
 obtain⟨⟨s1,hi1,hr1⟩,_⟩:=Classical.choose_spec (a4C _ hJ)
 have hμ:μ a w=Classical.choose (a4C _ hJ):=dif_pos hJ
 refine wp_mono (h _ s1 hi1 W0 M a w hr1) fun e a' w' hq=>?_
 cases e with
 | normal=>
  obtain⟨s',h1,m,s'',h2,h3,h4⟩:=hq
  have hj:J a' w' m:=⟨s'',h4,h3 W0 M a' w' h1⟩
  refine⟨⟨m,hj⟩,?_⟩
  have h5:μ a' w'<=m:=by
   show(if h:∃ n,J a' w' n then Classical.choose (a4C _ h) else 0)<=m
   rw [dif_pos ⟨m,hj⟩]
   exact(Classical.choose_spec (a4C _ (⟨m,hj⟩:∃ n,J a' w' n))).2 m hj
  rw [hμ]
  omega
 | exit i=>exact hq
 | ret=>exact hq
 | goto l=>exact hq.elim
 | panic c=>exact hq.elim
 | outgrown=>exact hq.elim
end
end Go.Proofs.YtacnfjjkhpkloaaGreat.Am
namespace Go.Proofs.YtacnfjjkhpkloaaGreat.Am
open Go
def a0x {α:Type}:List (Nat × α)->Nat->Option α
 | [],_=>none
 | (k,x) :: l,j=>if j=k then some x else a0x l j
def a47 (n:Nat) (t:List (Nat × AV)) (b:List (Nat × Nat × List AC)) (r:List (Nat × Option Nat × Row)):St:=
 ⟨n,fun k=>⟨decide (k < n),(a0x t k).getD .any⟩,fun k=>⟨0,(a0x b k).map (·.2)⟩,fun k=>⟨0,(a0x r k).map (·.2)⟩⟩
def c5y (s:St) (b:List (Nat × Nat × List AC)) (r:List (Nat × Option Nat × Row)):AC->AC->Prop
 | _,.junk=>True
 | .d x,.d y=>x=y
 | .nil,.nil=>True
 | .nil,.d y=>y= .sl []
 | .nil,.row id' ver'=>ver'=0/\(a0x r id').map (·.1)=some none
 | .row id ver,.row id' ver'=>ver=(s.r id).ver/\ver'=0/\(a0x r id').map (·.1)=some (some id)
 | .ptr id ver off,.ptr id' ver' off'=>ver=(s.b id).ver/\ver'=0/\off=off'/\(a0x b id').map (·.1)=some id
 | .eptr cs,.eptr cs'=>cs=cs'
 | .rptr id ver i off sz,.rptr id' ver' i' off' sz'=>ver=(s.r id).ver/\ver'=0/\(a0x r id').map (·.1)=some (some id)/\i=i'/\off=off'/\sz=sz'
 | _,_=>False
def a8T (s:St) (b:List (Nat × Nat × List AC)) (r:List (Nat × Option Nat × Row)):List AC->List AC->Prop
 | [],[]=>True
 | x :: xs,y :: ys=>c5y s b r x y/\a8T s b r xs ys
 | _,_=>False
def c5z (s:St) (b:List (Nat × Nat × List AC)) (r:List (Nat × Option Nat × Row)):AV->AV->Prop
 | _,.any=>True
 | .c x,.c y=>c5y s b r x y
 | .agg xs,.agg ys=>a8T s b r xs ys
 | _,_=>False
def rowLe (R R':Row):Prop:=R.es=R'.es/\R.sz=R'.sz/\R.e=R'.e/\(R.fr=true->R'.fr=true)
def a5N (s:St) (b:List (Nat × Nat × List AC)) (r:List (Nat × Option Nat × Row)):List (Nat × AV)->Prop
 | []=>True
 | (k,y) :: l=>((k < s.n->(s.t k).g=true)/\c5z s b r (s.t k).x y)/\a5N s b r l
def c3B (s:St) (b:List (Nat × Nat × List AC)) (r:List (Nat × Option Nat × Row)) (x:Option (List AC)) (y:List AC):Prop:=match x with
 | some cs=>a8T s b r cs y
 | none=>False
def a6Z (s:St) (b:List (Nat × Nat × List AC)) (r:List (Nat × Option Nat × Row)):List (Nat × Nat × List AC)->Prop
 | []=>True
 | (_,id,y) :: l=>c3B s b r (s.b id).c y/\a6Z s b r l
def rowSrc (s:St) (id:Option Nat) (R:Row):Prop:=match id with
 | none=>R.es=[]/\0 < R.sz/\R.e < a0S
 | some id=>match(s.r id).c with
  | some R'=>rowLe R' R
  | none=>False
def rowsLe (s:St):List (Nat × Option Nat × Row)->Prop
 | []=>True
 | (_,id,R) :: l=>rowSrc s id R/\rowsLe s l
section
variable {s:St} {n:Nat} {t:List (Nat × AV)} {b:List (Nat × Nat × List AC)} {r:List (Nat × Option Nat × Row)}
theorem a2K {α:Type}:∀ {l:List (Nat × α)} {k:Nat} {x:α},a0x l k=some x->(k,x) ∈ l
 | [],_,_,h=>by simp [a0x] at h
 | (j,y) :: l,k,x,h=>by
  simp only [a0x] at h
  split at h
  ·rename_i e;injection h with h;subst h;subst e;simp
  ·exact List.mem_cons_of_mem _ (a2K h)
theorem a5N.get:∀ {l:List (Nat × AV)},a5N s b r l->∀ {k:Nat} {y:AV},(k,y) ∈ l->(k < s.n->(s.t k).g=true)/\c5z s b r (s.t k).x y
 | (k0,y0) :: l,h,k,y,hm=>by
  rcases List.mem_cons.1 hm with e | hm
  ·injection e with e1 e2;subst e1;subst e2;exact h.1
  ·exact a5N.get h.2 hm
theorem a6Z.get:∀ {l:List (Nat × Nat × List AC)},a6Z s b r l->∀ {k id:Nat} {y:List AC},(k,id,y) ∈ l->∃ cs,(s.b id).c=some cs/\a8T s b r cs y
 | (k0,id0,y0) :: l,h,k,id,y,hm=>by
  rcases List.mem_cons.1 hm with e | hm
  ·injection e with e1 e2;injection e2 with e2 e3;subst e1;subst e2;subst e3
   have:=h.1
   unfold c3B at this
   split at this
   ·rename_i cs hc;exact⟨cs,hc,this⟩
   ·exact this.elim
  ·exact a6Z.get h.2 hm
theorem rowsLe.get:∀ {l:List (Nat × Option Nat × Row)},rowsLe s l->∀ {k:Nat} {id:Option Nat} {R:Row},(k,id,R) ∈ l->rowSrc s id R
 | (k0,id0,y0) :: l,h,k,id,y,hm=>by
  rcases List.mem_cons.1 hm with e | hm
  ·injection e with e1 e2;injection e2 with e2 e3;subst e1;subst e2;subst e3;exact h.1
  ·exact rowsLe.get h.2 hm
theorem a8E {α β:Type} {f:α->β}:∀ {l:List α},(l.map f).Nodup->∀ {x y:α},x ∈ l->y ∈ l->f x=f y->x=y
 | a :: l,h,x,y,hx,hy,e=>by
  rw [List.map_cons,List.nodup_cons] at h
  rcases List.mem_cons.1 hx with rfl | hx' <;> rcases List.mem_cons.1 hy with rfl | hy'
  ·rfl
  ·exact(h.1 (by rw [e];exact List.mem_map_of_mem hy')).elim
  ·exact(h.1 (by rw [<-e];exact List.mem_map_of_mem hx')).elim
  ·exact a8E h.2 hx' hy' e
theorem c5A {s:St} {k id:Nat} {R:Row} (hk:k < s.n) (hg:(s.t k).g=true) (hx:(s.t k).x= .c (.row id (s.r id).ver)) (hR:(s.r id).c=some R) (he:R.e < a0S) :
  Le s ((s.app [.r id ⟨(s.r id).ver,some ⟨R.es,R.sz,R.e,true⟩⟩]).app [.t k ⟨true,.c (.d (.sl R.es))⟩]):=by
 rintro W0 M a w ⟨G,h⟩
 obtain⟨I',m1,e1,hd⟩:=h.mem.freeze1 hR he
 have h1:=h.mem' e1 m1 rfl rfl
 have hv:=(h.tm k).1 hg
 rw [hx] at hv
 have hval:a.tmps.getD k undef=G.rw id:=by
  simp only [AVr,ACr] at hv
  exact hv.2.2 trivial (by rw [hR];rfl)
 have h2:=h1.put (d:=k) hk (x:=⟨true,.c (.d (.sl R.es))⟩) (v:=a.tmps.getD k undef) ⟨fun _=>by simp only [AVr,ACr];rw [hval];exact hd,fun e=>by cases e⟩
 have ha:a.put (some k) (a.tmps.getD k undef)=a:=by
  unfold Act.put
  have:a.tmps.setIfInBounds k (a.tmps.getD k undef)=a.tmps:=by
   apply Array.ext
   ·simp
   ·intro i h1 h2
    rw [Array.getElem_setIfInBounds]
    split
    ·rename_i e;subst e;simp [Array.getD,h2]
    ·rfl
  simp only [this]
 rw [ha] at h2
 exact⟨_,h2⟩
theorem c7P (hn:s.n=n) (ht:a5N s b r t) (hb:a6Z s b r b) (hr:rowsLe s r) (hbn:(b.map (·.2.1)).Nodup) (hrn:(r.filterMap (·.2.1)).Nodup):Le s (a47 n t b r):=by
 intro W0 M a w hR
 obtain⟨G,h⟩:=hR
 let G':Gh:=⟨G.I,fun k=>G.bx (((a0x b k).map (·.1)).getD 0),fun k=>match(a0x r k).map (·.1) with | some (some id)=>G.rw id | _=> .slice none 0 0,fun k=>match(a0x r k).map (·.1) with | some (some id)=>G.st id | _=>(undef,0),fun k=>match(a0x r k).map (·.1) with | some (some id)=>G.ex id | _=>[]⟩
 have hbsrc:∀ {k id:Nat} {y:List AC},a0x b k=some (id,y)->∃ cs,(s.b id).c=some cs/\a8T s b r cs y:=fun h=>a6Z.get hb (a2K h)
 have hrsrc:∀ {k:Nat} {id:Option Nat} {R:Row},a0x r k=some (id,R)->rowSrc s id R:=fun h=>rowsLe.get hr (a2K h)
 have hac:∀ {x y:AC} {v:Value},c5y s b r x y->ACr G s w x v->ACr G' (a47 n t b r) w y v:=by
  intro x y v hl hx
  have hone:=hx.one
  unfold c5y at hl
  split at hl
  ·exact hone
  ·subst hl;exact hx
  ·exact hx
  ·subst hl
   simp only [ACr] at hx ⊢
   subst hx
   simp only [DVr]
   exact⟨none,0,1,[],rfl,Nat.le_refl _,by simp [maxLen],by omega,by simp,by simp,by simp [H6]⟩
  ·obtain⟨rfl,h2⟩:=hl
   simp only [ACr] at hx ⊢
   refine⟨hone,Nat.zero_le _,fun _ _=>?_⟩
   simp only [G',h2]
   exact hx
  ·obtain⟨h1,rfl,h2⟩:=hl
   simp only [ACr] at hx ⊢
   refine⟨hone,Nat.zero_le _,fun _ hs=>?_⟩
   simp only [G',h2]
   refine hx.2.2 h1 ?_
   cases hlk:a0x r _ with
   | none=>rw [hlk] at h2;cases h2
   | some p=>
    rw [hlk] at h2
    obtain⟨id0,R0⟩:=p
    injection h2 with h2
    simp only at h2
    subst h2
    have:=hrsrc hlk
    simp only [rowSrc] at this
    split at this
    ·rename_i R' hR';rw [hR'];rfl
    ·exact this.elim
  ·obtain⟨h1,rfl,rfl,h2⟩:=hl
   simp only [ACr] at hx ⊢
   refine⟨hone,Nat.zero_le _,fun _ hs=>?_⟩
   simp only [G',h2,Option.getD_some]
   refine hx.2.2 h1 ?_
   cases hlk:a0x b _ with
   | none=>rw [hlk] at h2;cases h2
   | some p=>
    rw [hlk] at h2
    obtain⟨id0,y0⟩:=p
    injection h2 with h2
    simp only at h2
    subst h2
    obtain⟨cs,hc,_⟩:=hbsrc hlk
    rw [hc];rfl
  ·subst hl;exact hx
  ·obtain⟨h1,rfl,h2,rfl,rfl,rfl⟩:=hl
   simp only [ACr] at hx ⊢
   refine⟨hone,Nat.zero_le _,fun _ hs=>?_⟩
   simp only [G',h2]
   refine hx.2.2 h1 ?_
   cases hlk:a0x r _ with
   | none=>rw [hlk] at h2;cases h2
   | some p=>
    rw [hlk] at h2
    obtain⟨id0,R0⟩:=p
    injection h2 with h2
    simp only at h2
    subst h2
    have:=hrsrc hlk
    simp only [rowSrc] at this
    split at this
    ·rename_i R' hR';rw [hR'];rfl
    ·exact this.elim
  ·exact hl.elim
 have hacs:∀ {xs ys:List AC} {vs:List Value},a8T s b r xs ys->ACs G s w xs vs->ACs G' (a47 n t b r) w ys vs:=by
  intro xs
  induction xs with
  | nil=>
   intro ys vs hl hx
   cases ys with
   | nil=>exact hx
   | cons y ys=>exact hl.elim
  | cons x xs ih=>
   intro ys vs hl hx
   cases ys with
   | nil=>exact hl.elim
   | cons y ys=>
    simp only [ACs] at hx ⊢
    obtain⟨v,rest,h1,h2,h3⟩:=hx
    exact⟨v,rest,h1,hac hl.1 h2,ih hl.2 h3⟩
 have howner:∀ x g,g ∈ own G' (a47 n t b r) x->∃ y,g ∈ own G s y/\(match x with | .inl k=>∃ id cs,a0x b k=some (id,cs)/\y= .inl id | .inr k=>∃ id R,a0x r k=some (some id,R)/\y= .inr id):=by
  intro x g hx
  rcases x with k | k
  ·have e0:((a47 n t b r).b k).c=(a0x b k).map (·.2):=rfl
   simp only [own,e0] at hx
   cases hlk:a0x b k with
   | none=>simp [hlk] at hx
   | some p=>
    obtain⟨id,y⟩:=p
    simp only [hlk,Option.map_some,Option.isSome_some,if_true,G',Option.getD_some,List.mem_singleton] at hx
    obtain⟨cs,hc,_⟩:=hbsrc hlk
    exact⟨.inl id,by rw [hx];exact b0F (by rw [hc];rfl),id,y,hlk,rfl⟩
  ·have e0:((a47 n t b r).r k).c=(a0x r k).map (·.2):=rfl
   simp only [own,e0] at hx
   cases hlk:a0x r k with
   | none=>simp [hlk] at hx
   | some p=>
    obtain⟨id,R⟩:=p
    cases id with
    | none=>simp [G',hlk,obk] at hx
    | some id=>
     simp only [hlk,Option.map_some,G'] at hx
     have:=hrsrc hlk
     simp only [rowSrc] at this
     split at this
     ·rename_i R' hR'
      exact⟨.inr id,by simp only [own,hR'];rw [this.2.2.1];exact hx,id,R,hlk,rfl⟩
     ·exact this.elim
 have hbinj:∀ {k k' id:Nat} {y y':List AC},a0x b k=some (id,y)->a0x b k'=some (id,y')->k=k':=by
  intro k k' id y y' h1 h2
  have:=a8E hbn (a2K h1) (a2K h2) rfl
  injection this
 have hrinj:∀ {k k' id:Nat} {y y':Row},a0x r k=some (some id,y)->a0x r k'=some (some id,y')->k=k':=by
  intro k k' id y y' h1 h2
  have key:∀ {l:List (Nat × Option Nat × Row)},(l.filterMap (·.2.1)).Nodup->∀ {p q:Nat × Option Nat × Row},p ∈ l->q ∈ l->p.2.1=some id->q.2.1=some id->p=q:=by
   intro l
   induction l with
   | nil=>intro _ p q hp;simp at hp
   | cons a l ih=>
    intro hnd p q hp hq e1 e2
    rcases List.mem_cons.1 hp with rfl | hp' <;> rcases List.mem_cons.1 hq with rfl | hq'
    ·rfl
    ·rw [List.filterMap_cons_some (f:=fun(x:Nat × Option Nat × Row)=>x.2.1) e1,List.nodup_cons] at hnd
     exact(hnd.1 (List.mem_filterMap.2 ⟨q,hq',e2⟩)).elim
    ·rw [List.filterMap_cons_some (f:=fun(x:Nat × Option Nat × Row)=>x.2.1) e2,List.nodup_cons] at hnd
     exact(hnd.1 (List.mem_filterMap.2 ⟨p,hp',e1⟩)).elim
    ·refine ih ?_ hp' hq' e1 e2
     cases ha:a.2.1 with
     | none=>rw [List.filterMap_cons_none (f:=fun(x:Nat × Option Nat × Row)=>x.2.1) ha] at hnd;exact hnd
     | some z=>rw [List.filterMap_cons_some (f:=fun(x:Nat × Option Nat × Row)=>x.2.1) ha,List.nodup_cons] at hnd;exact hnd.2
  have:=key hrn (a2K h1) (a2K h2) rfl rfl
  injection this
 have hav:∀ {x y:AV} {v:Value},c5z s b r x y->AVr G s w x v->AVr G' (a47 n t b r) w y v:=by
  intro x y v h2 hv
  unfold c5z at h2
  split at h2
  ·simp only [AVr]
  ·simp only [AVr] at hv ⊢;exact hac h2 hv
  ·simp only [AVr] at hv ⊢
   obtain⟨vs,e,h3⟩:=hv
   exact⟨vs,e,hacs h2 h3⟩
  ·exact h2.elim
 refine⟨G',h.sz.trans hn,h.df,fun k=>?_,?_,fun k=>?_⟩
 ·refine⟨fun hk=>?_,fun e=>?_⟩
  ·simp only [a47,decide_eq_true_eq] at hk ⊢
   cases hlk:a0x t k with
   | none=>simp only [Option.getD_none,AVr]
   | some y=>
    simp only [Option.getD_some]
    obtain⟨h1,h2⟩:=a5N.get ht (a2K hlk)
    exact hav h2 ((h.tm k).1 (h1 (by rw [hn];exact hk)))
  ·simp only [a47,decide_eq_false_iff_not] at e
   have hsz:=h.sz
   rw [Array.getD_eq_getD_getElem?,Array.getElem?_eq_none (by omega)]
   rfl
 ·refine⟨fun k cs hc=>?_,fun k R hc=>?_,fun x y g hx hy=>?_,fun k hc o hi=>?_,fun k R g hc hg o hi=>?_,fun x g hx=>?_,h.mem.In,h.mem.fr,h.mem.ii,h.mem.gl,fun k R hc hp=>?_,fun k R hc hp=>?_⟩
  rotate_right 2
  rotate_left
  ·simp only [a47] at hc
   cases hlk:a0x r k with
   | none=>rw [hlk] at hc;cases hc
   | some p=>
    obtain⟨id,y⟩:=p
    rw [hlk] at hc
    injection hc with hc;simp only at hc;subst hc
    have hsrc:=hrsrc hlk
    cases id with
    | none=>
     obtain⟨e1,e2,eF⟩:=hsrc
     exact absurd hp (I8 eF)
    | some id=>
     simp only [rowSrc] at hsrc
     split at hsrc
     ·rename_i R' hR'
      obtain⟨e1,e2,e3,_⟩:=hsrc
      obtain⟨⟨g,es,cl,k1,k2,k3,k4,k5⟩,k6⟩:=h.mem.sx id R' hR' (by rw [e3];exact hp)
      simp only [G',hlk,Option.map_some]
      exact⟨⟨g,es,cl,k1,k2,k3,k4,by rw [<-e1,<-e3];exact k5⟩,k6⟩
     ·exact hsrc.elim
  rotate_right
  ·simp only [a47] at hc
   cases hlk:a0x r k with
   | none=>rw [hlk] at hc;cases hc
   | some p=>
    obtain⟨id,y⟩:=p
    rw [hlk] at hc
    injection hc with hc;simp only at hc;subst hc
    have hsrc:=hrsrc hlk
    cases id with
    | none=>
     obtain⟨e1,e2,eF⟩:=hsrc
     exact absurd (ltp eF) (Nat.not_lt.2 hp)
    | some id=>
     simp only [rowSrc] at hsrc
     split at hsrc
     ·rename_i R' hR'
      obtain⟨e1,e2,e3,_⟩:=hsrc
      obtain⟨g,es,cl,i,m,k1,k2,k3,k4⟩:=h.mem.pe id R' hR' (by rw [e3];exact hp)
      simp only [G',hlk,Option.map_some]
      exact⟨g,es,cl,i,m,k1,k2,by rw [<-e1];exact k3,k4⟩
     ·exact hsrc.elim
  ·simp only [a47] at hc
   cases hlk:a0x b k with
   | none=>rw [hlk] at hc;cases hc
   | some p=>
    obtain⟨id,y⟩:=p
    rw [hlk] at hc
    injection hc with hc;simp only at hc;subst hc
    obtain⟨cs',hc',hl⟩:=hbsrc hlk
    obtain⟨cur,ty,h1,h2⟩:=h.mem.bx id cs' hc'
    exact⟨cur,ty,by simp only [G',hlk,Option.map_some,Option.getD_some];exact h1,hacs hl h2⟩
  ·simp only [a47] at hc
   cases hlk:a0x r k with
   | none=>rw [hlk] at hc;cases hc
   | some p=>
    obtain⟨id,y⟩:=p
    rw [hlk] at hc
    injection hc with hc;simp only at hc;subst hc
    have hsrc:=hrsrc hlk
    cases id with
    | none=>
     obtain⟨e1,e2,eF⟩:=hsrc
     refine⟨e2,by simp [e1],.inl ⟨eF,[],?_,by simp [e1,H6]⟩⟩
     simp only [G',hlk,Option.map_some,e1,List.length_nil]
     exact World.ownsRow_nil w 0 _ _
    | some id=>
     simp only [rowSrc] at hsrc
     split at hsrc
     ·rename_i R' hR'
      obtain⟨e1,e2,e3,_⟩:=hsrc
      have q:=h.mem.rw id R' hR'
      simp only [G',hlk,Option.map_some]
      exact a0b.as q e1 e2 e3
     ·exact hsrc.elim
  ·obtain⟨x',hx',mx⟩:=howner x g hx
   obtain⟨y',hy',my⟩:=howner y g hy
   have e:=h.mem.dj x' y' g hx' hy'
   subst e
   rcases x with k | k <;> rcases y with j | j <;> simp only at mx my
   ·obtain⟨id,cs,l1,e1⟩:=mx
    obtain⟨id',cs',l2,e2⟩:=my
    rw [e1] at e2;injection e2 with e2;subst e2
    rw [hbinj l1 l2]
   ·obtain⟨id,cs,l1,e1⟩:=mx
    obtain⟨id',cs',l2,e2⟩:=my
    rw [e1] at e2;cases e2
   ·obtain⟨id,cs,l1,e1⟩:=mx
    obtain⟨id',cs',l2,e2⟩:=my
    rw [e1] at e2;cases e2
   ·obtain⟨id,cs,l1,e1⟩:=mx
    obtain⟨id',cs',l2,e2⟩:=my
    rw [e1] at e2;injection e2 with e2;subst e2
    rw [hrinj l1 l2]
  ·simp only [a47] at hc
   cases hlk:a0x b k with
   | none=>rw [hlk] at hc;cases hc
   | some p=>
    obtain⟨id,y⟩:=p
    obtain⟨cs',hc',_⟩:=hbsrc hlk
    simp only [G',hlk,Option.map_some,Option.getD_some] at hi
    exact h.mem.bI id (by rw [hc'];rfl) o hi
  ·simp only [a47] at hc
   cases hlk:a0x r k with
   | none=>rw [hlk] at hc;cases hc
   | some p=>
    obtain⟨id,y⟩:=p
    rw [hlk] at hc
    injection hc with hc;simp only at hc;subst hc
    have hsrc:=hrsrc hlk
    cases id with
    | none=>simp [G',hlk,obk] at hg
    | some id=>
     simp only [rowSrc] at hsrc
     split at hsrc
     ·rename_i R' hR'
      obtain⟨e1,e2,_,e4⟩:=hsrc
      simp only [G',hlk,Option.map_some] at hg
      obtain⟨q1,q2⟩:=h.mem.rI id R' g hR' hg o hi
      exact⟨e4 q1,by rw [<-e1,<-e2];exact q2⟩
     ·exact hsrc.elim
  ·obtain⟨y,hy,_⟩:=howner x g hx
   exact h.mem.oM y g hy
 ·have hv:=h.pin k
  rw [hn] at hv
  show AVr G' (a47 n t b r) w ((a0x t (n + k)).getD .any) (M.pin k)
  cases hlk:a0x t (n + k) with
  | none=>simp only [Option.getD_none,AVr]
  | some y=>
   simp only [Option.getD_some]
   obtain⟨_,h2⟩:=a5N.get ht (a2K hlk)
   exact hav h2 hv
end
end Go.Proofs.YtacnfjjkhpkloaaGreat.Am
namespace Go.Proofs.YtacnfjjkhpkloaaGreat.Am
open Go
def Upd.part:Upd->N7
 | .t k _=> .t k
 | .b k _=> .b k
 | .r k _=> .r k
def Q.wpt {α:Type}:Q α->St->List N7->(α->List N7->Prop)->Prop
 | .ret a,_,tr,K=>K a tr
 | .rdT k f,s,tr,K=>(f (s.t k)).wpt s (.t k :: tr) K
 | .rdB k f,s,tr,K=>(f (s.b k)).wpt s (.b k :: tr) K
 | .rdR k f,s,tr,K=>(f (s.r k)).wpt s (.r k :: tr) K
 | .req p q,s,tr,K=>p/\q.wpt s tr K
 | .fail,_,_,_=>False
def wpD (T:TypeId->Option TI) (cq:Oper->Call->Q (List Upd)) (l:List Oper):List Oper->St->List (List N7 × List N7)->(St->List (List N7 × List N7)->Prop)->Prop
 | [],s,tr,K=>K s tr
 | o :: rest,s,tr,K=>(opD T cq l o).wpt s [] fun us rs=>wpD T cq l rest (s.app us) (tr ++ [(rs,us.map Upd.part)]) K
def b7R:List Oper->List (List Nat)->List (List Nat)
 | [],acc=>acc
 | o :: rest,acc=>b7R rest (acc ++ [(o.after.toList.filter (Region.binds .any)).flatMap fun e=>e.on :: acc.getD e.on []])
def c7Q:List Nat->List Nat->List Nat
 | [],a=>a
 | x :: xs,a=>c7Q xs (bif a.contains x then a else x :: a)
def c4X (acc:List (List Nat)):List Edge->List Nat
 | []=>[]
 | e :: es=>bif Region.binds .any e then c7Q (e.on :: acc.getD e.on []) (c4X acc es) else c4X acc es
def c7R:List Oper->List (List Nat)->List (List Nat)
 | [],acc=>acc
 | o :: rest,acc=>c7R rest (acc ++ [c4X acc o.after.toList])
theorem b5E:∀ (xs a:List Nat) (y:Nat),y ∈ c7Q xs a->y ∈ xs\/y ∈ a
 | [],_,_,h=> .inr h
 | x :: xs,a,y,h=>by
  rcases b5E xs _ y h with h | h
  ·exact .inl (by simp [h])
  ·cases hc:a.contains x with
   | true=>rw [hc] at h;exact .inr h
   | false=>
    rw [hc] at h
    rcases List.mem_cons.1 h with rfl | h
    ·exact .inl (by simp)
    ·exact .inr h
theorem b1z {acc acc':List (List Nat)} (hs:∀ k y,y ∈ acc.getD k []->y ∈ acc'.getD k []):∀ (es:List Edge) (y:Nat),y ∈ c4X acc es->y ∈ (es.filter (Region.binds .any)).flatMap fun e=>e.on :: acc'.getD e.on []
 | [],_,h=>by simp [c4X] at h
 | e :: es,y,h=>by
  unfold c4X at h
  cases hb:Region.binds .any e with
  | true=>
   rw [hb] at h
   rw [List.filter_cons_of_pos hb,List.flatMap_cons,List.mem_append]
   rcases b5E _ _ y h with h | h
   ·left
    rcases List.mem_cons.1 h with rfl | h
    ·simp
    ·exact List.mem_cons_of_mem _ (hs _ _ h)
   ·exact .inr (b1z hs es y h)
  | false=>
   rw [hb] at h
   rw [List.filter_cons_of_neg (by rw [hb];simp)]
   exact b1z hs es y h
theorem b5F:∀ (l:List Oper) (acc acc':List (List Nat)),acc.length=acc'.length->(∀ k y,y ∈ acc.getD k []->y ∈ acc'.getD k [])->∀ k y,y ∈ (c7R l acc).getD k []->y ∈ (b7R l acc').getD k []
 | [],_,_,_,hs,k,y,h=>hs k y h
 | o :: l,acc,acc',hl,hs,k,y,h=>by
  refine b5F l _ _ (by simp [hl]) (fun k y hy=>?_) k y h
  simp only [List.getD_eq_getElem?_getD,List.getElem?_append] at hy ⊢
  by_cases h1:k < acc.length
  ·rw [if_pos h1] at hy
   rw [if_pos (by omega)]
   have:=hs k y (by rw [List.getD_eq_getElem?_getD];exact hy)
   rwa [List.getD_eq_getElem?_getD] at this
  ·rw [if_neg h1] at hy
   rw [if_neg (by omega)]
   by_cases h2:k=acc.length
   ·rw [h2,Nat.sub_self] at hy
    rw [h2,hl,Nat.sub_self]
    exact b1z hs _ _ hy
   ·rw [List.getElem?_eq_none (by simp;omega)] at hy
    simp at hy
def c1j (a b:List N7):Bool:=a.any fun c=>b.contains c
def c5B (x y:List N7 × List N7):Bool:=c1j x.1 y.2 || c1j x.2 y.1 || c1j x.2 y.2
def a9A (l:List Oper) (tr:List (List N7 × List N7)):Bool:=
 ((List.range l.length).all fun i=>((l.getD i default).after.toList.all fun e=> !Region.binds .any e || decide (e.on < i))) &&
 ((List.range l.length).all fun i=>(List.range i).all fun j=> !c5B (tr.getD j ([],[])) (tr.getD i ([],[])) || ((c7R l []).getD i []).contains j)
section
variable {P:Program} {T:TypeId->Option TI} {cq:Oper->Call->Q (List Upd)}
theorem a9B {α:Type} {s:St} {K:α->List N7->Prop}:∀ {q:Q α} {tr:List N7},q.wpt s tr K->∃ a rs,q.wp s (· =a)/\(∀ c ∈ q.reads s,c ∈ rs)/\(∀ c ∈ tr,c ∈ rs)/\K a rs
 | .ret a,tr,h=>⟨a,tr,rfl,by simp [Q.reads],fun c hc=>hc,h⟩
 | .rdT k f,tr,h=>by
  obtain⟨a,rs,h1,h2,h3,h4⟩:=a9B (q:=f (s.t k)) h
  exact⟨a,rs,h1,fun c hc=>by rcases List.mem_cons.1 hc with rfl | hc;exact h3 _ (by simp);exact h2 c hc,fun c hc=>h3 c (by simp [hc]),h4⟩
 | .rdB k f,tr,h=>by
  obtain⟨a,rs,h1,h2,h3,h4⟩:=a9B (q:=f (s.b k)) h
  exact⟨a,rs,h1,fun c hc=>by rcases List.mem_cons.1 hc with rfl | hc;exact h3 _ (by simp);exact h2 c hc,fun c hc=>h3 c (by simp [hc]),h4⟩
 | .rdR k f,tr,h=>by
  obtain⟨a,rs,h1,h2,h3,h4⟩:=a9B (q:=f (s.r k)) h
  exact⟨a,rs,h1,fun c hc=>by rcases List.mem_cons.1 hc with rfl | hc;exact h3 _ (by simp);exact h2 c hc,fun c hc=>h3 c (by simp [hc]),h4⟩
 | .req p q,tr,h=>by
  obtain⟨a,rs,h1,h2,h3,h4⟩:=a9B (q:=q) h.2
  exact⟨a,rs,⟨h.1,h1⟩,h2,h3,h4⟩
def sub (X:Nat->Bool):Nat->List (List Upd)->St->St
 | _,[],s=>s
 | i,us :: r,s=>sub X (i + 1) r (bif X i then s.app us else s)
theorem a7z (s:St) (c:N7):c.same s s:=by cases c <;> rfl
theorem b8A {s s':St} {c:N7} (u:Upd) (h:c.same s s'):c.same (s.app1 u) (s'.app1 u):=by
 cases u with
 | t k x=>
  cases c with
  | t j=>
   simp only [N7.same,St.app1,St.setT,upd] at h ⊢
   by_cases e:j=k
   ·simp [e]
   ·simp [e,h]
  | b j=>exact h
  | r j=>exact h
 | b k x=>
  cases c with
  | b j=>
   simp only [N7.same,St.app1,St.setB,upd] at h ⊢
   by_cases e:j=k
   ·simp [e]
   ·simp [e,h]
  | t j=>exact h
  | r j=>exact h
 | r k x=>
  cases c with
  | r j=>
   simp only [N7.same,St.app1,St.setR,upd] at h ⊢
   by_cases e:j=k
   ·simp [e]
   ·simp [e,h]
  | b j=>exact h
  | t j=>exact h
theorem a86 {s s':St} {c:N7}:∀ (us:List Upd),c.same s s'->c.same (s.app us) (s'.app us)
 | [],h=>h
 | u :: us,h=>a86 (s:=s.app1 u) (s':=s'.app1 u) us (b8A u h)
theorem b60 {s:St} {c:N7} (u:Upd) (h:c ≠ u.part):c.same (s.app1 u) s:=by
 cases u with
 | t k x=>
  cases c with
  | t j=>simp only [N7.same,St.app1,St.setT,upd];rw [if_neg (fun e=>h (by rw [e];rfl))]
  | b j=>rfl
  | r j=>rfl
 | b k x=>
  cases c with
  | b j=>simp only [N7.same,St.app1,St.setB,upd];rw [if_neg (fun e=>h (by rw [e];rfl))]
  | t j=>rfl
  | r j=>rfl
 | r k x=>
  cases c with
  | r j=>simp only [N7.same,St.app1,St.setR,upd];rw [if_neg (fun e=>h (by rw [e];rfl))]
  | b j=>rfl
  | t j=>rfl
theorem a4D {s1 s2 s3:St} {c:N7} (h:c.same s1 s2) (k:c.same s2 s3):c.same s1 s3:=by cases c <;> exact Eq.trans h k
theorem b2Z {s1 s2:St} {c:N7} (h:c.same s1 s2):c.same s2 s1:=by cases c <;> exact Eq.symm h
theorem a7A {c:N7}:∀ (us:List Upd) (s:St),c ∉ us.map Upd.part->c.same (s.app us) s
 | [],s,_=>a7z s c
 | u :: us,s,h=>by
  simp only [List.map_cons,List.mem_cons,not_or] at h
  exact a4D (a7A us (s.app1 u) h.2) (b60 u h.1)
theorem b8B {s s':St} {c:N7} (u:Upd) (h:c=u.part):c.same (s.app1 u) (s'.app1 u):=by
 subst h
 cases u <;> simp [N7.same,Upd.part,St.app1,St.setT,St.setB,St.setR,upd]
theorem b5G {c:N7}:∀ (us:List Upd) (s s':St),c ∈ us.map Upd.part->c.same (s.app us) (s'.app us)
 | u :: us,s,s',h=>by
  simp only [List.map_cons,List.mem_cons] at h
  by_cases hc:c ∈ us.map Upd.part
  ·exact b5G us (s.app1 u) (s'.app1 u) hc
  ·rcases h with h | h
   ·exact a86 us (b8B u h)
   ·exact(hc h).elim
theorem a87 {c:N7} (X Y:Nat->Bool):∀ (L:List (List Upd)) (k:Nat) (s s':St),c.same s s'->(∀ j us,L[j]?=some us->c ∈ us.map Upd.part->X (k + j)=Y (k + j))->c.same (sub X k L s) (sub Y k L s')
 | [],_,_,_,h,_=>h
 | us :: L,k,s,s',h,hw=>by
  simp only [sub]
  refine a87 X Y L (k + 1) _ _ ?_ (fun j vs hj hc=>by have:=hw (j + 1) vs (by simpa using hj) hc;rwa [Nat.add_assoc,Nat.add_comm 1 j])
  by_cases hc:c ∈ us.map Upd.part
  ·have e:=hw 0 us rfl hc
   simp only [Nat.add_zero] at e
   rw [e]
   cases Y k with
   | true=>exact a86 us h
   | false=>exact h
  ·cases X k <;> cases Y k <;> simp only [cond_true,cond_false]
   ·exact h
   ·exact a4D h (b2Z (a7A us s' hc))
   ·exact a4D (a7A us s hc) h
   ·exact a86 us h
theorem c1k (X:Nat->Bool):∀ (L:List (List Upd)) (k:Nat) (s:St),(sub X k L s).n=s.n
 | [],_,_=>rfl
 | us :: L,k,s=>by rw [sub,c1k X L];cases X k <;> simp [b8x]
theorem a7B (X:Nat->Bool):∀ (A:List (List Upd)) (B:List (List Upd)) (k:Nat) (s:St),sub X k (A ++ B) s=sub X (k + A.length) B (sub X k A s)
 | [],B,k,s=>by simp [sub]
 | us :: A,B,k,s=>by
  simp only [List.cons_append,sub,List.length_cons]
  rw [a7B X A B (k + 1)]
  congr 1
  omega
theorem c5C {s s':St} (hn:s.n=s'.n) (h:∀ c:N7,c.same s s'):s=s':=by
 obtain⟨n,t,b,r⟩:=s
 obtain⟨n',t',b',r'⟩:=s'
 have h1:t=t':=funext fun k=>h (.t k)
 have h2:b=b':=funext fun k=>h (.b k)
 have h3:r=r':=funext fun k=>h (.r k)
 simp only at hn
 subst hn;subst h1;subst h2;subst h3
 rfl
structure d0z (T:TypeId->Option TI) (cq:Oper->Call->Q (List Upd)) (l:List Oper) (s:St) (L:List (List Upd)) (R:List (List N7)):Prop where
 len:L.length=l.length
 rlen:R.length=l.length
 at_:∀ i o us rs,l[i]?=some o->L[i]?=some us->R[i]?=some rs->(opD T cq l o).wp (sub (fun j=>decide (j < i)) 0 L s) (· =us)/\∀ c ∈ (opD T cq l o).reads (sub (fun j=>decide (j < i)) 0 L s),c ∈ rs
theorem b37 (X:Nat->Bool):∀ (L:List (List Upd)) (k:Nat) (s:St),(∀ j,j < L.length->X (k + j)=true)->sub X k L s=sub (fun _=>true) k L s
 | [],_,_,_=>rfl
 | us :: L,k,s,h=>by
  simp only [sub]
  have:=h 0 (by simp)
  simp only [Nat.add_zero] at this
  rw [this]
  exact b37 X L (k + 1) _ (fun j hj=>by have:=h (j + 1) (by simpa using hj);rwa [Nat.add_assoc,Nat.add_comm 1 j])
theorem a88 (X:Nat->Bool):∀ (L:List (List Upd)) (k:Nat) (s:St),(∀ j,j < L.length->X (k + j)=false)->sub X k L s=s
 | [],_,_,_=>rfl
 | us :: L,k,s,h=>by
  simp only [sub]
  have:=h 0 (by simp)
  simp only [Nat.add_zero] at this
  rw [this]
  exact a88 X L (k + 1) _ (fun j hj=>by have:=h (j + 1) (by simpa using hj);rwa [Nat.add_assoc,Nat.add_comm 1 j])
theorem c3C (A B:List (List Upd)) (s:St):sub (fun j=>decide (j < A.length)) 0 (A ++ B) s=sub (fun _=>true) 0 A s:=by
 rw [a7B,a88 _ B _ _ (fun j _=>by simp),b37 _ A 0 s (fun j hj=>by simp;exact hj)]
theorem b5H {l:List Oper} {K:St->List (List N7 × List N7)->Prop}:∀ {rest:List Oper} {s0:St} {A:List (List Upd)} {tr:List (List N7 × List N7)},
  wpD T cq l rest (sub (fun _=>true) 0 A s0) tr K->tr.length=A.length->(tr.map (·.2))=A.map (fun us=>us.map Upd.part)->
  ∃ (B:List (List Upd)) (tr':List (List N7 × List N7)),B.length=rest.length/\tr'.length=rest.length/\(tr'.map (·.2))=B.map (fun us=>us.map Upd.part)/\K (sub (fun _=>true) 0 (A ++ B) s0) (tr ++ tr')/\
   ∀ i o us rs,rest[i]?=some o->B[i]?=some us->(tr'.map (·.1))[i]?=some rs->(opD T cq l o).wp (sub (fun j=>decide (j < A.length + i)) 0 (A ++ B) s0) (· =us)/\∀ c ∈ (opD T cq l o).reads (sub (fun j=>decide (j < A.length + i)) 0 (A ++ B) s0),c ∈ rs
 | [],s0,A,tr,h,_,_=>⟨[],[],rfl,rfl,rfl,by simp only [List.append_nil];exact h,fun i o us rs hi=>by simp at hi⟩
 | o :: rest,s0,A,tr,h,hl,hp=>by
  simp only [wpD] at h
  obtain⟨us,rs,h1,h2,_,h3⟩:=a9B h
  have e1:(sub (fun _=>true) 0 A s0).app us=sub (fun _=>true) 0 (A ++ [us]) s0:=by rw [a7B];rfl
  rw [e1] at h3
  obtain⟨B,tr',b1,b2,b3,b4,b5⟩:=b5H h3 (by simp [hl]) (by simp [hp])
  refine⟨us :: B,(rs,us.map Upd.part) :: tr',by simp [b1],by simp [b2],by simp [b3],by simpa using b4,?_⟩
  intro i o' us' rs' hi hu hr
  cases i with
  | zero=>
   simp only [List.getElem?_cons_zero,Option.some.injEq] at hi hu
   simp only [List.map_cons,List.getElem?_cons_zero,Option.some.injEq] at hr
   subst hi;subst hu;subst hr
   rw [Nat.add_zero,c3C]
   exact⟨h1,h2⟩
  | succ i=>
   have:=b5 i o' us' rs' (by simpa using hi) (by simpa using hu) (by simpa using hr)
   simp only [List.length_append,List.length_cons,List.length_nil,List.append_assoc,List.cons_append,List.nil_append] at this
   rw [show A.length + (0 + 1) + i=A.length + (i + 1) from by omega] at this
   exact this
theorem b1A:∀ (l:List Oper) (acc:List (List Nat)) (i:Nat),i < acc.length->(b7R l acc).getD i []=acc.getD i []
 | [],acc,i,_=>rfl
 | o :: l,acc,i,h=>by
  rw [b7R,b1A l _ i (by simp;omega)]
  simp only [List.getD_eq_getElem?_getD]
  rw [List.getElem?_append_left h]
def b7S (o:Oper):List Edge:=o.after.toList.filter (Region.binds .any)
theorem b20 (o:Oper) (l:List Oper) (acc:List (List Nat)):b7R (o :: l) acc=b7R l (acc ++ [(b7S o).flatMap fun e=>e.on :: acc.getD e.on []]):=rfl
theorem b0Q {α β:Type} {f g:α->List β}:∀ {l:List α},(∀ x ∈ l,f x=g x)->l.flatMap f=l.flatMap g
 | [],_=>rfl
 | x :: l,h=>by rw [List.flatMap_cons,List.flatMap_cons,h x (by simp),b0Q fun y hy=>h y (by simp [hy])]
theorem c3D (i:Nat):∀ (l:List Oper) (acc:List (List Nat)) (o:Oper),l[i]?=some o->(∀ e ∈ b7S o,e.on < acc.length + i)->
  (b7R l acc).getD (acc.length + i) []=(b7S o).flatMap fun e=>e.on :: (b7R l acc).getD e.on []:=by
 induction i with
 | zero=>
  intro l acc o h he
  cases l with
  | nil=>simp at h
  | cons o1 l=>
   simp only [List.getElem?_cons_zero,Option.some.injEq] at h
   subst h
   rw [b20,Nat.add_zero,b1A l _ _ (by simp)]
   have e0:(acc ++ [(b7S o1).flatMap fun e=>e.on :: acc.getD e.on []]).getD acc.length []=(b7S o1).flatMap fun e=>e.on :: acc.getD e.on []:=by
    rw [List.getD_eq_getElem?_getD,List.getElem?_append_right (Nat.le_refl _),Nat.sub_self]
    rfl
   rw [e0]
   refine b0Q fun e hm=>?_
   have h1:e.on < acc.length:=he e hm
   rw [b1A l _ _ (by simp;omega)]
   simp only [List.getD_eq_getElem?_getD]
   rw [List.getElem?_append_left h1]
 | succ i ih=>
  intro l acc o h he
  cases l with
  | nil=>simp at h
  | cons o1 l=>
   simp only [List.getElem?_cons_succ] at h
   have:=ih l (acc ++ [(b7S o1).flatMap fun e=>e.on :: acc.getD e.on []]) o h (fun e hm=>by have:=he e hm;simp;omega)
   simp only [List.length_append,List.length_cons,List.length_nil] at this
   rw [b20,show acc.length + (i + 1)=acc.length + (0 + 1) + i from by omega]
   exact this
theorem b61 (hT:∀ t i,T t=some i->TOk P t i) (hcq:∀ o c,o.op= .call c->b75 P o (cq o c)) (hm:P.follows .mixedOrders=true) {id:Nat} {l:List Oper} {K:AX->St->Prop} {s:St} (hd:(l.all (b2Y s.n))=true)
  (h:wpD T cq l l s [] fun s' tr=>a9A l tr=true/\K .normal s'):Tri P (.region id l.toArray true) K s:=by
 intro W0 M a0 w0 hR0
 have hR0':a6U W0 M s a0 {w0 with drawn:=w0.drawn + 1}:=by
  obtain⟨G,h⟩:=hR0
  obtain⟨m1,e1⟩:=h.mem.grow (w':={w0 with drawn:=w0.drawn + 1}) ⟨rfl,rfl,rfl,Nat.le_refl _,fun _ _ _=>rfl⟩
  exact⟨G,h.mem' e1 m1 rfl rfl⟩
 obtain⟨L,tr,b1,b2,b3,⟨hind,hK⟩,b5⟩:=b5H (A:=[]) (s0:=s) (tr:=[]) h rfl rfl
 simp only [List.nil_append,List.length_nil,Nat.zero_add] at b5 hK hind
 simp only [a9A,Bool.and_eq_true,List.all_eq_true,List.mem_range,Bool.or_eq_true,Bool.not_eq_true',decide_eq_true_eq] at hind
 obtain⟨hedge,hcl⟩:=hind
 have hedge':∀ i o,l[i]?=some o->∀ e ∈ b7S o,e.on < i:=by
  intro i o hi e hm
  have hlt:i < l.length:=by
   rcases Nat.lt_or_ge i l.length with h | h
   ·exact h
   ·rw [List.getElem?_eq_none h] at hi;cases hi
  have:=hedge i hlt e (by rw [List.getD_eq_getElem?_getD,hi];exact(List.mem_filter.1 hm).1)
  rcases this with h | h
  ·have:=(List.mem_filter.1 hm).2;rw [h] at this;cases this
  ·exact h
 let X:Array Bool->Nat->Bool:=fun lst j=>lst.getD j false
 have hanc:∀ i o,l[i]?=some o->(b7R l []).getD i []=(b7S o).flatMap fun e=>e.on :: (b7R l []).getD e.on []:=by
  intro i o hi
  have:=c3D i l [] o hi (fun e hm=>by simpa using hedge' i o hi e hm)
  simpa using this
 let Down:Array Bool->Prop:=fun lst=>∀ i o,l[i]?=some o->X lst i=true->∀ e ∈ b7S o,X lst e.on=true
 have hdown:∀ lst,Down lst->∀ i o,l[i]?=some o->(∀ e ∈ b7S o,X lst e.on=true)->∀ j ∈ (b7R l []).getD i [],X lst j=true:=by
  intro lst hD i
  induction i using Nat.strongRecOn with
  | _ i ih=>
   intro o hi he j hj
   rw [hanc i o hi] at hj
   obtain⟨e,hm,hj⟩:=List.mem_flatMap.1 hj
   rcases List.mem_cons.1 hj with rfl | hj
   ·exact he e hm
   ·have hlt:=hedge' i o hi e hm
    have hil:i < l.length:=by
     rcases Nat.lt_or_ge i l.length with h | h
     ·exact h
     ·rw [List.getElem?_eq_none h] at hi;cases hi
    obtain⟨o2,ho2⟩:∃ o2,l[e.on]?=some o2:=⟨_,List.getElem?_eq_getElem (by omega)⟩
    exact ih e.on hlt o2 ho2 (hD e.on o2 ho2 (he e hm)) j hj
 have hclash:∀ i j,j < i->i < l.length->∀ c,(c ∈ (tr.getD i ([],[])).1/\c ∈ (tr.getD j ([],[])).2)\/(c ∈ (tr.getD i ([],[])).2/\c ∈ (tr.getD j ([],[])).1)\/(c ∈ (tr.getD i ([],[])).2/\c ∈ (tr.getD j ([],[])).2)->j ∈ (b7R l []).getD i []:=by
  intro i j hji hi c hc
  rcases hcl i hi j hji with h | h
  ·exfalso
   have hmeet:∀ {x y:List N7},c ∈ x->c ∈ y->c1j x y=true:=fun hx hy=>List.any_eq_true.2 ⟨c,hx,by simpa using hy⟩
   simp only [c5B,Bool.or_eq_false_iff] at h
   rcases hc with⟨h1,h2⟩ | ⟨h1,h2⟩ | ⟨h1,h2⟩
   ·rw [hmeet h2 h1] at h;exact absurd h.1.2 (by simp)
   ·rw [hmeet h2 h1] at h;exact absurd h.1.1 (by simp)
   ·rw [hmeet h2 h1] at h;exact absurd h.2 (by simp)
  ·exact b5F l [] [] rfl (fun _ _ h=>h) i j (by simpa using h)
 have htr2:∀ j us,L[j]?=some us->(tr.getD j ([],[])).2=us.map Upd.part:=by
  intro j us hj
  have h1:(tr.map (·.2))[j]?=some (us.map Upd.part):=by rw [b3,List.getElem?_map,hj];rfl
  rw [List.getElem?_map] at h1
  cases ht:tr[j]? with
  | none=>rw [ht] at h1;cases h1
  | some p=>rw [ht] at h1;injection h1 with h1;rw [List.getD_eq_getElem?_getD,ht];exact h1
 have hlen:L.length=l.length:=b1
 have key:∀ fuel (lst:Array Bool) (a:Act) (w:World),lst.size=l.length->Down lst->((List.range l.length).countP fun i=> !lst.getD i true)=fuel->a6U W0 M (sub (X lst) 0 L s) a w->wpAny P .any l.toArray (QK W0 M K) fuel lst a w:=by
  intro fuel
  have hend:∀ (lst:Array Bool) (a:Act) (w:World),lst.size=l.length->(∀ i,i < l.length->X lst i=true)->a6U W0 M (sub (X lst) 0 L s) a w->QK W0 M K .normal a w:=by
   intro lst a w _ hall hR
   rw [b37 (X lst) L 0 s (fun j hj=>by rw [Nat.zero_add];exact hall j (by omega))] at hR
   exact⟨_,hR,hK⟩
  have hdef:∀ (lst:Array Bool) (i:Nat),lst.size=l.length->i < l.length->lst.getD i true=X lst i:=by
   intro lst i hs hi
   simp only [X,Array.getD_eq_getD_getElem?]
   rw [Array.getElem?_eq_getElem (by omega)]
   rfl
  have hready:∀ (lst:Array Bool) (i:Nat),lst.size=l.length->i ∈ Region.ready .any l.toArray lst->∃ o,l[i]?=some o/\i < l.length/\X lst i=false/\∀ e ∈ b7S o,X lst e.on=true:=by
   intro lst i hs hi
   simp only [Region.ready,List.mem_filter,List.mem_range,List.size_toArray,Bool.and_eq_true,Bool.not_eq_true'] at hi
   obtain⟨h1,h2,h3⟩:=hi
   refine⟨l[i],List.getElem?_eq_getElem h1,h1,by rw [<-hdef lst i hs h1];exact h2,fun e hm=>?_⟩
   have hg:(l.toArray)[i]?=some l[i]:=by simp [h1]
   rw [hg] at h3
   simp only [Option.map_some,Option.getD_some] at h3
   have h4:=(Array.all_eq_true_iff_forall_mem.1 h3) e (by have:=(List.mem_filter.1 hm).1;simpa using this)
   have h5:=(List.mem_filter.1 hm).2
   simp only [h5,Bool.not_true,Bool.false_or] at h4
   exact h4
  have hmin:∀ (lst:Array Bool),lst.size=l.length->Region.ready .any l.toArray lst=[]->∀ i,i < l.length->X lst i=true:=by
   intro lst hs hr i
   induction i using Nat.strongRecOn with
   | _ i ih=>
    intro hi
    cases hx:X lst i with
    | true=>rfl
    | false=>
     exfalso
     have:i ∈ Region.ready .any l.toArray lst:=by
      simp only [Region.ready,List.mem_filter,List.mem_range,List.size_toArray,Bool.and_eq_true,Bool.not_eq_true']
      refine⟨hi,by rw [hdef lst i hs hi];exact hx,?_⟩
      have hg:(l.toArray)[i]?=some l[i]:=by simp [hi]
      rw [hg]
      simp only [Option.map_some,Option.getD_some]
      refine Array.all_eq_true_iff_forall_mem.2 fun e hm=>?_
      cases hb:Region.binds .any e with
      | false=>rfl
      | true=>
       simp only [Bool.not_true,Bool.false_or]
       have hd':e ∈ b7S l[i]:=List.mem_filter.2 ⟨by simpa using hm,hb⟩
       have hlt:=hedge' i _ (List.getElem?_eq_getElem hi) e hd'
       exact ih e.on hlt (by omega)
     rw [hr] at this
     cases this
  induction fuel with
  | zero=>
   intro lst a w hs hD hc hR
   have hall:∀ i,i < l.length->X lst i=true:=by
    intro i hi
    rw [List.countP_eq_zero] at hc
    have:=hc i (List.mem_range.2 hi)
    rw [hdef lst i hs hi] at this
    simpa using this
   refine⟨?_,hend lst a w hs hall hR⟩
   rw [List.eq_nil_iff_forall_not_mem]
   intro i hi
   obtain⟨o,_,h1,h2,_⟩:=hready lst i hs hi
   rw [hall i h1] at h2
   cases h2
  | succ fuel ih=>
   intro lst a w hs hD hc hR
   refine⟨fun hr=>hend lst a w hs (hmin lst hs hr) hR,fun i hi=>?_⟩
   obtain⟨o,ho,hil,hxi,hdi⟩:=hready lst i hs hi
   have hxset:∀ j,X (lst.setIfInBounds i true) j=if j=i then true else X lst j:=by
    intro j
    simp only [X,Array.getD_eq_getD_getElem?,Array.getElem?_setIfInBounds]
    by_cases e:i=j
    ·subst e
     rw [if_pos rfl,if_pos (by omega),if_pos rfl];rfl
    ·rw [if_neg e,if_neg (fun h=>e h.symm)]
   obtain⟨us,hus⟩:∃ us,L[i]?=some us:=⟨_,List.getElem?_eq_getElem (by omega)⟩
   obtain⟨rs,hrs⟩:∃ rs,(tr.map (·.1))[i]?=some rs:=⟨_,List.getElem?_eq_getElem (by rw [List.length_map];omega)⟩
   obtain⟨c1,c2⟩:=b5 i o us rs ho hus hrs
   have htr1:(tr.getD i ([],[])).1=rs:=by
    rw [List.getElem?_map] at hrs
    cases ht:tr[i]? with
    | none=>rw [ht] at hrs;cases hrs
    | some p=>rw [ht] at hrs;injection hrs with hrs;rw [List.getD_eq_getElem?_getD,ht];exact hrs
   have hlt:∀ {j:Nat} {vs:List Upd},L[j]?=some vs->j < l.length:=by
    intro j vs hj
    rcases Nat.lt_or_ge j L.length with h | h
    ·omega
    ·rw [List.getElem?_eq_none h] at hj;cases hj
   have hwp:(opD T cq l o).wp (sub (X lst) 0 L s) (· =us):=by
    refine Q.wp_same c1 fun c hc'=>?_
    have hcr:=c2 c hc'
    refine a87 _ _ L 0 s s (a7z s c) fun j vs hj hcv=>?_
    rw [Nat.zero_add]
    have hw2:c ∈ (tr.getD j ([],[])).2:=by rw [htr2 j vs hj];exact hcv
    rcases Nat.lt_trichotomy j i with h | h | h
    ·have:=hclash i j h hil c (.inl ⟨by rw [htr1];exact hcr,hw2⟩)
     rw [hdown lst hD i o ho hdi j this]
     simp [h]
    ·subst h;rw [hxi];simp
    ·have:=hclash j i h (hlt hj) c (.inr (.inl ⟨hw2,by rw [htr1];exact hcr⟩))
     cases hxj:X lst j with
     | false=>simp;omega
     | true=>
      obtain⟨o2,ho2⟩:∃ o2,l[j]?=some o2:=⟨_,List.getElem?_eq_getElem (hlt hj)⟩
      have:=hdown lst hD j o2 ho2 (hD j o2 ho2 hxj) i this
      rw [hxi] at this;cases this
   have hstate:(sub (X lst) 0 L s).app us=sub (X (lst.setIfInBounds i true)) 0 L s:=by
    refine c5C (by rw [b8x,c1k,c1k]) fun c=>?_
    have hsplit:L=L.take i ++ (us :: L.drop (i + 1)):=by
     rw [List.getElem?_eq_getElem (by omega)] at hus
     injection hus with hus
     rw [<-hus,List.getElem_cons_drop,List.take_append_drop]
    by_cases hcu:c ∈ us.map Upd.part
    ·have e1:sub (X (lst.setIfInBounds i true)) 0 L s=sub (X (lst.setIfInBounds i true)) (i + 1) (L.drop (i + 1)) ((sub (X (lst.setIfInBounds i true)) 0 (L.take i) s).app us):=by
      conv=>lhs;rw [hsplit]
      rw [a7B]
      simp only [sub]
      have:0 + (L.take i).length=i:=by rw [List.length_take];omega
      rw [this,hxset i,if_pos rfl]
      rfl
     rw [e1]
     refine a4D (b5G us _ (sub (X (lst.setIfInBounds i true)) 0 (L.take i) s) hcu) (b2Z ?_)
     have hno:=a87 (c:=c) (X (lst.setIfInBounds i true)) (fun _=>false) (L.drop (i + 1)) (i + 1) ((sub (X (lst.setIfInBounds i true)) 0 (L.take i) s).app us) _ (a7z _ c) (fun j vs hj hcv=>by
      rw [List.getElem?_drop] at hj
      rw [hxset,if_neg (by omega)]
      cases hxj:X lst (i + 1 + j) with
      | false=>rfl
      | true=>
       exfalso
       have:=hclash (i + 1 + j) i (by omega) (hlt hj) c (.inr (.inr ⟨by rw [htr2 _ vs hj];exact hcv,by rw [htr2 i us hus];exact hcu⟩))
       obtain⟨o2,ho2⟩:∃ o2,l[i + 1 + j]?=some o2:=⟨_,List.getElem?_eq_getElem (hlt hj)⟩
       have:=hdown lst hD _ o2 ho2 (hD _ o2 ho2 hxj) i this
       rw [hxi] at this;cases this)
     rw [a88 (fun _=>false) _ _ _ (fun _ _=>rfl)] at hno
     exact hno
    ·refine a4D (a7A us _ hcu) ?_
     refine a87 _ _ L 0 s s (a7z s c) fun j vs hj hcv=>?_
     rw [Nat.zero_add,hxset]
     by_cases e:j=i
     ·subst e
      rw [hus] at hj
      injection hj with hj
      subst hj
      exact(hcu hcv).elim
     ·rw [if_neg e]
   have hdo:∀ d,o.dst=some d->d < (sub (X lst) 0 L s).n:=by
    intro d e
    rw [c1k]
    have:=List.all_eq_true.1 hd o (List.mem_of_getElem? ho)
    unfold b2Y at this
    rw [e] at this
    exact of_decide_eq_true this
   have hD':Down (lst.setIfInBounds i true):=by
    intro j oj hoj hxj e hm
    rw [hxset] at hxj ⊢
    split
    ·rfl
    ·by_cases ej:j=i
     ·subst ej
      rw [ho] at hoj;injection hoj with hoj;subst hoj
      exact hdi e hm
     ·rw [if_neg ej] at hxj
      exact hD j oj hoj hxj e hm
   have hcount:((List.range l.length).countP fun j=> !(lst.setIfInBounds i true).getD j true)=fuel:=by
    have h1:∀ (r:List Nat),r.Nodup->(∀ j ∈ r,j < l.length)->i ∈ r->(r.countP fun j=> !(lst.setIfInBounds i true).getD j true) + 1=r.countP fun j=> !lst.getD j true:=by
     intro r
     induction r with
     | nil=>intro _ _ h;cases h
     | cons x r ihr=>
      intro hnd hb hmem
      rw [List.nodup_cons] at hnd
      have hxl:=hb x (by simp)
      have hsz':(lst.setIfInBounds i true).size=l.length:=by simpa using hs
      rw [List.countP_cons,List.countP_cons]
      by_cases e:x=i
      ·subst e
       have h2:(r.countP fun j=> !(lst.setIfInBounds x true).getD j true)=r.countP fun j=> !lst.getD j true:=by
        apply List.countP_congr
        intro j hj
        have hjl:=hb j (by simp [hj])
        rw [hdef _ j hsz' hjl,hdef lst j hs hjl,hxset,if_neg (fun(e:j=x)=>hnd.1 (e ▸ hj))]
       rw [h2,hdef _ x hsz' hxl,hdef lst x hs hxl,hxset,if_pos rfl,hxi]
       simp
      ·have hmem':i ∈ r:=by
        rcases List.mem_cons.1 hmem with h | h
        ·exact(e h.symm).elim
        ·exact h
       have:=ihr hnd.2 (fun j hj=>hb j (by simp [hj])) hmem'
       rw [hdef _ x hsz' hxl,hdef lst x hs hxl,hxset,if_neg e]
       omega
    have:=h1 (List.range l.length) List.nodup_range (fun j hj=>List.mem_range.1 hj) (List.mem_range.2 hil)
    omega
   have hfin:=b8w (P:=P) hT hcq (ops:=l.toArray) rfl (Q':=QK W0 M K) hdo hR hwp
   unfold wpOp
   have hg:(l.toArray)[i]?=some o:=by simpa using ho
   rw [hg]
   simp only
   split
   ·rename_i hw
    rw [if_pos hw] at hfin
    refine .inl (Oper.wp_mono (fun a' w'=>?_) hfin)
    rintro⟨us',rfl,hr⟩
    rw [hstate] at hr
    exact ih _ a' w' (by simpa using hs) hD' hcount hr
   ·rename_i hw
    rw [if_neg hw] at hfin
    obtain⟨us',rfl,hr⟩:=hfin
    rw [hstate] at hr
    exact ih _ _ w (by simpa using hs) hD' hcount hr
 have hX0:∀ j,X (Array.replicate l.length false) j=false:=by
  intro j
  simp only [X,Array.getD_eq_getD_getElem?,Array.getElem?_replicate]
  split <;> rfl
 refine wp_region_any hm ?_
 rw [List.size_toArray]
 refine key l.length _ a0 _ (by simp) (fun i o _ hx=>by rw [hX0] at hx;cases hx) ?_ ?_
 ·rw [List.countP_eq_length.2 (fun j hj=>by simp [Array.getD_eq_getD_getElem?,List.mem_range.1 hj])]
  simp
 ·rw [a88 _ L 0 s (fun j _=>by rw [Nat.zero_add];exact hX0 j)]
  exact hR0'
end
end Go.Proofs.YtacnfjjkhpkloaaGreat.Am
namespace Go.Proofs.YtacnfjjkhpkloaaGreat.Am
open Go
inductive OC where
 | d (x:DV)
 | row (sz:Nat) (e:TypeId) (es:List (List DV))
 | box (cs:List OC)
 | e (cs:List DV)
inductive OA where
 | c (x:OC)
 | agg (xs:List OC)
 | bx (cs:List OC)
 | rx (sz:Nat) (e:TypeId) (es:List (List DV))
mutual
def OCr (I:Nat->Nat->Prop) (w:World):OC->Value->List Nat->Prop
 | .d x,v,F=>F=[]/\DVr I w x v
 | .row sz e es,v,F=>∃ ex,a0b I w v ⟨es,sz,e,false⟩/\F=(obk v).toList ++ (if a0L e then ex else [])/\(∀ g o,obk v=some g->¬ I g o)/\(a0L e->a5K w v ex ⟨es,sz,e,false⟩/\∀ b ∈ ex,∀ o,¬ I b o)
 | .e cs,v,F=>F=[]/\∃ ad xs,v= .pointer (some ad)/\J4 I w cs xs/\∀ j u,xs[j]?=some u->w.cell? (ad.add j)=some u/\I ad.block (ad.off + j)
 | .box cs,v,F=>∃ g cur ty Fs,v= .pointer (some ⟨g,0,none⟩)/\w.heap[g]?=some (.cells cur ty (0,0))/\OCs I w cs cur.toList Fs/\F=g :: Fs/\∀ o,¬ I g o
def OCs (I:Nat->Nat->Prop) (w:World):List OC->List Value->List Nat->Prop
 | [],xs,F=>xs=[]/\F=[]
 | c :: cs,xs,F=>∃ x r F1 F2,xs=x :: r/\OCr I w c x F1/\OCs I w cs r F2/\F=F1 ++ F2
end
def OAr (I:Nat->Nat->Prop) (w:World):OA->Value->List Nat->Prop
 | .c x,v,F=>OCr I w x v F
 | .agg xs,v,F=>∃ vs,v= .agg vs/\OCs I w xs vs.toList F
 | .bx cs,v,F=>OCr I w (.box cs) v F
 | .rx sz e es,v,F=>OCr I w (.row sz e es) v F
def OAs (I:Nat->Nat->Prop) (w:World):List OA->List Value->List Nat->Prop
 | [],xs,F=>xs=[]/\F=[]
 | c :: cs,xs,F=>∃ x r F1 F2,xs=x :: r/\OAr I w c x F1/\OAs I w cs r F2/\F=F1 ++ F2
theorem OCr.one {I:Nat->Nat->Prop} {w:World} {c:OC} {v:Value} {F:List Nat} (h:OCr I w c v F):v.oneCell'=true:=by
 cases c <;> simp only [OCr] at h
 case d=>exact h.2.one
 case row=>obtain⟨ex,h,_⟩:=h;exact h.one
 case box=>obtain⟨g,cur,ty,Fs,rfl,_⟩:=h;rfl
 case e=>obtain⟨_,ad,xs,rfl,_⟩:=h;rfl
structure Mk where
 ac:AC
 us:List Upd
 m:Nat
structure Mks where
 acs:List AC
 us:List Upd
 m:Nat
mutual
def mkC (n:Nat):OC->Q Mk
 | .d x=> .ret ⟨.d x,[],n⟩
 | .e cs=> .ret ⟨.eptr cs,[],n⟩
 | .row sz e es=> .req (e < R7) <| .rdR n fun r=> .ret ⟨.row n (r.ver + 1),[.r n ⟨r.ver + 1,some ⟨es,sz,e,false⟩⟩],n + 1⟩
 | .box cs=> .rdB n fun b=>(b0R (n + 1) cs).bind fun k=> .ret ⟨.ptr n (b.ver + 1) 0,k.us ++ [.b n ⟨b.ver + 1,some k.acs⟩],k.m⟩
def b0R (n:Nat):List OC->Q Mks
 | []=> .ret ⟨[],[],n⟩
 | c :: cs=>(mkC n c).bind fun k=>(b0R k.m cs).bind fun ks=> .ret ⟨k.ac :: ks.acs,k.us ++ ks.us,ks.m⟩
end
def V9 (n:Nat) (s0 s:St):Prop:=∀ k,n<=k->(s.b k).ver=(s0.b k).ver/\(s.r k).ver=(s0.r k).ver
theorem V9.le {n m:Nat} {s0 s:St} (h:V9 n s0 s) (hm:n<=m):V9 m s0 s:=fun k hk=>h k (Nat.le_trans hm hk)
structure c1l (W0:World) (M:Own) (G:Gh) (s0 s:St) (w:World) (n:Nat) (us:List Upd) (m:Nat) (F:List Nat) (G':Gh):Prop where
 mem:Mem W0 M G' (s.app us) w
 ext:Ext G s w G' (s.app us) w
 I:G'.I=G.I
 le:n<=m
 ver:V9 m s0 (s.app us)
 own:∀ x b,b ∈ own G' (s.app us) x->b ∈ own G s x\/b ∈ F
 n_:(s.app us).n=s.n
 t:(s.app us).t=s.t
 old:∀ k,(k < n\/m<=k)->(s.app us).b k=s.b k/\(s.app us).r k=s.r k/\G'.bx k=G.bx k/\G'.rw k=G.rw k/\G'.ex k=G.ex k
section
variable {W0:World} {M:Own} {w:World} {s0:St}
theorem c1l.trans {G G1 G2:Gh} {s:St} {n m k:Nat} {us vs:List Upd} {F1 F2:List Nat} (h:c1l W0 M G s0 s w n us m F1 G1) (j:c1l W0 M G1 s0 (s.app us) w m vs k F2 G2):c1l W0 M G s0 s w n (us ++ vs) k (F1 ++ F2) G2:=by
 refine⟨by rw [St.app_append];exact j.mem,by rw [St.app_append];exact h.ext.trans j.ext,j.I.trans h.I,Nat.le_trans h.le j.le,by rw [St.app_append];exact j.ver,fun x b hx=>?_,by rw [St.app_append];exact j.n_.trans h.n_,by rw [St.app_append];exact j.t.trans h.t,fun i hi=>?_⟩
 ·rw [St.app_append] at hx
  rcases j.own x b hx with h1 | h1
  ·rcases h.own x b h1 with h2 | h2
   ·exact .inl h2
   ·exact .inr (by simp [h2])
  ·exact .inr (by simp [h1])
 ·rw [St.app_append]
  obtain⟨a1,a2,a3,a4,a5⟩:=h.old i (hi.imp id (Nat.le_trans j.le))
  obtain⟨b1,b2,b3,b4,b5⟩:=j.old i (hi.imp (fun h0=>Nat.lt_of_lt_of_le h0 h.le) id)
  exact⟨b1.trans a1,b2.trans a2,b3.trans a3,b4.trans a4,b5.trans a5⟩
def b7T (W0:World) (M:Own) (G:Gh) (s:St) (F:List Nat):Prop:=∀ b ∈ F,(∀ x,b ∉ own G s x)/\(W0.heap.size<=b\/M b)
theorem b7T.after {G G1:Gh} {s:St} {n m:Nat} {us:List Upd} {F1 F2:List Nat} (hf:b7T W0 M G s F2) (hd:∀ b ∈ F1,b ∉ F2) (h:c1l W0 M G s0 s w n us m F1 G1):b7T W0 M G1 (s.app us) F2:=fun b hb=>by
 refine⟨fun x hx=>?_,(hf b hb).2⟩
 rcases h.own x b hx with h1 | h1
 ·exact(hf b hb).1 x h1
 ·exact hd b h1 hb
theorem a89 (s:St) (k:Nat) (x:BS):s.app [.b k x]=s.setB k x:=rfl
theorem a9a (s:St) (k:Nat) (x:RS):s.app [.r k x]=s.setR k x:=rfl
mutual
theorem b5I:∀ (c:OC) {n:Nat} {s:St} {G:Gh} {v:Value} {F:List Nat} {K:Mk->Prop},(mkC n c).wp s0 K->Mem W0 M G s w->OCr G.I w c v F->F.Nodup->b7T W0 M G s F->V9 n s0 s->
  ∃ k G',K k/\c1l W0 M G s0 s w n k.us k.m F G'/\ACr G' (s.app k.us) w k.ac v
 | .d x,n,s,G,v,F,K,hq,hm,hc,hn,hf,hv=>by
  simp only [OCr] at hc
  obtain⟨rfl,hd⟩:=hc
  exact⟨_,G,hq,⟨hm,Ext.refl _ _ _,rfl,Nat.le_refl _,hv,fun x b h=> .inl h,rfl,rfl,fun k _=>⟨rfl,rfl,rfl,rfl,rfl⟩⟩,by simpa only [ACr] using hd⟩
 | .e cs,n,s,G,v,F,K,hq,hm,hc,hn,hf,hv=>by
  simp only [OCr] at hc
  obtain⟨rfl,hd⟩:=hc
  exact⟨_,G,hq,⟨hm,Ext.refl _ _ _,rfl,Nat.le_refl _,hv,fun x b h=> .inl h,rfl,rfl,fun k _=>⟨rfl,rfl,rfl,rfl,rfl⟩⟩,by simpa only [ACr] using hd⟩
 | .row sz e es,n,s,G,v,F,K,hq,hm,hc,hn,hf,hv=>by
  simp only [OCr] at hc
  obtain⟨ex,hrow,rfl,hI,hsx⟩:=hc
  simp only [mkC,Q.wp] at hq
  obtain⟨hpf,hq⟩:=hq
  have hver:=(hv n (Nat.le_refl _)).2
  obtain⟨m1,x1⟩:=hm.addRowX n ((s0.r n).ver + 1) v ⟨es,sz,e,false⟩ (by rw [hver];omega) hrow (fun x b hb hx=>(hf b (by simp [hb])).1 x hx) (fun g hg o hi=>(hI g o hg hi).elim) (fun g hg=>(hf g (by simp [hg])).2) hpf (ex:=upd G.ex n ex) (fun k hk=>by simp [upd,hk])
   (fun he=>by
    simp only [upd,if_true]
    exact⟨(hsx he).1,fun b hb=>⟨fun x hx=>(hf b (by simp [he,hb])).1 x hx,(hsx he).2 b hb,(hf b (by simp [he,hb])).2⟩⟩)
  refine⟨_,_,hq,⟨m1,x1,rfl,Nat.le_succ _,fun k hk=>?_,fun x b hx=>?_,rfl,rfl,fun k hk=>?_⟩,?_⟩
  ·have hk':n + 1<=k:=hk
   have:=hv k (by omega)
   simp only [a9a,St.setR,upd]
   rw [if_neg (by omega)]
   exact this
  ·rcases x with k | k
   ·exact .inl hx
   ·simp only [a9a] at hx
    by_cases e:k=n
    ·subst e
     simp only [Am.own,St.setR,upd,if_true] at hx
     exact .inr hx
    ·left
     simpa [Am.own,St.setR,upd,e] using hx
  ·simp only [a9a,St.setR,upd]
   have hne:k ≠ n:=by simp only at hk;omega
   simp [hne]
  ·simp only [ACr,a9a,St.setR,upd,if_true]
   exact⟨hrow.one,Nat.le_refl _,fun _ _=>trivial⟩
 | .box cs,n,s,G,v,F,K,hq,hm,hc,hn,hf,hv=>by
  simp only [OCr] at hc
  obtain⟨g,cur,ty,Fs,rfl,hh,hcs,rfl,hI⟩:=hc
  simp only [mkC,Q.wp] at hq
  rw [Q.wp_bind] at hq
  rw [List.nodup_cons] at hn
  obtain⟨k,G1,hq,h1,h2⟩:=b1B cs hq hm hcs hn.2 (fun b hb=>hf b (by simp [hb])) (hv.le (Nat.le_succ n))
  have hver:=(hv n (Nat.le_refl _)).1
  have hbn:((s.app k.us).b n).ver=(s0.b n).ver:=by rw [(h1.old n (.inl (Nat.lt_succ_self n))).1];exact hver
  obtain⟨m1,x1⟩:=h1.mem.addBox n ((s0.b n).ver + 1) g k.acs (by rw [hbn];omega) ⟨cur,ty,hh,h2⟩ (fun x hx=>by
   rcases h1.own x g hx with h | h
   ·exact(hf g (by simp)).1 x h
   ·exact hn.1 h) (by rw [h1.I];exact hI) (hf g (by simp)).2
  refine⟨_,⟨G1.I,upd G1.bx n g,G1.rw,G1.st,G1.ex⟩,hq,⟨by rw [St.app_append];exact m1,by rw [St.app_append];exact h1.ext.trans x1,h1.I,Nat.le_trans (Nat.le_succ n) h1.le,fun j hj=>?_,fun x b hx=>?_,by rw [St.app_append];exact h1.n_,by rw [St.app_append];exact h1.t,fun j hj=>?_⟩,?_⟩
  ·have:=h1.ver j hj
   have hle:=h1.le
   rw [St.app_append]
   simp only [a89,St.setB,upd]
   rw [if_neg (by have:n + 1<=j:=Nat.le_trans hle hj;omega)]
   exact this
  ·rw [St.app_append] at hx
   rcases x with j | j
   ·simp only [a89] at hx
    by_cases e:j=n
    ·subst e
     simp only [Am.own,St.setB,upd,if_true,Option.isSome_some,List.mem_singleton] at hx
     exact .inr (by simp [hx])
    ·have hx':b ∈ Am.own G1 (s.app k.us) (.inl j):=by simpa [Am.own,St.setB,upd,e] using hx
     rcases h1.own _ _ hx' with h | h
     ·exact .inl h
     ·exact .inr (by simp [h])
   ·have hx':b ∈ Am.own G1 (s.app k.us) (.inr j):=hx
    rcases h1.own _ _ hx' with h | h
    ·exact .inl h
    ·exact .inr (by simp [h])
  ·rw [St.app_append]
   obtain⟨a1,a2,a3,a4,a5⟩:=h1.old j (hj.imp Nat.lt_succ_of_lt id)
   simp only [a89,St.setB,upd]
   have hne:j ≠ n:=by have:=h1.le;simp only at hj;omega
   simp only [hne,if_false]
   exact⟨a1,a2,a3,a4,a5⟩
  ·rw [St.app_append]
   simp only [ACr,a89,St.setB,upd,if_true]
   exact⟨rfl,Nat.le_refl _,fun _ _=>trivial⟩
theorem b1B:∀ (cs:List OC) {n:Nat} {s:St} {G:Gh} {vs:List Value} {F:List Nat} {K:Mks->Prop},(b0R n cs).wp s0 K->Mem W0 M G s w->OCs G.I w cs vs F->F.Nodup->b7T W0 M G s F->V9 n s0 s->
  ∃ k G',K k/\c1l W0 M G s0 s w n k.us k.m F G'/\ACs G' (s.app k.us) w k.acs vs
 | [],n,s,G,vs,F,K,hq,hm,hc,hn,hf,hv=>by
  simp only [OCs] at hc
  obtain⟨rfl,rfl⟩:=hc
  exact⟨_,G,hq,⟨hm,Ext.refl _ _ _,rfl,Nat.le_refl _,hv,fun x b h=> .inl h,rfl,rfl,fun k _=>⟨rfl,rfl,rfl,rfl,rfl⟩⟩,by simp [ACs]⟩
 | c :: cs,n,s,G,vs,F,K,hq,hm,hc,hn,hf,hv=>by
  simp only [OCs] at hc
  obtain⟨x,r,F1,F2,rfl,h1,h2,rfl⟩:=hc
  simp only [b0R,Q.wp_bind] at hq
  rw [List.nodup_append] at hn
  obtain⟨k,G1,hq,j1,j2⟩:=b5I c hq hm h1 hn.1 (fun b hb=>hf b (by simp [hb])) hv
  have hf2:b7T W0 M G1 (s.app k.us) F2:=b7T.after (F1:=F1) (fun b hb=>hf b (by simp [hb])) (fun b hb1 hb2=>hn.2.2 b hb1 b hb2 rfl) j1
  obtain⟨ks,G2,hq,j3,j4⟩:=b1B cs hq j1.mem (by rw [j1.I];exact h2) hn.2.1 hf2 j1.ver
  refine⟨_,G2,hq,j1.trans j3,?_⟩
  rw [St.app_append]
  simp only [ACs]
  exact⟨x,r,rfl,j3.ext.ac j2,j4⟩
end
end
end Go.Proofs.YtacnfjjkhpkloaaGreat.Am
namespace Go.Proofs.YtacnfjjkhpkloaaGreat.Am
open Go
inductive CSh where
 | D
 | R (sz:Nat) (e:TypeId)
 | B (cs:List CSh)
 | E
inductive ASh where
 | c (s:CSh)
 | agg (ss:List CSh)
 | bx (ss:List CSh)
 | rx (sz:Nat) (e:TypeId)
structure Tk where
 oc:OC
 fz:List Nat
 ids:List (Nat ⊕ Nat)
structure Tks where
 ocs:List OC
 fz:List Nat
 ids:List (Nat ⊕ Nat)
mutual
def a9C:CSh->AC->Q Tk
 | .D,ac=>(toD ac).bind fun d=> .ret ⟨.d d.1,d.2,[]⟩
 | .R sz e,.row id ver=> .rdR id fun r=>match r.c with
  | some R=> .req (ver=r.ver/\R.sz=sz/\R.e=e/\R.fr=false) (.ret ⟨.row sz e R.es,[],[.inr id]⟩)
  | none=> .fail
 | .R sz e,.nil=> .req (0 < sz/\e < a0S) (.ret ⟨.row sz e [],[],[]⟩)
 | .R _ _,_=> .fail
 | .E,.eptr cs=> .ret ⟨.e cs,[],[]⟩
 | .E,_=> .fail
 | .B cs,.ptr id ver off=> .rdB id fun b=>match b.c with
  | some acs=>(Y0 cs acs).bind fun k=> .req (ver=b.ver/\off=0) (.ret ⟨.box k.ocs,k.fz,.inl id :: k.ids⟩)
  | none=> .fail
 | .B _,_=> .fail
def Y0:List CSh->List AC->Q Tks
 | [],[]=> .ret ⟨[],[],[]⟩
 | s :: ss,c :: cs=>(a9C s c).bind fun k=>(Y0 ss cs).bind fun ks=> .ret ⟨k.oc :: ks.ocs,k.fz ++ ks.fz,k.ids ++ ks.ids⟩
 | _,_=> .fail
end
structure Ta where
 oa:OA
 fz:List Nat
 ids:List (Nat ⊕ Nat)
 tops:List (Nat ⊕ Nat)
structure Tas where
 xs:List OA
 fz:List Nat
 ids:List (Nat ⊕ Nat)
 tops:List (Nat ⊕ Nat)
def c1m:ASh->AV->Q Ta
 | .c s,.c ac=>(a9C s ac).bind fun k=> .ret ⟨.c k.oc,k.fz,k.ids,[]⟩
 | .agg ss,.agg acs=>(Y0 ss acs).bind fun k=> .ret ⟨.agg k.ocs,k.fz,k.ids,[]⟩
 | .bx ss,.c (.ptr id ver off)=> .rdB id fun b=>match b.c with
  | some acs=>(Y0 ss acs).bind fun k=> .req (ver=b.ver/\off=0) (.ret ⟨.bx k.ocs,k.fz,k.ids,[.inl id]⟩)
  | none=> .fail
 | .rx sz e,.c (.row id ver)=> .rdR id fun r=>match r.c with
  | some R=> .req (ver=r.ver/\R.sz=sz/\R.e=e/\R.fr=false/\e < a0S) (.ret ⟨.rx sz e R.es,[],[],[.inr id]⟩)
  | none=> .fail
 | .bx _,.c (.d (.v (.pointer none)))=> .ret ⟨.c (.d (.v (.pointer none))),[],[],[]⟩
 | _,_=> .fail
def a9D:List ASh->List AV->Q Tas
 | [],[]=> .ret ⟨[],[],[],[]⟩
 | s :: ss,c :: cs=>(c1m s c).bind fun k=>(a9D ss cs).bind fun ks=> .ret ⟨k.oa :: ks.xs,k.fz ++ ks.fz,k.ids ++ ks.ids,k.tops ++ ks.tops⟩
 | _,_=> .fail
section
variable {W0:World} {M:Own} {G:Gh} {s:St} {w:World}
structure b1C (G:Gh) (s:St) (w:World) (I':Nat->Nat->Prop) (fz:List Nat) (ids:List (Nat ⊕ Nat)):Prop where
 I:∀ b o,G.I b o->I' b o
 fz:∀ id ∈ fz,∀ R,(s.r id).c=some R->DVr I' w (.sl R.es) (G.rw id)
 no:∀ x ∈ ids,∀ g,g ∈ own G s x->∀ o,¬ I' g o
theorem b1C.sub {I':Nat->Nat->Prop} {fz fz':List Nat} {ids ids':List (Nat ⊕ Nat)} (h:b1C G s w I' fz ids) (h1:∀ x ∈ fz',x ∈ fz) (h2:∀ x ∈ ids',x ∈ ids):b1C G s w I' fz' ids':=
 ⟨h.I,fun id hm=>h.fz id (h1 id hm),fun x hm=>h.no x (h2 x hm)⟩
def live (s:St):Nat ⊕ Nat->Prop
 | .inl id=>(s.b id).c.isSome=true
 | .inr id=>∃ R,(s.r id).c=some R/\R.fr=false
mutual
theorem b5J (h:Mem W0 M G s w):∀ (sh:CSh) {ac:AC} {v:Value} {K:Tk->Prop},ACr G s w ac v->(a9C sh ac).wp s K->∃ k,K k/\(∀ x ∈ k.ids,live s x)/\∀ I',b1C G s w I' k.fz k.ids->OCr I' w k.oc v (k.ids.flatMap (own G s))
 | .D,ac,v,K,hx,hq=>by
  simp only [a9C,Q.wp_bind,Q.wp] at hq
  obtain⟨d,hq,_,hd⟩:=b0L hx hq
  exact⟨_,hq,by simp,fun I' hf=>by simp only [OCr];exact⟨rfl,hd I' hf.I hf.fz⟩⟩
 | .E,ac,v,K,hx,hq=>by
  cases ac <;> simp only [a9C,Q.wp] at hq <;> (try exact hq.elim)
  case eptr cs=>
   simp only [ACr] at hx
   obtain⟨ad,xs,h1,h2,h3⟩:=hx
   refine⟨_,hq,by simp,fun I' hf=>?_⟩
   simp only [OCr]
   exact⟨rfl,ad,xs,h1,J4.mono hf.I (a2R.refl _ _) _ h2,fun j u hu=>⟨(h3 j u hu).1,hf.I _ _ (h3 j u hu).2⟩⟩
 | .R sz e,ac,v,K,hx,hq=>by
  cases ac <;> simp only [a9C,Q.wp] at hq <;> (try exact hq.elim)
  case nil=>
   simp only [ACr] at hx
   subst hx
   refine⟨_,hq.2,by simp,fun I' hf=>?_⟩
   simp only [OCr]
   exact⟨[],⟨hq.1.1,by simp,.inl ⟨hq.1.2,[],World.ownsRow_nil w 0 e sz,by simp [H6]⟩⟩,by simp [obk],fun g o hg=>(by cases hg),fun k=>absurd k (I8 hq.1.2)⟩
  case row id ver=>
   split at hq
   ·rename_i R hR
    obtain⟨⟨h1,h2,h3,h4⟩,hq⟩:=hq
    simp only [ACr] at hx
    obtain rfl:=hx.2.2 h1 (by rw [hR];rfl)
    refine⟨_,hq,fun x hm=>by simp at hm;subst hm;exact⟨R,hR,h4⟩,fun I' hf=>?_⟩
    have q:=(h.rw id R hR).mono hf.I
    simp only [OCr]
    obtain⟨Re,Rz,Rt,Rf⟩:=R
    simp only at h2 h3 h4
    subst h2;subst h3;subst h4
    exact⟨G.ex id,q,by simp [own,hR],fun g o hg=>hf.no (.inr id) (by simp) g (a3q hR hg) o,fun he=>⟨(h.sx id _ hR he).1,fun b hb=>hf.no (.inr id) (by simp) b (a6I hR he hb)⟩⟩
   ·exact hq.elim
 | .B cs,ac,v,K,hx,hq=>by
  cases ac <;> simp only [a9C,Q.wp] at hq <;> (try exact hq.elim)
  case ptr id ver off=>
   split at hq
   ·rename_i acs hc
    rw [Q.wp_bind] at hq
    obtain⟨cur,ty,hh,hac⟩:=h.bx id acs hc
    obtain⟨k,hk0,hl,hk⟩:=a7C h cs hac hq
    clear hq
    obtain⟨⟨h1,h2⟩,hq⟩:=hk0
    simp only [ACr] at hx
    obtain rfl:=hx.2.2 h1 (by rw [hc];rfl)
    rw [h2]
    have hown:own G s (.inl id)=[G.bx id]:=by simp [own,hc]
    refine⟨_,hq,fun x hm=>by
     rcases List.mem_cons.1 hm with rfl | hm
     ·simp [live,hc]
     ·exact hl x hm,fun I' hf=>?_⟩
    simp only [OCr]
    refine⟨G.bx id,cur,ty,_,rfl,hh,hk I' (hf.sub (fun _ h=>h) (fun x hm=>by simp [hm])),?_,fun o=>hf.no (.inl id) (by simp) _ (by rw [hown];simp) o⟩
    rw [List.flatMap_cons,hown];rfl
   ·exact hq.elim
theorem a7C (h:Mem W0 M G s w):∀ (shs:List CSh) {acs:List AC} {vs:List Value} {K:Tks->Prop},ACs G s w acs vs->(Y0 shs acs).wp s K->∃ k,K k/\(∀ x ∈ k.ids,live s x)/\∀ I',b1C G s w I' k.fz k.ids->OCs I' w k.ocs vs (k.ids.flatMap (own G s))
 | [],acs,vs,K,hx,hq=>by
  cases acs with
  | nil=>
   simp only [ACs] at hx;subst hx
   exact⟨_,hq,by simp,fun I' hf=>by simp [OCs]⟩
  | cons c cs=>exact hq.elim
 | sh :: shs,acs,vs,K,hx,hq=>by
  cases acs with
  | nil=>exact hq.elim
  | cons c cs=>
   simp only [ACs] at hx
   obtain⟨v,r,rfl,h1,h2⟩:=hx
   simp only [Y0,Q.wp_bind,Q.wp] at hq
   obtain⟨k,hq,hl,hk⟩:=b5J h sh h1 hq
   obtain⟨ks,hq,hls,hks⟩:=a7C h shs h2 hq
   refine⟨_,hq,fun x hm=>by
    rcases List.mem_append.1 hm with hm | hm
    ·exact hl x hm
    ·exact hls x hm,fun I' hf=>?_⟩
   simp only [OCs]
   exact⟨v,r,_,_,rfl,hk I' (hf.sub (fun x hm=>by simp [hm]) (fun x hm=>by simp [hm])),hks I' (hf.sub (fun x hm=>by simp [hm]) (fun x hm=>by simp [hm])),List.flatMap_append⟩
end
def c5D (s:St):Nat ⊕ Nat->Prop
 | .inl _=>True
 | .inr id=>∃ R,(s.r id).c=some R/\R.e < a0S
def Ta.foot (k:Ta):List (Nat ⊕ Nat):=k.tops ++ k.ids
def a1M (G:Gh):Nat ⊕ Nat->Value
 | .inl t=> .pointer (some ⟨G.bx t,0,none⟩)
 | .inr t=>G.rw t
theorem c1n (h:Mem W0 M G s w) {sh:ASh} {x:AV} {v:Value} {K:Ta->Prop} (hx:AVr G s w x v) (hq:(c1m sh x).wp s K) :
  ∃ k,K k/\(∀ x ∈ k.ids,live s x)/\(∀ x ∈ k.tops,live s x/\c5D s x)/\(∀ I',b1C G s w I' k.fz (k.tops ++ k.ids)->OAr I' w k.oa v ((k.tops ++ k.ids).flatMap (own G s)))/\
   ((k.tops=[]/\(∀ cs,k.oa ≠ .bx cs)/\∀ a b c,k.oa ≠ .rx a b c)\/(∃ id cs,k.tops=[.inl id]/\k.oa= .bx cs/\v=a1M G (.inl id))\/∃ id a b c,k.tops=[.inr id]/\k.oa= .rx a b c/\v=a1M G (.inr id)):=by
 unfold c1m at hq
 split at hq
 ·simp only [Q.wp_bind,Q.wp] at hq
  obtain⟨k,hq,hl,hk⟩:=b5J h _ (E2 hx) hq
  exact⟨_,hq,hl,by simp,fun I' hf=>by simpa [OAr] using hk I' (by simpa using hf),.inl ⟨rfl,by simp,by simp⟩⟩
 ·simp only [Q.wp_bind,Q.wp] at hq
  simp only [AVr] at hx
  obtain⟨vs,rfl,hx⟩:=hx
  obtain⟨k,hq,hl,hk⟩:=a7C h _ hx hq
  exact⟨_,hq,hl,by simp,fun I' hf=>by simp only [OAr];exact⟨vs,rfl,by simpa using hk I' (by simpa using hf)⟩,.inl ⟨rfl,by simp,by simp⟩⟩
 ·rename_i ss id ver off
  simp only [Q.wp] at hq
  split at hq
  ·rename_i acs hc
   rw [Q.wp_bind] at hq
   obtain⟨cur,ty,hh,hac⟩:=h.bx id acs hc
   obtain⟨k,hk0,hl,hk⟩:=a7C h ss hac hq
   clear hq
   obtain⟨⟨h1,h2⟩,hq⟩:=hk0
   have hx':=E2 hx
   simp only [ACr] at hx'
   obtain rfl:=hx'.2.2 h1 (by rw [hc];rfl)
   rw [h2]
   have hown:own G s (.inl id)=[G.bx id]:=by simp [own,hc]
   refine⟨_,hq,hl,fun i hi=>by simp at hi;subst hi;simp [live,c5D,hc],fun I' hf=>?_,.inr (.inl ⟨id,_,rfl,rfl,rfl⟩)⟩
   simp only [OAr,OCr]
   refine⟨G.bx id,cur,ty,_,rfl,hh,hk I' (hf.sub (fun _ h=>h) (fun x hm=>by simp [hm])),?_,fun o=>hf.no (.inl id) (by simp) _ (by rw [hown];simp) o⟩
   simp [hown]
  ·exact hq.elim
 ·rename_i sz e id ver
  simp only [Q.wp] at hq
  split at hq
  ·rename_i R hR
   obtain⟨⟨h1,h2,h3,h4,h5⟩,hq⟩:=hq
   have hx':=E2 hx
   simp only [ACr] at hx'
   obtain rfl:=hx'.2.2 h1 (by rw [hR];rfl)
   refine⟨_,hq,by simp,fun x hm=>by simp at hm;subst hm;exact⟨⟨R,hR,h4⟩,R,hR,by rw [h3];exact h5⟩,fun I' hf=>?_,.inr (.inr ⟨id,_,_,_,rfl,rfl,rfl⟩)⟩
   have q:=(h.rw id R hR).mono hf.I
   simp only [OAr,OCr]
   obtain⟨Re,Rz,Rt,Rf⟩:=R
   simp only at h2 h3 h4
   subst h2;subst h3;subst h4
   exact⟨G.ex id,q,by simp [own,hR],fun g o hg=>hf.no (.inr id) (by simp) g (a3q hR hg) o,fun he=>⟨(h.sx id _ hR he).1,fun b hb=>hf.no (.inr id) (by simp) b (a6I hR he hb)⟩⟩
  ·exact hq.elim
 ·have hx':=E2 hx
  simp only [ACr,DVr] at hx'
  exact⟨_,hq,by simp,by simp,fun I' hf=>by simp [OAr,OCr,DVr,hx'],.inl ⟨rfl,by simp,by simp⟩⟩
 ·exact hq.elim
def a5O (G:Gh):List OA->List Value->List (Nat ⊕ Nat)->Prop
 | [],_,ts=>ts=[]
 | .bx _ :: xs,vs,ts=>∃ v r t tr,vs=v :: r/\ts=t :: tr/\v=a1M G t/\a5O G xs r tr
 | .rx _ _ _ :: xs,vs,ts=>∃ v r t tr,vs=v :: r/\ts=t :: tr/\v=a1M G t/\a5O G xs r tr
 | _ :: xs,vs,ts=>∃ v r,vs=v :: r/\a5O G xs r ts
structure c5E (G:Gh) (s:St) (w:World) (k:Tas) (vs:List Value) (foot:List (Nat ⊕ Nat)):Prop where
 mem:∀ x,x ∈ foot ↔ x ∈ k.tops\/x ∈ k.ids
 live:∀ x ∈ foot,live s x
 rx:∀ x ∈ k.tops,c5D s x
 oas:∀ I',b1C G s w I' k.fz foot->OAs I' w k.xs vs (foot.flatMap (own G s))
 tops:a5O G k.xs vs k.tops
 nodup:(k.tops ++ k.ids).Nodup->foot.Nodup
theorem a9E (h:Mem W0 M G s w):∀ (shs:List ASh) {xs:List AV} {vs:List Value} {K:Tas->Prop},AVs G s w xs vs->(a9D shs xs).wp s K->∃ k foot,K k/\c5E G s w k vs foot
 | [],xs,vs,K,hx,hq=>by
  cases xs with
  | nil=>
   simp only [AVs] at hx;subst hx
   exact⟨_,[],hq,⟨by simp,by simp,by simp,fun I' hf=>by simp [OAs],by simp [a5O],fun h=>h⟩⟩
  | cons c cs=>exact hq.elim
 | sh :: shs,xs,vs,K,hx,hq=>by
  cases xs with
  | nil=>exact hq.elim
  | cons c cs=>
   simp only [AVs] at hx
   obtain⟨v,r,rfl,h1,h2⟩:=hx
   simp only [a9D,Q.wp_bind,Q.wp] at hq
   obtain⟨k,hq,hl,hlt,hk,htop⟩:=c1n h h1 hq
   obtain⟨ks,foot,hq,t1,t2,t6,t3,t4,t5⟩:=a9E h shs h2 hq
   refine⟨_,(k.tops ++ k.ids) ++ foot,hq,⟨fun x=>?_,fun x hm=>?_,fun x hm=>?_,fun I' hf=>?_,?_,fun hnd=>?_⟩⟩
   ·simp only [List.mem_append,t1 x]
    constructor
    ·rintro((h | h) | (h | h))
     ·exact .inl (.inl h)
     ·exact .inr (.inl h)
     ·exact .inl (.inr h)
     ·exact .inr (.inr h)
    ·rintro((h | h) | (h | h))
     ·exact .inl (.inl h)
     ·exact .inr (.inl h)
     ·exact .inl (.inr h)
     ·exact .inr (.inr h)
   ·rcases List.mem_append.1 hm with hm | hm
    ·rcases List.mem_append.1 hm with hm | hm
     ·exact(hlt x hm).1
     ·exact hl x hm
    ·exact t2 x hm
   ·rcases List.mem_append.1 hm with hm | hm
    ·exact(hlt x hm).2
    ·exact t6 x hm
   ·simp only [OAs]
    exact⟨v,r,_,_,rfl,hk I' (hf.sub (fun x hm=>by simp [hm]) (fun x hm=>List.mem_append_left _ hm)),t3 I' (hf.sub (fun x hm=>by simp [hm]) (fun x hm=>List.mem_append_right _ hm)),List.flatMap_append⟩
   ·rcases htop with⟨e1,e2,e3⟩ | ⟨id,cs',e1,e2,e3⟩ | ⟨id,a',b',c',e1,e2,e3⟩
    ·simp only [e1,List.nil_append]
     cases hoa:k.oa with
     | c x=>exact⟨v,r,rfl,t4⟩
     | agg x=>exact⟨v,r,rfl,t4⟩
     | bx x=>exact(e2 x hoa).elim
     | rx x y z=>exact(e3 x y z hoa).elim
    ·simp only [e1,e2]
     exact⟨v,r,.inl id,ks.tops,rfl,rfl,e3,t4⟩
    ·simp only [e1,e2]
     exact⟨v,r,.inr id,ks.tops,rfl,rfl,e3,t4⟩
   ·have hnd':((k.tops ++ k.ids) ++ (ks.tops ++ ks.ids)).Nodup:=by
     refine(List.Perm.nodup_iff ?_).1 hnd
     simp only [List.append_assoc]
     refine List.Perm.append_left _ ?_
     rw [<-List.append_assoc,<-List.append_assoc]
     exact List.Perm.append_right _ List.perm_append_comm
    rw [List.nodup_append] at hnd' ⊢
    refine⟨hnd'.1,t5 hnd'.2.1,fun a ha b hb e=>hnd'.2.2 a ha b ?_ e⟩
    rcases(t1 b).1 hb with h | h
    ·exact List.mem_append_left _ h
    ·exact List.mem_append_right _ h
end
end Go.Proofs.YtacnfjjkhpkloaaGreat.Am
namespace Go.Proofs.YtacnfjjkhpkloaaGreat.Am
open Go
inductive Sp where
 | none
 | keys (f1:FuncId)
 | sortI (f1:FuncId) (e:TypeId)
 | sortS (f1:FuncId) (e:TypeId)
def c5F (P:Program) (f f1:FuncId) (e:TypeId):Prop:=∀ (w:World) (b g:Nat) (ty:TypeId) (en:Array MapEntry) (clock:Nat) (ks:List Int),w.heap[b]?=some (.cells #[.map (some g)] ty (0,0))->w.heap[g]?=some (.map en clock)->a8c en.toList clock->
 en.toList.map (·.key)=ks.map (Value.int .i64)->ks.Nodup->(∀ x ∈ ks,(Lit.int .i64 x).wf=true)->ks.length<=maxLen->ks.length * 8<=140737488355328->
 Calls P f #[b3T f1 b] w fun o w'=>∃ v,o= .returned v/\w'.ownsRow w.heap.size e 1 v ks.length ((ks.mergeSort fun x y=>decide (x<=y)).map (Value.int .i64))/\RowKit.Below w.heap.size w w'
def c1o (l:List UInt8):Value:= .string ⟨l.toArray⟩
def c7S (P:Program) (f f1:FuncId) (e:TypeId):Prop:=∀ (w:World) (b g:Nat) (ty:TypeId) (en:Array MapEntry) (clock:Nat) (ks:List (List UInt8)),w.heap[b]?=some (.cells #[.map (some g)] ty (0,0))->w.heap[g]?=some (.map en clock)->a8c en.toList clock->
 en.toList.map (·.key)=ks.map c1o->ks.Nodup->(∀ x ∈ ks,x.length<=maxLen)->ks.length<=maxLen->ks.length * 16<=140737488355328->
 Calls P f #[b3T f1 b] w fun o w'=>∃ v,o= .returned v/\w'.ownsRow w.heap.size e 1 v ks.length ((ks.mergeSort fun x y=>decide (x<=y)).map c1o)/\RowKit.Below w.heap.size w w'
def c4Y (P:Program) (f:FuncId):Sp->Prop
 | .none=>True
 | .keys f1=>∃ tm,∀ g w,Calls P f #[.map (some g)] w fun e w'=>e= .returned (b3T f1 w.heap.size)/\w'=w.alloc (.cells #[.map (some g)] tm)
 | .sortI f1 e=>c5F P f f1 e
 | .sortS f1 e=>c7S P f f1 e
structure a6y where
 sh:List ASh
 pre:List OA->Prop
 post:List OA->List OA
 res:List OA->List OA
 sp:Sp
 flat:Bool
def a8F:OC->Bool
 | .d (.v _)=>true
 | _=>false
def b21:OA->Bool
 | .c x=>a8F x
 | .agg xs=>xs.all a8F
 | _=>false
theorem b5K {c:OC} (h:a8F c=true):∃ u,c= .d (.v u):=by
 unfold a8F at h
 split at h
 ·exact⟨_,rfl⟩
 ·cases h
theorem b8C {I J:Nat->Nat->Prop} {w w':World}:∀ {cs:List OC} {vs:List Value} {F:List Nat},cs.all a8F=true->OCs I w cs vs F->OCs J w' cs vs []/\F=[]
 | [],vs,F,_,h=>by simp only [OCs] at h ⊢;exact⟨⟨h.1,trivial⟩,h.2⟩
 | c :: cs,vs,F,hf,h=>by
  rw [List.all_cons,Bool.and_eq_true] at hf
  obtain⟨u,rfl⟩:=b5K hf.1
  simp only [OCs] at h ⊢
  obtain⟨x,r,F1,F2,rfl,h1,h2,rfl⟩:=h
  obtain⟨h3,rfl⟩:=b8C (J:=J) (w':=w') hf.2 h2
  simp only [OCr,DVr] at h1 ⊢
  obtain⟨rfl,h4⟩:=h1
  exact⟨⟨x,r,[],[],rfl,⟨rfl,h4⟩,h3,rfl⟩,rfl⟩
theorem b8D {I J:Nat->Nat->Prop} {w w':World}:∀ {cs:List OA} {vs:List Value} {F:List Nat},cs.all b21=true->OAs I w cs vs F->OAs J w' cs vs []
 | [],vs,F,_,h=>by simp only [OAs] at h ⊢;exact⟨h.1,trivial⟩
 | c :: cs,vs,F,hf,h=>by
  rw [List.all_cons,Bool.and_eq_true] at hf
  obtain⟨hf1,hf2⟩:=hf
  simp only [OAs] at h ⊢
  obtain⟨x,r,F1,F2,rfl,h1,h2,rfl⟩:=h
  have h3:=b8D (J:=J) (w':=w') hf2 h2
  refine⟨x,r,[],[],rfl,?_,h3,rfl⟩
  unfold b21 at hf1
  split at hf1
  ·rename_i y
   obtain⟨u,rfl⟩:=b5K hf1
   simp only [OAr,OCr,DVr] at h1 ⊢
   exact⟨trivial,h1.2⟩
  ·rename_i ys
   simp only [OAr] at h1 ⊢
   obtain⟨vs',e,h5⟩:=h1
   exact⟨vs',e,(b8C (J:=J) (w':=w') hf1 h5).1⟩
  ·cases hf1
def M3:List OA->List Value->List Value
 | .bx _ :: xs,v :: vs=>v :: M3 xs vs
 | .rx _ _ _ :: xs,v :: vs=>v :: M3 xs vs
 | _ :: xs,_ :: vs=>M3 xs vs
 | _,_=>[]
structure Ret (S:a6y) (I:Nat->Nat->Prop) (w:World) (xs:List OA) (args:List Value) (F:List Nat) (w':World) (I':Nat->Nat->Prop) (vs:List Value) (Fp Fr':List Nat):Prop where
 fr:Fr w (· ∈ F) w'
 sub:∀ b o,I b o->I' b o
 keep:a2R I w w'
 new:∀ b o,I' b o->I b o\/b ∈ F\/w.heap.size<=b
 lt:∀ b o,I' b o->b < w'.heap.size
 post:OAs I' w' (S.post xs) (M3 xs args) Fp
 res:OAs I' w' (S.res xs) vs Fr'
 nodup:(Fp ++ Fr').Nodup
 own:∀ b ∈ Fp ++ Fr',b ∈ F\/w.heap.size<=b
def c2O (vs:List Value):Value:=match vs with
 | [v]=>v
 | vs=> .tuple vs.toArray
structure c1p (P:Program) (f:FuncId) (S:a6y):Prop where
 sp:c4Y P f S.sp
 isf:∃ fn,P.funcs[f]?=some fn/\fn.body.isSome=true/\(fn.name == "runtime.NumGoroutine")=false
 calls:∀ (w:World) (I:Nat->Nat->Prop) (F:List Nat) (args:Array Value) (xs:List OA),(∀ b o,I b o->b < w.heap.size)->b7X I w->OAs I w xs args.toList F->F.Nodup->S.pre xs->
  Calls P f args w fun | .returned v,w'=>∃ I' vs Fp Fr',v=c2O vs/\Ret S I w xs args.toList F w' I' vs Fp Fr' | _,_=>False
def b38:List (Nat ⊕ Nat)->Q (List Upd)
 | []=> .ret []
 | .inl id :: ids=> .rdB id fun b=>(b38 ids).bind fun us=> .ret (.b id ⟨b.ver,none⟩ :: us)
 | .inr id :: ids=> .rdR id fun b=>(b38 ids).bind fun us=> .ret (.r id ⟨b.ver,none⟩ :: us)
def b0v:List (Nat ⊕ Nat)->List OA->Q (List Upd)
 | [],[]=> .ret []
 | .inl id :: ids,.bx cs :: css=> .rdB id fun b=>(b0v ids css).bind fun us=> .ret (.b id ⟨b.ver,some (cs.map fun _=> .junk)⟩ :: us)
 | .inr id :: ids,.rx sz e es :: css=> .req (e < a0S) <| .rdR id fun r=>(b0v ids css).bind fun us=> .ret (.r id ⟨r.ver,some ⟨es,sz,e,false⟩⟩ :: us)
 | _,_=> .fail
def tid:Nat ⊕ Nat->Nat
 | .inl j=>j
 | .inr j=>j
structure Mps where
 us:List Upd
 m:Nat
def b39 (n:Nat):List (Nat ⊕ Nat)->List OA->Q Mps
 | [],[]=> .ret ⟨[],n⟩
 | .inl id :: ids,.bx cs :: css=>(b0R n cs).bind fun k=> .req (∀ j ∈ .inl id :: ids,tid j < n\/k.m<=tid j) (.rdB id fun b=>(b39 k.m ids css).bind fun p=> .ret ⟨k.us ++ (.b id ⟨b.ver,some k.acs⟩ :: p.us),p.m⟩)
 | .inr _ :: ids,.rx _ _ _ :: css=>b39 n ids css
 | _,_=> .fail
structure Mka where
 av:AV
 us:List Upd
 m:Nat
structure c7T where
 avs:List AV
 us:List Upd
 m:Nat
def mkA (n:Nat):OA->Q Mka
 | .c x=>(mkC n x).bind fun k=> .ret ⟨.c k.ac,k.us,k.m⟩
 | .agg xs=>(b0R n xs).bind fun k=> .ret ⟨.agg k.acs,k.us,k.m⟩
 | .bx cs=>(mkC n (.box cs)).bind fun k=> .ret ⟨.c k.ac,k.us,k.m⟩
 | .rx sz e es=>(mkC n (.row sz e es)).bind fun k=> .ret ⟨.c k.ac,k.us,k.m⟩
def c3E (n:Nat):List OA->Q c7T
 | []=> .ret ⟨[],[],n⟩
 | c :: cs=>(mkA n c).bind fun k=>(c3E k.m cs).bind fun ks=> .ret ⟨k.av :: ks.avs,k.us ++ ks.us,ks.m⟩
def c4Z (vs:List AV):AV:=match vs with
 | [v]=>v
 | vs=> .tup vs
def a9b:Option Nat->Nat
 | some d=>(d + 1) * 1000
 | none=>900
def b8E (S:a6y) (o:Oper) (c:Call) (ex:List AV:=[]):Q (List Upd):=
 (evs c.args.toList).bind fun xs=>(a9D S.sh (xs ++ ex)).bind fun k=>
 .req ((k.tops ++ k.ids).Nodup/\(∀ id ∈ k.fz,Sum.inr id ∉ k.tops ++ k.ids)/\S.pre k.xs)
 (match S.flat && k.tops.isEmpty && k.ids.isEmpty with
 | true=> .req (S.post k.xs=[]/\(S.res k.xs).all b21=true) ((a1K k.fz).bind fun _=>(c3E (a9b o.dst) (S.res k.xs)).bind fun r=> .ret (r.us ++ b3V o.dst (c4Z r.avs)))
 | false=>(a1K k.fz).bind fun us1=>(b38 k.ids).bind fun us2=>(b0v k.tops (S.post k.xs)).bind fun us3=>(b39 (a9b o.dst) k.tops (S.post k.xs)).bind fun p=>(c3E p.m (S.res k.xs)).bind fun r=>
 .ret (us1 ++ us2 ++ us3 ++ p.us ++ r.us ++ b3V o.dst (c4Z r.avs)))
section
variable {W0:World} {M:Own} {G:Gh} {s s' s0:St} {w w':World}
theorem Mem.dropBox (h:Mem W0 M G s w) (id:Nat):Mem W0 M G (s.setB id ⟨(s.b id).ver,none⟩) w/\Ext G s w G (s.setB id ⟨(s.b id).ver,none⟩) w:=by
 have E:Ext G s w G (s.setB id ⟨(s.b id).ver,none⟩) w:=by
  refine⟨fun _ _ h=>h,a2R.refl _ _,fun k=>?_,fun _=>⟨Nat.le_refl _,fun _ h=>⟨h,rfl⟩⟩,fun _ _=>rfl⟩
  simp only [St.setB,upd]
  by_cases e:k=id
  ·subst e;simp
  ·simp only [e,if_false];exact⟨Nat.le_refl _,fun _ h=>⟨h,trivial⟩⟩
 have ho:∀ x b,b ∈ own G (s.setB id ⟨(s.b id).ver,none⟩) x->b ∈ own G s x:=by
  intro x b hx
  rcases x with k | k
  ·by_cases e:k=id
   ·subst e;simp [own,St.setB,upd] at hx
   ·simpa [own,St.setB,upd,e] using hx
  ·exact hx
 refine⟨⟨fun k c hc=>?_,fun k R hc=>h.rw k R hc,fun x y b hx hy=>h.dj x y b (ho x b hx) (ho y b hy),fun k hc=>?_,h.rI,fun x b hx=>h.oM x b (ho x b hx),h.In,h.fr,h.ii,h.gl.mono E.I E.keep,h.pe,h.sx⟩,E⟩
 ·simp only [St.setB,upd] at hc
  by_cases e:k=id
  ·simp [e] at hc
  ·simp only [e,if_false] at hc
   obtain⟨cur,ty,h1,h2⟩:=h.bx k c hc
   exact⟨cur,ty,h1,E.acs h2⟩
 ·simp only [St.setB,upd] at hc
  by_cases e:k=id
  ·simp [e] at hc
  ·simp only [e,if_false] at hc;exact h.bI k hc
structure c95 (G:Gh) (s s':St) (ids:List (Nat ⊕ Nat)):Prop where
 n_:s'.n=s.n
 t:s'.t=s.t
 gone:∀ x ∈ ids,own G s' x=[]
 less:∀ x b,b ∈ own G s' x->b ∈ own G s x
 b:∀ id,Sum.inl id ∉ ids->s'.b id=s.b id
 r:∀ id,Sum.inr id ∉ ids->s'.r id=s.r id
theorem a9F (x:Nat ⊕ Nat) (id:Nat) (y:BS) (h:x ≠ .inl id):own G (s.setB id y) x=own G s x:=by
 rcases x with k | k
 ·have e:k ≠ id:=fun e=>h (by rw [e])
  simp [own,St.setB,upd,e]
 ·rfl
theorem b4a (x:Nat ⊕ Nat) (id:Nat) (y:RS) (h:x ≠ .inr id):own G (s.setR id y) x=own G s x:=by
 rcases x with k | k
 ·rfl
 ·have e:k ≠ id:=fun e=>h (by rw [e])
  simp [own,St.setR,upd,e]
theorem V9.setB {n:Nat} (h:V9 n s0 s) {id ver:Nat} {c:Option (List AC)} (he:n<=id->ver=(s.b id).ver):V9 n s0 (s.setB id ⟨ver,c⟩):=fun k hk=>by
 have:=h k hk
 simp only [St.setB,upd]
 by_cases e:k=id
 ·subst e;simp only [if_true];exact⟨(he hk).trans this.1,this.2⟩
 ·simp only [e,if_false];exact this
theorem V9.setR {n:Nat} (h:V9 n s0 s) {id ver:Nat} {c:Option Row} (he:n<=id->ver=(s.r id).ver):V9 n s0 (s.setR id ⟨ver,c⟩):=fun k hk=>by
 have:=h k hk
 simp only [St.setR,upd]
 by_cases e:k=id
 ·subst e;simp only [if_true];exact⟨this.1,(he hk).trans this.2⟩
 ·simp only [e,if_false];exact this
theorem a5t {x:Nat ⊕ Nat} (h:own G s x=[]) (hl:∀ x b,b ∈ own G s' x->b ∈ own G s x):own G s' x=[]:=
 List.eq_nil_iff_forall_not_mem.2 fun b hb=>by have:=hl x b hb;rw [h] at this;cases this
theorem b1D:∀ {ids:List (Nat ⊕ Nat)} {s:St} {K:List Upd->Prop},(b38 ids).wp s0 K->Mem W0 M G s w->V9 0 s0 s->∃ us,K us/\Mem W0 M G (s.app us) w/\Ext G s w G (s.app us) w/\V9 0 s0 (s.app us)/\c95 G s (s.app us) ids
 | [],s,K,hq,hm,hv=>⟨[],hq,hm,Ext.refl _ _ _,hv,⟨rfl,rfl,by simp,fun x b h=>h,fun _ _=>rfl,fun _ _=>rfl⟩⟩
 | .inl id :: ids,s,K,hq,hm,hv=>by
  simp only [b38,Q.wp] at hq
  rw [Q.wp_bind] at hq
  have hver:(s0.b id).ver=(s.b id).ver:=((hv id (Nat.zero_le _)).1).symm
  obtain⟨m1,x1⟩:=hm.dropBox id
  obtain⟨us,hK,m2,x2,v2,d2⟩:=b1D hq m1 (hv.setB (fun _=>rfl))
  have hless:∀ x b,b ∈ own G (s.setB id ⟨(s.b id).ver,none⟩) x->b ∈ own G s x:=fun x b hx=>by
   by_cases e:x= .inl id
   ·subst e;simp [own,St.setB,upd] at hx
   ·rw [a9F x id _ e] at hx;exact hx
  refine⟨_,hK,?_⟩
  simp only [St.app,St.app1]
  rw [hver]
  refine⟨m2,x1.trans x2,v2,⟨d2.n_,d2.t,fun x hx=>?_,fun x b hx=>hless x b (d2.less x b hx),fun k hk=>?_,fun k hk=>?_⟩⟩
  ·rcases List.mem_cons.1 hx with rfl | hx
   ·refine a5t ?_ d2.less
    simp [own,St.setB,upd]
   ·exact d2.gone x hx
  ·rw [d2.b k (fun h=>hk (List.mem_cons_of_mem _ h))]
   have:k ≠ id:=fun e=>hk (by simp [e])
   simp [St.setB,upd,this]
  ·rw [d2.r k (fun h=>hk (List.mem_cons_of_mem _ h))]
   rfl
 | .inr id :: ids,s,K,hq,hm,hv=>by
  simp only [b38,Q.wp] at hq
  rw [Q.wp_bind] at hq
  have hver:(s0.r id).ver=(s.r id).ver:=((hv id (Nat.zero_le _)).2).symm
  obtain⟨m1,x1⟩:=hm.dropRow id
  obtain⟨us,hK,m2,x2,v2,d2⟩:=b1D hq m1 (hv.setR (fun _=>rfl))
  have hless:∀ x b,b ∈ own G (s.setR id ⟨(s.r id).ver,none⟩) x->b ∈ own G s x:=fun x b hx=>by
   by_cases e:x= .inr id
   ·subst e;simp [own,St.setR,upd] at hx
   ·rw [b4a x id _ e] at hx;exact hx
  refine⟨_,hK,?_⟩
  simp only [St.app,St.app1]
  rw [hver]
  refine⟨m2,x1.trans x2,v2,⟨d2.n_,d2.t,fun x hx=>?_,fun x b hx=>hless x b (d2.less x b hx),fun k hk=>?_,fun k hk=>?_⟩⟩
  ·rcases List.mem_cons.1 hx with rfl | hx
   ·refine a5t ?_ d2.less
    simp [own,St.setR,upd]
   ·exact d2.gone x hx
  ·rw [d2.b k (fun h=>hk (List.mem_cons_of_mem _ h))]
   rfl
  ·rw [d2.r k (fun h=>hk (List.mem_cons_of_mem _ h))]
   have:k ≠ id:=fun e=>hk (by simp [e])
   simp [St.setR,upd,this]
theorem c3F {cur:List Value} (h:∀ u ∈ cur,u.oneCell'=true):∀ {α:Type} {cs:List α},cs.length=cur.length->ACs G s w (cs.map fun _=> .junk) cur:=by
 intro α cs
 induction cur generalizing cs with
 | nil=>intro hl;cases cs with
  | nil=>simp [ACs]
  | cons c cs=>simp at hl
 | cons v vs ih=>intro hl;cases cs with
  | nil=>simp at hl
  | cons c cs=>
   simp only [List.map_cons,ACs,ACr]
   exact⟨v,vs,rfl,h v (by simp),ih (fun u hu=>h u (by simp [hu])) (by simpa using hl)⟩
theorem SEs.keptF {F:Nat->Prop} (fr:Fr w F w') {tp:TypeId}:∀ {cs:List (List DV)} {ms:List MapEntry} {xs:List Nat},SEs w tp cs ms xs->(∀ b ∈ xs,¬ F b)->SEs w' tp cs ms xs
 | [],_,_,h,_=>h
 | c :: cs,ms,xs,h,hne=>by
  simp only [SEs] at h ⊢
  obtain⟨m,r,x,y,k,ps,vs,rfl,rfl,h1,h2,h3,h4,h5,h6,h7⟩:=h
  refine⟨m,r,x,y,k,ps,vs,rfl,rfl,h1,h2,h3,⟨h4.1,?_⟩,h5,H6.mono (fun _ _ h=>h) (fun _ _ h=>h.elim) _ h6,h7.keptF fr fun b hb=>hne b (by simp [hb])⟩
  rcases h4.2 with h8 | ⟨g,cap,cur,hv,h9,hg,h10⟩
  ·exact .inl h8
  ·refine .inr ⟨g,cap,cur,hv,h9,?_,h10⟩
   rw [hv] at h3
   injection h3 with h3
   rw [fr.block g (Array.getElem?_eq_some_iff.1 hg).1 (hne g (by simp only at h3;simp [h3]))]
   exact hg
theorem a5K.keptF {F:Nat->Prop} (fr:Fr w F w') {v:Value} {ex:List Nat} {R:Row} (h:a5K w v ex R) (hne:∀ b,obk v=some b\/b ∈ ex->¬ F b):a5K w' v ex R:=by
 obtain⟨g,es,c,rfl,h1,h2,h3,h4⟩:=h
 exact⟨g,es,c,rfl,(fr.block g (Array.getElem?_eq_some_iff.1 h1).1 (hne g (.inl rfl))).trans h1,h2,h3,h4.keptF fr fun b hb=>hne b (.inr hb)⟩
theorem Mem.call (h:Mem W0 M G s w) {F:List Nat} {I':Nat->Nat->Prop} {tops:List (Nat ⊕ Nat)} (hr:∀ id,.inr id ∉ tops->s'.r id=s.r id) (hb:∀ id,.inl id ∉ tops->s'.b id=s.b id)
  (htr:∀ id,.inr id ∈ tops->(s.r id).c.isSome=true/\(s'.r id).ver=(s.r id).ver/\(∃ R',(s'.r id).c=some R'/\a0b I' w' (G.rw id) R'/\R'.e < a0S)/\(∀ g o,obk (G.rw id)=some g->¬ I' g o)/\∃ R,(s.r id).c=some R/\R.e < a0S)
  (ht:∀ id,.inl id ∈ tops->(s.b id).c.isSome=true/\(s'.b id).ver=(s.b id).ver/\(∃ (n:Nat) (cs:List AC) (cur:Array Value) (ty:TypeId),(s'.b id).c=some cs/\w'.heap[G.bx id]?=some (.cells cur ty (0,0))/\cs=(List.replicate n ()).map (fun _=> .junk)/\n=cur.toList.length/\∀ u ∈ cur.toList,u.oneCell'=true)/\∀ o,¬ I' (G.bx id) o)
  (hF:∀ x b,b ∈ own G s x->b ∈ F->x ∈ tops) (hFM:∀ b ∈ F,W0.heap.size<=b\/M b)
  (fr:Fr w (· ∈ F) w') (sub:∀ b o,G.I b o->I' b o) (keep:a2R G.I w w') (new:∀ b o,I' b o->G.I b o\/b ∈ F\/w.heap.size<=b) (lt:∀ b o,I' b o->b < w'.heap.size) :
  Mem W0 M ⟨I',G.bx,G.rw,G.st,G.ex⟩ s' w'/\Ext G s w ⟨I',G.bx,G.rw,G.st,G.ex⟩ s' w':=by
 have hs:∀ id,(s'.b id).c.isSome=(s.b id).c.isSome/\(s'.b id).ver=(s.b id).ver:=fun id=>by
  by_cases e: .inl id ∈ tops
  ·obtain⟨h1,h2,⟨n,cs,cur,ty,h3,_⟩,_⟩:=ht id e
   exact⟨by rw [h1,h3];rfl,h2⟩
  ·rw [hb id e];exact⟨rfl,rfl⟩
 have hsr:∀ id,(s'.r id).c.isSome=(s.r id).c.isSome/\(s'.r id).ver=(s.r id).ver:=fun id=>by
  by_cases e: .inr id ∈ tops
  ·obtain⟨h1,h2,⟨R',h3,_⟩,_⟩:=htr id e
   exact⟨by rw [h1,h3];rfl,h2⟩
  ·rw [hr id e];exact⟨rfl,rfl⟩
 have E:Ext G s w ⟨I',G.bx,G.rw,G.st,G.ex⟩ s' w':=
  ⟨sub,keep,fun k=>⟨Nat.le_of_eq (hs k).2.symm,fun _ h1=>⟨by rw [<-(hs k).1];exact h1,rfl⟩⟩,fun k=>⟨Nat.le_of_eq (hsr k).2.symm,fun _ h1=>⟨by rw [<-(hsr k).1];exact h1,rfl⟩⟩,fun _ _=>rfl⟩
 have ho:∀ x,own ⟨I',G.bx,G.rw,G.st,G.ex⟩ s' x=own G s x:=by
  intro x
  rcases x with k | k
  ·simp only [own,(hs k).1]
  ·by_cases e: .inr k ∈ tops
   ·obtain⟨_,_,⟨R',h3,_,h5⟩,_,R,h6,h7⟩:=htr k e
    simp only [own,h3,h6,I8 h5,I8 h7]
   ·simp only [own,hr k e]
 refine⟨⟨fun k c hc=>?_,fun k R hc=>?_,fun x y b hx hy=>h.dj x y b (by rw [ho] at hx;exact hx) (by rw [ho] at hy;exact hy),fun k hc o hi=>?_,fun k R g hc hg o hi=>?_,fun x b hx=>h.oM x b (by rw [ho] at hx;exact hx),lt,?_,⟨fun b o hi=>sub b o (h.ii.1 b o hi),fun b o hi=>?_⟩,h.gl.mono E.I E.keep,fun k R hc hp=>by
  by_cases e: .inr k ∈ tops
  ·obtain⟨_,_,⟨R',h3,_,h5⟩,_⟩:=htr k e
   rw [h3] at hc;injection hc with hc;subst hc
   exact absurd (Nat.lt_trans h5 (by decide)) (Nat.not_lt.2 hp)
  ·rw [hr k e] at hc
   obtain⟨g,es,cl,i,m,k1,k2,k3⟩:=h.pe k R hc hp
   refine⟨g,es,cl,i,m,k1,(fr.block g (Array.getElem?_eq_some_iff.1 k2).1 (fun hm=>e (hF (.inr k) g (by simp [own,hc,k1,obk]) hm))).trans k2,k3⟩,fun k R hc hp=>by
  by_cases e: .inr k ∈ tops
  ·obtain⟨_,_,⟨R',h3,_,h5⟩,_⟩:=htr k e
   rw [h3] at hc;injection hc with hc;subst hc
   exact absurd hp (I8 h5)
  ·rw [hr k e] at hc
   obtain⟨q1,q2⟩:=h.sx k R hc hp
   have hnF:∀ b,obk (G.rw k)=some b\/b ∈ G.ex k->b ∉ F:=fun b hb hm=>e (hF (.inr k) b (by
    rcases hb with hb | hb
    ·exact a3q hc hb
    ·exact a6I hc hp hb) hm)
   refine⟨q1.keptF (F:=(· ∈ F)) fr hnF,fun b hb o hi=>?_⟩
   rcases new _ _ hi with h1 | h1 | h1
   ·exact q2 b hb o h1
   ·exact hnF b (.inr hb) h1
   ·exact absurd (q1.lt hb) (Nat.not_lt.2 h1)⟩,E⟩
 ·by_cases e: .inl k ∈ tops
  ·obtain⟨_,_,⟨n,cs,cur,ty,h3,h4,h5,h6,h7⟩,_⟩:=ht k e
   rw [h3] at hc
   injection hc with hc
   subst hc
   refine⟨cur,ty,h4,?_⟩
   rw [h5]
   exact c3F h7 (by simpa using h6)
  ·rw [hb k e] at hc
   obtain⟨cur,ty,h1,h2⟩:=h.bx k c hc
   have hlt:=(Array.getElem?_eq_some_iff.1 h1).1
   refine⟨cur,ty,(fr.block _ hlt (fun hm=>?_)).trans h1,E.acs h2⟩
   exact e (hF (.inl k) (G.bx k) (b0F (by rw [hc];rfl)) hm)
 ·by_cases e: .inr k ∈ tops
  ·obtain⟨_,_,⟨R',h3,h4,_⟩,_⟩:=htr k e
   rw [h3] at hc
   injection hc with hc
   subst hc
   exact h4
  rw [hr k e] at hc
  obtain⟨h1,h2,⟨h0,xs,h3,h4⟩ | ⟨h0,g,ms,ck,hv,hg,h4,h5⟩ | ⟨h0,g,str,pos,hv,hg,h4⟩ | ⟨h0,g,hv,hg⟩⟩:=h.rw k R hc
  rotate_right
  ·exact⟨h1,h2,.inr (.inr (.inr ⟨h0,g,hv,Nat.lt_of_lt_of_le hg fr.size⟩))⟩
  rotate_left
  ·have hown:g ∈ own G s (.inr k):=by simp [own,hc,hv,obk]
   refine⟨h1,h2,.inr (.inl ⟨h0,g,ms,ck,hv,?_,h4.mono sub keep,h5⟩)⟩
   rw [fr.block g (h.ownlt hown) (fun hm=>?_)]
   ·exact hg
   ·exact e (hF _ _ hown hm)
  ·have hown:g ∈ own G s (.inr k):=by simp [own,hc,hv,obk]
   refine⟨h1,h2,.inr (.inr (.inl ⟨h0,g,str,pos,hv,?_,h4⟩))⟩
   rw [fr.block g (h.ownlt hown) (fun hm=>?_)]
   ·exact hg
   ·exact e (hF _ _ hown hm)
  refine⟨h1,h2,.inl ⟨h0,xs,⟨h3.1,?_⟩,H6.mono sub keep _ h4⟩⟩
  rcases h3.2 with h5 | ⟨g,cap,cur,hv,h6,hg,h7⟩
  ·exact .inl h5
  ·refine .inr ⟨g,cap,cur,hv,h6,?_,h7⟩
   have hown:g ∈ own G s (.inr k):=by simp [own,hc,hv,obk]
   rw [fr.block g (h.ownlt hown) (fun hm=>?_)]
   ·exact hg
   ·exact e (hF _ _ hown hm)
 ·have hc':(s.b k).c.isSome=true:=by rw [<-(hs k).1];exact hc
  have hown:(G.bx k) ∈ own G s (.inl k):=by simp [own,hc']
  rcases new _ _ hi with h1 | h1 | h1
  ·exact h.bI k hc' o h1
  ·exact(ht k (hF _ _ hown h1)).2.2.2 o hi
  ·exact absurd h1 (Nat.not_le.2 (h.ownlt hown))
 ·by_cases e: .inr k ∈ tops
  ·exact((htr k e).2.2.2.1 g o hg hi).elim
  rw [hr k e] at hc
  have hown:g ∈ own G s (.inr k):=a3q hc hg
  rcases new _ _ hi with h1 | h1 | h1
  ·exact h.rI k R g hc hg o h1
  ·exact(e (hF _ _ hown h1)).elim
  ·have:=h.ownlt hown;omega
 ·exact⟨fr.os.trans h.fr.os,fr.tape.trans h.fr.tape,fr.output.trans h.fr.output,Nat.le_trans h.fr.size fr.size,fun k hk hm=>(fr.block k (Nat.lt_of_lt_of_le hk h.fr.size) (fun hF'=>by
   rcases hFM k hF' with h1 | h1
   ·omega
   ·exact hm h1)).trans (h.fr.block k hk hm)⟩
 ·rcases new b o hi with h1 | h1 | h1
  ·exact h.ii.2 b o h1
  ·rcases hFM b h1 with h2 | h2
   ·exact .inr (.inr h2)
   ·exact .inr (.inl h2)
  ·exact .inr (.inr (Nat.le_trans h.fr.size h1))
end
end Go.Proofs.YtacnfjjkhpkloaaGreat.Am
namespace Go.Proofs.YtacnfjjkhpkloaaGreat.Am
open Go
theorem OCs.len {I:Nat->Nat->Prop} {w:World}:∀ {cs:List OC} {vs:List Value} {F:List Nat},OCs I w cs vs F->cs.length=vs.length
 | [],vs,F,h=>by simp only [OCs] at h;rw [h.1];rfl
 | c :: cs,vs,F,h=>by
  simp only [OCs] at h
  obtain⟨x,r,F1,F2,rfl,_,h2,_⟩:=h
  simp [OCs.len h2]
theorem OCs.one {I:Nat->Nat->Prop} {w:World}:∀ {cs:List OC} {vs:List Value} {F:List Nat},OCs I w cs vs F->∀ u ∈ vs,u.oneCell'=true
 | [],vs,F,h,u,hu=>by simp only [OCs] at h;rw [h.1] at hu;simp at hu
 | c :: cs,vs,F,h,u,hu=>by
  simp only [OCs] at h
  obtain⟨x,r,F1,F2,rfl,h1,h2,_⟩:=h
  rcases List.mem_cons.1 hu with rfl | hu
  ·exact h1.one
  ·exact OCs.one h2 u hu
theorem a4E {G:Gh}:∀ {xs:List OA} {vs:List Value} {ts:List (Nat ⊕ Nat)},a5O G xs vs ts->M3 xs vs=ts.map (a1M G)
 | [],_,ts,h=>by simp only [a5O] at h;subst h;simp [M3]
 | .bx cs :: xs,vs,ts,h=>by
  simp only [a5O] at h
  obtain⟨v,r,t,tr,rfl,rfl,rfl,h⟩:=h
  simp only [M3,List.map_cons,a4E h]
 | .rx _ _ _ :: xs,vs,ts,h=>by
  simp only [a5O] at h
  obtain⟨v,r,t,tr,rfl,rfl,rfl,h⟩:=h
  simp only [M3,List.map_cons,a4E h]
 | .c x :: xs,vs,ts,h=>by
  simp only [a5O] at h
  obtain⟨v,r,rfl,h⟩:=h
  simp only [M3,a4E h]
 | .agg x :: xs,vs,ts,h=>by
  simp only [a5O] at h
  obtain⟨v,r,rfl,h⟩:=h
  simp only [M3,a4E h]
def a7D (G:Gh):Nat ⊕ Nat->Option Nat
 | .inl t=>some (G.bx t)
 | .inr t=>obk (G.rw t)
def a6O:List (Nat ⊕ Nat)->List OA->Prop
 | [],[]=>True
 | .inl _ :: ids,.bx _ :: css=>a6O ids css
 | .inr _ :: ids,.rx _ e _ :: css=>e < a0S/\a6O ids css
 | _,_=>False
theorem a6g {G:Gh} {s:St} {x:Nat ⊕ Nat} {b:Nat} (h:b ∈ own G s x) (hx:c5D s x):a7D G x=some b:=by
 rcases x with k | k
 ·rw [(b1g.1 h).2];rfl
 ·obtain⟨R,h1,h2⟩:=a5J.1 h
  obtain⟨R',h3,h4⟩:=hx
  rw [h1] at h3;injection h3 with h3;subst h3
  rcases h2 with h2 | ⟨h2,_⟩
  ·exact h2
  ·exact absurd h2 (I8 h4)
theorem a9G {s:St}:∀ {tops:List (Nat ⊕ Nat)} {css:List OA} {K:List Upd->Prop},(b0v tops css).wp s K->a6O tops css
 | [],[],_,_=>trivial
 | .inl id :: ids,.bx cs :: css,K,h=>by
  simp only [b0v,Q.wp] at h
  rw [Q.wp_bind] at h
  show a6O ids css
  exact a9G h
 | .inr id :: ids,.rx _ _ _ :: css,K,h=>by
  simp only [b0v,Q.wp] at h
  have h':=h.2
  rw [Q.wp_bind] at h'
  exact⟨h.1,a9G h'⟩
 | [],_ :: _,_,h=>h.elim
 | .inl _ :: _,[],_,h=>h.elim
 | .inl _ :: _,.c _ :: _,_,h=>h.elim
 | .inl _ :: _,.agg _ :: _,_,h=>h.elim
 | .inl _ :: _,.rx _ _ _ :: _,_,h=>h.elim
 | .inr _ :: _,[],_,h=>h.elim
 | .inr _ :: _,.c _ :: _,_,h=>h.elim
 | .inr _ :: _,.agg _ :: _,_,h=>h.elim
 | .inr _ :: _,.bx _ :: _,_,h=>h.elim
section
variable {W0:World} {M:Own} {G:Gh} {s s' s0:St} {w w':World}
theorem a9H {I:Nat->Nat->Prop} {cs:List OC} {css:List OA} {id:Nat} {ids:List (Nat ⊕ Nat)} {F:List Nat} (h:OAs I w (.bx cs :: css) ((.inl id :: ids).map (a1M G)) F) :
  ∃ cur ty Fs F2,w.heap[G.bx id]?=some (.cells cur ty (0,0))/\OCs I w cs cur.toList Fs/\(∀ o,¬ I (G.bx id) o)/\F=(G.bx id :: Fs) ++ F2/\OAs I w css (ids.map (a1M G)) F2:=by
 simp only [List.map_cons,OAs,OAr,OCr] at h
 obtain⟨x,r,F1,F2,e,⟨g,cur,ty,Fs,e2,h1,h2,rfl,h3⟩,h4,rfl⟩:=h
 injection e with e1 e3
 subst e1;subst e3
 simp only [a1M] at e2
 injection e2 with e2
 injection e2 with e2
 injection e2 with e2 _ _
 subst e2
 exact⟨cur,ty,Fs,F2,h1,h2,h3,rfl,h4⟩
theorem a60 {I:Nat->Nat->Prop} {sz:Nat} {e:TypeId} {es:List (List DV)} {css:List OA} {id:Nat} {ids:List (Nat ⊕ Nat)} {F:List Nat} (h:OAs I w (.rx sz e es :: css) ((.inr id :: ids).map (a1M G)) F) (he:e < a0S) :
  ∃ F2,a0b I w (G.rw id) ⟨es,sz,e,false⟩/\(∀ g o,obk (G.rw id)=some g->¬ I g o)/\F=(obk (G.rw id)).toList ++ F2/\OAs I w css (ids.map (a1M G)) F2:=by
 simp only [List.map_cons,OAs,OAr,OCr] at h
 obtain⟨x,r,F1,F2,e,⟨ex,h1,rfl,h2,_⟩,h4,rfl⟩:=h
 injection e with e1 e3
 subst e1;subst e3
 exact⟨F2,h1,h2,by simp [I8 he,a1M],h4⟩
theorem a6h {I:Nat->Nat->Prop}:∀ {ids:List (Nat ⊕ Nat)} {css:List OA} {F:List Nat},a6O ids css->OAs I w css (ids.map (a1M G)) F->∀ t ∈ ids,∀ b,a7D G t=some b->b ∈ F
 | [],_,_,_,_,t,ht,_,_=>by simp at ht
 | .inl id :: ids,.bx cs :: css,F,hf,h,t,ht,b,hb=>by
  obtain⟨cur,ty,Fs,F2,_,_,_,rfl,h4⟩:=a9H h
  rcases List.mem_cons.1 ht with rfl | ht
  ·simp only [a7D,Option.some.injEq] at hb
   simp [hb]
  ·have hf':a6O ids css:=hf
   have:=a6h hf' h4 t ht b hb
   simp [this]
 | .inr id :: ids,.rx _ _ _ :: css,F,hf,h,t,ht,b,hb=>by
  obtain⟨F2,_,_,rfl,h4⟩:=a60 h hf.1
  rcases List.mem_cons.1 ht with rfl | ht
  ·simp only [a7D] at hb
   simp [hb]
  ·have hf':a6O ids css:=hf.2
   have:=a6h hf' h4 t ht b hb
   simp [this]
 | .inl _ :: _,[],_,hf,_,_,_,_,_=>hf.elim
 | .inl _ :: _,.c _ :: _,_,hf,_,_,_,_,_=>hf.elim
 | .inl _ :: _,.agg _ :: _,_,hf,_,_,_,_,_=>hf.elim
 | .inl _ :: _,.rx _ _ _ :: _,_,hf,_,_,_,_,_=>hf.elim
 | .inr _ :: _,[],_,hf,_,_,_,_,_=>hf.elim
 | .inr _ :: _,.c _ :: _,_,hf,_,_,_,_,_=>hf.elim
 | .inr _ :: _,.agg _ :: _,_,hf,_,_,_,_,_=>hf.elim
 | .inr _ :: _,.bx _ :: _,_,hf,_,_,_,_,_=>hf.elim
def c5G (I:Nat->Nat->Prop) (G:Gh) (w:World) (s s':St) (id:Nat):Prop:=(s'.b id).ver=(s.b id).ver/\(∃ (n:Nat) (cs:List AC) (cur:Array Value) (ty:TypeId),(s'.b id).c=some cs/\w.heap[G.bx id]?=some (.cells cur ty (0,0))/\cs=(List.replicate n ()).map (fun _=> .junk)/\n=cur.toList.length/\∀ u ∈ cur.toList,u.oneCell'=true)/\∀ o,¬ I (G.bx id) o
def c5H (I:Nat->Nat->Prop) (G:Gh) (w:World) (s s':St) (id:Nat):Prop:=(s'.r id).ver=(s.r id).ver/\(∃ R',(s'.r id).c=some R'/\a0b I w (G.rw id) R'/\R'.e < a0S)/\∀ g o,obk (G.rw id)=some g->¬ I g o
structure c96 (I:Nat->Nat->Prop) (G:Gh) (w:World) (s0 s s':St) (tops:List (Nat ⊕ Nat)):Prop where
 n_:s'.n=s.n
 t:s'.t=s.t
 ver:V9 0 s0 s'
 b:∀ id,Sum.inl id ∉ tops->s'.b id=s.b id
 r:∀ id,Sum.inr id ∉ tops->s'.r id=s.r id
 tb:∀ id,Sum.inl id ∈ tops->c5G I G w s s' id
 tr:∀ id,Sum.inr id ∈ tops->c5H I G w s s' id
theorem b1E {I:Nat->Nat->Prop}:∀ {tops:List (Nat ⊕ Nat)} {css:List OA} {s:St} {F:List Nat} {K:List Upd->Prop},(b0v tops css).wp s0 K->V9 0 s0 s->tops.Nodup->OAs I w css (tops.map (a1M G)) F->
  ∃ us,K us/\c96 I G w s0 s (s.app us) tops
 | [],[],s,F,K,hq,hv,_,h=>⟨[],hq,rfl,rfl,hv,fun _ _=>rfl,fun _ _=>rfl,by simp,by simp⟩
 | .inl id :: ids,.bx cs :: css,s,F,K,hq,hv,hn,h=>by
   simp only [b0v,Q.wp] at hq
   rw [Q.wp_bind] at hq
   obtain⟨cur,ty,Fs,F2,h1,h2,h3,rfl,h4⟩:=a9H h
   rw [List.nodup_cons] at hn
   have hver:(s0.b id).ver=(s.b id).ver:=((hv id (Nat.zero_le _)).1).symm
   obtain⟨us,hK,k⟩:=b1E (s:=s.setB id ⟨(s0.b id).ver,some (cs.map fun _=> .junk)⟩) hq (hv.setB (fun _=>hver)) hn.2 h4
   refine⟨_,hK,k.n_,k.t,k.ver,fun j hj=>?_,fun j hj=>?_,fun j hj=>?_,fun j hj=>?_⟩
   ·simp only [St.app,St.app1]
    rw [k.b j (fun h=>hj (List.mem_cons_of_mem _ h))]
    have:j ≠ id:=fun e=>hj (by simp [e])
    simp [St.setB,upd,this]
   ·simp only [St.app,St.app1]
    rw [k.r j (fun h=>hj (List.mem_cons_of_mem _ h))]
    rfl
   ·simp only [St.app,St.app1]
    by_cases e:j=id
    ·subst e
     unfold c5G
     rw [k.b j hn.1]
     simp only [St.setB,upd,if_true]
     refine⟨hver,⟨cs.length,_,cur,ty,rfl,h1,?_,OCs.len h2,OCs.one h2⟩,h3⟩
     rw [List.map_const',List.map_const',List.length_replicate]
    ·have hj':Sum.inl j ∈ ids:=by
      rcases List.mem_cons.1 hj with h | h
      ·injection h with h;exact(e h).elim
      ·exact h
     obtain⟨a1,a2,a3⟩:=k.tb j hj'
     refine⟨a1.trans ?_,a2,a3⟩
     simp [St.setB,upd,e]
   ·simp only [St.app,St.app1]
    have hj':Sum.inr j ∈ ids:=by
     rcases List.mem_cons.1 hj with h | h
     ·cases h
     ·exact h
    obtain⟨a1,a2,a3⟩:=k.tr j hj'
    exact⟨a1.trans rfl,a2,a3⟩
 | .inr id :: ids,.rx sz e es :: css,s,F,K,hq,hv,hn,h=>by
   simp only [b0v,Q.wp] at hq
   obtain⟨hpf,hq⟩:=hq
   rw [Q.wp_bind] at hq
   obtain⟨F2,h1,h2,rfl,h4⟩:=a60 h hpf
   rw [List.nodup_cons] at hn
   have hver:(s0.r id).ver=(s.r id).ver:=((hv id (Nat.zero_le _)).2).symm
   obtain⟨us,hK,k⟩:=b1E (s:=s.setR id ⟨(s0.r id).ver,some ⟨es,sz,e,false⟩⟩) hq (hv.setR (fun _=>hver)) hn.2 h4
   refine⟨_,hK,k.n_,k.t,k.ver,fun j hj=>?_,fun j hj=>?_,fun j hj=>?_,fun j hj=>?_⟩
   ·simp only [St.app,St.app1]
    rw [k.b j (fun h=>hj (List.mem_cons_of_mem _ h))]
    rfl
   ·simp only [St.app,St.app1]
    rw [k.r j (fun h=>hj (List.mem_cons_of_mem _ h))]
    have:j ≠ id:=fun e=>hj (by simp [e])
    simp [St.setR,upd,this]
   ·simp only [St.app,St.app1]
    have hj':Sum.inl j ∈ ids:=by
     rcases List.mem_cons.1 hj with h | h
     ·cases h
     ·exact h
    obtain⟨a1,a2,a3⟩:=k.tb j hj'
    exact⟨a1.trans rfl,a2,a3⟩
   ·simp only [St.app,St.app1]
    by_cases e:j=id
    ·subst e
     unfold c5H
     rw [k.r j hn.1]
     simp only [St.setR,upd,if_true]
     exact⟨hver,⟨_,rfl,h1,hpf⟩,h2⟩
    ·have hj':Sum.inr j ∈ ids:=by
      rcases List.mem_cons.1 hj with h | h
      ·injection h with h;exact(e h).elim
      ·exact h
     obtain⟨a1,a2,a3⟩:=k.tr j hj'
     refine⟨a1.trans ?_,a2,a3⟩
     simp [St.setR,upd,e]
 | [],_ :: _,_,_,_,hq,_,_,_=>hq.elim
 | .inl _ :: _,[],_,_,_,hq,_,_,_=>hq.elim
 | .inl _ :: _,.c _ :: _,_,_,_,hq,_,_,_=>hq.elim
 | .inl _ :: _,.agg _ :: _,_,_,_,hq,_,_,_=>hq.elim
 | .inl _ :: _,.rx _ _ _ :: _,_,_,_,hq,_,_,_=>hq.elim
 | .inr _ :: _,[],_,_,_,hq,_,_,_=>hq.elim
 | .inr _ :: _,.c _ :: _,_,_,_,hq,_,_,_=>hq.elim
 | .inr _ :: _,.agg _ :: _,_,_,_,hq,_,_,_=>hq.elim
 | .inr _ :: _,.bx _ :: _,_,_,_,hq,_,_,_=>hq.elim
def c7U (W0:World) (M:Own) (G:Gh) (s:St) (F:List Nat) (tops:List (Nat ⊕ Nat)):Prop:=∀ b ∈ F,(∀ x,b ∈ own G s x->x ∈ tops)/\(W0.heap.size<=b\/M b)
theorem b62 (w:World) (x:Option Nat):w.grownBy w x:=⟨rfl,rfl,rfl,Nat.le_refl _,fun _ _ _=>rfl⟩
theorem c1q {id:Nat} {ver:Nat} {cs:List AC} (h:(s.b id).c.isSome=true) (x:Nat ⊕ Nat):own G (s.setB id ⟨ver,some cs⟩) x=own G s x:=by
 by_cases e:x= .inl id
 ·subst e;simp [own,St.setB,upd,h]
 ·exact a9F x id _ e
def a9I (s0 s:St):Nat ⊕ Nat->Prop
 | .inl id=>(s.b id).ver=(s0.b id).ver/\(s.b id).c.isSome=true
 | .inr id=>∃ R,(s.r id).c=some R/\R.e < a0S
theorem a9I.rx {s0 s:St} {x:Nat ⊕ Nat} (h:a9I s0 s x):c5D s x:=by
 cases x with
 | inl _=>trivial
 | inr _=>exact h
theorem b1F:∀ {tops:List (Nat ⊕ Nat)} {css:List OA} {n:Nat} {s:St} {G:Gh} {F:List Nat} {K:Mps->Prop},(b39 n tops css).wp s0 K->a6O tops css->Mem W0 M G s w->(∀ x ∈ tops,a9I s0 s x)->V9 n s0 s->OAs G.I w css (tops.map (a1M G)) F->tops.Nodup->F.Nodup->c7U W0 M G s F tops->
  ∃ p G',K p/\Mem W0 M G' (s.app p.us) w/\Ext G s w G' (s.app p.us) w/\G'.I=G.I/\V9 p.m s0 (s.app p.us)/\(∀ x b,b ∈ own G' (s.app p.us) x->b ∈ own G s x\/b ∈ F)/\(s.app p.us).n=s.n/\(s.app p.us).t=s.t
 | [],[],n,s,G,F,K,hq,_,hm,hT,hv,h,_,_,_=>⟨_,G,hq,hm,Ext.refl _ _ _,rfl,hv,fun x b h=> .inl h,rfl,rfl⟩
 | .inr id :: ids,.rx sz e es :: css,n,s,G,F,K,hq,hf,hm,hT,hv,h,hn,hF,hTF=>by
   obtain⟨F2,h1,h2,rfl,h4⟩:=a60 h hf.1
   rw [List.nodup_cons] at hn
   rw [List.nodup_append] at hF
   obtain⟨hF1,hF2,hF3⟩:=hF
   obtain⟨p,G',hK,q1,q2,q3,q4,q5,q6,q7⟩:=b1F (tops:=ids) (css:=css) (show(b39 n ids css).wp s0 K from hq) (show a6O ids css from hf.2) hm (fun x hx=>hT x (by simp [hx])) hv h4 hn.2 hF2 (fun b hb=>by
    refine⟨fun x hx=>?_,(hTF b (by simp [hb])).2⟩
    rcases List.mem_cons.1 ((hTF b (by simp [hb])).1 x hx) with e | e
    ·subst e
     have:=a6g hx (hT _ (by simp)).rx
     simp only [a7D] at this
     exact(hF3 b (by simp [this]) b hb rfl).elim
    ·exact e)
   exact⟨p,G',hK,q1,q2,q3,q4,fun x b hx=>(q5 x b hx).imp (fun h=>h) (fun h=>by simp [h]),q6,q7⟩
 | .inl id :: ids,.bx cs :: css,n,s,G,F,K,hq,hf,hm,hT,hv,h,hn,hF,hTF=>by
   simp only [b39] at hq
   rw [Q.wp_bind] at hq
   obtain⟨cur,ty,Fs,F2,h1,h2,h3,rfl,h4⟩:=a9H h
   rw [List.nodup_cons] at hn
   rw [List.nodup_append] at hF
   obtain⟨hF1,hF2,hF3⟩:=hF
   rw [List.nodup_cons] at hF1
   have hf':a6O ids css:=hf
   have hheads:=a6h hf' h4
   have hfree:b7T W0 M G s Fs:=fun b hb=>by
    refine⟨fun x hx=>?_,(hTF b (by simp [hb])).2⟩
    have ht:=(hTF b (by simp [hb])).1 x hx
    have hbt:=a6g hx (hT x ht).rx
    rcases List.mem_cons.1 ht with rfl | ht
    ·simp only [a7D,Option.some.injEq] at hbt
     exact hF1.1 (hbt ▸ hb)
    ·exact hF3 b (by simp [hb]) b (hheads x ht b hbt) rfl
   obtain⟨k,G1,hq1,j1,j2⟩:=b1B cs hq hm h2 hF1.2 hfree hv
   clear hq
   obtain⟨hreq,hq⟩:=hq1
   simp only [Q.wp] at hq
   rw [Q.wp_bind] at hq
   have hold:∀ j ∈ Sum.inl id :: ids,(s.app k.us).b (tid j)=s.b (tid j)/\G1.bx (tid j)=G.bx (tid j)/\(s.app k.us).r (tid j)=s.r (tid j)/\G1.rw (tid j)=G.rw (tid j):=fun j hj=>by
    obtain⟨a1,a2,a3,a4,_⟩:=j1.old (tid j) (hreq j hj)
    exact⟨a1,a3,a2,a4⟩
   obtain⟨hb1,hg1,_,_⟩:=hold (.inl id) (by simp)
   simp only [tid] at hb1 hg1
   have hT0:=hT (.inl id) (by simp)
   simp only [a9I] at hT0
   have hlive:((s.app k.us).b id).c.isSome=true:=by rw [hb1];exact hT0.2
   obtain⟨cs0,hcs0⟩:=Option.isSome_iff_exists.1 hlive
   have hver:((s.app k.us).b id).ver=(s0.b id).ver:=by rw [hb1];exact hT0.1
   obtain⟨m2,e2⟩:=j1.mem.setBox hcs0 (b62 w _) (by rw [hg1];exact h1) j2
   rw [hver] at m2 e2
   have hmap:ids.map (a1M G1)=ids.map (a1M G):=List.map_congr_left fun j hj=>by
    obtain⟨_,a2,_,a4⟩:=hold j (by simp [hj])
    cases j <;> simp only [a1M,tid] at a2 a4 ⊢
    ·rw [a2]
    ·exact a4
   have hown2:∀ x,own G1 ((s.app k.us).setB id ⟨(s0.b id).ver,some k.acs⟩) x=own G1 (s.app k.us) x:=c1q hlive
   obtain⟨p,G',hK,q1,q2,q3,q4,q5,q6,q7⟩:=b1F hq hf' m2 (fun j hj=>by
    have hjT:=hT j (by simp [hj])
    cases j with
    | inr j=>
     obtain⟨R,h8,h9⟩:=hjT
     refine⟨R,?_,h9⟩
     have:=(hold (.inr j) (by simp [hj])).2.2.1
     simp only [tid] at this
     show((s.app k.us).r j).c=some R
     rw [this];exact h8
    | inl j=>
     have hne:j ≠ id:=fun e=>hn.1 (e ▸ hj)
     simp only [a9I,St.setB,upd,hne,if_false] at hjT ⊢
     have:=(hold (.inl j) (by simp [hj])).1
     simp only [tid] at this
     rw [this]
     exact hjT) (j1.ver.setB (fun _=>hver.symm)) (by rw [hmap,j1.I];exact h4) hn.2 hF2 (fun b hb=>by
    refine⟨fun x hx=>?_,(hTF b (by simp [hb])).2⟩
    rw [hown2] at hx
    rcases j1.own x b hx with h5 | h5
    ·rcases List.mem_cons.1 ((hTF b (by simp [hb])).1 x h5) with ht | ht
     ·exfalso
      subst ht
      have:=a6g h5 (hT _ (by simp)).rx
      simp only [a7D,Option.some.injEq] at this
      exact hF3 b (by simp [this]) b hb rfl
     ·exact ht
    ·exact(hF3 b (by simp [h5]) b hb rfl).elim)
   refine⟨_,G',hK,?_,?_,q3.trans j1.I,?_,fun x b hx=>?_,?_,?_⟩
   ·rw [St.app_append];exact q1
   ·rw [St.app_append];exact(j1.ext.trans e2).trans q2
   ·rw [St.app_append];exact q4
   ·rw [St.app_append] at hx
    rcases q5 x b hx with h5 | h5
    ·rw [hown2] at h5
     rcases j1.own x b h5 with h6 | h6
     ·exact .inl h6
     ·exact .inr (by simp [h6])
    ·exact .inr (by simp [h5])
   ·rw [St.app_append];exact q6.trans j1.n_
   ·rw [St.app_append];exact q7.trans j1.t
 | [],_ :: _,_,_,_,_,_,hq,_,_,_,_,_,_,_,_=>hq.elim
 | .inl _ :: _,[],_,_,_,_,_,hq,_,_,_,_,_,_,_,_=>hq.elim
 | .inl _ :: _,.c _ :: _,_,_,_,_,_,hq,_,_,_,_,_,_,_,_=>hq.elim
 | .inl _ :: _,.agg _ :: _,_,_,_,_,_,hq,_,_,_,_,_,_,_,_=>hq.elim
 | .inl _ :: _,.rx _ _ _ :: _,_,_,_,_,_,hq,_,_,_,_,_,_,_,_=>hq.elim
 | .inr _ :: _,[],_,_,_,_,_,hq,_,_,_,_,_,_,_,_=>hq.elim
 | .inr _ :: _,.c _ :: _,_,_,_,_,_,hq,_,_,_,_,_,_,_,_=>hq.elim
 | .inr _ :: _,.agg _ :: _,_,_,_,_,_,hq,_,_,_,_,_,_,_,_=>hq.elim
 | .inr _ :: _,.bx _ :: _,_,_,_,_,_,hq,_,_,_,_,_,_,_,_=>hq.elim
theorem c5I {c:OA} {n:Nat} {v:Value} {F:List Nat} {K:Mka->Prop} (hq:(mkA n c).wp s0 K) (hm:Mem W0 M G s w) (hc:OAr G.I w c v F) (hn:F.Nodup) (hf:b7T W0 M G s F) (hv:V9 n s0 s) :
  ∃ k G',K k/\c1l W0 M G s0 s w n k.us k.m F G'/\AVr G' (s.app k.us) w k.av v:=by
 cases c with
 | c x=>
  simp only [mkA,Q.wp_bind,Q.wp] at hq
  simp only [OAr] at hc
  obtain⟨k,G',hq,h1,h2⟩:=b5I x hq hm hc hn hf hv
  exact⟨_,G',hq,h1,by simpa only [AVr] using h2⟩
 | agg xs=>
  simp only [mkA,Q.wp_bind,Q.wp] at hq
  simp only [OAr] at hc
  obtain⟨vs,rfl,hc⟩:=hc
  obtain⟨k,G',hq,h1,h2⟩:=b1B xs hq hm hc hn hf hv
  exact⟨_,G',hq,h1,by simp only [AVr];exact⟨vs,rfl,h2⟩⟩
 | bx cs=>
  simp only [mkA,Q.wp_bind,Q.wp] at hq
  simp only [OAr] at hc
  obtain⟨k,G',hq,h1,h2⟩:=b5I (.box cs) hq hm hc hn hf hv
  exact⟨_,G',hq,h1,by simpa only [AVr] using h2⟩
 | rx sz e es=>
  simp only [mkA,Q.wp_bind,Q.wp] at hq
  simp only [OAr] at hc
  obtain⟨k,G',hq,h1,h2⟩:=b5I (.row sz e es) hq hm hc hn hf hv
  exact⟨_,G',hq,h1,by simpa only [AVr] using h2⟩
theorem b1G:∀ (cs:List OA) {n:Nat} {s:St} {G:Gh} {vs:List Value} {F:List Nat} {K:c7T->Prop},(c3E n cs).wp s0 K->Mem W0 M G s w->OAs G.I w cs vs F->F.Nodup->b7T W0 M G s F->V9 n s0 s->
  ∃ k G',K k/\c1l W0 M G s0 s w n k.us k.m F G'/\AVs G' (s.app k.us) w k.avs vs
 | [],n,s,G,vs,F,K,hq,hm,hc,hn,hf,hv=>by
  simp only [OAs] at hc
  obtain⟨rfl,rfl⟩:=hc
  exact⟨_,G,hq,⟨hm,Ext.refl _ _ _,rfl,Nat.le_refl _,hv,fun x b h=> .inl h,rfl,rfl,fun k _=>⟨rfl,rfl,rfl,rfl,rfl⟩⟩,by simp [AVs]⟩
 | c :: cs,n,s,G,vs,F,K,hq,hm,hc,hn,hf,hv=>by
  simp only [OAs] at hc
  obtain⟨x,r,F1,F2,rfl,h1,h2,rfl⟩:=hc
  simp only [c3E,Q.wp_bind] at hq
  rw [List.nodup_append] at hn
  obtain⟨k,G1,hq,j1,j2⟩:=c5I hq hm h1 hn.1 (fun b hb=>hf b (by simp [hb])) hv
  have hf2:b7T W0 M G1 (s.app k.us) F2:=b7T.after (F1:=F1) (fun b hb=>hf b (by simp [hb])) (fun b hb1 hb2=>hn.2.2 b hb1 b hb2 rfl) j1
  obtain⟨ks,G2,hq,j3,j4⟩:=b1G cs hq j1.mem (by rw [j1.I];exact h2) hn.2.1 hf2 j1.ver
  refine⟨_,G2,hq,j1.trans j3,?_⟩
  rw [St.app_append]
  simp only [AVs]
  exact⟨x,r,rfl,j3.ext.av _ j2,j4⟩
theorem AVs.len:∀ {xs:List AV} {vs:List Value},AVs G s w xs vs->xs.length=vs.length
 | [],vs,h=>by simp only [AVs] at h;subst h;rfl
 | x :: xs,vs,h=>by
  simp only [AVs] at h
  obtain⟨v,r,rfl,_,h⟩:=h
  simp [AVs.len h]
theorem c2P {xs:List AV} {vs:List Value} (h:AVs G s w xs vs):AVr G s w (c4Z xs) (c2O vs):=by
 match xs,vs,h.len,h with
 | [],[],_,h=>simp only [c4Z,c2O,AVr];exact⟨_,rfl,h⟩
 | [x],[v],_,h=>
  simp only [AVs] at h
  obtain⟨v',r,e,h1,h2⟩:=h
  injection e with e1 _
  subst e1
  exact h1
 | x :: y :: xs,v :: u :: vs,_,h=>simp only [c4Z,c2O,AVr];exact⟨_,rfl,h⟩
end
end Go.Proofs.YtacnfjjkhpkloaaGreat.Am
namespace Go.Proofs.YtacnfjjkhpkloaaGreat.Am
open Go
theorem Frz.own {G G':Gh} {s s':St} (h:Frz s s') (hb:G'.bx=G.bx) (hr:G'.rw=G.rw) (hx:G'.ex=G.ex) (x:Nat ⊕ Nat):own G' s' x=own G s x:=by
 rcases x with k | k
 ·simp only [Am.own,h.2.2.1,hb]
 ·have h1:=h.2.2.2 k
  cases hc:(s.r k).c with
  | none=>simp only [Am.own,h1.2.1 hc,hc]
  | some R=>obtain⟨fr,h2,_⟩:=h1.2.2 R hc;simp only [Am.own,h2,hc,hr,hx]
theorem b8F {W0:World} {M:Own} {G:Gh} {s:St} {w:World} (h:Mem W0 M G s w) (x:Nat ⊕ Nat):(own G s x).Nodup:=by
 rcases x with k | k
 ·simp only [own];split <;> simp
 ·simp only [own]
  split
  ·rename_i R hR
   by_cases he:a0L R.e
   ·obtain⟨⟨g,es,c,h1,_,_,h2,_⟩,_⟩:=h.sx k R hR he
    simp only [he,if_true,h1,obk]
    exact h2
   ·simp only [he,if_false,List.append_nil]
    cases obk (G.rw k) <;> simp
  ·exact List.nodup_nil
theorem b0S {W0:World} {M:Own} {G:Gh} {s:St} {w:World} {foot:List (Nat ⊕ Nat)} (hn:foot.Nodup) (h:Mem W0 M G s w):(foot.flatMap (own G s)).Nodup:=by
 induction foot with
 | nil=>exact List.nodup_nil
 | cons x foot ih=>
  rw [List.nodup_cons] at hn
  rw [List.flatMap_cons,List.nodup_append]
  refine⟨b8F h x,ih hn.2,fun b hb b' hb' e=>?_⟩
  subst e
  obtain⟨y,hy,hyb⟩:=List.mem_flatMap.1 hb'
  have:=h.dj x y b hb hyb
  subst this
  exact hn.1 hy
section
variable {P:Program} {o:Oper}
theorem b5L {cap:Array Value} {a:Act} {w:World} {c:Call} {f:FuncId} {S:a6y} (ho:o.op= .call c) (hc:a.eval (match c.callee with | .value x=>x | _=> .const .nilFunc)= .func (.func f) #[] cap) (hv:∃ x,c.callee= .value x) (hf:c1p P f S) :
  (execOp a.eval o).run P w= .ok (.enter f (c.args.map a.eval ++ cap)) w:=by
 obtain⟨x,hx⟩:=hv
 obtain⟨fn,h1,h2,h3⟩:=hf.isf
 rw [hx] at hc
 simp only at hc
 have hb:fn.body.isNone=false:=by cases hfb:fn.body with
  | none=>rw [hfb] at h2;cases h2
  | some b=>rfl
 have hcf:∀ args,(callFunc f args).run P w= .ok (.enter f args) w:=fun args=>by
  have h4:¬ fn.name= "runtime.NumGoroutine" :=by simpa using h3
  have h5:¬ fn.body=none:=by intro e;rw [e] at h2;cases h2
  unfold callFunc
  simp [h1,h4,h5]
 unfold execOp
 rw [ho]
 simp only [resolve,hx,hc,Deferred.ofValue]
 simp [invoke,hcf]
theorem AVs.app {G:Gh} {s:St} {w:World}:∀ {xs ys:List AV} {us vs:List Value},AVs G s w xs us->AVs G s w ys vs->AVs G s w (xs ++ ys) (us ++ vs)
 | [],_,us,_,h,k=>by simp only [AVs] at h;subst h;exact k
 | x :: xs,ys,us,vs,h,k=>by
  simp only [AVs] at h
  obtain⟨v,r,rfl,h1,h2⟩:=h
  simp only [List.cons_append,AVs]
  exact⟨v,r ++ vs,rfl,h1,AVs.app h2 k⟩
theorem b63 {G:Gh} {c:Call} {x:Operand} {cap:Array Value} {ex:List AV} {f:FuncId} {S:a6y} {W0:World} {M:Own} {s:St} {a:Act} {w:World} {K:List Upd->Prop} {Q':Exit->Act->World->Prop} (ho:o.op= .call c) (hcx:c.callee= .value x) (hc:a.eval x= .func (.func f) #[] cap) (hf:c1p P f S)
  (hd:∀ d,o.dst=some d->d < s.n) (h:Rel W0 M G s a w) (hex:AVs G s w ex cap.toList) (hq:(b8E S o c ex).wp s K):o.wp P a w (fun a' w'=>∃ us,K us/\a6U W0 M (s.app us) a' w') Q':=by
 have hal:(c.args.map a.eval ++ cap).toList=c.args.toList.map a.eval ++ cap.toList:=by rw [Array.toList_append,Array.toList_map]
 unfold b8E at hq
 rw [Q.wp_bind] at hq
 obtain⟨xs,hq1,hxs⟩:=b5u h hq
 clear hq
 rw [Q.wp_bind] at hq1
 obtain⟨k,foot,hq2,T⟩:=a9E h.mem _ (hxs.app hex) hq1
 clear hq1
 obtain⟨⟨hnd,hfz,hpre⟩,hq3⟩:=hq2
 have hrun:=b5L (w:=w) (a:=a) ho (by rw [hcx];exact hc) ⟨_,hcx⟩ hf
 cases hfl:S.flat && k.tops.isEmpty && k.ids.isEmpty with
 | true=>
  rw [hfl] at hq3
  obtain⟨⟨_,hres0⟩,hq3⟩:=hq3
  rw [Q.wp_bind] at hq3
  obtain⟨us1,G1,hq4,m1,e1,hfd,_⟩:=a3L s hq3 h.mem (Frz.refl s)
  rw [Q.wp_bind] at hq4
  rw [Bool.and_eq_true,Bool.and_eq_true,List.isEmpty_iff,List.isEmpty_iff] at hfl
  have hfoot0:foot=[]:=List.eq_nil_iff_forall_not_mem.2 fun x hx=>by
   have:=(T.mem x).1 hx
   rw [hfl.1.2,hfl.2] at this
   rcases this with h | h <;> cases h
  have hoas:=T.oas G1.I ⟨e1.I,hfd,fun x hx=>by rw [hfoot0] at hx;cases hx⟩
  rw [hfoot0] at hoas
  have hcalls:=hf.calls w G1.I [] (c.args.map a.eval ++ cap) k.xs m1.In m1.gl (by rw [hal];exact hoas) List.nodup_nil hpre
  unfold Oper.wp
  rw [hrun]
  refine Calls.mono hcalls fun e w' he=>?_
  match e,he with
  | .panicked _,he=>exact he.elim
  | .outgrown,he=>exact he.elim
  | .returned v,⟨I',vs,Fp,Fr',hve,R⟩=>
  subst hve
  show ∃ us,K us/\a6U W0 M (s.app us) (a.put o.dst (c2O vs)) w'
  have hg:w.grownBy w' none:=⟨R.fr.os,R.fr.tape,R.fr.output,R.fr.size,fun b hb _=>R.fr.block b hb (by simp)⟩
  obtain⟨m2,e2⟩:=h.mem.grow hg
  obtain⟨r,G5,hq8,m5,hav⟩:=b1G (s0:=s) _ hq4 m2 (b8D hres0 R.res) List.nodup_nil (fun b hb=>by cases hb) (fun _ _=>⟨rfl,rfl⟩)
  refine⟨_,hq8,?_⟩
  rw [St.app_append]
  have hrel:=h.mem' (e2.trans m5.ext) m5.mem m5.n_ m5.t
  exact hrel.putOne (fun d e=>by rw [m5.n_];exact hd d e) (c2P hav)
 | false=>
 rw [hfl] at hq3
 simp only at hq3
 rw [Q.wp_bind] at hq3
 obtain⟨us1,G1,hq4,m1,e1,hfd,hfrz,hbx,hrw,hfr,hexq⟩:=a3L s hq3 h.mem (Frz.refl s)
 clear hq3
 rw [Q.wp_bind] at hq4
 have hv1:V9 0 s (s.app us1):=fun k _=>⟨by rw [hfrz.2.2.1],(hfrz.2.2.2 k).1⟩
 obtain⟨us2,hq5,m2,e2,hv2,D⟩:=b1D hq4 m1 hv1
 clear hq4
 rw [Q.wp_bind] at hq5
 have hown1:∀ x,own G1 (s.app us1) x=own G s x:=fun x=>hfrz.own hbx hrw hexq x
 have hless:∀ x b,b ∈ own G1 ((s.app us1).app us2) x->b ∈ own G s x:=fun x b hx=>by rw [<-hown1];exact D.less x b hx
 have hfoot:=T.nodup hnd
 rw [List.nodup_append] at hnd
 obtain⟨hnd1,hnd2,hnd3⟩:=hnd
 have hfixed:b1C G s w G1.I k.fz foot:=by
  refine⟨e1.I,hfd,fun x hx g hg o' hi=>?_⟩
  have hg1:g ∈ own G1 (s.app us1) x:=by rw [hown1];exact hg
  rcases x with id | id
  ·obtain⟨hs,rfl⟩:=b1g.1 hg1
   exact m1.bI id hs o' hi
  ·obtain⟨R,hRs,hRf⟩:=T.live _ hx
   obtain⟨fr,hR1,_⟩:=(hfrz.2.2.2 id).2.2 R hRs
   obtain⟨R2,hR2,hg2⟩:=a5J.1 hg1
   rw [hR1] at hR2;injection hR2 with hR2;subst hR2
   rcases hg2 with hg1 | ⟨he2,hg2⟩
   rotate_left
   ·exact(m1.sx id _ hR1 he2).2 g hg2 o' hi
   have hfr1:=(m1.rI id _ g hR1 hg1 o' hi).1
   rcases hfr id _ hR1 hfr1 with⟨R',r1,r2⟩ | r1
   ·rw [hRs] at r1;injection r1 with r1;subst r1;rw [hRf] at r2;cases r2
   ·exact hfz id r1 (List.mem_append.2 ((T.mem _).1 hx))
 have hoas:=T.oas G1.I hfixed
 have hFn:=b0S hfoot h.mem
 have hFmem:∀ b,b ∈ foot.flatMap (own G s)->∃ x ∈ foot,b ∈ own G s x:=fun b hb=>by simpa [List.mem_flatMap] using hb
 have hFM:∀ b ∈ foot.flatMap (own G s),W0.heap.size<=b\/M b:=fun b hb=>by
  obtain⟨x,_,hx⟩:=hFmem b hb
  exact h.mem.oM x b hx
 have hF2:∀ x b,b ∈ own G1 ((s.app us1).app us2) x->b ∈ foot.flatMap (own G s)->x ∈ k.tops:=fun x b hx hb=>by
  obtain⟨y,hy,hyb⟩:=hFmem b hb
  have hxy:=h.mem.dj x y b (hless x b hx) hyb
  subst hxy
  rcases(T.mem x).1 hy with h5 | h5
  ·exact h5
  ·rw [D.gone x h5] at hx;cases hx
 have hcalls:=hf.calls w G1.I (foot.flatMap (own G s)) (c.args.map a.eval ++ cap) k.xs m1.In m1.gl (by rw [hal];exact hoas) hFn hpre
 unfold Oper.wp
 rw [hrun]
 refine Calls.mono hcalls fun e w' he=>?_
 match e,he with
 | .panicked _,he=>exact he.elim
 | .outgrown,he=>exact he.elim
 | .returned v,⟨I',vs,Fp,Fr',hve,R⟩=>
 subst hve
 show ∃ us,K us/\a6U W0 M (s.app us) (a.put o.dst (c2O vs)) w'
 have hpost:=R.post
 rw [hal] at hpost
 rw [a4E T.tops] at hpost
 have hfit:=a9G hq5
 obtain⟨us3,hq6,J⟩:=b1E (G:=G) hq5 hv2 hnd1 hpost
 clear hq5
 rw [Q.wp_bind] at hq6
 have hbxe:∀ id,G1.bx id=G.bx id:=fun id=>by rw [hbx]
 have hrwe:∀ id,G1.rw id=G.rw id:=fun id=>by rw [hrw]
 have hni:∀ x ∈ k.tops,x ∉ k.ids:=fun x hx h5=>hnd3 x hx _ h5 rfl
 have hlv:∀ x ∈ k.tops,live s x:=fun x hx=>T.live x ((T.mem _).2 (.inl hx))
 have hlr:∀ id,Sum.inr id ∈ k.tops->(((s.app us1).app us2).r id).c.isSome=true:=fun id hid=>by
  obtain⟨R0,hR0,_⟩:=hlv _ hid
  obtain⟨fr,hR1,_⟩:=(hfrz.2.2.2 id).2.2 R0 hR0
  rw [D.r id (hni _ hid),hR1];rfl
 obtain⟨m3,e3⟩:=m2.call (s':=((s.app us1).app us2).app us3) (F:=foot.flatMap (own G s)) (I':=I') (tops:=k.tops) J.r J.b (fun id hid=>by
  obtain⟨a1,a2,a3⟩:=J.tr id hid
  obtain⟨R0,hR0,hE0⟩:=T.rx _ hid
  obtain⟨fr,hR1,_⟩:=(hfrz.2.2.2 id).2.2 R0 hR0
  exact⟨hlr id hid,a1,by rw [hrwe];exact a2,by rw [hrwe];exact a3,⟨R0.es,R0.sz,R0.e,fr⟩,by rw [D.r id (hni _ hid)];exact hR1,hE0⟩) (fun id hid=>by
  have hl:=hlv _ hid
  obtain⟨a1,a2,a3⟩:=J.tb id hid
  refine⟨?_,a1,by rw [hbxe];exact a2,by rw [hbxe];exact a3⟩
  rw [D.b id (hni _ hid),hfrz.2.2.1]
  exact hl) hF2 hFM R.fr R.sub R.keep R.new R.lt
 have hown3:∀ x b,b ∈ own ⟨I',G1.bx,G1.rw,G1.st,G1.ex⟩ (((s.app us1).app us2).app us3) x->b ∈ own G1 ((s.app us1).app us2) x:=fun x b hx=>by
  rcases x with id | id
  ·by_cases hid:Sum.inl id ∈ k.tops
   ·have hl:=hlv _ hid
    simp only [live] at hl
    have:(((s.app us1).app us2).b id).c.isSome=true:=by rw [D.b id (hni _ hid),hfrz.2.2.1];exact hl
    obtain⟨_,⟨n,cs,cur,ty,h3,_⟩,_⟩:=J.tb id hid
    simp only [own,h3,this] at hx ⊢
    exact hx
   ·simp only [own,J.b id hid] at hx ⊢
    exact hx
  ·by_cases hid:Sum.inr id ∈ k.tops
   ·obtain⟨R0,hR0,hE0⟩:=T.rx _ hid
    obtain⟨fr,hR1,_⟩:=(hfrz.2.2.2 id).2.2 R0 hR0
    obtain⟨_,⟨R',h3,_,h9⟩,_⟩:=J.tr id hid
    obtain⟨R2,h10,h11⟩:=a5J.1 hx
    rw [h3] at h10;injection h10 with h10;subst h10
    rcases h11 with h11 | ⟨h11,_⟩
    ·exact a3q (by rw [D.r id (hni _ hid)];exact hR1) h11
    ·exact absurd h11 (I8 h9)
   ·simp only [own,J.r id hid] at hx ⊢
    exact hx
 have hnodup:=R.nodup
 rw [List.nodup_append] at hnodup
 have hTF:∀ b ∈ Fp ++ Fr',(∀ x,b ∈ own ⟨I',G1.bx,G1.rw,G1.st,G1.ex⟩ (((s.app us1).app us2).app us3) x->x ∈ k.tops)/\(W0.heap.size<=b\/M b):=fun b hb=>by
  rcases R.own b hb with h5 | h5
  ·exact⟨fun x hx=>hF2 x b (hown3 x b hx) h5,hFM b h5⟩
  ·exact⟨fun x hx=>by have:=m2.ownlt (hown3 x b hx);omega,.inl (Nat.le_trans h.mem.fr.size h5)⟩
 have hmap:k.tops.map (a1M ⟨I',G1.bx,G1.rw,G1.st,G1.ex⟩)=k.tops.map (a1M G):=List.map_congr_left fun j _=>by cases j <;> simp only [a1M,hbxe,hrwe]
 obtain⟨p,G4,hq7,m4,e4,hI4,hv4,hown4,hn4,ht4⟩:=b1F hq6 hfit m3 (fun x hid=>by
  cases x with
  | inr id=>
   obtain⟨_,⟨R',h3,_,h5⟩,_⟩:=J.tr id hid
   exact⟨R',h3,h5⟩
  | inl id=>
   refine⟨(J.ver id (Nat.zero_le _)).1,?_⟩
   obtain⟨_,⟨n,cs,cur,ty,h3,_⟩,_⟩:=J.tb id hid
   rw [h3];rfl) (J.ver.le (Nat.zero_le _)) (by rw [hmap];exact hpost) hnd1 hnodup.1 (fun b hb=>hTF b (by simp [hb]))
 clear hq6
 rw [Q.wp_bind] at hq7
 obtain⟨r,G5,hq8,m5,hav⟩:=b1G _ hq7 m4 (by rw [hI4];exact R.res) hnodup.2.1 (fun b hb=>by
  refine⟨fun x hx=>?_,(hTF b (by simp [hb])).2⟩
  rcases hown4 x b hx with h5 | h5
  ·have ht:=(hTF b (by simp [hb])).1 x h5
   have hbt:a7D G x=some b:=by
    have:=a6g h5 (by
     cases x with
     | inl _=>trivial
     | inr id=>
      obtain⟨_,⟨R',h3,_,h5⟩,_⟩:=J.tr id ht
      exact⟨R',h3,h5⟩)
    cases x <;> simp only [a7D,hbxe,hrwe] at this ⊢ <;> exact this
   exact hnodup.2.2 b (a6h hfit hpost x ht b hbt) b hb rfl
  ·exact hnodup.2.2 b h5 b hb rfl) hv4
 clear hq7
 refine⟨_,hq8,?_⟩
 rw [St.app_append,St.app_append,St.app_append,St.app_append,St.app_append]
 have E:=(((e1.trans e2).trans e3).trans e4).trans m5.ext
 have hn5:(((((s.app us1).app us2).app us3).app p.us).app r.us).n=s.n:=(m5.n_.trans hn4).trans ((J.n_.trans D.n_).trans hfrz.1)
 have ht5:(((((s.app us1).app us2).app us3).app p.us).app r.us).t=s.t:=(m5.t.trans ht4).trans ((J.t.trans D.t).trans hfrz.2.1)
 have hrel:=h.mem' E m5.mem hn5 ht5
 exact hrel.putOne (fun d e=>by rw [hn5];exact hd d e) (c2P hav)
end
end Go.Proofs.YtacnfjjkhpkloaaGreat.Am
namespace Go.Proofs.YtacnfjjkhpkloaaGreat.Am
open Go
theorem a4F {α:Type} {xs:Array α} {x:α} (h:xs.toList=[x]):xs= #[x]:=by
 cases xs;simp only at h;subst h;rfl
def c2Q:List DV->Int
 | .v (.int _ n) :: _=>n
 | _=>0
def c2R:List DV->List UInt8
 | .v (.string b) :: _=>b.data.toList
 | _=>[]
def c5L (es:List (List DV)):Prop:=(∀ c ∈ es,∃ n r,c= .v (.int .i64 n) :: r)/\(es.map c2Q).Nodup/\(∀ x ∈ es.map c2Q,(Lit.int .i64 x).wf=true)/\es.length<=maxLen/\es.length * 8<=140737488355328
def c5M (es:List (List DV)):Prop:=(∀ c ∈ es,∃ l r,c= .v (c1o l) :: r)/\(es.map c2R).Nodup/\(∀ x ∈ es.map c2R,x.length<=maxLen)/\es.length<=maxLen/\es.length * 16<=140737488355328
def sortI (es:List (List DV)):List (List DV):=((es.map c2Q).mergeSort fun x y=>decide (x<=y)).map fun x=>[.v (.int .i64 x)]
def sortS (es:List (List DV)):List (List DV):=((es.map c2R).mergeSort fun x y=>decide (x<=y)).map fun x=>[.v (c1o x)]
def c3I (f1:FuncId) (o:Oper):List AV->Q (List Upd)
 | [.c (.row id ver)]=>(Q.ofOpt o.dst).bind fun d=> .rdR id fun r=>match r.c with
  | some R=> .req (ver=r.ver/\a0S<=R.e/\R.e ≠ a4A/\¬ a0L R.e) (.rdB d fun b=> .ret [.b d ⟨b.ver + 1,some [.row id ver]⟩,.t d ⟨true,.clo f1 d (b.ver + 1)⟩])
  | none=> .fail
 | _=> .fail
def b8I (f1:FuncId) (e:TypeId) (good:List (List DV)->Prop) (srt:List (List DV)->List (List DV)) (o:Oper):List AV->Q (List Upd)
 | [.clo f id ver]=>(Q.ofOpt o.dst).bind fun d=> .rdB id fun b=>match b.c with
  | some [.row rid rver]=> .rdR rid fun r=>match r.c with
   | some R=> .req (f=f1/\ver=b.ver/\rver=r.ver/\a0S<=R.e/\(R.e ≠ a4A/\¬ a0L R.e)/\mKs R.e=1/\mKa R.e=false/\e < a0S/\good R.es) (.rdR d fun rd=> .ret [.r d ⟨rd.ver + 1,some ⟨srt R.es,1,e,false⟩⟩,.t d ⟨true,.c (.row d (rd.ver + 1))⟩])
   | none=> .fail
  | _=> .fail
 | _=> .fail
def spQ (sp:Sp) (o:Oper) (c:Call):Q (List Upd):=(evs c.args.toList).bind fun xs=>match sp with
 | .none=> .fail
 | .keys f1=>c3I f1 o xs
 | .sortI f1 e=>b8I f1 e c5L sortI o xs
 | .sortS f1 e=>b8I f1 e c5M sortS o xs
section
variable {P:Program} {W0:World} {M:Own} {G:Gh} {s:St} {a:Act} {w:World} {o:Oper} {K:List Upd->Prop} {Q':Exit->Act->World->Prop}
theorem c2S {I:Nat->Nat->Prop} {e:Nat} (h1:mKs e=1) (h2:mKa e=false):∀ {es:List (List DV)} {ms:List MapEntry},MEs I w e es ms->(∀ c ∈ es,∃ n r,c= .v (.int .i64 n) :: r)->ms.map (·.key)=(es.map c2Q).map (Value.int .i64)
 | [],ms,h,_=>by simp only [MEs] at h;subst h;rfl
 | c :: es,ms,h,hk=>by
  simp only [MEs] at h
  obtain⟨m,r,rfl,hm,hr⟩:=h
  obtain⟨n,q,hc⟩:=hk c (by simp)
  have:=(b8p (k:= .int .i64) h1 h2 hm ⟨_,q,hc,rfl⟩).1
  rw [List.map_cons,List.map_cons,List.map_cons,c2S h1 h2 hr (fun c hc=>hk c (by simp [hc])),this,hc]
  rfl
theorem c2T {I:Nat->Nat->Prop} {e:Nat} (h1:mKs e=1) (h2:mKa e=false):∀ {es:List (List DV)} {ms:List MapEntry},MEs I w e es ms->(∀ c ∈ es,∃ l r,c= .v (c1o l) :: r)->ms.map (·.key)=(es.map c2R).map c1o
 | [],ms,h,_=>by simp only [MEs] at h;subst h;rfl
 | c :: es,ms,h,hk=>by
  simp only [MEs] at h
  obtain⟨m,r,rfl,hm,hr⟩:=h
  obtain⟨n,q,hc⟩:=hk c (by simp)
  have:=(b8p (k:= .str) h1 h2 hm ⟨_,q,hc,trivial⟩).1
  rw [List.map_cons,List.map_cons,List.map_cons,c2T h1 h2 hr (fun c hc=>hk c (by simp [hc])),this,hc]
  rfl
theorem a9J {c:Call} {x:Operand} {f:FuncId} {S:a6y} (ho:o.op= .call c) (hcx:c.callee= .value x) (hc:a.eval x= .func (.func f) #[] #[]) (hf:c1p P f S) {post:Ending->World->Prop}
  (hcalls:Calls P f (c.args.map a.eval) w post) (hk:∀ e w',post e w'->∃ v,e= .returned v/\∃ us,K us/\a6U W0 M (s.app us) (a.put o.dst v) w'):a3M P W0 M s o a w K Q':=by
 have hrun:=b5L (w:=w) (a:=a) ho (by rw [hcx];exact hc) ⟨_,hcx⟩ hf
 unfold a3M Oper.wp
 rw [hrun]
 refine Calls.mono hcalls fun e w' he=>?_
 obtain⟨v,rfl,h⟩:=hk e w' he
 exact h
theorem b22 {c:Call} {x:Operand} {f f1:FuncId} {S:a6y} {e:TypeId} {good:List (List DV)->Prop} {srt:List (List DV)->List (List DV)} (ho:o.op= .call c) (hcx:c.callee= .value x) (hc:a.eval x= .func (.func f) #[] #[]) (hf:c1p P f S)
  (hsort:∀ (w:World) (I:Nat->Nat->Prop) (b g:Nat) (ty:TypeId) (en:Array MapEntry) (clock:Nat) (me:Nat) (es:List (List DV)),w.heap[b]?=some (.cells #[.map (some g)] ty (0,0))->w.heap[g]?=some (.map en clock)->a8c en.toList clock->
   mKs me=1->mKa me=false->MEs I w me es en.toList->good es->Calls P f #[b3T f1 b] w fun o w'=>∃ v ks,o= .returned v/\w'.ownsRow w.heap.size e 1 v (srt es).length ks/\(∀ I' w'',H6 I' w'' (srt es) ks)/\(∀ c ∈ srt es,c.length=1)/\RowKit.Below w.heap.size w w')
  (hd:∀ d,o.dst=some d->d < s.n) (_hR:a6U W0 M s a w) {xs:List AV} {vs:List Value} (hargs:(c.args.map a.eval).toList=vs) (hxs:AVs G s w xs vs) (h:Rel W0 M G s a w) (hq:(b8I f1 e good srt o xs).wp s K):a3M P W0 M s o a w K Q':=by
 unfold b8I at hq
 split at hq
 ·rename_i f' id ver
  rw [Q.wp_bind] at hq
  obtain⟨d,hdd,hq1⟩:=J7 hq
  clear hq
  simp only [Q.wp] at hq1
  split at hq1
  ·rename_i rid rver hb
   simp only [Q.wp] at hq1
   split at hq1
   ·rename_i R hRr
    obtain⟨⟨rfl,hver,hrver,hE,hEi,hm1,hm2,heF,hgood⟩,hq2⟩:=hq1
    simp only [Q.wp] at hq2
    simp only [AVs,AVr] at hxs
    obtain⟨v,r,rfl,⟨_,hclo⟩,rfl⟩:=hxs
    obtain rfl:=hclo hver (by rw [hb];rfl)
    obtain⟨cur,ty,hbx,hac⟩:=h.mem.bx id _ hb
    simp only [ACs,ACr] at hac
    obtain⟨u,r,hcur,⟨_,_,hrow⟩,rfl⟩:=hac
    have hu:=hrow hrver (by rw [hRr];rfl)
    obtain⟨g,en,clock,hrw,hg,hme,hborn,hsz,hlen⟩:=h.mem.map_at hRr hE hEi
    have hcur':cur= #[.map (some g)]:=by rw [<-hrw,<-hu];exact a4F hcur
    subst hcur'
    have hargs':c.args.map a.eval= #[b3T f' (G.bx id)]:=a4F hargs
    refine a9J ho hcx hc hf (by rw [hargs'];exact hsort w G.I (G.bx id) g ty en clock R.e R.es hbx hg hborn hm1 hm2 hme hgood) ?_
    rintro ex w' ⟨v,ks,rfl,hown,hdv,h1,hB⟩
    refine⟨v,rfl,_,hq2,?_⟩
    have hgr:w.grownBy w' none:=⟨hB.os,hB.tape,hB.output,hB.size,fun k hk _=>hB.block k hk⟩
    obtain⟨m1,e1⟩:=h.mem.grow hgr
    have hbk:∀ b,obk v=some b->w.heap.size<=b:=fun b hb'=>by
     rcases hown.2 with⟨rfl,_⟩ | ⟨g',cap,cur',rfl,hle,_⟩
     ·cases hb'
     ·injection hb' with hb';subst hb';exact hle
    have hown0:w'.ownsRow 0 e 1 v (srt R.es).length ks:=by
     refine⟨hown.1,?_⟩
     rcases hown.2 with hn | ⟨g',cap,cur',hv,_,rest⟩
     ·exact .inl hn
     ·exact .inr ⟨g',cap,cur',hv,Nat.zero_le _,rest⟩
    have hrowok:a0b G.I w' v ⟨srt R.es,1,e,false⟩:=⟨Nat.one_pos,h1,.inl ⟨heF,ks,hown0,hdv _ _⟩⟩
    obtain⟨m2,e2⟩:=m1.addRow d ((s.r d).ver + 1) v ⟨srt R.es,1,e,false⟩ (Nat.lt_succ_self _) hrowok (fun x b hv hx=>by have:=h.mem.ownlt hx;have:=hbk b hv;omega) (fun g hv o hi=>by have:=h.mem.In _ _ hi;have:=hbk g hv;omega) (fun g hv=> .inl (Nat.le_trans h.mem.fr.size (hbk g hv)))
    have h2:=h.mem' (e1.trans e2) m2 rfl rfl
    rw [hdd]
    refine⟨_,h2.put (show d < (s.setR d _).n from hd d hdd) ⟨fun _=>?_,fun e=>by cases e⟩⟩
    simp only [AVr,ACr,St.setR,upd,if_true]
    exact⟨hrowok.one,Nat.le_refl _,fun _ _=>trivial⟩
   ·exact hq1.elim
  ·exact hq1.elim
 ·exact hq.elim
theorem c2U (I:Nat->Nat->Prop) (w:World):∀ ks:List Int,H6 I w (ks.map fun x=>[DV.v (.int .i64 x)]) (ks.map (Value.int .i64))
 | []=>by simp [H6]
 | k :: ks=>by
  simp only [List.map_cons,H6,J4,DVr]
  exact⟨[_],_,rfl,⟨_,[],rfl,⟨rfl,rfl⟩,rfl⟩,c2U I w ks⟩
theorem c2V (I:Nat->Nat->Prop) (w:World):∀ ks:List (List UInt8),H6 I w (ks.map fun x=>[DV.v (c1o x)]) (ks.map c1o)
 | []=>by simp [H6]
 | k :: ks=>by
  simp only [List.map_cons,H6,J4,DVr]
  exact⟨[_],_,rfl,⟨_,[],rfl,⟨rfl,rfl⟩,rfl⟩,c2V I w ks⟩
theorem c3J {c:Call} {x:Operand} {f:FuncId} {S:a6y} {sp:Sp} (ho:o.op= .call c) (hcx:c.callee= .value x) (hc:a.eval x= .func (.func f) #[] #[]) (hf:c1p P f S) (hsp:S.sp=sp)
  (hd:∀ d,o.dst=some d->d < s.n) (hR:a6U W0 M s a w) (hq:(spQ sp o c).wp s K):a3M P W0 M s o a w K Q':=by
 obtain⟨G,h⟩:=hR
 unfold spQ at hq
 rw [Q.wp_bind] at hq
 obtain⟨xs,hq1,hxs⟩:=b5u h hq
 clear hq
 revert hq1
 intro hq
 have hargs:(c.args.map a.eval).toList=c.args.toList.map a.eval:=by rw [Array.toList_map]
 have hok:=hf.sp
 rw [hsp] at hok
 cases sp with
 | none=>exact hq.elim
 | keys f1=>
  obtain⟨tm,hok⟩:=hok
  simp only at hq
  unfold c3I at hq
  split at hq
  ·rename_i id ver
   rw [Q.wp_bind] at hq
   obtain⟨d,hdd,hq1⟩:=J7 hq
   clear hq
   simp only [Q.wp] at hq1
   split at hq1
   ·rename_i R hRr
    obtain⟨⟨hver,hE,hEi⟩,hq2⟩:=hq1
    simp only [Q.wp] at hq2
    have hxs0:=hxs
    simp only [AVs,AVr,ACr] at hxs
    obtain⟨v,r,hv,⟨hone,hle,hrow⟩,rfl⟩:=hxs
    have hu:=hrow hver (by rw [hRr];rfl)
    obtain⟨g,en,clock,hrw,_⟩:=h.mem.map_at hRr hE hEi
    rw [hrw] at hu
    subst hu
    have hargs':c.args.map a.eval= #[.map (some g)]:=a4F (hargs.trans hv)
    refine a9J ho hcx hc hf (by rw [hargs'];exact hok g w) ?_
    rintro ex w' ⟨rfl,rfl⟩
    refine⟨_,rfl,_,hq2,?_⟩
    obtain⟨m1,e1⟩:=h.mem.grow (H4 w (.cells #[.map (some g)] tm))
    have hac:ACs G s w [.row id ver] [.map (some g)]:=by
     simp only [ACs,ACr]
     exact⟨_,[],rfl,⟨rfl,hle,fun _ _=>hrw.symm⟩,rfl⟩
    obtain⟨m2,e2⟩:=m1.addBox d ((s.b d).ver + 1) w.heap.size [.row id ver] (Nat.lt_succ_self _) ⟨#[.map (some g)],tm,heap_alloc_new w _,e1.acs hac⟩ (fun x hx=>by have:=h.mem.ownlt hx;omega) (fun o hi=>by have:=h.mem.In _ _ hi;omega) (.inl h.mem.fr.size)
    have h2:=h.mem' (e1.trans e2) m2 rfl rfl
    rw [hdd]
    refine⟨_,h2.put (show d < (s.setB d _).n from hd d hdd) ⟨fun _=>?_,fun e=>by cases e⟩⟩
    simp only [AVr,St.setB,upd,if_true]
    exact⟨Nat.le_refl _,fun _ _=>trivial⟩
   ·exact hq1.elim
  ·exact hq.elim
 | sortI f1 e=>
  refine b22 ho hcx hc hf ?_ hd ⟨G,h⟩ hargs hxs h hq
  intro w I b g ty en clock me es hb hg hborn h1 h2 hme hgood
  obtain⟨g1,g2,g3,g4,g5⟩:=hgood
  refine(hok w b g ty en clock (es.map c2Q) hb hg hborn (c2S h1 h2 hme g1) g2 g3 (by simpa using g4) (by simpa using g5)).mono ?_
  rintro ex w' ⟨v,rfl,hown,hB⟩
  refine⟨v,_,rfl,?_,fun I' w''=>c2U I' w'' _,fun c hc=>?_,hB⟩
  ·rw [show(sortI es).length=(es.map c2Q).length from by simp [sortI]]
   exact hown
  ·obtain⟨k,_,rfl⟩:=List.mem_map.1 hc;rfl
 | sortS f1 e=>
  refine b22 ho hcx hc hf ?_ hd ⟨G,h⟩ hargs hxs h hq
  intro w I b g ty en clock me es hb hg hborn h1 h2 hme hgood
  obtain⟨g1,g2,g3,g4,g5⟩:=hgood
  refine(hok w b g ty en clock (es.map c2R) hb hg hborn (c2T h1 h2 hme g1) g2 g3 (by simpa using g4) (by simpa using g5)).mono ?_
  rintro ex w' ⟨v,rfl,hown,hB⟩
  refine⟨v,_,rfl,?_,fun I' w''=>c2V I' w'' _,fun c hc=>?_,hB⟩
  ·rw [show(sortS es).length=(es.map c2R).length from by simp [sortS]]
   exact hown
  ·obtain⟨k,_,rfl⟩:=List.mem_map.1 hc;rfl
end
end Go.Proofs.YtacnfjjkhpkloaaGreat.Am
namespace Go.Proofs.YtacnfjjkhpkloaaGreat.Am
open Go
def c3G (T:TypeId->Option TI):List ResultVar->Q (List AV)
 | []=> .ret []
 | .tmp t :: rs=>(ev (.tmp t)).bind fun v=>(c3G T rs).bind fun vs=> .ret (v :: vs)
 | .cell a t :: rs=>(tq T t).bind fun i=>(ev (.tmp a)).bind fun p=>(b6K i p).bind fun v=>(c3G T rs).bind fun vs=> .ret (v :: vs)
def c5J (n:Nat):Nat->Q (List AV)
 | 0=> .ret []
 | m + 1=> .rdT n fun x=>(c5J (n + 1) m).bind fun vs=> .ret (x.x :: vs)
def R9:List OA->List AV->List AV
 | .bx _ :: xs,v :: vs=>v :: R9 xs vs
 | .rx _ _ _ :: xs,v :: vs=>v :: R9 xs vs
 | _ :: xs,_ :: vs=>R9 xs vs
 | _,_=>[]
def tU (g:Bool) (i:Nat):List AV->List Upd
 | []=>[]
 | v :: vs=> .t i ⟨g,v⟩ :: tU g (i + 1) vs
def c3H (T:TypeId->Option TI) (n m:Nat) (rs:List ResultVar) (sh:List ASh) (post:List OA) (res:List OA):Q Unit:=
 (c5J n m).bind fun ps=>(c3G T rs).bind fun vs=>(a9D sh (ps ++ vs)).bind fun k=>
 .req (k.xs=post ++ res/\(k.tops ++ k.ids).Nodup/\∀ id ∈ k.fz,Sum.inr id ∉ k.tops ++ k.ids) ((a1K k.fz).bind fun _=> .ret ())
def c9g (T:TypeId->Option TI) (n m:Nat) (rs:List ResultVar) (sh:List ASh) (post:List OA) (res:List OA):AX->St->Prop
 | .exit _,_=>False
 | _,s=>s.n=n/\post.length=m/\(c3H T n m rs sh post res).wp s fun _=>True
section
variable {P:Program} {T:TypeId->Option TI} {W0:World} {M:Own} {G:Gh} {s:St} {a:Act} {w:World}
def c40 (tmps:Array Value):ResultVar->Sem Value
 | .tmp t=>pure (tmps.getD t undef)
 | .cell a t=>do loadVar t (<-asAddr (tmps.getD a undef))
theorem b64 (fn:Func) (tmps:Array Value):results fn tmps=(do let vs<-fn.results.mapM (c40 tmps);pure (if h:vs.size=1 then vs[0] else .tuple vs)):=by
 unfold results
 congr 1
theorem b4b (h:Rel W0 M G s a w) (hT:∀ t i,T t=some i->TOk P t i):∀ {rs:List ResultVar} {K:List AV->Prop},(c3G T rs).wp s K->∃ avs vs,K avs/\AVs G s w avs vs/\(rs.mapM (c40 a.tmps)).run P w= .ok vs w
 | [],K,hq=>⟨[],[],hq,by simp [AVs],rfl⟩
 | .tmp t :: rs,K,hq=>by
  simp only [c3G,Q.wp_bind] at hq
  obtain⟨v,hq,h1⟩:=P1 h hq
  obtain⟨avs,vs,hq,h2,h3⟩:=b4b h hT hq
  refine⟨_,a.eval (.tmp t) :: vs,hq,by simp only [AVs];exact⟨_,_,rfl,h1,h2⟩,?_⟩
  have e:a.eval (.tmp t)=a.tmps.getD t undef:=rfl
  rw [List.mapM_cons,e]
  simp [c40,h3]
 | .cell b t :: rs,K,hq=>by
  simp only [c3G,Q.wp_bind] at hq
  obtain⟨i,hi,hq⟩:=J7 hq
  obtain⟨p,hq,h1⟩:=P1 h hq
  obtain⟨y,v,ad,hp,hq,hy,hrun⟩:=b79 h (hT t i hi) h1 hq
  obtain⟨avs,vs,hq,h2,h3⟩:=b4b h hT hq
  refine⟨_,v :: vs,hq,by simp only [AVs];exact⟨_,_,rfl,hy,h2⟩,?_⟩
  rw [List.mapM_cons]
  have hp':a.tmps.getD b undef= .pointer (some ad):=hp
  have hr1:(c40 a.tmps (.cell b t)).run P w= .ok v w:=by
   simp only [c40,hp',Sem.run_bind]
   simp [asAddr,hrun]
  simp only [Sem.run_bind,hr1,Result.andThen_ok,h3]
  rfl
theorem b4c {fn:Func} {tmps:Array Value} {vs:List Value} (h:(fn.results.toList.mapM (c40 tmps)).run P w= .ok vs w):(results fn tmps).run P w= .ok (c2O vs) w:=by
 rw [b64,Array.mapM_eq_mapM_toList]
 simp only [Sem.run_bind,Sem.run_map,h,Result.andThen_ok]
 match vs with
 | []=>rfl
 | [v]=>rfl
 | v :: u :: vs=>rfl
theorem c1r (_h:Mem W0 M G s w) {k:Tas} {vs:List Value} {foot:List (Nat ⊕ Nat)} (T:c5E G s w k vs foot) (hfz:∀ id ∈ k.fz,Sum.inr id ∉ k.tops ++ k.ids) {us1:List Upd} {G1:Gh} (m1:Mem W0 M G1 (s.app us1) w) (e1:Ext G s w G1 (s.app us1) w)
  (hfd:∀ id ∈ k.fz,∀ R,(s.r id).c=some R->DVr G1.I w (.sl R.es) (G.rw id)) (hfrz:Frz s (s.app us1)) (hbx:G1.bx=G.bx) (hrw:G1.rw=G.rw) (hex:G1.ex=G.ex)
  (hfr:∀ id R,((s.app us1).r id).c=some R->R.fr=true->(∃ R',(s.r id).c=some R'/\R'.fr=true)\/id ∈ k.fz):b1C G s w G1.I k.fz foot:=by
 refine⟨e1.I,hfd,fun x hx g hg o' hi=>?_⟩
 have hg1:g ∈ own G1 (s.app us1) x:=by rw [hfrz.own hbx hrw hex];exact hg
 rcases x with id | id
 ·obtain⟨hs,rfl⟩:=b1g.1 hg1
  exact m1.bI id hs o' hi
 ·obtain⟨R,hRs,hRf⟩:=T.live _ hx
  obtain⟨fr,hR1,_⟩:=(hfrz.2.2.2 id).2.2 R hRs
  obtain⟨R2,hR2,hg2⟩:=a5J.1 hg1
  rw [hR1] at hR2;injection hR2 with hR2;subst hR2
  rcases hg2 with hg1 | ⟨he2,hg2⟩
  rotate_left
  ·exact(m1.sx id _ hR1 he2).2 g hg2 o' hi
  have hfr1:=(m1.rI id _ g hR1 hg1 o' hi).1
  rcases hfr id _ hR1 hfr1 with⟨R',r1,r2⟩ | r1
  ·rw [hRs] at r1;injection r1 with r1;subst r1;rw [hRf] at r2;cases r2
  ·have:=hfz id r1
   rw [List.mem_append] at this
   exact this ((T.mem _).1 hx)
theorem OAs.len {I:Nat->Nat->Prop}:∀ {xs:List OA} {vs:List Value} {F:List Nat},OAs I w xs vs F->xs.length=vs.length
 | [],vs,F,h=>by simp only [OAs] at h;rw [h.1];rfl
 | c :: cs,vs,F,h=>by
  simp only [OAs] at h
  obtain⟨x,r,F1,F2,rfl,_,h2,_⟩:=h
  simp [OAs.len h2]
theorem OAs.split {I:Nat->Nat->Prop}:∀ {xs ys:List OA} {us vs:List Value} {F:List Nat},OAs I w (xs ++ ys) (us ++ vs) F->xs.length=us.length->∃ F1 F2,OAs I w xs us F1/\OAs I w ys vs F2/\F=F1 ++ F2
 | [],ys,us,vs,F,h,hl=>by
  have:us=[]:=List.eq_nil_of_length_eq_zero hl.symm
  subst this
  exact⟨[],F,by simp [OAs],h,rfl⟩
 | x :: xs,ys,us,vs,F,h,hl=>by
  cases us with
  | nil=>simp at hl
  | cons u us=>
   simp only [List.cons_append,OAs] at h
   obtain⟨v,r,F1,F2,e,h1,h2,rfl⟩:=h
   injection e with e1 e2
   subst e1;subst e2
   obtain⟨F3,F4,k1,k2,rfl⟩:=OAs.split h2 (by simpa using hl)
   exact⟨F1 ++ F3,F4,by simp only [OAs];exact⟨u,us,F1,F3,rfl,h1,k1,rfl⟩,k2,by simp⟩
mutual
theorem OCr.notI {I:Nat->Nat->Prop}:∀ (c:OC) {v:Value} {F:List Nat},OCr I w c v F->∀ b ∈ F,∀ o,¬ I b o
 | .d _,v,F,h,b,hb,o=>by simp only [OCr] at h;rw [h.1] at hb;simp at hb
 | .e _,v,F,h,b,hb,o=>by simp only [OCr] at h;rw [h.1] at hb;simp at hb
 | .row _ e _,v,F,h,b,hb,o=>by
  simp only [OCr] at h
  obtain⟨ex,_,rfl,h3,h4⟩:=h
  rcases List.mem_append.1 hb with hb | hb
  ·exact h3 b o (by simpa using hb)
  ·by_cases he:a0L e
   ·rw [if_pos he] at hb
    exact(h4 he).2 b hb o
   ·rw [if_neg he] at hb;cases hb
 | .box cs,v,F,h,b,hb,o=>by
  simp only [OCr] at h
  obtain⟨g,cur,ty,Fs,_,_,h3,rfl,h5⟩:=h
  rcases List.mem_cons.1 hb with rfl | hb
  ·exact h5 o
  ·exact OCs.notI cs h3 b hb o
theorem OCs.notI {I:Nat->Nat->Prop}:∀ (cs:List OC) {vs:List Value} {F:List Nat},OCs I w cs vs F->∀ b ∈ F,∀ o,¬ I b o
 | [],vs,F,h,b,hb,o=>by simp only [OCs] at h;rw [h.2] at hb;simp at hb
 | c :: cs,vs,F,h,b,hb,o=>by
  simp only [OCs] at h
  obtain⟨x,r,F1,F2,rfl,h1,h2,rfl⟩:=h
  rcases List.mem_append.1 hb with hb | hb
  ·exact OCr.notI c h1 b hb o
  ·exact OCs.notI cs h2 b hb o
end
theorem OAs.notI {I:Nat->Nat->Prop}:∀ (cs:List OA) {vs:List Value} {F:List Nat},OAs I w cs vs F->∀ b ∈ F,∀ o,¬ I b o
 | [],vs,F,h,b,hb,o=>by simp only [OAs] at h;rw [h.2] at hb;simp at hb
 | c :: cs,vs,F,h,b,hb,o=>by
  simp only [OAs] at h
  obtain⟨x,r,F1,F2,rfl,h1,h2,rfl⟩:=h
  rcases List.mem_append.1 hb with hb | hb
  ·cases c <;> simp only [OAr] at h1
   ·exact OCr.notI _ h1 b hb o
   ·obtain⟨vs,_,h1⟩:=h1;exact OCs.notI _ h1 b hb o
   ·exact OCr.notI _ h1 b hb o
   ·exact OCr.notI _ h1 b hb o
  ·exact OAs.notI cs h2 b hb o
theorem a5P:∀ {xs:List OA} {avs:List AV} {vs:List Value},AVs G s w avs vs->AVs G s w (R9 xs avs) (M3 xs vs)
 | [],avs,vs,h=>by simp [R9,M3,AVs]
 | .bx cs :: xs,[],vs,h=>by simp only [AVs] at h;subst h;simp [R9,M3,AVs]
 | .bx cs :: xs,a :: avs,vs,h=>by
  simp only [AVs] at h
  obtain⟨v,r,rfl,h1,h2⟩:=h
  simp only [R9,M3,AVs]
  exact⟨v,_,rfl,h1,a5P h2⟩
 | .rx _ _ _ :: xs,[],vs,h=>by simp only [AVs] at h;subst h;simp [R9,M3,AVs]
 | .rx _ _ _ :: xs,a :: avs,vs,h=>by
  simp only [AVs] at h
  obtain⟨v,r,rfl,h1,h2⟩:=h
  simp only [R9,M3,AVs]
  exact⟨v,_,rfl,h1,a5P h2⟩
 | .c cs :: xs,[],vs,h=>by simp only [AVs] at h;subst h;simp [R9,M3,AVs]
 | .c cs :: xs,a :: avs,vs,h=>by
  simp only [AVs] at h
  obtain⟨v,r,rfl,h1,h2⟩:=h
  simp only [R9,M3]
  exact a5P h2
 | .agg cs :: xs,[],vs,h=>by simp only [AVs] at h;subst h;simp [R9,M3,AVs]
 | .agg cs :: xs,a :: avs,vs,h=>by
  simp only [AVs] at h
  obtain⟨v,r,rfl,h1,h2⟩:=h
  simp only [R9,M3]
  exact a5P h2
theorem b8G (h:Rel W0 M G s a w):∀ {vs:List Value} {i:Nat} {K:List AV->Prop},(∀ k x,vs[k]?=some x->M.pin (i + k)=x)->(c5J (s.n + i) vs.length).wp s K->∃ avs,K avs/\AVs G s w avs vs
 | [],i,K,_,hq=>⟨[],hq,by simp [AVs]⟩
 | v :: vs,i,K,hp,hq=>by
  simp only [List.length_cons,c5J,Q.wp] at hq
  rw [Q.wp_bind] at hq
  obtain⟨avs,hq,h2⟩:=b8G h (i:=i + 1) (vs:=vs) (fun k x hk=>by have:=hp (k + 1) x (by simpa using hk);rw [<-this];congr 1;omega) hq
  refine⟨_,hq,?_⟩
  simp only [AVs]
  refine⟨v,vs,rfl,?_,h2⟩
  have h1:=h.pin i
  have h3:=hp 0 v (by simp)
  rw [Nat.add_zero] at h3
  rw [h3] at h1
  exact h1
theorem b4d (g:Bool):∀ (vs:List AV) (i:Nat) (s:St),(s.app (tU g i vs)).n=s.n/\(s.app (tU g i vs)).b=s.b/\(s.app (tU g i vs)).r=s.r
 | [],_,_=>⟨rfl,rfl,rfl⟩
 | v :: vs,i,s=>b4d g vs (i + 1) (s.setT i ⟨g,v⟩)
theorem b65 (g:Bool):∀ (vs:List AV) (i:Nat) (s:St) (j:Nat),(j < i\/i + vs.length<=j)->(s.app (tU g i vs)).t j=s.t j
 | [],_,_,_,_=>rfl
 | v :: vs,i,s,j,h=>by
  simp only [List.length_cons] at h
  refine(b65 g vs (i + 1) (s.setT i ⟨g,v⟩) j (by omega)).trans ?_
  have:j ≠ i:=by omega
  simp [St.setT,upd,this]
theorem c1s (g:Bool):∀ (vs:List AV) (i:Nat) (s:St) (j:Nat) (v:AV),vs[j]?=some v->(s.app (tU g i vs)).t (i + j)=⟨g,v⟩
 | [],_,_,_,_,h=>by simp at h
 | v :: vs,i,s,j,u,h=>by
  cases j with
  | zero=>
   simp at h
   subst h
   refine(b65 g vs (i + 1) (s.setT i ⟨g,v⟩) (i + 0) (by omega)).trans ?_
   simp [St.setT,upd]
  | succ j=>
   have:=c1s g vs (i + 1) (s.setT i ⟨g,v⟩) j u (by simpa using h)
   rw [show i + (j + 1)=i + 1 + j from by omega]
   exact this
theorem c9h {f:FuncId} {fn:Func} {c:Code} {S:a6y} (hT:∀ t i,T t=some i->TOk P t i) (hf:P.funcs[f]?=some fn) (hb:fn.body=some c) (hname:(fn.name == "runtime.NumGoroutine")=false) (B:Nat)
  (h:∀ xs,S.pre xs->xs.length<=fn.ntmps/\∃ sh,(c3E B xs).wp (a47 fn.ntmps [] [] []) fun k=>Tri P c (c9g T fn.ntmps (R9 xs k.avs).length fn.results.toList sh (S.post xs) (S.res xs)) ((((a47 fn.ntmps [] [] []).app k.us).app (tU true 0 k.avs)).app (tU false fn.ntmps (R9 xs k.avs)))) (hsp:S.sp= .none:=by rfl):c1p P f S:=by
 refine⟨by rw [hsp];trivial,⟨fn,hf,by rw [hb];rfl,hname⟩,fun w I F args xs hIn hgl hargs hF hpre=>?_⟩
 obtain⟨hlen,sh,hq⟩:=h xs hpre
 refine calls_of_wp hf hb ?_
 generalize hn:fn.ntmps=n at *
 have hal:args.size<=n:=by rw [<-Array.length_toList,<-hargs.len];exact hlen
 let M:Own:=⟨(· ∈ F),I,fun k=>(M3 xs args.toList).getD k undef⟩
 let G0:Gh:=⟨I,fun _=>0,fun _=> .slice none 0 0,fun _=>(undef,0),fun _=>[]⟩
 have hown0:∀ x,own G0 (a47 n [] [] []) x=[]:=fun x=>by cases x <;> rfl
 have m0:Mem w M G0 (a47 n [] [] []) w:=⟨fun id cs hc=>(by cases hc),fun id R hc=>(by cases hc),fun x y b hx=>(by rw [hown0] at hx;cases hx),fun id hc=>(by cases hc),fun id R g hc=>(by cases hc),fun x b hx=>(by rw [hown0] at hx;cases hx),hIn,⟨rfl,rfl,rfl,Nat.le_refl _,fun _ _ _=>rfl⟩,⟨fun _ _ h=>h,fun _ _ h=> .inl h⟩,hgl,fun id R hc=>(by cases hc),fun id R hc=>(by cases hc)⟩
 obtain⟨k,G',hK,made,hav⟩:=b1G xs hq m0 hargs hF (fun b hb=>⟨fun x hx=>(by rw [hown0] at hx;cases hx),.inr hb⟩) (fun _ _=>⟨rfl,rfl⟩)
 have htops:=a5P (xs:=xs) hav
 have havl:=hav.len
 rw [Array.length_toList] at havl
 generalize hs1:(((a47 n [] [] []).app k.us).app (tU true 0 k.avs)).app (tU false n (R9 xs k.avs))=s1 at *
 obtain⟨a1,a2,a3⟩:=b4d true k.avs 0 ((a47 n [] [] []).app k.us)
 obtain⟨b1,b2,b3⟩:=b4d false (R9 xs k.avs) n (((a47 n [] [] []).app k.us).app (tU true 0 k.avs))
 rw [hs1] at b1 b2 b3
 have hs1n:s1.n=n:=b1.trans (a1.trans made.n_)
 have hE:Ext G' ((a47 n [] [] []).app k.us) w G' s1 w:=by
  have:=Ext.slots G' ((a47 n [] [] []).app k.us) w s1.n s1.t
  have e:(⟨s1.n,s1.t,((a47 n [] [] []).app k.us).b,((a47 n [] [] []).app k.us).r⟩:St)=s1:=by rw [<-a2,<-a3,<-b2,<-b3]
  rw [e] at this
  exact this
 have hM1:Mem w M G' s1 w:=by
  have:=made.mem.slots s1.n s1.t
  have e:(⟨s1.n,s1.t,((a47 n [] [] []).app k.us).b,((a47 n [] [] []).app k.us).r⟩:St)=s1:=by rw [<-a2,<-a3,<-b2,<-b3]
  rw [e] at this
  exact this
 have ht_lo:∀ j,j < n->s1.t j=(((a47 n [] [] []).app k.us).app (tU true 0 k.avs)).t j:=fun j hj=>by rw [<-hs1];exact b65 false _ _ _ _ (.inl hj)
 have ht_base:∀ j,k.avs.length<=j->(((a47 n [] [] []).app k.us).app (tU true 0 k.avs)).t j=⟨decide (j < n),.any⟩:=fun j hj=>by
  rw [b65 true _ _ _ _ (.inr (by omega)),made.t]
  rfl
 have hR:Rel w M G' s1 {tmps:=args ++ Array.replicate (n - args.size) undef,defers:=[]} w:=by
  refine⟨by rw [hs1n];simp;omega,rfl,fun j=>?_,hM1,fun j=>?_⟩
  ·by_cases hj:j < n
   ·rw [ht_lo j hj]
    by_cases hja:j < k.avs.length
    ·have hget:k.avs[j]?=some k.avs[j]:=List.getElem?_eq_getElem hja
     have e:=c1s true k.avs 0 ((a47 n [] [] []).app k.us) j _ hget
     rw [Nat.zero_add] at e
     rw [e]
     obtain⟨v,hv,hr⟩:=hav.get hget
     refine⟨fun _=>?_,fun e=>by cases e⟩
     have:(args ++ Array.replicate (n - args.size) undef).getD j undef=v:=by
      rw [Array.getD_eq_getD_getElem?,Array.getElem?_append_left (by omega)]
      rw [Array.getElem?_toList] at hv
      rw [hv];rfl
     simp only [this]
     exact hE.av _ hr
    ·rw [ht_base j (by omega)]
     exact⟨fun _=>by simp only [AVr],fun e=>by simp [hj] at e⟩
   ·have hu:(args ++ Array.replicate (n - args.size) undef).getD j undef=undef:=by
     rw [Array.getD_eq_getD_getElem?,Array.getElem?_eq_none (by simp;omega)]
     rfl
    have hg:(s1.t j).g=false:=by
     by_cases hp:j < n + (R9 xs k.avs).length
     ·have hget:(R9 xs k.avs)[j - n]?=some (R9 xs k.avs)[j - n]:=List.getElem?_eq_getElem (by omega)
      have e:=c1s false (R9 xs k.avs) n (((a47 n [] [] []).app k.us).app (tU true 0 k.avs)) (j - n) _ hget
      rw [show n + (j - n)=j from by omega,hs1] at e
      rw [e]
     ·rw [<-hs1,b65 false _ _ _ _ (.inr (by omega)),ht_base j (by omega)]
      simp [hj]
    exact⟨fun e=>(by rw [hg] at e;cases e),fun _=>hu⟩
  ·rw [hs1n]
   by_cases hp:j < (R9 xs k.avs).length
   ·have hget:(R9 xs k.avs)[j]?=some (R9 xs k.avs)[j]:=List.getElem?_eq_getElem hp
    have e:=c1s false (R9 xs k.avs) n (((a47 n [] [] []).app k.us).app (tU true 0 k.avs)) j _ hget
    rw [hs1] at e
    rw [e]
    obtain⟨v,hv,hr⟩:=htops.get hget
    have:M.pin j=v:=by
     show(M3 xs args.toList).getD j undef=v
     rw [List.getD_eq_getElem?_getD,hv];rfl
    rw [this]
    exact hE.av _ hr
   ·rw [<-hs1,b65 false _ _ _ _ (.inr (by omega)),ht_base _ (by omega)]
    simp only [AVr]
 refine wp_mono (hK w M _ w ⟨G',hR⟩) fun e a' w' hqk=>?_
 have key:∀ s',a6U w M s' a' w'->(s'.n=n/\(S.post xs).length=(R9 xs k.avs).length/\(c3H T n (R9 xs k.avs).length fn.results.toList sh (S.post xs) (S.res xs)).wp s' fun _=>True)->
   a'.defers=[]/\∃ v,(results fn a'.tmps).run P w'= .ok v w'/\∃ I' vs Fp Fr',v=c2O vs/\Ret S I w xs args.toList F w' I' vs Fp Fr':=by
  rintro s' ⟨G2,h2⟩ ⟨hn2,hpl,ho⟩
  unfold c3H at ho
  rw [Q.wp_bind] at ho
  have hm:(R9 xs k.avs).length=(M3 xs args.toList).length:=htops.len
  rw [hm,<-hn2] at ho
  obtain⟨ps,ho1,hps⟩:=b8G h2 (i:=0) (vs:=M3 xs args.toList) (fun k x hk=>by
   show(M3 xs args.toList).getD (0 + k) undef=x
   rw [Nat.zero_add,List.getD_eq_getElem?_getD,hk];rfl) ho
  clear ho
  rw [Q.wp_bind] at ho1
  obtain⟨avs,vs,ho2,hvs,hrun⟩:=b4b h2 hT ho1
  clear ho1
  rw [Q.wp_bind] at ho2
  obtain⟨kk,foot,ho3,Tk⟩:=a9E h2.mem _ (hps.app hvs) ho2
  clear ho2
  obtain⟨⟨hxs,hnd,hfz⟩,ho4⟩:=ho3
  rw [Q.wp_bind] at ho4
  obtain⟨us1,G1,_,m1,e1,hfd,hfrz,hbx,hrw,hfr,hexq⟩:=a3L s' ho4 h2.mem (Frz.refl s')
  have hoas:=Tk.oas G1.I (c1r h2.mem Tk hfz m1 e1 hfd hfrz hbx hrw hexq hfr)
  rw [hxs] at hoas
  obtain⟨Fp,Fr',p1,p2,p3⟩:=OAs.split hoas (by rw [hpl,hm])
  refine⟨h2.df,_,b4c hrun,G1.I,vs,Fp,Fr',rfl,⟨h2.mem.fr,m1.ii.1,fun b o hi=>?_,fun b o hi=>m1.ii.2 b o hi,m1.In,p1,p2,?_,fun b hb=>?_⟩⟩
  ·refine World.cell?_of_block (a:=⟨b,o,none⟩) (h2.mem.fr.block b (hIn b o hi) (fun hm=>?_))
   exact OAs.notI xs hargs b hm o hi
  ·rw [<-p3]
   exact b0S (Tk.nodup hnd) h2.mem
  ·rw [<-p3] at hb
   obtain⟨x,_,hx⟩:=List.mem_flatMap.1 hb
   exact(h2.mem.oM x b hx).symm
 cases e with
 | normal=>obtain⟨s',h1,h2⟩:=hqk;exact key s' h1 h2
 | ret=>obtain⟨s',h1,h2⟩:=hqk;exact key s' h1 h2
 | exit i=>obtain⟨s',h1,h2⟩:=hqk;exact h2.elim
 | goto l=>exact hqk.elim
 | panic c=>exact hqk.elim
 | outgrown=>exact hqk.elim
end
end Go.Proofs.YtacnfjjkhpkloaaGreat.Am
namespace Go.Proofs.YtacnfjjkhpkloaaGreat.Am
open Go
def b8J (k:TK) (x:AV):Q Nat:=match k with
 | .slice _=>c7v x
 | .str=>b3W x
 | .map _ _=>b1m x
 | _=> .fail
def mmQ (f:Int->Int->Int) (x y:AV):Q AV:=match x,y with
 | .c (.d (.v (.int k a))),.c (.d (.v (.int _ b)))=> .ret (.c (.d (.v (.int k (f a b)))))
 | _,_=> .fail
def b23 (T:TypeId->Option TI) (b:Builtin) (o:Oper) (c:Call):Q (List Upd):=match b with
 | .len=>match c.args.toList,c.argTypes.toList with
  | [x],[t]=>(tq T t).bind fun i=>(ev x).bind fun x=>(b8J i.k x).bind fun n=>one o.dst (.c (.d (.v (.int .i64 (n:Int)))))
  | _,_=> .fail
 | .append=>match c.args.toList,c.argTypes.toList with
  | [x,y],[t,t']=>(tq T t).bind fun i=>match i.k with
   | .slice e=>(tq T e).bind fun ie=>(Q.ofOpt o.dst).bind fun d=> .req (t=t'/\0 < ie.size) ((ev x).bind fun x=>(ev y).bind fun y=>match x,y with
    | .c x,.c y=>b1l d e ie.size ie.bytes x y
    | _,_=> .fail)
   | _=> .fail
  | _,_=> .fail
 | .delete=>match c.args.toList,c.argTypes.toList with
  | [x,y],t :: _=>(tq T t).bind fun i=>match i.k with
   | .map kt vt=>(tq T kt).bind fun ik=>(tq T vt).bind fun iv=>(ev x).bind fun m=>(ev y).bind fun k=>(b6N T ik k).bind fun kv=>(c7y ik iv kv m).bind fun us=> .ret (us ++ b3V o.dst .any)
   | _=> .fail
  | _,_=> .fail
 | .max=>match c.args.toList with
  | [x,y]=>(ev x).bind fun x=>(ev y).bind fun y=>(mmQ max x y).bind (one o.dst)
  | _=> .fail
 | .min=>match c.args.toList with
  | [x,y]=>(ev x).bind fun x=>(ev y).bind fun y=>(mmQ min x y).bind (one o.dst)
  | _=> .fail
 | _=> .fail
def fnQ:AV->Q (Nat × List AV)
 | .c (.d (.v (.func (.func f) a b)))=> .req (a= #[]/\b= #[]) (.ret (f,[]))
 | .c (.d (.clo f cs))=> .ret (f,[.c (.eptr cs)])
 | _=> .fail
theorem c5N {G:Gh} {s:St} {w:World} {v:AV} {u:Value} {K:Nat × List AV->Prop} (hv:AVr G s w v u) (hq:(fnQ v).wp s K):∃ (f:FuncId) (ex:List AV) (cap:Array Value),u= .func (.func f) #[] cap/\AVs G s w ex cap.toList/\K (f,ex):=by
 unfold fnQ at hq
 split at hq
 ·obtain⟨⟨rfl,rfl⟩,hq⟩:=hq
  simp only [AVr,ACr,DVr] at hv
  exact⟨_,[],#[],hv.1,by simp only [AVs],hq⟩
 ·simp only [AVr,ACr,DVr] at hv
  obtain⟨ad,xs,h1,h2,h3⟩:=hv
  exact⟨_,_,_,h1,by simp only [AVs,AVr,ACr];exact⟨_,_,rfl,⟨ad,xs,rfl,h2,h3⟩,rfl⟩,hq⟩
 ·exact hq.elim
def b67:AV->Nat
 | .c (.d (.v (.pointer none)))=>1
 | .c (.d (.it t _))=>2 + t
 | _=>0
def b1H:List AV->Nat
 | []=>0
 | v :: vs=>b67 v + 5000 * b1H vs
def b5M (T:TypeId->Option TI) (Γ:List (Nat × a6y)) (o:Oper) (c:Call):Q (List Upd):=match c.callee with
 | .value x=>(ev x).bind fun v=>(fnQ v).bind fun f=>(evs c.args.toList).bind fun xs=> .req (f.1 < 1000000) (match a0x Γ (f.1 + b1H xs * 1000000) with
  | some S=>match S.sp with
   | .none=>b8E S o c f.2
   | sp=>match f.2 with
    | []=>spQ sp o c
    | _=> .fail
  | none=> .fail)
 | .builtin b=>b23 T b o c
 | _=> .fail
section
variable {P:Program} {T:TypeId->Option TI} {o:Oper}
theorem a4G {α:Type} {xs:Array α} {x y:α} (h:xs.toList=[x,y]):xs= #[x,y]:=by
 cases xs;simp only at h;subst h;rfl
theorem c3K {t:TypeId} {d:TypeDesc} (hu:P.underlying t=some d) (ty:TypeId) (v:Value) (w:World) (n:Nat) (h:(d= .string/\∃ b:ByteArray,v= .string b/\n=b.size)\/(∃ e,d= .slice e)/\∃ A c,v= .slice A n c) :
  (Builtin.len_ #[t] ty #[v]).run P w= .ok (.int .i64 (n:Int)) w:=by
 rcases h with⟨rfl,b,rfl,rfl⟩ | ⟨⟨e,rfl⟩,A,c,rfl⟩ <;> simp [Builtin.len_,run_underlying hu,goInt]
theorem c5O {f:Int->Int->Int} {G:Gh} {s:St} {w:World} {x y:AV} {u v:Value} {K:List Upd->Prop} (hx:AVr G s w x u) (hy:AVr G s w y v) (hq:(mmQ f x y).wp s fun z=>(one o.dst z).wp s K) :
  ∃ k a k' b,u= .int k a/\v= .int k' b/\K (b3V o.dst (.c (.d (.v (.int k (f a b)))))):=by
 unfold mmQ at hq
 split at hq
 ·rename_i k a k' b
  simp only [AVr,ACr,DVr] at hx hy
  exact⟨k,a,k',b,hx.1,hy.1,hq⟩
 ·exact hq.elim
theorem c1t (hT:∀ t i,T t=some i->TOk P t i) {b:Builtin} {c:Call} (ho:o.op= .call c) (hc:c.callee= .builtin b):b75 P o (b23 T b o c):=by
 intro W0 M s a w K Q' hd hR hq
 obtain⟨G,h⟩:=hR
 have hexec:∀ (args:List Operand),c.args=args.toArray->∀ r w',(∀ consts,(Go.builtin b c.argTypes o.type consts (args.map a.eval).toArray).run P w= .ok r w')->(execOp a.eval o).run P w= .ok r w':=fun args ha r w' hb=>by
  unfold execOp
  rw [ho]
  simp only [resolve,hc,ha]
  simp [invoke]
  exact hb _
 unfold b23 at hq
 split at hq
 ·split at hq
  ·rename_i x t hx ht
   obtain⟨i,hi,hq1⟩:=J7 (by rw [Q.wp_bind] at hq;exact hq)
   rw [Q.wp_bind] at hq1
   obtain⟨v,hq2,hv⟩:=P1 h hq1
   rw [Q.wp_bind] at hq2
   have hargs:=a4F hx
   have hty:=a4F ht
   obtain⟨d,hu,hk⟩:=(hT t i hi).und
   have fin:∀ n:Nat,one o.dst (.c (.d (.v (.int .i64 (n:Int)))))= .ret (b3V o.dst (.c (.d (.v (.int .i64 (n:Int)))))):=fun _=>rfl
   have fin2:∀ n:Nat,((d= .string/\∃ b:ByteArray,a.eval x= .string b/\n=b.size)\/(∃ e,d= .slice e)/\∃ A c,a.eval x= .slice A n c)->K (b3V o.dst (.c (.d (.v (.int .i64 (n:Int))))))->a3M P W0 M s o a w K Q':=fun n hn hK=>by
    refine X0 (v:= .int .i64 (n:Int)) h hd ?_ hK (hexec [x] hargs (.value (.int .i64 (n:Int))) w fun consts=>?_)
    ·simp only [AVr,ACr,DVr]
     exact⟨trivial,rfl⟩
    ·have:=c3K hu o.type (a.eval x) w n hn
     rw [hty]
     simp [Go.builtin,this]
   unfold b8J at hq2
   split at hq2
   ·rename_i e hki
    rw [hki] at hk
    obtain⟨A,n,cc,hv',hK⟩:=c5s h hv hq2
    exact fin2 n (.inr ⟨⟨e,hk⟩,A,cc,hv'⟩) hK
   ·rename_i hki
    rw [hki] at hk
    unfold b3W at hq2
    split at hq2
    ·rename_i str
     simp only [AVr,ACr,DVr] at hv
     exact fin2 str.size (.inl ⟨hk,str,hv.1,rfl⟩) hq2
    ·exact hq2.elim
   ·rename_i kt vt hki
    rw [hki] at hk
    obtain⟨g,en,ck,hv',hh,hK⟩:=b8H h hv hq2
    refine X0 (v:= .int .i64 (en.size:Int)) h hd ?_ hK (hexec [x] hargs (.value (.int .i64 (en.size:Int))) w fun consts=>?_)
    ·simp only [AVr,ACr,DVr]
     exact⟨trivial,rfl⟩
    ·have:=b66 (P:=P) hk hu o.type hh
     rw [hty]
     simp [Go.builtin,hv',this]
   ·exact hq2.elim
  ·exact hq.elim
 ·split at hq
  ·rename_i x y t t' hx ht
   obtain⟨i,hi,hq1⟩:=J7 (by rw [Q.wp_bind] at hq;exact hq)
   clear hq
   split at hq1
   ·rename_i e hki
    obtain⟨ie,hie,hq2⟩:=J7 (by rw [Q.wp_bind] at hq1;exact hq1)
    clear hq1
    obtain⟨d,hdd,hq3⟩:=J7 (by rw [Q.wp_bind] at hq2;exact hq2)
    clear hq2
    obtain⟨⟨rfl,hz0⟩,hq4⟩:=hq3
    rw [Q.wp_bind] at hq4
    obtain⟨v,hq5,hv⟩:=P1 h hq4
    clear hq4
    rw [Q.wp_bind] at hq5
    obtain⟨u,hq6,hu⟩:=P1 h hq5
    clear hq5
    split at hq6
    ·obtain⟨dd,hun,hk⟩:=(hT t i hi).und
     rw [hki] at hk
     subst hk
     refine c5t (hT e ie hie) hz0 hun h hdd (hd d hdd) (E2 hv) (E2 hu) hq6 fun r w' hr=>hexec [x,y] (a4G hx) _ _ fun consts=>?_
     rw [a4G ht]
     simp [Go.builtin,hr]
    ·exact hq6.elim
   ·exact hq1.elim
  ·exact hq.elim
 ·split at hq
  ·rename_i x y t ts hx ht
   rw [Q.wp_bind] at hq
   obtain⟨i,hi,hq1⟩:=U1 hq
   clear hq
   obtain⟨dd,hun,hk⟩:=(hT t i hi).und
   split at hq1
   ·rename_i kt vt hki
    rw [hki] at hk
    simp only at hk
    subst hk
    simp only [Q.wp_bind] at hq1
    obtain⟨ik,hik,hq2⟩:=U1 hq1
    obtain⟨iv,hiv,hq3⟩:=U1 hq2
    obtain⟨m,hq4,hm⟩:=P1 h hq3
    obtain⟨k,hq5,hkv⟩:=P1 h hq4
    obtain⟨kv,hq6,hkv,hKO,hL⟩:=b1u hT (hT kt ik hik) hkv hq5
    obtain⟨us,w',hK,hrun,hn,hR'⟩:=c5K hun hKO h hL hm hq6
    rw [<-hkv] at hrun
    refine U7 (w':=w') (v:= .tuple #[]) (hexec [x,y] (a4G hx) _ _ fun consts=>?_) ⟨_,hK,?_⟩
    ·have:c.argTypes[0]?=some t:=by
      rw [<-Array.getElem?_toList,ht];rfl
     simp [Go.builtin,hrun c.argTypes o.type this]
    ·rw [St.app_append]
     obtain⟨G',hR'⟩:=hR'
     exact hR'.putOne (fun d hdd=>by rw [hn];exact hd d hdd) (by simp only [AVr])
   ·exact hq1.elim
  ·exact hq.elim
 ·split at hq
  ·rename_i x y hx
   rw [Q.wp_bind] at hq
   obtain⟨v,hq1,hv⟩:=P1 h hq
   clear hq
   rw [Q.wp_bind] at hq1
   obtain⟨u,hq2,hu⟩:=P1 h hq1
   clear hq1
   rw [Q.wp_bind] at hq2
   obtain⟨k,a',k',b',e1,e2,hK⟩:=c5O hv hu hq2
   refine X0 (v:= .int k (max a' b')) h hd ?_ hK (hexec [x,y] (a4G hx) _ _ fun consts=>?_)
   ·simp only [AVr,ACr,DVr]
    exact⟨trivial,rfl⟩
   ·simp only [List.map_cons,List.map_nil,e1,e2]
    have e3:(if b' > a' then b' else a')=max a' b':=by simp only [Int.max_def];split <;> split <;> omega
    simp [Go.builtin,Builtin.max_,Builtin.max2,e3]
  ·exact hq.elim
 ·split at hq
  ·rename_i x y hx
   rw [Q.wp_bind] at hq
   obtain⟨v,hq1,hv⟩:=P1 h hq
   clear hq
   rw [Q.wp_bind] at hq1
   obtain⟨u,hq2,hu⟩:=P1 h hq1
   clear hq1
   rw [Q.wp_bind] at hq2
   obtain⟨k,a',k',b',e1,e2,hK⟩:=c5O hv hu hq2
   refine X0 (v:= .int k (min a' b')) h hd ?_ hK (hexec [x,y] (a4G hx) _ _ fun consts=>?_)
   ·simp only [AVr,ACr,DVr]
    exact⟨trivial,rfl⟩
   ·simp only [List.map_cons,List.map_nil,e1,e2]
    have e3:(if b' < a' then b' else a')=min a' b':=by simp only [Int.min_def];split <;> split <;> omega
    simp [Go.builtin,Builtin.min_,Builtin.min2,e3]
  ·exact hq.elim
 ·exact hq.elim
theorem b24 (hT:∀ t i,T t=some i->TOk P t i) {Γ:List (Nat × a6y)} (hΓ:∀ p ∈ Γ,c1p P (p.1 % 1000000) p.2) (o:Oper) (c:Call) (ho:o.op= .call c):b75 P o (b5M T Γ o c):=by
 unfold b5M
 split
 ·rename_i x hc
  intro W0 M s a w K Q' hd hR hq
  obtain⟨G,h⟩:=hR
  rw [Q.wp_bind] at hq
  obtain⟨v,hq,hv⟩:=P1 h hq
  rw [Q.wp_bind] at hq
  obtain⟨f,ex,cap,hf,hex,hq⟩:=c5N hv hq
  rw [Q.wp_bind] at hq
  obtain⟨xs,hq,_⟩:=b5u h hq
  obtain⟨hlt,hq⟩:=hq
  split at hq
  ·rename_i S hS
   have hF:c1p P f S:=by
    have:=hΓ _ (a2K hS)
    simp only [Nat.add_mul_mod_self_right] at this
    rw [Nat.mod_eq_of_lt hlt] at this
    exact this
   split at hq
   ·exact b63 ho hc hf hF hd h hex hq
   ·rename_i sp hne
    cases ex with
    | nil=>
     simp only [AVs] at hex
     have hcap:cap= #[]:=by cases cap;simp only at hex;subst hex;rfl
     subst hcap
     exact c3J ho hc hf hF rfl hd ⟨G,h⟩ hq
    | cons _ _=>exact hq.elim
  ·exact hq.elim
 ·rename_i b hc
  exact c1t hT ho hc
 ·intro W0 M s a w K Q' hd hR hq;exact hq.elim
end
end Go.Proofs.YtacnfjjkhpkloaaGreat.Am
namespace Go.Proofs.YtacnfjjkhpkloaaGreat.Am
open Go
section
variable (T:TypeId->Option TI) (cq:Oper->Call->Q (List Upd))
end
theorem b5N {α β:Type} (f:α->β):∀ (l:List (Nat × α)) (k:Nat),(a0x l k).map f=a0x (l.map fun p=>(p.1,f p.2)) k
 | [],_=>rfl
 | (j,x) :: l,k=>by
  simp only [a0x,List.map_cons]
  split
  ·rfl
  ·exact b5N f l k
theorem c1u (a:Int) (m:Nat):a.fdiv (2 ^ m)=a / 2 ^ m:=Int.fdiv_eq_ediv_of_nonneg a (Int.le_of_lt (Int.pow_pos (by decide)))
theorem c5P (k:IntKind) (a b:Int):a7u .shr k a b= .req (0<=b) (.ret (.int k (a / (2 ^ (min b.toNat k.bits))))):=by rw [<-c1u];rfl
section
variable (T:TypeId->Option TI) (cq:Oper->Call->Q (List Upd))
end
section
variable {P:Program} {T:TypeId->Option TI} {cq:Oper->Call->Q (List Upd)} {K:AX->St->Prop} {s:St}
end
theorem b25 (x:UInt8):a7v (a49 x)=x:=by simp [a7v,a49]
theorem b68 (l:List UInt8):(l.map a49).map a7v=l:=by
 rw [List.map_map]
 conv=>rhs;rw [<-List.map_id l]
 exact List.map_congr_left fun x _=>b25 x
theorem b4e {α β:Type} (f:α->β) {l:List α} {i:Nat} (h:i < l.length) (d:β) (d':α):(l.map f).getD i d=f (l.getD i d'):=by
 simp only [List.getD_eq_getElem?_getD,List.getElem?_map,List.getElem?_eq_getElem h,Option.map_some,Option.getD_some]
def spec {α:Type} (sh:List ASh) (dec:List OA->α) (enc:α->List OA) (cond:α->Prop) (post:α->List OA) (res:α->List OA):a6y:=
 ⟨sh,fun xs=>xs=enc (dec xs)/\cond (dec xs),fun xs=>post (dec xs),fun xs=>res (dec xs),.none,false⟩
end Go.Proofs.YtacnfjjkhpkloaaGreat.Am
