/- sender.Index: what its functions take and give. No conditions. -/
import Derived.Test.YtacnfjjkhpkloaaGreatQAM
namespace Go.Proofs.YtacnfjjkhpkloaaGreat.Am
open Go Go.Proofs Go.RowKit
def oIx (l:IxD) (n:Int):List OC:=[.row 2 (10000000 + 134) (l.map c8T),.d (.v (.int .i64 n))]
theorem a9k:a0L (10000000 + 134):=by decide
theorem c69:(10000000 + 134) - b3U=134:=by decide
theorem c4z {I:Nat->Nat->Prop} {w:World} {v:Value} {F:List Nat} {l:IxD} {n:Int} (h:OCr I w (.box (oIx l n)) v F) (hF:F.Nodup):∃ bx g xs,v= .pointer (some ⟨bx,0,none⟩)/\F=bx :: g :: xs/\IxW w bx l n g xs/\∀ b ∈ F,∀ o,¬ I b o:=by
 simp only [oIx,OCr,OCs] at h
 obtain⟨bx,cur,ty,Fs,rfl,hbx,⟨x,r,F1,F2,hc,⟨ex,hrow,rfl,hI1,hs⟩,⟨y,r2,F3,F4,rfl,⟨rfl,hd⟩,⟨rfl,rfl⟩,rfl⟩,rfl⟩,rfl,hbI⟩:=h
 obtain⟨⟨g,en,cl,rfl,hg,hb,hnd,hse⟩,hex⟩:=hs a9k
 rw [if_pos a9k] at hF ⊢
 simp only [DVr] at hd
 obtain⟨rfl,_⟩:=hd
 have hc':cur= #[.map (some g),.int .i64 n]:=by cases cur;simp only at hc;subst hc;rfl
 subst hc'
 have hobk:(obk (Value.map (some g))).toList=[g]:=rfl
 rw [hobk] at hF ⊢
 simp only [List.append_nil,List.nil_append,List.cons_append] at hF ⊢
 simp only [c69] at hse
 refine⟨bx,g,ex,rfl,rfl,⟨en,cl,ty,hbx,hg,hb,hnd,(List.nodup_cons.1 hF).1,IxL.of hse⟩,fun b hm o=>?_⟩
 rcases List.mem_cons.1 hm with rfl | hm
 ·exact hbI o
 rcases List.mem_cons.1 hm with rfl | hm
 ·exact hI1 _ o rfl
 ·exact hex b hm o
theorem c4A {I:Nat->Nat->Prop} {w:World} {bx g:Nat} {l:IxD} {n:Int} {xs:List Nat} (h:IxW w bx l n g xs) (hI:∀ b ∈ bx :: g :: xs,∀ o,¬ I b o):OCr I w (.box (oIx l n)) (.pointer (some ⟨bx,0,none⟩)) (bx :: g :: xs):=by
 obtain⟨en,cl,ty,hbx,hg,hb,hnd,hnb,hl⟩:=h
 simp only [oIx,OCr,OCs]
 refine⟨bx,_,ty,g :: xs,rfl,hbx,⟨.map (some g),_,g :: xs,[],rfl,⟨xs,⟨Nat.zero_lt_two,fun e he=>?_,.inr (.inr (.inr ⟨a9k,g,rfl,(Array.getElem?_eq_some_iff.1 hg).1⟩))⟩,?_,fun g' o h1=>?_,fun _=>⟨⟨g,en,cl,rfl,hg,hb,hnd,by simp only [c69];exact hl.to⟩,fun b hm=>hI b (by simp [hm])⟩⟩,⟨_,_,[],[],rfl,⟨rfl,?_⟩,⟨rfl,rfl⟩,rfl⟩,by simp⟩,rfl,hI bx (by simp)⟩
 ·obtain⟨c,_,rfl⟩:=List.mem_map.1 he
  rfl
 ·rw [if_pos a9k];rfl
 ·injection h1 with h1
  subst h1
  exact hI g (by simp) o
 ·simp only [DVr];exact⟨trivial,rfl⟩
theorem IxW.lt {w:World} {bx g:Nat} {l:IxD} {n:Int} {xs:List Nat} (h:IxW w bx l n g xs):∀ b ∈ bx :: g :: xs,b < w.heap.size:=fun b hm=>by
 obtain⟨en,cl,ty,hbx,hg,hb,hnd,hnb,hl⟩:=h
 rcases List.mem_cons.1 hm with rfl | hm
 ·exact(Array.getElem?_eq_some_iff.1 hbx).1
 rcases List.mem_cons.1 hm with rfl | hm
 ·exact(Array.getElem?_eq_some_iff.1 hg).1
 ·exact SEs.lt hl.to b hm
theorem IxW.nodup {w:World} {bx g:Nat} {l:IxD} {n:Int} {xs:List Nat} (h:IxW w bx l n g xs):(bx :: g :: xs).Nodup:=by
 obtain⟨en,cl,ty,hbx,hg,hb,hnd,hnb,hl⟩:=h
 exact List.nodup_cons.2 ⟨hnb,hnd⟩
theorem IxW.same {w w':World} {bx g:Nat} {l:IxD} {n:Int} {xs:List Nat} (h:IxW w bx l n g xs) (hk:∀ b,b < w.heap.size->w'.heap[b]?=w.heap[b]?):IxW w' bx l n g xs:=by
 have hlt:=h.lt
 obtain⟨en,cl,ty,hbx,hg,hb,hnd,hnb,hl⟩:=h
 exact⟨en,cl,ty,(hk bx (hlt bx (by simp))).trans hbx,(hk g (hlt g (by simp))).trans hg,hb,hnd,hnb,hl.same fun b hm=>hk b (hlt b (by simp [hm]))⟩
theorem b2h {I:Nat->Nat->Prop} {w:World} {xs:List Value} {F:List Nat} (h:OAs I w [] xs F):xs=[]/\F=[]:=h
theorem c0c {I:Nat->Nat->Prop} {w:World} {cs:List OC} {ts:List OA} {xs:List Value} {F:List Nat} (h:OAs I w (.bx cs :: ts) xs F):∃ x r F1 F2,xs=x :: r/\OCr I w (.box cs) x F1/\OAs I w ts r F2/\F=F1 ++ F2:=by
 simp only [OAs,OAr] at h;exact h
theorem b7y {I:Nat->Nat->Prop} {w:World} {y:Value} {ts:List OA} {xs:List Value} {F:List Nat} (h:OAs I w (.c (.d (.v y)) :: ts) xs F):∃ r,xs=y :: r/\OAs I w ts r F:=by
 simp only [OAs,OAr,OCr,DVr] at h
 obtain⟨x,r,F1,F2,rfl,⟨rfl,rfl,_⟩,h2,rfl⟩:=h
 exact⟨r,rfl,h2⟩
theorem b2i {S:a6y} {xs:List OA} {args:List Value} {w w':World} {I:Nat->Nat->Prop} {bx g:Nat} {xx xx':List Nat} {l':IxD} {n':Int} {b:Bool} (hIn:∀ b o,I b o->b < w.heap.size) (hNI:∀ b ∈ bx :: g :: xx,∀ o,¬ I b o)
  (hw:IxW w' bx l' n' g xx') (hf:IxF w w' bx g xx xx') (hpost:S.post xs=[.bx (oIx l' n')]) (htop:M3 xs args=[.pointer (some ⟨bx,0,none⟩)]) (hres:S.res xs=[.c (.d (.v (.bool b)))]):Ret S I w xs args (bx :: g :: xx) w' I [.bool b] (bx :: g :: xx') []:=by
 have hnot:∀ k,k < w.heap.size->k ∉ bx :: g :: xx->w'.heap[k]?=w.heap[k]?:=fun k hk hm=>by
  simp only [List.mem_cons,not_or] at hm
  exact hf.block k hk hm.1 hm.2.1 hm.2.2
 refine⟨⟨hf.os,hf.tape,hf.output,hf.size,fun k hk hm=>hnot k hk hm⟩,fun _ _ h=>h,fun c o hi=>?_,fun _ _ h=> .inl h,fun c o hi=>Nat.lt_of_lt_of_le (hIn c o hi) hf.size,?_,?_,by simpa using hw.nodup,fun c hc=>?_⟩
 ·exact World.cell?_of_block (hnot c (hIn c o hi) fun hm=>hNI c hm o hi)
 ·rw [hpost,htop]
  simp only [OAs,OAr]
  refine⟨_,_,bx :: g :: xx',[],rfl,c4A hw fun c hc o hi=>?_,⟨rfl,rfl⟩,by simp⟩
  rcases List.mem_cons.1 hc with rfl | hc
  ·exact hNI c (by simp) o hi
  rcases List.mem_cons.1 hc with rfl | hc
  ·exact hNI c (by simp) o hi
  ·rcases hf.new c hc with h1 | h1
   ·exact hNI c (by simp [h1]) o hi
   ·exact absurd (hIn c o hi) (Nat.not_lt.2 h1)
 ·rw [hres]
  simp only [OAs,OAr,OCr,DVr]
  exact⟨_,_,[],[],rfl,⟨rfl,rfl,rfl⟩,⟨rfl,rfl⟩,rfl⟩
 ·rw [List.append_nil] at hc
  rcases List.mem_cons.1 hc with rfl | hc
  ·exact .inl (by simp)
  rcases List.mem_cons.1 hc with rfl | hc
  ·exact .inl (by simp)
  ·exact(hf.new c hc).imp (fun h=>by simp [h]) id
theorem b3w {w w':World} {bx g:Nat} {xs:List Nat} (h:w.grownBy w' none):IxF w w' bx g xs xs:=⟨h.os,h.tape,h.output,h.size,fun k hk _ _ _=>h.block k hk (by simp),fun _ h=> .inl h⟩
theorem c4B {S:a6y} {xs:List OA} {args:List Value} {w w':World} {I:Nat->Nat->Prop} {bx g:Nat} {xx:List Nat} {l:IxD} {n:Int} {v:Value} {z e:Nat} {es:List (List DV)} {X:List Value} (hIn:∀ b o,I b o->b < w.heap.size) (hNI:∀ b ∈ bx :: g :: xx,∀ o,¬ I b o)
  (hw:IxW w bx l n g xx) (hb:Below w.heap.size w w') (ho:w'.ownsRow w.heap.size e z v es.length X) (hd:H6 I w' es X) (hz:0 < z) (hes:∀ x ∈ es,x.length=z) (he:e < a0S) (hpost:S.post xs=[.bx (oIx l n)]) (htop:M3 xs args=[.pointer (some ⟨bx,0,none⟩)]) (hres:S.res xs=[.c (.row z e es)]):Ret S I w xs args (bx :: g :: xx) w' I [v] (bx :: g :: xx) (obk v).toList:=by
 have hlt:=hw.lt
 have hov:∀ k,obk v=some k->w.heap.size<=k:=fun k hk=>by
  rcases ho.2 with⟨hv,_⟩ | ⟨g',cap,cur,hv,h1,_⟩
  ·rw [hv] at hk;cases hk
  ·rw [hv] at hk;injection hk with hk;rw [<-hk];exact h1
 refine⟨⟨hb.os,hb.tape,hb.output,hb.size,fun k hk _=>hb.block k hk⟩,fun _ _ h=>h,fun c o hi=>World.cell?_of_block (hb.block c (hIn c o hi)),fun _ _ h=> .inl h,fun c o hi=>Nat.lt_of_lt_of_le (hIn c o hi) hb.size,?_,?_,?_,fun c hc=>?_⟩
 ·rw [hpost,htop]
  simp only [OAs,OAr]
  exact⟨_,_,bx :: g :: xx,[],rfl,c4A (hw.same fun b h=>hb.block b h) hNI,⟨rfl,rfl⟩,by simp⟩
 ·rw [hres]
  simp only [OAs,OAr,OCr]
  refine⟨_,_,(obk v).toList,[],rfl,⟨[],⟨hz,hes,.inl ⟨he,X,⟨ho.1,ho.2.imp id fun⟨g',cap,cur,h1,_,h3⟩=>⟨g',cap,cur,h1,Nat.zero_le _,h3⟩⟩,hd⟩⟩,?_,fun k o hk hi=>?_,fun h=>absurd h (I8 he)⟩,⟨rfl,rfl⟩,by simp⟩
  ·rw [if_neg (I8 he),List.append_nil]
  ·exact absurd (hIn k o hi) (Nat.not_lt.2 (hov k hk))
 ·rw [List.nodup_append]
  refine⟨hw.nodup,by cases obk v <;> simp,fun a ha b hb' hab=>?_⟩
  subst hab
  have:=hov a (by simpa using hb')
  have:=hlt a ha
  omega
 ·rcases List.mem_append.1 hc with hc | hc
  ·exact .inl hc
  ·exact .inr (hov c (by simpa using hc))
def a0z (l:IxD) (n:Int) (k:List UInt8) (q id:Int):Option (IxD × Int × Bool):=c7I l n k q id
abbrev c4C:OTs:= .cons (.row (.pr .str (.sl (.pr (.int .u64) (.int .i64)))) (10000000 + 134)) (.cons (.d (.int .i64)) .nil)
def P3:TFn:=⟨.cons (.bx c4C) (.cons (.c (.d .str)) (.cons (.c (.d (.int .u64))) (.cons (.c (.d (.int .i64))) .nil))),.cons c4C .nil,.cons (.c (.d .bool)) .nil,IxD × Int × Bool,fun a=>a0z a.1.1 a.1.2.1 a.2.1 a.2.2.1 a.2.2.2.1,fun r=>(((r.1,(r.2.1,())),()),(r.2.2,())),.none⟩
theorem a7g:FnT Tryz.prog 58 P3:=
 ⟨rfl,rfl,⟨trivial,⟨_,Tryz.func58,rfl,rfl⟩,fun w I F args xs hIn hgl hargs hF hp=>by
  obtain⟨a,r,rfl,hr⟩:=hp
  obtain⟨⟨l,n,u1⟩,k,q,id,u⟩:=a
  change IxD at l
  change Int at n
  change List UInt8 at k
  change Int at q
  change Int at id
  obtain⟨l',n',b⟩:=r
  change IxD at l'
  change Int at n'
  change Bool at b
  have hr':c7I l n k q id=some (l',n',b):=hr
  replace hargs:OAs I w [.bx (oIx l n),.c (.d (.v (a4K k))),.c (.d (.v (.int .u64 q))),.c (.d (.v (.int .i64 id)))] args.toList F:=hargs
  obtain⟨x,r0,F1,F2,e1,hx,hr0,rfl⟩:=c0c hargs
  obtain⟨r1,rfl,hr1⟩:=b7y hr0
  obtain⟨r2,rfl,hr2⟩:=b7y hr1
  obtain⟨r3,rfl,hr3⟩:=b7y hr2
  obtain⟨rfl,rfl⟩:=b2h hr3
  rw [List.append_nil] at hF ⊢
  obtain⟨bx,g,xx,rfl,rfl,hw,hNI⟩:=c4z hx hF
  have ha:args= #[.pointer (some ⟨bx,0,none⟩),a4K k,.int .u64 q,.int .i64 id]:=by cases args;simp only at e1;subst e1;rfl
  subst ha
  have epost:(P3.spec.post (P3.args.oas ((l,n,u1),k,q,id,u)))=[.bx (oIx l' n')]:=by
   rw [TFn.post_of rfl hr];rfl
  have eres:(P3.spec.res (P3.args.oas ((l,n,u1),k,q,id,u)))=[.c (.d (.v (.bool b)))]:=by
   rw [TFn.res_of rfl hr];rfl
  unfold c7I at hr'
  obtain⟨r,hf,hr'⟩:=Option.bind_eq_some_iff.1 hr'
  cases hr2:r.2 with
  | true=>
   rw [hr2] at hr'
   injection hr' with hr'
   injection hr' with h1 hr'
   injection hr' with h2 h3
   subst h1;subst h2;subst h3
   refine Calls.mono (b94 hIn hgl hw hf hr2) fun e w' h=>?_
   obtain⟨rfl,hg⟩:=h
   exact⟨I,[.bool false],_,[],rfl,b2i hIn hNI (hw.same fun b hb=>hg.block b hb (by simp)) (b3w hg) epost rfl eres⟩
  | false=>
   rw [hr2] at hr'
   obtain⟨hc,hr'⟩:=X3 (show chk _ _=_ from hr')
   obtain⟨c1,c2,c3⟩:=of_decide_eq_true hc
   injection hr' with hr'
   injection hr' with h1 hr'
   injection hr' with h2 h3
   obtain⟨i,hi⟩:=Int.eq_ofNat_of_zero_le c1
   rw [hi] at h1
   subst h1;subst h2;subst h3
   refine Calls.mono (c4w (id:=id) hIn hgl hw hf hr2 hi (by omega) c3) fun e w' h=>?_
   obtain⟨xx',rfl,hw',hf'⟩:=h
   exact⟨I,[.bool true],_,[],rfl,b2i hIn hNI hw' hf' epost rfl eres⟩⟩⟩
def H9 (l:IxD) (n:Int) (k:List UInt8) (q:Int):Option (IxD × Int × Bool):=
 (Ff.F_sender_find (W4 D3 k [] l) q).bind fun r=>
 sel r.2 (chk (decide ((0:Int)<=r.1/\r.1 < (((W4 D3 k [] l).length:Nat):Int))) (some (if((W4 D3 k [] l).eraseIdx r.1.toNat).length=0 then a5u D3 k (a1V D3 k ((W4 D3 k [] l).eraseIdx r.1.toNat) l) else a1V D3 k ((W4 D3 k [] l).eraseIdx r.1.toNat) l,C6 (n - 1),true))) (some (l,n,false))
def I0:TFn:=⟨.cons (.bx c4C) (.cons (.c (.d .str)) (.cons (.c (.d (.int .u64))) .nil)),.cons c4C .nil,.cons (.c (.d .bool)) .nil,IxD × Int × Bool,fun a=>H9 a.1.1 a.1.2.1 a.2.1 a.2.2.1,fun r=>(((r.1,(r.2.1,())),()),(r.2.2,())),.none⟩
theorem a2s:FnT Tryz.prog 60 I0:=
 ⟨rfl,rfl,⟨trivial,⟨_,Tryz.func60,rfl,rfl⟩,fun w I F args xs hIn hgl hargs hF hp=>by
  obtain⟨a,r,rfl,hr⟩:=hp
  obtain⟨⟨l,n,u1⟩,k,q,u⟩:=a
  change IxD at l
  change Int at n
  change List UInt8 at k
  change Int at q
  obtain⟨l',n',b⟩:=r
  change IxD at l'
  change Int at n'
  change Bool at b
  have hr':H9 l n k q=some (l',n',b):=hr
  replace hargs:OAs I w [.bx (oIx l n),.c (.d (.v (a4K k))),.c (.d (.v (.int .u64 q)))] args.toList F:=hargs
  obtain⟨x,r0,F1,F2,e1,hx,hr0,rfl⟩:=c0c hargs
  obtain⟨r1,rfl,hr1⟩:=b7y hr0
  obtain⟨r2,rfl,hr2⟩:=b7y hr1
  obtain⟨rfl,rfl⟩:=b2h hr2
  rw [List.append_nil] at hF ⊢
  obtain⟨bx,g,xx,rfl,rfl,hw,hNI⟩:=c4z hx hF
  have ha:args= #[.pointer (some ⟨bx,0,none⟩),a4K k,.int .u64 q]:=by cases args;simp only at e1;subst e1;rfl
  subst ha
  have epost:(I0.spec.post (I0.args.oas ((l,n,u1),k,q,u)))=[.bx (oIx l' n')]:=by
   rw [TFn.post_of rfl hr];rfl
  have eres:(I0.spec.res (I0.args.oas ((l,n,u1),k,q,u)))=[.c (.d (.v (.bool b)))]:=by
   rw [TFn.res_of rfl hr];rfl
  unfold H9 at hr'
  obtain⟨r,hf,hr'⟩:=Option.bind_eq_some_iff.1 hr'
  cases hr2:r.2 with
  | false=>
   rw [hr2] at hr'
   injection hr' with hr'
   injection hr' with h1 hr'
   injection hr' with h2 h3
   subst h1;subst h2;subst h3
   refine Calls.mono (c4y hIn hgl hw hf hr2) fun e w' h=>?_
   obtain⟨rfl,hg⟩:=h
   exact⟨I,[.bool false],_,[],rfl,b2i hIn hNI (hw.same fun b hb=>hg.block b hb (by simp)) (b3w hg) epost rfl eres⟩
  | true=>
   rw [hr2] at hr'
   obtain⟨hc,hr'⟩:=X3 (show chk _ _=_ from hr')
   obtain⟨c1,c2⟩:=of_decide_eq_true hc
   injection hr' with hr'
   injection hr' with h1 hr'
   injection hr' with h2 h3
   obtain⟨i,hi⟩:=Int.eq_ofNat_of_zero_le c1
   rw [hi] at h1
   subst h1;subst h2;subst h3
   refine Calls.mono (c0b hIn hgl hw hf hr2 hi (by omega)) fun e w' h=>?_
   obtain⟨xx',rfl,hw',hf'⟩:=h
   exact⟨I,[.bool true],_,[],rfl,b2i hIn hNI hw' hf' epost rfl eres⟩⟩⟩
def c7a (a:Int):List DV:=[.v (.int .i64 a)]
theorem b6u {w:World} {S:Nat->Prop} {I:Nat->Nat->Prop}:∀ {l:List Int} {X:List Value},Rep.intA.all w S X l->H6 I w (l.map c7a) X
 | [],X,h=>h
 | a :: l,X,h=>by
  obtain⟨c,r,rfl,hc,hr⟩:=h
  simp only [List.map_cons,H6]
  refine⟨c,r,rfl,?_,b6u hr⟩
  have hc':c=[.int .i64 a]:=hc
  rw [hc']
  show J4 I w [.v (.int .i64 a)] [.int .i64 a]
  simp only [J4,DVr]
  exact⟨_,_,rfl,⟨rfl,rfl⟩,rfl⟩
theorem c4D {w w':World} {S:Nat->Prop} {A:Option Addr} {m c:Nat} {l:List Int} (h:Go.Proofs.YtacnfjjkhpkloaaGreat.Own Rep.intA 3 w w'.heap.size S (.slice A m c) m l) {I:Nat->Nat->Prop}:∃ X,w.ownsRow w'.heap.size 3 1 (.slice A m c) (l.map c7a).length X/\H6 I w (l.map c7a) X:=by
 obtain⟨hm,_,X,ho,hr⟩:=h
 rw [List.length_map,<-hm]
 exact⟨X,ho,b6u hr⟩
theorem c4E {l:List Int}:∀ x ∈ l.map c7a,x.length=1:=fun x hx=>by
 obtain⟨a,_,rfl⟩:=List.mem_map.1 hx
 rfl
def S1 (l:IxD) (n:Int) (k:List UInt8):Option (IxD × Int × List Int):=chk (decide ((W4 D3 k [] l).length<=1000000000000)) (some (l,n,(W4 D3 k [] l).map (·.2)))
def N2:TFn:=⟨.cons (.bx c4C) (.cons (.c (.d .str)) .nil),.cons c4C .nil,.cons (.c (.row (.int .i64) 3)) .nil,IxD × Int × List Int,fun a=>S1 a.1.1 a.1.2.1 a.2.1,fun r=>(((r.1,(r.2.1,())),()),(r.2.2,())),.none⟩
theorem a6A:FnT Tryz.prog 42 N2:=
 ⟨rfl,rfl,⟨trivial,⟨_,Tryz.func42,rfl,rfl⟩,fun w I F args xs hIn hgl hargs hF hp=>by
  obtain⟨a,r,rfl,hr⟩:=hp
  obtain⟨⟨l,n,u1⟩,k,u⟩:=a
  change IxD at l
  change Int at n
  change List UInt8 at k
  have hr':S1 l n k=some r:=hr
  obtain⟨hc,hr'⟩:=X3 hr'
  injection hr' with hr'
  subst hr'
  replace hargs:OAs I w [.bx (oIx l n),.c (.d (.v (a4K k)))] args.toList F:=hargs
  obtain⟨x,r0,F1,F2,e1,hx,hr0,rfl⟩:=c0c hargs
  obtain⟨r1,rfl,hr1⟩:=b7y hr0
  obtain⟨rfl,rfl⟩:=b2h hr1
  rw [List.append_nil] at hF ⊢
  obtain⟨bx,g,xx,rfl,rfl,hw,hNI⟩:=c4z hx hF
  have ha:args= #[.pointer (some ⟨bx,0,none⟩),a4K k]:=by cases args;simp only at e1;subst e1;rfl
  subst ha
  have epost:(N2.spec.post (N2.args.oas ((l,n,u1),k,u)))=[.bx (oIx l n)]:=by
   rw [TFn.post_of rfl hr];rfl
  have eres:(N2.spec.res (N2.args.oas ((l,n,u1),k,u)))=[.c (.row 1 3 (((W4 D3 k [] l).map (·.2)).map c7a))]:=by
   rw [TFn.res_of rfl hr];rfl
  refine Calls.mono (b7x hw (of_decide_eq_true hc)) fun e w' h=>?_
  obtain⟨A,m,c,rfl,ho,hb⟩:=h
  obtain⟨X,ho',hd⟩:=c4D (I:=I) ho
  exact⟨I,[.slice A m c],_,_,rfl,c4B hIn hNI hw hb ho' hd (by decide) c4E (by decide) epost rfl eres⟩⟩⟩
theorem c0d (w:World):Calls Tryz.prog 56 #[] w fun e w'=>∃ bx g ty,e= .returned (.pointer (some ⟨bx,0,none⟩))/\w.heap.size<=bx/\w.heap.size<=g/\bx ≠ g/\w'.heap[bx]?=some (.cells #[.map (some g),.int .i64 0] ty (0,0))/\w'.heap[g]?=some (.map #[] 0)/\w.grownBy w' none:=by
 have hmm:∀ (t:TypeId) (w:World),(Instr.makeMap t none).run Tryz.prog w= .ok (.map (some w.heap.size)) (w.alloc (.map #[] 0)):=fun _ _=>rfl
 go_enter Tryz.func56,Tryz.ntmps56
 go_wp2
 go_ret
 refine⟨w.heap.size + 1,w.heap.size,161,rfl,Nat.le_succ _,Nat.le_refl _,by omega,?_,?_,?_⟩
 ·have:=heap_alloc_new (w.alloc (.map #[] 0)) (.cells #[.map (some w.heap.size),.int .i64 0] 161)
  simpa using this
 ·exact((H4 (w.alloc (.map #[] 0)) _).block w.heap.size (by simp) (by simp)).trans (heap_alloc_new w _)
 ·exact(H4 w _).trans (H4 _ _)
def a4e:Option (IxD × Int):=some ([],0)
def a1N:TFn:=⟨.nil,.nil,.cons (.c (.box c4C)) .nil,IxD × Int,fun _=>a4e,fun r=>((),((r.1,(r.2,())),())),.none⟩
theorem b2j:FnT Tryz.prog 56 a1N:=
 ⟨rfl,rfl,⟨trivial,⟨_,Tryz.func56,rfl,rfl⟩,fun w I F args xs hIn hgl hargs hF hp=>by
  obtain⟨a,r,rfl,hr⟩:=hp
  have hr':a4e=some r:=hr
  injection hr' with hr'
  subst hr'
  replace hargs:OAs I w [] args.toList F:=hargs
  obtain⟨e1,rfl⟩:=b2h hargs
  have ha:args= #[]:=by cases args;simp only at e1;subst e1;rfl
  subst ha
  have epost:(a1N.spec.post (a1N.args.oas a))=[]:=by
   rw [TFn.post_of rfl hr];rfl
  have eres:(a1N.spec.res (a1N.args.oas a))=[.c (.box (oIx [] 0))]:=by
   rw [TFn.res_of rfl hr];rfl
  refine Calls.mono (c0d w) fun e w' h=>?_
  obtain⟨bx,g,ty,rfl,h1,h2,h3,h4,h5,hg⟩:=h
  have hw:IxW w' bx [] 0 g []:=⟨_,_,ty,h4,h5,by simp [a8c],by simp,by simpa using h3,rfl,rfl⟩
  refine⟨I,[.pointer (some ⟨bx,0,none⟩)],[],[bx,g],rfl,⟨⟨hg.os,hg.tape,hg.output,hg.size,fun k hk _=>hg.block k hk (by simp)⟩,fun _ _ h=>h,fun c o hi=>World.cell?_of_block (hg.block c (hIn c o hi) (by simp)),fun _ _ h=> .inl h,fun c o hi=>Nat.lt_of_lt_of_le (hIn c o hi) hg.size,?_,?_,by simpa using h3,fun c hc=>?_⟩⟩
  ·rw [epost];exact⟨rfl,rfl⟩
  ·rw [eres]
   simp only [OAs,OAr]
   refine⟨_,_,[bx,g],[],rfl,c4A hw fun c hc o hi=>?_,⟨rfl,rfl⟩,by simp⟩
   have:=hIn c o hi
   simp only [List.mem_cons,List.not_mem_nil,or_false] at hc
   omega
  ·simp only [List.nil_append,List.mem_cons,List.not_mem_nil,or_false] at hc
   right;omega⟩⟩
end Go.Proofs.YtacnfjjkhpkloaaGreat.Am
