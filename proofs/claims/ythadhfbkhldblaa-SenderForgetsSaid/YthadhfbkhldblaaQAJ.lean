/- sender.Index: what its functions take and give. No conditions. -/
import Derived.Test.YthadhfbkhldblaaQAI
namespace Go.Proofs.Ythadhfbkhldblaa.Am
open Go Go.Proofs Go.RowKit
def oIx (l:IxD) (n:Int):List OC:=[.row 2 10000070 (l.map b7K),.d (.v (.int .i64 n))]
theorem a3c:P7 10000070:=by decide
theorem b6G:10000070 - a9b=70:=by decide
theorem b16 {I:Nat->Nat->Prop} {w:World} {v:Value} {F:List Nat} {l:IxD} {n:Int} (h:OCr I w (.box (oIx l n)) v F) (hF:F.Nodup):∃ bx g xs,v= .pointer (some ⟨bx,0,none⟩)/\F=bx :: g :: xs/\IxW w bx l n g xs/\∀ b ∈ F,∀ o,¬ I b o:=by
 simp only [oIx,OCr,OCs] at h
 obtain⟨bx,cur,ty,Fs,rfl,hbx,⟨x,r,F1,F2,hc,⟨ex,hrow,rfl,hI1,hs⟩,⟨y,r2,F3,F4,rfl,⟨rfl,hd⟩,⟨rfl,rfl⟩,rfl⟩,rfl⟩,rfl,hbI⟩:=h
 obtain⟨⟨g,en,cl,rfl,hg,hb,hnd,hse⟩,hex⟩:=hs a3c
 rw [if_pos a3c] at hF ⊢
 simp only [DVr] at hd
 obtain⟨rfl,_⟩:=hd
 have hc':cur= #[.map (some g),.int .i64 n]:=by cases cur;simp only at hc;subst hc;rfl
 subst hc'
 have hobk:(obk (Value.map (some g))).toList=[g]:=rfl
 rw [hobk] at hF ⊢
 simp only [List.append_nil,List.nil_append,List.cons_append] at hF ⊢
 simp only [b6G] at hse
 refine⟨bx,g,ex,rfl,rfl,⟨en,cl,ty,hbx,hg,hb,hnd,(List.nodup_cons.1 hF).1,IxL.of hse⟩,fun b hm o=>?_⟩
 rcases List.mem_cons.1 hm with rfl | hm
 ·exact hbI o
 rcases List.mem_cons.1 hm with rfl | hm
 ·exact hI1 _ o rfl
 ·exact hex b hm o
theorem b5k {I:Nat->Nat->Prop} {w:World} {bx g:Nat} {l:IxD} {n:Int} {xs:List Nat} (h:IxW w bx l n g xs) (hI:∀ b ∈ bx :: g :: xs,∀ o,¬ I b o):OCr I w (.box (oIx l n)) (.pointer (some ⟨bx,0,none⟩)) (bx :: g :: xs):=by
 obtain⟨en,cl,ty,hbx,hg,hb,hnd,hnb,hl⟩:=h
 simp only [oIx,OCr,OCs]
 refine⟨bx,_,ty,g :: xs,rfl,hbx,⟨.map (some g),_,g :: xs,[],rfl,⟨xs,⟨Nat.zero_lt_two,fun e he=>?_,.inr (.inr (.inr ⟨a3c,g,rfl,(Array.getElem?_eq_some_iff.1 hg).1⟩))⟩,?_,fun g' o h1=>?_,fun _=>⟨⟨g,en,cl,rfl,hg,hb,hnd,by simp only [b6G];exact hl.to⟩,fun b hm=>hI b (by simp [hm])⟩⟩,⟨_,_,[],[],rfl,⟨rfl,?_⟩,⟨rfl,rfl⟩,rfl⟩,by simp⟩,rfl,hI bx (by simp)⟩
 ·obtain⟨c,_,rfl⟩:=List.mem_map.1 he
  rfl
 ·rw [if_pos a3c];rfl
 ·injection h1 with h1
  subst h1
  exact hI g (by simp) o
 ·simp only [DVr];exact⟨trivial,rfl⟩
theorem IxW.lt {w:World} {bx g:Nat} {l:IxD} {n:Int} {xs:List Nat} (h:IxW w bx l n g xs):∀ b ∈ bx :: g :: xs,b < w.heap.size:=fun b hm=>by
 obtain⟨en,cl,ty,hbx,hg,hb,hnd,hnb,hl⟩:=h
 rcases List.mem_cons.1 hm with rfl | hm
 ·exact(Array.getElem?_eq_some_iff.1 hbx).1
 rcases List.mem_cons.1 hm with rfl | hm
 ·exact(Array.getElem?_eq_some_iff.1 hg).1
 ·exact SEs.lt hl.to b hm
theorem IxW.nodup {w:World} {bx g:Nat} {l:IxD} {n:Int} {xs:List Nat} (h:IxW w bx l n g xs):(bx :: g :: xs).Nodup:=by
 obtain⟨en,cl,ty,hbx,hg,hb,hnd,hnb,hl⟩:=h
 exact List.nodup_cons.2 ⟨hnb,hnd⟩
theorem IxW.same {w w':World} {bx g:Nat} {l:IxD} {n:Int} {xs:List Nat} (h:IxW w bx l n g xs) (hk:∀ b,b < w.heap.size->w'.heap[b]?=w.heap[b]?):IxW w' bx l n g xs:=by
 have hlt:=h.lt
 obtain⟨en,cl,ty,hbx,hg,hb,hnd,hnb,hl⟩:=h
 exact⟨en,cl,ty,(hk bx (hlt bx (by simp))).trans hbx,(hk g (hlt g (by simp))).trans hg,hb,hnd,hnb,hl.same fun b hm=>hk b (hlt b (by simp [hm]))⟩
theorem a2u {I:Nat->Nat->Prop} {w:World} {xs:List Value} {F:List Nat} (h:OAs I w [] xs F):xs=[]/\F=[]:=h
theorem a6E {I:Nat->Nat->Prop} {w:World} {cs:List OC} {ts:List OA} {xs:List Value} {F:List Nat} (h:OAs I w (.bx cs :: ts) xs F):∃ x r F1 F2,xs=x :: r/\OCr I w (.box cs) x F1/\OAs I w ts r F2/\F=F1 ++ F2:=by
 simp only [OAs,OAr] at h;exact h
theorem a6F {I:Nat->Nat->Prop} {w:World} {y:Value} {ts:List OA} {xs:List Value} {F:List Nat} (h:OAs I w (.c (.d (.v y)) :: ts) xs F):∃ r,xs=y :: r/\OAs I w ts r F:=by
 simp only [OAs,OAr,OCr,DVr] at h
 obtain⟨x,r,F1,F2,rfl,⟨rfl,rfl,_⟩,h2,rfl⟩:=h
 exact⟨r,rfl,h2⟩
theorem a5Q {S:a1e} {xs:List OA} {args:List Value} {w w':World} {I:Nat->Nat->Prop} {bx g:Nat} {xx xx':List Nat} {l':IxD} {n':Int} {b:Bool} (hIn:∀ b o,I b o->b < w.heap.size) (hNI:∀ b ∈ bx :: g :: xx,∀ o,¬ I b o)
  (hw:IxW w' bx l' n' g xx') (hf:IxF w w' bx g xx xx') (hpost:S.post xs=[.bx (oIx l' n')]) (htop:G6 xs args=[.pointer (some ⟨bx,0,none⟩)]) (hres:S.res xs=[.c (.d (.v (.bool b)))]):Ret S I w xs args (bx :: g :: xx) w' I [.bool b] (bx :: g :: xx') []:=by
 have hnot:∀ k,k < w.heap.size->k ∉ bx :: g :: xx->w'.heap[k]?=w.heap[k]?:=fun k hk hm=>by
  simp only [List.mem_cons,not_or] at hm
  exact hf.block k hk hm.1 hm.2.1 hm.2.2
 refine⟨⟨hf.os,hf.tape,hf.output,hf.size,fun k hk hm=>hnot k hk hm⟩,fun _ _ h=>h,fun c o hi=>?_,fun _ _ h=> .inl h,fun c o hi=>Nat.lt_of_lt_of_le (hIn c o hi) hf.size,?_,?_,by simpa using hw.nodup,fun c hc=>?_⟩
 ·exact World.cell?_of_block (hnot c (hIn c o hi) fun hm=>hNI c hm o hi)
 ·rw [hpost,htop]
  simp only [OAs,OAr]
  refine⟨_,_,bx :: g :: xx',[],rfl,b5k hw fun c hc o hi=>?_,⟨rfl,rfl⟩,by simp⟩
  rcases List.mem_cons.1 hc with rfl | hc
  ·exact hNI c (by simp) o hi
  rcases List.mem_cons.1 hc with rfl | hc
  ·exact hNI c (by simp) o hi
  ·rcases hf.new c hc with h1 | h1
   ·exact hNI c (by simp [h1]) o hi
   ·exact absurd (hIn c o hi) (Nat.not_lt.2 h1)
 ·rw [hres]
  simp only [OAs,OAr,OCr,DVr]
  exact⟨_,_,[],[],rfl,⟨rfl,rfl,rfl⟩,⟨rfl,rfl⟩,rfl⟩
 ·rw [List.append_nil] at hc
  rcases List.mem_cons.1 hc with rfl | hc
  ·exact .inl (by simp)
  rcases List.mem_cons.1 hc with rfl | hc
  ·exact .inl (by simp)
  ·exact(hf.new c hc).imp (fun h=>by simp [h]) id
theorem a6G {w w':World} {bx g:Nat} {xs:List Nat} (h:w.grownBy w' none):IxF w w' bx g xs xs:=⟨h.os,h.tape,h.output,h.size,fun k hk _ _ _=>h.block k hk (by simp),fun _ h=> .inl h⟩
theorem a7U {S:a1e} {xs:List OA} {args:List Value} {w w':World} {I:Nat->Nat->Prop} {bx g:Nat} {xx:List Nat} {l:IxD} {n:Int} {v:Value} {z e:Nat} {es:List (List DV)} {X:List Value} (hIn:∀ b o,I b o->b < w.heap.size) (hNI:∀ b ∈ bx :: g :: xx,∀ o,¬ I b o)
  (hw:IxW w bx l n g xx) (hb:Below w.heap.size w w') (ho:w'.ownsRow w.heap.size e z v es.length X) (hd:C6 I w' es X) (hz:0 < z) (hes:∀ x ∈ es,x.length=z) (he:e < Q5) (hpost:S.post xs=[.bx (oIx l n)]) (htop:G6 xs args=[.pointer (some ⟨bx,0,none⟩)]) (hres:S.res xs=[.c (.row z e es)]):Ret S I w xs args (bx :: g :: xx) w' I [v] (bx :: g :: xx) (obk v).toList:=by
 have hlt:=hw.lt
 have hov:∀ k,obk v=some k->w.heap.size<=k:=fun k hk=>by
  rcases ho.2 with⟨hv,_⟩ | ⟨g',cap,cur,hv,h1,_⟩
  ·rw [hv] at hk;cases hk
  ·rw [hv] at hk;injection hk with hk;rw [<-hk];exact h1
 refine⟨⟨hb.os,hb.tape,hb.output,hb.size,fun k hk _=>hb.block k hk⟩,fun _ _ h=>h,fun c o hi=>World.cell?_of_block (hb.block c (hIn c o hi)),fun _ _ h=> .inl h,fun c o hi=>Nat.lt_of_lt_of_le (hIn c o hi) hb.size,?_,?_,?_,fun c hc=>?_⟩
 ·rw [hpost,htop]
  simp only [OAs,OAr]
  exact⟨_,_,bx :: g :: xx,[],rfl,b5k (hw.same fun b h=>hb.block b h) hNI,⟨rfl,rfl⟩,by simp⟩
 ·rw [hres]
  simp only [OAs,OAr,OCr]
  refine⟨_,_,(obk v).toList,[],rfl,⟨[],⟨hz,hes,.inl ⟨he,X,⟨ho.1,ho.2.imp id fun⟨g',cap,cur,h1,_,h3⟩=>⟨g',cap,cur,h1,Nat.zero_le _,h3⟩⟩,hd⟩⟩,?_,fun k o hk hi=>?_,fun h=>absurd h (L8 he)⟩,⟨rfl,rfl⟩,by simp⟩
  ·rw [if_neg (L8 he),List.append_nil]
  ·exact absurd (hIn k o hi) (Nat.not_lt.2 (hov k hk))
 ·rw [List.nodup_append]
  refine⟨hw.nodup,by cases obk v <;> simp,fun a ha b hb' hab=>?_⟩
  subst hab
  have:=hov a (by simpa using hb')
  have:=hlt a ha
  omega
 ·rcases List.mem_append.1 hc with hc | hc
  ·exact .inl hc
  ·exact .inr (hov c (by simpa using hc))
def C8 (l:IxD) (n:Int) (k:List UInt8) (q id:Int):Option (IxD × Int × Bool):=b6Y l n k q id
abbrev b17:OTs:= .cons (.row (.pr .str (.sl (.pr (.int .u64) (.int .i64)))) 10000070) (.cons (.d (.int .i64)) .nil)
def E5:TFn:=⟨.cons (.bx b17) (.cons (.c (.d .str)) (.cons (.c (.d (.int .u64))) (.cons (.c (.d (.int .i64))) .nil))),.cons b17 .nil,.cons (.c (.d .bool)) .nil,IxD × Int × Bool,fun a=>C8 a.1.1 a.1.2.1 a.2.1 a.2.2.1 a.2.2.2.1,fun r=>(((r.1,(r.2.1,())),()),(r.2.2,())),.none⟩
theorem X7:FnT Try.prog 20 E5:=
 ⟨rfl,rfl,⟨trivial,⟨_,Try.func20,rfl,rfl⟩,fun w I F args xs hIn hgl hargs hF hp=>by
  obtain⟨a,r,rfl,hr⟩:=hp
  obtain⟨⟨l,n,u1⟩,k,q,id,u⟩:=a
  change IxD at l
  change Int at n
  change List UInt8 at k
  change Int at q
  change Int at id
  obtain⟨l',n',b⟩:=r
  change IxD at l'
  change Int at n'
  change Bool at b
  have hr':b6Y l n k q id=some (l',n',b):=hr
  replace hargs:OAs I w [.bx (oIx l n),.c (.d (.v (a0i k))),.c (.d (.v (.int .u64 q))),.c (.d (.v (.int .i64 id)))] args.toList F:=hargs
  obtain⟨x,r0,F1,F2,e1,hx,hr0,rfl⟩:=a6E hargs
  obtain⟨r1,rfl,hr1⟩:=a6F hr0
  obtain⟨r2,rfl,hr2⟩:=a6F hr1
  obtain⟨r3,rfl,hr3⟩:=a6F hr2
  obtain⟨rfl,rfl⟩:=a2u hr3
  rw [List.append_nil] at hF ⊢
  obtain⟨bx,g,xx,rfl,rfl,hw,hNI⟩:=b16 hx hF
  have ha:args= #[.pointer (some ⟨bx,0,none⟩),a0i k,.int .u64 q,.int .i64 id]:=by cases args;simp only at e1;subst e1;rfl
  subst ha
  have epost:(E5.spec.post (E5.args.oas ((l,n,u1),k,q,id,u)))=[.bx (oIx l' n')]:=by
   rw [TFn.post_of rfl hr];rfl
  have eres:(E5.spec.res (E5.args.oas ((l,n,u1),k,q,id,u)))=[.c (.d (.v (.bool b)))]:=by
   rw [TFn.res_of rfl hr];rfl
  unfold b6Y at hr'
  obtain⟨r,hf,hr'⟩:=Option.bind_eq_some_iff.1 hr'
  cases hr2:r.2 with
  | true=>
   rw [hr2] at hr'
   injection hr' with hr'
   injection hr' with h1 hr'
   injection hr' with h2 h3
   subst h1;subst h2;subst h3
   refine Calls.mono (b1T hIn hgl hw hf hr2) fun e w' h=>?_
   obtain⟨rfl,hg⟩:=h
   exact⟨I,[.bool false],_,[],rfl,a5Q hIn hNI (hw.same fun b hb=>hg.block b hb (by simp)) (a6G hg) epost rfl eres⟩
  | false=>
   rw [hr2] at hr'
   obtain⟨hc,hr'⟩:=P3 (show chk _ _=_ from hr')
   obtain⟨c1,c2,c3⟩:=of_decide_eq_true hc
   injection hr' with hr'
   injection hr' with h1 hr'
   injection hr' with h2 h3
   obtain⟨i,hi⟩:=Int.eq_ofNat_of_zero_le c1
   rw [hi] at h1
   subst h1;subst h2;subst h3
   refine Calls.mono (b5g (id:=id) hIn hgl hw hf hr2 hi (by omega) c3) fun e w' h=>?_
   obtain⟨xx',rfl,hw',hf'⟩:=h
   exact⟨I,[.bool true],_,[],rfl,a5Q hIn hNI hw' hf' epost rfl eres⟩⟩⟩
def B6 (l:IxD) (n:Int) (k:List UInt8) (q:Int):Option (IxD × Int × Bool):=
 (Ff.F_sender_find (M8 A8 k [] l) q).bind fun r=>
 sel r.2 (chk (decide ((0:Int)<=r.1/\r.1 < (((M8 A8 k [] l).length:Nat):Int))) (some (if((M8 A8 k [] l).eraseIdx r.1.toNat).length=0 then a39 A8 k (a0K A8 k ((M8 A8 k [] l).eraseIdx r.1.toNat) l) else a0K A8 k ((M8 A8 k [] l).eraseIdx r.1.toNat) l,I9 (n - 1),true))) (some (l,n,false))
def C3:TFn:=⟨.cons (.bx b17) (.cons (.c (.d .str)) (.cons (.c (.d (.int .u64))) .nil)),.cons b17 .nil,.cons (.c (.d .bool)) .nil,IxD × Int × Bool,fun a=>B6 a.1.1 a.1.2.1 a.2.1 a.2.2.1,fun r=>(((r.1,(r.2.1,())),()),(r.2.2,())),.none⟩
theorem T3:FnT Try.prog 19 C3:=
 ⟨rfl,rfl,⟨trivial,⟨_,Try.func19,rfl,rfl⟩,fun w I F args xs hIn hgl hargs hF hp=>by
  obtain⟨a,r,rfl,hr⟩:=hp
  obtain⟨⟨l,n,u1⟩,k,q,u⟩:=a
  change IxD at l
  change Int at n
  change List UInt8 at k
  change Int at q
  obtain⟨l',n',b⟩:=r
  change IxD at l'
  change Int at n'
  change Bool at b
  have hr':B6 l n k q=some (l',n',b):=hr
  replace hargs:OAs I w [.bx (oIx l n),.c (.d (.v (a0i k))),.c (.d (.v (.int .u64 q)))] args.toList F:=hargs
  obtain⟨x,r0,F1,F2,e1,hx,hr0,rfl⟩:=a6E hargs
  obtain⟨r1,rfl,hr1⟩:=a6F hr0
  obtain⟨r2,rfl,hr2⟩:=a6F hr1
  obtain⟨rfl,rfl⟩:=a2u hr2
  rw [List.append_nil] at hF ⊢
  obtain⟨bx,g,xx,rfl,rfl,hw,hNI⟩:=b16 hx hF
  have ha:args= #[.pointer (some ⟨bx,0,none⟩),a0i k,.int .u64 q]:=by cases args;simp only at e1;subst e1;rfl
  subst ha
  have epost:(C3.spec.post (C3.args.oas ((l,n,u1),k,q,u)))=[.bx (oIx l' n')]:=by
   rw [TFn.post_of rfl hr];rfl
  have eres:(C3.spec.res (C3.args.oas ((l,n,u1),k,q,u)))=[.c (.d (.v (.bool b)))]:=by
   rw [TFn.res_of rfl hr];rfl
  unfold B6 at hr'
  obtain⟨r,hf,hr'⟩:=Option.bind_eq_some_iff.1 hr'
  cases hr2:r.2 with
  | false=>
   rw [hr2] at hr'
   injection hr' with hr'
   injection hr' with h1 hr'
   injection hr' with h2 h3
   subst h1;subst h2;subst h3
   refine Calls.mono (b5i hIn hgl hw hf hr2) fun e w' h=>?_
   obtain⟨rfl,hg⟩:=h
   exact⟨I,[.bool false],_,[],rfl,a5Q hIn hNI (hw.same fun b hb=>hg.block b hb (by simp)) (a6G hg) epost rfl eres⟩
  | true=>
   rw [hr2] at hr'
   obtain⟨hc,hr'⟩:=P3 (show chk _ _=_ from hr')
   obtain⟨c1,c2⟩:=of_decide_eq_true hc
   injection hr' with hr'
   injection hr' with h1 hr'
   injection hr' with h2 h3
   obtain⟨i,hi⟩:=Int.eq_ofNat_of_zero_le c1
   rw [hi] at h1
   subst h1;subst h2;subst h3
   refine Calls.mono (b10 hIn hgl hw hf hr2 hi (by omega)) fun e w' h=>?_
   obtain⟨xx',rfl,hw',hf'⟩:=h
   exact⟨I,[.bool true],_,[],rfl,a5Q hIn hNI hw' hf' epost rfl eres⟩⟩⟩
def b5G (a:Int):List DV:=[.v (.int .i64 a)]
def b7P (a:List UInt8):List DV:=[.v (a4f a)]
theorem a82 {w:World} {S:Nat->Prop} {I:Nat->Nat->Prop}:∀ {l:List Int} {X:List Value},Rep.intA.all w S X l->C6 I w (l.map b5G) X
 | [],X,h=>h
 | a :: l,X,h=>by
  obtain⟨c,r,rfl,hc,hr⟩:=h
  simp only [List.map_cons,C6]
  refine⟨c,r,rfl,?_,a82 hr⟩
  have hc':c=[.int .i64 a]:=hc
  rw [hc']
  show D6 I w [.v (.int .i64 a)] [.int .i64 a]
  simp only [D6,DVr]
  exact⟨_,_,rfl,⟨rfl,rfl⟩,rfl⟩
theorem b18 {w w':World} {S:Nat->Prop} {A:Option Addr} {m c:Nat} {l:List Int} (h:Go.Proofs.Ythadhfbkhldblaa.Own Rep.intA 3 w w'.heap.size S (.slice A m c) m l) {I:Nat->Nat->Prop}:∃ X,w.ownsRow w'.heap.size 3 1 (.slice A m c) (l.map b5G).length X/\C6 I w (l.map b5G) X:=by
 obtain⟨hm,_,X,ho,hr⟩:=h
 rw [List.length_map,<-hm]
 exact⟨X,ho,a82 hr⟩
theorem b19 {l:List Int}:∀ x ∈ l.map b5G,x.length=1:=fun x hx=>by
 obtain⟨a,_,rfl⟩:=List.mem_map.1 hx
 rfl
def D3 (l:IxD) (n:Int) (k:List UInt8):Option (IxD × Int × List Int):=chk (decide ((M8 A8 k [] l).length<=1000000000000)) (some (l,n,(M8 A8 k [] l).map (·.2)))
def C4:TFn:=⟨.cons (.bx b17) (.cons (.c (.d .str)) .nil),.cons b17 .nil,.cons (.c (.row (.int .i64) 3)) .nil,IxD × Int × List Int,fun a=>D3 a.1.1 a.1.2.1 a.2.1,fun r=>(((r.1,(r.2.1,())),()),(r.2.2,())),.none⟩
theorem P8:FnT Try.prog 15 C4:=
 ⟨rfl,rfl,⟨trivial,⟨_,Try.func15,rfl,rfl⟩,fun w I F args xs hIn hgl hargs hF hp=>by
  obtain⟨a,r,rfl,hr⟩:=hp
  obtain⟨⟨l,n,u1⟩,k,u⟩:=a
  change IxD at l
  change Int at n
  change List UInt8 at k
  have hr':D3 l n k=some r:=hr
  obtain⟨hc,hr'⟩:=P3 hr'
  injection hr' with hr'
  subst hr'
  replace hargs:OAs I w [.bx (oIx l n),.c (.d (.v (a0i k)))] args.toList F:=hargs
  obtain⟨x,r0,F1,F2,e1,hx,hr0,rfl⟩:=a6E hargs
  obtain⟨r1,rfl,hr1⟩:=a6F hr0
  obtain⟨rfl,rfl⟩:=a2u hr1
  rw [List.append_nil] at hF ⊢
  obtain⟨bx,g,xx,rfl,rfl,hw,hNI⟩:=b16 hx hF
  have ha:args= #[.pointer (some ⟨bx,0,none⟩),a0i k]:=by cases args;simp only at e1;subst e1;rfl
  subst ha
  have epost:(C4.spec.post (C4.args.oas ((l,n,u1),k,u)))=[.bx (oIx l n)]:=by
   rw [TFn.post_of rfl hr];rfl
  have eres:(C4.spec.res (C4.args.oas ((l,n,u1),k,u)))=[.c (.row 1 3 (((M8 A8 k [] l).map (·.2)).map b5G))]:=by
   rw [TFn.res_of rfl hr];rfl
  refine Calls.mono (a9X hw (of_decide_eq_true hc)) fun e w' h=>?_
  obtain⟨A,m,c,rfl,ho,hb⟩:=h
  obtain⟨X,ho',hd⟩:=b18 (I:=I) ho
  exact⟨I,[.slice A m c],_,_,rfl,a7U hIn hNI hw hb ho' hd (by decide) b19 (by decide) epost rfl eres⟩⟩⟩
def C1 (l:IxD) (n:Int) (k:List UInt8) (q:Int):Option (IxD × Int × List Int):=
 (Ff.F_sender_find (M8 A8 k [] l) q).bind fun r=>chk (decide ((0:Int)<=r.1/\r.1<=(((M8 A8 k [] l).length:Nat):Int)/\(M8 A8 k [] l).length<=1000000000000)) (some (l,n,a81 ((M8 A8 k [] l).drop r.1.toNat) q))
def E6:TFn:=⟨.cons (.bx b17) (.cons (.c (.d .str)) (.cons (.c (.d (.int .u64))) .nil)),.cons b17 .nil,.cons (.c (.row (.int .i64) 3)) .nil,IxD × Int × List Int,fun a=>C1 a.1.1 a.1.2.1 a.2.1 a.2.2.1,fun r=>(((r.1,(r.2.1,())),()),(r.2.2,())),.none⟩
theorem X8:FnT Try.prog 17 E6:=
 ⟨rfl,rfl,⟨trivial,⟨_,Try.func17,rfl,rfl⟩,fun w I F args xs hIn hgl hargs hF hp=>by
  obtain⟨a,r,rfl,hr⟩:=hp
  obtain⟨⟨l,n,u1⟩,k,q,u⟩:=a
  change IxD at l
  change Int at n
  change List UInt8 at k
  change Int at q
  have hr':C1 l n k q=some r:=hr
  unfold C1 at hr'
  obtain⟨f,hf,hr'⟩:=Option.bind_eq_some_iff.1 hr'
  obtain⟨hc,hr'⟩:=P3 hr'
  obtain⟨c1,c2,c3⟩:=of_decide_eq_true hc
  obtain⟨i,hi⟩:=Int.eq_ofNat_of_zero_le c1
  injection hr' with hr'
  subst hr'
  replace hargs:OAs I w [.bx (oIx l n),.c (.d (.v (a0i k))),.c (.d (.v (.int .u64 q)))] args.toList F:=hargs
  obtain⟨x,r0,F1,F2,e1,hx,hr0,rfl⟩:=a6E hargs
  obtain⟨r1,rfl,hr1⟩:=a6F hr0
  obtain⟨r2,rfl,hr2⟩:=a6F hr1
  obtain⟨rfl,rfl⟩:=a2u hr2
  rw [List.append_nil] at hF ⊢
  obtain⟨bx,g,xx,rfl,rfl,hw,hNI⟩:=b16 hx hF
  have ha:args= #[.pointer (some ⟨bx,0,none⟩),a0i k,.int .u64 q]:=by cases args;simp only at e1;subst e1;rfl
  subst ha
  have epost:(E6.spec.post (E6.args.oas ((l,n,u1),k,q,u)))=[.bx (oIx l n)]:=by
   rw [TFn.post_of rfl hr];rfl
  have eres:(E6.spec.res (E6.args.oas ((l,n,u1),k,q,u)))=[.c (.row 1 3 ((a81 ((M8 A8 k [] l).drop f.1.toNat) q).map b5G))]:=by
   rw [TFn.res_of rfl hr];rfl
  refine Calls.mono (b11 hIn hgl hw c3 hf hi (by omega)) fun e w' h=>?_
  obtain⟨A,m,c,rfl,ho,hb⟩:=h
  have hi':f.1.toNat=i:=by omega
  rw [hi'] at eres
  obtain⟨X,ho',hd⟩:=b18 (I:=I) ho
  exact⟨I,[.slice A m c],_,_,rfl,a7U hIn hNI hw hb ho' hd (by decide) b19 (by decide) epost rfl eres⟩⟩⟩
theorem b2a {w:World} {I:Nat->Nat->Prop}:∀ (l:List (List UInt8)),C6 I w (l.map b7P) (l.map a4f)
 | []=>rfl
 | a :: l=>by
  simp only [List.map_cons,C6]
  refine⟨[a4f a],l.map a4f,rfl,?_,b2a l⟩
  show D6 I w [.v (a4f a)] [a4f a]
  simp only [D6,DVr]
  exact⟨_,_,rfl,⟨rfl,rfl⟩,rfl⟩
def C7 (l:IxD) (n:Int):Option (IxD × Int × List (List UInt8)):=chk (a0v (l.map (·.1))) (some (l,n,W4 (l.map (·.1))))
noncomputable def B9:TFn:=⟨.cons (.bx b17) .nil,.cons b17 .nil,.cons (.c (.row .str 9)) .nil,IxD × Int × List (List UInt8),fun a=>C7 a.1.1 a.1.2.1,fun r=>(((r.1,(r.2.1,())),()),(r.2.2,())),.none⟩
theorem O6:FnT Try.prog 12 B9:=
 ⟨rfl,rfl,⟨trivial,⟨_,Try.func12,rfl,rfl⟩,fun w I F args xs hIn hgl hargs hF hp=>by
  obtain⟨a,r,rfl,hr⟩:=hp
  obtain⟨⟨l,n,u1⟩,u⟩:=a
  change IxD at l
  change Int at n
  have hr':C7 l n=some r:=hr
  obtain⟨hc,hr'⟩:=P3 hr'
  injection hr' with hr'
  subst hr'
  replace hargs:OAs I w [.bx (oIx l n)] args.toList F:=hargs
  obtain⟨x,r0,F1,F2,e1,hx,hr0,rfl⟩:=a6E hargs
  obtain⟨rfl,rfl⟩:=a2u hr0
  rw [List.append_nil] at hF ⊢
  obtain⟨bx,g,xx,rfl,rfl,hw,hNI⟩:=b16 hx hF
  have ha:args= #[.pointer (some ⟨bx,0,none⟩)]:=by cases args;simp only at e1;subst e1;rfl
  subst ha
  have epost:(B9.spec.post (B9.args.oas ((l,n,u1),u)))=[.bx (oIx l n)]:=by
   rw [TFn.post_of rfl hr];rfl
  have eres:(B9.spec.res (B9.args.oas ((l,n,u1),u)))=[.c (.row 1 9 ((W4 (l.map (·.1))).map b7P))]:=by
   rw [TFn.res_of rfl hr];rfl
  refine Calls.mono (a7T hw hc) fun e w' h=>?_
  obtain⟨v,rfl,ho,hb⟩:=h
  have hlen:((W4 (l.map (·.1))).map b7P).length=l.length:=by
   have:=ho.1
   simpa using this
  exact⟨I,[v],_,_,rfl,a7U hIn hNI hw hb (by rw [hlen];exact ho) (b2a _) (by decide) (fun x hx=>by obtain⟨a,_,rfl⟩:=List.mem_map.1 hx;rfl) (by decide) epost rfl eres⟩⟩⟩
theorem b2b (w:World):Calls Try.prog 21 #[] w fun e w'=>∃ bx g ty,e= .returned (.pointer (some ⟨bx,0,none⟩))/\w.heap.size<=bx/\w.heap.size<=g/\bx ≠ g/\w'.heap[bx]?=some (.cells #[.map (some g),.int .i64 0] ty (0,0))/\w'.heap[g]?=some (.map #[] 0)/\w.grownBy w' none:=by
 have hmm:∀ (t:TypeId) (w:World),(Instr.makeMap t none).run Try.prog w= .ok (.map (some w.heap.size)) (w.alloc (.map #[] 0)):=fun _ _=>rfl
 go_enter Try.func21,Try.ntmps21
 go_wp2
 go_ret
 refine⟨w.heap.size + 1,w.heap.size,62,rfl,Nat.le_succ _,Nat.le_refl _,by omega,?_,?_,?_⟩
 ·have:=heap_alloc_new (w.alloc (.map #[] 0)) (.cells #[.map (some w.heap.size),.int .i64 0] 62)
  simpa using this
 ·exact((K2 (w.alloc (.map #[] 0)) _).block w.heap.size (by simp) (by simp)).trans (heap_alloc_new w _)
 ·exact(K2 w _).trans (K2 _ _)
def R5:Option (IxD × Int):=some ([],0)
def O7:TFn:=⟨.nil,.nil,.cons (.c (.box b17)) .nil,IxD × Int,fun _=>R5,fun r=>((),((r.1,(r.2,())),())),.none⟩
theorem a2f:FnT Try.prog 21 O7:=
 ⟨rfl,rfl,⟨trivial,⟨_,Try.func21,rfl,rfl⟩,fun w I F args xs hIn hgl hargs hF hp=>by
  obtain⟨a,r,rfl,hr⟩:=hp
  have hr':R5=some r:=hr
  injection hr' with hr'
  subst hr'
  replace hargs:OAs I w [] args.toList F:=hargs
  obtain⟨e1,rfl⟩:=a2u hargs
  have ha:args= #[]:=by cases args;simp only at e1;subst e1;rfl
  subst ha
  have epost:(O7.spec.post (O7.args.oas a))=[]:=by
   rw [TFn.post_of rfl hr];rfl
  have eres:(O7.spec.res (O7.args.oas a))=[.c (.box (oIx [] 0))]:=by
   rw [TFn.res_of rfl hr];rfl
  refine Calls.mono (b2b w) fun e w' h=>?_
  obtain⟨bx,g,ty,rfl,h1,h2,h3,h4,h5,hg⟩:=h
  have hw:IxW w' bx [] 0 g []:=⟨_,_,ty,h4,h5,by simp [a2k],by simp,by simpa using h3,rfl,rfl⟩
  refine⟨I,[.pointer (some ⟨bx,0,none⟩)],[],[bx,g],rfl,⟨⟨hg.os,hg.tape,hg.output,hg.size,fun k hk _=>hg.block k hk (by simp)⟩,fun _ _ h=>h,fun c o hi=>World.cell?_of_block (hg.block c (hIn c o hi) (by simp)),fun _ _ h=> .inl h,fun c o hi=>Nat.lt_of_lt_of_le (hIn c o hi) hg.size,?_,?_,by simpa using h3,fun c hc=>?_⟩⟩
  ·rw [epost];exact⟨rfl,rfl⟩
  ·rw [eres]
   simp only [OAs,OAr]
   refine⟨_,_,[bx,g],[],rfl,b5k hw fun c hc o hi=>?_,⟨rfl,rfl⟩,by simp⟩
   have:=hIn c o hi
   simp only [List.mem_cons,List.not_mem_nil,or_false] at hc
   omega
  ·simp only [List.nil_append,List.mem_cons,List.not_mem_nil,or_false] at hc
   right;omega⟩⟩
end Go.Proofs.Ythadhfbkhldblaa.Am
