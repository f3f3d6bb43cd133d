/- Texts laid together: MoneyAdd, PLoop, GList. No conditions. -/
import Derived.Test.YtjbgdpjgfjnkbaaGreatDoorQAA
import Derived.Shelf.Spec.BitsCarry
namespace Go.Proofs.YtjbgdpjgfjnkbaaGreatDoor.Am
open Go Go.Proofs Go.RowKit
theorem NC (x y:Int) (hx:0<=x) (hy:0<=y) (w:World):(callFunc 243 #[.int .u64 x,.int .u64 y,.int .u64 0]).run Tryz.prog w =
  .ok (.value (.tuple #[.int .u64 ((x + y + 0) % 18446744073709551616),.int .u64 ((x + y + 0) / 18446744073709551616)])) w:=by
 rw [run_callFunc_extern Tryz.func243 (by kernel_rfl) (by kernel_rfl) (by kernel_rfl) (e:=add64Entry) (by kernel_rfl),run_add64 x y 0 hx hy (by omega) (by omega)];rfl
theorem Ap (n:Int) (b:Bool) (w:World):Calls Tryz.prog 244 #[.int .u64 n,.bool b] w λe w'=>e= .returned (.tuple #[.int .u64 (if b then n else 0),.bool b])/\w'=w:=by
 cases b
 ·go_enter Tryz.func244,Tryz.ntmps244
  go_wp2
  go_ret2
  exact⟨rfl,rfl⟩
 ·go_enter Tryz.func244,Tryz.ntmps244
  go_wp2
  go_ret2
  exact⟨rfl,rfl⟩
def lZ (a0 a1:Int):Option (Int × Bool):=chk (decide (0<=a0/\0<=a1)) (some (if decide (a0 + a1 < 18446744073709551616) then a0 + a1 else 0,decide (a0 + a1 < 18446744073709551616)))
def tY:TFn:=⟨.cons (.c (.d (.int .u64))) (.cons (.c (.d (.int .u64))) .nil),.nil,.cons (.c (.d (.int .u64))) (.cons (.c (.d .bool)) .nil),Int × Bool,λa=>lZ a.1 a.2.1,λr=>((),(r.1,(r.2,()))),.none⟩
theorem ND {x y:Int} (hx:0<=x) (hy:0<=y) (w:World):Calls Tryz.prog 194 #[.int .u64 x,.int .u64 y] w λe w'=>e= .returned (.tuple #[.int .u64 (if decide (x + y < 18446744073709551616) then x + y else 0),.bool (decide (x + y < 18446744073709551616))])/\w'=w:=by
 have h:=NC x y hx hy;by_cases hs:x + y < 18446744073709551616
 ·have e1:(x + y + 0) % 18446744073709551616=x + y:=by omega
  have e2:(x + y + 0) / 18446744073709551616=0:=by omega
  rw [e1,e2] at h;rw [a2S hs]
  go_enter Tryz.func194,Tryz.ntmps194
  go_wp2_with (first | (simp only) | (go_at_call 244;refine(Ap _ _ _).mono ?_;rintro e w' ⟨rfl,hw⟩;rw [hw]))
  go_ret2
  exact⟨rfl,rfl⟩
 ·have e2:((x + y) / 18446744073709551616 == 0)=false:=by simp;omega
  rw [a2Y hs]
  go_enter Tryz.func194,Tryz.ntmps194
  go_wp2_with (first | (simp only) | (go_at_call 244;refine(Ap _ _ _).mono ?_;rintro e w' ⟨rfl,hw⟩;rw [hw]))
  go_ret2
  exact⟨rfl,rfl⟩
theorem DB:FnT Tryz.prog 194 tY:=
 ⟨rfl,rfl,⟨trivial,⟨_,Tryz.func194,rfl,rfl⟩,λw I F args xs hIn hgl hargs hF hp=>by
  obtain⟨a,r,rfl,hr⟩:=hp;obtain⟨a0,a1,u⟩:=a;change Int at a0;change Int at a1;obtain⟨r0,r1⟩:=r;change Int at r0;change Bool at r1;have hr':lZ a0 a1=some (r0,r1):=hr;unfold lZ at hr';obtain⟨hc,hr'⟩:=je hr';have hc:=a23 hc;injection hr' with hr'
  replace hargs:OAs I w [.c (.d (.v (.int .u64 a0))),.c (.d (.v (.int .u64 a1)))] args.toList F:=hargs
  simp only [OAs,OAr,OCr,DVr] at hargs;obtain⟨x,q1,F1,F2,e1,⟨rfl,rfl,_⟩,⟨y,q2,F3,F4,rfl,⟨rfl,rfl,_⟩,⟨rfl,rfl⟩,rfl⟩,rfl⟩:=hargs;have ha:args= #[.int .u64 a0,.int .u64 a1]:=by
   cases args;simp only at e1;subst e1;rfl
  subst ha;refine Calls.mono (ND hc.1 hc.2 w) λe w' h=>?_;obtain⟨rfl,rfl⟩:=h;refine⟨I,[.int .u64 r0,.bool r1],[],[],by injection hr' with h1 h2;subst h1;subst h2;rfl,?_⟩;refine⟨⟨rfl,rfl,rfl,a3j _,λ_ _ _=>rfl⟩,λ_ _ h=>h,ol.refl _ _,λ_ _ h=> .inl h,hIn,?_,?_,by simp,by simp⟩
  ·rw [TFn.post_of rfl hr];exact⟨rfl,rfl⟩
  ·have e1:(tY.spec.res (tY.args.oas (a0,a1,u)))=[.c (.d (.v (.int .u64 r0))),.c (.d (.v (.bool r1)))]:=by
    rw [TFn.res_of rfl hr];rfl
   rw [e1];simp only [OAs,OAr,OCr,DVr];exact⟨_,_,[],[],rfl,⟨rfl,rfl,rfl⟩,⟨_,_,[],[],rfl,⟨rfl,rfl,rfl⟩,⟨rfl,rfl⟩,rfl⟩,rfl⟩⟩⟩
end Go.Proofs.YtjbgdpjgfjnkbaaGreatDoor.Am
namespace Go.Proofs.YtjbgdpjgfjnkbaaGreatDoor.Am
open Go
theorem T2 {S R:Type} {G:S->Option (S ⊕ R)} {p:R->Prop} (inv:Nat->S->Prop) (step:∀ n x,inv n x->Ok (G x) (Nxt p λz=>∃ m,m < n/\inv m z)) :
  ∀ {n:Nat} {x:S},inv n x->n < 1180591620717411303424->Ok (F8 G x) p:=by
 have key:∀ (f n:Nat) (x:S),inv n x->n < f->Ok (Kp f G x) p:=by
  intro f
  induction f with
  | zero=>intro n x _ h;omega
  | succ f ih=>
   intro n x hi hm;obtain⟨y,hy,h⟩:=step n x hi;unfold Kp;rw [hy];cases y with
   | inl z=>
    obtain⟨m,h1,h2⟩:=h;exact ih m z h2 (by omega)
   | inr r=>exact⟨r,rfl,h⟩
 intro n x hi hm;show Ok (Kp EH G x) p;rw [vN];exact key _ n x hi hm
theorem D8 {α β S R:Type} {G:S->Option (S ⊕ R)} {p:R->Prop} (l:List α) (st:Nat->β->S) (inv:Nat->β->Prop)
  (step:∀ i b,(h:i < l.length)->inv i b->Ok (G (st i b)) (Nxt p λz=>∃ b',z=st (i + 1) b'/\inv (i + 1) b'))
  (stop:∀ b,inv l.length b->Ok (G (st l.length b)) (Nxt p λ_=>False)) {b0:β} (h0:inv 0 b0) (hl:l.length < 1180591620717411303424):Ok (F8 G (st 0 b0)) p:=by
 refine T2 (λn x=>∃ i b,i + n=l.length/\x=st i b/\inv i b) ?_ ⟨0,b0,by omega,rfl,h0⟩ hl;rintro n x ⟨i,b,hn,rfl,hi⟩;by_cases h:i < l.length
 ·refine(step i b h hi).mono λr hr=>?_;cases r with
  | inl z=>
   obtain⟨b',h1,h2⟩:=hr;exact⟨n - 1,by omega,i + 1,b',by omega,h1,h2⟩
  | inr r=>exact hr
 ·have e:i=l.length:=by omega
  subst e;refine(stop b hi).mono λr hr=>?_;cases r with
  | inl z=>exact hr.elim
  | inr r=>exact hr
theorem E8 {α:Type} (x y:Option α):sel true x y=x:=rfl
theorem E3 {α:Type} (x y:Option α):sel false x y=y:=rfl
theorem C4 {α:Type} (x:Option α):chk true x=x:=rfl
theorem E0 {α:Type} {l:List α} {i:Nat} (h:i < l.length) (d:α):l.getD i d=l[i]:=by
 rw [List.getD_eq_getElem?_getD,List.getElem?_eq_getElem h];rfl
theorem I2 {α:Type} {l:List α} {i:Nat} (h:i < l.length):l.take (i + 1)=l.take i ++ [l[i]]:=a4D h
theorem D2 {i:Nat} (h:i < 9223372036854775807):A9 ((i:Int) + 1)=((i + 1:Nat):Int):=by
 rw [C8] <;> omega
section
variable {α:Type}
theorem kp {A B:List α} {x d:α} {i:Nat} (h:i=A.length):(A ++ x :: B).getD i d=x:=by
 subst h;simp
theorem Ub {A B:List α} {x y:α} {i:Nat} (h:i=A.length):(A ++ x :: B).set i y=A ++ y :: B:=by
 subst h;simp
theorem Ge {A M B:List α} {x y d:α} {i j:Nat} (hi:i=A.length) (hj:j=A.length + 1 + M.length) :
  ((A ++ x :: (M ++ y :: B)).set i ((A ++ x :: (M ++ y :: B)).getD j d)).set j ((A ++ x :: (M ++ y :: B)).getD i d)=A ++ y :: (M ++ x :: B):=by
 have e1:(A ++ x :: (M ++ y :: B)).getD i d=x:=kp hi;have e2:A ++ x :: (M ++ y :: B)=(A ++ x :: M) ++ y :: B:=by simp
 have e3:(A ++ x :: (M ++ y :: B)).getD j d=y:=by rw [e2];exact kp (by simp;omega)
 rw [e1,e3,Ub hi];have e4:A ++ y :: (M ++ y :: B)=(A ++ y :: M) ++ y :: B:=by simp
 rw [e4,Ub (by simp;omega)];simp
theorem Io {A M B:List α} {x y d:α} {i j:Nat} (hi:i=A.length) (hj:j=A.length + 1 + M.length) :
  ((A ++ x :: (M ++ y :: B)).set j ((A ++ x :: (M ++ y :: B)).getD i d)).set i ((A ++ x :: (M ++ y :: B)).getD j d)=A ++ y :: (M ++ x :: B):=by
 rw [List.set_comm _ _ (by omega)];exact Ge hi hj
theorem Aq {l:List α} {i:Nat} (h:i<=l.length):∃ A B,l=A ++ B/\A.length=i:=⟨l.take i,l.drop i,(a3q i l).symm,by simp;omega⟩
theorem qC {l:List α} (h:0 < l.length):∃ A x,l=A ++ [x]:=by
 have hne:l ≠ []:=by intro e;rw [e] at h;simp at h
 exact⟨l.dropLast,l.getLast hne,(List.dropLast_concat_getLast hne).symm⟩
theorem Ip {l:List α} (h:0 < l.length):∃ x A,l=x :: A:=by
 cases l with
 | nil=>simp at h
 | cons x A=>exact⟨x,A,rfl⟩
theorem xf {p:List α->Prop} (h0:p []) (h1:∀ l x,p l->p (l ++ [x])) (l:List α):p l:=by
 have:∀ m:List α,p m.reverse:=by
  intro m
  induction m with
  | nil=>exact h0
  | cons x m ih=>rw [List.reverse_cons];exact h1 _ _ ih
 have h:=this l.reverse
 rwa [List.reverse_reverse] at h
end
section
variable {α:Type} (lt:α->α->Bool)
def PM (x:α):List α->List α
 | []=>[x]
 | y :: ys=>if lt x y then y :: PM x ys else x :: y :: ys
def wM (x:α) (s:List α):List α:=(PM lt x s.reverse).reverse
def iH (l:List α):List α:=l.foldl (λs x=>wM lt x s) []
theorem xg (x:α):wM lt x []=[x]:=rfl
theorem rW (x y:α) (s:List α):wM lt x (s ++ [y])=if lt x y then wM lt x s ++ [y] else s ++ [y,x]:=by
 unfold wM;rw [List.reverse_append];simp only [List.reverse_cons,List.reverse_nil,a3E,a3x,PM];split <;> simp
theorem pN (l:List α) (x:α):iH lt (l ++ [x])=wM lt x (iH lt l):=by
 unfold iH;rw [a40];rfl
theorem RB (x:α) (s:List α):(wM lt x s).length=s.length + 1:=by
 have:∀ t:List α,(PM lt x t).length=t.length + 1:=by
  intro t
  induction t with
  | nil=>rfl
  | cons y t ih=>unfold PM;split <;> simp [ih]
 simp [wM,this]
theorem X8:∀ (l:List α),(iH lt l).length=l.length:=by
 intro l
 induction l using xf with
 | h0=>rfl
 | h1 l x ih=>rw [pN,RB,ih];simp
theorem RC (x z:α) (s:List α):z ∈ wM lt x s ↔ z=x\/z ∈ s:=by
 have:∀ t:List α,z ∈ PM lt x t ↔ z=x\/z ∈ t:=by
  intro t
  induction t with
  | nil=>simp [PM]
  | cons y t ih=>
   unfold PM;split
   ·simp only [a4c,ih];constructor
    ·rintro(h | h | h)
     ·exact .inr (.inl h)
     ·exact .inl h
     ·exact .inr (.inr h)
    ·rintro(h | h | h)
     ·exact .inr (.inl h)
     ·exact .inl h
     ·exact .inr (.inr h)
   ·simp only [a4c]
 simp [wM,this]
structure Swo:Prop where
 irr:∀ a,lt a a=false
 asy:∀ a b,lt a b=true->lt b a=false
 tr:∀ a b c,lt a b=false->lt b c=false->lt a c=false
def oH (l:List α):Prop:=l.Pairwise λa b=>lt b a=false
def eqv (x y:α):Bool:= !lt x y && !lt y x
variable {lt}
theorem oh {x y:α}:eqv lt x y=true ↔ lt x y=false/\lt y x=false:=by simp [eqv]
theorem Swo.eqv_refl (h:Swo lt) (x:α):eqv lt x x=true:=oh.2 ⟨h.irr x,h.irr x⟩
theorem Swo.eqv_symm {x y:α} (e:eqv lt x y=true):eqv lt y x=true:=oh.2 ⟨(oh.1 e).2,(oh.1 e).1⟩
theorem Swo.eqv_trans (h:Swo lt) {x y z:α} (e:eqv lt x y=true) (k:eqv lt y z=true):eqv lt x z=true:=
 oh.2 ⟨h.tr _ _ _ (oh.1 e).1 (oh.1 k).1,h.tr _ _ _ (oh.1 k).2 (oh.1 e).2⟩
def ga (l m:List α):Prop:=∀ x,l.filter (eqv lt x)=m.filter (eqv lt x)
theorem ga.mem (h:Swo lt) {l m:List α} (e:ga (lt:=lt) l m) {x:α} (hx:x ∈ l):x ∈ m:=by
 have h1:x ∈ l.filter (eqv lt x):=List.mem_filter.2 ⟨hx,h.eqv_refl x⟩;rw [e x] at h1;exact(List.mem_filter.1 h1).1
theorem ga.refl (l:List α):ga (lt:=lt) l l:=λ_=>rfl
theorem ga.symm {l m:List α} (e:ga (lt:=lt) l m):ga (lt:=lt) m l:=λx=>(e x).symm
theorem ga.trans {l m n:List α} (e:ga (lt:=lt) l m) (k:ga (lt:=lt) m n):ga (lt:=lt) l n:=λx=>(e x).trans (k x)
theorem ga.app {l m l' m':List α} (e:ga (lt:=lt) l m) (k:ga (lt:=lt) l' m'):ga (lt:=lt) (l ++ l') (m ++ m'):=λx=>by
 rw [a4X,a4X,e x,k x]
theorem ga.comm (h:Swo lt) {A B:List α} (hlt:∀ a ∈ A,∀ b ∈ B,lt b a=true):ga (lt:=lt) (A ++ B) (B ++ A):=λx=>by
 rw [a4X,a4X];cases hA:A.filter (eqv lt x) with
 | nil=>simp
 | cons a tl=>
  cases hB:B.filter (eqv lt x) with
  | nil=>simp
  | cons b bs=>
   have ha:a ∈ A.filter (eqv lt x):=by rw [hA];simp
   have hb:b ∈ B.filter (eqv lt x):=by rw [hB];simp
   obtain⟨ha1,ha2⟩:=List.mem_filter.1 ha;obtain⟨hb1,hb2⟩:=List.mem_filter.1 hb;have:=h.eqv_trans (Swo.eqv_symm hb2) ha2;have h1:=hlt a ha1 b hb1;rw [(oh.1 this).1] at h1;cases h1
theorem Iq (h:Swo lt):∀ {l m:List α},oH lt l->oH lt m->ga (lt:=lt) l m->l=m
 | [],[],_,_,_=>rfl
 | [],b :: m,_,_,e=>by
  have:=e.symm.mem h (x:=b) (by simp);simp at this
 | a :: l,[],_,_,e=>by
  have:=e.mem h (x:=a) (by simp);simp at this
 | a :: l,b :: m,hl,hm,e=>by
  have ha:a ∈ b :: m:=e.mem h (by simp);have hb:b ∈ a :: l:=e.symm.mem h (by simp);unfold oH at hl hm;rw [a4I] at hl hm;have h1:lt a b=false:=by
   rcases List.mem_cons.1 ha with rfl | ha
   ·exact h.irr _
   ·exact hm.1 a ha
  have h2:lt b a=false:=by
   rcases List.mem_cons.1 hb with rfl | hb
   ·exact h.irr _
   ·exact hl.1 b hb
  have e1:=e a;rw [a4r (h.eqv_refl a),a4r (oh.2 ⟨h1,h2⟩)] at e1;injection e1 with e1 _;subst e1;refine congrArg (a :: ·) (Iq h hl.2 hm.2 λx=>?_);have e2:=e x;cases hx:eqv lt x a with
  | true=>
   rw [a4r hx,a4r hx] at e2;injection e2
  | false=>
   rw [a4W (by simp [hx]),a4W (by simp [hx])] at e2;exact e2
theorem RD (h:Swo lt) (x:α):∀ {s:List α},oH lt s->oH lt (wM lt x s)/\ga (lt:=lt) (wM lt x s) (s ++ [x]):=by
 intro s
 induction s using xf with
 | h0=>intro _;exact⟨by simp [xg,oH],ga.refl _⟩
 | h1 s y ih=>
  intro hs;unfold oH at hs;rw [a4d] at hs;obtain⟨h1,_,h3⟩:=hs;obtain⟨i1,i2⟩:=ih h1;rw [rW];split
  ·rename_i hxy;refine⟨?_,?_⟩
   ·unfold oH;rw [a4d];refine⟨i1,by simp,λa ha b hb=>?_⟩;simp only [a3o] at hb;subst hb;rcases(RC lt x a s).1 ha with rfl | ha
    ·exact h.asy _ _ hxy
    ·exact h3 a ha b (by simp)
   ·refine(i2.app (ga.refl [y])).trans ?_;rw [a3c,a3c];refine(ga.refl s).app ?_;have:=ga.comm h (A:=[y]) (B:=[x]) (by simpa using hxy);exact this.symm
  ·rename_i hxy;have hxy':lt x y=false:=by simpa using hxy
   refine⟨?_,by simpa using ga.refl _⟩;unfold oH;rw [a4d];refine⟨h1,by simpa using hxy',λa ha b hb=>?_⟩;simp only [a4c,a4H,or_false] at hb;have hay:=h3 a ha y (by simp);rcases hb with rfl | rfl
   ·exact hay
   ·exact h.tr _ _ _ hxy' hay
theorem lz (h:Swo lt):∀ (l:List α),oH lt (iH lt l)/\ga (lt:=lt) (iH lt l) l:=by
 intro l
 induction l using xf with
 | h0=>exact⟨by simp [iH,oH],ga.refl _⟩
 | h1 l x ih=>
  rw [pN];obtain⟨h1,h2⟩:=RD h x ih.1;exact⟨h1,h2.trans (ih.2.app (ga.refl [x]))⟩
theorem NF (h:Swo lt) {l:List α} {x:α}:x ∈ iH lt l ↔ x ∈ l:=⟨λhx=>(lz h l).2.mem h hx,λhx=>(lz h l).2.symm.mem h hx⟩
end
end Go.Proofs.YtjbgdpjgfjnkbaaGreatDoor.Am
