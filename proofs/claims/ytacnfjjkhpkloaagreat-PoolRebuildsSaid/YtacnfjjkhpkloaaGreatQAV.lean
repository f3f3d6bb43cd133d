/- Texts laid together: PPool2, PPool3. No conditions. -/
import Derived.Test.YtacnfjjkhpkloaaGreatQAU
namespace Go.Proofs.YtacnfjjkhpkloaaGreat.Am
open Go
section
variable {c:Nat} {p:PP} {L:List Rec}
theorem b0o {α:Type} {R:α->α->Prop} (anti:∀ a b,R a b->¬ R b a):∀ {l m:List α},l.Perm m->l.Pairwise R->m.Pairwise R->l=m
 | l,[],hp,_,_=>hp.eq_nil
 | [],x :: m,hp,_,_=>hp.symm.eq_nil.symm
 | y :: l,x :: m,hp,hl,hm=>by
  rw [List.pairwise_cons] at hl hm
  have e:y=x:=by
   rcases List.mem_cons.1 (hp.mem_iff.1 (List.mem_cons_self (a:=y))) with e | h1
   ·exact e
   ·rcases List.mem_cons.1 (hp.mem_iff.2 (List.mem_cons_self (a:=x))) with e | h2
    ·exact e.symm
    ·exact(anti _ _ (hl.1 _ h2) (hm.1 _ h1)).elim
  subst e
  rw [b0o anti ((List.perm_cons y).1 hp) hl.2 hm.2]
theorem a43 {α β:Type} (f:α->β) (L1 L2:List α) (x:α):((L1 ++ x :: L2).map f).Perm (f x :: (L1 ++ L2).map f):=by
 rw [List.map_append,List.map_cons,List.map_append]
 exact List.perm_middle
theorem b2z {α:Type} {R:α->α->Prop} {L1 L2:List α} {x:α} (h:(L1 ++ x :: L2).Pairwise R):(L1 ++ L2).Pairwise R/\(∀ y ∈ L1,R y x)/\∀ y ∈ L2,R x y:=by
 rw [List.pairwise_append,List.pairwise_cons] at h
 obtain⟨h1,⟨h2,h3⟩,h4⟩:=h
 exact⟨List.pairwise_append.2 ⟨h1,h3,fun a ha b hb=>h4 a ha b (List.mem_cons_of_mem _ hb)⟩,fun y hy=>h4 y hy x (by simp),h2⟩
theorem PJ.remove (h:PJ c p L) (hc:c<=900) (k:KD) :
  ∃ p' L',c7l p k=some (a2F p' (decide (a1S (L.map J2) k)))/\PJ c p' L'/\L'.map J2=(L.map J2).eraseP (isK k)/\p'.cf=p.cf:=by
 unfold c7l P5
 by_cases hk:a1S (L.map J2) k
 ·obtain⟨x,hx,hxk⟩:=a6v.1 hk
  obtain⟨L1,L2,rfl⟩:=List.append_of_mem hx
  have hg:=h.get hx
  unfold c0F at hg
  rw [hxk] at hg
  have hid:=h.id hx
  rw [hxk] at hid
  have hpl:=h.pl hx U8
  obtain⟨hl1,hl2⟩:=h.len
  rw [hg,Option.bind_some,decide_eq_true hk]
  unfold a2F
  dsimp only
  rw [Bool.not_true,L0,hid,hpl]
  obtain⟨sl',free',e1,hsj⟩:=h.slab.remove p.most (by omega) (a43 slR L1 L2 x)
  have e1:S5 p.most p.size p.sl p.free x.2.1=some (p.most,p.size - 1,sl',free',true):=e1
  obtain⟨mh,hh,hhp⟩:=h.heap
  have hmhl:mh.length<=512:=by rw [hhp.length_eq,List.length_map];exact hl1
  have hhp2:=hhp.trans (a43 a8w L1 L2 x)
  have hmem:a8w x ∈ mh:=hhp2.mem_iff.2 (by simp)
  obtain⟨it',hp',e2,hh'⟩:=hh.remove (by omega) x.1
  have hmid:x.1 ∈ mh.map fun x=>x.1:=List.mem_map.2 ⟨a8w x,hmem,rfl⟩
  rw [if_pos hmid] at hh'
  have hdel:=b6E hh.ids hmem rfl
  obtain⟨m,hs,hmp⟩:=h.send
  obtain⟨l',n',e3,hs'⟩:=hs.rem (by omega) x.2.2.2.2.1 x.2.2.2.2.2.1
  have hmp2:=hmp.trans (a43 rowR L1 L2 x)
  have hR:b5g m x.2.2.2.2.1 x.2.2.2.2.2.1:=⟨rowR x,hmp2.mem_iff.2 (by simp),rfl,rfl⟩
  obtain⟨w',e4,hq'⟩:=h.wait.rem x.1
  obtain⟨s1,s2,s3⟩:=b2z h.sort
  obtain⟨k1,k2,k3⟩:=b2z h.kd
  obtain⟨d1,d2,d3⟩:=b2z h.sd
  rw [e1,Option.bind_some,e2,Option.bind_some,e3,Option.bind_some,e4,Option.bind_some]
  have hsub:∀ y ∈ L1 ++ L2,y ∈ L1 ++ x :: L2:=fun y hy=>by
   rcases List.mem_append.1 hy with hy | hy
   ·exact List.mem_append_left _ hy
   ·exact List.mem_append_right _ (List.mem_cons_of_mem _ hy)
  refine⟨⟨p.cf,p.most,p.size - 1,sl',free',it',hp',l',n',p.b,p.t,w',a5u J8 x.1 p.pl,a5u D3 (Vector.toList k) p.ids,p.nx⟩,L1 ++ L2,rfl,?_,?_,rfl⟩
  ·refine {cfg:=h.cfg,most:=h.most,ttl:=h.ttl,sort:=s1,num:=fun y hy=>h.num y (hsub y hy),nx:=h.nx,slab:=hsj,heap:=⟨_,hh',?_⟩,send:=⟨_,hs',?_⟩,wait:=?_,place:=?_,keys:=?_,kd:=k1,sd:=d1,lim:=?_,ents:=fun y hy=>h.ents y (hsub y hy)}
   ·exact(List.perm_cons (a8w x)).1 (hdel.trans hhp2)
   ·unfold b7K
    rw [if_pos hR]
    refine(hmp2.filter _).trans ?_
    have hkeep:((L1 ++ L2).map rowR).filter (b0C x.2.2.2.2.1 x.2.2.2.2.2.1)=(L1 ++ L2).map rowR:=List.filter_eq_self.2 fun r hr=>by
     obtain⟨y,hy,rfl⟩:=List.mem_map.1 hr
     refine decide_eq_true fun hq=>?_
     rcases List.mem_append.1 hy with hy | hy
     ·exact d2 y hy hq
     ·exact d3 y hy ⟨hq.1.symm,hq.2.symm⟩
    rw [List.filter_cons_of_neg (by simp [b0C,rowR]),hkeep]
   ·have hw:x.1 ∈ D1 ((L1 ++ x :: L2).map a8x):=E8.2 ⟨(a8x x).2,List.mem_map.2 ⟨x,hx,rfl⟩⟩
    have hr:c7f ((L1 ++ x :: L2).map a8x) x.1=((L1 ++ L2).map a8x,true):=by
     unfold c7f
     rw [if_pos hw,List.map_append,List.map_cons,List.map_append,List.filter_append,List.filter_cons_of_neg (by simp [a8x])]
     have f1:(L1.map a8x).filter (fun w=>decide (w.1 ≠ x.1))=L1.map a8x:=List.filter_eq_self.2 fun r hr=>by
      obtain⟨y,hy,rfl⟩:=List.mem_map.1 hr
      have:=s2 y hy
      exact decide_eq_true (by show y.1 ≠ x.1;omega)
     have f2:(L2.map a8x).filter (fun w=>decide (w.1 ≠ x.1))=L2.map a8x:=List.filter_eq_self.2 fun r hr=>by
      obtain⟨y,hy,rfl⟩:=List.mem_map.1 hr
      have:=s3 y hy
      exact decide_eq_true (by show y.1 ≠ x.1;omega)
     rw [f1,f2]
    rw [hr] at hq'
    exact hq'
   ·have hp1:=h.place.trans (a43 plR L1 L2 x)
    have hm:plR x ∈ p.pl:=hp1.mem_iff.2 (by simp)
    exact(List.perm_cons (plR x)).1 ((a3g Q4 h.pnd hm).trans hp1)
   ·have hp1:=h.keys.trans (a43 idR L1 L2 x)
    have hm:idR x ∈ p.ids:=hp1.mem_iff.2 (by simp)
    have h3:(idR x :: a5u D3 (Vector.toList x.2.2.1) p.ids).Perm p.ids:=a3g a0K h.knd hm
    have h4:=(List.perm_cons (idR x)).1 (h3.trans hp1)
    rw [hxk] at h4
    exact h4
   ·have h1:=h.lim
    have hb:P0 ((L1 ++ x :: L2).map J2)=P0 ((L1 ++ L2).map J2) + a6S x.2.2:=by
     unfold P0
     rw [((a43 J2 L1 L2 x).map a6S).sum_nat,List.map_cons,List.sum_cons]
     show a6S (J2 x) + _=_
     rw [Nat.add_comm];rfl
    rw [hb] at h1
    simp only [List.length_append,List.length_cons] at h1 ⊢
    omega
  ·rw [List.map_append,List.map_append,List.map_cons,List.eraseP_append_right _ fun e he=>by
    obtain⟨y,hy,rfl⟩:=List.mem_map.1 he
    rw [isK,decide_eq_false fun e4=>k2 y hy (e4.trans hxk.symm)];decide]
   rw [List.eraseP_cons_of_pos (by exact decide_eq_true hxk)]
 ·have hg:=h.get0 hk
  unfold c0F at hg
  rw [hg,Option.bind_some,decide_eq_false hk]
  unfold a2F
  dsimp only
  rw [Bool.not_false,U3]
  refine⟨p,L,rfl,h,?_,rfl⟩
  rw [List.eraseP_of_forall_not fun e he=>by rw [isK,decide_eq_false fun e4=>hk ⟨e,he,e4⟩];decide]
def b7O (p:PP):=I1 p.cf p.most p.size p.sl p.free p.it p.hp p.ix p.n p.b p.t p.w p.pl p.ids p.nx
def sortP (p:PP):=J0 p.cf p.most p.size p.sl p.free p.it p.hp p.ix p.n p.b p.t p.w p.pl p.ids p.nx
def c0H (p:PP) (n:List UInt8):=P4 p.cf p.most p.size p.sl p.free p.it p.hp p.ix p.n p.b p.t p.w p.pl p.ids p.nx n
def c7L (p:PP) (h t:Int):=N3 p.cf p.most p.size p.sl p.free p.it p.hp p.ix p.n p.b p.t p.w p.pl p.ids p.nx h t
def lenP (p:PP):=S3 p.cf p.most p.size p.sl p.free p.it p.hp p.ix p.n p.b p.t p.w p.pl p.ids p.nx
def bytP (p:PP):=R8 p.cf p.most p.size p.sl p.free p.it p.hp p.ix p.n p.b p.t p.w p.pl p.ids p.nx
def c85 (p:PP):=a0Z p.cf p.most p.size p.sl p.free p.it p.hp p.ix p.n p.b p.t p.w p.pl p.ids p.nx
theorem PJ.lenP (h:PJ c p L):lenP p=some (a2F p ((L.length:Nat):Int)):=by
 unfold Am.lenP S3 a0e
 rw [Option.bind_some]
 dsimp only
 rw [<-h.sizeL];rfl
theorem PJ.bytP (h:PJ c p L) (hc:c<=900):bytP p=some (a2F p ((P0 (L.map J2):Nat):Int)):=by
 unfold Am.bytP R8
 rw [h.bytesL hc];rfl
theorem PJ.ents_ok (h:PJ c p L) (hc:c<=900):b7O p=some (a2F p (L.map J2)):=by
 have hl:=h.len
 have hks:(D1 (L.map plR)).Pairwise fun a b=>a < b:=by
  unfold D1
  rw [List.map_map]
  exact List.pairwise_map.2 (h.sort.imp fun h=>h)
 have e1:a4b (D1 p.pl)=L.map (·.1):=by
  have:=a3E a9g a9h b1Z (hks.imp fun h=>decide_eq_true (by omega)) (H5 h.place)
  refine Eq.trans this ?_
  unfold D1
  rw [List.map_map];rfl
 have hg:a5e (D1 p.pl)=true:=decide_eq_true ⟨h.pnd,fun x hx=>by
  obtain⟨v,hv⟩:=E8.1 ((H5 h.place).mem_iff.1 hx)
  obtain⟨y,hy,e⟩:=List.mem_map.1 hv
  have h1:=h.num y hy
  have h2:=h.nx
  have e:y.1=x:=congrArg Prod.fst e
  omega,by rw [a42,h.place.length_eq,List.length_map];unfold LIM;omega⟩
 have ho:=h.of (xs:=L) (fun x hx=>hx) (by omega)
 unfold ofP at ho
 unfold b7O I1
 rw [hg,M5,e1,ho];rfl
end
end Go.Proofs.YtacnfjjkhpkloaaGreat.Am
namespace Go.Proofs.YtacnfjjkhpkloaaGreat.Am
open Go
theorem c2E {α β:Type} {ca:α->α->Int} {cb:β->β->Int} (f:α->β) (hf:∀ x y,ca x y=cb (f x) (f y)) (x:α) (s:List α):(a58 (ltc ca) x s).map f=a58 (ltc cb) (f x) (s.map f):=by
 obtain⟨n,hn⟩:∃ n,s.length=n:=⟨_,rfl⟩
 induction n generalizing s with
 | zero=>have:=List.eq_nil_of_length_eq_zero hn;subst this;rfl
 | succ n ih=>
  obtain⟨s2,y,rfl⟩:=a4m (by omega:0 < s.length)
  have hl:s2.length=n:=by simpa using hn
  have hlt:ltc ca x y=ltc cb (f x) (f y):=by unfold ltc;rw [hf]
  rw [List.map_append]
  show _=a58 (ltc cb) (f x) (s2.map f ++ [f y])
  rw [a2p,a2p,hlt]
  by_cases h:ltc cb (f x) (f y)=true
  ·rw [if_pos h,if_pos h,List.map_append,ih s2 hl];rfl
  ·rw [if_neg h,if_neg h,List.map_append];rfl
theorem b3N {α β:Type} {ca:α->α->Int} {cb:β->β->Int} (f:α->β) (hf:∀ x y,ca x y=cb (f x) (f y)) (l:List α):(a4Y (ltc ca) l).map f=a4Y (ltc cb) (l.map f):=by
 obtain⟨n,hn⟩:∃ n,l.length=n:=⟨_,rfl⟩
 induction n generalizing l with
 | zero=>have:=List.eq_nil_of_length_eq_zero hn;subst this;rfl
 | succ n ih=>
  obtain⟨s2,y,rfl⟩:=a4m (by omega:0 < l.length)
  rw [List.map_append]
  show _=a4Y (ltc cb) (s2.map f ++ [f y])
  rw [a1R,a1R,c2E f hf,ih s2 (by simpa using hn)]
theorem b3O {α:Type} (lt:α->α->Bool) (x:α) (s:List α):(a58 lt x s).Perm (x :: s):=by
 obtain⟨n,hn⟩:∃ n,s.length=n:=⟨_,rfl⟩
 induction n generalizing s with
 | zero=>have:=List.eq_nil_of_length_eq_zero hn;subst this;exact List.Perm.refl _
 | succ n ih=>
  obtain⟨s2,y,rfl⟩:=a4m (by omega:0 < s.length)
  rw [a2p]
  split
  ·exact(ih s2 (by simpa using hn)).append_right [y]
  ·have:(s2 ++ [y,x]).Perm ([x] ++ (s2 ++ [y])):=by
    have:=List.perm_append_comm (l₁:=s2 ++ [y]) (l₂:=[x])
    rwa [List.append_assoc] at this
   exact this
theorem a02 {α:Type} (lt:α->α->Bool) (l:List α):(a4Y lt l).Perm l:=by
 obtain⟨n,hn⟩:∃ n,l.length=n:=⟨_,rfl⟩
 induction n generalizing l with
 | zero=>have:=List.eq_nil_of_length_eq_zero hn;subst this;exact List.Perm.refl _
 | succ n ih=>
  obtain⟨s2,y,rfl⟩:=a4m (by omega:0 < l.length)
  rw [a1R]
  exact(b3O lt y _).trans (((ih s2 (by simpa using hn)).cons y).trans (List.perm_append_comm (l₁:=[y]) (l₂:=s2)))
theorem c4R {α:Type} {lt:α->α->Bool} {R:α->α->Prop} (tr:∀ a b c,R a b->R b c->R a c) {x:α} (s:List α) (h1:∀ y ∈ s,lt x y=true->R x y) (h2:∀ y ∈ s,lt x y=false->R y x) (hs:s.Pairwise R):(a58 lt x s).Pairwise R:=by
 obtain⟨n,hn⟩:∃ n,s.length=n:=⟨_,rfl⟩
 induction n generalizing s with
 | zero=>have:=List.eq_nil_of_length_eq_zero hn;subst this;rw [a9l];simp
 | succ n ih=>
  obtain⟨s2,y,rfl⟩:=a4m (by omega:0 < s.length)
  have hs0:=hs
  rw [List.pairwise_append] at hs
  obtain⟨p1,_,p3⟩:=hs
  rw [a2p]
  by_cases h:lt x y=true
  ·rw [if_pos h,List.pairwise_append]
   refine⟨ih s2 (fun z hz=>h1 z (List.mem_append_left _ hz)) (fun z hz=>h2 z (List.mem_append_left _ hz)) p1 (by simpa using hn),by simp,fun a ha b hb=>?_⟩
   rw [List.mem_singleton.1 hb]
   rcases List.mem_cons.1 ((b3O lt x s2).mem_iff.1 ha) with rfl | ha
   ·exact h1 y (by simp) h
   ·exact p3 a ha y (by simp)
  ·have h:lt x y=false:=by simpa using h
   rw [if_neg (by rw [h];decide)]
   have hyx:=h2 y (by simp) h
   have:s2 ++ [y,x]=(s2 ++ [y]) ++ [x]:=by rw [List.append_assoc];rfl
   rw [this,List.pairwise_append]
   refine⟨hs0,by simp,fun a ha b hb=>?_⟩
   rw [List.mem_singleton.1 hb]
   rcases List.mem_append.1 ha with ha | ha
   ·exact tr _ _ _ (p3 a ha y (by simp)) hyx
   ·rw [List.mem_singleton.1 ha];exact hyx
theorem b2A {α:Type} {lt:α->α->Bool} {R Q:α->α->Prop} (tr:∀ a b c,R a b->R b c->R a c) (h1:∀ x y,Q y x->lt x y=true->R x y) (h2:∀ x y,Q y x->lt x y=false->R y x) (l:List α) (hl:l.Pairwise Q):(a4Y lt l).Pairwise R:=by
 obtain⟨n,hn⟩:∃ n,l.length=n:=⟨_,rfl⟩
 induction n generalizing l with
 | zero=>have:=List.eq_nil_of_length_eq_zero hn;subst this;exact List.Pairwise.nil
 | succ n ih=>
  obtain⟨s2,y,rfl⟩:=a4m (by omega:0 < l.length)
  rw [List.pairwise_append] at hl
  obtain⟨p1,_,p3⟩:=hl
  rw [a1R]
  exact c4R tr _ (fun z hz=>h1 y z (p3 z ((a02 lt s2).mem_iff.1 hz) y (by simp))) (fun z hz=>h2 y z (p3 z ((a02 lt s2).mem_iff.1 hz) y (by simp))) (ih s2 p1 (by simpa using hn))
section
variable {c:Nat} {p:PP} {L:List Rec}
def b0p (L:List Rec):List Rec:=a4Y (ltc fun x y:Rec=>cE x.2.2 y.2.2) L
theorem b5l (L:List Rec):(b0p L).map J2=a5p (L.map J2):=b3N J2 (fun _ _=>rfl) L
theorem PJ.sortItems (h:PJ c p L) {m:List IT} (hp:m.Perm (L.map a8w)) (hm:c0E m):(b0p L).map a8w=m:=by
 refine b0o (R:=Bef) (fun a b=>Bef.asymm) (((a02 _ L).map a8w).trans hp.symm) ?_ hm
 refine List.pairwise_map.2 (b2A (lt:=ltc fun x y:Rec=>cE x.2.2 y.2.2) (R:=fun a b=>Bef (a8w a) (a8w b)) (Q:=fun a b=>a.1 < b.1) (fun a b c=>Bef.trans) (fun x y hxy hlt=>?_) (fun x y hxy hlt=>?_) L h.sort)
 ·have hlt:ltc cE x.2.2 y.2.2=true:=hlt
  rw [b0e] at hlt
  unfold Bef a8w
  dsimp only
  omega
 ·have hlt:ltc cE x.2.2 y.2.2=false:=hlt
  rw [a4n] at hlt
  unfold Bef a8w
  dsimp only
  omega
theorem PJ.sorted_ok (h:PJ c p L) (_hc:c<=900):Am.sortP p=some (a2F p (a5p (L.map J2))):=by
 have hl:=h.len
 obtain⟨m,hh,hmp⟩:=h.heap
 have hml:m.length=L.length:=by rw [hmp.length_eq,List.length_map]
 have hms:=h.sortItems hmp hh.sort
 have hsl:(b0p L).length=L.length:=(a02 _ L).length_eq
 refine a1q.1 ?_
 unfold Am.sortP J0
 rw [hh.sorted (by omega),Option.bind_some]
 unfold a2v
 dsimp only
 have ho:=h.of (xs:=b0p L) (fun x hx=>(a02 _ L).mem_iff.1 hx) (by omega)
 rw [b5l] at ho
 unfold ofP at ho
 have hmi:m.map (·.1)=(b0p L).map (·.1):=by rw [<-hms,List.map_map];rfl
 refine O4 m (fun i (out:List Int)=>(((m.length:Nat):Int),((i:Nat):Int),p.cf,p.nx,p.most,p.size,p.free,p.n,p.b,p.t,p.sl,p.it,p.hp,p.ix,p.w,p.pl,p.ids,out,m)) (fun i out=>out=(m.take i).map (·.1)) (fun i out hi hinv=>?_) (fun out hinv=>?_) (b0:=[]) rfl (by omega)
 ·have h1:out.length=i:=by rw [hinv,List.length_map,List.length_take];omega
  unfold V1
  dsimp only
  rw [decide_eq_true (by omega),U3,decide_eq_true (by omega),M5,Int.toNat_natCast,decide_eq_true hi,M5,decide_eq_true ⟨by unfold LIM;omega,by unfold LEN;omega⟩,M5,H2 (i:=i) (by omega),B9,C9,R4 hi]
  exact⟨_,rfl,by rw [M2 hi,List.map_append,hinv];rfl⟩
 ·rw [List.take_length] at hinv
  unfold V1 a0P
  dsimp only
  rw [decide_eq_false (by omega),L0,hinv,hmi,ho,F0,Option.bind_some,B9,D4]
def a7q (L:List Rec) (n:List UInt8):List Rec:=a4Y (ltc fun x y:Rec=>cS x.2.2 y.2.2) (L.filter fun x=>isN n x.2.2)
theorem b5m (L:List Rec) (n:List UInt8):(a7q L n).map J2=a7o (L.map J2) n:=by
 unfold a7q a7o
 rw [b3N (ca:=fun x y:Rec=>cS x.2.2 y.2.2) (cb:=cS) J2 (fun _ _=>rfl),List.filter_map]
 rfl
theorem PJ.sendIds (h:PJ c p L) {m:List R17} (hp:m.Perm (L.map rowR)) (hm:a8v m) (n:List UInt8):(a7q L n).map (·.1)=c2y n m:=by
 have hs:=a6t hm n
 have key:(a7q L n).map (fun x=>(rowR x).2)=a31 n m:=by
  refine b0o (R:=fun a b:PlD=>a.1 < b.1) (fun a b h1 h2=>by omega) ?_ ?_ hs
  ·refine((a02 _ _).map _).trans ?_
   unfold a31
   have h1:(L.filter fun x=>isN n x.2.2).map (fun x=>(rowR x).2)=((L.map rowR).filter fun r=>decide (r.1=n)).map (·.2):=by
    rw [List.filter_map,List.map_map];rfl
   rw [h1]
   exact((hp.filter _).map _).symm
  ·refine List.pairwise_map.2 (b2A (lt:=ltc fun x y:Rec=>cS x.2.2 y.2.2) (R:=fun a b=>(rowR a).2.1 < (rowR b).2.1) (Q:=fun a b=>a.2.2.2.2.2.1 ≠ b.2.2.2.2.2.1) (fun a b c h1 h2=>Int.lt_trans h1 h2) (fun x y hxy hlt=>?_) (fun x y hxy hlt=>?_) _ ?_)
   ·have hlt:ltc cS x.2.2 y.2.2=true:=hlt
    rw [b48] at hlt
    exact hlt
   ·have hlt:ltc cS x.2.2 y.2.2=false:=hlt
    rw [b6y] at hlt
    show y.2.2.2.2.2.1 < x.2.2.2.2.2.1
    omega
   ·rw [List.pairwise_filter]
    exact h.sd.imp fun {a b} hab ha hb e=>hab ⟨(of_decide_eq_true ha).trans (of_decide_eq_true hb).symm,e⟩
 unfold c2y
 rw [<-key,List.map_map]
 rfl
theorem PJ.sender_ok (h:PJ c p L) (hc:c<=900) (n:List UInt8):c0H p n=some (a2F p (a7o (L.map J2) n)):=by
 have hl:=h.len
 obtain⟨m,hx,hmp⟩:=h.send
 have hsl:(a7q L n).length<=L.length:=by
  rw [show(a7q L n).length=(L.filter fun x=>isN n x.2.2).length from(a02 _ _).length_eq]
  exact List.length_filter_le ..
 have ho:=h.of (xs:=a7q L n) (fun x hx=>(List.mem_filter.1 ((a02 _ _).mem_iff.1 hx)).1) (by omega)
 rw [b5m,h.sendIds hmp hx.sort] at ho
 unfold ofP at ho
 unfold c0H P4
 rw [hx.list (by omega),Option.bind_some]
 dsimp only
 rw [ho];rfl
theorem PJ.expired_ok (h:PJ c p L) (hc:c<=900) (ht tm:Int):c7L p ht tm=some (a2F p (a8u p.cf (L.map J2) ht tm)):=by
 have hl:=h.len
 have hlat:∀ x:Rec,c0V p.b p.t ht tm (a8x x)=a6H p.cf ht tm x.2.2:=fun x=>by
  unfold c0V a6H
  rw [h.ttl.1,h.ttl.2];rfl
 have e1:c0q p.b p.t ht tm (L.map a8x)=(L.filter fun x=>a6H p.cf ht tm x.2.2).map (·.1):=by
  unfold c0q
  rw [List.filter_map,List.map_map]
  have:(c0V p.b p.t ht tm ∘ a8x)=fun x:Rec=>a6H p.cf ht tm x.2.2:=funext hlat
  rw [this];rfl
 have e2:((L.filter fun x=>a6H p.cf ht tm x.2.2).map J2).map (·.1)=a8u p.cf (L.map J2) ht tm:=by
  unfold a8u
  rw [List.filter_map];rfl
 have hfl:(L.filter fun x=>a6H p.cf ht tm x.2.2).length<=L.length:=List.length_filter_le ..
 have ho:=h.of (xs:=L.filter fun x=>a6H p.cf ht tm x.2.2) (fun x hx=>(List.mem_filter.1 hx).1) (by omega)
 rw [<-e1] at ho
 unfold ofP at ho
 have hel:((L.filter fun x=>a6H p.cf ht tm x.2.2).map J2).length<=L.length:=by rw [List.length_map];exact hfl
 generalize (L.filter fun x=>a6H p.cf ht tm x.2.2).map J2=es at ho e2 hel
 refine a1q.1 ?_
 unfold c7L N3
 rw [c7d h.wait (by omega),Option.bind_some]
 dsimp only
 rw [ho,Option.bind_some]
 unfold a2F a19
 dsimp only
 refine O4 es (fun i (out:List KD)=>(((es.length:Nat):Int),((i:Nat):Int),p.cf,p.nx,p.most,p.size,p.free,p.n,p.b,p.t,out,es,p.sl,p.it,p.hp,p.ix,p.w,p.pl,p.ids)) (fun i out=>out=(es.take i).map (·.1)) (fun i out hi hinv=>?_) (fun out hinv=>?_) (b0:=[]) rfl (by omega)
 ·have h1:out.length=i:=by rw [hinv,List.length_map,List.length_take];omega
  unfold T5
  dsimp only
  rw [decide_eq_true (by omega),U3,decide_eq_true (by omega),M5,Int.toNat_natCast,decide_eq_true hi,M5,decide_eq_true ⟨by unfold LIM;omega,by unfold LEN;omega⟩,M5,H2 (i:=i) (by omega),B9,C9,R4 hi]
  exact⟨_,rfl,by rw [M2 hi,List.map_append,hinv];rfl⟩
 ·rw [List.take_length] at hinv
  unfold T5
  dsimp only
  rw [decide_eq_false (by omega),L0,B9,D4,hinv,e2]
def a80 (cf:a2r):PP:=⟨cf,cf.1,0,[],-1,[],[],[],0,cf.2.2.2.2.1,cf.2.2.2.2.2.1,[],[],[],0⟩
def c3l (p:PP):a2r × Int × Int × List SlD × Int × List IT × List (Int × Int) × IxD × Int × Int × Int × List W3 × List (Int × HD) × List (List UInt8 × Int) × Int:=
 (p.cf,p.most,p.size,p.sl,p.free,p.it,p.hp,p.ix,p.n,p.b,p.t,p.w,p.pl,p.ids,p.nx)
def b6F (c:a2r):a2r:=if a5I c then c else c0v
theorem c4S (c:a2r):a5I (b6F c):=by
 unfold b6F
 split
 ·assumption
 ·exact b5c
theorem c3m {cf:a2r} (h:a5I cf):PJ 0 (a80 cf) []:=
 {cfg:=h,most:=rfl,ttl:=⟨rfl,rfl⟩,sort:=List.Pairwise.nil,num:=by simp,nx:=⟨Int.le_refl _,Int.le_refl _⟩,slab:=sj0,heap:=⟨[],hh0,List.Perm.refl _⟩,send:=⟨[],xj0,List.Perm.refl _⟩
  wait:=⟨List.Perm.refl _,List.Pairwise.nil,Nat.le_refl _,by simp⟩,place:=List.Perm.refl _,keys:=List.Perm.refl _,kd:=List.Pairwise.nil,sd:=List.Pairwise.nil
  lim:=by have:=h.max;exact⟨by simp only [a80,List.length_nil];omega,by simp only [a80,List.map_nil,P0,List.sum_nil];omega⟩,ents:=by simp}
theorem b6G {cf:a2r} (hr:b49 cf):a0W cf=some (c3l (a80 (b6F cf))):=by
 have hc1:∀ d:a2r,a5I d->a17 d=some (c3l (a80 d)):=fun d hd=>by
  have:=hd.max
  unfold a17 a8n a8o a4e a5W
  rw [Option.bind_some,Option.bind_some,Option.bind_some,Option.bind_some,Int.max_eq_left (by omega),Int.min_eq_left (by omega)]
  rfl
 unfold a0W b6F
 rw [b5b hr,Option.bind_some]
 by_cases h:a5I cf
 ·rw [if_pos h,if_pos h]
  exact hc1 cf h
 ·rw [if_neg h,if_neg h]
  show(a0d).bind _=_
  rw [b2s]
  exact hc1 c0v b5c
theorem c0I (cf:a2r):T6 cf=some (b6F cf,[]):=by
 unfold T6 b6F
 rw [b5a,Option.bind_some]
 by_cases h:a5I cf
 ·rw [if_pos h,if_pos h];rfl
 ·rw [if_neg h,if_neg h];rfl
theorem a5I.range {c:a2r} (h:a5I c) (hp:0<=c.2.2.2.2.2.2.2.2.2.1/\c.2.2.2.2.2.2.2.2.2.1 < 18446744073709551616):b49 c:=by
 refine⟨fun i x hx=>?_,hp⟩
 have h0:1<=c.1/\c.1<=512:=of_decide_eq_true (h.1 0 (by omega))
 have h1:1<=c.2.1/\c.2.1<=1048576:=of_decide_eq_true (h.1 1 (by omega))
 have h2:1<=c.2.2.1/\c.2.2.1<=4096:=of_decide_eq_true (h.1 2 (by omega))
 have h3:0<=c.2.2.2.1/\c.2.2.2.1<=1024:=of_decide_eq_true (h.1 3 (by omega))
 have h4:0<=c.2.2.2.2.1/\c.2.2.2.2.1<=1073741824:=of_decide_eq_true (h.1 4 (by omega))
 have h5:0<=c.2.2.2.2.2.1/\c.2.2.2.2.2.1<=1073741824:=of_decide_eq_true (h.1 5 (by omega))
 have h7:1<=c.2.2.2.2.2.2.2.1/\c.2.2.2.2.2.2.2.1<=1048576:=of_decide_eq_true (h.1 7 (by omega))
 have h8: -1<=c.2.2.2.2.2.2.2.2.1/\c.2.2.2.2.2.2.2.2.1<=1125899906842624:=of_decide_eq_true (h.1 8 (by omega))
 have h10:0<=c.2.2.2.2.2.2.2.2.2.2.1/\c.2.2.2.2.2.2.2.2.2.2.1<=7:=of_decide_eq_true (h.1 10 (by omega))
 have h11:1<=c.2.2.2.2.2.2.2.2.2.2.2/\c.2.2.2.2.2.2.2.2.2.2.2<=8:=of_decide_eq_true (h.1 11 (by omega))
 unfold b6o at hx
 split at hx <;> first | (injection hx with hx;omega) | cases hx
theorem PJ.reset_ok (h:PJ c p L) (hp:0<=p.cf.2.2.2.2.2.2.2.2.2.1/\p.cf.2.2.2.2.2.2.2.2.2.1 < 18446744073709551616):c85 p=some (c3l (a80 p.cf)):=by
 unfold c85 a0Z
 rw [b6G (h.cfg.range hp),Option.bind_some]
 unfold b6F
 rw [if_pos h.cfg]
end
end Go.Proofs.YtacnfjjkhpkloaaGreat.Am
