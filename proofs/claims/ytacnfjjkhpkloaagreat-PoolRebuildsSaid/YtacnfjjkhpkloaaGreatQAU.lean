/- Texts laid together: PHeapJ, PPool. No conditions. -/
import Derived.Test.YtacnfjjkhpkloaaGreatQAT
import Derived.Test.YtacnfjjkhpkloaaGreatQAR
import Derived.Test.YtacnfjjkhpkloaaGreatQAS
namespace Go.Proofs.YtacnfjjkhpkloaaGreat.Am
open Go Go.Proofs
structure HH (l:List o9) (p:List (Int × Int)) (m:List o9):Prop where
 perm:l.Perm m
 sort:c0E m
 ids:Ids m
 heap:a7p l
 pl:Pl l p
theorem hh0:HH [] [] []:=⟨List.Perm.refl _,List.Pairwise.nil,by simp [Ids],fun k k0 kl=>by simp at kl,by simp [D1],fun k v=>by simp⟩
section
variable {l m:List o9} {p:List (Int × Int)}
theorem HH.lids (h:HH l p m):Ids l:=h.ids.perm h.perm
theorem HH.has (h:HH l p m) (k:Int):(a1r J8 k p).isSome=decide (k ∈ m.map fun x=>x.1):=by
 rw [h.pl.has k]
 exact decide_eq_decide.2 (h.perm.map _).mem_iff
theorem c2D (hs:c0E m) {x:o9} (hx:x.1 ∉ m.map fun x=>x.1):c0E (c7k m x):=by
 have lt1:∀ y ∈ m.filter (c5d x),Bef y x:=fun y hy=>of_decide_eq_true (List.mem_filter.1 hy).2
 have lt2:∀ y ∈ m.filter (fun y=> !c5d x y),Bef x y:=fun y hy=>by
  obtain⟨h1,h2⟩:=List.mem_filter.1 hy
  have h3:¬ Bef y x:=by simpa [c5d] using h2
  rcases Classical.em (Bef x y) with h | h
  ·exact h
  ·have:=Bef.tri h h3
   subst this
   exact(hx (List.mem_map.2 ⟨x,h1,rfl⟩)).elim
 unfold c0E c7k
 rw [List.append_assoc,List.pairwise_append,List.singleton_append,List.pairwise_cons]
 refine⟨hs.filter _,⟨lt2,hs.filter _⟩,fun a ha b hb=>?_⟩
 rcases List.mem_cons.1 hb with rfl | hb
 ·exact lt1 a ha
 ·exact(lt1 a ha).trans (lt2 b hb)
theorem b6D (m:List o9) (x:o9):(c7k m x).Perm (x :: m):=a73 (c5d x) m x
theorem HH.push (h:HH l p m) (hl:m.length < 900000) (x:o9):∃ l' p',a1u l p x=some (l',p',!decide (x.1 ∈ m.map fun x=>x.1))/\HH l' p' (if x.1 ∈ m.map (fun x=>x.1) then m else c7k m x):=by
 have hlen:=h.perm.length_eq
 have hh:=h.has x.1
 unfold a1u
 rw [hh]
 by_cases hm:x.1 ∈ m.map fun x=>x.1
 ·rw [decide_eq_true hm,if_pos hm]
  exact⟨l,p,rfl,h⟩
 ·rw [decide_eq_false hm,if_neg hm,L0]
  have hml:x.1 ∉ l.map fun x=>x.1:=fun e=>hm ((h.perm.map _).mem_iff.1 e)
  have e1:(l ++ ([x]:List o9)).length=l.length + 1:=by simp
  have w:C6 ((((l ++ ([x]:List o9)).length:Nat):Int) - 1)=((l.length:Nat):Int):=by rw [e1,E4] <;> omega
  have hid:Ids (l ++ [x]):=by
   have:(l ++ [x]).Perm (x :: l):=List.perm_append_comm (l₁:=l) (l₂:=[x])
   refine Ids.perm ?_ this
   unfold Ids
   rw [List.map_cons,List.nodup_cons]
   exact⟨hml,h.lids⟩
  have hpl:=h.pl.push (x:=x) fun k hk e=>hml (List.mem_map.2 ⟨_,c0A hk,e⟩)
  obtain⟨r,hr,a1,a2,a3⟩:=c7j (show l.length < (l ++ [x]).length by omega) (by omega) hid hpl (h.heap.push x)
  rw [decide_eq_true (show(l.length + 1) * 24<=LIM/\l.length + 1<=LEN from⟨by unfold LIM;omega,by unfold LEN;omega⟩),M5,w,hr,Option.bind_some]
  have hrl:=a1.length_eq
  have hpm:r.1.Perm (c7k m x):=a1.trans ((List.perm_append_comm (l₁:=l) (l₂:=[x])).trans ((h.perm.cons x).trans (b6D m x).symm))
  refine⟨r.1,r.2,rfl,hpm,c2D h.sort hm,(hid.perm a1).perm hpm.symm,b3J a3 fun c c0 cl cp=>by omega,a2⟩
theorem Ids.cons {x:o9} {l:List o9} (h:Ids (x :: l)):Ids l:=by
 unfold Ids at h ⊢
 rw [List.map_cons,List.nodup_cons] at h
 exact h.2
theorem b6E {id:Int} (hd:Ids m) {x:o9} (hx:x ∈ m) (e:x.1=id):(x :: c84 m id).Perm m:=by
 obtain⟨i,hi,he⟩:=List.getElem_of_mem hx
 have hf:=c4Q hd hi
 have e2:m=m.take i ++ m[i] :: m.drop (i + 1):=by rw [List.getElem_cons_drop,List.take_append_drop]
 rw [he,e] at hf
 rw [he] at e2
 unfold c84
 rw [hf]
 conv=>rhs;rw [e2]
 exact List.perm_middle.symm
theorem HH.remove (h:HH l p m) (hl:m.length < 900000) (id:Int):∃ l' p',a0D l p id=some (l',p',decide (id ∈ m.map fun x=>x.1))/\HH l' p' (if id ∈ m.map (fun x=>x.1) then c84 m id else m):=by
 have hlen:=h.perm.length_eq
 have hh:=h.has id
 unfold a0D
 rw [hh]
 by_cases hm:id ∈ m.map fun x=>x.1
 ·rw [decide_eq_true hm,if_pos hm,U3]
  obtain⟨x,hx,hid⟩:=List.mem_map.1 ((h.perm.map fun x=>x.1).mem_iff.2 hm)
  obtain⟨i,hi,he⟩:=List.getElem_of_mem hx
  have hni:nth l i=x:=by rw [a78 hi,he]
  have hg:=h.pl.get hi
  rw [hni,hid] at hg
  obtain⟨r,hr,a1,a2,a3⟩:=c4P hi (by omega) h.lids h.pl h.heap
  rw [hni] at a1
  rw [hg,hr,Option.bind_some]
  have hd:=b6E h.ids (h.perm.mem_iff.1 hx) hid
  exact⟨r.1,r.2,rfl,(List.perm_cons x).1 ((a1.trans h.perm).trans hd.symm),h.sort.filter _,(h.ids.perm hd).cons,a3,a2⟩
 ·rw [decide_eq_false hm,if_neg hm,L0]
  exact⟨l,p,rfl,h⟩
theorem b3M:∀ {l m:List o9},l.Perm m->l.Pairwise (fun x y=>¬ Bef y x)->m.Pairwise Bef->l=m
 | l,[],hp,_,_=>hp.eq_nil
 | [],x :: m,hp,_,_=>hp.symm.eq_nil.symm
 | y :: l,x :: m,hp,hl,hm=>by
  rw [List.pairwise_cons] at hl hm
  have e:y=x:=by
   rcases List.mem_cons.1 (hp.mem_iff.1 (List.mem_cons_self (a:=y))) with e | h1
   ·exact e
   ·rcases List.mem_cons.1 (hp.mem_iff.2 (List.mem_cons_self (a:=x))) with e | h2
    ·exact e.symm
    ·exact(hl.1 _ h2 (hm.1 _ h1)).elim
  subst e
  rw [b3M ((List.perm_cons y).1 hp) hl.2 hm.2]
theorem HH.sorted (h:HH l p m) (hl:m.length < 900000):a0A l p=some (l,p,m):=by
 have hlen:=h.perm.length_eq
 have hc:J5 l=some (l,l):=by
  have hb:(0 + List.length (α:=B1.den) l) * 24<=LIM/\0 + List.length (α:=B1.den) l<=LEN:=(⟨by unfold LIM;omega,by unfold LEN;omega⟩:(0 + l.length) * 24<=LIM/\0 + l.length<=LEN)
  have hcl:a5w (u:=B1) 24 l=some l:=by
   unfold a5w
   rw [decide_eq_true hb];rfl
  unfold J5 c0e
  rw [hcl];rfl
 have hsp:=b3p C3 a7S b9X l
 have hs:c3c C3 a7S l=m:=b3M (hsp.1.trans h.perm) (hsp.2.imp fun {x y} hxy hb=>by
  have:=(b6q y x).2 hb
  rw [hxy] at this;cases this) h.sort
 unfold a0A G7
 rw [hc,Option.bind_some,hs,show Nat.blt l.length 4611686018427387904=true by simp [Nat.blt_eq];omega,M5]
 rfl
end
end Go.Proofs.YtacnfjjkhpkloaaGreat.Am
namespace Go.Proofs.YtacnfjjkhpkloaaGreat.Am
open Go
structure PP where
 cf:a2r
 most:Int
 size:Int
 sl:List SlD
 free:Int
 it:List IT
 hp:List (Int × Int)
 ix:IxD
 n:Int
 b:Int
 t:Int
 w:List W3
 pl:List (Int × HD)
 ids:List (List UInt8 × Int)
 nx:Int
def a2F {α:Type} (p:PP) (r:α):a2r × Int × Int × List SlD × Int × List IT × List (Int × Int) × IxD × Int × Int × Int × List W3 × List (Int × HD) × List (List UInt8 × Int) × Int × α:=
 (p.cf,p.most,p.size,p.sl,p.free,p.it,p.hp,p.ix,p.n,p.b,p.t,p.w,p.pl,p.ids,p.nx,r)
def c3k (p:PP) (e:ED):=F7 p.cf p.most p.size p.sl p.free p.it p.hp p.ix p.n p.b p.t p.w p.pl p.ids p.nx e
def c7l (p:PP) (k:KD):=P5 p.cf p.most p.size p.sl p.free p.it p.hp p.ix p.n p.b p.t p.w p.pl p.ids p.nx k
def c0F (p:PP) (k:KD):=Y2 p.cf p.most p.size p.sl p.free p.it p.hp p.ix p.n p.b p.t p.w p.pl p.ids p.nx k
def ofP (p:PP) (l:List Int):=W6 p.cf p.most p.size p.sl p.free p.it p.hp p.ix p.n p.b p.t p.w p.pl p.ids p.nx l
abbrev Rec:=Int × HD × ED
def J2 (x:Rec):ED:=x.2.2
def slR (x:Rec):HD × ED:=x.2
def a8w (x:Rec):IT:=(x.1,x.2.2.2.2.2.2.2.1,x.2.2.2.2.2.2.2.2.2.2.1)
def rowR (x:Rec):R17:=(x.2.2.2.2.1,x.2.2.2.2.2.1,x.1)
def a8x (x:Rec):W3:=(x.1,x.2.2.2.2.2.2.2.2.1,x.2.2.2.2.2.2.2.2.2.1)
def plR (x:Rec):Int × HD:=(x.1,x.2.1)
def idR (x:Rec):List UInt8 × Int:=(Vector.toList x.2.2.1,x.1)
def c7K (e:ED):Prop:=c4G e/\a6S e<=1000/\e.2.2.1.length<=60/\0<=e.2.2.2.1/\e.2.2.2.1 < 18446744073709551616
structure PJ (c:Nat) (p:PP) (L:List Rec):Prop where
 cfg:a5I p.cf
 most:p.most=p.cf.1
 ttl:p.b=p.cf.2.2.2.2.1/\p.t=p.cf.2.2.2.2.2.1
 sort:L.Pairwise fun a b=>a.1 < b.1
 num:∀ x ∈ L,0<=x.1/\x.1 < p.nx
 nx:0<=p.nx/\p.nx<=(c:Int)
 slab:SJ (2 * c) p.size p.sl p.free (L.map slR)
 heap:∃ m,HH p.it p.hp m/\m.Perm (L.map a8w)
 send:∃ m,XJ c p.ix p.n m/\m.Perm (L.map rowR)
 wait:QJ c p.w (L.map a8x)
 place:p.pl.Perm (L.map plR)
 keys:p.ids.Perm (L.map idR)
 kd:L.Pairwise fun a b=>a.2.2.1 ≠ b.2.2.1
 sd:L.Pairwise fun a b=>¬ (a.2.2.2.2.1=b.2.2.2.2.1/\a.2.2.2.2.2.1=b.2.2.2.2.2.1)
 lim:(L.length:Int)<=p.cf.1/\((P0 (L.map J2):Nat):Int)<=p.cf.2.1
 ents:∀ x ∈ L,c7K x.2.2
theorem a5I.max {c:a2r} (h:a5I c):(1<=c.1/\c.1<=512)/\1<=c.2.1/\c.2.1<=1048576:=
 ⟨of_decide_eq_true (h.1 0 (by omega)),of_decide_eq_true (h.1 1 (by omega))⟩
section
variable {c:Nat} {p:PP} {L:List Rec}
theorem PJ.len (h:PJ c p L):L.length<=512/\P0 (L.map J2)<=1048576:=by
 have h1:=h.lim
 have h2:=h.cfg.max
 omega
theorem PJ.pnd (h:PJ c p L):(D1 p.pl).Nodup:=by
 refine(H5 h.place).nodup_iff.2 ?_
 unfold D1
 rw [List.map_map]
 exact List.pairwise_map.2 (h.sort.imp fun {a b} hab e=>by
  have:a.1=b.1:=e
  omega)
theorem PJ.knd (h:PJ c p L):(D1 p.ids).Nodup:=by
 refine(H5 h.keys).nodup_iff.2 ?_
 unfold D1
 rw [List.map_map]
 exact List.pairwise_map.2 (h.kd.imp fun {a b} hab e=>hab (Vector.toList_inj.1 e))
theorem a6v {l:List Rec} {q:ED->Prop}:(∃ e ∈ l.map J2,q e) ↔ ∃ x ∈ l,q x.2.2:=by
 constructor
 ·rintro⟨e,he,hq⟩
  obtain⟨x,hx,rfl⟩:=List.mem_map.1 he
  exact⟨x,hx,hq⟩
 ·rintro⟨x,hx,hq⟩
  exact⟨_,List.mem_map.2 ⟨x,hx,rfl⟩,hq⟩
theorem PJ.has (h:PJ c p L) (k:KD):(a1r D3 (Vector.toList k) p.ids).isSome=decide (a1S (L.map J2) k):=by
 have h1:=a1J a0K (Vector.toList k) p.ids
 have h2:=(H5 h.keys).mem_iff (a:=Vector.toList k)
 have h3:Vector.toList k ∈ D1 (L.map idR) ↔ a1S (L.map J2) k:=by
  unfold a1S D1
  rw [a6v,List.map_map,List.mem_map]
  constructor
  ·rintro⟨x,hx,e⟩;exact⟨x,hx,Vector.toList_inj.1 e⟩
  ·rintro⟨x,hx,e⟩;exact⟨x,hx,by rw [<-e];rfl⟩
 rw [Bool.eq_iff_iff,decide_eq_true_iff,h1,h2,h3]
theorem PJ.id (h:PJ c p L) {x:Rec} (hx:x ∈ L):W4 D3 (Vector.toList x.2.2.1) (0:Int) p.ids=x.1:=
 a5q a0K h.knd (h.keys.mem_iff.2 (List.mem_map.2 ⟨x,hx,rfl⟩))
theorem PJ.pl (h:PJ c p L) {x:Rec} (hx:x ∈ L) (d:HD):W4 J8 x.1 d p.pl=x.2.1:=
 a5q Q4 h.pnd (h.place.mem_iff.2 (List.mem_map.2 ⟨x,hx,rfl⟩))
theorem PJ.sget (h:PJ c p L) {x:Rec} (hx:x ∈ L):U5 p.most p.size p.sl p.free x.2.1=some (p.most,p.size,p.sl,p.free,x.2.2,true):=
 h.slab.get p.most (x:=slR x) (List.mem_map.2 ⟨x,hx,rfl⟩)
theorem PJ.get (h:PJ c p L) {x:Rec} (hx:x ∈ L):c0F p x.2.2.1=some (a2F p (x.2.2,true)):=by
 unfold c0F Y2
 rw [h.has,decide_eq_true (show a1S (L.map J2) x.2.2.1 from a6v.2 ⟨x,hx,rfl⟩),Bool.not_true,L0,h.id hx,h.pl hx,h.sget hx]
 rfl
theorem PJ.get0 (h:PJ c p L) {k:KD} (hk:¬ a1S (L.map J2) k):c0F p k=some (a2F p (e0,false)):=by
 unfold c0F Y2
 rw [h.has,decide_eq_false hk,Bool.not_false,U3]
 rfl
theorem PJ.of (h:PJ c p L) {xs:List Rec} (hx:∀ x ∈ xs,x ∈ L) (hl:xs.length<=1000000):ofP p (xs.map (·.1))=some (a2F p (xs.map J2)):=by
 refine a1q.1 ?_
 unfold ofP W6 a4g
 have hlm:(xs.map (·.1)).length=xs.length:=List.length_map ..
 rw [hlm]
 refine O4 xs (fun i (out:List ED)=>(xs.map (·.1),((xs.length:Nat):Int),((i:Nat):Int),p.cf,p.nx,p.most,p.size,p.free,p.n,p.b,p.t,p.sl,p.it,p.hp,p.ix,p.w,p.pl,p.ids,out)) (fun i out=>out=(xs.take i).map J2) (fun i out hi hinv=>?_) (fun out hinv=>?_) (b0:=[]) rfl (by omega)
 ·have h1:out.length=i:=by rw [hinv,List.length_map,List.length_take];omega
  have hg:List.getD (xs.map (·.1)) i (0:Int)=xs[i].1:=by rw [R4 (by rw [hlm];exact hi)];simp
  have hm:=hx xs[i] (List.getElem_mem hi)
  unfold a0X
  dsimp only
  rw [decide_eq_true (by omega),U3,hlm,decide_eq_true (by omega),M5,Int.toNat_natCast,hg,h.pl hm,h.sget hm,Option.bind_some,decide_eq_true (a4Z (by omega)),M5,H2 (i:=i) (by omega),B9,C9]
  exact⟨_,rfl,by rw [M2 hi,List.map_append,hinv];rfl⟩
 ·rw [List.take_length] at hinv
  unfold a0X
  dsimp only
  rw [decide_eq_false (by omega),L0,B9,D4,hinv]
  rfl
theorem b1f {α β:Type} {eq:α->α->Bool} (he:a6a eq) {k:α} {z v:β} {l:List (α × β)} (h:k ∉ D1 l):a1V eq k v (a1V eq k z l)=l ++ [(k,v)]:=by
 have hi:a1r eq k (l ++ [(k,z)])=some l.length:=by
  induction l with
  | nil=>simp [a1r,(he k k).2 rfl]
  | cons a l ih=>
   rw [a0R,List.mem_cons,not_or] at h
   have:eq k a.1=false:=by
    rw [<-Bool.not_eq_true];exact fun e=>h.1 ((he _ _).1 e)
   rw [List.cons_append]
   simp [a1r,this,ih h.2]
 rw [a71 he h]
 unfold a1V
 rw [hi]
 simp
theorem c0G {m:List W3} {x:W3} (h:∀ y ∈ m,y.1 < x.1):c7e m x=(m ++ [x],true):=by
 unfold c7e
 rw [if_neg fun hm=>by
  obtain⟨v,hv⟩:=E8.1 hm
  have:=h _ hv
  dsimp only at this
  omega]
 have h1:m.filter (ltW x.1)=m:=List.filter_eq_self.2 fun y hy=>decide_eq_true (h y hy)
 have h2:m.filter (fun y=> !ltW x.1 y)=[]:=List.filter_eq_nil_iff.2 fun y hy=>by
  have:ltW x.1 y=true:=decide_eq_true (h y hy)
  rw [this];decide
 rw [h1,h2,List.append_nil]
theorem PJ.hasR (_h:PJ c p L) {m:List R17} (hp:m.Perm (L.map rowR)) (k:List UInt8) (q:Int):b5g m k q ↔ b0j (L.map J2) k q:=by
 unfold b5g b0j
 rw [a6v]
 constructor
 ·rintro⟨r,hr,h1,h2⟩
  obtain⟨x,hx,rfl⟩:=List.mem_map.1 (hp.mem_iff.1 hr)
  exact⟨x,hx,h1,h2⟩
 ·rintro⟨x,hx,h1,h2⟩
  exact⟨rowR x,hp.mem_iff.2 (List.mem_map.2 ⟨x,hx,rfl⟩),h1,h2⟩
theorem PJ.sizeL (h:PJ c p L):p.size=((L.length:Nat):Int):=by rw [h.slab.size,List.length_map]
theorem PJ.bytesL (h:PJ c p L) (hc:c<=900):L5 p.most p.size p.sl p.free=some (p.most,p.size,p.sl,p.free,((P0 (L.map J2):Nat):Int)):=by
 rw [(h.slab.bytes_ok p.most (by omega)).1]
 unfold P0
 rw [List.map_map,List.map_map]
 rfl
theorem b0n {α β:Type} (f:α->β) (l:List α) (x:α):(f x :: l.map f).Perm ((l ++ [x]).map f):=by
 rw [List.map_append]
 exact(List.perm_append_comm (l₁:=[f x]) (l₂:=l.map f))
theorem PJ.insert (h:PJ c p L) (hc:c<=900) {e:ED} (he:c7K e) :
  ∃ p' L',c3k p e=some (a2F p' (a7s p.cf (L.map J2) e).2)/\PJ (c + 1) p' L'/\L'.map J2=(a7s p.cf (L.map J2) e).1/\p'.cf=p.cf:=by
 obtain⟨hl1,hl2⟩:=h.len
 obtain⟨⟨hm1,hm2⟩,hm3,hm4⟩:=h.cfg.max
 have hle:PJ (c + 1) p L:={h with
  nx:=⟨h.nx.1,by have:=h.nx.2;omega⟩
  slab:=h.slab.le (by omega)
  send:=by obtain⟨m,h1,h2⟩:=h.send;exact⟨m,h1.le (by omega),h2⟩
  wait:=⟨h.wait.perm,h.wait.sort,Nat.le_succ_of_le h.wait.len,h.wait.ids⟩}
 unfold c3k F7
 rw [h.has]
 by_cases hk:a1S (L.map J2) e.1
 ·have hi:a7s p.cf (L.map J2) e=(L.map J2,8):=by unfold a7s;rw [if_pos hk]
  rw [decide_eq_true hk,U3,hi]
  exact⟨p,L,rfl,hle,rfl,rfl⟩
 ·rw [decide_eq_false hk,L0]
  obtain⟨m,hx,hmp⟩:=h.send
  have hR:=h.hasR hmp e.2.2.1 e.2.2.2.1
  obtain⟨l',n',e1,hx'⟩:=hx.add (by omega) (id:=p.nx) he.2.2.1 he.2.2.2
  rw [e1,Option.bind_some]
  by_cases hs:b0j (L.map J2) e.2.2.1 e.2.2.2.1
  ·have hi:a7s p.cf (L.map J2) e=(L.map J2,9):=by unfold a7s;rw [if_neg hk,if_pos hs]
   have ha:b7J m (e.2.2.1,e.2.2.2.1,p.nx)=(m,false):=if_pos (hR.2 hs)
   rw [ha] at hx' ⊢
   dsimp only
   rw [Bool.not_false,U3,hi]
   exact⟨{p with ix:=l',n:=n'},L,rfl,{hle with send:=⟨m,hx',hmp⟩},rfl,rfl⟩
  ·have hnR:¬ b5g m e.2.2.1 e.2.2.2.1:=fun k=>hs (hR.1 k)
   have ha:b7J m (e.2.2.1,e.2.2.2.1,p.nx)=(m.filter (ltR e.2.2.1 e.2.2.2.1) ++ [(e.2.2.1,e.2.2.2.1,p.nx)] ++ m.filter (fun y=> !ltR e.2.2.1 e.2.2.2.1 y),true):=if_neg hnR
   have hpm:=a73 (ltR e.2.2.1 e.2.2.2.1) m (e.2.2.1,e.2.2.2.1,p.nx)
   rw [ha] at hx' ⊢
   dsimp only at hx' ⊢
   generalize m.filter (ltR e.2.2.1 e.2.2.2.1) ++ [(e.2.2.1,e.2.2.2.1,p.nx)] ++ m.filter (fun y=> !ltR e.2.2.1 e.2.2.2.1 y)=m1 at hx' hpm
   rw [Bool.not_true,L0]
   unfold a0e
   rw [Option.bind_some]
   dsimp only
   rw [h.sizeL]
   have hfull:(p.cf.1<=(L.length:Int)\/p.cf.2.1 < ((P0 (L.map J2) + a6S e:Nat):Int))->∃ p' L',K4 false p.cf p.nx p.most ((L.length:Nat):Int) p.free n' p.b p.t e ((0:Int),(0:Int)) p.sl p.it p.hp l' p.w p.pl p.ids=some (a2F p' (a7s p.cf (L.map J2) e).2)/\PJ (c + 1) p' L'/\L'.map J2=(a7s p.cf (L.map J2) e).1/\p'.cf=p.cf:=fun hf=>by
    have hi:a7s p.cf (L.map J2) e=(L.map J2,24):=by unfold a7s;rw [if_neg hk,if_neg hs,List.length_map,if_pos hf]
    obtain⟨l2,n2,e2,hx2⟩:=hx'.rem (by omega) e.2.2.1 e.2.2.2.1
    unfold K4
    rw [Bool.not_false,U3,e2,Option.bind_some,hi]
    refine⟨{p with ix:=l2,n:=n2},L,by rw [<-h.sizeL];rfl,{hle with send:=⟨_,hx2,?_⟩},rfl,rfl⟩
    have hh:b5g m1 e.2.2.1 e.2.2.2.1:=⟨(e.2.2.1,e.2.2.2.1,p.nx),hpm.mem_iff.2 (by simp),rfl,rfl⟩
    unfold b7K
    rw [if_pos hh]
    refine(hpm.filter _).trans ?_
    have hkeep:m.filter (b0C e.2.2.1 e.2.2.2.1)=m:=List.filter_eq_self.2 fun r hr=>decide_eq_true fun hq=>hnR ⟨r,hr,hq⟩
    rw [List.filter_cons_of_neg (by simp [b0C]),hkeep]
    exact hmp
   by_cases hf1:p.cf.1<=(L.length:Int)
   ·rw [decide_eq_true hf1,U3]
    unfold K5
    rw [Bool.not_true,L0]
    exact hfull (.inl hf1)
   ·rw [decide_eq_false hf1,L0,<-h.sizeL,h.bytesL hc,Option.bind_some]
    dsimp only
    have hw:C6 (p.cf.2.1 - ((P0 (L.map J2):Nat):Int))=p.cf.2.1 - ((P0 (L.map J2):Nat):Int):=E4 (by omega) (by omega)
    have hraw:((e.2.1.length:Nat):Int)=((a6S e:Nat):Int):=rfl
    rw [hw,hraw]
    by_cases hf2:p.cf.2.1 < ((P0 (L.map J2) + a6S e:Nat):Int)
    ·rw [decide_eq_true (by omega),h.sizeL]
     unfold K5
     rw [Bool.not_true,L0]
     exact hfull (.inr hf2)
    ·rw [decide_eq_false (by omega)]
     unfold K5
     rw [Bool.not_false,U3]
     have hi:a7s p.cf (L.map J2) e=(L.map J2 ++ [e],0):=by unfold a7s;rw [if_neg hk,if_neg hs,List.length_map,if_neg (by omega)]
     obtain⟨sl',free',hd,e3,hsj⟩:=h.slab.add (most:=p.most) (by rw [h.sizeL,h.most];omega) (by omega) (e:=e) ⟨he.1,he.2.1⟩
     rw [e3,Option.bind_some]
     unfold K4
     dsimp only
     rw [Bool.not_true,L0]
     obtain⟨mh,hh,hhp⟩:=h.heap
     have hmhl:mh.length<=512:=by rw [hhp.length_eq,List.length_map];exact hl1
     have hnx:∀ y ∈ L,y.1 < p.nx:=fun y hy=>(h.num y hy).2
     have hnot:p.nx ∉ mh.map fun x=>x.1:=fun hm=>by
      obtain⟨y,hy,e4⟩:=List.mem_map.1 ((hhp.map fun x=>x.1).mem_iff.1 hm)
      obtain⟨z,hz,rfl⟩:=List.mem_map.1 hy
      have:=hnx z hz
      have e4:z.1=p.nx:=e4
      omega
     obtain⟨it',hp',e5,hh'⟩:=hh.push (by omega) (p.nx,e.2.2.2.2.2.1,e.2.2.2.2.2.2.2.2.1)
     rw [if_neg hnot] at hh'
     obtain⟨w',e6,hq'⟩:=h.wait.add (x:=(p.nx,e.2.2.2.2.2.2.1,e.2.2.2.2.2.2.2.1)) (by have:=h.nx;dsimp only;omega)
     rw [c0G fun y hy=>by
      obtain⟨z,hz,rfl⟩:=List.mem_map.1 hy
      exact hnx z hz] at hq'
     have hpk:p.nx ∉ D1 p.pl:=fun hm=>by
      obtain⟨v,hv⟩:=E8.1 ((H5 h.place).mem_iff.1 hm)
      obtain⟨z,hz,e4⟩:=List.mem_map.1 hv
      have:=hnx z hz
      have e4:z.1=p.nx:=congrArg Prod.fst e4
      omega
     have hik:Vector.toList e.1 ∉ D1 p.ids:=fun hm=>by
      have h1:=(a1J a0K (Vector.toList e.1) p.ids).2 hm
      rw [h.has,decide_eq_false hk] at h1;cases h1
     rw [e5,Option.bind_some,e6,Option.bind_some,hi]
     dsimp only
     rw [b1f Q4 hpk,b1f a0K hik,E4 (n:=p.nx + 1) (by have:=h.nx;omega) (by have:=h.nx;omega)]
     refine⟨⟨p.cf,p.most,p.size + 1,sl',free',it',hp',l',n',p.b,p.t,w',p.pl ++ [(p.nx,hd)],p.ids ++ [(Vector.toList e.1,p.nx)],p.nx + 1⟩,L ++ [(p.nx,hd,e)],rfl,?_,by rw [List.map_append];rfl,rfl⟩
     have hb:P0 ((L ++ [(p.nx,hd,e)]).map J2)=P0 (L.map J2) + a6S e:=by
      unfold P0
      rw [List.map_append,List.map_append,List.sum_append];simp [J2]
     refine {cfg:=h.cfg,most:=h.most,ttl:=h.ttl,sort:=?_,num:=?_,nx:=?_,slab:=?_,heap:=⟨_,hh',?_⟩,send:=⟨m1,hx',?_⟩,wait:=?_,place:=?_,keys:=?_,kd:=?_,sd:=?_,lim:=?_,ents:=?_}
     ·rw [List.pairwise_append]
      exact⟨h.sort,by simp,fun a ha b hb=>by rw [List.mem_singleton.1 hb];exact hnx a ha⟩
     ·intro x hx
      rcases List.mem_append.1 hx with hx | hx
      ·have:=h.num x hx;dsimp only;omega
      ·rw [List.mem_singleton.1 hx];have:=h.nx;dsimp only;omega
     ·have:=h.nx;dsimp only;omega
     ·exact(hsj.le (by omega)).perm (b0n slR L (p.nx,hd,e))
     ·exact(b6D mh _).trans ((hhp.cons _).trans (b0n a8w L (p.nx,hd,e)))
     ·exact hpm.trans ((hmp.cons _).trans (b0n rowR L (p.nx,hd,e)))
     ·rw [List.map_append];exact hq'
     ·rw [List.map_append];exact h.place.append_right _
     ·rw [List.map_append];exact h.keys.append_right _
     ·rw [List.pairwise_append]
      exact⟨h.kd,by simp,fun a ha b hb=>by rw [List.mem_singleton.1 hb];exact fun e4=>hk (a6v.2 ⟨a,ha,e4⟩)⟩
     ·rw [List.pairwise_append]
      exact⟨h.sd,by simp,fun a ha b hb=>by rw [List.mem_singleton.1 hb];exact fun e4=>hs (a6v.2 ⟨a,ha,e4⟩)⟩
     ·rw [hb,List.length_append]
      simp only [List.length_cons,List.length_nil]
      omega
     ·intro x hx
      rcases List.mem_append.1 hx with hx | hx
      ·exact h.ents x hx
      ·rw [List.mem_singleton.1 hx];exact he
end
end Go.Proofs.YtacnfjjkhpkloaaGreat.Am
