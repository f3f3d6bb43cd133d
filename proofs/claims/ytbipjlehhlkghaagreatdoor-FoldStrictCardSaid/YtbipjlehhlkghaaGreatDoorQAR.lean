/- Texts laid together: PMakeTx, PLedG, PStepM, PAppM, PRun. No conditions. -/
import Derived.Test.YtbipjlehhlkghaaGreatDoorQAQ
import Derived.Test.YtbipjlehhlkghaaGreatDoorQAK
import Derived.Test.YtbipjlehhlkghaaGreatDoorQAH
import Derived.Test.YtbipjlehhlkghaaGreatDoorQAP
namespace Go.Proofs.YtbipjlehhlkghaaGreatDoor.Am
open Go
theorem d5Z {L:List Int} {k:Int} {s:A0} (hs:a9l L k s) (hk:k < 1000000000000) (h0:0<=k):Ok (a3d s) fun r=>a9l L (k + 1) r.1/\s.2 < r.1.2/\d0O r.2:=by
 unfold a3d
 rw [B6]
 refine(a2b hs (n:=7) (by omega) (by omega) (by omega)).mono fun r h=>?_
 obtain⟨a1,a2,a3,a4⟩:=h
 simp only [E5,A3,decide_eq_true_eq]
 refine⟨⟨a3,a4⟩,by omega,a1,a2,?_⟩
 obtain⟨n,hn⟩:∃ n:Nat,Int.toNat r.2=n:=⟨_,rfl⟩
 have hn7:n < 7:=by omega
 rw [hn]
 match n,hn7 with
 | 0,_ | 1,_ | 2,_ | 3,_ | 4,_ | 5,_ | 6,_=>exact⟨by decide,by decide⟩
theorem d2g {L:List Int} {k q:Int} {b:A0} (hb:a9l L k b) (hq:q < b.2) (hk:k < 500000000000) (h0:0<=k) (z0 z4:List UInt8) (z1 z2 z3:Int) {a0 a4:List UInt8} {a1 a2 a3:Int}
  (c0:c1m a0) (c1:b13 a1) (c2:150<=a2/\a2<=350) (c3:b13 a3) (c4:d0O a4):Ok (a0p b z0 z1 z2 z3 z4 a0 a1 a2 a3 a4) fun r=>a9l L (k + 10) r.1/\q < r.1.2/\TxM r.2:=by
 unfold a0p
 rw [B6]
 refine(a2b hb (n:=3) (by omega) (by omega) (by omega)).mono fun r h=>?_
 obtain⟨d1,d2,d3,d4⟩:=h
 unfold a7n
 refine b0m (inv:=fun v=>∃ (n:Nat) (i:Int) (c:A0) (l:List o8),v=(i,c,z0,z1,z2,z3,z4,a0,a1,a2,a3,a4,l)/\n<=3/\ -1<=i/\i + n<=2/\(i= -1->1<=n)/\a9l L (k + 1 + 3 * n) c/\q < c.2/\l.length=n/\∀ x ∈ l,TrM x) (m:=fun v=>(v.1 + 1).toNat) ?_ ⟨0,_,_,[],rfl,by omega,by omega,by omega,by omega,d1.le (by omega),by omega,by simp,by simp⟩ (by simp only;omega)
 rintro v ⟨n,i,c,l,rfl,hn,hi,hin,hi1,hc,hlt,hl,hall⟩
 have c5:∀ {y:A0} {x:o8},a9l L (k + 1 + 3 * n + 3) y->q < y.2->TrM x->0<=i->Ok (a0o i y z0 z1 z2 z3 z4 a0 a1 a2 a3 a4 x l) (Nxt (fun r=>a9l L (k + 10) r.1/\q < r.1.2/\TxM r.2) fun z=>(∃ (n:Nat) (i:Int) (c:A0) (l:List o8),z=(i,c,z0,z1,z2,z3,z4,a0,a1,a2,a3,a4,l)/\n<=3/\ -1<=i/\i + n<=2/\(i= -1->1<=n)/\a9l L (k + 1 + 3 * n) c/\q < c.2/\l.length=n/\∀ x ∈ l,TrM x)/\(z.1 + 1).toNat < (i + 1).toNat):=by
  intro y x hy hqy hx hi0
  have hw:A5 (i - 1)=i - 1:=by rw [E0] <;> omega
  simp only [a0o,E5,A3,B4,decide_eq_true_eq,hw]
  refine⟨⟨by unfold LIM;omega,by unfold LEN;omega⟩,⟨n + 1,i - 1,y,l ++ [x],rfl,by omega,by omega,by omega,by omega,hy.le (by omega),hqy,by simp [hl],fun w hw=>?_⟩,by omega⟩
  rcases List.mem_append.1 hw with hw | hw
  ·exact hall w hw
  ·simp only [List.mem_singleton] at hw;subst hw;exact hx
 simp only [a4N]
 rw [C0]
 refine⟨fun h=>?_,fun h=>?_⟩
 ·have hi0:0<=i:=of_decide_eq_true h
  rw [B6]
  refine(d2f hc (by omega) (by omega)).mono fun r6 h6=>?_
  obtain⟨e1,e2,e3⟩:=h6
  rw [B6]
  refine(a2b e1 (n:=60) (by omega) (by omega) (by omega)).mono fun r7 h7=>?_
  obtain⟨f1,f2,f3,f4⟩:=h7
  rw [B6]
  refine(a2b f1 (n:=12) (by omega) (by omega) (by omega)).mono fun r8 h8=>?_
  obtain⟨g1,g2,g3,g4⟩:=h8
  have w1:B1 r7.2=r7.2:=K9 (by omega) (by omega)
  have w2:B1 (1 + r7.2)=1 + r7.2:=K9 (by omega) (by omega)
  rw [C0]
  refine⟨fun _=>c5 (g1.le (by omega)) (by omega) ⟨e3,by simp only;omega,by simp only;omega⟩ hi0,fun _=>c5 (g1.le (by omega)) (by omega) ⟨e3,?_⟩ hi0⟩
  simp only [w1,w2]
  omega
 ·have hi0:¬ 0<=i:=of_decide_eq_false h
  rw [A3,B8]
  exact⟨hc.le (by omega),hlt,c0,c1,c2,c3,c4,⟨by simp only;omega,by simp only;omega⟩,hall⟩
theorem d2h {L:List Int} {k q p:Int} {b:A0} (hb:a9l L k b) (hq:q < b.2) (hk:k < 100000000000) (h0:0<=k) (z0 z4:List UInt8) (z1 z2 z3:Int) {a0 a4:List UInt8} {a1 a2 a3:Int}
  (c0:c1m a0) (c2:150<=a2/\a2<=350) (c1:b13 a1) (c4:d0O a4):Ok (a0r p b z0 z1 z2 z3 z4 a0 a1 a2 a3 a4) fun r=>a9l L (k + 20) r.1/\q < r.1.2/\TxM r.2:=by
 have hc2:∀ {y:A0} {n:Int},a9l L (k + 2) y->q < y.2->b13 n->Ok (a0q p y z0 z1 z2 z3 z4 a0 n a2 a3 a4) fun r=>a9l L (k + 20) r.1/\q < r.1.2/\TxM r.2:=by
  intro y n hy hqy hn
  unfold a0q
  rw [B6]
  refine(a2b hy (n:=5) (by omega) (by omega) (by omega)).mono fun r4 h4=>?_
  obtain⟨d1,d2,d3,d4⟩:=h4
  rw [B6]
  refine(a2b d1 (n:=9) (by omega) (by omega) (by omega)).mono fun r9 h9=>?_
  obtain⟨e1,e2,e3,e4⟩:=h9
  rw [C0]
  refine⟨fun _=>?_,fun _=>?_⟩
  ·rw [B6]
   refine(a2b e1 (n:=200) (by omega) (by omega) (by omega)).mono fun r10 h10=>?_
   obtain⟨f1,f2,f3,f4⟩:=h10
   refine(d2g f1 (q:=q) (by omega) (by omega) (by omega) z0 z4 z1 z2 z3 c0 hn c2 (I7 _) c4).mono fun r h=>?_
   exact⟨h.1.le (by omega),h.2⟩
  ·refine(d2g e1 (q:=q) (by omega) (by omega) (by omega) z0 z4 z1 z2 z3 c0 hn c2 (I7 _) c4).mono fun r h=>?_
   exact⟨h.1.le (by omega),h.2⟩
 unfold a0r
 rw [B6]
 refine(a2b hb (n:=6) (by omega) (by omega) (by omega)).mono fun r11 h11=>?_
 obtain⟨d1,d2,d3,d4⟩:=h11
 rw [C0]
 refine⟨fun _=>?_,fun _=>hc2 (d1.le (by omega)) (by omega) c1⟩
 rw [B6]
 refine(a2b d1 (n:=3) (by omega) (by omega) (by omega)).mono fun r12 h12=>?_
 exact hc2 (h12.1.le (by omega)) (by have:=h12.2.1;omega) (I7 _)
theorem c4L {L:List Int} {k p:Int} {s:A0} {g:o6} (hs:a9l L k s) (hk:k < 10000000000) (h0:0<=k) (hg:g.1.length<=1000) (ha:∀ a ∈ g.1,c2Y a):Ok (a2P s g p) fun r=>a9l L (k + 30) r.1/\s.2 < r.1.2/\TxM r.2:=by
 unfold a2P
 rw [B6]
 refine(d2f hs (by omega) (by omega)).mono fun r1 h1=>?_
 obtain⟨a1,a2,a3⟩:=h1
 rw [B6]
 refine(a2b a1 (n:=6) (by omega) (by omega) (by omega)).mono fun r2 h2=>?_
 obtain⟨b1,b2,b3,b4⟩:=h2
 rw [B6]
 refine(d5Z b1 (by omega) (by omega)).mono fun r3 h3=>?_
 obtain⟨c1,c2,c3⟩:=h3
 have w1:B1 r2.2=r2.2:=K9 (by omega) (by omega)
 have w2:B1 (r2.2 * 40)=r2.2 * 40:=K9 (by omega) (by omega)
 have w3:B1 (150 + r2.2 * 40)=150 + r2.2 * 40:=K9 (by omega) (by omega)
 have gas:150<=B1 (150 + B1 (B1 r2.2 * 40))/\B1 (150 + B1 (B1 r2.2 * 40))<=350:=by rw [w1,w2,w3];omega
 have z:b13 0:=⟨by decide,by decide⟩
 have c6:∀ {y:A0} {c:Bool},a9l L (k + 4) y->s.2 < y.2->(c=true->0 < g.1.length)->Ok (a0s p ((List.length g.1:Nat):Int) c y g [] (0:Int) (0:Int) (0:Int) [] r1.2 (0:Int) (B1 (150 + (B1 ((B1 r2.2) * 40)))) (0:Int) r3.2) fun r=>a9l L (k + 30) r.1/\s.2 < r.1.2/\TxM r.2:=by
  intro y c hy hq hc
  unfold a0s
  rw [C0]
  refine⟨fun h=>?_,fun _=>?_⟩
  ·have hpos:=hc h
   rw [B6]
   refine(a2b hy (n:=((List.length g.1:Nat):Int)) (by omega) (by omega) (by omega)).mono fun r13 h13=>?_
   obtain⟨d1,d2,d3,d4⟩:=h13
   rw [E5]
   refine⟨decide_eq_true ⟨d3,d4⟩,?_⟩
   have hm:List.getD g.1 (Int.toNat r13.2) o9 ∈ g.1:=by
    rw [D8 (by omega)];exact List.getElem_mem _
   have hacc:=ha _ hm
   refine(d2h d1 (q:=s.2) (by omega) (by omega) (by omega) [] [] 0 0 0 hacc.1 gas hacc.2.2 c3).mono fun r h=>?_
   exact⟨h.1.le (by omega),h.2⟩
  ·refine(d2h hy (q:=s.2) (by omega) (by omega) (by omega) [] [] 0 0 0 a3 gas z c3).mono fun r h=>?_
   exact⟨h.1.le (by omega),h.2⟩
 rw [C0]
 refine⟨fun h=>?_,fun _=>c6 (c1.le (by omega)) (by omega) (fun h=>by cases h)⟩
 have hpos:=of_decide_eq_true h
 rw [B6]
 refine(a2b c1 (n:=8) (by omega) (by omega) (by omega)).mono fun r14 h14=>?_
 exact c6 (h14.1.le (by omega)) (by have:=h14.2.1;omega) (fun _=>by omega)
end Go.Proofs.YtbipjlehhlkghaaGreatDoor.Am
namespace Go.Proofs.YtbipjlehhlkghaaGreatDoor.Am
open Go
theorem d3L {l:List o7} (hb:b3p l) (hn:∀ a ∈ l,a.1.length<=1000000000000000) (hl:l.length<=4398046511000):a0N l=some (d37 l):=by
 unfold a0N d37
 by_cases h:256 < l.length
 ·rw [if_pos h,decide_eq_true (by omega),E4]
 rw [if_neg h,decide_eq_false (by omega),C6]
 rw [<-L4]
 unfold a34
 refine E7 l (fun i (b:List o7)=>(l,((l.length:Nat):Int),((i:Nat):Int),([],(0:Int)),(0:Int),b)) (fun i b=>d0C [] l=d0C (G9 (l.take i)) (l.drop i)/\b.Perm (l.take i)/\Srt b/\(G9 (l.take i)).Nodup) (fun i b hi hv=>?_) (fun b hv=>?_) (b0:=[]) ⟨rfl,List.Perm.refl _,List.Pairwise.nil,List.nodup_nil⟩ (by omega)
 ·obtain⟨hv,hp,hs,hnd⟩:=hv
  rw [b4V hi,c1a] at hv
  have hbl:b.length=i:=by rw [hp.length_eq,List.length_take];omega
  unfold T7
  dsimp only
  rw [decide_eq_true (by omega:(i:Int) < ((l.length:Nat):Int)),E4,decide_eq_true (by omega:(0:Int)<=(i:Int)/\(i:Int) < ((l.length:Nat):Int)),C4,Int.toNat_natCast,D8 hi,b58 (hn _ (List.getElem_mem hi)),Option.bind_some]
  cases hname:T4 l[i].1 with
  | false=>
   rw [if_pos hname] at hv
   rw [Bool.not_false,E4,A3,B8,hv,if_neg (by decide)]
  | true=>
   rw [if_neg (by rw [hname];decide)] at hv
   rw [Bool.not_true,C6,b6b (by omega),Option.bind_some]
   by_cases hm:l[i].1 ∈ G9 (l.take i)
   ·rw [if_pos hm] at hv
    have hf:E9 b l[i].1 < b.length:=c1b.2 ((b4X hp).2 hm)
    rw [if_pos hf,decide_eq_true (by omega),E4,A3,B8,hv,if_neg (by decide)]
   ·rw [if_neg hm] at hv
    have hf:¬ E9 b l[i].1 < b.length:=fun h=>hm ((b4X hp).1 (c1b.1 h))
    rw [if_neg hf,decide_eq_false (by omega),C6,b9G (by omega),Option.bind_some,A3,B4,E2 (by omega)]
    refine⟨_,rfl,by rw [hv,b8y hi],?_,b7f hs,?_⟩
    ·have hput:c4m b l[i]=b.take (I1 b l[i].1) ++ l[i] :: b.drop (I1 b l[i].1):=by unfold c4m;rw [if_neg hf]
     rw [hput,N0 hi]
     exact(a8W _ _).trans ((hp.cons _).trans (List.perm_append_singleton _ _).symm)
    ·rw [b8y hi,List.nodup_append]
     exact⟨hnd,by simp,fun x hx y hy e=>by rw [List.mem_singleton] at hy;subst hy;subst e;exact hm hx⟩
 ·obtain⟨hv,hp,hs,hnd⟩:=hv
  rw [List.drop_length] at hv
  rw [List.take_length] at hp hnd
  have hv:d0C [] l=0:=hv
  have hbl:=hp.length_eq
  unfold T7 a1x
  dsimp only
  rw [decide_eq_false (by omega),C6,b9C (g:=(b,0)) ⟨by omega,by omega⟩ (fun a ha=>hb a (hp.mem_iff.1 ha)) (by dsimp only;omega),Option.bind_some,hv,if_pos rfl]
  dsimp only
  rw [b7g hp,c8h hnd hp hs]
  cases (b4I (0 + a8y l)).2 with
  | true=>rw [if_pos rfl];exact⟨_,rfl,rfl⟩
  | false=>rw [if_neg (by decide)];exact⟨_,rfl,rfl⟩
end Go.Proofs.YtbipjlehhlkghaaGreatDoor.Am
namespace Go.Proofs.YtbipjlehhlkghaaGreatDoor.Am
open Go
theorem c4M {L:List Int} {k p:Int} {s:A0} {g:o6} (hs:a9l L k s) (hk:k < 1000000000) (h0:0<=k) (hg:c6h 256 g):Ok (T2 s g p) fun r=>a9l L (k + 40) r.1/\s.2 < r.1.2/\r.2.length<=4096:=by
 unfold T2
 rw [B6]
 refine(c4L hs (by omega) h0 (by have:=hg.1;omega) hg.2.1).mono fun r1 h1=>?_
 obtain⟨a1,a2,a3⟩:=h1
 rw [b41 a3.b a3.n,Option.bind_some]
 have he:=c4I r1.2
 generalize (d3A r1.2).1=e at he
 have hc:∀ {y:A0} {c:Bool},a9l L (k + 31) y->s.2 < y.2->(c=true->0 < e.length)->Ok (Y5 c y e) fun r=>a9l L (k + 40) r.1/\s.2 < r.1.2/\r.2.length<=4096:=by
  intro y c hy hq hc
  unfold Y5
  rw [C0]
  refine⟨fun h=>?_,fun _=>by rw [A3];exact⟨hy.le (by omega),hq,he⟩⟩
  have hpos:=hc h
  rw [B6]
  refine(a2b hy (n:=((e.length:Nat):Int)) (by omega) (by omega) (by omega)).mono fun r3 h3=>?_
  obtain⟨b1,b2,b3,b4⟩:=h3
  rw [B6]
  refine(a2b b1 (n:=2) (by omega) (by omega) (by omega)).mono fun r4 h4=>?_
  obtain⟨c1,c2,c3,c4⟩:=h4
  rw [C0]
  refine⟨fun _=>?_,fun _=>?_⟩
  ·rw [decide_eq_true (⟨by omega,b3,by omega⟩:(0:Int)<=0/\0<=r3.2/\r3.2<=((e.length:Nat):Int)),C4,A3]
   exact⟨c1.le (by omega),by dsimp only;omega,by dsimp only;rw [List.length_take];omega⟩
  ·rw [decide_eq_true (⟨by unfold LIM;omega,by unfold LEN;omega⟩:(0 + e.length) * 1<=LIM/\0 + e.length<=LEN),C4,B6]
   refine(a2b c1 (n:=256) (by omega) (by omega) (by omega)).mono fun r5 h5=>?_
   obtain⟨d1,d2,d3,d4⟩:=h5
   rw [decide_eq_true ⟨b3,b4⟩,C4,decide_eq_true (a5R _),C4,decide_eq_true (by omega),C4,A3]
   exact⟨d1.le (by omega),by dsimp only;omega,by dsimp only;rw [List.length_set];exact he⟩
 rw [C0]
 refine⟨fun h=>?_,fun _=>hc (a1.le (by omega)) a2 (fun h=>by cases h)⟩
 have h:=of_decide_eq_true h
 rw [B6]
 refine(a2b a1 (n:=12) (by omega) (by omega) (by omega)).mono fun r6 h6=>?_
 exact hc (h6.1.le (by omega)) (by have:=h6.2.1;omega) (fun _=>by omega)
end Go.Proofs.YtbipjlehhlkghaaGreatDoor.Am
namespace Go.Proofs.YtbipjlehhlkghaaGreatDoor.Am
open Go
def d50 (a:L1):Prop:=b6g a.1/\b6g a.2.1/\b6g a.2.2.1/\a.2.2.2.1=false/\okU a.2.2.2.2
theorem d51 {l:List o7} {p:Int} (h:d0N l) (hp:okU p):Ok (a2r l p) fun r=>d50 r.1:=by
 have hg:=d7j h
 unfold a2r
 rw [d3L (fun a ha=>(h.2 a ha).2.1) (fun a ha=>(h.2 a ha).len) (by have:=h.1;omega),Option.bind_some,C0,A3,A3]
 exact⟨fun _=>⟨c28,c28,c28,rfl,a4J⟩,fun _=>⟨hg,hg,c28,rfl,hp⟩⟩
theorem d1b {a:L1} {raw:List UInt8} (h:d50 a) (hr:raw.length<=1000000):a1h a raw=some (a.1,(V3 a.2.1 a.2.2.2.2 raw).1,a.2.2):=by
 unfold a1h
 rw [b8G h.2.1.b h.2.2.2.2 hr,Option.bind_some]
theorem d2i {L:List Int} {k:Int} {s:A0} (hs:a9l L k s) (hk:k < 100000000) (h0:0<=k):Ok (a16 s) fun r=>a9l L (k + 200) r.1/\s.2 < r.1.2/\d50 r.2:=by
 unfold a16
 rw [B6]
 refine(c5X hs (by omega) (by omega)).mono fun r1 h1=>?_
 obtain⟨a1,a2,a3⟩:=h1
 rw [B6]
 refine(a2b a1 (n:=3) (by omega) (by omega) (by omega)).mono fun r2 h2=>?_
 obtain⟨b1,b2,b3,b4⟩:=h2
 rw [B6]
 refine(d51 a3 (I7 _)).mono fun r3 h3=>?_
 rw [C0,A3,B6]
 refine⟨fun _=>⟨b1.le (by omega),by dsimp only;omega,h3⟩,fun _=>?_⟩
 refine(a2b b1 (n:=3) (by omega) (by omega) (by omega)).mono fun r4 h4=>?_
 obtain⟨c1,c2,c3,c4⟩:=h4
 unfold a6M
 refine Q7 (fun n v=>∃ (u:A0) (a:L1) (i:Nat),v=((i:Int),u,(([],(0:Int)),([],(0:Int)),([],(0:Int)),false,(0:Int)),a)/\n=i/\i<=2/\a9l L (k + 180 - 50 * i) u/\s.2 < u.2/\d50 a) ?_ (n:=r4.2.toNat) ⟨r4.1,r3.1,r4.2.toNat,by rw [Int.toNat_of_nonneg c3],rfl,by omega,c1.le (by omega),by omega,h3⟩ (by omega)
 rintro n v ⟨u,a,i,rfl,rfl,hi,hu,hq,ha⟩
 unfold a4a
 dsimp only
 rw [C0]
 refine⟨fun h=>?_,fun h=>?_⟩
 ·have h:=of_decide_eq_true h
  have hw:A5 ((n:Int) - 1)=((n - 1:Nat):Int):=b9E (by omega) (by omega)
  rw [B6]
  refine(c4M hu (by omega) (by omega) ha.2.1.1).mono fun r5 h5=>?_
  rw [d1b ha (by have:=h5.2.2;omega),Option.bind_some,A3,B4,hw]
  exact⟨n - 1,by omega,r5.1,_,n - 1,rfl,rfl,by omega,h5.1.le (by omega),by have:=h5.2.1;omega,ha.1,(b1y ha.2.1).1,ha.2.2⟩
 ·rw [A3,B8]
  exact⟨hu.le (by omega),hq,ha⟩
end Go.Proofs.YtbipjlehhlkghaaGreatDoor.Am
namespace Go.Proofs.YtbipjlehhlkghaaGreatDoor.Am
open Go
def a4q (g:o6) (p:Int):List (List UInt8)->o6 × List A6
 | []=>(g,[])
 | r :: rs=>((a4q (V3 g p r).1 p rs).1,(V3 g p r).2 :: (a4q (V3 g p r).1 p rs).2)
theorem b7o (g:o6) (p:Int) (r:List UInt8) (rs:List (List UInt8)):a4q g p (r :: rs)=((a4q (V3 g p r).1 p rs).1,(V3 g p r).2 :: (a4q (V3 g p r).1 p rs).2):=rfl
theorem b6i (p:Int):∀ (a:List (List UInt8)) (g:o6) (b:List (List UInt8)),a4q g p (a ++ b)=((a4q (a4q g p a).1 p b).1,(a4q g p a).2 ++ (a4q (a4q g p a).1 p b).2)
 | [],_,_=>rfl
 | r :: a,g,b=>by rw [List.cons_append,b7o,b7o,b6i p a];rfl
theorem a4K (p:Int):∀ (l:List (List UInt8)) (g:o6),(a4q g p l).2.length=l.length
 | [],_=>rfl
 | r :: l,g=>by rw [b7o,List.length_cons,List.length_cons,a4K p l]
theorem a8t {g:o6} {p:Int} {l:List (List UInt8)} {i:Nat} (h:i < l.length):a4q g p (l.take (i + 1))=((V3 (a4q g p (l.take i)).1 p l[i]).1,(a4q g p (l.take i)).2 ++ [(V3 (a4q g p (l.take i)).1 p l[i]).2]):=by
 rw [N0 h,b6i];rfl
theorem b7p {g:o6} {p:Int} {l:List (List UInt8)} (i:Nat):(a4q g p (l.take i)).2=(a4q g p l).2.take i:=by
 rcases Nat.lt_or_ge i l.length with h | h
 ·have e:a4q g p l=a4q g p (l.take i ++ l.drop i):=by rw [List.take_append_drop]
  have hl:(a4q g p (l.take i)).2.length=i:=by rw [a4K,List.length_take];omega
  rw [e,b6i]
  show _=((a4q g p (l.take i)).2 ++ _).take i
  rw [List.take_append_of_le_length (by omega)]
  exact(List.take_of_length_le (by omega)).symm
 ·rw [List.take_of_length_le h]
  exact(List.take_of_length_le (by rw [a4K];exact h)).symm
theorem c8P {g:o6} {p:Int} {l:List (List UInt8)} {i:Nat} (h:i < l.length):(a4q g p l).2[i]'(by rw [a4K];exact h)=(V3 (a4q g p (l.take i)).1 p l[i]).2:=by
 have h1:=b7p (g:=g) (p:=p) (l:=l) (i + 1)
 rw [a8t h,b7p] at h1
 have hl:i < (a4q g p l).2.length:=by rw [a4K];exact h
 rw [N0 hl] at h1
 have:=List.append_cancel_left h1
 injection this with this _
 exact this.symm
theorem b7U {L:List TR}:∀ {l:List o7} {n:List UInt8},n ∈ G9 (L.foldl V2 l)->n ∈ G9 l\/∃ x ∈ L,x.1=n:=by
 induction L with
 | nil=>intro l n h;exact .inl h
 | cons x L ih=>
  intro l n h
  rcases ih h with h | ⟨y,hy,e⟩
  ·rcases(a5l l x n).1 h with h | h
   ·exact .inr ⟨x,List.mem_cons_self ..,h.symm⟩
   ·exact .inl h
  ·exact .inr ⟨y,List.mem_cons_of_mem _ hy,e⟩
theorem c8Q {L:List TR}:∀ {l:List o7},b3p l->b3p (L.foldl V2 l):=by
 induction L with
 | nil=>intro l h;exact h
 | cons x L ih=>intro l h;exact ih (c1w h)
theorem d53 {g:o6} {p:Int} {raw:List UInt8} (h:b4U g):b4U (V3 g p raw).1/\(V3 g p raw).1.1.length<=max g.1.length 256:=by
 rcases b18 g p raw with⟨e,_⟩ | ⟨hv,hd,hc,e,_⟩
 ·rw [e];exact⟨h,Nat.le_max_left ..⟩
 ·rw [e]
  obtain⟨k1,_,_,_,_,k6⟩:=d2c hc
  have hts:=b8E raw
  refine⟨⟨I7 _,c8Q (fun a ha=>?_),fun a ha=>?_,by omega⟩,by omega⟩
  ·rw [a6F k1] at ha
   rcases List.mem_or_eq_of_mem_set ha with ha | rfl
   ·exact h.2.1 a ha
   ·exact I7 _
  ·rcases b7U (n:=a.1) (List.mem_map_of_mem ha) with hm | ⟨x,hx,ex⟩
   ·rw [b17 k1] at hm
    obtain⟨b,hb,eb⟩:=List.mem_map.1 hm
    rw [<-eb]
    exact h.2.2.1 b hb
   ·rw [<-ex]
    have:=(hts.2.2.2.2.2.2 x hx).1
    omega
theorem b4y {p:Int}:∀ {l:List (List UInt8)} {g:o6},b4U g->b4U (a4q g p l).1/\(a4q g p l).1.1.length<=max g.1.length 256
 | [],_,h=>⟨h,Nat.le_max_left ..⟩
 | r :: l,g,h=>by
  obtain⟨h1,h2⟩:=d53 (p:=p) (raw:=r) h
  obtain⟨h3,h4⟩:=b4y (p:=p) (l:=l) h1
  exact⟨h3,by show(a4q (V3 g p r).1 p l).1.1.length<=_;omega⟩
def c8R (l:List A6):Nat:=l.findIdx fun r=>decide (r.1 ≠ 0)
def c6i (g:o6) (p:Int) (l:List (List UInt8)):o6 × Int × Int:=
 if c8R (a4q g p l).2 < l.length then(c5F,((c8R (a4q g p l).2:Nat):Int),((a4q g p l).2.getD (c8R (a4q g p l).2) F7).1) else((a4q g p l).1,0,0)
theorem c8S {g:o6} {p:Int} {l:List (List UInt8)} {i:Nat} (h:i < l.length) (hb:∀ r ∈ (a4q g p (l.take i)).2,r.1=0) (hr:(V3 (a4q g p (l.take i)).1 p l[i]).2.1 ≠ 0):c6i g p l=(c5F,(i:Int),(V3 (a4q g p (l.take i)).1 p l[i]).2.1):=by
 have hl:i < (a4q g p l).2.length:=by rw [a4K];exact h
 have hi:c8R (a4q g p l).2=i:=by
  refine c07 hl (by rw [c8P h];exact decide_eq_true hr) fun j hj hlt=>?_
  refine decide_eq_false fun k=>k (hb _ ?_)
  rw [b7p,List.mem_take_iff_getElem]
  exact⟨j,by omega,rfl⟩
 unfold c6i
 rw [hi,if_pos h,D8 hl,c8P h]
theorem d2j {g:o6} {p:Int} {l:List (List UInt8)} (hb:∀ r ∈ (a4q g p l).2,r.1=0):c6i g p l=((a4q g p l).1,0,0):=by
 have hi:c8R (a4q g p l).2=(a4q g p l).2.length:=c2R fun j hj=>decide_eq_false fun k=>k (hb _ (List.getElem_mem hj))
 unfold c6i
 rw [if_neg (by rw [hi,a4K];omega)]
end Go.Proofs.YtbipjlehhlkghaaGreatDoor.Am
