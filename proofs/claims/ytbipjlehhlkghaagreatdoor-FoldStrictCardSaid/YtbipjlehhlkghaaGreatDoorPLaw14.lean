/- The statements about layer 14 hold of plain data. No conditions. -/
import Derived.Test.YtbipjlehhlkghaaGreatDoorQAU
import Derived.Test.YtbipjlehhlkghaaGreatDoorFAllKmempoollaw14
namespace Go.Proofs.YtbipjlehhlkghaaGreatDoor.Am
open Go
theorem a7m:Ok (D2.bind fun r=>some r) (· =true):=⟨true,by rw [b2B];rfl,rfl⟩
theorem b4G {l:List Int} (hl:l.length<=140737488351232):O4 [l]=some (decide (160 < ((l.length:Nat):Int))):=by
 refine L4.1 ?_
 unfold O4 a5y
 refine E7 [l] (fun i (a:Int)=>(a,[l],(([l].length:Nat):Int),((i:Nat):Int))) (fun i a=>a=(if i=0 then 0 else((l.length:Nat):Int))) (fun i a hi ha=>?_) (fun a ha=>?_) (b0:=0) rfl (by simp)
 ·have h0:i=0:=by simpa using hi
  subst h0
  rw [if_pos rfl] at ha
  subst ha
  unfold a0R
  dsimp only
  rw [decide_eq_true (by simp),E4,decide_eq_true (by simp),C4,A3,B4,E2 (by omega)]
  refine⟨_,rfl,?_⟩
  rw [if_neg (by omega),Int.toNat_natCast]
  show A5 (0 + ((l.length:Nat):Int))=_
  rw [E0] <;> omega
 ·have ha:a=((l.length:Nat):Int):=ha
  subst ha
  unfold a0R
  dsimp only
  rw [decide_eq_false (by omega),C6,A3,B8]
def d39 (l:List (List UInt8)):Int:=(l.map fun r=>((r.length:Nat):Int)).sum
theorem c9a {l:List (List UInt8)} {i:Nat} (h:i < l.length):d39 (l.take (i + 1))=d39 (l.take i) + ((l[i].length:Nat):Int):=by
 unfold d39
 rw [N0 h,List.map_append,List.sum_append,List.map_cons,List.map_nil,List.sum_cons,List.sum_nil]
 omega
theorem d3U (l:List (List UInt8)):0<=d39 l:=b7d fun x hx=>by obtain⟨y,_,rfl⟩:=List.mem_map.1 hx;omega
theorem d3V {l:List (List UInt8)} {r:List UInt8} (h:r ∈ l):((r.length:Nat):Int)<=d39 l:=
 b42 (fun x hx=>by obtain⟨y,_,rfl⟩:=List.mem_map.1 hx;omega) _ (List.mem_map_of_mem h)
theorem c1H {l:List (List UInt8)} (hl:l.length<=5864062014801) (hr:∀ r ∈ l,r.length<=140737488351232):Ok (a0y l) fun b=>b=false->l.length<=12/\∀ r ∈ l,r.length<=500:=by
 unfold a0y a5z
 refine E7 l (fun i (v:Int)=>(l,v,l,((l.length:Nat):Int),((i:Nat):Int))) (fun i v=>l.length<=12->v=d39 (l.take i)/\v<=(i:Int) * 140737488351232) (fun i v hi hv=>?_) (fun v hv=>?_) (b0:=0) (fun _=>⟨rfl,by omega⟩) (by omega)
 ·unfold a0S
  dsimp only
  rw [decide_eq_true (by omega:(i:Int) < ((l.length:Nat):Int)),E4,decide_eq_true (by omega:(0:Int)<=(i:Int)/\(i:Int) < ((l.length:Nat):Int)),C4,Int.toNat_natCast,D8 hi,A3,B4,E2 (by omega)]
  refine⟨_,rfl,fun h12=>?_⟩
  obtain⟨h1,h2⟩:=hv h12
  have h3:=hr _ (List.getElem_mem hi)
  have h4:=d3U (l.take i)
  rw [c9a hi,E0 (by omega) (by omega),h1]
  refine⟨rfl,by omega⟩
 ·unfold a0S a24
  dsimp only
  rw [decide_eq_false (by omega),C6,D5,C0,A3,A3]
  refine⟨fun _=>?_,fun h500=>?_⟩
  ·show true=false->_
   intro h;cases h
  ·show decide (12 < ((l.length:Nat):Int))=false->_
   intro h12
   have h12:=of_decide_eq_false h12
   have h500:=of_decide_eq_false h500
   obtain⟨h1,_⟩:=hv (by omega)
   rw [List.take_length] at h1
   refine⟨by omega,fun r hm=>?_⟩
   have:=d3V hm
   omega
theorem b4H {k:List Int} (_:k.length<=160):Ok (O5 k) fun r=>b6g r.1/\okU r.2.1/\r.2.2.length<=6/\∀ b ∈ r.2.2,b.length<=4096:=by
 unfold O5
 rw [c8M,Option.bind_some,B6]
 refine(d2i (d5Y k) (by omega) (by omega)).mono fun r2 h2=>?_
 obtain⟨a1,a2,a3⟩:=h2
 rw [B6]
 refine(d59 a1 (by omega) (by omega) a3 (by omega) (by omega)).mono fun r3 h3=>?_
 rw [A3]
 exact⟨a3.1,a3.2.2.2.2,h3.2.2.1,h3.2.2.2⟩
theorem c9b {l:List (List UInt8)} (z:szU (.sl (.sl .byte)) l):l.length<=5864062014801/\∀ r ∈ l,r.length<=140737488351232:=by
 have hr:reachBytes=140737488351232:=rfl
 have h1:l.length * 24<=reachBytes:=z.1
 refine⟨by omega,fun r hm=>?_⟩
 have h2:r.length * 1<=reachBytes:=(z.2 r hm).1
 omega
theorem c59 {v2 v8 v40 v41:Int} {v11:List (List UInt8)} {g:o6} {l0:List (List (List UInt8))} (hg:b4U g) (h1:okU v8) (h2:okU v2) (hr:b91 v11):Ok (a04 v2 v8 v11 v40 v41 2 0 g l0 [v8,v2]) (· = .inl (v2,v8,v40,A5 (v41 + 1),g,l0)):=by
 obtain⟨L,hL⟩:∃ L:List Int,L=[v8,v2]:=⟨_,rfl⟩
 have hL2:L.length=2:=by rw [hL];rfl
 have hLu:∀ x ∈ L,okU x:=fun x hx=>by
  rw [hL] at hx
  simp only [List.mem_cons,List.not_mem_nil,or_false] at hx
  rcases hx with rfl | rfl
  ·exact h1
  ·exact h2
 rw [<-hL]
 unfold a04
 refine E7 L (fun i (_:Unit)=>(v2,v8,v11,v40,v41,2,((i:Nat):Int),g,l0,L)) (fun _ _=>True) (fun i _ hi _=>?_) (fun _ _=>?_) (b0:=()) trivial (by omega)
 ·have hs:=(b4y (p:=L[i]) (l:=v11) hg).2
  have hn:=a4K L[i] v11 g
  have hgl:=hg.2.2.2
  have hrl:=hr.1
  unfold U1
  dsimp only
  rw [decide_eq_true (by omega:(i:Int) < 2),E4,decide_eq_true (by omega:(0:Int)<=(i:Int)/\(i:Int) < ((L.length:Nat):Int)),C4,Int.toNat_natCast,decide_eq_true hi,C4,D8 hi,b2a hg (hLu _ (List.getElem_mem hi)) hr,Option.bind_some,c1E hg (hLu _ (List.getElem_mem hi)) hr,Option.bind_some,a8k (by omega),Option.bind_some,Bool.not_true,C6,b5G (by omega),Option.bind_some,Bool.not_true,C6,A3,B4,E2 (by omega)]
  exact⟨(),rfl,trivial⟩
 ·unfold U1
  dsimp only
  rw [decide_eq_false (by omega),C6,A3,B8]
theorem c6a {v2 v8:Int} {g:o6} {L:List (List (List UInt8))} (hg:b4U g) (h1:okU v8) (h2:okU v2) (hL3:L.length=3) (hL:∀ l ∈ L,b91 l):Ok (a05 v2 v8 3 0 g L) (· =true):=by
 unfold a05
 refine E7 L (fun i (_:Unit)=>(v2,v8,3,((i:Nat):Int),g,L)) (fun _ _=>True) (fun i _ hi _=>?_) (fun _ _=>?_) (b0:=()) trivial (by omega)
 ·unfold U2
  dsimp only
  rw [decide_eq_true (by omega:(i:Int) < 3),E4,decide_eq_true (by omega:(0:Int)<=(i:Int)/\(i:Int) < ((L.length:Nat):Int)),C4,Int.toNat_natCast,decide_eq_true hi,C4,D8 hi]
  refine(c59 hg h1 h2 (hL _ (List.getElem_mem hi))).mono fun r hr=>?_
  subst hr
  rw [B4,E2 (by omega)]
  exact⟨(),rfl,trivial⟩
 ·unfold U2
  dsimp only
  rw [decide_eq_false (by omega),C6,D5]
  exact a7m.mono fun r hr=>by subst hr;rfl
theorem c3g (x0:List Int) (x1:List (List UInt8)) (x2:Int) (_:wfU (.sl (.int .i64)) x0) (_:wfU (.sl (.sl .byte)) x1) (w2:wfU (.int .u64) x2) (z0:szU (.sl (.int .i64)) x0) (z1:szU (.sl (.sl .byte)) x1) (_:szU (.int .u64) x2):a0W x0 x1 x2=some true:=by
 obtain⟨s1,s2⟩:=c9b z1
 refine L4.1 ?_
 unfold a0W
 rw [b4G (b1x z0),Option.bind_some,C0]
 refine⟨fun _=>a7m,fun hk=>?_⟩
 have hk:=of_decide_eq_false hk
 rw [B6]
 refine(c1H s1 s2).mono fun r3 h3=>?_
 rw [C0]
 refine⟨fun _=>a7m,fun hm=>?_⟩
 obtain⟨t1,t2⟩:=h3 hm
 rw [B6]
 refine(b4H (by omega)).mono fun m hm=>?_
 obtain⟨a1,a2,a3,a4⟩:=hm
 rw [decide_eq_true ⟨by unfold LIM;omega,by unfold LEN;omega⟩,C4,decide_eq_true ⟨by unfold LIM;omega,by unfold LEN;omega⟩,C4]
 refine c6a a1.b a2 (c1v w2) rfl fun l hl=>?_
 simp only [List.mem_cons,List.not_mem_nil,or_false] at hl
 rcases hl with rfl | rfl | rfl
 ·exact⟨by omega,fun r hr=>by have:=t2 r hr;omega⟩
 ·exact⟨by omega,fun r hr=>by have:=a4 r hr;omega⟩
 ·refine⟨by rw [List.length_append];omega,fun r hr=>?_⟩
  rcases List.mem_append.1 hr with hr | hr
  ·have:=a4 r hr;omega
  ·have:=t2 r hr;omega
theorem d1v (g:o6) (p:Int) (l:List (List UInt8)) (h:b4U g):(c6i g p l).1.1.length<=max g.1.length 256:=by
 unfold c6i
 split
 ·simp
 ·exact(b4y h).2
theorem c0a {v8:Int} {g:o6} {L:List (List (List UInt8))} (hg:b4U g) (h1:okU v8) (hL3:L.length=3) (hL:∀ l ∈ L,b91 l):Ok (X5 v8 3 0 g L) (· =true):=by
 unfold X5
 refine E7 L (fun i (_:Unit)=>(v8,3,((i:Nat):Int),g,L)) (fun _ _=>True) (fun i _ hi _=>?_) (fun _ _=>?_) (b0:=()) trivial (by omega)
 ·have hs:=d1v g v8 L[i] hg
  have hgl:=hg.2.2.2
  unfold P7
  dsimp only
  rw [decide_eq_true (by omega:(i:Int) < 3),E4,decide_eq_true (by omega:(0:Int)<=(i:Int)/\(i:Int) < ((L.length:Nat):Int)),C4,Int.toNat_natCast,decide_eq_true hi,C4,D8 hi,b7s hg h1 (hL _ (List.getElem_mem hi)),Option.bind_some,c57 hg h1 (hL _ (List.getElem_mem hi)),Option.bind_some,a8k (by omega),Option.bind_some,Bool.not_true,C6,decide_eq_true rfl,Bool.not_true,C6,decide_eq_true rfl,Bool.not_true,C6,A3,B4,E2 (by omega)]
  exact⟨(),rfl,trivial⟩
 ·unfold P7
  dsimp only
  rw [decide_eq_false (by omega),C6,D5]
  exact a7m.mono fun r hr=>by subst hr;rfl
theorem b7Z (x0:List Int) (x1:List (List UInt8)) (x2:Int) (_:wfU (.sl (.int .i64)) x0) (_:wfU (.sl (.sl .byte)) x1) (_:wfU (.int .i64) x2) (z0:szU (.sl (.int .i64)) x0) (z1:szU (.sl (.sl .byte)) x1) (_:szU (.int .i64) x2):U3 x0 x1 x2=some true:=by
 obtain⟨s1,s2⟩:=c9b z1
 refine L4.1 ?_
 unfold U3
 rw [b4G (b1x z0),Option.bind_some,C0]
 refine⟨fun _=>a7m,fun hk=>?_⟩
 have hk:=of_decide_eq_false hk
 rw [B6]
 refine(c1H s1 s2).mono fun r3 h3=>?_
 rw [C0]
 refine⟨fun _=>a7m,fun hm=>?_⟩
 obtain⟨t1,t2⟩:=h3 hm
 rw [B6]
 refine(b4H (by omega)).mono fun m hm=>?_
 obtain⟨a1,a2,a3,a4⟩:=hm
 rw [E0 (by omega) (by omega),B6]
 refine(a7R (x:=x2) (n:=((m.2.2.length:Nat):Int) + 1) (by omega) (by omega)).mono fun r6 h6=>?_
 obtain⟨p0,p1,_⟩:=h6
 rw [decide_eq_true ⟨by omega,p0,by omega⟩,C4]
 refine c0a a1.b a2 rfl fun l hl=>?_
 simp only [List.mem_cons,List.not_mem_nil,or_false] at hl
 rcases hl with rfl | rfl | rfl
 ·exact⟨by omega,fun r hr=>by have:=t2 r hr;omega⟩
 ·exact⟨by omega,fun r hr=>by have:=a4 r hr;omega⟩
 ·exact⟨by rw [List.length_take];omega,fun r hr=>by have:=a4 r (List.mem_of_mem_take hr);omega⟩
theorem c1I {g d:o6} {rs:List A6} {at_ e:Int} (hg:g.1.length<=5000000000000) (hl:rs.length<=1000) (h0:e=0->d=g/\∀ r ∈ rs,r.1=0) (h1:e ≠ 0->∃ n:Nat,at_=(n:Int)/\∀ i (hi:i < rs.length),(i < n->rs[i].1=0)/\(i=n->rs[i].1=e)):Ok (a0g at_ e ((rs.length:Nat):Int) 0 g d rs) (· =true):=by
 unfold a0g
 refine E7 rs (fun i (_:Unit)=>(at_,e,((rs.length:Nat):Int),((i:Nat):Int),g,d,rs)) (fun _ _=>True) (fun i _ hi _=>?_) (fun _ _=>?_) (b0:=()) trivial (by omega)
 ·unfold Q5
  dsimp only
  rw [decide_eq_true (by omega:(i:Int) < ((rs.length:Nat):Int)),E4,decide_eq_true (by omega:(0:Int)<=(i:Int)/\(i:Int) < ((rs.length:Nat):Int)),C4,Int.toNat_natCast,decide_eq_true hi,C4,D8 hi]
  have hfin:∀ {p:Bool->Prop},Ok (some (Sum.inl (at_,e,((rs.length:Nat):Int),A5 ((i:Int) + 1),g,d,rs)):Option ((Int × Int × Int × Int × o6 × o6 × List A6) ⊕ Bool)) (Nxt p fun z=>∃ b':Unit,z=(at_,e,((rs.length:Nat):Int),(((i + 1:Nat):Nat):Int),g,d,rs)/\True):=fun {p}=>by
   rw [A3,B4,E2 (by omega)]
   exact⟨(),rfl,trivial⟩
  by_cases he:e=0
  ·rw [decide_eq_true he,E4,decide_eq_true ((h0 he).2 _ (List.getElem_mem hi)),Bool.not_true,C6,C6]
   exact hfin
  ·obtain⟨n,hn,hc⟩:=h1 he
   obtain⟨c1,c2⟩:=hc i hi
   rw [decide_eq_false he,C6,Bool.not_false,E4,hn]
   rw [hn] at hfin
   rcases Nat.lt_trichotomy i n with k | k | k
   ·rw [decide_eq_true (by omega:(i:Int) < (n:Int)),E4,decide_eq_true (c1 k),Bool.not_true,C6,decide_eq_false (by omega:¬ (i:Int)=(n:Int)),C6]
    exact hfin
   ·rw [decide_eq_false (by omega:¬ (i:Int) < (n:Int)),C6,decide_eq_true (by omega:(i:Int)=(n:Int)),E4,decide_eq_true (c2 k),Bool.not_true,C6]
    exact hfin
   ·rw [decide_eq_false (by omega:¬ (i:Int) < (n:Int)),C6,decide_eq_false (by omega:¬ (i:Int)=(n:Int)),C6]
    exact hfin
 ·unfold Q5 a0B
  dsimp only
  rw [decide_eq_false (by omega),C6,D5]
  by_cases he:e=0
  ·rw [decide_eq_true he,Bool.not_true,C6,(h0 he).1,a8k hg,Option.bind_some,E4]
   exact a7m.mono fun r hr=>by subst hr;rfl
  ·rw [decide_eq_false he,Bool.not_false,E4]
   exact a7m.mono fun r hr=>by subst hr;rfl
theorem c0b (x0:List Int) (x1:Int) (_:wfU (.sl (.int .i64)) x0) (_:wfU (.int .i64) x1) (z0:szU (.sl (.int .i64)) x0) (_:szU (.int .i64) x1):W7 x0 x1=some true:=by
 refine L4.1 ?_
 unfold W7
 rw [b4G (b1x z0),Option.bind_some,C0]
 refine⟨fun _=>a7m,fun hk=>?_⟩
 have hk:=of_decide_eq_false hk
 rw [B6]
 refine(b4H (by omega)).mono fun m hm=>?_
 obtain⟨a1,a2,a3,a4⟩:=hm
 obtain⟨g,p,l⟩:=m
 dsimp only at a1 a2 a3 a4 ⊢
 rw [E0 (by omega) (by omega),B6]
 refine(a7R (x:=x1) (n:=((l.length:Nat):Int) + 1) (by omega) (by omega)).mono fun r4 h4=>?_
 obtain⟨p0,p1,_⟩:=h4
 have hrb:b91 l:=⟨by omega,fun r hr=>by have:=a4 r hr;omega⟩
 have hb1:=b4y (p:=p) (l:=l) a1.b
 have hgl:=a1.1.1
 have hlen:=a4K p l g
 rw [b2a a1.b a2 hrb,Option.bind_some,decide_eq_true ⟨by omega,p0,by omega⟩,C4,b2a a1.b a2 ⟨by rw [List.length_take];omega,fun r hr=>hrb.2 r (List.mem_of_mem_take hr)⟩,Option.bind_some,decide_eq_true ⟨p0,by omega,by omega⟩,C4,Int.toNat_natCast,List.take_length,b2a (b4y (p:=p) (l:=l.take (Int.toNat r4)) a1.b).1 a2 ⟨by rw [List.length_drop];omega,fun r hr=>hrb.2 r (List.mem_of_mem_drop hr)⟩,Option.bind_some,b7s a1.b a2 hrb,Option.bind_some]
 have happ:=b6i p (l.take (Int.toNat r4)) g (l.drop (Int.toNat r4))
 rw [List.take_append_drop] at happ
 have e1:(a4q (a4q g p (l.take (Int.toNat r4))).1 p (l.drop (Int.toNat r4))).1=(a4q g p l).1:=by rw [happ]
 have e2:(a4q g p (l.take (Int.toNat r4))).2 ++ (a4q (a4q g p (l.take (Int.toNat r4))).1 p (l.drop (Int.toNat r4))).2=(a4q g p l).2:=by rw [happ]
 have e3:=congrArg List.length e2
 rw [List.length_append] at e3
 rw [e1,a8k (by omega),Option.bind_some,Bool.not_true,C6,decide_eq_true ⟨by unfold LIM;omega,by unfold LEN;omega⟩,C4,decide_eq_true ⟨by unfold LIM;omega,by unfold LEN;omega⟩,C4,e2,b5G (by omega),Option.bind_some,Bool.not_true,C6,decide_eq_true (by omega),Bool.not_true,C6]
 refine c1I (by omega) (by omega) (fun he=>?_) (fun he=>?_)
 ·by_cases hb:c8R (a4q g p l).2 < l.length
  ·exfalso
   have hlt:c8R (a4q g p l).2 < (a4q g p l).2.length:=by omega
   have hbad:(a4q g p l).2[c8R (a4q g p l).2].1 ≠ 0:=of_decide_eq_true (b7e (p:=fun r:A6=>decide (r.1 ≠ 0)) hlt)
   unfold c6i at he
   rw [if_pos hb] at he
   dsimp only at he
   rw [D8 hlt] at he
   exact hbad he
  ·unfold c6i
   rw [if_neg hb]
   refine⟨rfl,fun r hr=>?_⟩
   obtain⟨i,hi,rfl⟩:=List.getElem_of_mem hr
   have:=a9R (p:=fun r:A6=>decide (r.1 ≠ 0)) hi (by show i < c8R (a4q g p l).2;omega)
   exact Classical.byContradiction fun h=>(of_decide_eq_false this) h
 ·by_cases hb:c8R (a4q g p l).2 < l.length
  ·have hlt:c8R (a4q g p l).2 < (a4q g p l).2.length:=by omega
   unfold c6i
   rw [if_pos hb]
   refine⟨_,rfl,fun i hi=>⟨fun h=>?_,fun h=>?_⟩⟩
   ·have:=a9R (p:=fun r:A6=>decide (r.1 ≠ 0)) hi h
    exact Classical.byContradiction fun h=>(of_decide_eq_false this) h
   ·subst h
    dsimp only
    rw [D8 hi]
  ·exfalso
   unfold c6i at he
   rw [if_neg hb] at he
   exact he rfl
theorem b7v (x0:List A6) (x1:List Int) (w0:wfU (.sl D3) x0) (_:wfU (.sl (.int .i64)) x1) (_:szU (.sl D3) x0) (z1:szU (.sl (.int .i64)) x1):R9 x0 x1=some true:=by
 have hx:∀ r ∈ x0,okU r.2.2.2.1:=fun r hr=>c1v (w0.2 r hr).2.2.2.1
 have hrefl:∀ k:Vector UInt8 32,U.beq (.arr 32 .byte) k k=true:=fun k=>(U.beq_iff (.arr 32 .byte) _ rfl k k).2 rfl
 refine L4.1 ?_
 unfold R9
 rw [b4G (b1x z1),Option.bind_some,C0]
 refine⟨fun _=>a7m,fun hk=>?_⟩
 have hk:=of_decide_eq_false hk
 rw [C0]
 refine⟨fun _=>a7m,fun h40=>?_⟩
 have h40:=of_decide_eq_false h40
 rw [B6]
 refine(b4H (by omega)).mono fun m hm=>?_
 obtain⟨a1,a2,a3,a4⟩:=hm
 have hrb:b91 m.2.2:=⟨by omega,fun r hr=>by have:=a4 r hr;omega⟩
 have hlen:=a4K m.2.1 m.2.2 m.1
 obtain⟨k1,d1,d2⟩:=c88 hx (by omega)
 obtain⟨k2,d3,d4⟩:=c88 (c4R m.2.1 m.2.2 m.1) (by omega)
 rw [c1E a1.b a2 hrb,Option.bind_some,d1,Option.bind_some,d2,Option.bind_some,hrefl,E4,d3,Option.bind_some,d4,Option.bind_some,hrefl,E4]
 exact a7m
end Go.Proofs.YtbipjlehhlkghaaGreatDoor.Am
