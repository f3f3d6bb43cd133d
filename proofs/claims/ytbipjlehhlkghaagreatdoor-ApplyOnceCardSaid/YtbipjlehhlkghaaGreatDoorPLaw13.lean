/- The statements about layer 13 hold of plain data. No conditions. -/
import Derived.Test.YtbipjlehhlkghaaGreatDoorQAP
import Derived.Test.YtbipjlehhlkghaaGreatDoorQAR
import Derived.Test.YtbipjlehhlkghaaGreatDoorFAllKmempoollaw13
namespace Go.Proofs.YtbipjlehhlkghaaGreatDoor.Am
open Go
theorem a8s:Ok (D7.bind fun r=>some r) (· =true):=⟨true,by rw [b2m];rfl,rfl⟩
theorem b4w {l:List Int} (hl:l.length<=140737488351232):O0 [l]=some (decide (160 < ((l.length:Nat):Int))):=by
 refine L4.1 ?_
 unfold O0 a5p
 refine E7 [l] (fun i (a:Int)=>(a,[l],(([l].length:Nat):Int),((i:Nat):Int))) (fun i a=>a=(if i=0 then 0 else((l.length:Nat):Int))) (fun i a hi ha=>?_) (fun a ha=>?_) (b0:=0) rfl (by simp)
 ·have h0:i=0:=by simpa using hi
  subst h0
  rw [if_pos rfl] at ha
  subst ha
  unfold a0J
  dsimp only
  rw [decide_eq_true (by simp),E4,decide_eq_true (by simp),C4,A3,B4,E2 (by omega)]
  refine⟨_,rfl,?_⟩
  rw [if_neg (by omega),Int.toNat_natCast]
  show A5 (0 + ((l.length:Nat):Int))=_
  rw [E0] <;> omega
 ·have ha:a=((l.length:Nat):Int):=ha
  subst ha
  unfold a0J
  dsimp only
  rw [decide_eq_false (by omega),C6,A3,B8]
theorem c5Y {g:o6} (hl:g.1.length<=4398046511000):Ok (a1F g) fun _=>True:=by
 unfold a1F a49
 refine E7 g.1 (fun i (a:Int)=>(a,g.1,((g.1.length:Nat):Int),((i:Nat):Int))) (fun _ _=>True) (fun i a hi _=>?_) (fun a _=>?_) (b0:=((g.1.length:Nat):Int)) trivial (by omega)
 ·unfold a0a
  dsimp only
  rw [decide_eq_true (by omega:(i:Int) < ((g.1.length:Nat):Int)),E4,decide_eq_true (by omega:(0:Int)<=(i:Int)/\(i:Int) < ((g.1.length:Nat):Int)),C4,A3,B4,E2 (by omega)]
  exact⟨_,rfl,trivial⟩
 ·unfold a0a
  dsimp only
  rw [decide_eq_false (by omega),C6,A3,B8]
  trivial
theorem b4x {k:List Int} (_:k.length<=160):Ok (O3 k) fun r=>b6g r.1/\okU r.2.1/\r.2.2.1.length<=4096/\a9l k 300 r.2.2.2:=by
 unfold O3
 rw [c8M,Option.bind_some,B6]
 refine(d2i (d5Y k) (by omega) (by omega)).mono fun r2 h2=>?_
 obtain⟨a1,a2,a3⟩:=h2
 rw [B6]
 refine(c4M a1 (by omega) (by omega) a3.2.1.1).mono fun r3 h3=>?_
 rw [A3]
 exact⟨a3.2.1,a3.2.2.2.2,h3.2.2,h3.1.le (by omega)⟩
theorem c5Z {v1 v10 v47 v48 v55 v56:Int} {v2 v11 v16:List UInt8} {g:o6} {l0:List o6} {l1:List (List UInt8)} (hg:b4U g) (h1:okU v1) (h2:okU v10) (hr:v16.length<=1000000):Ok (a01 v1 v2 v10 v11 v16 v47 v48 v55 v56 2 0 g l0 l1 [v1,v10]) (· = .inl (v1,v2,v10,v11,v47,v48,v55,A5 (v56 + 1),g,l0,l1)):=by
 obtain⟨L,hL⟩:∃ L:List Int,L=[v1,v10]:=⟨_,rfl⟩
 have hL2:L.length=2:=by rw [hL];rfl
 have hLu:∀ x ∈ L,okU x:=fun x hx=>by
  rw [hL] at hx
  simp only [List.mem_cons,List.not_mem_nil,or_false] at hx
  rcases hx with rfl | rfl
  ·exact h1
  ·exact h2
 rw [<-hL]
 unfold a01
 refine E7 L (fun i (_:Unit)=>(v1,v2,v10,v11,v16,v47,v48,v55,v56,2,((i:Nat):Int),g,l0,l1,L)) (fun _ _=>True) (fun i _ hi _=>?_) (fun _ _=>?_) (b0:=()) trivial (by omega)
 ·have hs:=c4J g L[i] v16
  have hgl:=hg.2.2.2
  unfold T8
  dsimp only
  rw [decide_eq_true (by omega:(i:Int) < 2),E4,decide_eq_true (by omega:(0:Int)<=(i:Int)/\(i:Int) < ((L.length:Nat):Int)),C4,Int.toNat_natCast,decide_eq_true hi,C4,D8 hi,b1w hg (hLu _ (List.getElem_mem hi)) hr,Option.bind_some,b8G hg (hLu _ (List.getElem_mem hi)) hr,Option.bind_some,b9Y,Bool.not_true,C6,a8k (by omega),Option.bind_some,Bool.not_true,C6,A3,B4,E2 (by omega)]
  exact⟨(),rfl,trivial⟩
 ·unfold T8
  dsimp only
  rw [decide_eq_false (by omega),C6,A3,B8]
theorem c50 {v1 v10 v47 v48:Int} {v2 v11:List UInt8} {g:o6} {l0:List o6} (hg:b4U g) (h1:okU v1) (h2:okU v10) (hr:v2.length<=1000000) (hr2:v11.length<=1000000):Ok (a02 v1 v2 v10 v11 v47 v48 2 0 g l0 [v2,v11]) (· = .inl (v1,v2,v10,v11,v47,A5 (v48 + 1),l0)):=by
 obtain⟨L,hL⟩:∃ L:List (List UInt8),L=[v2,v11]:=⟨_,rfl⟩
 have hL2:L.length=2:=by rw [hL];rfl
 have hLu:∀ x ∈ L,x.length<=1000000:=fun x hx=>by
  rw [hL] at hx
  simp only [List.mem_cons,List.not_mem_nil,or_false] at hx
  rcases hx with rfl | rfl
  ·exact hr
  ·exact hr2
 rw [<-hL]
 unfold a02
 refine E7 L (fun i (_:Unit)=>(v1,v2,v10,v11,v47,v48,2,((i:Nat):Int),g,l0,L)) (fun _ _=>True) (fun i _ hi _=>?_) (fun _ _=>?_) (b0:=()) trivial (by omega)
 ·unfold T9
  dsimp only
  rw [decide_eq_true (by omega:(i:Int) < 2),E4,decide_eq_true (by omega:(0:Int)<=(i:Int)/\(i:Int) < ((L.length:Nat):Int)),C4,Int.toNat_natCast,decide_eq_true hi,C4,D8 hi]
  refine(c5Z hg h1 h2 (hLu _ (List.getElem_mem hi))).mono fun r hr=>?_
  subst hr
  rw [B4,E2 (by omega)]
  exact⟨(),rfl,trivial⟩
 ·unfold T9
  dsimp only
  rw [decide_eq_false (by omega),C6,A3,B8]
theorem c51 {v1 v10:Int} {v2 v11:List UInt8} {g m:o6} (hg:b4U g) (hm:b4U m) (h1:okU v1) (h2:okU v10) (hr:v2.length<=1000000) (hr2:v11.length<=1000000):Ok (a03 v1 v2 v10 v11 2 0 [g,m]) (· =true):=by
 obtain⟨L,hL⟩:∃ L:List o6,L=[g,m]:=⟨_,rfl⟩
 have hL2:L.length=2:=by rw [hL];rfl
 have hLu:∀ x ∈ L,b4U x:=fun x hx=>by
  rw [hL] at hx
  simp only [List.mem_cons,List.not_mem_nil,or_false] at hx
  rcases hx with rfl | rfl
  ·exact hg
  ·exact hm
 rw [<-hL]
 unfold a03
 refine E7 L (fun i (_:Unit)=>(v1,v2,v10,v11,2,((i:Nat):Int),L)) (fun _ _=>True) (fun i _ hi _=>?_) (fun _ _=>?_) (b0:=()) trivial (by omega)
 ·unfold U0
  dsimp only
  rw [decide_eq_true (by omega:(i:Int) < 2),E4,decide_eq_true (by omega:(0:Int)<=(i:Int)/\(i:Int) < ((L.length:Nat):Int)),C4,Int.toNat_natCast,decide_eq_true hi,C4,D8 hi]
  refine(c50 (hLu _ (List.getElem_mem hi)) h1 h2 hr hr2).mono fun r hr=>?_
  subst hr
  rw [B4,E2 (by omega)]
  exact⟨(),rfl,trivial⟩
 ·unfold U0
  dsimp only
  rw [decide_eq_false (by omega),C6,D5]
  exact a8s.mono fun r hr=>by subst hr;rfl
theorem c29 (x0:o6) (x1:Int) (x2:List UInt8) (x3:List Int) (w0:wfU A4 x0) (w1:wfU (.int .u64) x1) (_:wfU (.sl .byte) x2) (_:wfU (.sl (.int .i64)) x3) (z0:szU A4 x0) (_:szU (.int .u64) x1) (_:szU (.sl .byte) x2) (z3:szU (.sl (.int .i64)) x3):a0Q x0 x1 x2 x3=some true:=by
 obtain⟨hb0,_⟩:=d5W w0 z0
 refine L4.1 ?_
 unfold a0Q
 rw [b4w (b1x z3),Option.bind_some,C0]
 refine⟨fun _=>a8s,fun hk=>?_⟩
 have hk:=of_decide_eq_false hk
 rw [B6]
 refine(c5Y hb0.2.2.2).mono fun r3 _=>?_
 rw [C0]
 refine⟨fun _=>a8s,fun _=>?_⟩
 rw [C0]
 refine⟨fun _=>a8s,fun hx=>?_⟩
 have hx:=of_decide_eq_false hx
 rw [B6]
 refine(b4x (by omega)).mono fun m hm=>?_
 exact c51 hb0 hm.1.b (c1v w1) hm.2.1 (by omega) (by have:=hm.2.2.1;omega)
theorem b6h {l:List Int} (h:∀ x ∈ l,okU x) (n:Nat):okU (l.getD n 0):=by
 by_cases hn:n < l.length
 ·rw [D8 hn];exact h _ (List.getElem_mem hn)
 ·rw [List.getD_eq_getElem?_getD,List.getElem?_eq_none (by omega)];exact a4J
theorem d3M:okU 18446744073709551615:=⟨by decide,by decide⟩
theorem b2U {v5 v14:Int} {g:o6} {raw:List UInt8} (hg:b4U g) (hp:okU v14) (hr:raw.length<=1000000):Ok (K6 v5 v14 g raw) (· =true):=by
 unfold K6
 rw [B6]
 refine(a7R (x:=v5) (n:=5) (by omega) (by omega)).mono fun r h=>?_
 obtain⟨p0,p1,_⟩:=h
 have hu:okU (List.getD [v14,0,1,9223372036854775808,18446744073709551615] (Int.toNat r) (0:Int)):=b6h (fun x hx=>by
  simp only [List.mem_cons,List.not_mem_nil,or_false] at hx
  rcases hx with rfl | rfl | rfl | rfl | rfl
  ·exact hp
  ·exact a4J
  ·exact⟨by decide,by decide⟩
  ·exact⟨by decide,by decide⟩
  ·exact d3M) _
 generalize List.getD [v14,0,1,9223372036854775808,18446744073709551615] (Int.toNat r) (0:Int)=q at hu
 have hs:=c4J g q raw
 have hgl:=hg.2.2.2
 rw [decide_eq_true ⟨p0,p1⟩,C4,decide_eq_true (by omega),C4,b1w hg hu hr,Option.bind_some,b8G hg hu hr,Option.bind_some,b9Y,E4,a8k (by omega),Option.bind_some,E4]
 exact a8s
theorem b7S {v4 v5 v14:Int} {g:o6} {t:A7} {a:o7} (hg:b4U g) (hp:okU v14) (hs:TxS t) (ht:0 < t.2.2.2.2.2.length) (ht3:t.2.2.2.2.2.length<=3) (ha:okU a.2.1):Ok (I5 v4 v5 v14 g t a) (· =true):=by
 unfold I5
 rw [decide_eq_true ⟨by unfold LIM;omega,by unfold LEN;omega⟩,C4,decide_eq_true (by omega),C4,decide_eq_true (by omega),C4,B6]
 refine(a7R (x:=v4) (n:=6) (by omega) (by omega)).mono fun r h=>?_
 obtain⟨p0,p1,_⟩:=h
 have hu:okU (List.getD [(List.getD t.2.2.2.2.2 0 B0).2,(B1 (a.2.1 - t.2.2.2.1)),(B1 ((B1 (a.2.1 - t.2.2.2.1)) + 1)),a.2.1,(B1 (18446744073709551615 - t.2.2.2.1)),(d2K .u64 t.2.2.2.1)] (Int.toNat r) (0:Int)):=b6h (fun x hx=>by
  simp only [List.mem_cons,List.not_mem_nil,or_false] at hx
  rcases hx with rfl | rfl | rfl | rfl | rfl | rfl
  ·rw [D8 ht];exact(hs.2.2.2.2.2.2 _ (List.getElem_mem ht)).2
  ·exact I7 _
  ·exact I7 _
  ·exact ha
  ·exact I7 _
  ·exact I7 _) _
 generalize List.getD [(List.getD t.2.2.2.2.2 0 B0).2,(B1 (a.2.1 - t.2.2.2.1)),(B1 ((B1 (a.2.1 - t.2.2.2.1)) + 1)),a.2.1,(B1 (18446744073709551615 - t.2.2.2.1)),(d2K .u64 t.2.2.2.1)] (Int.toNat r) (0:Int)=q at hu
 rw [decide_eq_true ⟨p0,p1⟩,C4,decide_eq_true (by omega),C4,C4,C4]
 obtain⟨t',ht'⟩:∃ t':A7,t'=(t.1,t.2.1,t.2.2.1,t.2.2.2.1,t.2.2.2.2.1,List.set t.2.2.2.2.2 0 ((List.getD t.2.2.2.2.2 0 B0).1,q)):=⟨_,rfl⟩
 rw [<-ht']
 have hl':t'.2.2.2.2.2.length=t.2.2.2.2.2.length:=by rw [ht'];exact List.length_set ..
 have hs':TxS t':=by
  rw [ht']
  refine⟨hs.1,hs.2.1,hs.2.2.1,hs.2.2.2.1,hs.2.2.2.2.1,by dsimp only;rw [List.length_set];omega,fun x hx=>?_⟩
  rcases List.mem_or_eq_of_mem_set hx with hx | rfl
  ·exact hs.2.2.2.2.2.2 x hx
  ·exact⟨by rw [D8 ht];exact(hs.2.2.2.2.2.2 _ (List.getElem_mem ht)).1,hu⟩
 rw [b41 hs'.b hs'.n,Option.bind_some,C0]
 refine⟨fun _=>?_,fun _=>b2U hg hp (by have:=c4I t';omega)⟩
 rw [c22 hs',Option.bind_some]
 exact b2U hg hp (by have:=d5U hs' (n:=3) (by omega);omega)
theorem d52 (a b:Nat):okU (d3l a b).1:=by
 unfold d3l
 obtain⟨n,hn⟩:∃ n,n=a * b:=⟨_,rfl⟩
 rw [<-hn]
 split
 ·exact⟨by dsimp only;omega,by dsimp only;omega⟩
 ·exact a4J
theorem b7m (x0:List Int) (x1 x2 x3 x4 x5:Int) (_:wfU (.sl (.int .i64)) x0) (_:wfU (.int .i64) x1) (_:wfU (.int .i64) x2) (_:wfU (.int .i64) x3) (_:wfU (.int .i64) x4) (_:wfU (.int .i64) x5) (z0:szU (.sl (.int .i64)) x0) (_:szU (.int .i64) x1) (_:szU (.int .i64) x2) (_:szU (.int .i64) x3) (_:szU (.int .i64) x4) (_:szU (.int .i64) x5):R7 x0 x1 x2 x3 x4 x5=some true:=by
 refine L4.1 ?_
 unfold R7
 rw [b4w (b1x z0),Option.bind_some,C0]
 refine⟨fun _=>a8s,fun hk=>?_⟩
 have hk:=of_decide_eq_false hk
 rw [B6]
 refine(b4x (by omega)).mono fun m hm=>?_
 obtain⟨hm1,hm2,hm3,hm4⟩:=hm
 have hlen:=hm1.1.1
 rw [B6]
 refine(c4L hm4 (by omega) (by omega) (by omega) hm1.1.2.1).mono fun r4 h4=>?_
 obtain⟨_,_,hM⟩:=h4
 have hMs:=hM.s
 have hM3:=hM.2.2.2.2.2.1
 rw [b9F (by omega),Option.bind_some,b41 hM.b hM.n,Option.bind_some,c4G,Option.bind_some,B6]
 have hacc:okU (c06 m.1.1 r4.2.1).1.2.1/\okU (c06 m.1.1 r4.2.1).1.2.2:=by
  unfold c06
  split
  ·rename_i hf
   rw [D8 hf]
   exact(hm1.1.2.1 _ (List.getElem_mem hf)).2
  ·exact⟨a4J,a4J⟩
 generalize (c06 m.1.1 r4.2.1).1=a at hacc
 have hused:okU (c25 (((d3A r4.2).1.length:Nat):Int) ((r4.2.2.2.2.2.2.length:Nat):Int)):=I7 _
 generalize c25 (((d3A r4.2).1.length:Nat):Int) ((r4.2.2.2.2.2.2.length:Nat):Int)=us at hused
 refine(a7R (x:=x2) (n:=5) (by omega) (by omega)).mono fun r8 h8=>?_
 obtain⟨p0,p1,_⟩:=h8
 have hgas:okU (List.getD [r4.2.2.2.1,(B1 (us - 1)),us,(B1 (us + 1)),18446744073709551615] (Int.toNat r8) (0:Int)):=b6h (fun x hx=>by
  simp only [List.mem_cons,List.not_mem_nil,or_false] at hx
  rcases hx with rfl | rfl | rfl | rfl | rfl
  ·exact hMs.2.2.1
  ·exact I7 _
  ·exact hused
  ·exact I7 _
  ·exact d3M) _
 rw [decide_eq_true ⟨p0,p1⟩,C4,decide_eq_true (by omega),C4]
 generalize List.getD [r4.2.2.2.1,(B1 (us - 1)),us,(B1 (us + 1)),18446744073709551615] (Int.toNat r8) (0:Int)=gas at hgas
 rw [c4H hgas hm2,Option.bind_some,B6]
 have hneed:okU (b5Q gas m.2.1).1:=d52 _ _
 generalize b5Q gas m.2.1=nd at hneed
 refine(a7R (x:=x1) (n:=6) (by omega) (by omega)).mono fun r10 h10=>?_
 obtain⟨q0,q1,_⟩:=h10
 have hfee:okU (List.getD [r4.2.2.2.2.1,(B1 (nd.1 - 1)),nd.1,(B1 (nd.1 + 1)),a.2.1,18446744073709551615] (Int.toNat r10) (0:Int)):=b6h (fun x hx=>by
  simp only [List.mem_cons,List.not_mem_nil,or_false] at hx
  rcases hx with rfl | rfl | rfl | rfl | rfl | rfl
  ·exact hMs.2.2.2.1
  ·exact I7 _
  ·exact hneed
  ·exact I7 _
  ·exact hacc.1
  ·exact d3M) _
 rw [decide_eq_true ⟨q0,q1⟩,C4,decide_eq_true (by omega),C4]
 generalize List.getD [r4.2.2.2.2.1,(B1 (nd.1 - 1)),nd.1,(B1 (nd.1 + 1)),a.2.1,18446744073709551615] (Int.toNat r10) (0:Int)=fee at hfee
 rw [B6]
 refine(a7R (x:=x3) (n:=3) (by omega) (by omega)).mono fun r11 h11=>?_
 rw [B6]
 refine(a7R (x:=x3) (n:=2) (by omega) (by omega)).mono fun r20 h20=>?_
 rw [C0]
 have hfin:∀ {sq:Int},okU sq->Ok (I5 x4 x5 m.2.1 m.1 (r4.2.1,sq,gas,fee,r4.2.2.2.2.2) a) (· =true):=fun {sq} hq=>
  b7S hm1.b hm2 ⟨hMs.1,hq,hgas,hfee,hMs.2.2.2.2.1,hMs.2.2.2.2.2.1,hMs.2.2.2.2.2.2⟩ (by dsimp only;omega) (by dsimp only;omega) hacc.1
 exact⟨fun _=>hfin hacc.2,fun _=>hfin (I7 _)⟩
theorem b7T {g m:o6} {r:A6} (hg:g.1.length<=256) (hm:m.1.length<=256) (h:∀ x ∈ m.1,x.2.2=if r.1=0/\x.1=r.2.1 then B1 (b6f g.1 x.1 + 1) else b6f g.1 x.1):Ok (I6 g m r) (· =true):=by
 unfold I6 a2j
 refine E7 m.1 (fun i (_:Unit)=>(m.1,((m.1.length:Nat):Int),((i:Nat):Int),g,r)) (fun _ _=>True) (fun i _ hi _=>?_) (fun _ _=>?_) (b0:=()) trivial (by omega)
 ·have hx:=h _ (List.getElem_mem hi)
  unfold N8
  dsimp only
  rw [decide_eq_true (by omega:(i:Int) < ((m.1.length:Nat):Int)),E4,decide_eq_true (by omega:(0:Int)<=(i:Int)/\(i:Int) < ((m.1.length:Nat):Int)),C4,Int.toNat_natCast,D8 hi,b9F (by omega),Option.bind_some,E2 (by omega)]
  have hsq:(c06 g.1 m.1[i].1).1.2.2=b6f g.1 m.1[i].1:=rfl
  rw [hsq]
  by_cases h1:r.1=0
  ·rw [decide_eq_true h1,E4]
   by_cases h2:m.1[i].1=r.2.1
   ·rw [if_pos ⟨h1,h2⟩] at hx
    rw [decide_eq_true h2,E4,decide_eq_true hx,Bool.not_true,C6,A3,B4]
    exact⟨(),rfl,trivial⟩
   ·rw [if_neg (fun k=>h2 k.2)] at hx
    rw [decide_eq_false h2,C6,decide_eq_true hx,Bool.not_true,C6,A3,B4]
    exact⟨(),rfl,trivial⟩
  ·rw [if_neg (fun k=>h1 k.1)] at hx
   rw [decide_eq_false h1,C6,decide_eq_true hx,Bool.not_true,C6,A3,B4]
   exact⟨(),rfl,trivial⟩
 ·unfold N8
  dsimp only
  rw [decide_eq_false (by omega),C6,D5]
  exact a8s.mono fun r hr=>by subst hr;rfl
theorem b7n (x0:List Int) (_:wfU (.sl (.int .i64)) x0) (z0:szU (.sl (.int .i64)) x0):R8 x0=some true:=by
 refine L4.1 ?_
 unfold R8
 rw [b4w (b1x z0),Option.bind_some,C0]
 refine⟨fun _=>a8s,fun hk=>?_⟩
 have hk:=of_decide_eq_false hk
 rw [B6]
 refine(b4x (by omega)).mono fun m hm=>?_
 obtain⟨hm1,hm2,hm3,hm4⟩:=hm
 obtain⟨k1,k2,_,k4⟩:=b1y (p:=m.2.1) (raw:=m.2.2.1) hm1
 have hgl:=hm1.1.1
 have hnl:=k1.1.1
 rw [b1w hm1.b hm2 (by omega),Option.bind_some,b9C hm1.1.2.2 hm1.bal (by omega),Option.bind_some,b9C k1.1.2.2 k1.bal (by omega),Option.bind_some,k2,decide_eq_true rfl,Bool.not_true,C6,c8I,Bool.not_true,C6,c2P k1.b,Option.bind_some,c2P hm1.b,Option.bind_some,k1.val,hm1.val,decide_eq_true rfl,Bool.not_true,C6]
 have hc:Ok (I6 m.1 (V3 m.1 m.2.1 m.2.2.1).1 (V3 m.1 m.2.1 m.2.2.1).2) (· =true):=by
  refine b7T hgl hnl fun x hx=>?_
  have hxs:=a3Z k1.srt hx
  rcases k4 with⟨c1,c2⟩ | ⟨c1,_,_,c2,_,c4,c5,c6⟩
  ·rw [if_neg (fun k=>c1 k.1),<-hxs,c2]
  ·rw [c6] at hxs
   rw [<-hxs,c1,c2]
   by_cases e:x.1=(a2X m.2.2.1).1.1
   ·rw [if_pos e,if_pos ⟨rfl,e⟩,e,c4,K9]
    ·have:=(b8E m.2.2.1).2.1.1;omega
    ·exact c5
   ·rw [if_neg e,if_neg (fun k=>e k.2)]
 rw [C0]
 refine⟨fun h=>?_,fun _=>hc⟩
 rcases k4 with⟨c1,c2⟩ | ⟨c1,_⟩
 ·rw [show D4 (V3 m.1 m.2.1 m.2.2.1).1 m.1=some true by rw [c2];exact a8k (by omega),Option.bind_some,Bool.not_true,C6]
  exact hc
 ·rw [c1] at h;cases h
theorem c52 {g:o6} {p:Int} {raw:List UInt8} (h:b6g g) (hd:(a2X raw).2=0) (hn:(a2X raw).1.1 ∈ G9 g.1) (hs:(a2X raw).1.2.1 < b6f g.1 (a2X raw).1.1):(V3 g p raw).2.1=14:=by
 rw [b6e h.val hd]
 show b7R g p (a2X raw).1 ((raw.length:Nat):Int)=14
 have hf:E9 g.1 (a2X raw).1.1 < g.1.length:=a2Y.2 hn
 have hsq:=a3Z h.srt (List.getElem_mem hf)
 rw [a2S hf] at hsq
 unfold b7R
 rw [if_neg (fun k=>k hf),D8 hf,<-hsq,if_pos (by omega)]
theorem b9Z (x0:List Int) (_:wfU (.sl (.int .i64)) x0) (z0:szU (.sl (.int .i64)) x0):V9 x0=some true:=by
 refine L4.1 ?_
 unfold V9
 rw [b4w (b1x z0),Option.bind_some,C0]
 refine⟨fun _=>a8s,fun hk=>?_⟩
 have hk:=of_decide_eq_false hk
 rw [B6]
 refine(b4x (by omega)).mono fun m hm=>?_
 obtain⟨hm1,hm2,hm3,hm4⟩:=hm
 obtain⟨k1,_,k3,k4⟩:=b1y (p:=m.2.1) (raw:=m.2.2.1) hm1
 rw [b1w hm1.b hm2 (by omega),Option.bind_some,C0]
 refine⟨fun _=>a8s,fun h0=>?_⟩
 rcases k4 with⟨c1,_⟩ | ⟨_,hd,_,_,c3,c4,c5,c6⟩
 ·rw [decide_eq_false c1] at h0;cases h0
 have hn1:=k3 _ c3
 have hs1:(a2X m.2.2.1).1.2.1 < b6f (V3 m.1 m.2.1 m.2.2.1).1.1 (a2X m.2.2.1).1.1:=by rw [c6,if_pos rfl,c4];omega
 rw [B6]
 refine(a2b hm4 (n:=4) (by omega) (by omega) (by omega)).mono fun r6 h6=>?_
 obtain⟨d1,d2,d3,d4⟩:=h6
 generalize (V3 m.1 m.2.1 m.2.2.1).1=g at k1 hn1 hs1
 unfold a3e
 refine Q7 (fun n v=>∃ (u:A0) (l:o6) (i:Nat),v=(m.2.1,m.2.2.1,((i:Int) - 1),u,l)/\n=i/\i<=4/\a9l x0 (600 - 50 * i) u/\b6g l/\(a2X m.2.2.1).1.1 ∈ G9 l.1/\(a2X m.2.2.1).1.2.1 < b6f l.1 (a2X m.2.2.1).1.1) ?_ (n:=(r6.2 + 1).toNat) ⟨r6.1,g,(r6.2 + 1).toNat,by rw [Int.toNat_of_nonneg (by omega),Int.add_sub_cancel],rfl,by omega,d1.le (by omega),k1,hn1,hs1⟩ (by omega)
 rintro n v ⟨u,l,i,rfl,rfl,hi,hu,hv,hn,hs⟩
 unfold a0x
 dsimp only
 rw [C0]
 refine⟨fun h=>?_,fun h=>?_⟩
 ·have h:=of_decide_eq_true h
  rw [b1w hv.b hm2 (by omega),Option.bind_some,c52 hv hd hn hs,decide_eq_true rfl,Bool.not_true,C6,B6]
  refine(c4M hu (by omega) (by omega) hv.1).mono fun r8 h8=>?_
  obtain⟨e1,_,e2,e3⟩:=b1y (p:=m.2.1) (raw:=r8.2) hv
  rw [b1w hv.b hm2 (by have:=h8.2.2;omega),Option.bind_some,A3,B4,E0 (by omega) (by omega)]
  refine⟨n - 1,by omega,r8.1,_,n - 1,by rw [show((n:Int) - 1 - 1)=(((n - 1:Nat):Int) - 1) by omega],rfl,by omega,h8.1.le (by omega),e1,e2 _ hn,?_⟩
  rcases e3 with⟨_,f2⟩ | ⟨_,_,_,_,_,_,_,f2⟩
  ·rw [f2];exact hs
  ·rw [f2]
   split
   ·omega
   ·exact hs
 ·rw [D5]
  exact a8s.mono fun r hr=>by subst hr;rfl
end Go.Proofs.YtbipjlehhlkghaaGreatDoor.Am
