/- The statements about layer 20 hold of plain data: what is played and read. No conditions. -/
import Derived.Test.YtacnfjjkhpkloaaGreatPLaw20
namespace Go.Proofs.YtacnfjjkhpkloaaGreat.Am
open Go
theorem c9a {l:List Int} (h:szU (.sl (.int .i64)) l):l.length<=1000000000000000:=by
 have h1:List.length l * 8<=reachBytes:=h.1
 simp only [reachBytes] at h1
 omega
theorem c4V {l:List Int} (h:szU (.sl (.int .i64)) l):H0 [l]=some (decide (160 < l.length)):=by
 rw [c3n (by simp) fun x hx=>by rw [List.mem_singleton.1 hx];exact c9a h]
 simp
theorem b0D {n:Int} (h:inK .i64 n): -9223372036854775808<=n/\n<=9223372036854775807:=h
theorem d0x {n:Int} (h:inK .u64 n):0<=n/\n < 18446744073709551616:=by
 have h:0<=n/\n<=18446744073709551615:=h
 omega
theorem c3o {c:a2r} (w:wfU A8 c):b49 c:=by
 obtain⟨w0,w1,w2,w3,w4,w5,_,w7,w8,w9,w10,w11⟩:=w
 refine⟨fun i x hx=>?_,d0x w9⟩
 unfold b6o at hx
 split at hx
 ·injection hx with hx;rw [<-hx];exact b0D w0
 ·injection hx with hx;rw [<-hx];exact b0D w1
 ·injection hx with hx;rw [<-hx];exact b0D w2
 ·injection hx with hx;rw [<-hx];exact b0D w3
 ·injection hx with hx;rw [<-hx];exact b0D w4
 ·injection hx with hx;rw [<-hx];exact b0D w5
 ·injection hx with hx;rw [<-hx];exact b0D w7
 ·injection hx with hx;rw [<-hx];exact b0D w8
 ·injection hx with hx;rw [<-hx];exact b0D w10
 ·injection hx with hx;rw [<-hx];exact b0D w11
 ·cases hx
theorem a8y {e:ED} (h:b7P e):e.2.2.2.2.2.2.2.2.2.length < 9223372036854775807:=by
 have:=h.1.1.2
 omega
theorem a6d {l:List ED} (hl:l.length<=1000000) (h:∀ e ∈ l,b7P e):D7 l l=some true:=a81 (by omega) fun e he=>a8y (h e he)
theorem PL.entN {c:Nat} {p:PP} {L:List Rec} (h:PL c p L):∀ e ∈ L.map J2,b7P e:=fun e he=>by
 obtain⟨x,hx,rfl⟩:=List.mem_map.1 he
 exact h.nm x hx
theorem b2D (x0:List Int) (x1:A0) (_:wfU (.sl (.int .i64)) x0) (w1:wfU A8 x1) (z0:szU (.sl (.int .i64)) x0) (_:szU A8 x1):Q2 x0 x1=some true:=by
 refine a1q.1 ?_
 unfold Q2
 rw [c4V z0,C2,B9,D2]
 refine⟨fun _=>a6c,fun hk=>?_⟩
 have hk:=of_decide_eq_false hk
 rw [C2]
 refine(b6H (by omega) (c3o w1)).mono fun r hr=>?_
 obtain⟨p,L,rfl,h⟩:=hr
 have e1:=h.pj.ents_ok (by omega)
 unfold b7O at e1
 unfold a2F
 dsimp only
 rw [U3,e1,Option.bind_some]
 unfold a2F
 dsimp only
 rw [a6d h.ref.1 h.entN,Option.bind_some,U3]
 exact a6c
theorem b2E {l:List KD} (hl:l.length<=1000000):U0 l l=some true:=by
 refine a1q.1 ?_
 unfold U0
 rw [decide_eq_true rfl,Bool.not_true,L0]
 unfold a08
 refine O4 l (fun i (_:Unit)=>(l,l,((l.length:Nat):Int),((i:Nat):Int))) (fun _ _=>True) (fun i _ hi _=>?_) (fun _ _=>?_) (b0:=()) trivial (by omega)
 ·have hq:∀ k:KD,U.beq (.arr 32 .byte) k k=true:=fun k=>(U.beq_iff (.arr 32 .byte) _ rfl k k).2 rfl
  unfold O0
  dsimp only
  rw [decide_eq_true (by omega),U3,decide_eq_true (by omega),M5,M5,Int.toNat_natCast,D2]
  refine⟨fun h=>absurd ((congrArg (fun b=> !b) (hq (l.getD i (Vector.replicate 32 (0:UInt8))))).symm.trans h) (by decide),fun _=>?_⟩
  rw [B9,C9,H2 (i:=i) (by omega)]
  exact⟨(),rfl,trivial⟩
 ·simp only [O0,D2,F8,B9,C9,D4,decide_eq_true_eq,decide_eq_false_iff_not,Bool.not_eq_true',Bool.not_eq_false',Int.toNat_natCast]
  exact⟨fun h=>by omega,fun _=>trivial⟩
theorem b3P:D6 e0 e0=some true:=a2Q (by decide)
theorem PL.at_ (c:Nat) {p:PP} {L:List Rec} (h:PL c p L) (k:KD):(a1S (L.map J2) k/\∃ (i:Nat) (e:ED),atE (L.map J2) k=(i:Int)/\i < (L.map J2).length/\(L.map J2).getD i B7=e/\b7P e/\c0F p k=some (a2F p (e,true)))\/(atE (L.map J2) k= -1/\c0F p k=some (a2F p (e0,false))):=by
 by_cases hk:a1S (L.map J2) k
 ·left
  obtain⟨i,h1,_,hi,h2⟩:=b47 hk
  refine⟨hk,i,(L.map J2)[i],h1,hi,R4 hi _,h.entN _ (List.getElem_mem hi),?_⟩
  have hil:i < L.length:=by rwa [List.length_map] at hi
  have hx:=h.pj.get (List.getElem_mem hil)
  have he:(L.map J2)[i]=L[i].2.2:=by rw [List.getElem_map];rfl
  rw [he] at h2 ⊢
  rw [<-h2]
  exact hx
 ·right
  exact⟨b46 fun e he e4=>hk ⟨e,he,e4⟩,h.pj.get0 hk⟩
theorem b2F (x0:List Int) (x1:A0) (x2 x3:Int) (x4:Vector UInt8 32) (_:wfU (.sl (.int .i64)) x0) (w1:wfU A8 x1) (_:wfU (.int .i64) x2) (_:wfU (.int .i64) x3) (_:wfU (.arr 32 .byte) x4) (z0:szU (.sl (.int .i64)) x0) (_:szU A8 x1) (_:szU (.int .i64) x2) (_:szU (.int .i64) x3) (_:szU (.arr 32 .byte) x4):Q1 x0 x1 x2 x3 x4=some true:=by
 refine a1q.1 ?_
 unfold Q1
 rw [c4V z0,C2,B9,D2]
 refine⟨fun _=>a6c,fun hk=>?_⟩
 have hk:=of_decide_eq_false hk
 rw [C2]
 refine(b6H (by omega) (c3o w1)).mono fun r hr=>?_
 obtain⟨p,L,rfl,h⟩:=hr
 have hl:=h.pj.len
 have e1:=h.pj.sorted_ok (by omega)
 unfold Am.sortP at e1
 have hlm:(L.map J2).length=L.length:=List.length_map ..
 have hsE:∀ e ∈ a5p (L.map J2),b7P e:=fun e he=>h.entN e (a59.1 he)
 unfold a2F
 dsimp only
 rw [Bool.not_true,L0,e1,Option.bind_some,b3B (by rw [hlm];omega),Option.bind_some]
 unfold a2F
 dsimp only
 rw [a6d (by rw [a40,hlm];omega) hsE,Option.bind_some,Bool.not_true,L0]
 generalize hnames:[([97,110,110]:List UInt8),([98,111,98]:List UInt8),([101,118,101]:List UInt8),([122,111,101]:List UInt8),([110,101,119]:List UInt8),([120,45,49]:List UInt8),([110,111,110,101]:List UInt8)]=ns
 have hnl:ns.length=7:=by rw [<-hnames];rfl
 unfold a0G
 refine O4 ns (fun i (_:Unit)=>(x2,x3,(7:Int),((i:Nat):Int),x4,p.cf,p.nx,p.most,p.size,p.free,p.n,p.b,p.t,((p.cf,L.map J2):RP),p.sl,p.it,p.hp,p.ix,p.w,p.pl,p.ids,ns)) (fun _ _=>True) (fun i _ hi _=>?_) (fun _ _=>?_) (b0:=()) trivial (by omega)
 ·have e2:=h.pj.sender_ok (by omega) (ns.getD i [])
  unfold c0H at e2
  unfold M0
  dsimp only
  rw [decide_eq_true (by omega),U3,decide_eq_true (by omega),M5,Int.toNat_natCast,decide_eq_true hi,M5,e2,Option.bind_some,b7G (by rw [hlm];omega),Option.bind_some]
  unfold a2F
  dsimp only
  rw [a6d (Nat.le_trans (b3G _ _) (by rw [hlm];omega)) (fun e he=>h.entN e (List.mem_filter.1 ((a02 _ _).mem_iff.1 he)).1),Option.bind_some,Bool.not_true,L0,B9,C9,H2 (i:=i) (by omega)]
  exact⟨(),rfl,trivial⟩
 ·unfold M0 S8
  dsimp only
  rw [hnl,decide_eq_false (by omega),L0,F0,C2]
  refine(b2o (by omega) (by omega)).mono fun r13 _=>?_
  rw [C2]
  refine(b2o (by omega) (by omega)).mono fun r14 _=>?_
  refine Ok.mono (p:=(· =true)) ?_ fun r hr=>by subst hr;rfl
  generalize hvs:[(Vector.push (Vector.push #v[] x2) x3),(Vector.push (Vector.push #v[] r13) r14)]=vs
  have hvl:vs.length=2:=by rw [<-hvs];rfl
  unfold a0F
  refine O4 vs (fun i (_:Unit)=>((2:Int),((i:Nat):Int),x4,p.cf,p.nx,p.most,p.size,p.free,p.n,p.b,p.t,((p.cf,L.map J2):RP),p.sl,p.it,p.hp,p.ix,p.w,p.pl,p.ids,vs)) (fun _ _=>True) (fun i _ hi _=>?_) (fun _ _=>?_) (b0:=()) trivial (by omega)
  ·unfold L9
   dsimp only
   rw [decide_eq_true (by omega),U3,decide_eq_true (by omega),M5,Int.toNat_natCast,decide_eq_true hi,M5]
   generalize O5 (List.getD vs i (Vector.replicate 2 (0:Int))) 0 (0:Int)=ht
   generalize O5 (List.getD vs i (Vector.replicate 2 (0:Int))) 1 (0:Int)=tm
   have e2:=h.pj.expired_ok (by omega) ht tm
   unfold c7L at e2
   rw [e2,Option.bind_some,c4K (by rw [hlm];omega),Option.bind_some]
   unfold a2F
   dsimp only
   rw [b2E (Nat.le_trans (b3F _ _ _ _) (by rw [hlm];omega)),Option.bind_some,Bool.not_true,L0,B9,C9,H2 (i:=i) (by omega)]
   exact⟨(),rfl,trivial⟩
  ·unfold L9 S7
   dsimp only
   rw [hvl,decide_eq_false (by omega),L0,F0,hlm,decide_eq_true (by rw [Nat.zero_add];exact a4Z (by omega)),M5,decide_eq_true (a4Z (by omega)),M5]
   refine Ok.mono (p:=(· =true)) ?_ fun r hr=>by subst hr;rfl
   generalize hes:(L.map J2 ++ ([(x4,[],[],(0:Int),(0:Int),(0:Int),(0:Int),(0:Int),(0:Int),[])]:List o7))=es
   have hel:es.length<=1000:=by rw [<-hes,List.length_append,hlm];simp;omega
   unfold a0E
   refine O4 es (fun i (_:Unit)=>(((es.length:Nat):Int),((i:Nat):Int),p.cf,p.nx,p.most,p.size,p.free,p.n,p.b,p.t,((p.cf,L.map J2):RP),p.sl,p.it,p.hp,p.ix,p.w,p.pl,p.ids,es)) (fun _ _=>True) (fun i _ hi _=>?_) (fun _ _=>?_) (b0:=()) trivial (by omega)
   ·unfold L8
    dsimp only
    rw [decide_eq_true (by omega),U3,decide_eq_true (by omega),M5,Int.toNat_natCast,decide_eq_true hi,M5]
    generalize (List.getD es i B7).1=k
    rw [c2w h.ref.1]
    rcases h.at_ 400 k with⟨_,j,e,h1,h2,h3,h4,h5⟩ | ⟨h1,h5⟩
    ·unfold c0F at h5
     rw [h1,h5,Option.bind_some,Option.bind_some]
     unfold a2F
     dsimp only
     rw [show c0S true (decide ((0:Int)<=(j:Int)))=true by rw [decide_eq_true (by omega)];rfl,Bool.not_true,L0,U3,decide_eq_true (by omega),M5,Int.toNat_natCast,h3,a2Q (a8y h4),Option.bind_some,Bool.not_true,L0,L0,B9,C9,H2 (i:=i) (by omega)]
     exact⟨(),rfl,trivial⟩
    ·unfold c0F at h5
     rw [h1,h5,Option.bind_some,Option.bind_some]
     unfold a2F
     dsimp only
     rw [show c0S false (decide ((0:Int)<= -1))=true from rfl,Bool.not_true,L0,L0,Bool.not_false,U3]
     have h6:=b3P
     unfold e0 at h6 ⊢
     rw [h6,Option.bind_some,Bool.not_true,L0,B9,C9,H2 (i:=i) (by omega)]
     exact⟨(),rfl,trivial⟩
   ·unfold L8
    dsimp only
    rw [decide_eq_false (by omega),L0,F0]
    refine Ok.mono (p:=(· =true)) ?_ fun r hr=>by subst hr;rfl
    exact a6c
end Go.Proofs.YtacnfjjkhpkloaaGreat.Am
