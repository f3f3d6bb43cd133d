/- The statements about layer 20 hold of plain data: the lists agree, and a pool can be built anew. No conditions. -/
import Derived.Test.YtacnfjjkhpkloaaGreatPLaw20B
namespace Go.Proofs.YtacnfjjkhpkloaaGreat.Am
open Go
theorem c4W {e:ED} (h:e.2.2.1 ∈ a4p):(a4p.map fun n=>if isN n e then 1 else 0).sum=1:=by
 unfold a4p at *
 simp only [List.mem_cons,List.not_mem_nil,or_false] at h
 rcases h with h | h | h | h | h | h <;> (unfold isN;rw [h];decide)
theorem c0Q {α:Type} (f g:α->Nat):∀ l:List α,(l.map fun n=>f n + g n).sum=(l.map f).sum + (l.map g).sum
 | []=>rfl
 | a :: l=>by
  rw [List.map_cons,List.map_cons,List.map_cons,List.sum_cons,List.sum_cons,List.sum_cons,c0Q f g l];omega
theorem b3Q:∀ {l:List ED},(∀ e ∈ l,e.2.2.1 ∈ a4p)->(a4p.map fun n=>(l.filter (isN n)).length).sum=l.length
 | [],_=>by decide
 | e :: l,h=>by
  have ih:=b3Q (l:=l) fun x hx=>h x (by simp [hx])
  have h1:∀ n,((e :: l).filter (isN n)).length=(if isN n e then 1 else 0) + (l.filter (isN n)).length:=fun n=>by
   by_cases hn:isN n e=true
   ·rw [List.filter_cons_of_pos hn,if_pos hn,List.length_cons,Nat.add_comm]
   ·rw [List.filter_cons_of_neg hn,if_neg hn,Nat.zero_add]
  have h2:(a4p.map fun n=>((e :: l).filter (isN n)).length)=a4p.map fun n=>(if isN n e then 1 else 0) + (l.filter (isN n)).length:=List.map_congr_left fun n _=>h1 n
  rw [h2,c0Q,c4W (h e (by simp)),ih,List.length_cons,Nat.add_comm]
theorem b7Q (l:List ED) (n:List UInt8):(a7o l n).length=(l.filter (isN n)).length:=by unfold a7o;rw [b0d]
def d0y (so:List ED):Prop:=∀ i,0 < i->i < so.length->¬ ((so.getD (i - 1) B7).2.2.2.2.2.1 < (so.getD i B7).2.2.2.2.2.1)/\((so.getD (i - 1) B7).2.2.2.2.2.1=(so.getD i B7).2.2.2.2.2.1->¬ (so.getD i B7).2.2.2.2.2.2.2.2.1 < (so.getD (i - 1) B7).2.2.2.2.2.2.2.2.1)
theorem c7t (l:List ED):d0y (a5p l):=fun i h0 hi=>by
 have hp:(a5p l).Pairwise fun a b=>ltc cE b a=false:=by
  refine b2A (lt:=ltc cE) (R:=fun a b=>ltc cE b a=false) (Q:=fun _ _=>True) (fun a b c h1 h2=>?_) (fun x y _ h=>?_) (fun x y _ h=>h) l (List.pairwise_of_forall fun _ _=>trivial)
  ·rw [a4n] at h1 h2 ⊢;omega
  ·rw [b0e] at h
   show ltc cE y x=false
   rw [a4n];omega
 have h:=List.pairwise_iff_getElem.1 hp (i - 1) i (by omega) hi (by omega)
 rw [a4n] at h
 rw [R4 hi,R4 (show i - 1 < (a5p l).length by omega)]
 omega
theorem b6I:b49 ((0:Int),(0:Int),(0:Int),(0:Int),(0:Int),(0:Int),false,(0:Int),(0:Int),(0:Int),(0:Int),(0:Int)):=by
 refine⟨fun i x hx=>?_,by decide⟩
 unfold b6o at hx
 dsimp only at hx
 split at hx <;> first | (injection hx with hx;omega) | cases hx
theorem b0E (x0:List Int) (_:wfU (.sl (.int .i64)) x0) (z0:szU (.sl (.int .i64)) x0):O1 x0=some true:=by
 refine a1q.1 ?_
 unfold O1
 rw [c4V z0,C2,B9,D2]
 refine⟨fun _=>a6c,fun hk=>?_⟩
 have hk:=of_decide_eq_false hk
 rw [C2]
 refine(b6H (by omega) b6I).mono fun r hr=>?_
 obtain⟨p,L,rfl,h⟩:=hr
 have hl:=h.pj.len
 have hlim:=h.pj.lim
 have hlm:(L.map J2).length=L.length:=List.length_map ..
 have e1:=h.pj.lenP
 have e2:=h.pj.bytP (by omega)
 have e3:=h.pj.ents_ok (by omega)
 have e4:=h.pj.sorted_ok (by omega)
 unfold lenP at e1
 unfold bytP at e2
 unfold b7O at e3
 unfold Am.sortP at e4
 unfold a2F
 dsimp only
 rw [Bool.not_true,L0,e1,Option.bind_some]
 unfold a2F
 dsimp only
 rw [decide_eq_false (by omega),L0,e2,Option.bind_some]
 unfold a2F
 dsimp only
 rw [decide_eq_false (by omega),L0,e3,Option.bind_some]
 unfold a2F
 dsimp only
 rw [e4,Option.bind_some]
 unfold a2F
 dsimp only
 have hn6:[([97,110,110]:List UInt8),([98,111,98]:List UInt8),([101,118,101]:List UInt8),([122,111,101]:List UInt8),([110,101,119]:List UInt8),([120,45,49]:List UInt8)]=a4p:=rfl
 rw [hn6]
 have hall:=b3Q (l:=L.map J2) fun e he=>(h.entN e he).2
 rw [hlm] at hall
 have hnl:a4p.length=6:=rfl
 generalize a4p=ns at hall hnl
 unfold a0h
 refine O4 ns (fun i (j:Nat)=>(((j:Nat):Int),(6:Int),((i:Nat):Int),p.cf,p.nx,p.most,p.size,p.free,p.n,p.b,p.t,p.sl,p.it,p.hp,p.ix,p.w,p.pl,p.ids,L.map J2,a5p (L.map J2),ns)) (fun i j=>j=((ns.take i).map fun n=>((L.map J2).filter (isN n)).length).sum) (fun i j hi hinv=>?_) (fun j hinv=>?_) (b0:=0) (by simp) (by omega)
 ·have e5:=h.pj.sender_ok (by omega) (ns.getD i [])
  unfold c0H at e5
  unfold K9
  dsimp only
  have h2:=a6s (fun n=>((L.map J2).filter (isN n)).length) ns (i + 1)
  have h3:((ns.take (i + 1)).map fun n=>((L.map J2).filter (isN n)).length).sum=j + ((L.map J2).filter (isN ns[i])).length:=by rw [M2 hi,List.map_append,List.sum_append,hinv];simp
  have h4:=b7Q (L.map J2) ns[i]
  rw [decide_eq_true (by omega),U3,decide_eq_true (by omega),M5,Int.toNat_natCast,decide_eq_true hi,M5,e5,Option.bind_some,B9,C9,H2 (i:=i) (by omega)]
  unfold a2F
  dsimp only
  rw [R4 hi,h4]
  refine⟨j + ((L.map J2).filter (isN ns[i])).length,?_,h3.symm⟩
  have hw:C6 ((j:Int) + ((((L.map J2).filter (isN ns[i])).length:Nat):Int))=((j + ((L.map J2).filter (isN ns[i])).length:Nat):Int):=by rw [E4] <;> omega
  rw [hw]
 ·rw [List.take_length,hall] at hinv
  subst hinv
  unfold K9 R3
  dsimp only
  rw [hnl,decide_eq_false (by omega),L0,F0,a40,hlm,decide_eq_true rfl,Bool.not_true,L0,L0,e1,Option.bind_some]
  unfold a2F
  dsimp only
  rw [decide_eq_true rfl,Bool.not_true,L0]
  refine Ok.mono (p:=(· =true)) ?_ fun r hr=>by subst hr;rfl
  have hsl:(a5p (L.map J2)).length=L.length:=by rw [a40,hlm]
  have hsr:=c7t (L.map J2)
  have hsm:∀ e ∈ a5p (L.map J2),a1S (L.map J2) e.1:=fun e he=>⟨e,a59.1 he,rfl⟩
  have hsg:∀ e ∈ a5p (L.map J2),c0F p e.1=some (a2F p (e,true)):=fun e he=>by
   obtain⟨x,hx,rfl⟩:=List.mem_map.1 (a59.1 he)
   exact h.pj.get hx
  generalize a5p (L.map J2)=so at hsl hsr hsm hsg
  have hsl':((L.length:Nat):Int)=((so.length:Nat):Int):=by rw [hsl]
  rw [hsl']
  unfold a0g
  refine O4 so (fun i (_:Unit)=>(((so.length:Nat):Int),((i:Nat):Int),L.map J2,so)) (fun _ _=>True) (fun i _ hi _=>?_) (fun _ _=>?_) (b0:=()) trivial (by omega)
  ·unfold K8
   dsimp only
   have hm:=List.getElem_mem hi
   have hgi:List.getD so i B7=so[i]:=R4 hi _
   have hg:=hsg _ hm
   rcases h.at_ 400 so[i].1 with⟨_,j,e,h1,h2,h3,h4,h5⟩ | ⟨h1,h5⟩
   ·have he:e=so[i]:=by
     rw [h5] at hg
     injection hg with hg
     have:=congrArg (fun r:a2r × Int × Int × List SlD × Int × List IT × List (Int × Int) × IxD × Int × Int × Int × List W3 × List (Int × HD) × List (List UInt8 × Int) × Int × ED × Bool=>r.2.2.2.2.2.2.2.2.2.2.2.2.2.2.2.1) hg
     exact this
    rw [he] at h3 h4
    rw [hlm] at h2
    rw [decide_eq_true (by omega),U3,decide_eq_true (by omega),M5,Int.toNat_natCast,decide_eq_true hi,M5,c2w h.ref.1,show atE (L.map J2) (List.getD so i B7).1=(j:Int) from hgi ▸ h1,Option.bind_some,decide_eq_false (by omega),L0,decide_eq_true (by rw [hlm];omega),M5,Int.toNat_natCast,hlm,decide_eq_true h2,M5,h3,<-hgi,a2Q (a8y (hgi ▸ h4)),Option.bind_some,Bool.not_true,L0]
    by_cases h0:0 < i
    ·obtain⟨s1,s2⟩:=hsr i h0 hi
     have w1:C6 ((i:Int) - 1)=((i - 1:Nat):Int):=by rw [E4] <;> omega
     have hi1:i - 1 < so.length:=by omega
     rw [decide_eq_true (by omega),U3,w1,Int.toNat_natCast,decide_eq_true (by omega),M5,decide_eq_true hi1,M5,decide_eq_false s1,L0,M5,M5,D2]
     refine⟨fun h6=>?_,fun _=>by rw [B9,C9,H2 (i:=i) (by omega)];exact⟨(),rfl,trivial⟩⟩
     rw [M5,M5,decide_eq_false (s2 (of_decide_eq_true h6)),L0,B9,C9,H2 (i:=i) (by omega)]
     exact⟨(),rfl,trivial⟩
    ·rw [decide_eq_false (by omega),L0,B9,C9,H2 (i:=i) (by omega)]
     exact⟨(),rfl,trivial⟩
   ·exfalso
    rw [h5] at hg
    injection hg with hg
    have:=congrArg (fun r:a2r × Int × Int × List SlD × Int × List IT × List (Int × Int) × IxD × Int × Int × Int × List W3 × List (Int × HD) × List (List UInt8 × Int) × Int × ED × Bool=>r.2.2.2.2.2.2.2.2.2.2.2.2.2.2.2.2) hg
    cases this
  ·unfold K8
   dsimp only
   rw [decide_eq_false (by omega),L0,F0]
   refine Ok.mono (p:=(· =true)) ?_ fun r hr=>by subst hr;rfl
   exact a6c
theorem c9b {l m:List Int} (h:szU (.sl (.int .i64)) l) (h':szU (.sl (.int .i64)) m):H0 [l,m]=some (decide (160 < l.length + m.length)):=by
 rw [c3n (by simp) fun x hx=>by
  rcases List.mem_cons.1 hx with rfl | hx
  ·exact c9a h
  ·rw [List.mem_singleton.1 hx];exact c9a h']
 simp
theorem c2H {c:Nat} {p:PP} {L:List Rec} (h:PL c p L) {i:Nat} (hi:i < (L.map J2).length):a7s p.cf ((L.map J2).take i) (L.map J2)[i]=((L.map J2).take (i + 1),0):=by
 have hlim:=h.pj.lim
 have hlm:(L.map J2).length=L.length:=List.length_map ..
 have kd:(L.map J2).Pairwise fun a b=>a.1 ≠ b.1:=List.pairwise_map.2 h.pj.kd
 have sd:(L.map J2).Pairwise fun a b=>¬ (a.2.2.1=b.2.2.1/\a.2.2.2.1=b.2.2.2.1):=List.pairwise_map.2 h.pj.sd
 generalize L.map J2=es at *
 have hmem:∀ e ∈ es.take i,∃ (j:Nat) (hj:j < es.length),j < i/\es[j]=e:=fun e he=>by
  obtain⟨j,hj,rfl⟩:=List.mem_take_iff_getElem.1 he
  exact⟨j,by omega,by omega,rfl⟩
 have hb:P0 (es.take i) + a6S es[i]<=P0 es:=by
  have h1:=a6s a6S es (i + 1)
  unfold P0
  rw [M2 hi,List.map_append,List.sum_append] at h1
  simpa using h1
 unfold a7s
 rw [if_neg,if_neg,if_neg,M2 hi]
 ·rw [List.length_take]
  omega
 ·rintro⟨e,he,h1⟩
  obtain⟨j,hj,hji,rfl⟩:=hmem e he
  exact List.pairwise_iff_getElem.1 sd j i hj hi hji h1
 ·rintro⟨e,he,h1⟩
  obtain⟨j,hj,hji,rfl⟩:=hmem e he
  exact List.pairwise_iff_getElem.1 kd j i hj hi hji h1
theorem a82 (x0 x1:List Int) (_:wfU (.sl (.int .i64)) x0) (_:wfU (.sl (.int .i64)) x1) (z0:szU (.sl (.int .i64)) x0) (z1:szU (.sl (.int .i64)) x1):M1 x0 x1=some true:=by
 refine a1q.1 ?_
 unfold M1
 rw [c9b z0 z1,C2,B9,D2]
 refine⟨fun _=>a6c,fun hk=>?_⟩
 have hk:=of_decide_eq_false hk
 rw [C2]
 refine(b6H (by omega) b6I).mono fun r hr=>?_
 obtain⟨p,L,rfl,h⟩:=hr
 have hl:=h.pj.len
 have hlm:(L.map J2).length=L.length:=List.length_map ..
 have e1:=h.pj.ents_ok (by omega)
 unfold b7O at e1
 have e2:=b6G h.cr
 have hcf:b6F p.cf=p.cf:=if_pos h.pj.cfg
 have h0:=PL.new h.cr
 rw [hcf] at e2 h0
 unfold a2F
 dsimp only
 rw [e2,Option.bind_some,Bool.not_true,L0,e1,Option.bind_some]
 unfold a2F c3l
 dsimp only
 unfold Y5
 refine O4 (L.map J2) (fun i (q:PP)=>(x1,(((L.map J2).length:Nat):Int),((i:Nat):Int),p.cf,p.nx,p.most,p.size,p.free,p.n,p.b,p.t,q.cf,q.nx,q.most,q.size,q.free,q.n,q.b,q.t,p.sl,p.it,p.hp,p.ix,p.w,p.pl,p.ids,q.sl,q.it,q.hp,q.ix,q.w,q.pl,q.ids,L.map J2)) (fun i q=>∃ M,PL i q M/\M.map J2=(L.map J2).take i/\q.cf=p.cf) (fun i q hi hinv=>?_) (fun q hinv=>?_) (b0:=a80 p.cf) ⟨[],h0,by simp,rfl⟩ (by omega)
 ·obtain⟨M,hq,hM,hqc⟩:=hinv
  have he:=h.entN _ (List.getElem_mem hi)
  obtain⟨q',M',a1,hq',a2,a3⟩:=hq.insert (by omega) he
  have hins:a7s q.cf (M.map J2) (L.map J2)[i]=((L.map J2).take (i + 1),0):=by
   rw [hM,hqc];exact c2H h hi
  rw [hins] at a1 a2
  unfold c3k at a1
  unfold J1
  dsimp only
  rw [decide_eq_true (by omega),U3,decide_eq_true (by omega),M5,Int.toNat_natCast,decide_eq_true hi,M5,R4 hi,a1,Option.bind_some]
  unfold a2F
  dsimp only
  rw [decide_eq_true rfl,Bool.not_true,L0,B9,C9,H2 (i:=i) (by omega)]
  exact⟨q',rfl,M',hq',a2,a3.trans hqc⟩
 ·obtain⟨M,hq,hM,hqc⟩:=hinv
  rw [List.take_length] at hM
  unfold J1 O9
  dsimp only
  rw [decide_eq_false (by omega),L0,F0,c0o,Option.bind_some]
  refine Ok.mono (p:=(· =true)) ?_ fun r hr=>by subst hr;rfl
  unfold Y4
  refine O3 (fun n x=>∃ (u:A4) (p q:PP) (L M:List Rec) (c:Nat),x=(x1,p.cf,p.nx,p.most,p.size,p.free,p.n,p.b,p.t,q.cf,q.nx,q.most,q.size,q.free,q.n,q.b,q.t,u,p.sl,p.it,p.hp,p.ix,p.w,p.pl,p.ids,q.sl,q.it,q.hp,q.ix,q.w,q.pl,q.ids)/\a8Z x1 200 u/\n=200 - u.2.toNat/\PL c p L/\PL c q M/\L.map J2=M.map J2/\p.cf=q.cf/\(c:Int)<=600 + u.2) ?_ (n:=200) ⟨c2t x1,p,q,L,M,600,rfl,(c7c x1).le (by omega),rfl,h.le (by omega),hq.le (by omega),hM.symm,hqc.symm,by simp [c2t]⟩ (by omega)
  rintro n x ⟨u,p,q,L,M,c,rfl,hu,hn,h,hq,hLM,hpq,hc⟩
  have hu0:=hu.2.1
  unfold O8
  dsimp only
  rw [D2]
  refine⟨fun hlt=>?_,fun hge=>?_⟩
  ·have hlt:=of_decide_eq_true hlt
   have hu160:a8Z x1 159 u:=⟨hu.1,hu0,by omega⟩
   have hc9:c<=900:=by omega
   rw [C2]
   refine(c0K hu160 (by omega) (by omega)).mono ?_
   rintro⟨u1,e⟩ ⟨a1,b1,c1,d1,f1⟩
   dsimp only at a1 b1 c1 d1 f1 ⊢
   have he:=c0L c1 f1
   rw [C2]
   refine(R6 a1 (by omega) (by omega) (by omega)).mono ?_
   rintro⟨u2,y⟩ ⟨a2,b2,c2,d2⟩
   dsimp only at a2 b2 c2 d2 ⊢
   have hu2:=a2.2.2
   rw [D2]
   refine⟨fun _=>?_,fun _=>?_⟩
   ·obtain⟨p',L',g1,hp',g2,g3⟩:=h.remove hc9 e.1
    obtain⟨q',M',k1,hq',k2,k3⟩:=hq.remove hc9 e.1
    unfold c7l at g1 k1
    rw [g1,Option.bind_some,k1,Option.bind_some]
    unfold a2F
    dsimp only
    have hb:c0S (decide (a1S (L.map J2) e.1)) (decide (a1S (M.map J2) e.1))=true:=by rw [hLM];exact beq_self_eq_true _
    rw [hb,Bool.not_true,L0,B9,C9]
    exact⟨200 - u2.2.toNat,by omega,u2,p',q',L',M',c,rfl,a2.le (by omega),rfl,hp',hq',by rw [g2,k2,hLM],by rw [g3,k3,hpq],by omega⟩
   ·obtain⟨p',L',g1,hp',g2,g3⟩:=h.insert hc9 he
    obtain⟨q',M',k1,hq',k2,k3⟩:=hq.insert hc9 he
    unfold c3k at g1 k1
    rw [g1,Option.bind_some,k1,Option.bind_some]
    unfold a2F
    dsimp only
    rw [hLM,hpq,decide_eq_true rfl,Bool.not_true,L0,B9,C9]
    exact⟨200 - u2.2.toNat,by omega,u2,p',q',L',M',c + 1,rfl,a2.le (by omega),rfl,hp',hq',by rw [g2,k2,hLM,hpq],by rw [g3,k3,hpq],by omega⟩
  ·have hu2:=hu.2.2
   have hc9:c<=900:=by omega
   have r1:=h.pj.ents_ok hc9
   have r2:=hq.pj.ents_ok hc9
   have r3:=h.pj.sorted_ok hc9
   have r4:=hq.pj.sorted_ok hc9
   unfold b7O at r1 r2
   unfold Am.sortP at r3 r4
   have hl2:=hq.ref.1
   rw [F0]
   unfold O7
   rw [r1,Option.bind_some,r2,Option.bind_some]
   unfold a2F
   dsimp only
   rw [hLM,a6d hl2 hq.entN,Option.bind_some,U3,r3,Option.bind_some,r4,Option.bind_some]
   unfold a2F
   dsimp only
   rw [hLM,a6d (by rw [a40];exact hl2) (fun e he=>hq.entN e (a59.1 he)),Option.bind_some,U3]
   refine Ok.mono (p:=(· =true)) ?_ fun r hr=>by subst hr;rfl
   exact a6c
end Go.Proofs.YtacnfjjkhpkloaaGreat.Am
