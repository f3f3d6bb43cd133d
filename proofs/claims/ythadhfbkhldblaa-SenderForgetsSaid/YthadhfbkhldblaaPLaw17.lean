/- The statements about layer 17 hold of plain data. No conditions. -/
import Derived.Test.YthadhfbkhldblaaQAM
import Derived.Test.YthadhfbkhldblaaQAN
import Derived.Test.YthadhfbkhldblaaQAK
import Derived.KernelRfl
namespace Go.Proofs.Ythadhfbkhldblaa.Am
open Go
theorem a88 {l:List Int} (hl:l.length<=maxLen):D4 [l]=some (decide (160 < l.length)):=by
 simp only [maxLen] at hl
 refine a1N.1 ?_
 unfold D4 S3
 have h0:I9 (0 + ((l.length:Nat):Int))=((l.length:Nat):Int):=by rw [Y3] <;> omega
 refine O0 [l] (fun i (_:Unit)=>(if i=0 then 0 else((l.length:Nat):Int),[l],(((1:Nat):Nat):Int),((i:Nat):Int))) (fun i _=>i<=1) (fun i _ hi _=>?_) (fun _ _=>?_) (b0:=()) (by omega) (by simp)
 ·have hi0:i=0:=by simp only [List.length_cons,List.length_nil] at hi;omega
  subst hi0
  simp only [J0,B3,N9,A7,C9,H2,decide_eq_true_eq,decide_eq_false_iff_not,Int.toNat_natCast]
  refine⟨fun _=>⟨by simp,(),?_,by omega⟩,fun h=>by omega⟩
  have h1:I9 (((0:Nat):Int) + 1)=((0 + 1:Nat):Int):=by rw [Y3] <;> omega
  rw [h1]
  simp only [if_true]
  show(I9 (0 + ((l.length:Nat):Int)),[l],_,_)=_
  rw [h0]
  rfl
 ·simp only [J0,B3,N9,A7,C9,H2,decide_eq_true_eq,decide_eq_false_iff_not,Int.toNat_natCast,List.length_cons,List.length_nil]
  refine⟨fun h=>by omega,fun _=>?_⟩
  simp
  omega
theorem a1r {l:List (List UInt8)} (h:l.length < 9223372036854775807):D7 l l=some true:=by
 refine a1N.1 ?_
 simp only [D7,B3,A7,decide_eq_true_eq,decide_eq_false_iff_not,Bool.not_eq_true',Bool.not_eq_false']
 refine⟨fun h=>(h trivial).elim,fun _=>?_⟩
 unfold N4
 refine O0 l (fun i (_:Unit)=>(l,l,((l.length:Nat):Int),((i:Nat):Int))) (fun _ _=>True) (fun i b hi _=>?_) (fun b _=>?_) (b0:=()) trivial (by omega)
 ·simp only [E7,S9 (i:=i) (by omega),B3,N9,A7,C9,H2,decide_eq_true_eq,decide_eq_false_iff_not,Bool.not_eq_true',Bool.not_eq_false',Int.toNat_natCast]
  refine⟨fun _=>⟨by omega,by omega,?_⟩,fun h=>by omega⟩
  simp
 ·simp only [E7,B3,N9,A7,C9,H2,decide_eq_true_eq,decide_eq_false_iff_not,Bool.not_eq_true',Bool.not_eq_false',Int.toNat_natCast]
  exact⟨fun h=>by omega,fun _=>trivial⟩
theorem b2m:A5=some true:=by
 have ha:([97]:List UInt8).length<=60:=by decide
 obtain⟨l1,n1,e1,j1⟩:=xj0.add (by omega) (q:=7) (id:=1) ha (by omega)
 have v1:a5U [] ([97],7,1)=([([97],7,1)],true):=by rfl
 rw [v1] at e1 j1
 obtain⟨l2,n2,e2,j2⟩:=j1.add (by omega) (q:=5) (id:=2) ha (by omega)
 have v2:a5U [([97],7,1)] ([97],5,2)=([([97],5,2),([97],7,1)],true):=by rfl
 rw [v2] at e2 j2
 obtain⟨l3,n3,e3,j3⟩:=j2.add (by omega) (q:=6) (id:=3) ha (by omega)
 have v3:a5U [([97],5,2),([97],7,1)] ([97],6,3)=([([97],5,2),([97],6,3),([97],7,1)],true):=by rfl
 rw [v3] at e3 j3
 obtain⟨l4,n4,e4,j4⟩:=j3.add (by omega) (q:=5) (id:=4) ha (by omega)
 have v4:a5U [([97],5,2),([97],6,3),([97],7,1)] ([97],5,4)=([([97],5,2),([97],6,3),([97],7,1)],false):=by rfl
 rw [v4] at e4 j4
 have hl:a1j [97] [([97],5,2),([97],6,3),([97],7,1)]=[2,3,1]:=by rfl
 have r1:=j4.run (by omega) [97] (q:=6) (by omega)
 have r2:=j4.run (by omega) [97] (q:=4) (by omega)
 have h1:rrR (M2 [97] [([97],5,2),([97],6,3),([97],7,1)]) 6 false=[3,1]:=by rfl
 have h2:rrR (M2 [97] [([97],5,2),([97],6,3),([97],7,1)]) 4 false=[]:=by rfl
 rw [h1] at r1
 rw [h2] at r2
 have hn:=j4.names (N:=[[97]]) (by omega) (by simp) (fun k=>by simp [eq_comm])
 have hz:=j4.size
 unfold A5 R5
 rw [Option.bind_some,e1,Option.bind_some,e2,Option.bind_some,e3,Option.bind_some,e4,Option.bind_some]
 dsimp only
 rw [a2h,a2h,a2h,Bool.not_false,a2h,j4.list (by omega),Option.bind_some,hl]
 dsimp only
 rw [T2 (by decide),Option.bind_some,a2h,r1,Option.bind_some]
 dsimp only
 rw [T2 (by decide),Option.bind_some,a2h,r2,Option.bind_some]
 dsimp only
 rw [decide_eq_true (by rfl),a2h,hn,Option.bind_some]
 dsimp only
 rw [a1r (by decide),Option.bind_some,a2h]
 unfold E8
 rw [Option.bind_some,hz];rfl
theorem Y5:Ok (A5.bind fun r=>some r) (· =true):=⟨true,by rw [b2m];rfl,rfl⟩
theorem b6L {L:List Int} {k:Int} {s:o6} (hs:a92 L k s) (hk:k < 4611686018427387904):Ok (N5 s) fun r=>a92 L (k + 1) r.1/\s.2 < r.1.2/\r.2.length<=3:=by
 unfold N5
 rw [B5]
 refine(a4V hs (n:=6) (by omega) (by omega) (by omega)).mono fun r h=>?_
 obtain⟨a1,a2,a3,a4⟩:=h
 simp only [N9,A7,decide_eq_true_eq]
 refine⟨⟨a3,a4⟩,by omega,a1,a2,?_⟩
 obtain⟨n,hn⟩:∃ n:Nat,Int.toNat r.2=n:=⟨_,rfl⟩
 have hn6:n < 6:=by omega
 rw [hn]
 match n,hn6 with
 | 0,_ | 1,_ | 2,_ | 3,_ | 4,_ | 5,_=>decide
theorem b7S {L:List Int} {k:Int} {s:o6} (hs:a92 L k s) (hk:k < 4611686018427387000):Ok (I0 s) fun r=>a92 L (k + 2) r.1/\s.2 < r.1.2/\0<=r.2/\r.2 < 18446744073709551616:=by
 unfold I0
 rw [B5]
 refine(a4V hs (n:=6) (by omega) (by omega) (by omega)).mono fun r h=>?_
 obtain⟨a1,a2,a3,a4⟩:=h
 rw [B5]
 refine(a4V a1 (n:=5) (by omega) (by omega) (by omega)).mono fun r' h'=>?_
 obtain⟨b1,b2,b3,b4⟩:=h'
 have hr:∀ n,0<=a1J n/\a1J n < 18446744073709551616:=fun n=>by unfold a1J;rw [IntKind.wrap_u64];omega
 rw [B3]
 refine⟨fun _=>?_,fun _=>?_⟩ <;> rw [A7] <;> exact⟨b1.le (by omega),by dsimp only;omega,(hr _).1,(hr _).2⟩
theorem a89 {k:List Int} (hk:k.length<=160) {name:List UInt8} (hn:name.length<=60):Ok (D5 k name) fun r=>r.2.2.2=true/\XJ 2000 r.1 r.2.1 r.2.2.1:=by
 unfold D5
 rw [b5r,Option.bind_some]
 unfold R5
 rw [Option.bind_some]
 unfold S5
 refine a2g (fun n x=>∃ (m:List R17) (l:IxD) (z:Int) (u:o6),x=(k,name,m,u,z,l)/\a92 k 2000 u/\n=2000 - u.2.toNat/\∃ c:Nat,XJ c l z m/\(c:Int)<=u.2) ?_ (n:=2000) ⟨[],[],0,b3L k,rfl,(b7R k).le (by omega),rfl,0,xj0,by simp [b3L]⟩ (by omega)
 rintro n x ⟨m,l,z,u,rfl,hu,rfl,c,hj,hc⟩
 have hu0:=hu.2.1
 unfold N0
 dsimp only
 rw [B3]
 refine⟨fun hlt=>?_,fun hge=>?_⟩
 ·have hlt:=of_decide_eq_true hlt
  have hu160:u.2 < 160:=by omega
  have hu':a92 k 160 u:=⟨hu.1,hu.2.1,by omega⟩
  have hcm:c<=160:=by omega
  have hml:=hj.len
  rw [B5]
  refine(b6L hu' (by omega)).mono fun r1 h1=>?_
  obtain⟨a1,b1,c1⟩:=h1
  rw [B5]
  refine(a4V a1 (n:=9) (by omega) (by omega) (by omega)).mono fun r2 h2=>?_
  obtain⟨a2,b2,_,_⟩:=h2
  have hc3:∀ nm:List UInt8,nm.length<=60->Ok (F9 k name m nm r2.1 z l) (Nxt (fun r=>r.2.2.2=true/\XJ 2000 r.1 r.2.1 r.2.2.1) fun y=>∃ n',n' < 2000 - u.2.toNat/\∃ (m:List R17) (l:IxD) (z:Int) (u:o6),y=(k,name,m,u,z,l)/\a92 k 2000 u/\n'=2000 - u.2.toNat/\∃ c:Nat,XJ c l z m/\(c:Int)<=u.2):=fun nm hnm=>by
   unfold F9
   rw [B5]
   refine(b7S a2 (by omega)).mono fun r3 h3=>?_
   obtain⟨a3,b3,c3,d3⟩:=h3
   rw [B5]
   refine(a4V a3 (n:=3) (by omega) (by omega) (by omega)).mono fun r4 h4=>?_
   obtain⟨a4,b4,_,_⟩:=h4
   rw [B3]
   refine⟨fun _=>?_,fun _=>?_⟩
   ·obtain⟨l',z',e1,hj'⟩:=hj.rem (by omega) nm r3.2
    rw [b5m hj.sort (by omega),B5,A7,e1,B5,A7]
    rw [show b4I (a4T m nm r3.2).2 (a4T m nm r3.2).2=true from beq_self_eq_true _]
    rw [B3]
    refine⟨fun h=>(by cases h),fun _=>?_⟩
    rw [A7]
    exact⟨_,by have:=a4.2.1;omega,_,l',z',r4.1,rfl,a4.le (by omega),rfl,c,hj',by omega⟩
   ·rw [B5]
    refine(a4V a4 (n:=50) (by omega) (by omega) (by omega)).mono fun r5 h5=>?_
    obtain⟨a5,b5,_,_⟩:=h5
    obtain⟨l',z',e1,hj'⟩:=hj.add (by omega) (k:=nm) (q:=r3.2) (id:=I9 (r5.2 - 5)) hnm ⟨c3,d3⟩
    rw [b5l hj.sort (by omega),B5,A7,e1,B5,A7]
    rw [show ∀ z:Bool,b4I z z=true from fun z=>beq_self_eq_true z]
    rw [B3]
    refine⟨fun h=>(by cases h),fun _=>?_⟩
    rw [A7]
    exact⟨_,by have:=a5.2.1;omega,_,l',z',r5.1,rfl,a5.le (by omega),rfl,c + 1,hj',by omega⟩
  rw [B3]
  exact⟨fun _=>hc3 _ hn,fun _=>hc3 _ (by omega)⟩
 ·rw [P0]
  unfold M9
  rw [A7]
  exact⟨rfl,hj.le (by have:=hu.2.2;omega)⟩
theorem a37 (x0:List Int) (x1:List UInt8) (w0:wfU (.sl (.int .i64)) x0) (_:wfU .str x1):F6 x0 x1=some true:=by
 refine a1N.1 ?_
 unfold F6
 rw [a88 (a87 (u:= .int .i64) w0),B5,A7,B3]
 refine⟨fun _=>Y5,fun h=>?_⟩
 have hk:x0.length<=160:=by have:=of_decide_eq_false h;omega
 rw [B3]
 refine⟨fun _=>Y5,fun h=>?_⟩
 have hn:x1.length<=60:=by have:=of_decide_eq_false h;omega
 rw [B5]
 refine(a89 hk hn).mono fun r hr=>?_
 obtain⟨h1,h2⟩:=hr
 rw [h1,a2h]
 unfold E8
 rw [B5,A7,h2.size,decide_eq_true rfl,a2h]
 exact Y5
theorem a38 (x0:List Int) (x1:List UInt8) (w0:wfU (.sl (.int .i64)) x0) (_:wfU .str x1):F7 x0 x1=some true:=by
 refine a1N.1 ?_
 unfold F7
 rw [a88 (a87 (u:= .int .i64) w0),B5,A7,B3]
 refine⟨fun _=>Y5,fun h=>?_⟩
 have hk:x0.length<=160:=by have:=of_decide_eq_false h;omega
 rw [B3]
 refine⟨fun _=>Y5,fun h=>?_⟩
 have hn:x1.length<=60:=by have:=of_decide_eq_false h;omega
 rw [B5]
 refine(a89 hk hn).mono fun r hr=>?_
 obtain⟨h1,hj⟩:=hr
 obtain⟨l,z,m,b⟩:=r
 dsimp only at h1 hj ⊢
 have hml:=hj.len
 obtain⟨N,e,n1,n2,n3⟩:=a86 hj.sort (by omega)
 rw [h1,Bool.not_true,a0n,hj.names (by omega) n1 n2,Option.bind_some,e,Option.bind_some]
 dsimp only
 rw [a1r (by omega),Option.bind_some,Bool.not_true,a0n,Option.bind_some]
 rw [decide_eq_true ⟨by unfold LIM;omega,by unfold LEN;omega⟩,a0V]
 generalize hM:N ++ [x1,[110,111,110,101]]=M
 have hMl:M.length<=3000:=by rw [<-hM];simp;omega
 unfold L7
 refine O0 M (fun i (_:Unit)=>(m,((M.length:Nat):Int),((i:Nat):Int),z,l,M)) (fun _ _=>True) (fun i _ hi _=>?_) (fun _ _=>?_) (b0:=()) trivial (by omega)
 ·unfold D1
  dsimp only
  rw [B3]
  refine⟨fun _=>?_,fun h=>by have:=of_decide_eq_false h;omega⟩
  have hlen:(a1j (M.getD i []) m).length < 9223372036854775807:=by
   have:=a0W (M.getD i []) m
   unfold a1j;rw [List.length_map];omega
  rw [decide_eq_true (by omega:(0:Int)<=(i:Int)/\(i:Int) < ((M.length:Nat):Int)),a0V,Int.toNat_natCast,decide_eq_true hi,a0V,hj.list (by omega),Option.bind_some,b3J (by omega),Option.bind_some]
  dsimp only
  rw [T2 hlen,Option.bind_some,Bool.not_true,a0n,A7,C9,S9 (by omega)]
  exact⟨(),rfl,trivial⟩
 ·unfold D1
  dsimp only
  rw [B3]
  refine⟨fun h=>by have:=of_decide_eq_true h;omega,fun _=>?_⟩
  rw [P0]
  exact Y5.mono fun r hr=>by subst hr;rfl
theorem a9a:∀ (ps:List PlD) (q:Int),a81 ps q=((ps.map (·.2)).take (a81 ps q).length)
 | [],_=>rfl
 | p :: ps,q=>by
  unfold a81
  split
  ·rw [List.length_cons,List.map_cons,List.take_succ_cons,<-a9a ps]
  ·rfl
theorem a4m (x0:List Int) (x1:Int) (w0:wfU (.sl (.int .i64)) x0) (w1:wfU (.int .u64) x1):H0 x0 x1=some true:=by
 have hx1:=b6K w1
 refine a1N.1 ?_
 unfold H0
 rw [a88 (a87 (u:= .int .i64) w0),B5,A7,B3]
 refine⟨fun _=>Y5,fun h=>?_⟩
 have hk:x0.length<=160:=by have:=of_decide_eq_false h;omega
 rw [B5]
 refine(a89 hk (name:=[122]) (by decide)).mono fun r hr=>?_
 obtain⟨h1,hj⟩:=hr
 obtain⟨l,z,m,b⟩:=r
 dsimp only at h1 hj ⊢
 have hml:=hj.len
 obtain⟨N,e,n1,n2,n3⟩:=a86 hj.sort (by omega)
 rw [h1,Bool.not_true,a0n,e,Option.bind_some]
 rw [decide_eq_true ⟨by unfold LIM;omega,by unfold LEN;omega⟩,a0V]
 generalize hM:N ++ [[110,111,110,101]]=M
 have hMl:M.length<=3000:=by rw [<-hM];simp;omega
 unfold M6
 refine O0 M (fun i (_:Unit)=>(x1,m,((M.length:Nat):Int),((i:Nat):Int),z,l,M)) (fun _ _=>True) (fun i _ hi _=>?_) (fun _ _=>?_) (b0:=()) trivial (by omega)
 ·unfold E3
  dsimp only
  rw [B3]
  refine⟨fun _=>?_,fun h=>by have:=of_decide_eq_false h;omega⟩
  rw [decide_eq_true (by omega:(0:Int)<=(i:Int)/\(i:Int) < ((M.length:Nat):Int)),a0V,Int.toNat_natCast,decide_eq_true hi,a0V]
  generalize M.getD i []=nm
  have hQ:∀ q ∈ [x1,0,1,2,3,18446744073709551615,18446744073709551614,18446744073709551613],0<=q/\q < 18446744073709551616:=by
   simp only [List.forall_mem_cons,List.not_mem_nil,false_implies,implies_true,and_true]
   omega
  have hQl:[x1,0,1,2,3,18446744073709551615,18446744073709551614,18446744073709551613].length=8:=rfl
  generalize [x1,0,1,2,3,18446744073709551615,18446744073709551614,18446744073709551613]=Q at hQ hQl ⊢
  unfold M5
  rw [show(8:Int)=((Q.length:Nat):Int) by rw [hQl];rfl]
  refine O0 Q (fun j (_:Unit)=>(x1,m,nm,((M.length:Nat):Int),((i:Nat):Int),((Q.length:Nat):Int),((j:Nat):Int),z,l,M,Q)) (fun _ _=>True) (fun j _ hjl _=>?_) (fun _ _=>?_) (b0:=()) trivial (by omega)
  ·unfold E2
   dsimp only
   rw [B3]
   refine⟨fun _=>?_,fun h=>by have:=of_decide_eq_false h;omega⟩
   have hq:=hQ _ (List.getElem_mem hjl)
   have hlen:(rrR (M2 nm m) Q[j] false).length < 9223372036854775807:=by
    have:=a0W nm m
    have:=b2l (M2 nm m) Q[j] false
    omega
   rw [decide_eq_true (by omega:(0:Int)<=(j:Int)/\(j:Int) < ((Q.length:Nat):Int)),a0V,Int.toNat_natCast,decide_eq_true hjl,a0V,V6 hjl,hj.run (by omega) nm hq,Option.bind_some,b5p (by omega),Option.bind_some]
   dsimp only
   rw [T2 hlen,Option.bind_some,Bool.not_true,a0n,A7,C9,S9 (by omega)]
   exact⟨(),rfl,trivial⟩
  ·unfold E2
   dsimp only
   rw [B3]
   refine⟨fun h=>by have:=of_decide_eq_true h;omega,fun _=>?_⟩
   rw [A7,H2,C9,S9 (by omega)]
   exact⟨(),rfl,trivial⟩
 ·unfold E3
  dsimp only
  rw [B3]
  refine⟨fun h=>by have:=of_decide_eq_true h;omega,fun _=>?_⟩
  rw [P0]
  unfold I2 M4
  refine Ok.mono (O0 m (fun i (_:Unit)=>(m,m,((m.length:Nat):Int),((i:Nat):Int),z,l)) (p:=(· =true)) (fun _ _=>True) (fun i _ hi _=>?_) (fun _ _=>?_) (b0:=()) trivial (by omega)) fun r hr=>by subst hr;rfl
  ·have hc3:(∀ r ∈ m.take i,r.1 ≠ m[i].1)->Ok (C2 m m ((m.length:Nat):Int) ((i:Nat):Int) z m[i] l) (Nxt (fun x=>x=true) fun y=>∃ b':Unit,y=(m,m,((m.length:Nat):Int),((i + 1:Nat):Int),z,l)/\True):=fun hfirst=>by
    have hps:M2 m[i].1 m=m[i].2 :: M2 m[i].1 (m.drop (i + 1)):=by
     have e:m=m.take i ++ m[i] :: m.drop (i + 1):=by rw [List.getElem_cons_drop,List.take_append_drop]
     have e2:∀ k,M2 k m=M2 k (m.take i) ++ M2 k (m[i] :: m.drop (i + 1)):=fun k=>by
      rw [<-a1Q,<-e]
     rw [e2,a6K _ _ hfirst,a6M,if_pos rfl,List.nil_append]
    have hss:=a0B hj.sort m[i].1
    have hb:=hj.qs _ (List.getElem_mem hi)
    have hrr:=b2k hss (fun p hp=>hj.qs _ (a2v.1 hp)) hb.1 hb.2
    have hcz:(M2 m[i].1 m).countP (ltP m[i].2.1)=0:=by
     rw [hps]
     rw [hps] at hss
     unfold a4l at hss
     rw [List.pairwise_cons] at hss
     refine List.countP_eq_zero.2 fun y hy=>?_
     rcases List.mem_cons.1 hy with rfl | hy
     ·simp [ltP]
     ·have:=hss.1 y hy
      simp [ltP];omega
    rw [hcz,List.drop_zero] at hrr
    have hpos:1<=(rrR (M2 m[i].1 m) m[i].2.1 false).length:=by
     rw [hrr,hps];unfold a81;rw [if_pos rfl];simp
    have hle:(rrR (M2 m[i].1 m) m[i].2.1 false).length<=(a1j m[i].1 m).length:=by
     have:=b2l (M2 m[i].1 m) m[i].2.1 false
     unfold a1j;rw [List.length_map];exact this
    have hpre:(a1j m[i].1 m).take (rrR (M2 m[i].1 m) m[i].2.1 false).length=rrR (M2 m[i].1 m) m[i].2.1 false:=by
     rw [hrr];exact(a9a _ _).symm
    have hll:(a1j m[i].1 m).length<=2000:=by
     have:=a0W m[i].1 m
     unfold a1j;rw [List.length_map];omega
    unfold C2
    rw [hj.run (by omega) m[i].1 hb,Option.bind_some]
    dsimp only
    rw [hj.list (by omega),Option.bind_some]
    dsimp only
    rw [decide_eq_false (by omega),a0n,decide_eq_false (by omega),a0n,decide_eq_true ⟨by omega,by omega,by omega⟩,a0V,Int.toNat_natCast,hpre,T2 (by omega),Option.bind_some,Bool.not_true,a0n,A7,C9,S9 (by omega)]
    exact⟨(),rfl,trivial⟩
   unfold E0
   dsimp only
   rw [B3]
   refine⟨fun _=>?_,fun h=>by have:=of_decide_eq_false h;omega⟩
   rw [decide_eq_true (by omega:(0:Int)<=(i:Int)/\(i:Int) < ((m.length:Nat):Int)),a0V,Int.toNat_natCast,V6 hi,B3]
   refine⟨fun h0=>?_,fun h0=>?_⟩
   ·have h0:=of_decide_eq_true h0
    have hw:I9 ((i:Int) - 1)=((i - 1:Nat):Int):=by rw [Y3] <;> omega
    have hi1:i - 1 < m.length:=by omega
    rw [hw,decide_eq_true (by omega:(0:Int)<=((i - 1:Nat):Int)/\((i - 1:Nat):Int) < ((m.length:Nat):Int)),a0V,Int.toNat_natCast,V6 hi1,B3]
    refine⟨fun _=>?_,fun hne=>hc3 fun r hr e=>?_⟩
    ·rw [A7,C9,S9 (by omega)]
     exact⟨(),rfl,trivial⟩
    ·have hne:¬ m[i - 1].1=m[i].1:=of_decide_eq_false hne
     obtain⟨j,hj',rfl⟩:=List.getElem_of_mem hr
     rw [List.length_take] at hj'
     rw [List.getElem_take] at e
     have hji:j ≠ i - 1:=fun h=>hne (by subst h;exact e)
     have a1:=Y4.1 (List.pairwise_iff_getElem.1 hj.sort j (i - 1) (by omega) hi1 (by omega))
     have a2:=Y4.1 (List.pairwise_iff_getElem.1 hj.sort (i - 1) i hi1 hi (by omega))
     have a2:=a2.resolve_right fun h=>hne h.1
     rcases a1 with a1 | a1
     ·have:=a3e a1 a2
      rw [e,T0] at this;cases this
     ·rw [<-a1.1,e,T0] at a2;cases a2
   ·have h0:=of_decide_eq_false h0
    have:i=0:=by omega
    subst this
    exact hc3 (by simp)
  ·unfold E0
   dsimp only
   rw [B3]
   refine⟨fun h=>by have:=of_decide_eq_true h;omega,fun _=>?_⟩
   rw [P0]
   exact Y5.mono fun r hr=>by subst hr;rfl
theorem b3M (k:List UInt8):I3 k=some []:=by
 refine a1N.1 ?_
 unfold I3 H1
 rw [Option.bind_some]
 unfold O8
 refine O0 ([]:List PlD) (fun i (_:Unit)=>(((0:Nat):Int),((i:Nat):Int),[],[])) (fun _ _=>True) (fun i _ hi _=>by simp at hi) (fun _ _=>?_) (b0:=()) trivial (by simp)
 unfold J6
 rw [B3]
 exact⟨fun h=>by simp at h,fun _=>by rw [A7,H2]⟩
theorem b5s (k:List UInt8) (q:Int):J2 k q=some []:=by
 have hf:F_sender_find [] q=some (0,false):=by
  refine a1N.1 ?_
  unfold F_sender_find F_slices_BinarySearchFunc_sender_place_sender_place_uint64_of_sender_find_1
  rw [B5]
  unfold F_slices_BinarySearchFunc_sender_place_sender_place_uint64_of_sender_find_1_l2s
  refine a2g (fun n x=>x=([],q,0,0,0)) ?_ (n:=0) rfl (by omega)
  rintro n x rfl
  unfold F_slices_BinarySearchFunc_sender_place_sender_place_uint64_of_sender_find_1_l2
  dsimp only
  rw [decide_eq_false (by omega),a0n]
  unfold F_slices_BinarySearchFunc_sender_place_sender_place_uint64_of_sender_find_1_c1
  rw [decide_eq_false (by omega),a0n,P0,A7,H2,A7]
 refine a1N.1 ?_
 unfold J2 H1
 rw [Option.bind_some,hf,Option.bind_some]
 unfold P6
 refine a2g (fun n x=>x=(q,0,[],[])) ?_ (n:=0) rfl (by omega)
 rintro n x rfl
 unfold K5
 dsimp only
 rw [decide_eq_false (by simp),a0n,A7,H2]
theorem a2w (x0:List Int) (x1:List UInt8) (x2:Int) (w0:wfU (.sl (.int .i64)) x0) (_:wfU .str x1) (_:wfU (.int .u64) x2):E4 x0 x1 x2=some true:=by
 refine a1N.1 ?_
 unfold E4
 rw [a88 (a87 (u:= .int .i64) w0),B5,A7,B3]
 refine⟨fun _=>Y5,fun h=>?_⟩
 have hk:x0.length<=160:=by have:=of_decide_eq_false h;omega
 rw [B3]
 refine⟨fun _=>Y5,fun h=>?_⟩
 have hn:x1.length<=60:=by have:=of_decide_eq_false h;omega
 rw [B5]
 refine(a89 hk hn).mono fun r hr=>?_
 obtain⟨h1,hj⟩:=hr
 obtain⟨l,z,m,b⟩:=r
 dsimp only at h1 hj ⊢
 have hml:=hj.len
 rw [h1,Bool.not_true,a0n]
 unfold K7
 refine O0 m (fun i (b:Int × IxD)=>(x1,x2,m,((m.length:Nat):Int),((i:Nat):Int),b.1,b.2)) (fun i b=>XJ 2000 b.2 b.1 (m.drop i)) (fun i b hi hinv=>?_) (fun b hinv=>?_) (b0:=(z,l)) hj (by omega)
 ·obtain⟨z',l'⟩:=b
  have hinv:XJ 2000 l' z' (m.drop i):=hinv
  have hd:m.drop i=m[i] :: m.drop (i + 1):=List.drop_eq_getElem_cons hi
  have hs:=hinv.sort
  rw [hd] at hs
  unfold a1i at hs
  rw [List.pairwise_cons] at hs
  have hhas:b2f (m.drop i) m[i].1 m[i].2.1:=⟨m[i],by rw [hd];exact List.mem_cons_self ..,rfl,rfl⟩
  have hkp:∀ r ∈ m.drop (i + 1),¬ (r.1=m[i].1/\r.2.1=m[i].2.1):=fun r hr h=>b2g (hs.1 r hr) ⟨h.1.symm,h.2.symm⟩
  have e1:a4T (m.drop i) m[i].1 m[i].2.1=(m.drop (i + 1),true):=by
   unfold a4T
   rw [if_pos hhas,hd,List.filter_cons_of_neg (by simp [a6J]),(List.filter_eq_self (p:=a6J m[i].1 m[i].2.1)).2 fun r hr=>decide_eq_true (hkp r hr)]
  have e2:a4T (m.drop (i + 1)) m[i].1 m[i].2.1=(m.drop (i + 1),false):=by
   unfold a4T
   rw [if_neg fun⟨r,hr,h⟩=>hkp r hr h]
  obtain⟨l1,z1,f1,j1⟩:=hinv.rem (by omega) m[i].1 m[i].2.1
  rw [e1] at f1 j1
  obtain⟨l2,z2,f2,j2⟩:=j1.rem (by omega) m[i].1 m[i].2.1
  rw [e2] at f2 j2
  unfold C5
  dsimp only
  rw [B3]
  refine⟨fun _=>?_,fun h=>by have:=of_decide_eq_false h;omega⟩
  rw [decide_eq_true (by omega:(0:Int)<=(i:Int)/\(i:Int) < ((m.length:Nat):Int)),a0V,Int.toNat_natCast,V6 hi,f1,Option.bind_some]
  dsimp only
  rw [Bool.not_true,a0n,f2,Option.bind_some,a0n,A7,C9,S9 (by omega)]
  exact⟨(z2,l2),rfl,j2⟩
 ·obtain⟨z',l'⟩:=b
  have hinv:XJ 2000 l' z' (m.drop m.length):=hinv
  rw [List.drop_length] at hinv
  have hnm:=hinv.names (N:=[]) (by omega) List.Pairwise.nil (by simp)
  unfold C5
  dsimp only
  rw [B3]
  refine⟨fun h=>by have:=of_decide_eq_true h;omega,fun _=>?_⟩
  rw [P0]
  unfold G7 E8 N1 K4 L4 N2
  rw [hnm,Option.bind_some,b3M,b5s]
  dsimp only
  have hz:z'=0:=hinv.size
  rw [hz]
  refine Ok.mono (p:=(· =true)) ?_ fun r hr=>by subst hr;rfl
  exact Y5
end Go.Proofs.Ythadhfbkhldblaa.Am
