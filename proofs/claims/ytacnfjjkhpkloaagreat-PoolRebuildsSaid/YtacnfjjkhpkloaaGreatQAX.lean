/- Texts laid together: PPlay20, PSameE. No conditions. -/
import Derived.Test.YtacnfjjkhpkloaaGreatQAV
import Derived.Test.YtacnfjjkhpkloaaGreatQAW
import Derived.Test.YtacnfjjkhpkloaaGreatQAQ
namespace Go.Proofs.YtacnfjjkhpkloaaGreat.Am
open Go
theorem c2G {L:List Int} {k:Int} {s:A4} (hs:a8Z L k s) (hk:k < 1000000000000):Ok (X4 s) fun r=>a8Z L (k + 14) r.1/\s.2 < r.1.2/\b49 r.2:=by
 have hR:∀ {a0 a1 a2 a3 a4 a5:Int} {kp:Bool} {a7 a8 pr:Int},(0<=a0/\a0<=10000)->(0<=a1/\a1<=10000)->(0<=a2/\a2<=10000)->(0<=a3/\a3<=10000)->(0<=a4/\a4<=10000)->(0<=a5/\a5<=10000)->(0<=a7/\a7<=10000)->(-1<=a8/\a8<=10000)->(0<=pr/\pr<=10000)->b49 (a0,a1,a2,a3,a4,a5,kp,a7,a8,pr,(0:Int),(1:Int)):=by
  intro a0 a1 a2 a3 a4 a5 kp a7 a8 pr h0 h1 h2 h3 h4 h5 h7 h8 hp
  refine⟨fun i x hx=>?_,by dsimp only;omega⟩
  unfold b6o at hx
  dsimp only at hx
  split at hx <;> first | (injection hx with hx;omega) | cases hx
 unfold X4
 rw [C2]
 refine(R6 hs (by omega) (by omega) (by omega)).mono ?_
 rintro⟨s1,x1⟩ ⟨a1,b1,c1,d1⟩
 dsimp only at a1 b1 c1 d1 ⊢
 rw [C2]
 refine(R6 a1 (by omega) (by omega) (by omega)).mono ?_
 rintro⟨s2,x2⟩ ⟨a2,b2,c2,d2⟩
 dsimp only at a2 b2 c2 d2 ⊢
 rw [C2]
 refine(R6 a2 (by omega) (by omega) (by omega)).mono ?_
 rintro⟨s3,x3⟩ ⟨a3,b3,c3,d3⟩
 dsimp only at a3 b3 c3 d3 ⊢
 rw [C2]
 refine(R6 a3 (by omega) (by omega) (by omega)).mono ?_
 rintro⟨s4,x4⟩ ⟨a4,b4,c4,d4⟩
 dsimp only at a4 b4 c4 d4 ⊢
 rw [C2]
 refine(R6 a4 (by omega) (by omega) (by omega)).mono ?_
 rintro⟨s5,x5⟩ ⟨a5,b5,c5,d5⟩
 dsimp only at a5 b5 c5 d5 ⊢
 rw [C2]
 refine(R6 a5 (by omega) (by omega) (by omega)).mono ?_
 rintro⟨s6,x6⟩ ⟨a6,b6,c6,d6⟩
 dsimp only at a6 b6 c6 d6 ⊢
 rw [C2]
 refine(R6 a6 (by omega) (by omega) (by omega)).mono ?_
 rintro⟨s7,x7⟩ ⟨a7,b7,c7,d7⟩
 dsimp only at a7 b7 c7 d7 ⊢
 rw [C2]
 refine(R6 a7 (by omega) (by omega) (by omega)).mono ?_
 rintro⟨s8,x8⟩ ⟨a8,b8,c8,d8⟩
 dsimp only at a8 b8 c8 d8 ⊢
 rw [C2]
 refine(R6 a8 (by omega) (by omega) (by omega)).mono ?_
 rintro⟨s9,x9⟩ ⟨a9,b9,c9,d9⟩
 dsimp only at a9 b9 c9 d9 ⊢
 rw [C2]
 refine(R6 a9 (by omega) (by omega) (by omega)).mono ?_
 rintro⟨s10,x10⟩ ⟨a10,b10,c10,d10⟩
 dsimp only at a10 b10 c10 d10 ⊢
 rw [C2]
 refine(R6 a10 (by omega) (by omega) (by omega)).mono ?_
 rintro⟨s11,x11⟩ ⟨a11,b11,c11,d11⟩
 dsimp only at a11 b11 c11 d11 ⊢
 have w1:C6 (1 + x1)=1 + x1:=E4 (by omega) (by omega)
 have w2:C6 (250 + x2)=250 + x2:=E4 (by omega) (by omega)
 have w3:C6 (60 + x3)=60 + x3:=E4 (by omega) (by omega)
 have w9:C6 (100 + x9)=100 + x9:=E4 (by omega) (by omega)
 have w10:a3P x10=x10:=a7n (by omega) (by omega)
 have hm:0<=x6 * x7/\x6 * x7<=38:=by
  have h6:x6=0\/x6=1\/x6=2:=by omega
  rcases h6 with rfl | rfl | rfl <;> omega
 have w6:C6 (x6 * x7)=x6 * x7:=E4 (by omega) (by omega)
 rw [w1,w2,w3,w9,w10,w6]
 have fin:∀ (u:A4) (g:Int),a8Z L (k + 12) u->s.2 < u.2->(-1<=g/\g<=10000)->Ok (L6 u ((0:Int),(0:Int),(0:Int),(0:Int),(0:Int),(0:Int),false,(0:Int),(0:Int),(0:Int),(0:Int),(0:Int)) (1 + x1,250 + x2,60 + x3,x4,x5,x6 * x7,decide (x8=0),100 + x9,g,x10,(0:Int),(1:Int))) fun r=>a8Z L (k + 14) r.1/\s.2 < r.1.2/\b49 r.2:=fun u g hu hlt hg=>by
  unfold L6
  rw [C2]
  refine(R6 hu (by omega) (by omega) (by omega)).mono ?_
  rintro⟨s12,x12⟩ ⟨a12,b12,c12,d12⟩
  dsimp only at a12 b12 c12 d12 ⊢
  rw [D2]
  refine⟨fun _=>?_,fun _=>?_⟩
  ·rw [C2]
   refine(R6 a12 (by omega) (by omega) (by omega)).mono ?_
   rintro⟨s13,x13⟩ ⟨a13,b13,c13,d13⟩
   dsimp only at a13 b13 c13 d13 ⊢
   rw [B9,E4 (n:=40 + x13) (by omega) (by omega)]
   exact⟨a13.le (by omega),by dsimp only;omega,hR (by omega) (by omega) (by omega) (by omega) (by omega) (by omega) (by omega) hg (by omega)⟩
  ·rw [B9]
   exact⟨a12.le (by omega),by dsimp only;omega,hR (by omega) (by omega) (by omega) (by omega) (by omega) (by omega) (by omega) hg (by omega)⟩
 rw [D2]
 refine⟨fun _=>?_,fun _=>fin _ _ (a11.le (by omega)) (by omega) (by omega)⟩
 rw [C2]
 refine(R6 a11 (by omega) (by omega) (by omega)).mono ?_
 rintro⟨s14,x14⟩ ⟨a14,b14,c14,d14⟩
 dsimp only at a14 b14 c14 d14 ⊢
 rw [E4 (n:=200 + x14) (by omega) (by omega)]
 exact fin _ _ (a14.le (by omega)) (by omega) (by omega)
def b7P (e:ED):Prop:=c7K e/\e.2.2.1 ∈ a4p
theorem c0L {e:ED} (h:c90 e) (hn:e.2.2.1 ∈ a4p):b7P e:=by
 obtain⟨h1,h2,h3,h4,h5,h6,h7,h8,h9⟩:=h
 have h10:a6S e<=8:=h1
 exact⟨⟨⟨by omega,by omega⟩,by omega,by omega,h3.1,by omega⟩,hn⟩
abbrev RP:=A5
structure PL (c:Nat) (p:PP) (L:List Rec):Prop where
 pj:PJ c p L
 cr:b49 p.cf
 nm:∀ x ∈ L,b7P x.2.2
def stP (k:List Int) (b0:RP) (u:A4) (p:PP) (L:List Rec):=
 (k,b0,u,p.cf,p.nx,p.most,p.size,p.free,p.n,p.b,p.t,((p.cf,L.map J2):RP),p.sl,p.it,p.hp,p.ix,p.w,p.pl,p.ids)
theorem PL.nmP {c:Nat} {p:PP} {L L':List Rec} {l:List ED} (_h:PL c p L) (hm:L'.map J2=l) (hl:∀ e ∈ l,b7P e):∀ x ∈ L',b7P x.2.2:=fun x hx=>hl _ (by rw [<-hm];exact List.mem_map.2 ⟨x,hx,rfl⟩)
theorem PL.ref {c:Nat} {p:PP} {L:List Rec} (h:PL c p L):(L.map J2).length<=1000000/\P0 (L.map J2)<=1000000000000:=by
 have:=h.pj.len
 rw [List.length_map];omega
theorem PL.insert {c:Nat} {p:PP} {L:List Rec} (h:PL c p L) (hc:c<=900) {e:ED} (he:b7P e) :
  ∃ p' L',c3k p e=some (a2F p' (a7s p.cf (L.map J2) e).2)/\PL (c + 1) p' L'/\L'.map J2=(a7s p.cf (L.map J2) e).1/\p'.cf=p.cf:=by
 obtain⟨p',L',h1,h2,h3,h4⟩:=h.pj.insert hc he.1
 refine⟨p',L',h1,⟨h2,by rw [h4];exact h.cr,h.nmP h3 fun y hy=>?_⟩,h3,h4⟩
 have hold:∀ y ∈ L.map J2,b7P y:=fun y hy=>by
  obtain⟨x,hx,rfl⟩:=List.mem_map.1 hy
  exact h.nm x hx
 unfold a7s at hy
 split at hy
 ·exact hold y hy
 ·split at hy
  ·exact hold y hy
  ·split at hy
   ·exact hold y hy
   ·rcases List.mem_append.1 hy with hy | hy
    ·exact hold y hy
    ·rw [List.mem_singleton.1 hy];exact he
theorem PL.remove {c:Nat} {p:PP} {L:List Rec} (h:PL c p L) (hc:c<=900) (k:KD) :
  ∃ p' L',c7l p k=some (a2F p' (decide (a1S (L.map J2) k)))/\PL c p' L'/\L'.map J2=(L.map J2).eraseP (isK k)/\p'.cf=p.cf:=by
 obtain⟨p',L',h1,h2,h3,h4⟩:=h.pj.remove hc k
 refine⟨p',L',h1,⟨h2,by rw [h4];exact h.cr,h.nmP h3 fun y hy=>?_⟩,h3,h4⟩
 obtain⟨x,hx,rfl⟩:=List.mem_map.1 (List.mem_of_mem_eraseP hy)
 exact h.nm x hx
theorem PL.le {c d:Nat} {p:PP} {L:List Rec} (h:PL c p L) (hd:c<=d):PL d p L:=
 ⟨{h.pj with
  nx:=⟨h.pj.nx.1,by have:=h.pj.nx.2;omega⟩
  slab:=h.pj.slab.le (by omega)
  send:=by obtain⟨m,h1,h2⟩:=h.pj.send;exact⟨m,h1.le hd,h2⟩
  wait:=⟨h.pj.wait.perm,h.pj.wait.sort,Nat.le_trans h.pj.wait.len hd,h.pj.wait.ids⟩},h.cr,h.nm⟩
theorem PL.new {cf:a2r} (hr:b49 cf):PL 0 (a80 (b6F cf)) []:=⟨c3m (c4S cf),by
 show b49 (b6F cf)
 unfold b6F
 split
 ·exact hr
 ·exact b5c.range ⟨by decide,by decide⟩,by simp⟩
theorem c4T {c:Nat} {p:PP} {L:List Rec} (h:PL c p L) (hc:c<=900) (k:List Int) (b0:RP) (u:A4) :
  F9 k b0 u p.cf p.nx p.most p.size p.free p.n p.b p.t ((p.cf,L.map J2):RP) p.sl p.it p.hp p.ix p.w p.pl p.ids=some (.inl (stP k b0 u p L)):=by
 have h1:=h.pj.lenP
 have h2:=h.pj.bytP hc
 unfold lenP at h1
 unfold bytP at h2
 unfold F9
 rw [h1,Option.bind_some]
 unfold a2F at h2 ⊢
 dsimp only
 rw [List.length_map,decide_eq_true rfl,Bool.not_true,L0,h2,Option.bind_some,b0i h.ref.1 (Nat.le_trans h.ref.2 (by omega)),Option.bind_some]
 dsimp only
 rw [decide_eq_true rfl,Bool.not_true,L0]
 rfl
abbrev StP:=List Int × RP × A4 × A0 × Int × Int × Int × Int × Int × Int × Int × RP × List SlD × List IT × List (Int × Int) × IxD × List W3 × List (Int × HD) × List (List UInt8 × Int)
abbrev c91:=a2r × Int × Int × List SlD × Int × List IT × List (Int × Int) × IxD × Int × Int × Int × List W3 × List (Int × HD) × List (List UInt8 × Int) × Int × RP × Bool
def c4U (r:c91):Prop:=∃ (p:PP) (L:List Rec),r=a2F p (((p.cf,L.map J2):RP),true)/\PL 400 p L
def c92 (k:List Int) (n:Nat) (x:StP):Prop:=∃ (b0:RP) (u:A4) (p:PP) (L:List Rec) (c:Nat),x=stP k b0 u p L/\a8Z k 400 u/\n=400 - u.2.toNat/\PL c p L/\(c:Int)<=u.2
def c0M (k:List Int) (n:Nat):StP ⊕ c91->Prop:=Nxt c4U fun z=>∃ m,m < n/\c92 k m z
theorem b2B {k:List Int} {n c:Nat} {p:PP} {L:List Rec} (h:PL c p L) {b0:RP} {u u':A4} (hn:n=400 - u.2.toNat) (hu:a8Z k 400 u') (hu0:0<=u.2) (hc:(c:Int)<=u'.2) (hlt:u.2 < u'.2) :
  Ok (F9 k b0 u' p.cf p.nx p.most p.size p.free p.n p.b p.t ((p.cf,L.map J2):RP) p.sl p.it p.hp p.ix p.w p.pl p.ids) (c0M k n):=by
 have:=hu.2.2
 have hc9:c<=900:=by omega
 rw [c4T h hc9,B9]
 unfold c0M
 rw [C9]
 exact⟨400 - u'.2.toNat,by omega,b0,u',p,L,c,rfl,hu,rfl,h,hc⟩
theorem c0N {k:List Int} {n c:Nat} {p:PP} {L:List Rec} (h:PL c p L) {b0:RP} {u u':A4} (hn:n=400 - u.2.toNat) (hu:a8Z k 390 u') (hu0:0<=u.2) (hc:(c:Int)<=u.2) (hlt:u.2 < u'.2) {e:ED} (he:b7P e) (v:Int) (b:Bool) :
  Ok (M7 k v b b0 u' p.cf p.nx p.most p.size p.free p.n p.b p.t ((p.cf,L.map J2):RP) e p.sl p.it p.hp p.ix p.w p.pl p.ids) (c0M k n):=by
 have hu2:=hu.2.2
 have hc9:c<=900:=by omega
 unfold M7
 rw [D2]
 refine⟨fun _=>?_,fun _=>?_⟩
 ·obtain⟨p',L',e1,h',e2,e3⟩:=h.remove hc9 e.1
  unfold c7l at e1
  rw [b3D h.ref.1,Option.bind_some,e1,Option.bind_some]
  unfold a2F
  dsimp only
  have hb:c0S (decide (a1S (L.map J2) e.1)) (decide (∃ x ∈ L.map J2,x.1=e.1))=true:=beq_self_eq_true _
  rw [hb,Bool.not_true,L0,<-e2,<-e3]
  exact b2B h' hn (hu.le (by omega)) hu0 (by omega) hlt
 ·rw [D2]
  refine⟨fun _=>?_,fun _=>?_⟩
  ·rw [C2]
   refine(R6 hu (by omega) (by omega) (by omega)).mono ?_
   rintro⟨u2,y⟩ ⟨a1,b1,c1,d1⟩
   dsimp only at a1 b1 c1 d1 ⊢
   rw [D2]
   refine⟨fun _=>?_,fun _=>b2B h hn (a1.le (by omega)) hu0 (by omega) (by omega)⟩
   have e1:=h.pj.reset_ok h.cr.2
   unfold c85 at e1
   rw [e1,Option.bind_some]
   unfold c3l
   dsimp only
   have hcf:b6F p.cf=p.cf:=if_pos h.pj.cfg
   have h0:=(PL.new h.cr).le (d:=c) (Nat.zero_le _)
   rw [hcf] at h0
   exact b2B (L:=[]) h0 hn (a1.le (by omega)) hu0 (by omega) (by omega)
  ·obtain⟨p',L',e1,h',e2,e3⟩:=h.insert hc9 he
   unfold c3k at e1
   rw [b3E h.ref.1 e h.ref.2 (by have:=he.1.2.1;omega),Option.bind_some,e1,Option.bind_some]
   unfold a2F
   dsimp only
   rw [decide_eq_true rfl,Bool.not_true,L0,<-e2,<-e3]
   exact b2B h' hn (hu.le (by omega)) hu0 (by omega) hlt
theorem b6H {k:List Int} (hk:k.length<=160) {raw:a2r} (hr:b49 raw):Ok (K3 k raw) c4U:=by
 have hc1:∀ (b0:RP) (u:A4) (cf:a2r),a8Z k 390 u->b49 cf->Ok (N0 k b0 u cf) c4U:=fun b0 u cf hu hcr=>by
  unfold N0
  rw [b6G hcr,Option.bind_some,c0I,Option.bind_some]
  unfold a2e
  refine O3 (c92 k) ?_ (n:=400 - u.2.toNat) ⟨b0,u,a80 (b6F cf),[],0,rfl,hu.le (by omega),rfl,PL.new hcr,by have:=hu.2.1;omega⟩ (by omega)
  rintro n x ⟨b0,u,p,L,c,rfl,hu,hn,h,hc⟩
  have hu0:=hu.2.1
  have hlen:=h.pj.len
  unfold stP a0w
  dsimp only
  rw [D2]
  refine⟨fun hlt=>?_,fun hge=>?_⟩
  ·have hlt:=of_decide_eq_true hlt
   have hu160:a8Z k 159 u:=⟨hu.1,hu0,by omega⟩
   rw [C2]
   refine(c0K hu160 (by omega) (by omega)).mono ?_
   rintro⟨u1,e⟩ ⟨a1,b1,c1,d1,e1⟩
   dsimp only at a1 b1 c1 d1 e1 ⊢
   have he:=c0L c1 e1
   have hc4:∀ (u':A4) (e':ED),a8Z k 180 u'->u.2 < u'.2->b7P e'->Ok (M8 k b0 u' p.cf p.nx p.most p.size p.free p.n p.b p.t ((p.cf,L.map J2):RP) e' p.sl p.it p.hp p.ix p.w p.pl p.ids) (c0M k n):=fun u' e' hu' hlt' he'=>by
    unfold M8
    rw [C2]
    refine(R6 hu' (by omega) (by omega) (by omega)).mono ?_
    rintro⟨u2,y⟩ ⟨a2,b2,c2,d2⟩
    dsimp only at a2 b2 c2 d2 ⊢
    rw [D2]
    exact⟨fun _=>c0N h hn (a2.le (by omega)) hu0 hc (by omega) he' _ _,fun _=>c0N h hn (a2.le (by omega)) hu0 hc (by omega) he' _ _⟩
   have hc7:∀ (u':A4) (b:Bool),a8Z k 179 u'->u.2 < u'.2->(b=true->0 < L.length)->Ok (M9 k (((List.length (L.map J2)):Nat):Int) b b0 u' p.cf p.nx p.most p.size p.free p.n p.b p.t ((p.cf,L.map J2):RP) e p.sl p.it p.hp p.ix p.w p.pl p.ids) (c0M k n):=fun u' b hu' hlt' hb=>by
    unfold M9
    rw [D2]
    refine⟨fun hb1=>?_,fun _=>hc4 u' e (hu'.le (by omega)) hlt' he⟩
    have:=hb hb1
    rw [C2,List.length_map]
    refine(R6 hu' (by omega) (by omega) (by omega)).mono ?_
    rintro⟨u2,y⟩ ⟨a2,b2,c2,d2⟩
    dsimp only at a2 b2 c2 d2 ⊢
    rw [F8]
    exact⟨decide_eq_true (by omega),hc4 u2 _ (a2.le (by omega)) (by omega) he⟩
   rw [D2]
   refine⟨fun h0=>?_,fun _=>hc7 u1 false (a1.le (by omega)) (by omega) (fun h=>by cases h)⟩
   have h0:=of_decide_eq_true h0
   rw [List.length_map] at h0
   rw [C2]
   refine(R6 a1 (by omega) (by omega) (by omega)).mono ?_
   rintro⟨u2,y⟩ ⟨a2,b2,c2,d2⟩
   dsimp only at a2 b2 c2 d2 ⊢
   exact hc7 u2 _ (a2.le (by omega)) (by omega) fun _=>by omega
  ·rw [F0]
   unfold a0v
   rw [B9,D4]
   have:=hu.2.2
   exact⟨p,L,rfl,h.le (by omega)⟩
 unfold K3
 rw [c0o,Option.bind_some,C2]
 refine(c2G (c7c k) (by omega)).mono ?_
 rintro⟨s1,cf⟩ ⟨a1,b1,c1⟩
 dsimp only at a1 b1 c1 ⊢
 rw [C2]
 refine(R6 a1 (by omega) (by omega) (by omega)).mono ?_
 rintro⟨s2,y⟩ ⟨a2,b2,c2,d2⟩
 dsimp only at a2 b2 c2 d2 ⊢
 rw [C2]
 refine(R6 a2 (by omega) (by omega) (by omega)).mono ?_
 rintro⟨s3,z⟩ ⟨a3,b3,c3,d3⟩
 dsimp only at a3 b3 c3 d3 ⊢
 rw [D2]
 refine⟨fun _=>hc1 _ _ _ (a3.le (by omega)) hr,fun _=>hc1 _ _ _ (a3.le (by omega)) ?_⟩
 have w:C6 (1 + y)=1 + y:=E4 (by omega) (by omega)
 rw [w]
 have h2:=c1.1 2 _ rfl
 refine⟨fun i x hx=>?_,c1.2⟩
 have hcase:i=1\/i=2\/(i ≠ 1/\i ≠ 2):=by omega
 rcases hcase with rfl | rfl | ⟨n1,n2⟩
 ·injection hx with hx
  dsimp only at hx
  omega
 ·injection hx with hx
  dsimp only at hx
  omega
 ·refine c1.1 i x ?_
  rw [<-hx]
  unfold b6o
  split <;> first | rfl | (exfalso;first | exact n1 rfl | exact n2 rfl)
end Go.Proofs.YtacnfjjkhpkloaaGreat.Am
namespace Go.Proofs.YtacnfjjkhpkloaaGreat.Am
open Go
theorem a2Q {e:o7} (h:e.2.2.2.2.2.2.2.2.2.length < 9223372036854775807):D6 e e=some true:=by
 have hk:U.beq (.arr 32 .byte) e.1 e.1=true:=(U.beq_iff _ _ rfl _ _).2 rfl
 simp only [D6,hk,Z7,b2p h,sel,decide_true,Option.bind_some]
theorem a81 {l:List o7} (h:l.length < 9223372036854775807) (he:∀ e ∈ l,e.2.2.2.2.2.2.2.2.2.length < 9223372036854775807):D7 l l=some true:=by
 refine a1q.1 ?_
 simp only [D7,D2,B9,decide_eq_true_eq,decide_eq_false_iff_not,Bool.not_eq_true',Bool.not_eq_false']
 refine⟨fun h=>(h trivial).elim,fun _=>?_⟩
 unfold Y9
 refine O4 l (fun i (_:Unit)=>(l,l,((l.length:Nat):Int),((i:Nat):Int))) (fun _ _=>True) (fun i b hi _=>?_) (fun b _=>?_) (b0:=()) trivial (by omega)
 ·have hs:D6 (l.getD i B7) (l.getD i B7)=some true:=a2Q (he _ (by rw [R4 hi];exact List.getElem_mem hi))
  simp only [K0,H2 (i:=i) (by omega),D2,F8,C2,B9,C9,D4,decide_eq_true_eq,decide_eq_false_iff_not,Bool.not_eq_true',Bool.not_eq_false',Int.toNat_natCast,hs]
  refine⟨fun _=>⟨by omega,by omega,?_⟩,fun h=>by omega⟩
  simp
 ·simp only [K0,D2,F8,C2,B9,C9,D4,decide_eq_true_eq,decide_eq_false_iff_not,Bool.not_eq_true',Bool.not_eq_false',Int.toNat_natCast]
  exact⟨fun h=>by omega,fun _=>trivial⟩
end Go.Proofs.YtacnfjjkhpkloaaGreat.Am
