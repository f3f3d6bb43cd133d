/- Texts laid together: PMakeTx, PLedG, PStepM, PAppM, PShaN. No conditions. -/
import Derived.Test.YtjbgdpjgfjnkbaaGreatDoorQAU
namespace Go.Proofs.YtjbgdpjgfjnkbaaGreatDoor.Am
open Go
theorem Zw {L:List Int} {k:Int} {s:o7} (hs:jJ L k s) (hk:k < 1000000000000) (h0:0<=k):Ok (iC s) λr=>jJ L (k + 1) r.1/\s.2 < r.1.2/\Sc r.2:=by
 unfold iC;rw [A5];refine(J5 hs (n:=7) (by omega) (by omega) (by omega)).mono λr h=>?_;obtain⟨a1,a2,a3,a4⟩:=h;simp only [D4,A4,a2W];refine⟨⟨a3,a4⟩,by omega,a1,a2,?_⟩;obtain⟨n,hn⟩:∃ n:Nat,Int.toNat r.2=n:=⟨_,rfl⟩;have hn7:n < 7:=by omega
 rw [hn]
 match n,hn7 with
 | 0,_ | 1,_ | 2,_ | 3,_ | 4,_ | 5,_ | 6,_=>exact⟨by decide,by decide⟩
theorem Up {L:List Int} {k q:Int} {b:o7} (hb:jJ L k b) (hq:q < b.2) (hk:k < 500000000000) (h0:0<=k) (z0 z4:List UInt8) (z1 z2 z3:Int) {a0 a4:List UInt8} {a1 a2 a3:Int}
  (c0:Ee a0) (c1:ri a1) (c2:150<=a2/\a2<=350) (c3:ri a3) (c4:Sc a4):Ok (cY b z0 z1 z2 z3 z4 a0 a1 a2 a3 a4) λr=>jJ L (k + 10) r.1/\q < r.1.2/\TxM r.2:=by
 unfold cY;rw [A5];refine(J5 hb (n:=3) (by omega) (by omega) (by omega)).mono λr h=>?_;obtain⟨d1,d2,d3,d4⟩:=h;unfold nw;refine eX (inv:=λv=>∃ (n:Nat) (i:Int) (c:o7) (l:List A0),v=(i,c,z0,z1,z2,z3,z4,a0,a1,a2,a3,a4,l)/\n<=3/\ -1<=i/\i + n<=2/\(i= -1->1<=n)/\jJ L (k + 1 + 3 * n) c/\q < c.2/\l.length=n/\∀ x ∈ l,TrM x) (m:=λv=>(v.1 + 1).toNat) ?_ ⟨0,_,_,[],rfl,by omega,by omega,by omega,by omega,d1.le (by omega),by omega,by simp,by simp⟩ (by simp only;omega);rintro v ⟨n,i,c,l,rfl,hn,hi,hin,hi1,hc,hlt,hl,hall⟩;have c5:∀ {y:o7} {x:A0},jJ L (k + 1 + 3 * n + 3) y->q < y.2->TrM x->0<=i->Ok (cX i y z0 z1 z2 z3 z4 a0 a1 a2 a3 a4 x l) (Nxt (λr=>jJ L (k + 10) r.1/\q < r.1.2/\TxM r.2) λz=>(∃ (n:Nat) (i:Int) (c:o7) (l:List A0),z=(i,c,z0,z1,z2,z3,z4,a0,a1,a2,a3,a4,l)/\n<=3/\ -1<=i/\i + n<=2/\(i= -1->1<=n)/\jJ L (k + 1 + 3 * n) c/\q < c.2/\l.length=n/\∀ x ∈ l,TrM x)/\(z.1 + 1).toNat < (i + 1).toNat):=by
  intro y x hy hqy hx hi0;have hw:A9 (i - 1)=i - 1:=by rw [C8] <;> omega
  simp only [cX,D4,A4,B5,a2W,hw];refine⟨⟨by unfold LIM;omega,by unfold LEN;omega⟩,⟨n + 1,i - 1,y,l ++ [x],rfl,by omega,by omega,by omega,by omega,hy.le (by omega),hqy,by simp [hl],λw hw=>?_⟩,by omega⟩;rcases List.mem_append.1 hw with hw | hw
  ·exact hall w hw
  ·simp only [a3o] at hw;subst hw;exact hx
 simp only [kn];rw [A7];refine⟨λh=>?_,λh=>?_⟩
 ·have hi0:0<=i:=a23 h;rw [A5];refine(Uo hc (by omega) (by omega)).mono λr6 h6=>?_;obtain⟨e1,e2,e3⟩:=h6;rw [A5];refine(J5 e1 (n:=60) (by omega) (by omega) (by omega)).mono λr7 h7=>?_;obtain⟨f1,f2,f3,f4⟩:=h7;rw [A5];refine(J5 f1 (n:=12) (by omega) (by omega) (by omega)).mono λr8 h8=>?_;obtain⟨g1,g2,g3,g4⟩:=h8;have w1:D7 r7.2=r7.2:=J4 (by omega) (by omega);have w2:D7 (1 + r7.2)=1 + r7.2:=J4 (by omega) (by omega);rw [A7];refine⟨λ_=>c5 (g1.le (by omega)) (by omega) ⟨e3,by simp only;omega,by simp only;omega⟩ hi0,λ_=>c5 (g1.le (by omega)) (by omega) ⟨e3,?_⟩ hi0⟩;simp only [w1,w2];omega
 ·have hi0:¬ 0<=i:=a3k h;rw [A4,B8];exact⟨hc.le (by omega),hlt,c0,c1,c2,c3,c4,⟨by simp only;omega,by simp only;omega⟩,hall⟩
theorem Uq {L:List Int} {k q p:Int} {b:o7} (hb:jJ L k b) (hq:q < b.2) (hk:k < 100000000000) (h0:0<=k) (z0 z4:List UInt8) (z1 z2 z3:Int) {a0 a4:List UInt8} {a1 a2 a3:Int}
  (c0:Ee a0) (c2:150<=a2/\a2<=350) (c1:ri a1) (c4:Sc a4):Ok (da p b z0 z1 z2 z3 z4 a0 a1 a2 a3 a4) λr=>jJ L (k + 20) r.1/\q < r.1.2/\TxM r.2:=by
 have hc2:∀ {y:o7} {n:Int},jJ L (k + 2) y->q < y.2->ri n->Ok (cZ p y z0 z1 z2 z3 z4 a0 n a2 a3 a4) λr=>jJ L (k + 20) r.1/\q < r.1.2/\TxM r.2:=by
  intro y n hy hqy hn;unfold cZ;rw [A5];refine(J5 hy (n:=5) (by omega) (by omega) (by omega)).mono λr4 h4=>?_;obtain⟨d1,d2,d3,d4⟩:=h4;rw [A5];refine(J5 d1 (n:=9) (by omega) (by omega) (by omega)).mono λr9 h9=>?_;obtain⟨e1,e2,e3,e4⟩:=h9;rw [A7];refine⟨λ_=>?_,λ_=>?_⟩
  ·rw [A5];refine(J5 e1 (n:=200) (by omega) (by omega) (by omega)).mono λr10 h10=>?_;obtain⟨f1,f2,f3,f4⟩:=h10;refine(Up f1 (q:=q) (by omega) (by omega) (by omega) z0 z4 z1 z2 z3 c0 hn c2 (V9 _) c4).mono λr h=>?_;exact⟨h.1.le (by omega),h.2⟩
  ·refine(Up e1 (q:=q) (by omega) (by omega) (by omega) z0 z4 z1 z2 z3 c0 hn c2 (V9 _) c4).mono λr h=>?_;exact⟨h.1.le (by omega),h.2⟩
 unfold da;rw [A5];refine(J5 hb (n:=6) (by omega) (by omega) (by omega)).mono λr11 h11=>?_;obtain⟨d1,d2,d3,d4⟩:=h11;rw [A7];refine⟨λ_=>?_,λ_=>hc2 (d1.le (by omega)) (by omega) c1⟩;rw [A5];refine(J5 d1 (n:=3) (by omega) (by omega) (by omega)).mono λr12 h12=>?_;exact hc2 (h12.1.le (by omega)) (by have:=h12.2.1;omega) (V9 _)
theorem SF {L:List Int} {k p:Int} {s:o7} {g:o8} (hs:jJ L k s) (hk:k < 10000000000) (h0:0<=k) (hg:g.1.length<=1000) (ha:∀ a ∈ g.1,GA a):Ok (kh s g p) λr=>jJ L (k + 30) r.1/\s.2 < r.1.2/\TxM r.2:=by
 unfold kh;rw [A5];refine(Uo hs (by omega) (by omega)).mono λr1 h1=>?_;obtain⟨a1,a2,a3⟩:=h1;rw [A5];refine(J5 a1 (n:=6) (by omega) (by omega) (by omega)).mono λr2 h2=>?_;obtain⟨b1,b2,b3,b4⟩:=h2;rw [A5];refine(Zw b1 (by omega) (by omega)).mono λr3 h3=>?_;obtain⟨c1,c2,c3⟩:=h3;have w1:D7 r2.2=r2.2:=J4 (by omega) (by omega);have w2:D7 (r2.2 * 40)=r2.2 * 40:=J4 (by omega) (by omega);have w3:D7 (150 + r2.2 * 40)=150 + r2.2 * 40:=J4 (by omega) (by omega);have gas:150<=D7 (150 + D7 (D7 r2.2 * 40))/\D7 (150 + D7 (D7 r2.2 * 40))<=350:=by rw [w1,w2,w3];omega
 have z:ri 0:=⟨by decide,by decide⟩;have c6:∀ {y:o7} {c:Bool},jJ L (k + 4) y->s.2 < y.2->(c=true->0 < g.1.length)->Ok (db p ((List.length g.1:Nat):Int) c y g [] (0:Int) (0:Int) (0:Int) [] r1.2 (0:Int) (D7 (150 + (D7 ((D7 r2.2) * 40)))) (0:Int) r3.2) λr=>jJ L (k + 30) r.1/\s.2 < r.1.2/\TxM r.2:=by
  intro y c hy hq hc;unfold db;rw [A7];refine⟨λh=>?_,λ_=>?_⟩
  ·have hpos:=hc h;rw [A5];refine(J5 hy (n:=((List.length g.1:Nat):Int)) (by omega) (by omega) (by omega)).mono λr13 h13=>?_;obtain⟨d1,d2,d3,d4⟩:=h13;rw [D4];refine⟨a2S ⟨d3,d4⟩,?_⟩;have hm:List.getD g.1 (Int.toNat r13.2) B0 ∈ g.1:=by
    rw [E0 (by omega)];exact a29 _
   have hacc:=ha _ hm;refine(Uq d1 (q:=s.2) (by omega) (by omega) (by omega) [] [] 0 0 0 hacc.1 gas hacc.2.2 c3).mono λr h=>?_;exact⟨h.1.le (by omega),h.2⟩
  ·refine(Uq hy (q:=s.2) (by omega) (by omega) (by omega) [] [] 0 0 0 a3 gas z c3).mono λr h=>?_;exact⟨h.1.le (by omega),h.2⟩
 rw [A7];refine⟨λh=>?_,λ_=>c6 (c1.le (by omega)) (by omega) (λh=>by cases h)⟩;have hpos:=a23 h;rw [A5];refine(J5 c1 (n:=8) (by omega) (by omega) (by omega)).mono λr14 h14=>?_;exact c6 (h14.1.le (by omega)) (by have:=h14.2.1;omega) (λ_=>by omega)
theorem Wo {l:List o6} (hb:uq l) (hn:∀ a ∈ l,a.1.length<=1000000000000000) (hl:l.length<=4398046511000):dq l=some (WN l):=by
 unfold dq WN;by_cases h:256 < l.length
 ·rw [a28 h,a2S (by omega),E8]
 rw [a25 h,a2Y (by omega),E3];rw [<-J3];unfold js;refine D8 l (λi (b:List o6)=>(l,((l.length:Nat):Int),((i:Nat):Int),([],(0:Int)),(0:Int),b)) (λi b=>RQ [] l=RQ (I4 (l.take i)) (l.drop i)/\b.Perm (l.take i)/\Srt b/\(I4 (l.take i)).Nodup) (λi b hi hv=>?_) (λb hv=>?_) (b0:=[]) ⟨rfl,List.Perm.refl _,List.Pairwise.nil,a4j⟩ (by omega)
 ·obtain⟨hv,hp,hs,hnd⟩:=hv;rw [vS hi,DR] at hv;have hbl:b.length=i:=by rw [hp.length_eq,a26];omega
  unfold aq;dsimp only;rw [a2S (by omega:(i:Int) < ((l.length:Nat):Int)),E8,a2S (by omega:(0:Int)<=(i:Int)/\(i:Int) < ((l.length:Nat):Int)),C4,a2T,E0 hi,xi (hn _ (a29 hi)),a2X];cases hname:ap l[i].1 with
  | false=>
   rw [a28 hname] at hv;rw [a3r,E8,A4,B8,hv,a25 (by decide)]
  | true=>
   rw [a25 (by rw [hname];decide)] at hv;rw [a3m,E3,xl (by omega),a2X];by_cases hm:l[i].1 ∈ I4 (l.take i)
   ·rw [a28 hm] at hv;have hf:H7 b l[i].1 < b.length:=DS.2 ((vV hp).2 hm);rw [a28 hf,a2S (by omega),E8,A4,B8,hv,a25 (by decide)]
   ·rw [a25 hm] at hv;have hf:¬ H7 b l[i].1 < b.length:=λh=>hm ((vV hp).1 (DS.1 h));rw [a25 hf,a2Y (by omega),E3,Cj (by omega),a2X,A4,B5,D2 (by omega)];refine⟨_,rfl,by rw [hv,Au hi],?_,yK hs,?_⟩
    ·have hput:IF b l[i]=b.take (J1 b l[i].1) ++ l[i] :: b.drop (J1 b l[i].1):=by unfold IF;rw [a25 hf]
     rw [hput,I2 hi];exact(oI _ _).trans ((hp.cons _).trans (List.perm_append_singleton _ _).symm)
    ·rw [Au hi,a32];exact⟨hnd,by simp,λx hx y hy e=>by rw [a3o] at hy;subst hy;subst e;exact hm hx⟩
 ·obtain⟨hv,hp,hs,hnd⟩:=hv;rw [a4g] at hv;rw [a3i] at hp hnd;have hv:RQ [] l=0:=hv;have hbl:=hp.length_eq;unfold aq eO;dsimp only;rw [decide_eq_false (by omega),E3,Ob (g:=(b,0)) ⟨by omega,by omega⟩ (λa ha=>hb a (hp.mem_iff.1 ha)) (by dsimp only;omega),Option.bind_some,hv,if_pos rfl];dsimp only;rw [yL hp,Ol hnd hp hs];cases (uy (0 + oq l)).2 with
  | true=>rw [a28 rfl];exact⟨_,rfl,rfl⟩
  | false=>rw [a25 (by decide)];exact⟨_,rfl,rfl⟩
theorem Ur {L:List Int} {k p:Int} {s:o7} {g:o8} (hs:jJ L k s) (hk:k < 1000000000) (h0:0<=k) (hg:GI 256 g):Ok (fR s g p) λr=>jJ L (k + 40) r.1/\s.2 < r.1.2/\r.2.length<=4096:=by
 unfold fR;rw [A5];refine(SF hs (by omega) h0 (by have:=hg.1;omega) hg.2.1).mono λr1 h1=>?_;obtain⟨a1,a2,a3⟩:=h1;rw [KN a3.b a3.n,a2X];have he:=Sv r1.2;generalize (Zs r1.2).1=e at he;have hc:∀ {y:o7} {c:Bool},jJ L (k + 31) y->s.2 < y.2->(c=true->0 < e.length)->Ok (bU c y e) λr=>jJ L (k + 40) r.1/\s.2 < r.1.2/\r.2.length<=4096:=by
  intro y c hy hq hc;unfold bU;rw [A7];refine⟨λh=>?_,λ_=>by rw [A4];exact⟨hy.le (by omega),hq,he⟩⟩;have hpos:=hc h;rw [A5];refine(J5 hy (n:=((e.length:Nat):Int)) (by omega) (by omega) (by omega)).mono λr3 h3=>?_;obtain⟨b1,b2,b3,b4⟩:=h3;rw [A5];refine(J5 b1 (n:=2) (by omega) (by omega) (by omega)).mono λr4 h4=>?_;obtain⟨c1,c2,c3,c4⟩:=h4;rw [A7];refine⟨λ_=>?_,λ_=>?_⟩
  ·rw [a2S (⟨by omega,b3,by omega⟩:(0:Int)<=0/\0<=r3.2/\r3.2<=((e.length:Nat):Int)),C4,A4];exact⟨c1.le (by omega),by dsimp only;omega,by dsimp only;rw [List.length_take];omega⟩
  ·rw [a2S (⟨by unfold LIM;omega,by unfold LEN;omega⟩:(0 + e.length) * 1<=LIM/\0 + e.length<=LEN),C4,A5];refine(J5 c1 (n:=256) (by omega) (by omega) (by omega)).mono λr5 h5=>?_;obtain⟨d1,d2,d3,d4⟩:=h5;rw [a2S ⟨b3,b4⟩,C4,a2S (fZ _),C4,a2S (by omega),C4,A4];exact⟨d1.le (by omega),by dsimp only;omega,by dsimp only;rw [List.length_set];exact he⟩
 rw [A7];refine⟨λh=>?_,λ_=>hc (a1.le (by omega)) a2 (λh=>by cases h)⟩;have h:=a23 h;rw [A5];refine(J5 a1 (n:=12) (by omega) (by omega) (by omega)).mono λr6 h6=>?_;exact hc (h6.1.le (by omega)) (by have:=h6.2.1;omega) (λ_=>by omega)
def KY (a:J8):Prop:=xu a.1/\xu a.2.1/\xu a.2.2.1/\a.2.2.2.1=false/\okU a.2.2.2.2
theorem Zx {l:List o6} {p:Int} (h:KI l) (hp:okU p):Ok (gc l p) λr=>KY r.1:=by
 have hg:=a1l h;unfold gc;rw [Wo (λa ha=>(h.2 a ha).2.1) (λa ha=>(h.2 a ha).len) (by have:=h.1;omega),a2X,A7,A4,A4];exact⟨λ_=>⟨yQ,yQ,yQ,rfl,oL⟩,λ_=>⟨hg,hg,yQ,rfl,hp⟩⟩
theorem SG {a:J8} {raw:List UInt8} (h:KY a) (hr:raw.length<=140737488351232):V4 a raw=some (a.1,(T7 a.2.1 a.2.2.2.2 raw).1,a.2.2):=by
 unfold V4;rw [wC h.2.1.b h.2.2.2.2 hr,a2X]
abbrev Ans {α:Type} (o:Option α):Prop:=Ok o λ_=>True
theorem mF (x:Int) {k:Int} (h0:0<=k) (h1:k<=32):Ans (I1 x k):=by
 have w:A9 (32 - k)=32 - k:=C8 (by omega) (by omega);simp only [Ans,I1,w,D4,A4,a2W];exact⟨h0,by omega,trivial⟩
theorem H2 {α β:Type} {o:Option α} {f:α->Option β} {p:β->Prop} (h:Ans o) (k:∀ r,Ok (f r) p):Ok (o.bind f) p:=by
 rw [A5];exact h.mono λr _=>k r
theorem Zy (b0 b1 b2:Vector Int 8):Ans (gf 0 b0 b1 b2):=by
 unfold gf;refine T2 (λn v=>∃ i:Nat,i + n=8/\v.1=(i:Int)) ?_ ⟨0,rfl,rfl⟩ (n:=8) (by omega);rintro n ⟨v,b0,b1,b2⟩ ⟨i,hi,rfl⟩;simp only [ia,D2 (i:=i) (by omega),A7,D4,A4,B5,B8,a2W,a2U,a2T];refine⟨λh=>⟨by omega,by omega,by omega,by omega,by omega,by omega,n - 1,by omega,i + 1,by omega,rfl⟩,λ_=>trivial⟩
theorem Zz (b0 b1:Vector Int 8) (b2 b3:Vector Int 64) (b4:Vector Int 8):Ans (gg 0 b0 b1 b2 b3 b4):=by
 unfold gg;refine T2 (λn v=>∃ i:Nat,i + n=64/\v.1=(i:Int)) ?_ ⟨0,rfl,rfl⟩ (n:=64) (by omega);rintro n ⟨v,b0,b1,b2,b3,b4⟩ ⟨i,hi,rfl⟩;simp only [ib,D2 (i:=i) (by omega)];rw [A7];refine⟨λh=>?_,λ_=>?_⟩
 ·have h':(i:Int) < 64:=a23 h;refine H2 (mF _ (by omega) (by omega)) λr2=>H2 (mF _ (by omega) (by omega)) λr3=>H2 (mF _ (by omega) (by omega)) λr4=>?_;simp only [D4,A5,A4,B5,a2W,a2T];refine⟨by omega,by omega,by omega,by omega,(mF _ (by omega) (by omega)).mono λr5 _=>(mF _ (by omega) (by omega)).mono λr6 _=>(mF _ (by omega) (by omega)).mono λr7 _=>⟨n - 1,by omega,i + 1,by omega,rfl⟩⟩
 ·rw [C9];exact Zy _ _ _
theorem ZA (b0 b1:Vector Int 8) (b2:Vector Int 64):Ans (gh 16 b0 b1 b2):=by
 unfold gh;refine T2 (λn v=>∃ i:Nat,i + n=64/\16<=i/\v.1=(i:Int)) ?_ ⟨16,rfl,by omega,rfl⟩ (n:=48) (by omega);rintro n ⟨v,b0,b1,b2⟩ ⟨i,hi,h16,rfl⟩;have w1:A9 ((i:Int) - 15)=(i:Int) - 15:=C8 (by omega) (by omega);have w2:A9 ((i:Int) - 2)=(i:Int) - 2:=C8 (by omega) (by omega);have w3:A9 ((i:Int) - 7)=(i:Int) - 7:=C8 (by omega) (by omega);have w4:A9 ((i:Int) - 16)=(i:Int) - 16:=C8 (by omega) (by omega);simp only [ig,D2 (i:=i) (by omega),w1,w2,w3,w4,A7,D4,A5,A4,C9,B5,B8,a2W,a2U,a2T];refine⟨λh=>⟨by omega,by omega,by omega,by omega,(mF _ (by omega) (by omega)).mono λr5 _=>(mF _ (by omega) (by omega)).mono λr6 _=>⟨by omega,by omega,(mF _ (by omega) (by omega)).mono λr7 _=>(mF _ (by omega) (by omega)).mono λr8 _=>⟨by omega,by omega,by omega,by omega,n - 1,by omega,i + 1,by omega,by omega,rfl⟩⟩⟩,λ_=>?_⟩;unfold ic;exact H2 ⟨_,rfl,trivial⟩ λr=>Zz _ _ _ _ _
theorem OY (s:Vector Int 8) {b:List UInt8} (hb:64<=b.length):Ans (gi s b):=by
 unfold gi la;refine T2 (λn v=>∃ i:Nat,i + n=16/\v.1=b/\v.2.1=(i:Int)) ?_ ⟨0,rfl,rfl,rfl⟩ (n:=16) (by omega);rintro n ⟨v0,v,b0,b1,b2⟩ ⟨i,hi,h0,h1⟩;dsimp only at h0 h1 ⊢;subst h0 h1;have w0:A9 (4 * (i:Int))=4 * (i:Int):=C8 (by omega) (by omega);have w1:A9 (4 * (i:Int) + 1)=4 * (i:Int) + 1:=C8 (by omega) (by omega);have w2:A9 (4 * (i:Int) + 2)=4 * (i:Int) + 2:=C8 (by omega) (by omega);have w3:A9 (4 * (i:Int) + 3)=4 * (i:Int) + 3:=C8 (by omega) (by omega);simp only [il,D2 (i:=i) (by omega),w0,w1,w2,w3,A7,D4,A4,C9,B5,B8,a2W,a2U,a2T];refine⟨λh=>⟨by omega,by omega,by omega,by omega,by omega,by omega,n - 1,by omega,i + 1,by omega,trivial,rfl⟩,λ_=>?_⟩;unfold ij;exact ZA _ _ _
theorem ZB (b0:Vector UInt8 32) (b1:Vector Int 8):Ans (fc b0 b1):=by
 unfold fc mJ;refine T2 (λn v=>∃ i:Nat,i + n=32/\v.1=(i:Int)) ?_ ⟨0,rfl,rfl⟩ (n:=32) (by omega);rintro n ⟨v,b0,b1,b2⟩ ⟨i,hi,rfl⟩;have e1:Int.tdiv (i:Int) 4=((i / 4:Nat):Int):=by rw [Int.tdiv_eq_ediv_of_nonneg (by omega)];omega
 have e2:Int.tmod (i:Int) 4=((i % 4:Nat):Int):=by rw [a4N (by omega)];omega
 dsimp only;unfold jy;rw [A7];refine⟨λh=>?_,λ_=>(A4 _ _).2 trivial⟩;have h':(i:Int) < 32:=a23 h;have w0:A9 (Int.tdiv (i:Int) 4)=((i / 4:Nat):Int):=by rw [e1];exact C8 (by omega) (by omega)
 have w1:A9 (Int.tmod (i:Int) 4 * 8)=((i % 4:Nat):Int) * 8:=by rw [e2];exact C8 (by omega) (by omega)
 have w2:A9 (24 - ((i % 4:Nat):Int) * 8)=24 - ((i % 4:Nat):Int) * 8:=C8 (by omega) (by omega);simp only [w0,w1,w2,D2 (i:=i) (by omega),D4,A4,B5,a2W,a2T];refine⟨by omega,by omega,by omega,by omega,by omega,fZ _,n - 1,by omega,i + 1,by omega,rfl⟩
theorem ZC (b0:Vector UInt8 32) {l:List UInt8} (hl:l.length % 64=0) (hb:l.length < 4611686018427387904):Ans (fd b0 l):=by
 unfold fd mK;refine T2 (λn v=>∃ i:Nat,i * 64 + n=l.length/\v.1=((i * 64:Nat):Int)/\v.2.2.2=l) ?_ ⟨0,by omega,rfl,rfl⟩ (n:=l.length) (by omega);rintro n ⟨v,b0,b1,l'⟩ ⟨i,hi,h1,h2⟩;simp only at h1 h2;subst h1 h2;have w0:A9 (((i * 64:Nat):Int) + 64)=(((i + 1) * 64:Nat):Int):=by rw [C8] <;> omega
 simp only [jz,w0,A7,D4,A5,A4,C9,B5,B8,a2W,a2U,a2T];refine⟨λh=>⟨by omega,(OY _ ?_).mono λr _=>⟨n - 64,by omega,i + 1,by omega,rfl,trivial⟩⟩,λ_=>ZB _ _⟩;rw [a3a,a26];omega
theorem ZD (m:Int) (b0:Vector UInt8 32) {l:List UInt8} (hl:l.length % 64=56) (hb:l.length < 1152921504606846976) (hb2:l.length < 140737488355000):Ans (iL m 7 b0 l):=by
 unfold iL;refine T2 (λn v=>n<=8/\v.2.1=(n:Int) - 1/\v.2.2.2.length + n=l.length + 8) ?_ ⟨by omega,rfl,rfl⟩ (n:=8) (by omega);rintro n ⟨m,k,b0,l'⟩ ⟨h8,h1,h2⟩;simp only at h1 h2;subst h1;have w0:A9 ((n:Int) - 1 - 1)=(n:Int) - 1 - 1:=C8 (by omega) (by omega);have w1:A9 (8 * ((n:Int) - 1))=8 * ((n:Int) - 1):=C8 (by omega) (by omega);simp only [jA,w0,w1,A7,D4,A4,C9,B5,B8,a2W,a2U];refine⟨λh=>⟨by omega,fZ _,⟨by unfold LIM;omega,by unfold LEN;omega⟩,n - 1,by omega,by omega,by omega,?_⟩,λh=>ZC _ (by omega) (by omega)⟩;simp only [a2V,a27,a3l];omega
theorem oN {l:List UInt8} (hb:l.length < 140737488350000):Ans (H4 l):=by
 unfold H4;simp only [Ans,D4,a2W];refine⟨⟨by unfold LIM;omega,by unfold LEN;omega⟩,⟨by unfold LIM;omega,by unfold LEN;omega⟩,?_⟩;unfold mL;refine T2 (λn v=>v.1=l/\n < 64/\(v.2.2.length + n) % 64=56/\v.2.2.length<=l.length + 64/\v.2.2.length + n<=l.length + 64) ?_ (n:=(55 + 64 - l.length % 64) % 64) ⟨rfl,by omega,by simp;omega,by simp,by simp;omega⟩ (by omega);rintro n ⟨v0,b0,l'⟩ ⟨h0,h1,h2,h3,h4⟩;dsimp only at h0 h2 h3 h4 ⊢;subst h0;have e2:Int.tmod (((List.length l'):Nat):Int) 64=((l'.length % 64:Nat):Int):=by rw [a4N (by omega)];omega
 simp only [jC,e2,A7,D4,A4,C9,B5,B8,a2W,a2U,a20,a2Z];refine⟨λh=>⟨⟨by unfold LIM;omega,by unfold LEN;omega⟩,n - 1,by omega,trivial,by omega,?_,?_,?_⟩,λh=>?_⟩
 ·simp only [a2V,a27,a3l];omega
 ·simp only [a2V,a27,a3l];omega
 ·simp only [a2V,a27,a3l];omega
 ·unfold jB;exact ZD _ _ (by omega) (by omega) (by omega)
end Go.Proofs.YtjbgdpjgfjnkbaaGreatDoor.Am
