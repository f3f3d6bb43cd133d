/- Texts laid together: PKeep, PPlace, PNum, PMakeAc. No conditions. -/
import Derived.Test.YtjbgdpjgfjnkbaaGreatDoorQAT
namespace Go.Proofs.YtjbgdpjgfjnkbaaGreatDoor.Am
open Go
theorem Ul {g:o8} {p:Int} {t:C5} {n:Int} (h:Cx g p t n=0):H7 g.1 t.1 < g.1.length/\(g.1.getD (H7 g.1 t.1) B0).2.2=t.2.1/\t.2.1 ≠ 18446744073709551615/\(bY t).2=true/\(bY t).1<=(g.1.getD (H7 g.1 t.1) B0).2.1/\(vA g t (bY t).1).1.length<=256:=by
 unfold Cx at h;by_cases h1:H7 g.1 t.1 < g.1.length
 case neg=>rw [a28 h1] at h;cases h
 rw [a25 (λk=>k h1)] at h;by_cases h2:(g.1.getD (H7 g.1 t.1) B0).2.2=t.2.1
 case neg=>rw [a28 h2] at h;cases h
 rw [a25 (λk=>k h2)] at h;by_cases h3:t.2.1=18446744073709551615
 case pos=>rw [a28 h3] at h;cases h
 rw [a25 h3] at h;split at h
 ·cases h
 split at h
 ·cases h
 split at h
 ·cases h
 by_cases h6:(bY t).2=false
 case pos=>rw [a28 h6] at h;cases h
 rw [a25 h6] at h;by_cases h7:(g.1.getD (H7 g.1 t.1) B0).2.1 < (bY t).1
 case pos=>rw [a28 h7] at h;cases h
 rw [a25 h7] at h;by_cases h8:256 < (vA g t (bY t).1).1.length
 case pos=>rw [a28 h8] at h;cases h
 exact⟨h1,h2,h3,a4M _ |>.mp h6,by omega,by omega⟩
theorem OU:∀ (l:List Int) (i:Nat) (h:i < l.length) (x:Int),(l.set i x).sum=l.sum - l[i] + x
 | a :: l,0,_,x=>by simp only [a4S,a35,List.getElem_cons_zero];omega
 | a :: l,i + 1,h,x=>by
  have:=OU l i (by simpa using h) x;simp only [a4T,a35,List.getElem_cons_succ];omega
theorem OV {l:List o6} {i:Nat} (h:i < l.length) (a:o6):oq (l.set i a)=oq l - l[i].2.1 + a.2.1:=by
 unfold oq;rw [a5q,OU _ i (by rw [a3d];exact h),a4e]
theorem AD:∀ {l:List Int},(∀ x ∈ l,0<=x)->∀ x ∈ l,x<=l.sum
 | [],_,x,hx=>by cases hx
 | a :: l,h,x,hx=>by
  have h1:=h a (a3V ..);have h2:=yJ (l:=l) (λy hy=>h y (a3t _ hy));rw [a35];rcases List.mem_cons.1 hx with rfl | hx
  ·omega
  ·have:=AD (l:=l) (λy hy=>h y (a3t _ hy)) x hx;omega
theorem Um {l:List o6} (h:uq l) {a:o6} (ha:a ∈ l):a.2.1<=oq l:=
 AD (λx hx=>by obtain⟨b,hb,rfl⟩:=List.mem_map.1 hx;exact(h b hb).1) _ (a4v ha)
theorem Un {l:List o6} (h:uq l):0<=oq l:=yJ λx hx=>by obtain⟨b,hb,rfl⟩:=List.mem_map.1 hx;exact(h b hb).1
theorem Eo {l:List o6} {x:TR} (h:uq l):uq (aS l x):=λa ha=>by
 rcases IY ha with h1 | ⟨_,h2,_⟩
 ·exact h a h1
 ·exact h2
theorem Sw {l:List o6} {x:TR} (h:uq l) (hx:0<=x.2) (hs:oq l + x.2 < 18446744073709551616):oq (aS l x)=oq l + x.2:=by
 have hn:=Un h;by_cases hf:H7 l x.1 < l.length
 ·have h1:=Um h (a29 hf);have h2:=(h _ (a29 hf)).1;rw [qF hf,OV hf];dsimp only;rw [J4 (by omega) (by omega)];omega
 ·rw [sF hf,yL (oI _ _)];show(D7 (0 + x.2):Int) + oq l=_;rw [J4 (by omega) (by omega)];omega
theorem Sx {L:List TR}:∀ {l:List o6},uq l->(∀ x ∈ L,0<=x.2)->oq l + (L.map λx=>x.2).sum < 18446744073709551616->oq (L.foldl aS l)=oq l + (L.map λx=>x.2).sum/\uq (L.foldl aS l):=by
 induction L with
 | nil=>intro l h _ _;exact⟨by simp,h⟩
 | cons x L ih=>
  intro l h hx hs;rw [a3h,a35] at hs ⊢;have h0:=hx x (a3V ..);have hL:0<=(L.map λx=>x.2).sum:=yJ λy hy=>by obtain⟨z,hz,rfl⟩:=List.mem_map.1 hy;exact hx z (a3t _ hz)
  have hb:=Sw h h0 (by omega);obtain⟨h1,h2⟩:=ih (Eo (x:=x) h) (λy hy=>hx y (a3t _ hy)) (by omega);exact⟨by rw [a4b,h1,hb];omega,h2⟩
theorem Sy {t:C5} (h:(bY t).2=true):(bY t).1=t.2.2.2.1 + (t.2.2.2.2.2.map λx=>x.2).sum/\t.2.2.2.1 + (t.2.2.2.2.2.map λx=>x.2).sum < 18446744073709551616:=by
 unfold bY uy at h ⊢;by_cases hc:t.2.2.2.1 + (t.2.2.2.2.2.map λx=>x.2).sum < 18446744073709551616
 ·rw [a28 hc];exact⟨rfl,hc⟩
 ·rw [a25 hc] at h;cases h
theorem Wi {s:Int}:(uy s).2=true ↔ s < 18446744073709551616:=by
 unfold uy;by_cases h:s < 18446744073709551616
 ·rw [a28 h];exact⟨λ_=>h,λ_=>rfl⟩
 ·rw [a25 h];exact⟨λk=>(by cases k),λk=>absurd k h⟩
def CF (l:List o6) (n:List UInt8):Int:=(Ls l n).1.2.2
theorem Wj {l:List o6} (hs:Srt l) {a:o6} (ha:a ∈ l):Ls l a.1=(a,true):=by
 have hf:H7 l a.1 < l.length:=vp.2 (a4v ha);have hn:=iW hf;have:l[H7 l a.1]=a:=by
  obtain⟨i,hi,rfl⟩:=a3Z ha;rcases a4Z (H7 l l[i].1) i with k | k | k
  ·have:=hs.lt hf hi k;unfold less at this;rw [hn,gY] at this;cases this
  ·simp only [k]
  ·have:=hs.lt hi hf k;unfold less at this;rw [hn,gY] at this;cases this
 unfold Ls;rw [a28 hf,E0 hf,this]
theorem Wk {l:List o6} {n:List UInt8} (h:n ∉ I4 l):Ls l n=(B0,false):=by
 unfold Ls;rw [a25 (λk=>h (vp.1 k))]
theorem lB {l:List o6} (hs:Srt l) {a:o6} (ha:a ∈ l):CF l a.1=a.2.2:=by unfold CF;rw [Wj hs ha]
theorem sI {l:List o6} {n:List UInt8} (h:n ∉ I4 l):CF l n=0:=by unfold CF;rw [Wk h];rfl
theorem Ep {l:List o6} {n:List UInt8} (h:n ∈ I4 l):∃ (j:Nat) (hj:j < l.length),l[j].1=n:=by
 obtain⟨a,ha,rfl⟩:=List.mem_map.1 h;obtain⟨j,hj,rfl⟩:=a3Z ha;exact⟨j,hj,rfl⟩
theorem Sz {l:List o6} {x:TR} (hs:Srt l) (n:List UInt8):CF (aS l x) n=CF l n:=by
 have hbs:Srt (aS l x):=Cv hs;by_cases hf:H7 l x.1 < l.length
 ·by_cases hn:n ∈ I4 l
  ·obtain⟨j,hj,rfl⟩:=Ep hn;have hm:l[j] ∈ l:=a29 hj;rw [lB hs hm];by_cases hij:H7 l x.1=j
   ·have hm2:(l[j].1,D7 (l[j].2.1 + x.2),l[j].2.2) ∈ aS l x:=by
     rw [qF hf];simp only [hij];exact List.mem_set hj _
    exact(lB hbs hm2 :)
   ·have hm2:l[j] ∈ aS l x:=by
     rw [qF hf,List.mem_iff_getElem];exact⟨j,by rw [a3G];exact hj,List.getElem_set_ne hij _⟩
    exact lB hbs hm2
  ·rw [sI hn,sI];intro h;rcases(kP l x n).1 h with rfl | h
   ·exact hn (jr.1 hf)
   ·exact hn h
 ·have hx:x.1 ∉ I4 l:=λh=>hf (jr.2 h);have hin:∀ {a:o6},a ∈ aS l x ↔ a ∈ (x.1,D7 (0 + x.2),(0:Int)) :: l:=fun {a}=>by rw [sF hf];exact(oI _ _).mem_iff
  by_cases hn:n ∈ I4 l
  ·obtain⟨a,ha,rfl⟩:=List.mem_map.1 hn;rw [lB hs ha];exact lB hbs (hin.2 (a3t _ ha))
  ·rw [sI hn];by_cases e:n=x.1
   ·rw [e];exact lB hbs (hin.2 (a3V ..))
   ·refine sI λh=>?_;rcases(kP l x n).1 h with h | h
    ·exact e h
    ·exact hn h
theorem SA {L:List TR}:∀ {l:List o6},Srt l->∀ n,CF (L.foldl aS l) n=CF l n:=by
 induction L with
 | nil=>intro l _ n;rfl
 | cons x L ih=>intro l hs n;rw [a4b,ih (Cv hs),Sz hs]
theorem KW {L:List TR}:∀ {l:List o6} {n:List UInt8},n ∈ I4 l->n ∈ I4 (L.foldl aS l):=by
 induction L with
 | nil=>intro l n h;exact h
 | cons x L ih=>intro l n h;exact ih ((kP l x n).2 (.inr h))
theorem SB {l:List o6} {s:List UInt8} {c:Int} (hs:Srt l) (hf:H7 l s < l.length) (n:List UInt8):CF (iI l s c) n=if n=s then D7 (CF l s + 1) else CF l n:=by
 have hps:Srt (iI l s c):=yK hs;have hss:CF l s=l[H7 l s].2.2:=by
  have:=lB hs (a29 hf);rw [iW hf] at this;exact this
 by_cases e:n=s
 ·rw [a28 e,e,hss];have hm:(l[H7 l s].1,D7 (l[H7 l s].2.1 - c),D7 (l[H7 l s].2.2 + 1)) ∈ iI l s c:=by
   rw [mD hf];exact List.mem_set hf _
  have:=lB hps hm;rw [iW hf] at this;exact this
 ·rw [a25 e];by_cases hn:n ∈ I4 l
  ·obtain⟨j,hj,rfl⟩:=Ep hn;rw [lB hs (a29 hj)];have hij:H7 l s ≠ j:=λk=>e (by rw [<-iW hf];simp only [k]);have hm:l[j] ∈ iI l s c:=by
    rw [mD hf,List.mem_iff_getElem];exact⟨j,by rw [a3G];exact hj,List.getElem_set_ne hij _⟩
   exact lB hps hm
  ·rw [sI hn,sI];rw [sH hf];exact hn
def xu (g:o8):Prop:=GI 256 g/\a1f g
theorem xu.bal {g:o8} (h:xu g):uq g.1:=λa ha=>(h.1.2.1 a ha).2.1
theorem xu.srt {g:o8} (h:xu g):Srt g.1:=h.2.2.2.1
theorem xu.b {g:o8} (h:xu g):ID g:=h.1.b (by omega)
theorem xu.lt {g:o8} (h:xu g):g.2 + oq g.1 < 18446744073709551616:=Wi.1 h.2.2.2.2
theorem SC {g:o8} {t:C5} (h:xu g) (ht:TxS t) (hf:H7 g.1 t.1 < g.1.length) (hc:(bY t).2=true) (hb:(bY t).1<=(g.1.getD (H7 g.1 t.1) B0).2.1):(vA g t (bY t).1).2 + oq (vA g t (bY t).1).1=g.2 + oq g.1:=by
 obtain⟨hc1,hc2⟩:=Sy hc;rw [E0 hf] at hb;have hlt:=h.lt;have hL:0<=(t.2.2.2.2.2.map λx=>x.2).sum:=yJ λy hy=>by obtain⟨z,hz,rfl⟩:=List.mem_map.1 hy;exact(ht.2.2.2.2.2.2 z hz).2.1
 have hfee:=ht.2.2.2.1.1;have h1:=Um h.bal (a29 hf);have h2:=h.bal _ (a29 hf);have h3:=h.1.2.2.1;have h4:=Un h.bal;have h5:=h2.1;have hpb:oq (iI g.1 t.1 (bY t).1)=oq g.1 - (bY t).1:=by
  rw [mD hf,OV hf];dsimp only;rw [J4 (by omega) (by omega)];omega
 have hpu:uq (iI g.1 t.1 (bY t).1):=by
  rw [mD hf];intro a ha;rcases a3L ha with ha | rfl
  ·exact h.bal a ha
  ·exact V9 _
 have hlt2:oq (iI g.1 t.1 (bY t).1) + (t.2.2.2.2.2.map λx=>x.2).sum < 18446744073709551616:=by omega
 have k1:oq (t.2.2.2.2.2.foldl aS (iI g.1 t.1 (bY t).1))=oq (iI g.1 t.1 (bY t).1) + (t.2.2.2.2.2.map λx=>x.2).sum:=(Sx (L:=t.2.2.2.2.2) hpu (λx hx=>(ht.2.2.2.2.2.2 x hx).2.1) hlt2).1;show D7 (g.2 + t.2.2.2.1) + oq (t.2.2.2.2.2.foldl aS (iI g.1 t.1 (bY t).1))=_;rw [k1,hpb,J4 (by omega) (by omega)];omega
theorem Er {g:o8} {p:Int} {raw:List UInt8} (h:xu g):xu (T7 g p raw).1/\(T7 g p raw).1.2 + oq (T7 g p raw).1.1=g.2 + oq g.1/\(∀ n ∈ I4 g.1,n ∈ I4 (T7 g p raw).1.1)/\
  (((T7 g p raw).2.1 ≠ 0/\(T7 g p raw).1=g)\/((T7 g p raw).2.1=0/\(gR raw).2=0/\Cx g p (gR raw).1 ((raw.length:Nat):Int)=0/\(T7 g p raw).2.2.1=(gR raw).1.1/\(gR raw).1.1 ∈ I4 g.1/\CF g.1 (gR raw).1.1=(gR raw).1.2.1/\(gR raw).1.2.1 + 1 < 18446744073709551616/\
   ∀ n,CF (T7 g p raw).1.1 n=if n=(gR raw).1.1 then CF g.1 n + 1 else CF g.1 n)):=by
 have hled:=Su (p:=p) (raw:=raw) h.1;rcases vZ g p raw with⟨e,hz⟩ | ⟨hv,hd,hc,e,hz,hs⟩
 ·rw [e];exact⟨h,rfl,λ_ h=>h,.inl ⟨hz,rfl⟩⟩
 ·rw [e] at hled ⊢;obtain⟨k1,k2,k3,k4,k5,k6⟩:=Ul hc;have hts:=vv raw;have htot:=SC h hts k1 k4 k5;have hps:Srt (iI g.1 (gR raw).1.1 (bY (gR raw).1).1):=yK h.srt;have hsq:CF g.1 (gR raw).1.1=(gR raw).1.2.1:=by
   have:=lB h.srt (a29 k1);rw [iW k1] at this;rw [this,<-k2,E0 k1]
  have hu:=hts.2.1;have hu1:=hu.1;have hu2:=hu.2;refine⟨⟨hled,hled.1,λa ha=>(hled.2.1 a ha).1.1,Ja hps,?_⟩,htot,λn hn=>KW ((sH k1).symm ▸ hn),.inr ⟨hz,hd,hc,hs,jr.1 k1,hsq,by omega,λn=>?_⟩⟩
  ·rw [htot];exact h.2.2.2.2
  ·show CF ((gR raw).1.2.2.2.2.2.foldl aS _) n=_;rw [SA hps,SB h.srt k1];by_cases en:n=(gR raw).1.1
   ·rw [a28 en,a28 en,en,hsq,J4 (by omega) (by omega)]
   ·rw [a25 en,a25 en]
theorem OW:∀ {l:List o6} {seen:List (List UInt8)},RQ seen l=0->(I4 l).Nodup/\∀ n ∈ I4 l,n ∉ seen
 | [],_,_=>⟨a4j,λn h=>by cases h⟩
 | a :: l,seen,h=>by
  rw [DR] at h;split at h
  ·cases h
  ·by_cases hm:a.1 ∈ seen
   ·rw [a28 hm] at h;cases h
   ·rw [a25 hm] at h;obtain⟨h1,h2⟩:=OW h;refine⟨List.nodup_cons.2 ⟨λk=>h2 _ k (by simp),h1⟩,λn hn=>?_⟩;rcases List.mem_cons.1 hn with rfl | hn
    ·exact hm
    ·exact λk=>h2 n hn (by simp [k])
theorem SD {l:List o6} (h:(I4 l).Nodup):Srt (Gv l):=by
 have hn:(I4 (Gv l)).Nodup:=((pQ l).map _).nodup_iff.2 h;unfold I4 at hn;rw [List.nodup_iff_pairwise_ne,List.pairwise_map] at hn;refine((Oi l).and hn).imp fun {x y} hxy=>?_;rcases wy x.1 y.1 with e | e | e
 ·exact e
 ·exact absurd e hxy.2
 ·have:=hxy.1;unfold less at this;rw [e] at this;cases this
theorem yQ:xu ([],(0:Int)):=⟨a2O,by simp,λa ha=>(by cases ha),List.Pairwise.nil,by decide⟩
theorem a1l {l:List o6} (h:KI l):xu (WN l).1:=by
 have ha:=(a1k h).mono (m:=256) (by omega);unfold WN at ha ⊢;split
 ·exact yQ
 ·rename_i hl;rw [a25 hl] at ha;split
  ·rename_i he;rw [a28 he] at ha;split
   ·rename_i hsum;rw [a28 hsum] at ha;refine⟨ha,ha.1,λa k=>(ha.2.1 a k).1.1,SD (OW he).1,?_⟩;show(uy (0 + oq (Gv l))).2=true;rw [yL (pQ l)];exact hsum
   ·exact yQ
  ·exact yQ
theorem SE {x n:Int} (hn:1<=n) (hn2:n<=4611686018427387904):Ok (gE x n) λr=>0<=r/\r < n/\r=x % n:=by
 have h1:=Int.tmod_eq_emod (a:=x) (b:=n);have h2:=Int.emod_nonneg x (show n ≠ 0 by omega);have h3:=Int.emod_lt_of_pos x (show 0 < n by omega);have h4:((n.natAbs:Nat):Int)=n:=by omega
 simp only [gE,A7,D4,A4,a2W,a2U,a20];refine⟨by omega,λh=>?_,λh=>?_⟩
 ·rw [C8]
  ·split at h1 <;> omega
  ·split at h1 <;> omega
  ·split at h1 <;> omega
 ·split at h1 <;> omega
theorem Wl {s:o7} {n:Int} (hn:1<=n) (hn2:n<=4611686018427387904) (h0:0<=s.2) (h1:s.2 < 4611686018427387904):Ok (o9 s n) λr=>r.1.1=s.1/\r.1.2=s.2 + 1/\0<=r.2/\r.2 < n:=by
 have hw:A9 (s.2 + 1)=s.2 + 1:=C8 (by omega) (by omega);have hp:∀ x,Ok (M5 n x s) λr=>r.1.1=s.1/\r.1.2=s.2 + 1/\0<=r.2/\r.2 < n:=λx=>by
  unfold M5;rw [A5];refine(SE hn hn2).mono λr hr=>?_;rw [A4,hw];exact⟨rfl,rfl,hr.1,hr.2.1⟩
 simp only [o9,A7,D4,a2W,a2U];exact⟨λh=>⟨⟨h0,h⟩,hp _⟩,λ_=>hp _⟩
def jJ (L:List Int) (k:Int) (s:o7):Prop:=s.1=L/\0<=s.2/\s.2<=k
theorem J5 {L:List Int} {k:Int} {s:o7} {n:Int} (hs:jJ L k s) (hn:1<=n) (hn2:n<=4611686018427387904) (hk:k < 4611686018427387904):Ok (o9 s n) λr=>jJ L (k + 1) r.1/\s.2 < r.1.2/\0<=r.2/\r.2 < n:=by
 obtain⟨h1,h2,h3⟩:=hs;refine(Wl hn hn2 h2 (by omega)).mono λr hr=>?_;obtain⟨a1,a2,a3,a4⟩:=hr;exact⟨⟨a1.trans h1,by omega,by omega⟩,by omega,a3,a4⟩
theorem jJ.le {L:List Int} {k m:Int} {s:o7} (h:jJ L k s) (hkm:k<=m):jJ L m s:=⟨h.1,h.2.1,by have:=h.2.2;omega⟩
def Zv (L:List Int):o7:=(L,0)
theorem Wm (L:List Int):ll L=some (Zv L):=rfl
theorem a1m (L:List Int):jJ L 0 (Zv L):=⟨rfl,Int.le_refl _,Int.le_refl _⟩
theorem Uo {L:List Int} {k:Int} {s:o7} (hs:jJ L k s) (hk:k < 1000000000000) (h0:0<=k):Ok (dZ s) λr=>jJ L (k + 1) r.1/\s.2 < r.1.2/\Ee r.2:=by
 unfold dZ;rw [A5];refine(J5 hs (n:=6) (by omega) (by omega) (by omega)).mono λr h=>?_;obtain⟨a1,a2,a3,a4⟩:=h;simp only [D4,A4,a2W];refine⟨⟨a3,a4⟩,by omega,a1,a2,?_⟩;obtain⟨n,hn⟩:∃ n:Nat,Int.toNat r.2=n:=⟨_,rfl⟩;have hn6:n < 6:=by omega
 rw [hn]
 match n,hn6 with
 | 0,_ | 1,_ | 2,_ | 3,_ | 4,_ | 5,_=>exact⟨by decide,by decide⟩
theorem Es {l:List o6} {a:o6} {n:Nat} (h:l.length<=n/\∀ a ∈ l,GA a) (ha:GA a):(l ++ [a]).length<=n + 1/\∀ x ∈ l ++ [a],GA x:=by
 refine⟨by simp;omega,λx hx=>?_⟩;rcases List.mem_append.1 hx with hx | hx
 ·exact h.2 x hx
 ·simp only [a3o] at hx;subst hx;exact ha
theorem Jc (n:Nat) (h:n < 4):Ee (List.getD [[(97:UInt8),(110:UInt8),(110:UInt8)],[(98:UInt8),(111:UInt8),(98:UInt8)],[(101:UInt8),(118:UInt8),(101:UInt8)],[(122:UInt8),(111:UInt8),(101:UInt8)]] n []):=by
 match n,h with
 | 0,_ | 1,_ | 2,_ | 3,_=>exact⟨by decide,by decide⟩
theorem OX (n:Nat) (h:n < 5):ri (List.getD [100000,5000,700,0,1099511627776] n (0:Int)):=by
 match n,h with
 | 0,_ | 1,_ | 2,_ | 3,_ | 4,_=>exact⟨by decide,by decide⟩
theorem Wn (n:Nat) (h:n < 3):ri (List.getD [5,18446744073709551615,18446744073709551614] n (0:Int)):=by
 match n,h with
 | 0,_ | 1,_ | 2,_=>exact⟨by decide,by decide⟩
theorem KX {L:List Int} {k:Int} {s:o7} (hs:jJ L k s) (hk:k < 1000000000000) (h0:0<=k):Ok (dw s) λr=>jJ L (k + 13) r.1/\s.2 < r.1.2/\KI r.2:=by
 unfold dw;rw [A5];refine(J5 hs (n:=4) (by omega) (by omega) (by omega)).mono λr h=>?_;obtain⟨a1,a2,a3,a4⟩:=h;unfold jt;refine eX (S:=Int × o7 × List o6) (inv:=λv=>∃ n:Nat,n<=4/\ -1<=v.1/\v.1 + n<=3/\jJ L (k + 1 + 3 * n) v.2.1/\s.2 < v.2.1.2/\v.2.2.length<=n/\∀ a ∈ v.2.2,GA a) (m:=λv=>(v.1 + 1).toNat) ?_ ⟨0,by omega,by simp only;omega,by simp only;omega,a1.le (by omega),a2,by simp,by simp⟩ (by simp only;omega);rintro⟨i,b,l⟩ ⟨n,hn,hi,hin,hb,hlt,hl,hall⟩;simp only at hi hin hb hlt hl hall;simp only [eS,A7,D4,A5,A4,B5,B8,a2W,a2U];refine⟨λhi0=>⟨by omega,by omega,?_⟩,λ_=>⟨hb.le (by omega),hlt,by omega,hall⟩⟩;have hw:A9 (i - 1)=i - 1:=by rw [C8] <;> omega
 refine(J5 hb (n:=5) (by omega) (by omega) (by omega)).mono λr2 h2=>?_;obtain⟨b1,b2,b3,b4⟩:=h2;refine⟨⟨b3,b4⟩,by omega,?_⟩;refine(J5 b1 (n:=6) (by omega) (by omega) (by omega)).mono λr3 h3=>?_;obtain⟨c1,c2,c3,c4⟩:=h3;refine⟨λ_=>?_,λ_=>⟨⟨by unfold LIM;omega,by unfold LEN;omega⟩,?_⟩⟩
 ·refine(J5 c1 (n:=3) (by omega) (by omega) (by omega)).mono λr4 h4=>?_;obtain⟨d1,d2,d3,d4⟩:=h4;refine⟨⟨d3,d4⟩,by omega,⟨by unfold LIM;omega,by unfold LEN;omega⟩,?_⟩;rw [hw];have q:=Es (n:=n) ⟨hl,hall⟩ (a:=(_,_,_)) ⟨Jc (Int.toNat i) (by omega),OX (Int.toNat r2.2) (by omega),Wn (Int.toNat r4.2) (by omega)⟩;exact⟨⟨n + 1,by omega,by omega,by omega,d1.le (by omega),by omega,q.1,q.2⟩,by omega⟩
 ·rw [hw];have q:=Es (n:=n) ⟨hl,hall⟩ (a:=(_,_,_)) ⟨Jc (Int.toNat i) (by omega),OX (Int.toNat r2.2) (by omega),(⟨by decide,by decide⟩:ri 0)⟩;exact⟨⟨n + 1,by omega,by omega,by omega,c1.le (by omega),by omega,q.1,q.2⟩,by omega⟩
end Go.Proofs.YtjbgdpjgfjnkbaaGreatDoor.Am
