/- Texts laid together: PKeep, PPlace, PNum, PMakeAc. No conditions. -/
import Derived.Test.YtbipjlehhlkghaaGreatDoorQAP
import Derived.Test.YtbipjlehhlkghaaGreatDoorFAll
import Derived.Test.YtbipjlehhlkghaaGreatDoorQAE
import Derived.Test.YtbipjlehhlkghaaGreatDoorQAK
namespace Go.Proofs.YtbipjlehhlkghaaGreatDoor.Am
open Go
theorem d2c {g:o6} {p:Int} {t:A7} {n:Int} (h:b7R g p t n=0):E9 g.1 t.1 < g.1.length/\(g.1.getD (E9 g.1 t.1) o9).2.2=t.2.1/\t.2.1 ≠ 18446744073709551615/\(Z0 t).2=true/\(Z0 t).1<=(g.1.getD (E9 g.1 t.1) o9).2.1/\(b4v g t (Z0 t).1).1.length<=256:=by
 unfold b7R at h
 by_cases h1:E9 g.1 t.1 < g.1.length
 case neg=>rw [if_pos h1] at h;cases h
 rw [if_neg (fun k=>k h1)] at h
 by_cases h2:(g.1.getD (E9 g.1 t.1) o9).2.2=t.2.1
 case neg=>rw [if_pos h2] at h;cases h
 rw [if_neg (fun k=>k h2)] at h
 by_cases h3:t.2.1=18446744073709551615
 case pos=>rw [if_pos h3] at h;cases h
 rw [if_neg h3] at h
 split at h
 ·cases h
 split at h
 ·cases h
 split at h
 ·cases h
 by_cases h6:(Z0 t).2=false
 case pos=>rw [if_pos h6] at h;cases h
 rw [if_neg h6] at h
 by_cases h7:(g.1.getD (E9 g.1 t.1) o9).2.1 < (Z0 t).1
 case pos=>rw [if_pos h7] at h;cases h
 rw [if_neg h7] at h
 by_cases h8:256 < (b4v g t (Z0 t).1).1.length
 case pos=>rw [if_pos h8] at h;cases h
 exact⟨h1,h2,h3,Bool.not_eq_false _ |>.mp h6,by omega,by omega⟩
theorem c8J:∀ (l:List Int) (i:Nat) (h:i < l.length) (x:Int),(l.set i x).sum=l.sum - l[i] + x
 | a :: l,0,_,x=>by simp only [List.set_cons_zero,List.sum_cons,List.getElem_cons_zero];omega
 | a :: l,i + 1,h,x=>by
  have:=c8J l i (by simpa using h) x
  simp only [List.set_cons_succ,List.sum_cons,List.getElem_cons_succ]
  omega
theorem c8K {l:List o7} {i:Nat} (h:i < l.length) (a:o7):a8y (l.set i a)=a8y l - l[i].2.1 + a.2.1:=by
 unfold a8y
 rw [List.map_set,c8J _ i (by rw [List.length_map];exact h),List.getElem_map]
theorem b42:∀ {l:List Int},(∀ x ∈ l,0<=x)->∀ x ∈ l,x<=l.sum
 | [],_,x,hx=>by cases hx
 | a :: l,h,x,hx=>by
  have h1:=h a (List.mem_cons_self ..)
  have h2:=b7d (l:=l) (fun y hy=>h y (List.mem_cons_of_mem _ hy))
  rw [List.sum_cons]
  rcases List.mem_cons.1 hx with rfl | hx
  ·omega
  ·have:=b42 (l:=l) (fun y hy=>h y (List.mem_cons_of_mem _ hy)) x hx
   omega
theorem d2d {l:List o7} (h:b3p l) {a:o7} (ha:a ∈ l):a.2.1<=a8y l:=
 b42 (fun x hx=>by obtain⟨b,hb,rfl⟩:=List.mem_map.1 hx;exact(h b hb).1) _ (List.mem_map_of_mem ha)
theorem d2e {l:List o7} (h:b3p l):0<=a8y l:=b7d fun x hx=>by obtain⟨b,hb,rfl⟩:=List.mem_map.1 hx;exact(h b hb).1
theorem c1w {l:List o7} {x:TR} (h:b3p l):b3p (V2 l x):=fun a ha=>by
 rcases c4C ha with h1 | ⟨_,h2,_⟩
 ·exact h a h1
 ·exact h2
theorem d03 {l:List o7} {x:TR} (h:b3p l) (hx:0<=x.2) (hs:a8y l + x.2 < 18446744073709551616):a8y (V2 l x)=a8y l + x.2:=by
 have hn:=d2e h
 by_cases hf:E9 l x.1 < l.length
 ·have h1:=d2d h (List.getElem_mem hf)
  have h2:=(h _ (List.getElem_mem hf)).1
  rw [b0p hf,c8K hf]
  dsimp only
  rw [K9 (by omega) (by omega)]
  omega
 ·rw [b15 hf,b7g (a8W _ _)]
  show(B1 (0 + x.2):Int) + a8y l=_
  rw [K9 (by omega) (by omega)]
  omega
theorem d04 {L:List TR}:∀ {l:List o7},b3p l->(∀ x ∈ L,0<=x.2)->a8y l + (L.map fun x=>x.2).sum < 18446744073709551616->a8y (L.foldl V2 l)=a8y l + (L.map fun x=>x.2).sum/\b3p (L.foldl V2 l):=by
 induction L with
 | nil=>intro l h _ _;exact⟨by simp,h⟩
 | cons x L ih=>
  intro l h hx hs
  rw [List.map_cons,List.sum_cons] at hs ⊢
  have h0:=hx x (List.mem_cons_self ..)
  have hL:0<=(L.map fun x=>x.2).sum:=b7d fun y hy=>by obtain⟨z,hz,rfl⟩:=List.mem_map.1 hy;exact hx z (List.mem_cons_of_mem _ hz)
  have hb:=d03 h h0 (by omega)
  obtain⟨h1,h2⟩:=ih (c1w (x:=x) h) (fun y hy=>hx y (List.mem_cons_of_mem _ hy)) (by omega)
  exact⟨by rw [List.foldl_cons,h1,hb];omega,h2⟩
theorem d05 {t:A7} (h:(Z0 t).2=true):(Z0 t).1=t.2.2.2.1 + (t.2.2.2.2.2.map fun x=>x.2).sum/\t.2.2.2.1 + (t.2.2.2.2.2.map fun x=>x.2).sum < 18446744073709551616:=by
 unfold Z0 b4I at h ⊢
 by_cases hc:t.2.2.2.1 + (t.2.2.2.2.2.map fun x=>x.2).sum < 18446744073709551616
 ·rw [if_pos hc];exact⟨rfl,hc⟩
 ·rw [if_neg hc] at h;cases h
theorem d3G {s:Int}:(b4I s).2=true ↔ s < 18446744073709551616:=by
 unfold b4I
 by_cases h:s < 18446744073709551616
 ·rw [if_pos h];exact⟨fun _=>h,fun _=>rfl⟩
 ·rw [if_neg h];exact⟨fun k=>(by cases k),fun k=>absurd k h⟩
def b6f (l:List o7) (n:List UInt8):Int:=(c06 l n).1.2.2
theorem d3H {l:List o7} (hs:Srt l) {a:o7} (ha:a ∈ l):c06 l a.1=(a,true):=by
 have hf:E9 l a.1 < l.length:=b4p.2 (List.mem_map_of_mem ha)
 have hn:=a2S hf
 have:l[E9 l a.1]=a:=by
  obtain⟨i,hi,rfl⟩:=List.getElem_of_mem ha
  rcases Nat.lt_trichotomy (E9 l l[i].1) i with k | k | k
  ·have:=hs.lt hf hi k
   unfold less at this
   rw [hn,a2R] at this
   cases this
  ·simp only [k]
  ·have:=hs.lt hi hf k
   unfold less at this
   rw [hn,a2R] at this
   cases this
 unfold c06
 rw [if_pos hf,D8 hf,this]
theorem d3I {l:List o7} {n:List UInt8} (h:n ∉ G9 l):c06 l n=(o9,false):=by
 unfold c06
 rw [if_neg (fun k=>h (b4p.1 k))]
theorem a3Z {l:List o7} (hs:Srt l) {a:o7} (ha:a ∈ l):b6f l a.1=a.2.2:=by unfold b6f;rw [d3H hs ha]
theorem b19 {l:List o7} {n:List UInt8} (h:n ∉ G9 l):b6f l n=0:=by unfold b6f;rw [d3I h];rfl
theorem c1x {l:List o7} {n:List UInt8} (h:n ∈ G9 l):∃ (j:Nat) (hj:j < l.length),l[j].1=n:=by
 obtain⟨a,ha,rfl⟩:=List.mem_map.1 h
 obtain⟨j,hj,rfl⟩:=List.getElem_of_mem ha
 exact⟨j,hj,rfl⟩
theorem d06 {l:List o7} {x:TR} (hs:Srt l) (n:List UInt8):b6f (V2 l x) n=b6f l n:=by
 have hbs:Srt (V2 l x):=b9U hs
 by_cases hf:E9 l x.1 < l.length
 ·by_cases hn:n ∈ G9 l
  ·obtain⟨j,hj,rfl⟩:=c1x hn
   have hm:l[j] ∈ l:=List.getElem_mem hj
   rw [a3Z hs hm]
   by_cases hij:E9 l x.1=j
   ·have hm2:(l[j].1,B1 (l[j].2.1 + x.2),l[j].2.2) ∈ V2 l x:=by
     rw [b0p hf]
     simp only [hij]
     exact List.mem_set hj _
    exact(a3Z hbs hm2 :)
   ·have hm2:l[j] ∈ V2 l x:=by
     rw [b0p hf,List.mem_iff_getElem]
     exact⟨j,by rw [List.length_set];exact hj,List.getElem_set_ne hij _⟩
    exact a3Z hbs hm2
  ·rw [b19 hn,b19]
   intro h
   rcases(a5l l x n).1 h with rfl | h
   ·exact hn (a2Y.1 hf)
   ·exact hn h
 ·have hx:x.1 ∉ G9 l:=fun h=>hf (a2Y.2 h)
  have hin:∀ {a:o7},a ∈ V2 l x ↔ a ∈ (x.1,B1 (0 + x.2),(0:Int)) :: l:=fun {a}=>by rw [b15 hf];exact(a8W _ _).mem_iff
  by_cases hn:n ∈ G9 l
  ·obtain⟨a,ha,rfl⟩:=List.mem_map.1 hn
   rw [a3Z hs ha]
   exact a3Z hbs (hin.2 (List.mem_cons_of_mem _ ha))
  ·rw [b19 hn]
   by_cases e:n=x.1
   ·rw [e]
    exact a3Z hbs (hin.2 (List.mem_cons_self ..))
   ·refine b19 fun h=>?_
    rcases(a5l l x n).1 h with h | h
    ·exact e h
    ·exact hn h
theorem d07 {L:List TR}:∀ {l:List o7},Srt l->∀ n,b6f (L.foldl V2 l) n=b6f l n:=by
 induction L with
 | nil=>intro l _ n;rfl
 | cons x L ih=>intro l hs n;rw [List.foldl_cons,ih (b9U hs),d06 hs]
theorem c5W {L:List TR}:∀ {l:List o7} {n:List UInt8},n ∈ G9 l->n ∈ G9 (L.foldl V2 l):=by
 induction L with
 | nil=>intro l n h;exact h
 | cons x L ih=>intro l n h;exact ih ((a5l l x n).2 (.inr h))
theorem d08 {l:List o7} {s:List UInt8} {c:Int} (hs:Srt l) (hf:E9 l s < l.length) (n:List UInt8):b6f (a3m l s c) n=if n=s then B1 (b6f l s + 1) else b6f l n:=by
 have hps:Srt (a3m l s c):=b7f hs
 have hss:b6f l s=l[E9 l s].2.2:=by
  have:=a3Z hs (List.getElem_mem hf)
  rw [a2S hf] at this
  exact this
 by_cases e:n=s
 ·rw [if_pos e,e,hss]
  have hm:(l[E9 l s].1,B1 (l[E9 l s].2.1 - c),B1 (l[E9 l s].2.2 + 1)) ∈ a3m l s c:=by
   rw [a6F hf]
   exact List.mem_set hf _
  have:=a3Z hps hm
  rw [a2S hf] at this
  exact this
 ·rw [if_neg e]
  by_cases hn:n ∈ G9 l
  ·obtain⟨j,hj,rfl⟩:=c1x hn
   rw [a3Z hs (List.getElem_mem hj)]
   have hij:E9 l s ≠ j:=fun k=>e (by rw [<-a2S hf];simp only [k])
   have hm:l[j] ∈ a3m l s c:=by
    rw [a6F hf,List.mem_iff_getElem]
    exact⟨j,by rw [List.length_set];exact hj,List.getElem_set_ne hij _⟩
   exact a3Z hps hm
  ·rw [b19 hn,b19]
   rw [b17 hf]
   exact hn
def b6g (g:o6):Prop:=c6h 256 g/\d7d g
theorem b6g.bal {g:o6} (h:b6g g):b3p g.1:=fun a ha=>(h.1.2.1 a ha).2.1
theorem b6g.srt {g:o6} (h:b6g g):Srt g.1:=h.2.2.2.1
theorem b6g.b {g:o6} (h:b6g g):b4U g:=h.1.b (by omega)
theorem b6g.val {g:o6} (h:b6g g):b9D g=0:=b9J.2 h.2
theorem b6g.lt {g:o6} (h:b6g g):g.2 + a8y g.1 < 18446744073709551616:=d3G.1 h.2.2.2.2
theorem d09 {g:o6} {t:A7} (h:b6g g) (ht:TxS t) (hf:E9 g.1 t.1 < g.1.length) (hc:(Z0 t).2=true) (hb:(Z0 t).1<=(g.1.getD (E9 g.1 t.1) o9).2.1):(b4v g t (Z0 t).1).2 + a8y (b4v g t (Z0 t).1).1=g.2 + a8y g.1:=by
 obtain⟨hc1,hc2⟩:=d05 hc
 rw [D8 hf] at hb
 have hlt:=h.lt
 have hL:0<=(t.2.2.2.2.2.map fun x=>x.2).sum:=b7d fun y hy=>by obtain⟨z,hz,rfl⟩:=List.mem_map.1 hy;exact(ht.2.2.2.2.2.2 z hz).2.1
 have hfee:=ht.2.2.2.1.1
 have h1:=d2d h.bal (List.getElem_mem hf)
 have h2:=h.bal _ (List.getElem_mem hf)
 have h3:=h.1.2.2.1
 have h4:=d2e h.bal
 have h5:=h2.1
 have hpb:a8y (a3m g.1 t.1 (Z0 t).1)=a8y g.1 - (Z0 t).1:=by
  rw [a6F hf,c8K hf]
  dsimp only
  rw [K9 (by omega) (by omega)]
  omega
 have hpu:b3p (a3m g.1 t.1 (Z0 t).1):=by
  rw [a6F hf]
  intro a ha
  rcases List.mem_or_eq_of_mem_set ha with ha | rfl
  ·exact h.bal a ha
  ·exact I7 _
 have hlt2:a8y (a3m g.1 t.1 (Z0 t).1) + (t.2.2.2.2.2.map fun x=>x.2).sum < 18446744073709551616:=by omega
 have k1:a8y (t.2.2.2.2.2.foldl V2 (a3m g.1 t.1 (Z0 t).1))=a8y (a3m g.1 t.1 (Z0 t).1) + (t.2.2.2.2.2.map fun x=>x.2).sum:=(d04 (L:=t.2.2.2.2.2) hpu (fun x hx=>(ht.2.2.2.2.2.2 x hx).2.1) hlt2).1
 show B1 (g.2 + t.2.2.2.1) + a8y (t.2.2.2.2.2.foldl V2 (a3m g.1 t.1 (Z0 t).1))=_
 rw [k1,hpb,K9 (by omega) (by omega)]
 omega
theorem b1y {g:o6} {p:Int} {raw:List UInt8} (h:b6g g):b6g (V3 g p raw).1/\(V3 g p raw).1.2 + a8y (V3 g p raw).1.1=g.2 + a8y g.1/\(∀ n ∈ G9 g.1,n ∈ G9 (V3 g p raw).1.1)/\
  (((V3 g p raw).2.1 ≠ 0/\(V3 g p raw).1=g)\/((V3 g p raw).2.1=0/\(a2X raw).2=0/\b7R g p (a2X raw).1 ((raw.length:Nat):Int)=0/\(V3 g p raw).2.2.1=(a2X raw).1.1/\(a2X raw).1.1 ∈ G9 g.1/\b6f g.1 (a2X raw).1.1=(a2X raw).1.2.1/\(a2X raw).1.2.1 + 1 < 18446744073709551616/\
   ∀ n,b6f (V3 g p raw).1.1 n=if n=(a2X raw).1.1 then b6f g.1 n + 1 else b6f g.1 n)):=by
 have hled:=d01 (p:=p) (raw:=raw) h.1
 rcases b18 g p raw with⟨e,hz⟩ | ⟨hv,hd,hc,e,hz,hs⟩
 ·rw [e]
  exact⟨h,rfl,fun _ h=>h,.inl ⟨hz,rfl⟩⟩
 ·rw [e] at hled ⊢
  obtain⟨k1,k2,k3,k4,k5,k6⟩:=d2c hc
  have hts:=b8E raw
  have htot:=d09 h hts k1 k4 k5
  have hps:Srt (a3m g.1 (a2X raw).1.1 (Z0 (a2X raw).1).1):=b7f h.srt
  have hsq:b6f g.1 (a2X raw).1.1=(a2X raw).1.2.1:=by
   have:=a3Z h.srt (List.getElem_mem k1)
   rw [a2S k1] at this
   rw [this,<-k2,D8 k1]
  have hu:=hts.2.1
  have hu1:=hu.1
  have hu2:=hu.2
  refine⟨⟨hled,hled.1,fun a ha=>(hled.2.1 a ha).1.1,c4E hps,?_⟩,htot,fun n hn=>c5W ((b17 k1).symm ▸ hn),.inr ⟨hz,hd,hc,hs,a2Y.1 k1,hsq,by omega,fun n=>?_⟩⟩
  ·rw [htot];exact h.2.2.2.2
  ·show b6f ((a2X raw).1.2.2.2.2.2.foldl V2 _) n=_
   rw [d07 hps,d08 h.srt k1]
   by_cases en:n=(a2X raw).1.1
   ·rw [if_pos en,if_pos en,en,hsq,K9 (by omega) (by omega)]
   ·rw [if_neg en,if_neg en]
theorem c8L:∀ {l:List o7} {seen:List (List UInt8)},d0C seen l=0->(G9 l).Nodup/\∀ n ∈ G9 l,n ∉ seen
 | [],_,_=>⟨List.nodup_nil,fun n h=>by cases h⟩
 | a :: l,seen,h=>by
  rw [c1a] at h
  split at h
  ·cases h
  ·by_cases hm:a.1 ∈ seen
   ·rw [if_pos hm] at h;cases h
   ·rw [if_neg hm] at h
    obtain⟨h1,h2⟩:=c8L h
    refine⟨List.nodup_cons.2 ⟨fun k=>h2 _ k (by simp),h1⟩,fun n hn=>?_⟩
    rcases List.mem_cons.1 hn with rfl | hn
    ·exact hm
    ·exact fun k=>h2 n hn (by simp [k])
theorem d1a {l:List o7} (h:(G9 l).Nodup):Srt (c2T l):=by
 have hn:(G9 (c2T l)).Nodup:=((a9S l).map _).nodup_iff.2 h
 unfold G9 at hn
 rw [List.nodup_iff_pairwise_ne,List.pairwise_map] at hn
 refine((c8f l).and hn).imp fun {x y} hxy=>?_
 rcases b5B x.1 y.1 with e | e | e
 ·exact e
 ·exact absurd e hxy.2
 ·have:=hxy.1
  unfold less at this
  rw [e] at this;cases this
theorem c28:b6g ([],(0:Int)):=⟨d8q,by simp,fun a ha=>(by cases ha),List.Pairwise.nil,by decide⟩
theorem d7j {l:List o7} (h:d0N l):b6g (d37 l).1:=by
 have ha:=(d7i h).mono (m:=256) (by omega)
 unfold d37 at ha ⊢
 split
 ·exact c28
 ·rename_i hl
  rw [if_neg hl] at ha
  split
  ·rename_i he
   rw [if_pos he] at ha
   split
   ·rename_i hsum
    rw [if_pos hsum] at ha
    refine⟨ha,ha.1,fun a k=>(ha.2.1 a k).1.1,d1a (c8L he).1,?_⟩
    show(b4I (0 + a8y (c2T l))).2=true
    rw [b7g (a9S l)]
    exact hsum
   ·exact c28
  ·exact c28
end Go.Proofs.YtbipjlehhlkghaaGreatDoor.Am
namespace Go.Proofs.YtbipjlehhlkghaaGreatDoor.Am
open Go
theorem a7R {x n:Int} (hn:1<=n) (hn2:n<=4611686018427387904):Ok (H3 x n) fun r=>0<=r/\r < n/\r=x % n:=by
 have h1:=Int.tmod_eq_emod (a:=x) (b:=n)
 have h2:=Int.emod_nonneg x (show n ≠ 0 by omega)
 have h3:=Int.emod_lt_of_pos x (show 0 < n by omega)
 have h4:((n.natAbs:Nat):Int)=n:=by omega
 simp only [H3,C0,E5,A3,decide_eq_true_eq,decide_eq_false_iff_not,Bool.not_eq_true']
 refine⟨by omega,fun h=>?_,fun h=>?_⟩
 ·rw [E0]
  ·split at h1 <;> omega
  ·split at h1 <;> omega
  ·split at h1 <;> omega
 ·split at h1 <;> omega
end Go.Proofs.YtbipjlehhlkghaaGreatDoor.Am
namespace Go.Proofs.YtbipjlehhlkghaaGreatDoor.Am
open Go
theorem d3J {s:A0} {n:Int} (hn:1<=n) (hn2:n<=4611686018427387904) (h0:0<=s.2) (h1:s.2 < 4611686018427387904):Ok (A8 s n) fun r=>r.1.1=s.1/\r.1.2=s.2 + 1/\0<=r.2/\r.2 < n:=by
 have hw:A5 (s.2 + 1)=s.2 + 1:=E0 (by omega) (by omega)
 have hp:∀ x,Ok (K5 n x s) fun r=>r.1.1=s.1/\r.1.2=s.2 + 1/\0<=r.2/\r.2 < n:=fun x=>by
  unfold K5
  rw [B6]
  refine(a7R hn hn2).mono fun r hr=>?_
  rw [A3,hw]
  exact⟨rfl,rfl,hr.1,hr.2.1⟩
 simp only [A8,C0,E5,decide_eq_true_eq,decide_eq_false_iff_not]
 exact⟨fun h=>⟨⟨h0,h⟩,hp _⟩,fun _=>hp _⟩
def a9l (L:List Int) (k:Int) (s:A0):Prop:=s.1=L/\0<=s.2/\s.2<=k
theorem a2b {L:List Int} {k:Int} {s:A0} {n:Int} (hs:a9l L k s) (hn:1<=n) (hn2:n<=4611686018427387904) (hk:k < 4611686018427387904):Ok (A8 s n) fun r=>a9l L (k + 1) r.1/\s.2 < r.1.2/\0<=r.2/\r.2 < n:=by
 obtain⟨h1,h2,h3⟩:=hs
 refine(d3J hn hn2 h2 (by omega)).mono fun r hr=>?_
 obtain⟨a1,a2,a3,a4⟩:=hr
 exact⟨⟨a1.trans h1,by omega,by omega⟩,by omega,a3,a4⟩
theorem a9l.le {L:List Int} {k m:Int} {s:A0} (h:a9l L k s) (hkm:k<=m):a9l L m s:=⟨h.1,h.2.1,by have:=h.2.2;omega⟩
def d5X (L:List Int):A0:=(L,0)
theorem c8M (L:List Int):a3c L=some (d5X L):=rfl
theorem d5Y (L:List Int):a9l L 0 (d5X L):=⟨rfl,Int.le_refl _,Int.le_refl _⟩
end Go.Proofs.YtbipjlehhlkghaaGreatDoor.Am
namespace Go.Proofs.YtbipjlehhlkghaaGreatDoor.Am
open Go
theorem d2f {L:List Int} {k:Int} {s:A0} (hs:a9l L k s) (hk:k < 1000000000000) (h0:0<=k):Ok (a1e s) fun r=>a9l L (k + 1) r.1/\s.2 < r.1.2/\c1m r.2:=by
 unfold a1e
 rw [B6]
 refine(a2b hs (n:=6) (by omega) (by omega) (by omega)).mono fun r h=>?_
 obtain⟨a1,a2,a3,a4⟩:=h
 simp only [E5,A3,decide_eq_true_eq]
 refine⟨⟨a3,a4⟩,by omega,a1,a2,?_⟩
 obtain⟨n,hn⟩:∃ n:Nat,Int.toNat r.2=n:=⟨_,rfl⟩
 have hn6:n < 6:=by omega
 rw [hn]
 match n,hn6 with
 | 0,_ | 1,_ | 2,_ | 3,_ | 4,_ | 5,_=>exact⟨by decide,by decide⟩
theorem c1y {l:List o7} {a:o7} {n:Nat} (h:l.length<=n/\∀ a ∈ l,c2Y a) (ha:c2Y a):(l ++ [a]).length<=n + 1/\∀ x ∈ l ++ [a],c2Y x:=by
 refine⟨by simp;omega,fun x hx=>?_⟩
 rcases List.mem_append.1 hx with hx | hx
 ·exact h.2 x hx
 ·simp only [List.mem_singleton] at hx;subst hx;exact ha
theorem c4K (n:Nat) (h:n < 4):c1m (List.getD [[(97:UInt8),(110:UInt8),(110:UInt8)],[(98:UInt8),(111:UInt8),(98:UInt8)],[(101:UInt8),(118:UInt8),(101:UInt8)],[(122:UInt8),(111:UInt8),(101:UInt8)]] n []):=by
 match n,h with
 | 0,_ | 1,_ | 2,_ | 3,_=>exact⟨by decide,by decide⟩
theorem c8N (n:Nat) (h:n < 5):b13 (List.getD [100000,5000,700,0,1099511627776] n (0:Int)):=by
 match n,h with
 | 0,_ | 1,_ | 2,_ | 3,_ | 4,_=>exact⟨by decide,by decide⟩
theorem d3K (n:Nat) (h:n < 3):b13 (List.getD [5,18446744073709551615,18446744073709551614] n (0:Int)):=by
 match n,h with
 | 0,_ | 1,_ | 2,_=>exact⟨by decide,by decide⟩
theorem c5X {L:List Int} {k:Int} {s:A0} (hs:a9l L k s) (hk:k < 1000000000000) (h0:0<=k):Ok (a0L s) fun r=>a9l L (k + 13) r.1/\s.2 < r.1.2/\d0N r.2:=by
 unfold a0L
 rw [B6]
 refine(a2b hs (n:=4) (by omega) (by omega) (by omega)).mono fun r h=>?_
 obtain⟨a1,a2,a3,a4⟩:=h
 unfold a33
 refine b0m (S:=Int × A0 × List o7) (inv:=fun v=>∃ n:Nat,n<=4/\ -1<=v.1/\v.1 + n<=3/\a9l L (k + 1 + 3 * n) v.2.1/\s.2 < v.2.1.2/\v.2.2.length<=n/\∀ a ∈ v.2.2,c2Y a) (m:=fun v=>(v.1 + 1).toNat) ?_ ⟨0,by omega,by simp only;omega,by simp only;omega,a1.le (by omega),a2,by simp,by simp⟩ (by simp only;omega)
 rintro⟨i,b,l⟩ ⟨n,hn,hi,hin,hb,hlt,hl,hall⟩
 simp only at hi hin hb hlt hl hall
 simp only [a1w,C0,E5,B6,A3,B4,B8,decide_eq_true_eq,decide_eq_false_iff_not]
 refine⟨fun hi0=>⟨by omega,by omega,?_⟩,fun _=>⟨hb.le (by omega),hlt,by omega,hall⟩⟩
 have hw:A5 (i - 1)=i - 1:=by rw [E0] <;> omega
 refine(a2b hb (n:=5) (by omega) (by omega) (by omega)).mono fun r2 h2=>?_
 obtain⟨b1,b2,b3,b4⟩:=h2
 refine⟨⟨b3,b4⟩,by omega,?_⟩
 refine(a2b b1 (n:=6) (by omega) (by omega) (by omega)).mono fun r3 h3=>?_
 obtain⟨c1,c2,c3,c4⟩:=h3
 refine⟨fun _=>?_,fun _=>⟨⟨by unfold LIM;omega,by unfold LEN;omega⟩,?_⟩⟩
 ·refine(a2b c1 (n:=3) (by omega) (by omega) (by omega)).mono fun r4 h4=>?_
  obtain⟨d1,d2,d3,d4⟩:=h4
  refine⟨⟨d3,d4⟩,by omega,⟨by unfold LIM;omega,by unfold LEN;omega⟩,?_⟩
  rw [hw]
  have q:=c1y (n:=n) ⟨hl,hall⟩ (a:=(_,_,_)) ⟨c4K (Int.toNat i) (by omega),c8N (Int.toNat r2.2) (by omega),d3K (Int.toNat r4.2) (by omega)⟩
  exact⟨⟨n + 1,by omega,by omega,by omega,d1.le (by omega),by omega,q.1,q.2⟩,by omega⟩
 ·rw [hw]
  have q:=c1y (n:=n) ⟨hl,hall⟩ (a:=(_,_,_)) ⟨c4K (Int.toNat i) (by omega),c8N (Int.toNat r2.2) (by omega),(⟨by decide,by decide⟩:b13 0)⟩
  exact⟨⟨n + 1,by omega,by omega,by omega,c1.le (by omega),by omega,q.1,q.2⟩,by omega⟩
end Go.Proofs.YtbipjlehhlkghaaGreatDoor.Am
