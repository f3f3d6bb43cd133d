/- Texts laid together: PDec2, PDecT. No conditions. -/
import Derived.Test.YtbipjlehhlkghaaGreatDoorQAM
namespace Go.Proofs.YtbipjlehhlkghaaGreatDoor.Am
open Go
theorem d0U (l:List Fld) (hl:l.length<=2000) (hb:∀ f ∈ l,f.byt.length<=10000):Ok (a2s (l.map toF)) fun r=>r.2=l.all (fun f=>decide (c24 f))/\(r.2=true->r.1=b8D l):=by
 have hm:(l.map toF).length=l.length:=List.length_map ..
 unfold a2s a5w
 refine E7 (l.map toF) (fun i (t:A7)=>(l.map toF,(((l.map toF).length:Nat):Int),((i:Nat):Int),([]:List UInt8),(0:Int),(0:Int),(0:Int),([]:List UInt8),t.1,t.2.1,t.2.2.1,t.2.2.2.1,t.2.2.2.2.1,t.2.2.2.2.2)) (fun i t=>(∀ j (hj:j < l.length),j < i->c24 l[j])/\(l.drop i).foldl b1v t=b8D l/\t.2.2.2.2.2.length<=i) (fun i t hi hv=>?_) (fun t hv=>?_) (b0:=a4A) ⟨fun j hj h=>by omega,rfl,by simp [a4A]⟩ (by omega)
 ·obtain⟨hv1,hv2,hlt⟩:=hv
  have hi':i < l.length:=by omega
  have q3:List.getD (l.map toF) i B7=toF l[i]:=by rw [D8 hi,List.getElem_map]
  rw [List.drop_eq_getElem_cons hi',List.foldl_cons] at hv2
  have htr:=c1r (hb _ (List.getElem_mem hi'))
  have hfi:(l.drop (i + 1)).foldl b1v (b1v t l[i])=b8D l:=hv2
  clear hv2
  have no:¬ c24 l[i]->∀ y:A7,(false=l.all (fun f=>decide (c24 f))/\(false=true->y=b8D l)):=fun hn y=>by
   rw [d2a hi' (by simpa using hn)];exact⟨rfl,fun h=>by cases h⟩
  have yes:c24 l[i]->(b1v t l[i]).2.2.2.2.2.length<=i + 1->((∀ j (hj:j < l.length),j < i + 1->c24 l[j])/\(l.drop (i + 1)).foldl b1v (b1v t l[i])=b8D l/\(b1v t l[i]).2.2.2.2.2.length<=i + 1):=fun ho h=>by
   refine⟨fun j hj hlt=>?_,hfi,h⟩
   by_cases e:j=i
   ·subst e;exact ho
   ·exact hv1 j hj (by omega)
  generalize hf:l[i]=f at *
  have qn:(toF f).1=f.num:=rfl
  have qk:(toF f).2.1=f.kind:=rfl
  have qb:(toF f).2.2.2=f.byt:=rfl
  have qv:(toF f).2.2.1=((f.val:Nat):Int):=rfl
  obtain⟨G,hG⟩:∃ G:Option ((List A1 × Int × Int × List UInt8 × Int × Int × Int × List UInt8 × List UInt8 × Int × Int × Int × List UInt8 × List o8) ⊕ (A7 × Bool))->Prop,G=fun o=>Ok o (Nxt (fun r:A7 × Bool=>r.2=l.all (fun f=>decide (c24 f))/\(r.2=true->r.1=b8D l)) fun z=>∃ b',z=(l.map toF,(((l.map toF).length:Nat):Int),((i + 1:Nat):Int),([]:List UInt8),(0:Int),(0:Int),(0:Int),([]:List UInt8),b'.1,b'.2.1,b'.2.2.1,b'.2.2.2.1,b'.2.2.2.2.1,b'.2.2.2.2.2)/\(∀ j (hj:j < l.length),j < i + 1->c24 l[j])/\(l.drop (i + 1)).foldl b1v b'=b8D l/\b'.2.2.2.2.2.length<=i + 1):=⟨_,rfl⟩
  have gno:¬ c24 f->∀ y:A7,G (some (.inr (y,false))):=fun hn y=>by rw [hG];exact⟨_,rfl,no hn y⟩
  have gyes:c24 f->∀ y:A7,y=b1v t f->y.2.2.2.2.2.length<=i + 1->G (some (.inl (l.map toF,(((l.map toF).length:Nat):Int),((i + 1:Nat):Int),([]:List UInt8),(0:Int),(0:Int),(0:Int),([]:List UInt8),y.1,y.2.1,y.2.2.1,y.2.2.2.1,y.2.2.2.2.1,y.2.2.2.2.2))):=fun ho y hy hle=>by
   subst hy
   rw [hG]
   exact⟨_,rfl,b1v t f,rfl,yes ho hle⟩
  have hw:=E2 (i:=i) (by omega)
  have c7:∀ v:Bool,(v=true ↔ (f.num=6/\f.kind=2))->¬ (f.num=1/\f.kind=2)->¬ (f.num=2/\f.kind=0)->¬ (f.num=3/\f.kind=0)->¬ (f.num=4/\f.kind=0)->¬ (f.num=5/\f.kind=2)->G (S0 (l.map toF) (((l.map toF).length:Nat):Int) ((i:Nat):Int) v [] 0 0 0 [] t.1 t.2.1 t.2.2.1 t.2.2.2.1 t.2.2.2.2.1 (toF f) t.2.2.2.2.2):=by
   intro v hv n1 n2 n3 n4 n5
   unfold S0
   cases v with
   | false=>
    rw [C6]
    refine gno ?_ _
    have:¬ (f.num=6/\f.kind=2):=fun h=>by have:=hv.2 h;cases this
    rintro(h | h | h | h | h | ⟨h,h',_⟩)
    ·exact n1 h
    ·exact n2 h
    ·exact n3 h
    ·exact n4 h
    ·exact n5 h
    ·exact this ⟨h,h'⟩
   | true=>
    have h6:=hv.1 rfl
    rw [E4,qb]
    obtain⟨r,hr,r1,r2⟩:=htr
    rw [hr,Option.bind_some,hw]
    cases hb2:b7Q f.byt with
    | false=>
     rw [r1,hb2]
     refine gno ?_ t
     rintro(h | h | h | h | h | ⟨h,h',h''⟩)
     ·exact n1 h
     ·exact n2 h
     ·exact n3 h
     ·exact n4 h
     ·exact n5 h
     ·rw [hb2] at h'';cases h''
    | true=>
     rw [r1,hb2,r2 hb2,Bool.not_true,C6]
     have c:decide ((t.2.2.2.2.2.length + 1) * 24<=LIM/\t.2.2.2.2.2.length + 1<=LEN)=true:=decide_eq_true ⟨by unfold LIM;omega,by unfold LEN;omega⟩
     rw [c,C4]
     refine gyes (.inr (.inr (.inr (.inr (.inr ⟨h6.1,h6.2,hb2⟩))))) (t.1,t.2.1,t.2.2.1,t.2.2.2.1,t.2.2.2.2.1,t.2.2.2.2.2 ++ [b5P f.byt]) ?_ ?_
     ·unfold b1v
      rw [if_neg (by omega),if_neg (by omega),if_neg (by omega),if_neg (by omega),if_neg (by omega),if_pos h6.1]
     ·simp only [List.length_append,List.length_cons,List.length_nil];omega
  have c6:∀ v:Bool,(v=true ↔ (f.num=5/\f.kind=2))->¬ (f.num=1/\f.kind=2)->¬ (f.num=2/\f.kind=0)->¬ (f.num=3/\f.kind=0)->¬ (f.num=4/\f.kind=0)->G (S1 (l.map toF) (((l.map toF).length:Nat):Int) ((i:Nat):Int) v [] 0 0 0 [] t.1 t.2.1 t.2.2.1 t.2.2.2.1 t.2.2.2.2.1 (toF f) t.2.2.2.2.2):=by
   intro v hv n1 n2 n3 n4
   unfold S1
   rw [qn,qk,qb,hw]
   cases v with
   | true=>
    have h6:=hv.1 rfl
    refine gyes (.inr (.inr (.inr (.inr (.inl h6))))) (t.1,t.2.1,t.2.2.1,t.2.2.2.1,f.byt,t.2.2.2.2.2) ?_ (Nat.le_succ_of_le hlt)
    unfold b1v
    rw [if_neg (by omega),if_neg (by omega),if_neg (by omega),if_neg (by omega),if_pos h6.1]
   | false=>
    have n5:¬ (f.num=5/\f.kind=2):=fun h=>by have:=hv.2 h;cases this
    rw [C6]
    by_cases h:f.num=6
    ·rw [decide_eq_true h,E4]
     exact c7 _ (by rw [decide_eq_true_eq];exact⟨fun q=>⟨h,q⟩,fun q=>q.2⟩) n1 n2 n3 n4 n5
    ·rw [decide_eq_false h,C6]
     exact c7 _ ⟨(fun q=>by cases q),fun q=>absurd q.1 h⟩ n1 n2 n3 n4 n5
  have c5:∀ v:Bool,(v=true ↔ (f.num=4/\f.kind=0))->¬ (f.num=1/\f.kind=2)->¬ (f.num=2/\f.kind=0)->¬ (f.num=3/\f.kind=0)->G (S2 (l.map toF) (((l.map toF).length:Nat):Int) ((i:Nat):Int) v [] 0 0 0 [] t.1 t.2.1 t.2.2.1 t.2.2.2.1 t.2.2.2.2.1 (toF f) t.2.2.2.2.2):=by
   intro v hv n1 n2 n3
   unfold S2
   rw [qn,qk,qv,hw]
   cases v with
   | true=>
    have h6:=hv.1 rfl
    refine gyes (.inr (.inr (.inr (.inl h6)))) (t.1,t.2.1,t.2.2.1,((f.val:Nat):Int),t.2.2.2.2.1,t.2.2.2.2.2) ?_ (Nat.le_succ_of_le hlt)
    unfold b1v
    rw [if_neg (by omega),if_neg (by omega),if_neg (by omega),if_pos h6.1]
   | false=>
    have n4:¬ (f.num=4/\f.kind=0):=fun h=>by have:=hv.2 h;cases this
    rw [C6]
    by_cases h:f.num=5
    ·rw [decide_eq_true h,E4]
     exact c6 _ (by rw [decide_eq_true_eq];exact⟨fun q=>⟨h,q⟩,fun q=>q.2⟩) n1 n2 n3 n4
    ·rw [decide_eq_false h,C6]
     exact c6 _ ⟨(fun q=>by cases q),fun q=>absurd q.1 h⟩ n1 n2 n3 n4
  have c4:∀ v:Bool,(v=true ↔ (f.num=3/\f.kind=0))->¬ (f.num=1/\f.kind=2)->¬ (f.num=2/\f.kind=0)->G (S3 (l.map toF) (((l.map toF).length:Nat):Int) ((i:Nat):Int) v [] 0 0 0 [] t.1 t.2.1 t.2.2.1 t.2.2.2.1 t.2.2.2.2.1 (toF f) t.2.2.2.2.2):=by
   intro v hv n1 n2
   unfold S3
   rw [qn,qk,qv,hw]
   cases v with
   | true=>
    have h6:=hv.1 rfl
    refine gyes (.inr (.inr (.inl h6))) (t.1,t.2.1,((f.val:Nat):Int),t.2.2.2.1,t.2.2.2.2.1,t.2.2.2.2.2) ?_ (Nat.le_succ_of_le hlt)
    unfold b1v
    rw [if_neg (by omega),if_neg (by omega),if_pos h6.1]
   | false=>
    have n3:¬ (f.num=3/\f.kind=0):=fun h=>by have:=hv.2 h;cases this
    rw [C6]
    by_cases h:f.num=4
    ·rw [decide_eq_true h,E4]
     exact c5 _ (by rw [decide_eq_true_eq];exact⟨fun q=>⟨h,q⟩,fun q=>q.2⟩) n1 n2 n3
    ·rw [decide_eq_false h,C6]
     exact c5 _ ⟨(fun q=>by cases q),fun q=>absurd q.1 h⟩ n1 n2 n3
  have c3:∀ v:Bool,(v=true ↔ (f.num=2/\f.kind=0))->¬ (f.num=1/\f.kind=2)->G (S4 (l.map toF) (((l.map toF).length:Nat):Int) ((i:Nat):Int) v [] 0 0 0 [] t.1 t.2.1 t.2.2.1 t.2.2.2.1 t.2.2.2.2.1 (toF f) t.2.2.2.2.2):=by
   intro v hv n1
   unfold S4
   rw [qn,qk,qv,hw]
   cases v with
   | true=>
    have h6:=hv.1 rfl
    refine gyes (.inr (.inl h6)) (t.1,((f.val:Nat):Int),t.2.2.1,t.2.2.2.1,t.2.2.2.2.1,t.2.2.2.2.2) ?_ (Nat.le_succ_of_le hlt)
    unfold b1v
    rw [if_neg (by omega),if_pos h6.1]
   | false=>
    have n2:¬ (f.num=2/\f.kind=0):=fun h=>by have:=hv.2 h;cases this
    rw [C6]
    by_cases h:f.num=3
    ·rw [decide_eq_true h,E4]
     exact c4 _ (by rw [decide_eq_true_eq];exact⟨fun q=>⟨h,q⟩,fun q=>q.2⟩) n1 n2
    ·rw [decide_eq_false h,C6]
     exact c4 _ ⟨(fun q=>by cases q),fun q=>absurd q.1 h⟩ n1 n2
  have c2:∀ v:Bool,(v=true ↔ (f.num=1/\f.kind=2))->G (S5 (l.map toF) (((l.map toF).length:Nat):Int) ((i:Nat):Int) v [] 0 0 0 [] t.1 t.2.1 t.2.2.1 t.2.2.2.1 t.2.2.2.2.1 (toF f) t.2.2.2.2.2):=by
   intro v hv
   unfold S5
   rw [qn,qk,qb,hw]
   cases v with
   | true=>
    have h6:=hv.1 rfl
    refine gyes (.inl h6) (f.byt,t.2.1,t.2.2.1,t.2.2.2.1,t.2.2.2.2.1,t.2.2.2.2.2) ?_ (Nat.le_succ_of_le hlt)
    unfold b1v
    rw [if_pos h6.1]
   | false=>
    have n1:¬ (f.num=1/\f.kind=2):=fun h=>by have:=hv.2 h;cases this
    rw [C6]
    by_cases h:f.num=2
    ·rw [decide_eq_true h,E4]
     exact c3 _ (by rw [decide_eq_true_eq];exact⟨fun q=>⟨h,q⟩,fun q=>q.2⟩) n1
    ·rw [decide_eq_false h,C6]
     exact c3 _ ⟨(fun q=>by cases q),fun q=>absurd q.1 h⟩ n1
  have fin:G (S6 (l.map toF) (((l.map toF).length:Nat):Int) ((i:Nat):Int) [] 0 0 0 [] t.1 t.2.1 t.2.2.1 t.2.2.2.1 t.2.2.2.2.1 t.2.2.2.2.2):=by
   unfold S6
   rw [decide_eq_true (show((i:Nat):Int) < (((l.map toF).length:Nat):Int) by omega),E4,decide_eq_true (show(0:Int)<=((i:Nat):Int)/\((i:Nat):Int) < (((l.map toF).length:Nat):Int) by omega),C4,Int.toNat_natCast,q3,qn,qk]
   by_cases h:f.num=1
   ·rw [decide_eq_true h,E4]
    exact c2 _ (by rw [decide_eq_true_eq];exact⟨fun q=>⟨h,q⟩,fun q=>q.2⟩)
   ·rw [decide_eq_false h,C6]
    exact c2 _ ⟨(fun q=>by cases q),fun q=>absurd q.1 h⟩
  rw [hG] at fin
  exact fin
 ·obtain⟨hv1,hv2,_⟩:=hv
  rw [hm,List.drop_length] at hv2
  have hx:t=b8D l:=hv2
  simp only [S6,C0,E5,A3,B8,decide_eq_true_eq,decide_eq_false_iff_not,Int.toNat_natCast]
  refine⟨fun hc=>absurd hc (by omega),fun _=>⟨?_,fun _=>hx⟩⟩
  exact(c8z fun j hj=>by simpa using hv1 j hj (by omega)).symm
theorem d0V (x:o8):(trF x).all (fun f=>decide (c5Q f))=true:=by
 rw [List.all_eq_true]
 intro f hf
 unfold trF b0R a9k at hf
 rw [decide_eq_true_eq]
 rcases List.mem_append.1 hf with hf | hf
 ·split at hf
  ·cases hf
  ·simp only [List.mem_singleton] at hf;subst hf;exact .inl ⟨rfl,rfl⟩
 ·split at hf
  ·cases hf
  ·simp only [List.mem_singleton] at hf;subst hf;exact .inr ⟨rfl,rfl⟩
theorem c8A {x:o8} (h:TrS x):b7Q (a3l (trF x))=true:=by
 have hs:=c8v h
 have hl:(trF x).length<=2:=by unfold trF;rw [List.length_append];have:=a7P 1 x.1;have:=a8Z 2 x.2;omega
 have hf:=b7h (trF x) (by omega) (fun f hf=>⟨(hs f hf).1,(hs f hf).2.1,by have:=(hs f hf).2.2;unfold U64;omega⟩)
 unfold b7Q
 rw [c8x h,hf]
 simp [d0V x]
theorem c4A {n:Int} {s:List UInt8} (h:n=1\/n=5):∀ f ∈ b0R n s,c24 f:=by
 intro f hf
 unfold b0R at hf
 split at hf
 ·cases hf
 ·simp only [List.mem_singleton] at hf;subst hf
  rcases h with rfl | rfl
  ·exact .inl ⟨rfl,rfl⟩
  ·exact .inr (.inr (.inr (.inr (.inl ⟨rfl,rfl⟩))))
theorem b9T {n v:Int} (h:n=2\/n=3\/n=4):∀ f ∈ a9k n v,c24 f:=by
 intro f hf
 unfold a9k at hf
 split at hf
 ·cases hf
 ·simp only [List.mem_singleton] at hf;subst hf
  rcases h with rfl | rfl | rfl
  ·exact .inr (.inl ⟨rfl,rfl⟩)
  ·exact .inr (.inr (.inl ⟨rfl,rfl⟩))
  ·exact .inr (.inr (.inr (.inl ⟨rfl,rfl⟩)))
theorem d0W {t:A7} (h:TxS t):(txF t).all (fun f=>decide (c24 f))=true:=by
 rw [List.all_eq_true]
 intro f hf
 rw [decide_eq_true_eq]
 unfold txF hdF at hf
 simp only [List.mem_append,List.mem_map] at hf
 rcases hf with(hf | hf | hf | hf | hf) | ⟨x,hx,rfl⟩
 ·exact c4A (.inl rfl) f hf
 ·exact b9T (.inl rfl) f hf
 ·exact b9T (.inr (.inl rfl)) f hf
 ·exact b9T (.inr (.inr rfl)) f hf
 ·exact c4A (.inr rfl) f hf
 ·exact .inr (.inr (.inr (.inr (.inr ⟨rfl,rfl,c8A (h.2.2.2.2.2.2 x hx)⟩))))
theorem c5R {raw:List UInt8} (hraw:raw.length<=10000000):Q0 raw=some (a2X raw):=by
 rw [<-L4]
 unfold a2X
 have hz:(([],(0:Int),(0:Int),(0:Int),[],[]):A7)=a4A:=rfl
 by_cases h:4096 < raw.length
 ·rw [if_pos h]
  simp only [Q0,C0,B6,A3,decide_eq_true_eq,decide_eq_false_iff_not,Bool.not_eq_true',Bool.not_eq_false',hz]
  exact⟨fun _=>trivial,fun hc=>absurd hc (by omega)⟩
 ·rw [if_neg h]
  have hs:=d3B (raw:=raw) (by omega)
  have hf:=b0o raw (by omega)
  rw [(FSm.fields_same raw (by omega)).1] at hf
  obtain⟨r,hr,r1,r2⟩:=d0U (a8X raw).1 (by have:=b4t raw;omega) (fun f hf=>by have:=b14 raw f hf;omega)
  simp only [Q0,C0,B6,A3,decide_eq_true_eq,decide_eq_false_iff_not,Bool.not_eq_true',Bool.not_eq_false',hz,hf,hr]
  refine⟨fun hc=>absurd hc (by omega),fun _=>⟨fun h1=>?_,fun h1=>⟨fun h2=>?_,fun h2=>?_⟩⟩⟩
  ·rw [if_pos (by omega)]
  ·rw [if_neg (by omega),if_neg (fun e=>?_)]
   have e2:=d0T (L:=txF (b8D (a8X raw).1)) (raw:=raw) (fun f hf=>by have:=d3x hs f hf;exact⟨this.1,this.2.1,by have:=this.2.2;unfold U64;omega⟩) e (by omega)
   have e3:=d0W hs
   rw [<-e2,<-r1,h2] at e3
   cases e3
  ·have hx:=r2 h2
   rw [hx]
   simp only [c22 hs,P9,c1n hs.b,A3,decide_eq_true_eq,decide_eq_false_iff_not]
   refine⟨fun h2=>?_,fun h2=>⟨fun h3=>?_,fun h3=>?_⟩⟩
   ·rw [if_neg (by omega),if_neg h2]
   ·rw [if_neg (by omega),if_pos h2,if_neg h3]
   ·rw [if_neg (by omega),if_pos h2,if_pos h3]
end Go.Proofs.YtbipjlehhlkghaaGreatDoor.Am
namespace Go.Proofs.YtbipjlehhlkghaaGreatDoor.Am
open Go
theorem TxM.s {t:A7} (h:TxM t):TxS t:=by
 obtain⟨h1,h2,h3,h4,h5,h6,h7⟩:=h
 exact⟨by have:=h1.2;omega,h2,⟨by omega,by omega⟩,h4,by have:=h5.2;omega,by omega,fun x hx=>by have:=h7 x hx;exact⟨by have:=this.1.2;omega,⟨by have:=this.2;omega,by have:=this.2;omega⟩⟩⟩
theorem d5U {t:A7} (h:TxS t) {n:Nat} (hn:t.2.2.2.2.2.length<=n):(a3l (txF t)).length<=(n + 5) * 20060:=by
 have h1:=b9O (by omega) (d3x h)
 have h2:=c20 t
 have h3:(txF t).length<=n + 5:=by unfold txF;rw [List.length_append,List.length_map];omega
 exact Nat.le_trans h1 (Nat.mul_le_mul h3 (Nat.le_refl _))
theorem c4B:TxS a4A:=⟨by simp [a4A],⟨by decide,by decide⟩,⟨by decide,by decide⟩,⟨by decide,by decide⟩,by simp [a4A],by simp [a4A],by simp [a4A]⟩
theorem b8E (raw:List UInt8):TxS (a2X raw).1:=by
 unfold a2X
 split
 ·exact c4B
 ·rename_i h
  have hs:=d3B (raw:=raw) (by omega)
  split
  ·exact c4B
  ·split
   ·split
    ·exact hs
    ·exact c4B
   ·exact c4B
theorem d3C {raw:List UInt8} (h:(a2X raw).2=0):a40 (a2X raw).1=0/\a3l (txF (a2X raw).1)=raw/\raw.length<=4096:=by
 unfold a2X at h ⊢
 by_cases h1:4096 < raw.length
 ·rw [if_pos h1] at h;cases h
 ·rw [if_neg h1] at h ⊢
  by_cases h2:(a8X raw).2.2 ≠ 0
  ·rw [if_pos h2] at h;cases h
  ·rw [if_neg h2] at h ⊢
   by_cases h3:a3l (txF (b8D (a8X raw).1))=raw
   ·rw [if_pos h3] at h ⊢
    by_cases h4:a40 (b8D (a8X raw).1)=0
    ·rw [if_pos h4];exact⟨h4,h3,by omega⟩
    ·rw [if_neg h4] at h;exact absurd h h4
   ·rw [if_neg h3] at h;cases h
end Go.Proofs.YtbipjlehhlkghaaGreatDoor.Am
