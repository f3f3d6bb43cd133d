/- Texts laid together: PDec2, PDecT. No conditions. -/
import Derived.Test.YtbipjlehhlkghaaDoorQAM
namespace Go.Proofs.YtbipjlehhlkghaaDoor.Am
open Go
theorem c1F (l:List Fld) (hl:l.length<=2000) (hb:∀ f ∈ l,f.byt.length<=10000):Ok (V0 (l.map toF)) fun r=>r.2=l.all (fun f=>decide (b4L f))/\(r.2=true->r.1=b2h l):=by
 have hm:(l.map toF).length=l.length:=List.length_map ..
 unfold V0 a0S
 refine I8 (l.map toF) (fun i (t:o8)=>(l.map toF,(((l.map toF).length:Nat):Int),((i:Nat):Int),([]:List UInt8),(0:Int),(0:Int),(0:Int),([]:List UInt8),t.1,t.2.1,t.2.2.1,t.2.2.2.1,t.2.2.2.2.1,t.2.2.2.2.2)) (fun i t=>(∀ j (hj:j < l.length),j < i->b4L l[j])/\(l.drop i).foldl a4V t=b2h l/\t.2.2.2.2.2.length<=i) (fun i t hi hv=>?_) (fun t hv=>?_) (b0:=a0p) ⟨fun j hj h=>by omega,rfl,by simp [a0p]⟩ (by omega)
 ·obtain⟨hv1,hv2,hlt⟩:=hv
  have hi':i < l.length:=by omega
  have q3:List.getD (l.map toF) i A5=toF l[i]:=by rw [E6 hi,List.getElem_map]
  rw [List.drop_eq_getElem_cons hi',List.foldl_cons] at hv2
  have htr:=b3m (hb _ (List.getElem_mem hi'))
  have hfi:(l.drop (i + 1)).foldl a4V (a4V t l[i])=b2h l:=hv2
  clear hv2
  have no:¬ b4L l[i]->∀ y:o8,(false=l.all (fun f=>decide (b4L f))/\(false=true->y=b2h l)):=fun hn y=>by
   rw [c2t hi' (by simpa using hn)];exact⟨rfl,fun h=>by cases h⟩
  have yes:b4L l[i]->(a4V t l[i]).2.2.2.2.2.length<=i + 1->((∀ j (hj:j < l.length),j < i + 1->b4L l[j])/\(l.drop (i + 1)).foldl a4V (a4V t l[i])=b2h l/\(a4V t l[i]).2.2.2.2.2.length<=i + 1):=fun ho h=>by
   refine⟨fun j hj hlt=>?_,hfi,h⟩
   by_cases e:j=i
   ·subst e;exact ho
   ·exact hv1 j hj (by omega)
  generalize hf:l[i]=f at *
  have qn:(toF f).1=f.num:=rfl
  have qk:(toF f).2.1=f.kind:=rfl
  have qb:(toF f).2.2.2=f.byt:=rfl
  have qv:(toF f).2.2.1=((f.val:Nat):Int):=rfl
  obtain⟨G,hG⟩:∃ G:Option ((List o6 × Int × Int × List UInt8 × Int × Int × Int × List UInt8 × List UInt8 × Int × Int × Int × List UInt8 × List o4) ⊕ (o8 × Bool))->Prop,G=fun o=>Ok o (Nxt (fun r:o8 × Bool=>r.2=l.all (fun f=>decide (b4L f))/\(r.2=true->r.1=b2h l)) fun z=>∃ b',z=(l.map toF,(((l.map toF).length:Nat):Int),((i + 1:Nat):Int),([]:List UInt8),(0:Int),(0:Int),(0:Int),([]:List UInt8),b'.1,b'.2.1,b'.2.2.1,b'.2.2.2.1,b'.2.2.2.2.1,b'.2.2.2.2.2)/\(∀ j (hj:j < l.length),j < i + 1->b4L l[j])/\(l.drop (i + 1)).foldl a4V b'=b2h l/\b'.2.2.2.2.2.length<=i + 1):=⟨_,rfl⟩
  have gno:¬ b4L f->∀ y:o8,G (some (.inr (y,false))):=fun hn y=>by rw [hG];exact⟨_,rfl,no hn y⟩
  have gyes:b4L f->∀ y:o8,y=a4V t f->y.2.2.2.2.2.length<=i + 1->G (some (.inl (l.map toF,(((l.map toF).length:Nat):Int),((i + 1:Nat):Int),([]:List UInt8),(0:Int),(0:Int),(0:Int),([]:List UInt8),y.1,y.2.1,y.2.2.1,y.2.2.2.1,y.2.2.2.2.1,y.2.2.2.2.2))):=fun ho y hy hle=>by
   subst hy
   rw [hG]
   exact⟨_,rfl,a4V t f,rfl,yes ho hle⟩
  have hw:=H0 (i:=i) (by omega)
  have c7:∀ v:Bool,(v=true ↔ (f.num=6/\f.kind=2))->¬ (f.num=1/\f.kind=2)->¬ (f.num=2/\f.kind=0)->¬ (f.num=3/\f.kind=0)->¬ (f.num=4/\f.kind=0)->¬ (f.num=5/\f.kind=2)->G (K4 (l.map toF) (((l.map toF).length:Nat):Int) ((i:Nat):Int) v [] 0 0 0 [] t.1 t.2.1 t.2.2.1 t.2.2.2.1 t.2.2.2.2.1 (toF f) t.2.2.2.2.2):=by
   intro v hv n1 n2 n3 n4 n5
   unfold K4
   cases v with
   | false=>
    rw [C8]
    refine gno ?_ _
    have:¬ (f.num=6/\f.kind=2):=fun h=>by have:=hv.2 h;cases this
    rintro(h | h | h | h | h | ⟨h,h',_⟩)
    ·exact n1 h
    ·exact n2 h
    ·exact n3 h
    ·exact n4 h
    ·exact n5 h
    ·exact this ⟨h,h'⟩
   | true=>
    have h6:=hv.1 rfl
    rw [D6,qb]
    obtain⟨r,hr,r1,r2⟩:=htr
    rw [hr,Option.bind_some,hw]
    cases hb2:a94 f.byt with
    | false=>
     rw [r1,hb2]
     refine gno ?_ t
     rintro(h | h | h | h | h | ⟨h,h',h''⟩)
     ·exact n1 h
     ·exact n2 h
     ·exact n3 h
     ·exact n4 h
     ·exact n5 h
     ·rw [hb2] at h'';cases h''
    | true=>
     rw [r1,hb2,r2 hb2,Bool.not_true,C8]
     have c:decide ((t.2.2.2.2.2.length + 1) * 24<=LIM/\t.2.2.2.2.2.length + 1<=LEN)=true:=decide_eq_true ⟨by unfold LIM;omega,by unfold LEN;omega⟩
     rw [c,E5]
     refine gyes (.inr (.inr (.inr (.inr (.inr ⟨h6.1,h6.2,hb2⟩))))) (t.1,t.2.1,t.2.2.1,t.2.2.2.1,t.2.2.2.2.1,t.2.2.2.2.2 ++ [a8f f.byt]) ?_ ?_
     ·unfold a4V
      rw [if_neg (by omega),if_neg (by omega),if_neg (by omega),if_neg (by omega),if_neg (by omega),if_pos h6.1]
     ·simp only [List.length_append,List.length_cons,List.length_nil];omega
  have c6:∀ v:Bool,(v=true ↔ (f.num=5/\f.kind=2))->¬ (f.num=1/\f.kind=2)->¬ (f.num=2/\f.kind=0)->¬ (f.num=3/\f.kind=0)->¬ (f.num=4/\f.kind=0)->G (K5 (l.map toF) (((l.map toF).length:Nat):Int) ((i:Nat):Int) v [] 0 0 0 [] t.1 t.2.1 t.2.2.1 t.2.2.2.1 t.2.2.2.2.1 (toF f) t.2.2.2.2.2):=by
   intro v hv n1 n2 n3 n4
   unfold K5
   rw [qn,qk,qb,hw]
   cases v with
   | true=>
    have h6:=hv.1 rfl
    refine gyes (.inr (.inr (.inr (.inr (.inl h6))))) (t.1,t.2.1,t.2.2.1,t.2.2.2.1,f.byt,t.2.2.2.2.2) ?_ (Nat.le_succ_of_le hlt)
    unfold a4V
    rw [if_neg (by omega),if_neg (by omega),if_neg (by omega),if_neg (by omega),if_pos h6.1]
   | false=>
    have n5:¬ (f.num=5/\f.kind=2):=fun h=>by have:=hv.2 h;cases this
    rw [C8]
    by_cases h:f.num=6
    ·rw [decide_eq_true h,D6]
     exact c7 _ (by rw [decide_eq_true_eq];exact⟨fun q=>⟨h,q⟩,fun q=>q.2⟩) n1 n2 n3 n4 n5
    ·rw [decide_eq_false h,C8]
     exact c7 _ ⟨(fun q=>by cases q),fun q=>absurd q.1 h⟩ n1 n2 n3 n4 n5
  have c5:∀ v:Bool,(v=true ↔ (f.num=4/\f.kind=0))->¬ (f.num=1/\f.kind=2)->¬ (f.num=2/\f.kind=0)->¬ (f.num=3/\f.kind=0)->G (K6 (l.map toF) (((l.map toF).length:Nat):Int) ((i:Nat):Int) v [] 0 0 0 [] t.1 t.2.1 t.2.2.1 t.2.2.2.1 t.2.2.2.2.1 (toF f) t.2.2.2.2.2):=by
   intro v hv n1 n2 n3
   unfold K6
   rw [qn,qk,qv,hw]
   cases v with
   | true=>
    have h6:=hv.1 rfl
    refine gyes (.inr (.inr (.inr (.inl h6)))) (t.1,t.2.1,t.2.2.1,((f.val:Nat):Int),t.2.2.2.2.1,t.2.2.2.2.2) ?_ (Nat.le_succ_of_le hlt)
    unfold a4V
    rw [if_neg (by omega),if_neg (by omega),if_neg (by omega),if_pos h6.1]
   | false=>
    have n4:¬ (f.num=4/\f.kind=0):=fun h=>by have:=hv.2 h;cases this
    rw [C8]
    by_cases h:f.num=5
    ·rw [decide_eq_true h,D6]
     exact c6 _ (by rw [decide_eq_true_eq];exact⟨fun q=>⟨h,q⟩,fun q=>q.2⟩) n1 n2 n3 n4
    ·rw [decide_eq_false h,C8]
     exact c6 _ ⟨(fun q=>by cases q),fun q=>absurd q.1 h⟩ n1 n2 n3 n4
  have c4:∀ v:Bool,(v=true ↔ (f.num=3/\f.kind=0))->¬ (f.num=1/\f.kind=2)->¬ (f.num=2/\f.kind=0)->G (K7 (l.map toF) (((l.map toF).length:Nat):Int) ((i:Nat):Int) v [] 0 0 0 [] t.1 t.2.1 t.2.2.1 t.2.2.2.1 t.2.2.2.2.1 (toF f) t.2.2.2.2.2):=by
   intro v hv n1 n2
   unfold K7
   rw [qn,qk,qv,hw]
   cases v with
   | true=>
    have h6:=hv.1 rfl
    refine gyes (.inr (.inr (.inl h6))) (t.1,t.2.1,((f.val:Nat):Int),t.2.2.2.1,t.2.2.2.2.1,t.2.2.2.2.2) ?_ (Nat.le_succ_of_le hlt)
    unfold a4V
    rw [if_neg (by omega),if_neg (by omega),if_pos h6.1]
   | false=>
    have n3:¬ (f.num=3/\f.kind=0):=fun h=>by have:=hv.2 h;cases this
    rw [C8]
    by_cases h:f.num=4
    ·rw [decide_eq_true h,D6]
     exact c5 _ (by rw [decide_eq_true_eq];exact⟨fun q=>⟨h,q⟩,fun q=>q.2⟩) n1 n2 n3
    ·rw [decide_eq_false h,C8]
     exact c5 _ ⟨(fun q=>by cases q),fun q=>absurd q.1 h⟩ n1 n2 n3
  have c3:∀ v:Bool,(v=true ↔ (f.num=2/\f.kind=0))->¬ (f.num=1/\f.kind=2)->G (K8 (l.map toF) (((l.map toF).length:Nat):Int) ((i:Nat):Int) v [] 0 0 0 [] t.1 t.2.1 t.2.2.1 t.2.2.2.1 t.2.2.2.2.1 (toF f) t.2.2.2.2.2):=by
   intro v hv n1
   unfold K8
   rw [qn,qk,qv,hw]
   cases v with
   | true=>
    have h6:=hv.1 rfl
    refine gyes (.inr (.inl h6)) (t.1,((f.val:Nat):Int),t.2.2.1,t.2.2.2.1,t.2.2.2.2.1,t.2.2.2.2.2) ?_ (Nat.le_succ_of_le hlt)
    unfold a4V
    rw [if_neg (by omega),if_pos h6.1]
   | false=>
    have n2:¬ (f.num=2/\f.kind=0):=fun h=>by have:=hv.2 h;cases this
    rw [C8]
    by_cases h:f.num=3
    ·rw [decide_eq_true h,D6]
     exact c4 _ (by rw [decide_eq_true_eq];exact⟨fun q=>⟨h,q⟩,fun q=>q.2⟩) n1 n2
    ·rw [decide_eq_false h,C8]
     exact c4 _ ⟨(fun q=>by cases q),fun q=>absurd q.1 h⟩ n1 n2
  have c2:∀ v:Bool,(v=true ↔ (f.num=1/\f.kind=2))->G (K9 (l.map toF) (((l.map toF).length:Nat):Int) ((i:Nat):Int) v [] 0 0 0 [] t.1 t.2.1 t.2.2.1 t.2.2.2.1 t.2.2.2.2.1 (toF f) t.2.2.2.2.2):=by
   intro v hv
   unfold K9
   rw [qn,qk,qb,hw]
   cases v with
   | true=>
    have h6:=hv.1 rfl
    refine gyes (.inl h6) (f.byt,t.2.1,t.2.2.1,t.2.2.2.1,t.2.2.2.2.1,t.2.2.2.2.2) ?_ (Nat.le_succ_of_le hlt)
    unfold a4V
    rw [if_pos h6.1]
   | false=>
    have n1:¬ (f.num=1/\f.kind=2):=fun h=>by have:=hv.2 h;cases this
    rw [C8]
    by_cases h:f.num=2
    ·rw [decide_eq_true h,D6]
     exact c3 _ (by rw [decide_eq_true_eq];exact⟨fun q=>⟨h,q⟩,fun q=>q.2⟩) n1
    ·rw [decide_eq_false h,C8]
     exact c3 _ ⟨(fun q=>by cases q),fun q=>absurd q.1 h⟩ n1
  have fin:G (L0 (l.map toF) (((l.map toF).length:Nat):Int) ((i:Nat):Int) [] 0 0 0 [] t.1 t.2.1 t.2.2.1 t.2.2.2.1 t.2.2.2.2.1 t.2.2.2.2.2):=by
   unfold L0
   rw [decide_eq_true (show((i:Nat):Int) < (((l.map toF).length:Nat):Int) by omega),D6,decide_eq_true (show(0:Int)<=((i:Nat):Int)/\((i:Nat):Int) < (((l.map toF).length:Nat):Int) by omega),E5,Int.toNat_natCast,q3,qn,qk]
   by_cases h:f.num=1
   ·rw [decide_eq_true h,D6]
    exact c2 _ (by rw [decide_eq_true_eq];exact⟨fun q=>⟨h,q⟩,fun q=>q.2⟩)
   ·rw [decide_eq_false h,C8]
    exact c2 _ ⟨(fun q=>by cases q),fun q=>absurd q.1 h⟩
  rw [hG] at fin
  exact fin
 ·obtain⟨hv1,hv2,_⟩:=hv
  rw [hm,List.drop_length] at hv2
  have hx:t=b2h l:=hv2
  simp only [L0,B7,C6,A0,A6,decide_eq_true_eq,decide_eq_false_iff_not,Int.toNat_natCast]
  refine⟨fun hc=>absurd hc (by omega),fun _=>⟨?_,fun _=>hx⟩⟩
  exact(b9Q fun j hj=>by simpa using hv1 j hj (by omega)).symm
theorem c1G (x:o4):(trF x).all (fun f=>decide (b7f f))=true:=by
 rw [List.all_eq_true]
 intro f hf
 unfold trF a4p a3i at hf
 rw [decide_eq_true_eq]
 rcases List.mem_append.1 hf with hf | hf
 ·split at hf
  ·cases hf
  ·simp only [List.mem_singleton] at hf;subst hf;exact .inl ⟨rfl,rfl⟩
 ·split at hf
  ·cases hf
  ·simp only [List.mem_singleton] at hf;subst hf;exact .inr ⟨rfl,rfl⟩
theorem b9R {x:o4} (h:TrS x):a94 (Y5 (trF x))=true:=by
 have hs:=b9K h
 have hl:(trF x).length<=2:=by unfold trF;rw [List.length_append];have:=a0u 1 x.1;have:=a0v 2 x.2;omega
 have hf:=a9x (trF x) (by omega) (fun f hf=>⟨(hs f hf).1,(hs f hf).2.1,by have:=(hs f hf).2.2;unfold U64;omega⟩)
 unfold a94
 rw [b9O h,hf]
 simp [c1G x]
theorem b6c {n:Int} {s:List UInt8} (h:n=1\/n=5):∀ f ∈ a4p n s,b4L f:=by
 intro f hf
 unfold a4p at hf
 split at hf
 ·cases hf
 ·simp only [List.mem_singleton] at hf;subst hf
  rcases h with rfl | rfl
  ·exact .inl ⟨rfl,rfl⟩
  ·exact .inr (.inr (.inr (.inr (.inl ⟨rfl,rfl⟩))))
theorem b10 {n v:Int} (h:n=2\/n=3\/n=4):∀ f ∈ a3i n v,b4L f:=by
 intro f hf
 unfold a3i at hf
 split at hf
 ·cases hf
 ·simp only [List.mem_singleton] at hf;subst hf
  rcases h with rfl | rfl | rfl
  ·exact .inr (.inl ⟨rfl,rfl⟩)
  ·exact .inr (.inr (.inl ⟨rfl,rfl⟩))
  ·exact .inr (.inr (.inr (.inl ⟨rfl,rfl⟩)))
theorem c1H {t:o8} (h:TxS t):(txF t).all (fun f=>decide (b4L f))=true:=by
 rw [List.all_eq_true]
 intro f hf
 rw [decide_eq_true_eq]
 unfold txF hdF at hf
 simp only [List.mem_append,List.mem_map] at hf
 rcases hf with(hf | hf | hf | hf | hf) | ⟨x,hx,rfl⟩
 ·exact b6c (.inl rfl) f hf
 ·exact b10 (.inl rfl) f hf
 ·exact b10 (.inr (.inl rfl)) f hf
 ·exact b10 (.inr (.inr rfl)) f hf
 ·exact b6c (.inr rfl) f hf
 ·exact .inr (.inr (.inr (.inr (.inr ⟨rfl,rfl,b9R (h.2.2.2.2.2.2 x hx)⟩))))
theorem b7g {raw:List UInt8} (hraw:raw.length<=10000000):J2 raw=some (a2N raw):=by
 rw [<-M9]
 unfold a2N
 have hz:(([],(0:Int),(0:Int),(0:Int),[],[]):o8)=a0p:=rfl
 by_cases h:4096 < raw.length
 ·rw [if_pos h]
  simp only [J2,B7,B6,A0,decide_eq_true_eq,decide_eq_false_iff_not,Bool.not_eq_true',Bool.not_eq_false',hz]
  exact⟨fun _=>trivial,fun hc=>absurd hc (by omega)⟩
 ·rw [if_neg h]
  have hs:=c3K (raw:=raw) (by omega)
  have hf:=a37 raw (by omega)
  rw [(FSm.fields_same raw (by omega)).1] at hf
  obtain⟨r,hr,r1,r2⟩:=c1F (a3I raw).1 (by have:=a67 raw;omega) (fun f hf=>by have:=a5h raw f hf;omega)
  simp only [J2,B7,B6,A0,decide_eq_true_eq,decide_eq_false_iff_not,Bool.not_eq_true',Bool.not_eq_false',hz,hf,hr]
  refine⟨fun hc=>absurd hc (by omega),fun _=>⟨fun h1=>?_,fun h1=>⟨fun h2=>?_,fun h2=>?_⟩⟩⟩
  ·rw [if_pos (by omega)]
  ·rw [if_neg (by omega),if_neg (fun e=>?_)]
   have e2:=c1E (L:=txF (b2h (a3I raw).1)) (raw:=raw) (fun f hf=>by have:=c5l hs f hf;exact⟨this.1,this.2.1,by have:=this.2.2;unfold U64;omega⟩) e (by omega)
   have e3:=c1H hs
   rw [<-e2,<-r1,h2] at e3
   cases e3
  ·have hx:=r2 h2
   rw [hx]
   simp only [b9N hs,J1,b3i hs.b,A0,decide_eq_true_eq,decide_eq_false_iff_not]
   refine⟨fun h2=>?_,fun h2=>⟨fun h3=>?_,fun h3=>?_⟩⟩
   ·rw [if_neg (by omega),if_neg h2]
   ·rw [if_neg (by omega),if_pos h2,if_neg h3]
   ·rw [if_neg (by omega),if_pos h2,if_pos h3]
end Go.Proofs.YtbipjlehhlkghaaDoor.Am
namespace Go.Proofs.YtbipjlehhlkghaaDoor.Am
open Go
theorem TxM.s {t:o8} (h:TxM t):TxS t:=by
 obtain⟨h1,h2,h3,h4,h5,h6,h7⟩:=h
 exact⟨by have:=h1.2;omega,h2,⟨by omega,by omega⟩,h4,by have:=h5.2;omega,by omega,fun x hx=>by have:=h7 x hx;exact⟨by have:=this.1.2;omega,⟨by have:=this.2;omega,by have:=this.2;omega⟩⟩⟩
theorem b6d:TxS a0p:=⟨by simp [a0p],⟨by decide,by decide⟩,⟨by decide,by decide⟩,⟨by decide,by decide⟩,by simp [a0p],by simp [a0p],by simp [a0p]⟩
theorem c2u (raw:List UInt8):TxS (a2N raw).1:=by
 unfold a2N
 split
 ·exact b6d
 ·rename_i h
  have hs:=c3K (raw:=raw) (by omega)
  split
  ·exact b6d
  ·split
   ·split
    ·exact hs
    ·exact b6d
   ·exact b6d
end Go.Proofs.YtbipjlehhlkghaaDoor.Am
