/- Texts laid together: PDec2, PDecT. No conditions. -/
import Derived.Test.YtjbgdpjgfjnkbaaGreatDoorQAQ
namespace Go.Proofs.YtjbgdpjgfjnkbaaGreatDoor.Am
open Go
theorem Sj (l:List Fld) (hl:l.length<=2000) (hb:∀ f ∈ l,f.byt.length<=10000):Ok (gn (l.map toF)) λr=>r.2=l.all (λf=>decide (GF f))/\(r.2=true->r.1=Az l):=by
 have hm:(l.map toF).length=l.length:=a3d ..;unfold gn lc;refine D8 (l.map toF) (λi (t:C5)=>(l.map toF,(((l.map toF).length:Nat):Int),((i:Nat):Int),([]:List UInt8),(0:Int),(0:Int),(0:Int),([]:List UInt8),t.1,t.2.1,t.2.2.1,t.2.2.2.1,t.2.2.2.2.1,t.2.2.2.2.2)) (λi t=>(∀ j (hj:j < l.length),j < i->GF l[j])/\(l.drop i).foldl sd t=Az l/\t.2.2.2.2.2.length<=i) (λi t hi hv=>?_) (λt hv=>?_) (b0:=jZ) ⟨λj hj h=>by omega,rfl,by simp [jZ]⟩ (by omega)
 ·obtain⟨hv1,hv2,hlt⟩:=hv;have hi':i < l.length:=by omega
  have q3:List.getD (l.map toF) i E4=toF l[i]:=by rw [E0 hi,a4e]
  rw [a3M hi',a4b] at hv2;have htr:=Ek (hb _ (a29 hi'));have hfi:(l.drop (i + 1)).foldl sd (sd t l[i])=Az l:=hv2;clear hv2;have no:¬ GF l[i]->∀ y:C5,(false=l.all (λf=>decide (GF f))/\(false=true->y=Az l)):=λhn y=>by
   rw [Uj hi' (by simpa using hn)];exact⟨rfl,λh=>by cases h⟩
  have yes:GF l[i]->(sd t l[i]).2.2.2.2.2.length<=i + 1->((∀ j (hj:j < l.length),j < i + 1->GF l[j])/\(l.drop (i + 1)).foldl sd (sd t l[i])=Az l/\(sd t l[i]).2.2.2.2.2.length<=i + 1):=λho h=>by
   refine⟨λj hj hlt=>?_,hfi,h⟩;by_cases e:j=i
   ·subst e;exact ho
   ·exact hv1 j hj (by omega)
  generalize hf:l[i]=f at *
  have qn:(toF f).1=f.num:=rfl;have qk:(toF f).2.1=f.kind:=rfl;have qb:(toF f).2.2.2=f.byt:=rfl;have qv:(toF f).2.2.1=((f.val:Nat):Int):=rfl;obtain⟨G,hG⟩:∃ G:Option ((List A6 × Int × Int × List UInt8 × Int × Int × Int × List UInt8 × List UInt8 × Int × Int × Int × List UInt8 × List A0) ⊕ (C5 × Bool))->Prop,G=λo=>Ok o (Nxt (λr:C5 × Bool=>r.2=l.all (λf=>decide (GF f))/\(r.2=true->r.1=Az l)) λz=>∃ b',z=(l.map toF,(((l.map toF).length:Nat):Int),((i + 1:Nat):Int),([]:List UInt8),(0:Int),(0:Int),(0:Int),([]:List UInt8),b'.1,b'.2.1,b'.2.2.1,b'.2.2.2.1,b'.2.2.2.2.1,b'.2.2.2.2.2)/\(∀ j (hj:j < l.length),j < i + 1->GF l[j])/\(l.drop (i + 1)).foldl sd b'=Az l/\b'.2.2.2.2.2.length<=i + 1):=⟨_,rfl⟩;have gno:¬ GF f->∀ y:C5,G (some (.inr (y,false))):=λhn y=>by rw [hG];exact⟨_,rfl,no hn y⟩
  have gyes:GF f->∀ y:C5,y=sd t f->y.2.2.2.2.2.length<=i + 1->G (some (.inl (l.map toF,(((l.map toF).length:Nat):Int),((i + 1:Nat):Int),([]:List UInt8),(0:Int),(0:Int),(0:Int),([]:List UInt8),y.1,y.2.1,y.2.2.1,y.2.2.2.1,y.2.2.2.2.1,y.2.2.2.2.2))):=λho y hy hle=>by
   subst hy;rw [hG];exact⟨_,rfl,sd t f,rfl,yes ho hle⟩
  have hw:=D2 (i:=i) (by omega);have c7:∀ v:Bool,(v=true ↔ (f.num=6/\f.kind=2))->¬ (f.num=1/\f.kind=2)->¬ (f.num=2/\f.kind=0)->¬ (f.num=3/\f.kind=0)->¬ (f.num=4/\f.kind=0)->¬ (f.num=5/\f.kind=2)->G (Z0 (l.map toF) (((l.map toF).length:Nat):Int) ((i:Nat):Int) v [] 0 0 0 [] t.1 t.2.1 t.2.2.1 t.2.2.2.1 t.2.2.2.2.1 (toF f) t.2.2.2.2.2):=by
   intro v hv n1 n2 n3 n4 n5;unfold Z0;cases v with
   | false=>
    rw [E3];refine gno ?_ _;have:¬ (f.num=6/\f.kind=2):=λh=>by have:=hv.2 h;cases this
    rintro(h | h | h | h | h | ⟨h,h',_⟩)
    ·exact n1 h
    ·exact n2 h
    ·exact n3 h
    ·exact n4 h
    ·exact n5 h
    ·exact this ⟨h,h'⟩
   | true=>
    have h6:=hv.1 rfl;rw [E8,qb];obtain⟨r,hr,r1,r2⟩:=htr;rw [hr,a2X,hw];cases hb2:zB f.byt with
    | false=>
     rw [r1,hb2];refine gno ?_ t;rintro(h | h | h | h | h | ⟨h,h',h''⟩)
     ·exact n1 h
     ·exact n2 h
     ·exact n3 h
     ·exact n4 h
     ·exact n5 h
     ·rw [hb2] at h'';cases h''
    | true=>
     rw [r1,hb2,r2 hb2,a3m,E3];have c:decide ((t.2.2.2.2.2.length + 1) * 24<=LIM/\t.2.2.2.2.2.length + 1<=LEN)=true:=a2S ⟨by unfold LIM;omega,by unfold LEN;omega⟩;rw [c,C4];refine gyes (.inr (.inr (.inr (.inr (.inr ⟨h6.1,h6.2,hb2⟩))))) (t.1,t.2.1,t.2.2.1,t.2.2.2.1,t.2.2.2.2.1,t.2.2.2.2.2 ++ [wN f.byt]) ?_ ?_
     ·unfold sd;rw [a25 (by omega),a25 (by omega),a25 (by omega),a25 (by omega),a25 (by omega),a28 h6.1]
     ·simp only [a2V,a27,a3l];omega
  have c6:∀ v:Bool,(v=true ↔ (f.num=5/\f.kind=2))->¬ (f.num=1/\f.kind=2)->¬ (f.num=2/\f.kind=0)->¬ (f.num=3/\f.kind=0)->¬ (f.num=4/\f.kind=0)->G (Z1 (l.map toF) (((l.map toF).length:Nat):Int) ((i:Nat):Int) v [] 0 0 0 [] t.1 t.2.1 t.2.2.1 t.2.2.2.1 t.2.2.2.2.1 (toF f) t.2.2.2.2.2):=by
   intro v hv n1 n2 n3 n4;unfold Z1;rw [qn,qk,qb,hw];cases v with
   | true=>
    have h6:=hv.1 rfl;refine gyes (.inr (.inr (.inr (.inr (.inl h6))))) (t.1,t.2.1,t.2.2.1,t.2.2.2.1,f.byt,t.2.2.2.2.2) ?_ (a3u hlt);unfold sd;rw [a25 (by omega),a25 (by omega),a25 (by omega),a25 (by omega),a28 h6.1]
   | false=>
    have n5:¬ (f.num=5/\f.kind=2):=λh=>by have:=hv.2 h;cases this
    rw [E3];by_cases h:f.num=6
    ·rw [a2S h,E8];exact c7 _ (by rw [a2W];exact⟨λq=>⟨h,q⟩,λq=>q.2⟩) n1 n2 n3 n4 n5
    ·rw [a2Y h,E3];exact c7 _ ⟨(λq=>by cases q),λq=>absurd q.1 h⟩ n1 n2 n3 n4 n5
  have c5:∀ v:Bool,(v=true ↔ (f.num=4/\f.kind=0))->¬ (f.num=1/\f.kind=2)->¬ (f.num=2/\f.kind=0)->¬ (f.num=3/\f.kind=0)->G (Z2 (l.map toF) (((l.map toF).length:Nat):Int) ((i:Nat):Int) v [] 0 0 0 [] t.1 t.2.1 t.2.2.1 t.2.2.2.1 t.2.2.2.2.1 (toF f) t.2.2.2.2.2):=by
   intro v hv n1 n2 n3;unfold Z2;rw [qn,qk,qv,hw];cases v with
   | true=>
    have h6:=hv.1 rfl;refine gyes (.inr (.inr (.inr (.inl h6)))) (t.1,t.2.1,t.2.2.1,((f.val:Nat):Int),t.2.2.2.2.1,t.2.2.2.2.2) ?_ (a3u hlt);unfold sd;rw [a25 (by omega),a25 (by omega),a25 (by omega),a28 h6.1]
   | false=>
    have n4:¬ (f.num=4/\f.kind=0):=λh=>by have:=hv.2 h;cases this
    rw [E3];by_cases h:f.num=5
    ·rw [a2S h,E8];exact c6 _ (by rw [a2W];exact⟨λq=>⟨h,q⟩,λq=>q.2⟩) n1 n2 n3 n4
    ·rw [a2Y h,E3];exact c6 _ ⟨(λq=>by cases q),λq=>absurd q.1 h⟩ n1 n2 n3 n4
  have c4:∀ v:Bool,(v=true ↔ (f.num=3/\f.kind=0))->¬ (f.num=1/\f.kind=2)->¬ (f.num=2/\f.kind=0)->G (Z3 (l.map toF) (((l.map toF).length:Nat):Int) ((i:Nat):Int) v [] 0 0 0 [] t.1 t.2.1 t.2.2.1 t.2.2.2.1 t.2.2.2.2.1 (toF f) t.2.2.2.2.2):=by
   intro v hv n1 n2;unfold Z3;rw [qn,qk,qv,hw];cases v with
   | true=>
    have h6:=hv.1 rfl;refine gyes (.inr (.inr (.inl h6))) (t.1,t.2.1,((f.val:Nat):Int),t.2.2.2.1,t.2.2.2.2.1,t.2.2.2.2.2) ?_ (a3u hlt);unfold sd;rw [a25 (by omega),a25 (by omega),a28 h6.1]
   | false=>
    have n3:¬ (f.num=3/\f.kind=0):=λh=>by have:=hv.2 h;cases this
    rw [E3];by_cases h:f.num=4
    ·rw [a2S h,E8];exact c5 _ (by rw [a2W];exact⟨λq=>⟨h,q⟩,λq=>q.2⟩) n1 n2 n3
    ·rw [a2Y h,E3];exact c5 _ ⟨(λq=>by cases q),λq=>absurd q.1 h⟩ n1 n2 n3
  have c3:∀ v:Bool,(v=true ↔ (f.num=2/\f.kind=0))->¬ (f.num=1/\f.kind=2)->G (Z4 (l.map toF) (((l.map toF).length:Nat):Int) ((i:Nat):Int) v [] 0 0 0 [] t.1 t.2.1 t.2.2.1 t.2.2.2.1 t.2.2.2.2.1 (toF f) t.2.2.2.2.2):=by
   intro v hv n1;unfold Z4;rw [qn,qk,qv,hw];cases v with
   | true=>
    have h6:=hv.1 rfl;refine gyes (.inr (.inl h6)) (t.1,((f.val:Nat):Int),t.2.2.1,t.2.2.2.1,t.2.2.2.2.1,t.2.2.2.2.2) ?_ (a3u hlt);unfold sd;rw [a25 (by omega),a28 h6.1]
   | false=>
    have n2:¬ (f.num=2/\f.kind=0):=λh=>by have:=hv.2 h;cases this
    rw [E3];by_cases h:f.num=3
    ·rw [a2S h,E8];exact c4 _ (by rw [a2W];exact⟨λq=>⟨h,q⟩,λq=>q.2⟩) n1 n2
    ·rw [a2Y h,E3];exact c4 _ ⟨(λq=>by cases q),λq=>absurd q.1 h⟩ n1 n2
  have c2:∀ v:Bool,(v=true ↔ (f.num=1/\f.kind=2))->G (Z5 (l.map toF) (((l.map toF).length:Nat):Int) ((i:Nat):Int) v [] 0 0 0 [] t.1 t.2.1 t.2.2.1 t.2.2.2.1 t.2.2.2.2.1 (toF f) t.2.2.2.2.2):=by
   intro v hv;unfold Z5;rw [qn,qk,qb,hw];cases v with
   | true=>
    have h6:=hv.1 rfl;refine gyes (.inl h6) (f.byt,t.2.1,t.2.2.1,t.2.2.2.1,t.2.2.2.2.1,t.2.2.2.2.2) ?_ (a3u hlt);unfold sd;rw [a28 h6.1]
   | false=>
    have n1:¬ (f.num=1/\f.kind=2):=λh=>by have:=hv.2 h;cases this
    rw [E3];by_cases h:f.num=2
    ·rw [a2S h,E8];exact c3 _ (by rw [a2W];exact⟨λq=>⟨h,q⟩,λq=>q.2⟩) n1
    ·rw [a2Y h,E3];exact c3 _ ⟨(λq=>by cases q),λq=>absurd q.1 h⟩ n1
  have fin:G (Z6 (l.map toF) (((l.map toF).length:Nat):Int) ((i:Nat):Int) [] 0 0 0 [] t.1 t.2.1 t.2.2.1 t.2.2.2.1 t.2.2.2.2.1 t.2.2.2.2.2):=by
   unfold Z6;rw [a2S (show((i:Nat):Int) < (((l.map toF).length:Nat):Int) by omega),E8,a2S (show(0:Int)<=((i:Nat):Int)/\((i:Nat):Int) < (((l.map toF).length:Nat):Int) by omega),C4,a2T,q3,qn,qk];by_cases h:f.num=1
   ·rw [a2S h,E8];exact c2 _ (by rw [a2W];exact⟨λq=>⟨h,q⟩,λq=>q.2⟩)
   ·rw [a2Y h,E3];exact c2 _ ⟨(λq=>by cases q),λq=>absurd q.1 h⟩
  rw [hG] at fin;exact fin
 ·obtain⟨hv1,hv2,_⟩:=hv;rw [hm,a4g] at hv2;have hx:t=Az l:=hv2;simp only [Z6,A7,D4,A4,B8,a2W,a2U,a2T];refine⟨λhc=>absurd hc (by omega),λ_=>⟨?_,λ_=>hx⟩⟩;exact(OJ λj hj=>by simpa using hv1 j hj (by omega)).symm
theorem Sk (x:A0):(trF x).all (λf=>decide (KQ f))=true:=by
 rw [a4f];intro f hf;unfold trF rh ph at hf;rw [a2W];rcases List.mem_append.1 hf with hf | hf
 ·split at hf
  ·cases hf
  ·simp only [a3o] at hf;subst hf;exact .inl ⟨rfl,rfl⟩
 ·split at hf
  ·cases hf
  ·simp only [a3o] at hf;subst hf;exact .inr ⟨rfl,rfl⟩
theorem OK {x:A0} (h:TrS x):zB (iJ (trF x))=true:=by
 have hs:=OE h;have hl:(trF x).length<=2:=by unfold trF;rw [a2V];have:=nQ 1 x.1;have:=oK 2 x.2;omega
 have hf:=yM (trF x) (by omega) (λf hf=>⟨(hs f hf).1,(hs f hf).2.1,by have:=(hs f hf).2.2;unfold U64;omega⟩);unfold zB;rw [OI h,hf];simp [Sk x]
theorem IW {n:Int} {s:List UInt8} (h:n=1\/n=5):∀ f ∈ rh n s,GF f:=by
 intro f hf;unfold rh at hf;split at hf
 ·cases hf
 ·simp only [a3o] at hf;subst hf;rcases h with rfl | rfl
  ·exact .inl ⟨rfl,rfl⟩
  ·exact .inr (.inr (.inr (.inr (.inl ⟨rfl,rfl⟩))))
theorem Cu {n v:Int} (h:n=2\/n=3\/n=4):∀ f ∈ ph n v,GF f:=by
 intro f hf;unfold ph at hf;split at hf
 ·cases hf
 ·simp only [a3o] at hf;subst hf;rcases h with rfl | rfl | rfl
  ·exact .inr (.inl ⟨rfl,rfl⟩)
  ·exact .inr (.inr (.inl ⟨rfl,rfl⟩))
  ·exact .inr (.inr (.inr (.inl ⟨rfl,rfl⟩)))
theorem Sl {t:C5} (h:TxS t):(txF t).all (λf=>decide (GF f))=true:=by
 rw [a4f];intro f hf;rw [a2W];unfold txF hdF at hf;simp only [a4E,List.mem_map] at hf;rcases hf with(hf | hf | hf | hf | hf) | ⟨x,hx,rfl⟩
 ·exact IW (.inl rfl) f hf
 ·exact Cu (.inl rfl) f hf
 ·exact Cu (.inr (.inl rfl)) f hf
 ·exact Cu (.inr (.inr rfl)) f hf
 ·exact IW (.inr rfl) f hf
 ·exact .inr (.inr (.inr (.inr (.inr ⟨rfl,rfl,OK (h.2.2.2.2.2.2 x hx)⟩))))
theorem AA {raw:List UInt8} (hraw:raw.length<=140737488351232):R1 raw=some (gR raw):=by
 rw [<-J3];unfold gR;have hz:(([],(0:Int),(0:Int),(0:Int),[],[]):C5)=jZ:=rfl;by_cases h:4096 < raw.length
 ·rw [a28 h];simp only [R1,A7,A5,A4,a2W,a2U,a20,a2Z,hz];exact⟨λ_=>trivial,λhc=>absurd hc (by omega)⟩
 ·rw [a25 h];have hs:=Wc (raw:=raw) (by omega);have hf:=oi raw (by omega);rw [(FSm.fields_same raw (by omega)).1] at hf;obtain⟨r,hr,r1,r2⟩:=Sj (nr raw).1 (by have:=sE raw;omega) (λf hf=>by have:=pU raw f hf;omega);simp only [R1,A7,A5,A4,a2W,a2U,a20,a2Z,hz,hf,hr];refine⟨λhc=>absurd hc (by omega),λ_=>⟨λh1=>?_,λh1=>⟨λh2=>?_,λh2=>?_⟩⟩⟩
  ·rw [a28 (by omega)]
  ·rw [a25 (by omega),a25 (λe=>?_)];have e2:=Si (L:=txF (Az (nr raw).1)) (raw:=raw) (λf hf=>by have:=Zr hs f hf;exact⟨this.1,this.2.1,by have:=this.2.2;unfold U64;omega⟩) e (by omega);have e3:=Sl hs;rw [<-e2,<-r1,h2] at e3;cases e3
  ·have hx:=r2 h2;rw [hx];simp only [OH hs,G6,Ef hs.b,A4,a2W,a2U];refine⟨λh2=>?_,λh2=>⟨λh3=>?_,λh3=>?_⟩⟩
   ·rw [a25 (by omega),a25 h2]
   ·rw [a25 (by omega),a28 h2,a25 h3]
   ·rw [a25 (by omega),a28 h2,a28 h3]
theorem IX:TxS jZ:=⟨by simp [jZ],⟨by decide,by decide⟩,⟨by decide,by decide⟩,⟨by decide,by decide⟩,by simp [jZ],by simp [jZ],by simp [jZ]⟩
theorem vv (raw:List UInt8):TxS (gR raw).1:=by
 unfold gR;split
 ·exact IX
 ·rename_i h;have hs:=Wc (raw:=raw) (by omega);split
  ·exact IX
  ·split
   ·split
    ·exact hs
    ·exact IX
   ·exact IX
theorem Wd {raw:List UInt8} (h:(gR raw).2=0):kq (gR raw).1=0/\iJ (txF (gR raw).1)=raw/\raw.length<=4096:=by
 unfold gR at h ⊢;by_cases h1:4096 < raw.length
 ·rw [a28 h1] at h;cases h
 ·rw [a25 h1] at h ⊢;by_cases h2:(nr raw).2.2 ≠ 0
  ·rw [a28 h2] at h;cases h
  ·rw [a25 h2] at h ⊢;by_cases h3:iJ (txF (Az (nr raw).1))=raw
   ·rw [a28 h3] at h ⊢;by_cases h4:kq (Az (nr raw).1)=0
    ·rw [a28 h4];exact⟨h4,h3,by omega⟩
    ·rw [a25 h4] at h;exact absurd h h4
   ·rw [a25 h3] at h;cases h
end Go.Proofs.YtjbgdpjgfjnkbaaGreatDoor.Am
