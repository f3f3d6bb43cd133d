/- Texts laid together: PDec2, PDecT, PApply, PTx, PStep, PKeep, PPlace, PNum, PMakeAc, PMakeTx, PLedG, PStepM, PAppM, PShaB. No conditions. -/
import Derived.Test.YtjbgdpjgfjnkbaaGreatDoorQAD
namespace Go.Proofs.YtjbgdpjgfjnkbaaGreatDoor.Am
open Go
theorem Vd(l:List Fld) (hl:l.length<=2000) (hb:∀f∈l,f.byt.length<=10000):Ok (ia (l.map toF)) λr=>r.2=l.all (λf=>decide (Jf f))/\(r.2=true->r.1=CC l):=by
 have hm:(l.map toF).length=l.length:=a5X ..;unfold ia mc;refine C8 (l.map toF) (λi (t:C2)=>(l.map toF,(((l.map toF).length:Nat):Int),((i:Nat):Int),([]:List UInt8),(0:Int),(0:Int),(0:Int),([]:List UInt8),t.1,t.2.1,t.2.2.1,t.2.2.2.1,t.2.2.2.2.1,t.2.2.2.2.2)) (λi t=>(∀j (hj:j<l.length),j<i->Jf l[j])/\(l.drop i).foldl tI t=CC l/\t.2.2.2.2.2.length<=i) (λi t hi hv=>?_) (λt hv=>?_) (b0:=kO) ⟨λj hj h=>by omega,rfl,by simp[kO]⟩ (by omega)
 ·obtain⟨hv1,hv2,hlt⟩:=hv;have hi':i<l.length:=by omega
  have q3:List.getD (l.map toF) i D6=toF l[i]:=by rw[C9 hi,a6J]
  rw[a6n hi',a67]at hv2;have htr:=GC (hb _ (a5V hi'));have hfi:(l.drop (i+1)).foldl tI (tI t l[i])=CC l:=hv2;clear hv2;have no:¬Jf l[i]->∀y:C2,(false=l.all (λf=>decide (Jf f))/\(false=true->y=CC l)):=λhn y=>by
   rw[Xb hi' (by simpa using hn)];exact⟨rfl,λh=>by cases h⟩
  have yes:Jf l[i]->(tI t l[i]).2.2.2.2.2.length<=i+1->((∀j (hj:j<l.length),j<i+1->Jf l[j])/\(l.drop (i+1)).foldl tI (tI t l[i])=CC l/\(tI t l[i]).2.2.2.2.2.length<=i+1):=λho h=>by
   refine⟨λj hj hlt=>?_,hfi,h⟩;by_cases e:j=i
   ·subst e;exact ho
   ·exact hv1 j hj (by omega)
  generalize hf:l[i]=f at *
  have qn:(toF f).1=f.num:=rfl;have qk:(toF f).2.1=f.kind:=rfl;have qb:(toF f).2.2.2=f.byt:=rfl;have qv:(toF f).2.2.1=((f.val:Nat):Int):=rfl;obtain⟨G,hG⟩:∃G:Option ((List A3×Int×Int×List UInt8×Int×Int×Int×List UInt8×List UInt8×Int×Int×Int×List UInt8×List A0)⊕(C2×Bool))->Prop,G=λo=>Ok o (Nxt (λr:C2×Bool=>r.2=l.all (λf=>decide (Jf f))/\(r.2=true->r.1=CC l)) λz=>∃b',z=(l.map toF,(((l.map toF).length:Nat):Int),((i+1:Nat):Int),([]:List UInt8),(0:Int),(0:Int),(0:Int),([]:List UInt8),b'.1,b'.2.1,b'.2.2.1,b'.2.2.2.1,b'.2.2.2.2.1,b'.2.2.2.2.2)/\(∀j (hj:j<l.length),j<i+1->Jf l[j])/\(l.drop (i+1)).foldl tI b'=CC l/\b'.2.2.2.2.2.length<=i+1):=⟨_,rfl⟩;have gno:¬Jf f->∀y:C2,G (some (.inr (y,false))):=λhn y=>by rw[hG];exact⟨_,rfl,no hn y⟩
  have gyes:Jf f->∀y:C2,y=tI t f->y.2.2.2.2.2.length<=i+1->G (some (.inl (l.map toF,(((l.map toF).length:Nat):Int),((i+1:Nat):Int),([]:List UInt8),(0:Int),(0:Int),(0:Int),([]:List UInt8),y.1,y.2.1,y.2.2.1,y.2.2.2.1,y.2.2.2.2.1,y.2.2.2.2.2))):=λho y hy hle=>by
   subst hy;rw[hG];exact⟨_,rfl,tI t f,rfl,yes ho hle⟩
  have hw:=C1 (i:=i) (by omega);have c7:∀v:Bool,(v=true↔(f.num=6/\f.kind=2))->¬(f.num=1/\f.kind=2)->¬(f.num=2/\f.kind=0)->¬(f.num=3/\f.kind=0)->¬(f.num=4/\f.kind=0)->¬(f.num=5/\f.kind=2)->G (aw (l.map toF) (((l.map toF).length:Nat):Int) ((i:Nat):Int) v [] 0 0 0 [] t.1 t.2.1 t.2.2.1 t.2.2.2.1 t.2.2.2.2.1 (toF f) t.2.2.2.2.2):=by
   intro v hv n1 n2 n3 n4 n5;unfold aw;cases v with
   |false=>
    rw[D3];refine gno ?_ _;have:¬(f.num=6/\f.kind=2):=λh=>by have:=hv.2 h;cases this
    rintro(h|h|h|h|h|⟨h,h',_⟩)
    ·exact n1 h
    ·exact n2 h
    ·exact n3 h
    ·exact n4 h
    ·exact n5 h
    ·exact this ⟨h,h'⟩
   |true=>
    have h6:=hv.1 rfl;rw[D1,qb];obtain⟨r,hr,r1,r2⟩:=htr;rw[hr,a5I,hw];cases hb2:BE f.byt with
    |false=>
     rw[r1,hb2];refine gno ?_ t;rintro(h|h|h|h|h|⟨h,h',h''⟩)
     ·exact n1 h
     ·exact n2 h
     ·exact n3 h
     ·exact n4 h
     ·exact n5 h
     ·rw[hb2]at h'';cases h''
    |true=>
     rw[r1,hb2,r2 hb2,a6a,D3];have c:decide ((t.2.2.2.2.2.length+1)*24<=LIM/\t.2.2.2.2.2.length+1<=LEN)=true:=a5H ⟨by unfold LIM;omega,by unfold LEN;omega⟩;rw[c,B7];refine gyes (.inr (.inr (.inr (.inr (.inr ⟨h6.1,h6.2,hb2⟩))))) (t.1,t.2.1,t.2.2.1,t.2.2.2.1,t.2.2.2.2.1,t.2.2.2.2.2++[yO f.byt]) ?_ ?_
     ·unfold tI;rw[a5U (by omega),a5U (by omega),a5U (by omega),a5U (by omega),a5U (by omega),a5W h6.1]
     ·simp only[a5K,a54,a6v];omega
  have c6:∀v:Bool,(v=true↔(f.num=5/\f.kind=2))->¬(f.num=1/\f.kind=2)->¬(f.num=2/\f.kind=0)->¬(f.num=3/\f.kind=0)->¬(f.num=4/\f.kind=0)->G (ay (l.map toF) (((l.map toF).length:Nat):Int) ((i:Nat):Int) v [] 0 0 0 [] t.1 t.2.1 t.2.2.1 t.2.2.2.1 t.2.2.2.2.1 (toF f) t.2.2.2.2.2):=by
   intro v hv n1 n2 n3 n4;unfold ay;rw[qn,qk,qb,hw];cases v with
   |true=>
    have h6:=hv.1 rfl;refine gyes (.inr (.inr (.inr (.inr (.inl h6))))) (t.1,t.2.1,t.2.2.1,t.2.2.2.1,f.byt,t.2.2.2.2.2) ?_ (a6i hlt);unfold tI;rw[a5U (by omega),a5U (by omega),a5U (by omega),a5U (by omega),a5W h6.1]
   |false=>
    have n5:¬(f.num=5/\f.kind=2):=λh=>by have:=hv.2 h;cases this
    rw[D3];by_cases h:f.num=6
    ·rw[a5H h,D1];exact c7 _ (by rw[a5M];exact⟨λq=>⟨h,q⟩,λq=>q.2⟩) n1 n2 n3 n4 n5
    ·rw[a5N h,D3];exact c7 _ ⟨(λq=>by cases q),λq=>absurd q.1 h⟩ n1 n2 n3 n4 n5
  have c5:∀v:Bool,(v=true↔(f.num=4/\f.kind=0))->¬(f.num=1/\f.kind=2)->¬(f.num=2/\f.kind=0)->¬(f.num=3/\f.kind=0)->G (az (l.map toF) (((l.map toF).length:Nat):Int) ((i:Nat):Int) v [] 0 0 0 [] t.1 t.2.1 t.2.2.1 t.2.2.2.1 t.2.2.2.2.1 (toF f) t.2.2.2.2.2):=by
   intro v hv n1 n2 n3;unfold az;rw[qn,qk,qv,hw];cases v with
   |true=>
    have h6:=hv.1 rfl;refine gyes (.inr (.inr (.inr (.inl h6)))) (t.1,t.2.1,t.2.2.1,((f.val:Nat):Int),t.2.2.2.2.1,t.2.2.2.2.2) ?_ (a6i hlt);unfold tI;rw[a5U (by omega),a5U (by omega),a5U (by omega),a5W h6.1]
   |false=>
    have n4:¬(f.num=4/\f.kind=0):=λh=>by have:=hv.2 h;cases this
    rw[D3];by_cases h:f.num=5
    ·rw[a5H h,D1];exact c6 _ (by rw[a5M];exact⟨λq=>⟨h,q⟩,λq=>q.2⟩) n1 n2 n3 n4
    ·rw[a5N h,D3];exact c6 _ ⟨(λq=>by cases q),λq=>absurd q.1 h⟩ n1 n2 n3 n4
  have c4:∀v:Bool,(v=true↔(f.num=3/\f.kind=0))->¬(f.num=1/\f.kind=2)->¬(f.num=2/\f.kind=0)->G (aA (l.map toF) (((l.map toF).length:Nat):Int) ((i:Nat):Int) v [] 0 0 0 [] t.1 t.2.1 t.2.2.1 t.2.2.2.1 t.2.2.2.2.1 (toF f) t.2.2.2.2.2):=by
   intro v hv n1 n2;unfold aA;rw[qn,qk,qv,hw];cases v with
   |true=>
    have h6:=hv.1 rfl;refine gyes (.inr (.inr (.inl h6))) (t.1,t.2.1,((f.val:Nat):Int),t.2.2.2.1,t.2.2.2.2.1,t.2.2.2.2.2) ?_ (a6i hlt);unfold tI;rw[a5U (by omega),a5U (by omega),a5W h6.1]
   |false=>
    have n3:¬(f.num=3/\f.kind=0):=λh=>by have:=hv.2 h;cases this
    rw[D3];by_cases h:f.num=4
    ·rw[a5H h,D1];exact c5 _ (by rw[a5M];exact⟨λq=>⟨h,q⟩,λq=>q.2⟩) n1 n2 n3
    ·rw[a5N h,D3];exact c5 _ ⟨(λq=>by cases q),λq=>absurd q.1 h⟩ n1 n2 n3
  have c3:∀v:Bool,(v=true↔(f.num=2/\f.kind=0))->¬(f.num=1/\f.kind=2)->G (aB (l.map toF) (((l.map toF).length:Nat):Int) ((i:Nat):Int) v [] 0 0 0 [] t.1 t.2.1 t.2.2.1 t.2.2.2.1 t.2.2.2.2.1 (toF f) t.2.2.2.2.2):=by
   intro v hv n1;unfold aB;rw[qn,qk,qv,hw];cases v with
   |true=>
    have h6:=hv.1 rfl;refine gyes (.inr (.inl h6)) (t.1,((f.val:Nat):Int),t.2.2.1,t.2.2.2.1,t.2.2.2.2.1,t.2.2.2.2.2) ?_ (a6i hlt);unfold tI;rw[a5U (by omega),a5W h6.1]
   |false=>
    have n2:¬(f.num=2/\f.kind=0):=λh=>by have:=hv.2 h;cases this
    rw[D3];by_cases h:f.num=3
    ·rw[a5H h,D1];exact c4 _ (by rw[a5M];exact⟨λq=>⟨h,q⟩,λq=>q.2⟩) n1 n2
    ·rw[a5N h,D3];exact c4 _ ⟨(λq=>by cases q),λq=>absurd q.1 h⟩ n1 n2
  have c2:∀v:Bool,(v=true↔(f.num=1/\f.kind=2))->G (aC (l.map toF) (((l.map toF).length:Nat):Int) ((i:Nat):Int) v [] 0 0 0 [] t.1 t.2.1 t.2.2.1 t.2.2.2.1 t.2.2.2.2.1 (toF f) t.2.2.2.2.2):=by
   intro v hv;unfold aC;rw[qn,qk,qb,hw];cases v with
   |true=>
    have h6:=hv.1 rfl;refine gyes (.inl h6) (f.byt,t.2.1,t.2.2.1,t.2.2.2.1,t.2.2.2.2.1,t.2.2.2.2.2) ?_ (a6i hlt);unfold tI;rw[a5W h6.1]
   |false=>
    have n1:¬(f.num=1/\f.kind=2):=λh=>by have:=hv.2 h;cases this
    rw[D3];by_cases h:f.num=2
    ·rw[a5H h,D1];exact c3 _ (by rw[a5M];exact⟨λq=>⟨h,q⟩,λq=>q.2⟩) n1
    ·rw[a5N h,D3];exact c3 _ ⟨(λq=>by cases q),λq=>absurd q.1 h⟩ n1
  have fin:G (aD (l.map toF) (((l.map toF).length:Nat):Int) ((i:Nat):Int) [] 0 0 0 [] t.1 t.2.1 t.2.2.1 t.2.2.2.1 t.2.2.2.2.1 t.2.2.2.2.2):=by
   unfold aD;rw[a5H (show((i:Nat):Int)<(((l.map toF).length:Nat):Int) by omega),D1,a5H (show(0:Int)<=((i:Nat):Int)/\((i:Nat):Int)<(((l.map toF).length:Nat):Int) by omega),B7,a5J,q3,qn,qk];by_cases h:f.num=1
   ·rw[a5H h,D1];exact c2 _ (by rw[a5M];exact⟨λq=>⟨h,q⟩,λq=>q.2⟩)
   ·rw[a5N h,D3];exact c2 _ ⟨(λq=>by cases q),λq=>absurd q.1 h⟩
  rw[hG]at fin;exact fin
 ·obtain⟨hv1,hv2,_⟩:=hv;rw[hm,a7b]at hv2;have hx:t=CC l:=hv2;simp only[aD,A5,D8,A1,B5,a5M,a5L,a5J];refine⟨λhc=>absurd hc (by omega),λ_=>⟨?_,λ_=>hx⟩⟩;exact(QU λj hj=>by simpa using hv1 j hj (by omega)).symm
theorem Ve(x:A0):(trF x).all (λf=>decide (Nk f))=true:=by
 rw[a7a];intro f hf;unfold trF sJ qB at hf;rw[a5M];rcases List.mem_append.1 hf with hf|hf
 ·split at hf
  ·cases hf
  ·simp only[a6b]at hf;subst hf;exact .inl ⟨rfl,rfl⟩
 ·split at hf
  ·cases hf
  ·simp only[a6b]at hf;subst hf;exact .inr ⟨rfl,rfl⟩
theorem QV{x:A0}(h:TrS x):BE (jr (trF x))=true:=by
 have hs:=QO h;have hl:(trF x).length<=2:=by unfold trF;rw[a5K];have:=oX 1 x.1;have:=qd 2 x.2;omega
 have hf:=AP (trF x) (by omega) (λf hf=>⟨(hs f hf).1,(hs f hf).2.1,by have:=(hs f hf).2.2;unfold U64;omega⟩);unfold BE;rw[QS h,hf];simp[Ve x]
theorem Lo{n:Int}{s:List UInt8}(h:n=1\/n=5):∀f∈sJ n s,Jf f:=by
 intro f hf;unfold sJ at hf;split at hf
 ·cases hf
 ·simp only[a6b]at hf;subst hf;rcases h with rfl|rfl
  ·exact .inl ⟨rfl,rfl⟩
  ·exact .inr (.inr (.inr (.inr (.inl ⟨rfl,rfl⟩))))
theorem Es{n v:Int}(h:n=2\/n=3\/n=4):∀f∈qB n v,Jf f:=by
 intro f hf;unfold qB at hf;split at hf
 ·cases hf
 ·simp only[a6b]at hf;subst hf;rcases h with rfl|rfl|rfl
  ·exact .inr (.inl ⟨rfl,rfl⟩)
  ·exact .inr (.inr (.inl ⟨rfl,rfl⟩))
  ·exact .inr (.inr (.inr (.inl ⟨rfl,rfl⟩)))
theorem Vf{t:C2}(h:TxS t):(txF t).all (λf=>decide (Jf f))=true:=by
 rw[a7a];intro f hf;rw[a5M];unfold txF hdF at hf;simp only[a6Z,List.mem_map]at hf;rcases hf with(hf|hf|hf|hf|hf)|⟨x,hx,rfl⟩
 ·exact Lo (.inl rfl) f hf
 ·exact Es (.inl rfl) f hf
 ·exact Es (.inr (.inl rfl)) f hf
 ·exact Es (.inr (.inr rfl)) f hf
 ·exact Lo (.inr rfl) f hf
 ·exact .inr (.inr (.inr (.inr (.inr ⟨rfl,rfl,QV (h.2.2.2.2.2.2 x hx)⟩))))
theorem CD{raw:List UInt8}(hraw:raw.length<=140737488351232):S8 raw=some (iM raw):=by
 rw[<-J1];unfold iM;have hz:(([],(0:Int),(0:Int),(0:Int),[],[]):C2)=kO:=rfl;by_cases h:4096<raw.length
 ·rw[a5W h];simp only[S8,A5,A4,A1,a5M,a5L,a5R,a5Q,hz];exact⟨λ_=>trivial,λhc=>absurd hc (by omega)⟩
 ·rw[a5U h];have hs:=YS (raw:=raw) (by omega);have hf:=pB raw (by omega);rw[(FSm.fields_same raw (by omega)).1]at hf;obtain⟨r,hr,r1,r2⟩:=Vd (oy raw).1 (by have:=uh raw;omega) (λf hf=>by have:=rm raw f hf;omega);simp only[S8,A5,A4,A1,a5M,a5L,a5R,a5Q,hz,hf,hr];refine⟨λhc=>absurd hc (by omega),λ_=>⟨λh1=>?_,λh1=>⟨λh2=>?_,λh2=>?_⟩⟩⟩
  ·rw[a5W (by omega)]
  ·rw[a5U (by omega),a5U (λe=>?_)];have e2:=Vc (L:=txF (CC (oy raw).1)) (raw:=raw) (λf hf=>by have:=a2i hs f hf;exact⟨this.1,this.2.1,by have:=this.2.2;unfold U64;omega⟩) e (by omega);have e3:=Vf hs;rw[<-e2,<-r1,h2]at e3;cases e3
  ·have hx:=r2 h2;rw[hx];simp only[QR hs,G8,Gy hs.b,A1,a5M,a5L];refine⟨λh2=>?_,λh2=>⟨λh3=>?_,λh3=>?_⟩⟩
   ·rw[a5U (by omega),a5U h2]
   ·rw[a5U (by omega),a5W h2,a5U h3]
   ·rw[a5U (by omega),a5W h2,a5W h3]
theorem Lp:TxS kO:=⟨by simp[kO],⟨by decide,by decide⟩,⟨by decide,by decide⟩,⟨by decide,by decide⟩,by simp[kO],by simp[kO],by simp[kO]⟩
theorem yB(raw:List UInt8):TxS (iM raw).1:=by
 unfold iM;split
 ·exact Lp
 ·rename_i h;have hs:=YS (raw:=raw) (by omega);split
  ·exact Lp
  ·split
   ·split
    ·exact hs
    ·exact Lp
   ·exact Lp
theorem YT{raw:List UInt8}(h:(iM raw).2=0):lu (iM raw).1=0/\jr (txF (iM raw).1)=raw/\raw.length<=4096:=by
 unfold iM at h⊢;by_cases h1:4096<raw.length
 ·rw[a5W h1]at h;cases h
 ·rw[a5U h1]at h⊢;by_cases h2:(oy raw).2.2≠0
  ·rw[a5W h2]at h;cases h
  ·rw[a5U h2]at h⊢;by_cases h3:jr (txF (CC (oy raw).1))=raw
   ·rw[a5W h3]at h⊢;by_cases h4:lu (CC (oy raw).1)=0
    ·rw[a5W h4];exact⟨h4,h3,by omega⟩
    ·rw[a5U h4]at h;exact absurd h h4
   ·rw[a5U h3]at h;cases h
abbrev TR:=A0
theorem jY{l:List o5}{n:List UInt8}:I2 l n<l.length↔n∈J0 l:=wV
def bn(l:List o5) (x:TR):List o5:=if I2 l x.1<l.length then KX l ((l.getD (I2 l x.1) A6).1,D4 ((l.getD (I2 l x.1) A6).2.1+x.2),(l.getD (I2 l x.1) A6).2.2)else KX l (x.1,D4 (0+x.2),0)
theorem se{l:List o5}{x:TR}(h:I2 l x.1<l.length):bn l x=l.set (I2 l x.1) (l[I2 l x.1].1,D4 (l[I2 l x.1].2.1+x.2),l[I2 l x.1].2.2):=by
 unfold bn;rw[a5W h,C9 h];unfold KX;dsimp only;rw[jI h,a5W h]
theorem ui{l:List o5}{x:TR}(h:¬I2 l x.1<l.length):bn l x=l.take (K0 l x.1)++(x.1,D4 (0+x.2),0)::l.drop (K0 l x.1):=by
 unfold bn;rw[a5U h];unfold KX;dsimp only;rw[a5U h]
theorem Et{l:List o5}{x:TR}(hs:Srt l):Srt (bn l x):=by
 unfold bn;split <;> exact AM hs
theorem wZ(l:List o5) (x:TR):(bn l x).length=if I2 l x.1<l.length then l.length else l.length+1:=by
 by_cases h:I2 l x.1<l.length
 ·rw[se h,a5W h,a6z]
 ·rw[ui h,a5U h,(qa _ _).length_eq];rfl
theorem GD{l:List o5}{i:Nat}(h:i<l.length){a:o5}(e:a.1=l[i].1):J0 (l.set i a)=J0 l:=by
 unfold J0;rw[a8h,e];have:(l.map λa=>a.1)[i]'(by rw[a5X];exact h)=l[i].1:=a6J ..;rw[<-this,List.set_getElem_self]
theorem lQ(l:List o5) (x:TR) (n:List UInt8):n∈J0 (bn l x)↔n=x.1\/n∈J0 l:=by
 by_cases h:I2 l x.1<l.length
 ·rw[se h,GD (a:=(l[I2 l x.1].1,D4 (l[I2 l x.1].2.1+x.2),l[I2 l x.1].2.2)) h rfl];constructor
  ·exact .inr
  ·rintro(rfl|h1)
   ·exact jY.1 h
   ·exact h1
 ·rw[ui h,xP (qa _ _)];unfold J0;rw[a55,a7l]
theorem Lq{l:List o5}{x:TR}{a:o5}(h:a∈bn l x):a∈l\/(a.1=x.1/\okU a.2.1/\((a.2.2=0)\/∃b∈l,b.1=a.1/\a.2.2=b.2.2)):=by
 by_cases hf:I2 l x.1<l.length
 ·rw[se hf]at h;rcases a6C h with h|rfl
  ·exact .inl h
  ·exact .inr ⟨jI hf,Y2 _,.inr ⟨_,a5V hf,rfl,rfl⟩⟩
 ·rw[ui hf]at h;rcases List.mem_cons.1 ((qa _ _).mem_iff.1 h)with rfl|h
  ·exact .inr ⟨rfl,Y2 _,.inl rfl⟩
  ·exact .inl h
theorem YU{l:List Int}(h:∀x∈l,okU x) (hl:l.length<=5000000000000):jO l=some (xk l.sum):=by
 have hnn:∀x∈l,0<=x:=λx hx=>(h x hx).1;rw[<-J1];unfold jO nE;refine C8 l (λi (b:Int)=>(b,l,((l.length:Nat):Int),((i:Nat):Int))) (λi b=>b=(l.take i).sum/\okU b) (λi b hi hv=>?_) (λb hv=>?_) (b0:=0) ⟨by simp,by unfold okU;omega⟩ (by omega)
 ·obtain⟨hb,hb1⟩:=hv;have h1:=h l[i] (a5V hi);have h2:=vO hnn (i+1);have h3:=KS hi;have h4:=h1.1;have h5:=hb1.1;unfold fU;dsimp only;rw[a5H (by omega:(i:Int)<((l.length:Nat):Int)),D1,a5H (by omega:(0:Int)<=(i:Int)/\(i:Int)<((l.length:Nat):Int)),B7,a5J,C9 hi,Qp hb1 h1,a5I,C1 (by omega)];unfold xk;by_cases hs:b+l[i]<18446744073709551616
  ·rw[a5W hs];simp only[a6a,D3,A1,A8];exact⟨_,rfl,by rw[h3,hb],by unfold okU;omega⟩
  ·rw[a5U hs];simp only[a6g,D1,A1,B5];rw[a5U (by omega)]
 ·obtain⟨hb,hb1⟩:=hv;rw[a52]at hb;unfold fU;dsimp only;rw[a5N (by omega),D3,A1,B5];unfold xk;rw[a5W (by rw[<-hb];exact hb1.2),hb]
def cK(t:C2):Int×Bool:=xk (t.2.2.2.1+(t.2.2.2.2.2.map λx=>x.2).sum)
theorem Xc{t:C2}(h:TxS t):∀x∈t.2.2.2.1::(t.2.2.2.2.2.map λx=>x.2),okU x:=λx hx=>by
 rcases List.mem_cons.1 hx with rfl|hx
 ·exact h.2.2.2.1
 ·obtain⟨y,hy,rfl⟩:=List.mem_map.1 hx;exact(h.2.2.2.2.2.2 y hy).2
theorem GE{t:C2}(h:TxS t):nH t=some (cK t):=by
 have hl:=h.2.2.2.2.2.1;have hc:=Xc h;obtain⟨t0,t1,t2,t3,t4,l⟩:=t;dsimp only at hl hc⊢;rw[<-J1];unfold nH sq;dsimp only;refine C8 l (λi (b:List Int)=>(l,((l.length:Nat):Int),((i:Nat):Int),b)) (λi b=>b=t3::(l.take i).map λx=>x.2) (λi b hi hv=>?_) (λb hv=>?_) (b0:=[t3]) rfl (by omega)
 ·have hbl:b.length=i+1:=by rw[hv];simp only[a54,a5X,a5T];omega
  unfold ml;dsimp only;rw[a5H (by omega:(i:Int)<((l.length:Nat):Int)),D1,a5H (by omega:(0:Int)<=(i:Int)/\(i:Int)<((l.length:Nat):Int)),B7,a5H (by rw[hbl];exact⟨by unfold LIM;omega,by unfold LEN;omega⟩),B7,a5J,C9 hi,A1,A8,C1 (by omega)];exact⟨_,rfl,by rw[E4 hi,a53,hv];rfl⟩
 ·rw[a52]at hv;unfold ml po;dsimp only;rw[a5N (by omega),D3,hv,KT hc (by simp only[a54,a5X];omega),a5I,a6e,A1,B5,a63];rfl
theorem Lr{t:C2}(h:TxS t):dz t=some (cK t):=by
 have hl:=h.2.2.2.2.2.1;have hc:=Xc h;obtain⟨t0,t1,t2,t3,t4,l⟩:=t;dsimp only at hl hc⊢;rw[<-J1];unfold dz mf;dsimp only;refine C8 l (λi (b:List Int)=>(l,((l.length:Nat):Int),((i:Nat):Int),b)) (λi b=>b=t3::(l.take i).map λx=>x.2) (λi b hi hv=>?_) (λb hv=>?_) (b0:=[t3]) rfl (by omega)
 ·have hbl:b.length=i+1:=by rw[hv];simp only[a54,a5X,a5T];omega
  unfold dY;dsimp only;rw[a5H (by omega:(i:Int)<((l.length:Nat):Int)),D1,a5H (by omega:(0:Int)<=(i:Int)/\(i:Int)<((l.length:Nat):Int)),B7,a5H (by rw[hbl];exact⟨by unfold LIM;omega,by unfold LEN;omega⟩),B7,a5J,C9 hi,A1,A8,C1 (by omega)];exact⟨_,rfl,by rw[E4 hi,a53,hv];rfl⟩
 ·rw[a52]at hv;unfold dY iU;dsimp only;rw[a5N (by omega),D3,hv,YU hc (by simp only[a54,a5X];omega),a5I,a6e,A1,B5,a63];rfl
def jq(l:List o5) (n:List UInt8) (sum:Int):List o5:=KX l ((NO l n).1.1,D4 ((NO l n).1.2.1-sum),D4 ((NO l n).1.2.2+1))
def xa(g:o8) (t:C2) (sum:Int):o8:=(t.2.2.2.2.2.foldl bn (jq g.1 t.1 sum),D4 (g.2+t.2.2.2.1))
theorem nu{l:List o5}{n:List UInt8}{sum:Int}(h:I2 l n<l.length):jq l n sum=l.set (I2 l n) (l[I2 l n].1,D4 (l[I2 l n].2.1-sum),D4 (l[I2 l n].2.2+1)):=by
 unfold jq NO;rw[a5W h,C9 h];unfold KX;dsimp only;rw[jI h,a5W h]
theorem AS{l:List TR}{i:Nat}(h:i<l.length) (a:List o5):(l.take (i+1)).foldl bn a=bn ((l.take i).foldl bn a) l[i]:=by
 rw[E4 h,a7Q];rfl
theorem Eu(l:List TR) (a:List o5):(l.foldl bn a).length<=a.length+l.length:=by
 induction l generalizing a with
 |nil=>simp
 |cons x l ih=>
  have h1:=ih (bn a x);have h2:=wZ a x;rw[a67,a54];split at h2 <;> omega
theorem Ls{l:List TR}{a:List o5}(h:Srt a):Srt (l.foldl bn a):=by
 induction l generalizing a with
 |nil=>exact h
 |cons x l ih=>exact ih (Et h)
theorem Lt{g:o8}{t:C2}{sum:Int}(hl:g.1.length<=4000000000000) (ht:t.2.2.2.2.2.length<=2000):dA g t sum=some (xa g t sum):=by
 have hp:(jq g.1 t.1 sum).length<=g.1.length+1:=by unfold jq;rw[YD];split <;> omega
 rw[<-J1];unfold dA;rw[Qu (by omega),a5I,Eg (by omega),a5I];show Ok (ig t.2.2.2.2.2 (((List.length t.2.2.2.2.2):Nat):Int) 0 g t ([],(0:Int)) (jq g.1 t.1 sum)) _;unfold ig;refine C8 t.2.2.2.2.2 (λi (b:List o5)=>(t.2.2.2.2.2,((t.2.2.2.2.2.length:Nat):Int),((i:Nat):Int),g,t,([],(0:Int)),b)) (λi b=>b=(t.2.2.2.2.2.take i).foldl bn (jq g.1 t.1 sum)) (λi b hi hv=>?_) (λb hv=>?_) (b0:=jq g.1 t.1 sum) rfl (by omega)
 ·have hb:b.length<=g.1.length+1+2000:=by
   have h1:=Eu (t.2.2.2.2.2.take i) (jq g.1 t.1 sum);rw[<-hv,a5T]at h1;omega
  have hnext:bn b t.2.2.2.2.2[i]=(t.2.2.2.2.2.take (i+1)).foldl bn (jq g.1 t.1 sum):=by rw[AS hi,hv]
  unfold dZ;dsimp only;rw[a5H (by omega:(i:Int)<((t.2.2.2.2.2.length:Nat):Int)),D1,a5H (by omega:(0:Int)<=(i:Int)/\(i:Int)<((t.2.2.2.2.2.length:Nat):Int)),B7,a5J,C9 hi,zo (by omega),a5I];by_cases hf:I2 b t.2.2.2.2.2[i].1<b.length
  ·rw[a5W hf,a5H (by omega),D1,a5H (by omega:(0:Int)<=((I2 b t.2.2.2.2.2[i].1:Nat):Int)/\((I2 b t.2.2.2.2.2[i].1:Nat):Int)<((b.length:Nat):Int)),B7,a5J,a5H hf,B7];unfold aF;rw[Eg (by omega),a5I,A1,A8,C1 (by omega)];refine⟨_,rfl,?_⟩;rw[<-hnext];unfold bn;rw[a5W hf]
  ·rw[a5U hf,a5N (by omega),D3];unfold aF;rw[Eg (by omega),a5I,A1,A8,C1 (by omega)];refine⟨_,rfl,?_⟩;rw[<-hnext];unfold bn;rw[a5U hf]
 ·rw[a52]at hv;unfold dZ iV;dsimp only;rw[a5N (by omega),D3,a6e,A1,B5,hv];rfl
theorem uj{g:o8}{n:List UInt8}(hs:Srt g.1) (hl:g.1.length<=4398046511000):io g n=some (((K0 g.1 n:Nat):Int),decide (I2 g.1 n<g.1.length)):=by
 unfold io;rw[IW hs hl];rfl
theorem QW{α:Type}(l:List α) (i:Nat) (a b:α):(l.set i a).set i b=l.set i b:=List.set_set ..
theorem Nl{g:o8}{t:C2}(hs:Srt g.1) (hl:g.1.length<=1000000) (ht:TxS t) (hf:I2 g.1 t.1<g.1.length):oS g.1 g.2 t=some (xa g t (cK t).1):=by
 have htl:=ht.2.2.2.2.2.1;have hp:=xO hs hf;rw[<-J1];unfold oS;rw[GE ht,Option.bind_some,uj (g:=(g.1,g.2)) hs (by dsimp only;omega),Option.bind_some];dsimp only;rw[hp];have hb1:(0:Int)<=((I2 g.1 t.1:Nat):Int)/\((I2 g.1 t.1:Nat):Int)<((g.1.length:Nat):Int):=by omega
 simp only[a5J,a6z];rw[a5H hb1,B7,a5H hf,B7,B7,B7,B7,B7,B7,B7];have hgd:∀a:o5,(g.1.set (I2 g.1 t.1) a).getD (I2 g.1 t.1) A6=a:=λa=>by
  rw[C9 (by rw[a6z];exact hf),List.getElem_set_self]
 rw[hgd,QW,C9 hf];rw[show g.1.set (I2 g.1 t.1) (g.1[I2 g.1 t.1].1,D4 (g.1[I2 g.1 t.1].2.1-(cK t).1),D4 (g.1[I2 g.1 t.1].2.2+1))=jq g.1 t.1 (cK t).1 from(nu hf).symm];have hps:Srt (jq g.1 t.1 (cK t).1):=AM hs;have hpl:(jq g.1 t.1 (cK t).1).length=g.1.length:=by rw[nu hf,a6z]
 unfold qR;refine C8 t.2.2.2.2.2 (λi (b:List o5)=>(t.2.2.2.2.2,((t.2.2.2.2.2.length:Nat):Int),((i:Nat):Int),g.2,t,(0:Int),b)) (λi b=>b=(t.2.2.2.2.2.take i).foldl bn (jq g.1 t.1 (cK t).1)) (λi b hi hv=>?_) (λb hv=>?_) (b0:=jq g.1 t.1 (cK t).1) rfl (by omega)
 ·have hb:b.length<=g.1.length+2000:=by
   have h1:=Eu (t.2.2.2.2.2.take i) (jq g.1 t.1 (cK t).1);rw[<-hv,a5T]at h1;omega
  have hbs:Srt b:=by rw[hv];exact Ls hps
  have hnext:bn b t.2.2.2.2.2[i]=(t.2.2.2.2.2.take (i+1)).foldl bn (jq g.1 t.1 (cK t).1):=by rw[AS hi,hv]
  unfold kT;dsimp only;rw[decide_eq_true (by omega:(i:Int)<((t.2.2.2.2.2.length:Nat):Int)),D1,decide_eq_true (by omega:(0:Int)<=(i:Int)/\(i:Int)<((t.2.2.2.2.2.length:Nat):Int)),B7,Int.toNat_natCast,C9 hi,uj (g:=(b,g.2)) hbs (by dsimp only;omega),Option.bind_some];dsimp only;rw[<-hnext];generalize t.2.2.2.2.2[i]=x;by_cases hx:I2 b x.1<b.length
  ·have hxp:=xO hbs hx;rw[a5H hx,a6a,D3,hxp];unfold iI;rw[a5H (by omega:(0:Int)<=((I2 b x.1:Nat):Int)/\((I2 b x.1:Nat):Int)<((b.length:Nat):Int)),B7,a5J,a5H hx,B7,B7,B7,C9 hx,A1,A8,C1 (by omega)];exact⟨_,rfl,(se hx).symm⟩
  ·have hple:K0 b x.1<=b.length:=Qt _ _;have hins:S2 b ((K0 b x.1:Nat):Int) [(x.1,(0:Int),(0:Int))]=some (b.take (K0 b x.1)++(x.1,(0:Int),(0:Int))::b.drop (K0 b x.1)):=by
    unfold S2 a1V;dsimp only;rw[a5H (by omega),B7,a5J]
   have htk:(b.take (K0 b x.1)).length=K0 b x.1:=by rw[a5T];omega
   have hil:(b.take (K0 b x.1)++(x.1,(0:Int),(0:Int))::b.drop (K0 b x.1)).length=b.length+1:=by rw[(qa _ _).length_eq];rfl
   have hget:(b.take (K0 b x.1)++(x.1,(0:Int),(0:Int))::b.drop (K0 b x.1)).getD (K0 b x.1) A6=(x.1,(0:Int),(0:Int)):=by
    rw[List.getD_eq_getElem?_getD,List.getElem?_append_right (by omega),htk,a7J];rfl
   have hset:(b.take (K0 b x.1)++(x.1,(0:Int),(0:Int))::b.drop (K0 b x.1)).set (K0 b x.1) (x.1,D4 (0+x.2),(0:Int))=bn b x:=by
    rw[ui hx,a7B _ _ (by omega),htk,a7J];rfl
   rw[a5N hx,a6g,D1,hins,a5I];unfold iI;rw[hil,a5H (by omega:(0:Int)<=((K0 b x.1:Nat):Int)/\((K0 b x.1:Nat):Int)<((b.length+1:Nat):Int)),B7,a5J,a5H (by omega:K0 b x.1<b.length+1),B7,B7,B7,hget,A1,A8,C1 (by omega)];exact⟨_,rfl,hset⟩
 ·rw[a52]at hv;unfold kT ot;dsimp only;rw[a5N (by omega),D3,a6e,A1,B5,hv];rfl
def a27(n:Int):Int:=D4 (min (max n 0) 1073741824)
def QX(a b:Int):Int:=D4 (D4 (50+D4 (1*a27 a))+D4 (20*a27 b))
theorem QY(a b:Int):xC a b=some (QX a b):=rfl
theorem Vg(a b:Int):ib a b=some (QX a b):=by
 have h:∀n:Int,aE n=some (a27 n):=λn=>by
  unfold aE a27;rw[show max 0 (min n 1073741824)=min (max n 0) 1073741824 by omega]
 unfold ib;rw[h,a5I,h,a5I];rfl
def BF(a p:Int):Int×Bool:=a18 a.toNat p.toNat
theorem QZ{a p:Int}(ha:okU a) (hp:okU p):ug a p=some (BF a p):=by
 obtain⟨x,rfl⟩:=a6G ha.1;obtain⟨y,rfl⟩:=a6G hp.1;have h1:=ha.2;have h2:=hp.2;unfold ug BF;rw[UN (by omega) (by omega)];rfl
theorem Vh{a p:Int}(ha:okU a) (hp:okU p):ic a p=some (BF a p):=by
 obtain⟨x,rfl⟩:=a6G ha.1;obtain⟨y,rfl⟩:=a6G hp.1;have h1:=ha.2;have h2:=hp.2;unfold ic BF;rw[YF (by omega) (by omega)];rfl
def Jg(fee gas:Int):Int:=QE fee.toNat gas.toNat
theorem Nm{a p:Int}(ha:okU a) (hp:okU p):kC a p=some (Jg a p):=by
 obtain⟨x,rfl⟩:=a6G ha.1;obtain⟨y,rfl⟩:=a6G hp.1;have h1:=ha.2;have h2:=hp.2;unfold Jg;rw[QF (by omega) (by omega)];rfl
theorem Ra{a p:Int}(ha:okU a) (hp:okU p):Z1 a p=some (Jg a p):=by
 obtain⟨x,rfl⟩:=a6G ha.1;obtain⟨y,rfl⟩:=a6G hp.1;have h1:=ha.2;have h2:=hp.2;unfold Jg;rw[UQ (by omega) (by omega)];rfl
theorem Rb{α β:Type}{eq:α->α->Bool}(he:Qv eq){k:α}:∀{l:List (α×β)}{i:Nat},FD eq k l=some i->∃h:i<l.length,l[i].1=k
 |[],i,h=>by cases h
 |p::l,i,h=>by
  unfold FD at h;by_cases hp:eq k p.1=true
  ·rw[a5W hp]at h;cases h;exact⟨by simp,((he _ _).1 hp).symm⟩
  ·rw[a5U hp]at h;cases hm:FD eq k l with
   |none=>rw[hm]at h;cases h
   |some j=>
    rw[hm]at h;cases h;obtain⟨h1,h2⟩:=Rb he hm;exact⟨by simp only[a54];omega,by simpa using h2⟩
theorem YV{l:List (List UInt8×Vector UInt8 0)}{k:List UInt8}{v:Vector UInt8 0}(h:k∈sS l):WF Bo k v l=l:=by
 have hs:=(vP Eh k l).2 h;cases hm:FD Bo k l with
 |none=>rw[hm]at hs;cases hs
 |some i=>
  obtain⟨h1,h2⟩:=Rb Eh hm;unfold WF;rw[hm];show l.set i (k,v)=l;have hv:v=l[i].2:=Vector.ext λj hj=>by omega
  rw[<-h2,hv];exact List.set_getElem_self h1
theorem Nn{g:o8}{t:C2}{P:List o5}(hs:Srt g.1) (hl:g.1.length<=1000000) (ht:t.2.2.2.2.2.length<=2000) (hP:∀n,n∈J0 P↔n∈J0 g.1) (hPl:P.length=g.1.length):oQ g t=some (((((t.2.2.2.2.2.foldl bn P).length-g.1.length:Nat)):Nat):Int):=by
 rw[<-J1];unfold oQ qQ;refine C8 t.2.2.2.2.2 (λi (m:List (List UInt8×Vector UInt8 0))=>(t.2.2.2.2.2,((t.2.2.2.2.2.length:Nat):Int),((i:Nat):Int),g,m)) (λi m=>(∀n,n∈sS m↔n∈J0 ((t.2.2.2.2.2.take i).foldl bn P)/\n∉J0 g.1)/\m.length+g.1.length=((t.2.2.2.2.2.take i).foldl bn P).length/\∀n∈J0 g.1,n∈J0 ((t.2.2.2.2.2.take i).foldl bn P)) (λi m hi hv=>?_) (λm hv=>?_) (b0:=[]) ⟨λn=>⟨λh=>(by cases h),λh=>absurd ((hP n).1 h.1) h.2⟩,by rw[a6E,List.foldl_nil,hPl,a6v,a6j],λn h=>(hP n).2 h⟩ (by omega)
 ·obtain⟨hv1,hv2,hv3⟩:=hv;unfold kS;dsimp only;rw[a5H (by omega:(i:Int)<((t.2.2.2.2.2.length:Nat):Int)),D1,a5H (by omega:(0:Int)<=(i:Int)/\(i:Int)<((t.2.2.2.2.2.length:Nat):Int)),B7,a5J,C9 hi,uj (g:=g) hs (by omega),a5I,AS hi];generalize t.2.2.2.2.2[i]=x;generalize (t.2.2.2.2.2.take i).foldl bn P=Q at hv1 hv2 hv3;dsimp only;have hsub:∀n∈J0 g.1,n∈J0 (bn Q x):=λn h=>(lQ Q x n).2 (.inr (hv3 n h));by_cases hx:I2 g.1 x.1<g.1.length
  ·have hxn:=jY.1 hx;rw[a5H hx,a6a,D3,A1,A8,C1 (by omega)];refine⟨_,rfl,λn=>?_,?_,hsub⟩
   ·rw[hv1 n,lQ];refine⟨λh=>⟨.inr h.1,h.2⟩,λh=>⟨?_,h.2⟩⟩;rcases h.1 with rfl|h1
    ·exact absurd hxn h.2
    ·exact h1
   ·rw[wZ,a5W (jY.2 (hv3 _ hxn))];exact hv2
  ·have hxn:x.1∉J0 g.1:=λh=>hx (jY.2 h);rw[a5N hx,a6g,D1,A1,A8,C1 (by omega)];refine⟨_,rfl,?_⟩;by_cases hq:x.1∈J0 Q
   ·rw[YV ((hv1 x.1).2 ⟨hq,hxn⟩),wZ,a5W (jY.2 hq)];refine⟨λn=>?_,hv2,hsub⟩;rw[hv1 n,lQ];refine⟨λh=>⟨.inr h.1,h.2⟩,λh=>⟨?_,h.2⟩⟩;rcases h.1 with rfl|h1
    ·exact hq
    ·exact h1
   ·rw[UH Eh (λh=>hq ((hv1 x.1).1 h).1),wZ,a5U (λh=>hq (jY.1 h)),a5K];refine⟨λn=>?_,by simp only[a54,a6v];omega,hsub⟩;have hk:n∈sS (m++[(x.1,Vector.replicate 0 (0:UInt8))])↔n∈sS m\/n=x.1:=by
     unfold sS;rw[a53,a6Z,a55,a6B,a6b]
    rw[hk,hv1 n,lQ];constructor
    ·rintro(h|rfl)
     ·exact⟨.inr h.1,h.2⟩
     ·exact⟨.inl rfl,hxn⟩
    ·rintro⟨rfl|h,h2⟩
     ·exact .inr rfl
     ·exact .inl ⟨h,h2⟩
 ·rw[a52]at hv;unfold kS;dsimp only;rw[a5N (by omega),D3,A1,B5,<-hv.2.1,Nat.add_sub_cancel]
theorem uk{l:List o5}{n:List UInt8}{sum:Int}(h:I2 l n<l.length):J0 (jq l n sum)=J0 l:=by
 rw[nu h];exact GD (a:=(l[I2 l n].1,D4 (l[I2 l n].2.1-sum),D4 (l[I2 l n].2.2+1))) h rfl
theorem YW(l:List TR) (a:List o5):a.length<=(l.foldl bn a).length:=by
 induction l generalizing a with
 |nil=>simp
 |cons x l ih=>
  have h1:=ih (bn a x);have h2:=wZ a x;rw[a67];split at h2 <;> omega
def Ev(g:o8) (p:Int) (t:C2) (n:Int):Int:=
 if ¬I2 g.1 t.1<g.1.length then 13
 else if(g.1.getD (I2 g.1 t.1) A6).2.2≠t.2.1 then 14
 else if t.2.1=18446744073709551615 then 6
 else if t.2.2.1<QX n ((t.2.2.2.2.2.length:Nat):Int)then 15
 else if(BF t.2.2.1 p).2=false then 6
 else if t.2.2.2.1<(BF t.2.2.1 p).1 then 16
 else if(cK t).2=false then 6
 else if(g.1.getD (I2 g.1 t.1) A6).2.1<(cK t).1 then 17
 else if 256<(xa g t (cK t).1).1.length then 3
 else 0
theorem Vi{g:o8}{t:C2}{s:Int}:(xa g t s).1=t.2.2.2.2.2.foldl bn (jq g.1 t.1 s):=rfl
theorem No{g:o8}{p:Int}{t:C2}{n:Int}(hs:Srt g.1) (hl:g.1.length<=1000000) (ht:TxS t) (hp:okU p):oR g p t n=some (Ev g p t n):=by
 have htl:=ht.2.2.2.2.2.1;unfold oR Ev;rw[uj (g:=g) hs (by omega),a5I];dsimp only;by_cases hf:I2 g.1 t.1<g.1.length
 ·rw[a5H hf,a6a,D3,a5U (λh=>h hf),xO hs hf,a5H (by omega:(0:Int)<=((I2 g.1 t.1:Nat):Int)/\((I2 g.1 t.1:Nat):Int)<((g.1.length:Nat):Int)),B7,a5J];by_cases h1:(g.1.getD (I2 g.1 t.1) A6).2.2=t.2.1
  ·rw[a5H h1,a6a,D3,a5U (λh=>h h1),h1];by_cases h2:t.2.1=18446744073709551615
   ·rw[a5H h2,D1,a5W h2]
   ·rw[a5N h2,D3,a5U h2,QY,a5I];by_cases h3:t.2.2.1<QX n ((t.2.2.2.2.2.length:Nat):Int)
    ·rw[a5H h3,D1,a5W h3]
    ·rw[a5N h3,D3,a5U h3,QZ ht.2.2.1 hp,a5I];by_cases h4:(BF t.2.2.1 p).2=false
     ·rw[h4,a6g,D1,a5W rfl]
     ·rw[a5U h4,a7D _ |>.mp h4,a6a,D3];by_cases h5:t.2.2.2.1<(BF t.2.2.1 p).1
      ·rw[a5H h5,D1,a5W h5]
      ·rw[a5N h5,D3,a5U h5,GE ht,a5I];by_cases h6:(cK t).2=false
       ·rw[h6,a6g,D1,a5W rfl]
       ·rw[a5U h6,a7D _ |>.mp h6,a6a,D3];by_cases h7:(g.1.getD (I2 g.1 t.1) A6).2.1<(cK t).1
        ·rw[a5H h7,D1,a5W h7]
        ·rw[a5N h7,D3,a5U h7];have hpl:(jq g.1 t.1 (cK t).1).length=g.1.length:=by rw[nu hf,a6z]
         have hge:=YW t.2.2.2.2.2 (jq g.1 t.1 (cK t).1);have hle:=Eu t.2.2.2.2.2 (jq g.1 t.1 (cK t).1);rw[Nn (P:=jq g.1 t.1 (cK t).1) hs hl (by omega) (λm=>by rw[uk hf]) hpl,a5I,Vi];rw[D9 (by omega) (by omega)];by_cases h8:256<(t.2.2.2.2.2.foldl bn (jq g.1 t.1 (cK t).1)).length
         ·rw[a5W h8,a5H (by omega),D1]
         ·rw[a5U h8,a5N (by omega),D3]
  ·rw[a5N h1,a6g,D1,a5W h1]
 ·rw[a5N hf,a6g,D1,a5W hf]
theorem Rc{g:o8}{p:Int}{t:C2}{n:Int}(hl:g.1.length<=1000000) (ht:TxS t) (hp:okU p):fV g p t n=some (Ev g p t n):=by
 have htl:=ht.2.2.2.2.2.1;unfold fV Ev;rw[Qu (by omega),a5I];unfold NO;by_cases hf:I2 g.1 t.1<g.1.length
 ·rw[a5W hf,a5U (λh=>h hf)];dsimp only;rw[a6a,D3];by_cases h1:(g.1.getD (I2 g.1 t.1) A6).2.2=t.2.1
  ·rw[a5H h1,a6a,D3,a5U (λh=>h h1)];by_cases h2:t.2.1=18446744073709551615
   ·rw[a5H h2,D1,a5W h2]
   ·rw[a5N h2,D3,a5U h2,Vg,a5I];by_cases h3:t.2.2.1<QX n ((t.2.2.2.2.2.length:Nat):Int)
    ·rw[a5H h3,D1,a5W h3]
    ·rw[a5N h3,D3,a5U h3,Vh ht.2.2.1 hp,a5I,Lr ht,a5I];by_cases h4:(BF t.2.2.1 p).2=false
     ·rw[h4,a6g,D1,a5W rfl]
     ·rw[a5U h4,a7D _ |>.mp h4,a6a,D3];by_cases h5:t.2.2.2.1<(BF t.2.2.1 p).1
      ·rw[a5H h5,D1,a5W h5]
      ·rw[a5N h5,D3,a5U h5];by_cases h6:(cK t).2=false
       ·rw[h6,a6g,D1,a5W rfl]
       ·rw[a5U h6,a7D _ |>.mp h6,a6a,D3];by_cases h7:(g.1.getD (I2 g.1 t.1) A6).2.1<(cK t).1
        ·rw[a5H h7,D1,a5W h7]
        ·rw[a5N h7,D3,a5U h7,Lt (by omega) (by omega),a5I];by_cases h8:256<(xa g t (cK t).1).1.length
         ·rw[a5W h8,a5H (by omega),D1]
         ·rw[a5U h8,a5N (by omega),D3]
  ·rw[a5N h1,a6g,D1,a5W h1]
 ·rw[a5U hf,a5W hf];rfl
def rsF(g:o8) (p:Int) (raw:List UInt8):B1:=
 if Ee g≠0 then(1,[],0,0,0)
 else if(iM raw).2≠0 then((iM raw).2,[],0,0,0)
 else(Ev g p (iM raw).1 ((raw.length:Nat):Int),(iM raw).1.1,(iM raw).1.2.1,(iM raw).1.2.2.1,Jg (iM raw).1.2.2.2.1 (iM raw).1.2.2.1)
def a28(g:o8) (p:Int) (raw:List UInt8):o8:=
 if(rsF g p raw).1=0 then xa g (iM raw).1 (cK (iM raw).1).1 else g
def N9(g:o8) (p:Int) (raw:List UInt8):o8×B1:=(a28 g p raw,rsF g p raw)
theorem CE{g:o8}{p:Int}{t:C2}{n:Int}(h:Ev g p t n=0):I2 g.1 t.1<g.1.length:=by
 refine Classical.byContradiction λhf=>?_;unfold Ev at h;rw[a5W hf]at h;cases h
theorem zu{g:o8}{p:Int}{raw:List UInt8}(hv:Ee g≠0):N9 g p raw=(g,(1,[],0,0,0)):=by
 have h:rsF g p raw=(1,[],0,0,0):=by unfold rsF;rw[a5W hv]
 unfold N9 a28;rw[h,a5U (by decide)]
theorem zw{g:o8}{p:Int}{raw:List UInt8}(hv:Ee g=0) (hd:(iM raw).2≠0):N9 g p raw=(g,((iM raw).2,[],0,0,0)):=by
 have h:rsF g p raw=((iM raw).2,[],0,0,0):=by unfold rsF;rw[a5U (λh=>h hv),a5W hd]
 unfold N9 a28;rw[h,a5U hd]
theorem zx{g:o8}{p:Int}{raw:List UInt8}(hv:Ee g=0) (hd:(iM raw).2=0):N9 g p raw=(if Ev g p (iM raw).1 ((raw.length:Nat):Int)=0 then xa g (iM raw).1 (cK (iM raw).1).1 else g,(Ev g p (iM raw).1 ((raw.length:Nat):Int),(iM raw).1.1,(iM raw).1.2.1,(iM raw).1.2.2.1,Jg (iM raw).1.2.2.2.1 (iM raw).1.2.2.1)):=by
 have h:rsF g p raw=(Ev g p (iM raw).1 ((raw.length:Nat):Int),(iM raw).1.1,(iM raw).1.2.1,(iM raw).1.2.2.1,Jg (iM raw).1.2.2.2.1 (iM raw).1.2.2.1):=by unfold rsF;rw[a5U (λh=>h hv),a5U (λh=>h hd)]
 unfold N9 a28;rw[h]
theorem Jh{g:o8}{p:Int}{raw:List UInt8}(hg:KU g) (hp:okU p) (hr:raw.length<=140737488351232):lF g p raw=some (N9 g p raw):=by
 have hgl:=hg.2.2.2;unfold lF;rw[AN hgl,a5I,UE hg,a5I];by_cases hv:Ee g=0
 ·have hgd:=KZ.1 hv;rw[a5H hv,a6a,D3,QT (by omega),a5I];by_cases hd:(iM raw).2=0
  ·have hts:=yB raw;rw[zx hv hd,a5H hd,a6a,D3,No hgd.2.2.1 (by have:=hgd.1;omega) hts hp,a5I,Nm hts.2.2.2.1 hts.2.2.1,a5I];by_cases hc:Ev g p (iM raw).1 ((raw.length:Nat):Int)=0
   ·rw[a5H hc,D1,a5W hc,Nl hgd.2.2.1 (by have:=hgd.1;omega) hts (CE hc),a5I]
   ·rw[a5N hc,D3,a5U hc]
  ·rw[zw hv hd,a5N hd,a6g,D1]
 ·rw[zu hv,a5N hv,a6g,D1]
theorem AU{g:o8}{p:Int}{raw:List UInt8}(hg:KU g) (hp:okU p) (hr:raw.length<=140737488351232):O2 g p raw=some (N9 g p raw):=by
 unfold O2;rw[YA hg,a5I];by_cases hv:Ee g=0
 ·have hgd:=KZ.1 hv;rw[a5H hv,a6a,D3,CD (by omega),a5I];by_cases hd:(iM raw).2=0
  ·have hts:=yB raw;have htl:=hts.2.2.2.2.2.1;rw[zx hv hd,a5H hd,a6a,D3,Rc (by have:=hgd.1;omega) hts hp,a5I,Ra hts.2.2.2.1 hts.2.2.1,a5I];by_cases hc:Ev g p (iM raw).1 ((raw.length:Nat):Int)=0
   ·rw[a5H hc,a6a,D3,a5W hc,Lr hts,a5I,Lt (by have:=hgd.1;omega) (by omega),a5I]
   ·rw[a5N hc,a6g,D1,a5U hc]
  ·rw[zw hv hd,a5N hd,a6g,D1]
 ·rw[zu hv,a5N hv,a6g,D1]
theorem GF:∀{l:List A0},qc l=0->∀x∈l,aR x.1=true
 |[],_,x,hx=>by cases hx
 |y::l,h,x,hx=>by
  unfold qc at h;by_cases h1:aR y.1=true
  ·rw[a5W h1]at h;by_cases h2:y.2=0
   ·rw[a5W h2]at h;cases h
   ·rw[a5U h2]at h;rcases List.mem_cons.1 hx with rfl|hx
    ·exact h1
    ·exact GF h x hx
  ·rw[a5U h1]at h;cases h
theorem Ji{t:C2}(h:lu t=0):aR t.1=true/\∀x∈t.2.2.2.2.2,aR x.1=true:=by
 unfold lu at h;by_cases h1:aR t.1=true
 ·rw[a5W h1]at h;refine⟨h1,?_⟩;split at h
  ·cases h
  ·split at h
   ·split at h
    ·cases h
    ·split at h
     ·cases h
     ·exact GF h
   ·cases h
 ·rw[a5U h1]at h;cases h
theorem a2l{s:List UInt8}(h:aR s=true):Gx s:=by
 refine⟨h,?_⟩;unfold aR at h;have:=a5P (a5S _ _ |>.mp h).2;exact this.2
theorem qe:okU 0:=⟨by omega,by omega⟩
def Jj(n:Nat) (g:o8):Prop:=g.1.length<=n/\(∀a∈g.1,Ja a)/\okU g.2
theorem Ja.len{a:o5}(h:Ja a):a.1.length<=1000000000000000:=by have:=h.1.2;omega
theorem Jj.b{n:Nat}{g:o8}(h:Jj n g) (hn:n<=1000000):KU g:=⟨h.2.2,λa ha=>(h.2.1 a ha).2.1,λa ha=>(h.2.1 a ha).len,by have:=h.1;omega⟩
theorem Jj.mono{n m:Nat}{g:o8}(h:Jj n g) (hn:n<=m):Jj m g:=⟨a6c h.1 hn,h.2⟩
theorem Vj{l:List o5}{x:TR}(h:∀a∈l,Ja a) (hx:aR x.1=true):∀a∈bn l x,Ja a:=λa ha=>by
 rcases Lq ha with h1|⟨h1,h2,h3⟩
 ·exact h a h1
 ·refine⟨by rw[h1];exact a2l hx,h2,?_⟩;rcases h3 with h3|⟨b,hb,_,e⟩
  ·rw[h3];exact qe
  ·rw[e];exact(h b hb).2.2
theorem Vk{l:List TR}(hl:∀x∈l,aR x.1=true){a:List o5}(h:∀b∈a,Ja b):∀b∈l.foldl bn a,Ja b:=by
 induction l generalizing a with
 |nil=>exact h
 |cons x l ih=>exact ih (λy hy=>hl y (a6h _ hy)) (Vj h (hl x (a6M ..)))
theorem Vl{l:List o5}{n:List UInt8}{sum:Int}(hf:I2 l n<l.length) (h:∀a∈l,Ja a):∀a∈jq l n sum,Ja a:=λa ha=>by
 rw[nu hf]at ha;rcases a6C ha with h1|rfl
 ·exact h a h1
 ·exact⟨(h _ (a5V hf)).1,Y2 _,Y2 _⟩
theorem YX{g:o8}{p:Int}{t:C2}{n:Int}(h:Ev g p t n=0):(xa g t (cK t).1).1.length<=256:=by
 refine Classical.byContradiction λhf=>?_;have hf:256<(xa g t (cK t).1).1.length:=by omega
 unfold Ev at h
 repeat' split at h
 all_goals first | cases h | exact absurd hf ‹_›
theorem xT(g:o8) (p:Int) (raw:List UInt8):((N9 g p raw).1=g/\(N9 g p raw).2.1≠0)\/(Ee g=0/\(iM raw).2=0/\Ev g p (iM raw).1 ((raw.length:Nat):Int)=0/\(N9 g p raw).1=xa g (iM raw).1 (cK (iM raw).1).1/\(N9 g p raw).2.1=0/\(N9 g p raw).2.2.1=(iM raw).1.1):=by
 by_cases hv:Ee g=0
 ·by_cases hd:(iM raw).2=0
  ·rw[zx hv hd];by_cases hc:Ev g p (iM raw).1 ((raw.length:Nat):Int)=0
   ·rw[a5W hc];exact .inr ⟨hv,hd,hc,rfl,hc,rfl⟩
   ·rw[a5U hc];exact .inl ⟨rfl,hc⟩
  ·rw[zw hv hd];exact .inl ⟨rfl,hd⟩
 ·rw[zu hv];exact .inl ⟨rfl,λh=>by cases h⟩
theorem Vm{g:o8}{p:Int}{raw:List UInt8}(h:Jj 256 g):Jj 256 (N9 g p raw).1:=by
 rcases xT g p raw with⟨e,_⟩|⟨hv,hd,hc,e,_⟩
 ·rw[e];exact h
 ·rw[e];have hn:=Ji (YT hd).1;exact⟨YX hc,Vk hn.2 (Vl (CE hc) h.2.1),Y2 _⟩
theorem Vn(t:C2):(a2j t).1.length<=4096:=by
 unfold a2j;split
 ·split
  ·simp
  ·dsimp only;omega
 ·simp
theorem a37{l:List o5}(h:Nd l):Jj 4 (ZN l).1:=by
 unfold ZN;have hno:Jj 4 MW:=⟨by simp,λx hx=>(by cases hx),qe⟩;split
 ·exact hno
 ·split
  ·split
   ·exact⟨by rw[(ri l).length_eq];exact h.1,λa ha=>h.2 a ((ri l).mem_iff.1 ha),qe⟩
   ·exact hno
  ·exact hno
theorem a5E:Jj 256 ([],(0:Int)):=⟨by simp,λx hx=>(by cases hx),qe⟩
theorem Xd{g:o8}{p:Int}{t:C2}{n:Int}(h:Ev g p t n=0):I2 g.1 t.1<g.1.length/\(g.1.getD (I2 g.1 t.1) A6).2.2=t.2.1/\t.2.1≠18446744073709551615/\(cK t).2=true/\(cK t).1<=(g.1.getD (I2 g.1 t.1) A6).2.1/\(xa g t (cK t).1).1.length<=256:=by
 unfold Ev at h;by_cases h1:I2 g.1 t.1<g.1.length
 case neg=>rw[a5W h1]at h;cases h
 rw[a5U (λk=>k h1)]at h;by_cases h2:(g.1.getD (I2 g.1 t.1) A6).2.2=t.2.1
 case neg=>rw[a5W h2]at h;cases h
 rw[a5U (λk=>k h2)]at h;by_cases h3:t.2.1=18446744073709551615
 case pos=>rw[a5W h3]at h;cases h
 rw[a5U h3]at h;split at h
 ·cases h
 split at h
 ·cases h
 split at h
 ·cases h
 by_cases h6:(cK t).2=false
 case pos=>rw[a5W h6]at h;cases h
 rw[a5U h6]at h;by_cases h7:(g.1.getD (I2 g.1 t.1) A6).2.1<(cK t).1
 case pos=>rw[a5W h7]at h;cases h
 rw[a5U h7]at h;by_cases h8:256<(xa g t (cK t).1).1.length
 case pos=>rw[a5W h8]at h;cases h
 exact⟨h1,h2,h3,a7D _ |>.mp h6,by omega,by omega⟩
theorem Rg:∀(l:List Int) (i:Nat) (h:i<l.length) (x:Int),(l.set i x).sum=l.sum-l[i]+x
 |a::l,0,_,x=>by simp only[a7z,a63,List.getElem_cons_zero];omega
 |a::l,i+1,h,x=>by
  have:=Rg l i (by simpa using h) x;simp only[a7K,a63,List.getElem_cons_succ];omega
theorem Rh{l:List o5}{i:Nat}(h:i<l.length) (a:o5):pJ (l.set i a)=pJ l-l[i].2.1+a.2.1:=by
 unfold pJ;rw[a8h,Rg _ i (by rw[a5X];exact h),a6J]
theorem CF:∀{l:List Int},(∀x∈l,0<=x)->∀x∈l,x<=l.sum
 |[],_,x,hx=>by cases hx
 |a::l,h,x,hx=>by
  have h1:=h a (a6M ..);have h2:=AL (l:=l) (λy hy=>h y (a6h _ hy));rw[a63];rcases List.mem_cons.1 hx with rfl|hx
  ·omega
  ·have:=CF (l:=l) (λy hy=>h y (a6h _ hy)) x hx;omega
theorem Xe{l:List o5}(h:vN l){a:o5}(ha:a∈l):a.2.1<=pJ l:=
 CF (λx hx=>by obtain⟨b,hb,rfl⟩:=List.mem_map.1 hx;exact(h b hb).1) _ (a6S ha)
theorem Xf{l:List o5}(h:vN l):0<=pJ l:=AL λx hx=>by obtain⟨b,hb,rfl⟩:=List.mem_map.1 hx;exact(h b hb).1
theorem GG{l:List o5}{x:TR}(h:vN l):vN (bn l x):=λa ha=>by
 rcases Lq ha with h1|⟨_,h2,_⟩
 ·exact h a h1
 ·exact h2
theorem Vo{l:List o5}{x:TR}(h:vN l) (hx:0<=x.2) (hs:pJ l+x.2<18446744073709551616):pJ (bn l x)=pJ l+x.2:=by
 have hn:=Xf h;by_cases hf:I2 l x.1<l.length
 ·have h1:=Xe h (a5V hf);have h2:=(h _ (a5V hf)).1;rw[se hf,Rh hf];dsimp only;rw[Q0 (by omega) (by omega)];omega
 ·rw[ui hf,AO (qa _ _)];show(D4 (0+x.2):Int)+pJ l=_;rw[Q0 (by omega) (by omega)];omega
theorem Vp{L:List TR}:∀{l:List o5},vN l->(∀x∈L,0<=x.2)->pJ l+(L.map λx=>x.2).sum<18446744073709551616->pJ (L.foldl bn l)=pJ l+(L.map λx=>x.2).sum/\vN (L.foldl bn l):=by
 induction L with
 |nil=>intro l h _ _;exact⟨by simp,h⟩
 |cons x L ih=>
  intro l h hx hs;rw[a55,a63]at hs⊢;have h0:=hx x (a6M ..);have hL:0<=(L.map λx=>x.2).sum:=AL λy hy=>by obtain⟨z,hz,rfl⟩:=List.mem_map.1 hy;exact hx z (a6h _ hz)
  have hb:=Vo h h0 (by omega);obtain⟨h1,h2⟩:=ih (GG (x:=x) h) (λy hy=>hx y (a6h _ hy)) (by omega);exact⟨by rw[a67,h1,hb];omega,h2⟩
theorem Vq{t:C2}(h:(cK t).2=true):(cK t).1=t.2.2.2.1+(t.2.2.2.2.2.map λx=>x.2).sum/\t.2.2.2.1+(t.2.2.2.2.2.map λx=>x.2).sum<18446744073709551616:=by
 unfold cK xk at h⊢;by_cases hc:t.2.2.2.1+(t.2.2.2.2.2.map λx=>x.2).sum<18446744073709551616
 ·rw[a5W hc];exact⟨rfl,hc⟩
 ·rw[a5U hc]at h;cases h
theorem YY{s:Int}:(xk s).2=true↔s<18446744073709551616:=by
 unfold xk;by_cases h:s<18446744073709551616
 ·rw[a5W h];exact⟨λ_=>h,λ_=>rfl⟩
 ·rw[a5U h];exact⟨λk=>(by cases k),λk=>absurd k h⟩
def EP(l:List o5) (n:List UInt8):Int:=(NO l n).1.2.2
theorem YZ{l:List o5}(hs:Srt l){a:o5}(ha:a∈l):NO l a.1=(a,true):=by
 have hf:I2 l a.1<l.length:=wV.2 (a6S ha);have hn:=jI hf;have:l[I2 l a.1]=a:=by
  obtain⟨i,hi,rfl⟩:=a6O ha;rcases a7P (I2 l l[i].1) i with k|k|k
  ·have:=hs.lt hf hi k;unfold less at this;rw[hn,iL]at this;cases this
  ·simp only[k]
  ·have:=hs.lt hi hf k;unfold less at this;rw[hn,iL]at this;cases this
 unfold NO;rw[a5W hf,C9 hf,this]
theorem Za{l:List o5}{n:List UInt8}(h:n∉J0 l):NO l n=(A6,false):=by
 unfold NO;rw[a5U (λk=>h (wV.1 k))]
theorem mF{l:List o5}(hs:Srt l){a:o5}(ha:a∈l):EP l a.1=a.2.2:=by unfold EP;rw[YZ hs ha]
theorem ul{l:List o5}{n:List UInt8}(h:n∉J0 l):EP l n=0:=by unfold EP;rw[Za h];rfl
theorem GH{l:List o5}{n:List UInt8}(h:n∈J0 l):∃(j:Nat) (hj:j<l.length),l[j].1=n:=by
 obtain⟨a,ha,rfl⟩:=List.mem_map.1 h;obtain⟨j,hj,rfl⟩:=a6O ha;exact⟨j,hj,rfl⟩
theorem Vr{l:List o5}{x:TR}(hs:Srt l) (n:List UInt8):EP (bn l x) n=EP l n:=by
 have hbs:Srt (bn l x):=Et hs;by_cases hf:I2 l x.1<l.length
 ·by_cases hn:n∈J0 l
  ·obtain⟨j,hj,rfl⟩:=GH hn;have hm:l[j]∈l:=a5V hj;rw[mF hs hm];by_cases hij:I2 l x.1=j
   ·have hm2:(l[j].1,D4 (l[j].2.1+x.2),l[j].2.2)∈bn l x:=by
     rw[se hf];simp only[hij];exact List.mem_set hj _
    exact(mF hbs hm2 :)
   ·have hm2:l[j]∈bn l x:=by
     rw[se hf,List.mem_iff_getElem];exact⟨j,by rw[a6z];exact hj,List.getElem_set_ne hij _⟩
    exact mF hbs hm2
  ·rw[ul hn,ul];intro h;rcases(lQ l x n).1 h with rfl|h
   ·exact hn (jY.1 hf)
   ·exact hn h
 ·have hx:x.1∉J0 l:=λh=>hf (jY.2 h);have hin:∀{a:o5},a∈bn l x↔a∈(x.1,D4 (0+x.2),(0:Int))::l:=fun {a}=>by rw[ui hf];exact(qa _ _).mem_iff
  by_cases hn:n∈J0 l
  ·obtain⟨a,ha,rfl⟩:=List.mem_map.1 hn;rw[mF hs ha];exact mF hbs (hin.2 (a6h _ ha))
  ·rw[ul hn];by_cases e:n=x.1
   ·rw[e];exact mF hbs (hin.2 (a6M ..))
   ·refine ul λh=>?_;rcases(lQ l x n).1 h with h|h
    ·exact e h
    ·exact hn h
theorem Vs{L:List TR}:∀{l:List o5},Srt l->∀n,EP (L.foldl bn l) n=EP l n:=by
 induction L with
 |nil=>intro l _ n;rfl
 |cons x L ih=>intro l hs n;rw[a67,ih (Et hs),Vr hs]
theorem Np{L:List TR}:∀{l:List o5}{n:List UInt8},n∈J0 l->n∈J0 (L.foldl bn l):=by
 induction L with
 |nil=>intro l n h;exact h
 |cons x L ih=>intro l n h;exact ih ((lQ l x n).2 (.inr h))
theorem Vt{l:List o5}{s:List UInt8}{c:Int}(hs:Srt l) (hf:I2 l s<l.length) (n:List UInt8):EP (jq l s c) n=if n=s then D4 (EP l s+1)else EP l n:=by
 have hps:Srt (jq l s c):=AM hs;have hss:EP l s=l[I2 l s].2.2:=by
  have:=mF hs (a5V hf);rw[jI hf]at this;exact this
 by_cases e:n=s
 ·rw[a5W e,e,hss];have hm:(l[I2 l s].1,D4 (l[I2 l s].2.1-c),D4 (l[I2 l s].2.2+1))∈jq l s c:=by
   rw[nu hf];exact List.mem_set hf _
  have:=mF hps hm;rw[jI hf]at this;exact this
 ·rw[a5U e];by_cases hn:n∈J0 l
  ·obtain⟨j,hj,rfl⟩:=GH hn;rw[mF hs (a5V hj)];have hij:I2 l s≠j:=λk=>e (by rw[<-jI hf];simp only[k]);have hm:l[j]∈jq l s c:=by
    rw[nu hf,List.mem_iff_getElem];exact⟨j,by rw[a6z];exact hj,List.getElem_set_ne hij _⟩
   exact mF hps hm
  ·rw[ul hn,ul];rw[uk hf];exact hn
def xl(g:o8):Prop:=Jj 256 g/\a32 g
theorem xl.bal{g:o8}(h:xl g):vN g.1:=λa ha=>(h.1.2.1 a ha).2.1
theorem xl.srt{g:o8}(h:xl g):Srt g.1:=h.2.2.2.1
theorem xl.b{g:o8}(h:xl g):KU g:=h.1.b (by omega)
theorem xl.lt{g:o8}(h:xl g):g.2+pJ g.1<18446744073709551616:=YY.1 h.2.2.2.2
theorem Vu{g:o8}{t:C2}(h:xl g) (ht:TxS t) (hf:I2 g.1 t.1<g.1.length) (hc:(cK t).2=true) (hb:(cK t).1<=(g.1.getD (I2 g.1 t.1) A6).2.1):(xa g t (cK t).1).2+pJ (xa g t (cK t).1).1=g.2+pJ g.1:=by
 obtain⟨hc1,hc2⟩:=Vq hc;rw[C9 hf]at hb;have hlt:=h.lt;have hL:0<=(t.2.2.2.2.2.map λx=>x.2).sum:=AL λy hy=>by obtain⟨z,hz,rfl⟩:=List.mem_map.1 hy;exact(ht.2.2.2.2.2.2 z hz).2.1
 have hfee:=ht.2.2.2.1.1;have h1:=Xe h.bal (a5V hf);have h2:=h.bal _ (a5V hf);have h3:=h.1.2.2.1;have h4:=Xf h.bal;have h5:=h2.1;have hpb:pJ (jq g.1 t.1 (cK t).1)=pJ g.1-(cK t).1:=by
  rw[nu hf,Rh hf];dsimp only;rw[Q0 (by omega) (by omega)];omega
 have hpu:vN (jq g.1 t.1 (cK t).1):=by
  rw[nu hf];intro a ha;rcases a6C ha with ha|rfl
  ·exact h.bal a ha
  ·exact Y2 _
 have hlt2:pJ (jq g.1 t.1 (cK t).1)+(t.2.2.2.2.2.map λx=>x.2).sum<18446744073709551616:=by omega
 have k1:pJ (t.2.2.2.2.2.foldl bn (jq g.1 t.1 (cK t).1))=pJ (jq g.1 t.1 (cK t).1)+(t.2.2.2.2.2.map λx=>x.2).sum:=(Vp (L:=t.2.2.2.2.2) hpu (λx hx=>(ht.2.2.2.2.2.2 x hx).2.1) hlt2).1;show D4 (g.2+t.2.2.2.1)+pJ (t.2.2.2.2.2.foldl bn (jq g.1 t.1 (cK t).1))=_;rw[k1,hpb,Q0 (by omega) (by omega)];omega
theorem GI{g:o8}{p:Int}{raw:List UInt8}(h:xl g):xl (N9 g p raw).1/\(N9 g p raw).1.2+pJ (N9 g p raw).1.1=g.2+pJ g.1/\(∀n∈J0 g.1,n∈J0 (N9 g p raw).1.1)/\
  (((N9 g p raw).2.1≠0/\(N9 g p raw).1=g)\/((N9 g p raw).2.1=0/\(iM raw).2=0/\Ev g p (iM raw).1 ((raw.length:Nat):Int)=0/\(N9 g p raw).2.2.1=(iM raw).1.1/\(iM raw).1.1∈J0 g.1/\EP g.1 (iM raw).1.1=(iM raw).1.2.1/\(iM raw).1.2.1+1<18446744073709551616/\
   ∀n,EP (N9 g p raw).1.1 n=if n=(iM raw).1.1 then EP g.1 n+1 else EP g.1 n)):=by
 have hled:=Vm (p:=p) (raw:=raw) h.1;rcases xT g p raw with⟨e,hz⟩|⟨hv,hd,hc,e,hz,hs⟩
 ·rw[e];exact⟨h,rfl,λ_ h=>h,.inl ⟨hz,rfl⟩⟩
 ·rw[e]at hled⊢;obtain⟨k1,k2,k3,k4,k5,k6⟩:=Xd hc;have hts:=yB raw;have htot:=Vu h hts k1 k4 k5;have hps:Srt (jq g.1 (iM raw).1.1 (cK (iM raw).1).1):=AM h.srt;have hsq:EP g.1 (iM raw).1.1=(iM raw).1.2.1:=by
   have:=mF h.srt (a5V k1);rw[jI k1]at this;rw[this,<-k2,C9 k1]
  have hu:=hts.2.1;have hu1:=hu.1;have hu2:=hu.2;refine⟨⟨hled,hled.1,λa ha=>(hled.2.1 a ha).1.1,Ls hps,?_⟩,htot,λn hn=>Np ((uk k1).symm▸hn),.inr ⟨hz,hd,hc,hs,jY.1 k1,hsq,by omega,λn=>?_⟩⟩
  ·rw[htot];exact h.2.2.2.2
  ·show EP ((iM raw).1.2.2.2.2.2.foldl bn _) n=_;rw[Vs hps,Vt h.srt k1];by_cases en:n=(iM raw).1.1
   ·rw[a5W en,a5W en,en,hsq,Q0 (by omega) (by omega)]
   ·rw[a5U en,a5U en]
theorem Ri:∀{l:List o5}{seen:List (List UInt8)},UL seen l=0->(J0 l).Nodup/\∀n∈J0 l,n∉seen
 |[],_,_=>⟨a6T,λn h=>by cases h⟩
 |a::l,seen,h=>by
  rw[Gk]at h;split at h
  ·cases h
  ·by_cases hm:a.1∈seen
   ·rw[a5W hm]at h;cases h
   ·rw[a5U hm]at h;obtain⟨h1,h2⟩:=Ri h;refine⟨List.nodup_cons.2 ⟨λk=>h2 _ k (by simp),h1⟩,λn hn=>?_⟩;rcases List.mem_cons.1 hn with rfl|hn
    ·exact hm
    ·exact λk=>h2 n hn (by simp[k])
theorem Vv{l:List o5}(h:(J0 l).Nodup):Srt (IV l):=by
 have hn:(J0 (IV l)).Nodup:=((ri l).map _).nodup_iff.2 h;unfold J0 at hn;rw[List.nodup_iff_pairwise_ne,List.pairwise_map]at hn;refine((Qx l).and hn).imp fun {x y} hxy=>?_;rcases yx x.1 y.1 with e|e|e
 ·exact e
 ·exact absurd e hxy.2
 ·have:=hxy.1;unfold less at this;rw[e]at this;cases this
theorem AW:xl ([],(0:Int)):=⟨a5E,by simp,λa ha=>(by cases ha),List.Pairwise.nil,by decide⟩
theorem a38{l:List o5}(h:Nd l):xl (ZN l).1:=by
 have ha:=(a37 h).mono (m:=256) (by omega);unfold ZN at ha⊢;split
 ·exact AW
 ·rename_i hl;rw[a5U hl]at ha;split
  ·rename_i he;rw[a5W he]at ha;split
   ·rename_i hsum;rw[a5W hsum]at ha;refine⟨ha,ha.1,λa k=>(ha.2.1 a k).1.1,Vv (Ri he).1,?_⟩;show(xk (0+pJ (IV l))).2=true;rw[AO (ri l)];exact hsum
   ·exact AW
  ·exact AW
theorem Lu{x n:Int}(hn:1<=n) (hn2:n<=4611686018427387904):Ok (I3 x n) λr=>0<=r/\r<n/\r=x%n:=by
 have h1:=Int.tmod_eq_emod (a:=x) (b:=n);have h2:=Int.emod_nonneg x (show n≠0 by omega);have h3:=Int.emod_lt_of_pos x (show 0<n by omega);have h4:((n.natAbs:Nat):Int)=n:=by omega
 simp only[I3,A5,D8,A1,a5M,a5L,a5R];refine⟨by omega,λh=>?_,λh=>?_⟩
 ·rw[D9]
  ·split at h1 <;> omega
  ·split at h1 <;> omega
  ·split at h1 <;> omega
 ·split at h1 <;> omega
theorem Zb{s:o7}{n:Int}(hn:1<=n) (hn2:n<=4611686018427387904) (h0:0<=s.2) (h1:s.2<4611686018427387904):Ok (o9 s n) λr=>r.1.1=s.1/\r.1.2=s.2+1/\0<=r.2/\r.2<n:=by
 have hw:B3 (s.2+1)=s.2+1:=D9 (by omega) (by omega);have hp:∀x,Ok (N7 n x s) λr=>r.1.1=s.1/\r.1.2=s.2+1/\0<=r.2/\r.2<n:=λx=>by
  unfold N7;rw[A4];refine(Lu hn hn2).mono λr hr=>?_;rw[A1,hw];exact⟨rfl,rfl,hr.1,hr.2.1⟩
 simp only[o9,A5,D8,a5M,a5L];exact⟨λh=>⟨⟨h0,h⟩,hp _⟩,λ_=>hp _⟩
def ky(L:List Int) (k:Int) (s:o7):Prop:=s.1=L/\0<=s.2/\s.2<=k
theorem K9{L:List Int}{k:Int}{s:o7}{n:Int}(hs:ky L k s) (hn:1<=n) (hn2:n<=4611686018427387904) (hk:k<4611686018427387904):Ok (o9 s n) λr=>ky L (k+1) r.1/\s.2<r.1.2/\0<=r.2/\r.2<n:=by
 obtain⟨h1,h2,h3⟩:=hs;refine(Zb hn hn2 h2 (by omega)).mono λr hr=>?_;obtain⟨a1,a2,a3,a4⟩:=hr;exact⟨⟨a1.trans h1,by omega,by omega⟩,by omega,a3,a4⟩
theorem ky.le{L:List Int}{k m:Int}{s:o7}(h:ky L k s) (hkm:k<=m):ky L m s:=⟨h.1,h.2.1,by have:=h.2.2;omega⟩
def a2m(L:List Int):o7:=(L,0)
theorem Zc(L:List Int):mm L=some (a2m L):=rfl
theorem a39(L:List Int):ky L 0 (a2m L):=⟨rfl,a8b _,a8b _⟩
theorem Xg{L:List Int}{k:Int}{s:o7}(hs:ky L k s) (hk:k<1000000000000) (h0:0<=k):Ok (fk s) λr=>ky L (k+1) r.1/\s.2<r.1.2/\Gx r.2:=by
 unfold fk;rw[A4];refine(K9 hs (n:=6) (by omega) (by omega) (by omega)).mono λr h=>?_;obtain⟨a1,a2,a3,a4⟩:=h;simp only[D8,A1,a5M];refine⟨⟨a3,a4⟩,by omega,a1,a2,?_⟩;obtain⟨n,hn⟩:∃n:Nat,Int.toNat r.2=n:=⟨_,rfl⟩;have hn6:n<6:=by omega
 rw[hn]
 match n,hn6 with
 |0,_|1,_|2,_|3,_|4,_|5,_=>exact⟨by decide,by decide⟩
theorem GJ{l:List o5}{a:o5}{n:Nat}(h:l.length<=n/\∀a∈l,Ja a) (ha:Ja a):(l++[a]).length<=n+1/\∀x∈l++[a],Ja x:=by
 refine⟨by simp;omega,λx hx=>?_⟩;rcases List.mem_append.1 hx with hx|hx
 ·exact h.2 x hx
 ·simp only[a6b]at hx;subst hx;exact ha
theorem Lv(n:Nat) (h:n<4):Gx (List.getD [[(97:UInt8),(110:UInt8),(110:UInt8)],[(98:UInt8),(111:UInt8),(98:UInt8)],[(101:UInt8),(118:UInt8),(101:UInt8)],[(122:UInt8),(111:UInt8),(101:UInt8)]] n []):=by
 match n,h with
 |0,_|1,_|2,_|3,_=>exact⟨by decide,by decide⟩
theorem Rj(n:Nat) (h:n<5):tH (List.getD [100000,5000,700,0,1099511627776] n (0:Int)):=by
 match n,h with
 |0,_|1,_|2,_|3,_|4,_=>exact⟨by decide,by decide⟩
theorem Zd(n:Nat) (h:n<3):tH (List.getD [5,18446744073709551615,18446744073709551614] n (0:Int)):=by
 match n,h with
 |0,_|1,_|2,_=>exact⟨by decide,by decide⟩
theorem Nq{L:List Int}{k:Int}{s:o7}(hs:ky L k s) (hk:k<1000000000000) (h0:0<=k):Ok (eg s) λr=>ky L (k+13) r.1/\s.2<r.1.2/\Nd r.2:=by
 unfold eg;rw[A4];refine(K9 hs (n:=4) (by omega) (by omega) (by omega)).mono λr h=>?_;obtain⟨a1,a2,a3,a4⟩:=h;unfold ka;refine sb (S:=Int×o7×List o5) (inv:=λv=>∃n:Nat,n<=4/\ -1<=v.1/\v.1+n<=3/\ky L (k+1+3*n) v.2.1/\s.2<v.2.1.2/\v.2.2.length<=n/\∀a∈v.2.2,Ja a) (m:=λv=>(v.1+1).toNat) ?_ ⟨0,by omega,by simp only;omega,by simp only;omega,a1.le (by omega),a2,by simp,by simp⟩ (by simp only;omega);rintro⟨i,b,l⟩ ⟨n,hn,hi,hin,hb,hlt,hl,hall⟩;simp only at hi hin hb hlt hl hall;simp only[fJ,A5,D8,A4,A1,A8,B5,a5M,a5L];refine⟨λhi0=>⟨by omega,by omega,?_⟩,λ_=>⟨hb.le (by omega),hlt,by omega,hall⟩⟩;have hw:B3 (i-1)=i-1:=by rw[D9] <;> omega
 refine(K9 hb (n:=5) (by omega) (by omega) (by omega)).mono λr2 h2=>?_;obtain⟨b1,b2,b3,b4⟩:=h2;refine⟨⟨b3,b4⟩,by omega,?_⟩;refine(K9 b1 (n:=6) (by omega) (by omega) (by omega)).mono λr3 h3=>?_;obtain⟨c1,c2,c3,c4⟩:=h3;refine⟨λ_=>?_,λ_=>⟨⟨by unfold LIM;omega,by unfold LEN;omega⟩,?_⟩⟩
 ·refine(K9 c1 (n:=3) (by omega) (by omega) (by omega)).mono λr4 h4=>?_;obtain⟨d1,d2,d3,d4⟩:=h4;refine⟨⟨d3,d4⟩,by omega,⟨by unfold LIM;omega,by unfold LEN;omega⟩,?_⟩;rw[hw];have q:=GJ (n:=n) ⟨hl,hall⟩ (a:=(_,_,_)) ⟨Lv (Int.toNat i) (by omega),Rj (Int.toNat r2.2) (by omega),Zd (Int.toNat r4.2) (by omega)⟩;exact⟨⟨n+1,by omega,by omega,by omega,d1.le (by omega),by omega,q.1,q.2⟩,by omega⟩
 ·rw[hw];have q:=GJ (n:=n) ⟨hl,hall⟩ (a:=(_,_,_)) ⟨Lv (Int.toNat i) (by omega),Rj (Int.toNat r2.2) (by omega),(⟨by decide,by decide⟩:tH 0)⟩;exact⟨⟨n+1,by omega,by omega,by omega,c1.le (by omega),by omega,q.1,q.2⟩,by omega⟩
theorem a2n{L:List Int}{k:Int}{s:o7}(hs:ky L k s) (hk:k<1000000000000) (h0:0<=k):Ok (ji s) λr=>ky L (k+1) r.1/\s.2<r.1.2/\UX r.2:=by
 unfold ji;rw[A4];refine(K9 hs (n:=7) (by omega) (by omega) (by omega)).mono λr h=>?_;obtain⟨a1,a2,a3,a4⟩:=h;simp only[D8,A1,a5M];refine⟨⟨a3,a4⟩,by omega,a1,a2,?_⟩;obtain⟨n,hn⟩:∃n:Nat,Int.toNat r.2=n:=⟨_,rfl⟩;have hn7:n<7:=by omega
 rw[hn]
 match n,hn7 with
 |0,_|1,_|2,_|3,_|4,_|5,_|6,_=>exact⟨by decide,by decide⟩
theorem Xh{L:List Int}{k q:Int}{b:o7}(hb:ky L k b) (hq:q<b.2) (hk:k<500000000000) (h0:0<=k) (z0 z4:List UInt8) (z1 z2 z3:Int){a0 a4:List UInt8}{a1 a2 a3:Int}
  (c0:Gx a0) (c1:tH a1) (c2:150<=a2/\a2<=350) (c3:tH a3) (c4:UX a4):Ok (dD b z0 z1 z2 z3 z4 a0 a1 a2 a3 a4) λr=>ky L (k+10) r.1/\q<r.1.2/\TxM r.2:=by
 unfold dD;rw[A4];refine(K9 hb (n:=3) (by omega) (by omega) (by omega)).mono λr h=>?_;obtain⟨d1,d2,d3,d4⟩:=h;unfold oA;refine sb (inv:=λv=>∃(n:Nat) (i:Int) (c:o7) (l:List A0),v=(i,c,z0,z1,z2,z3,z4,a0,a1,a2,a3,a4,l)/\n<=3/\ -1<=i/\i+n<=2/\(i= -1->1<=n)/\ky L (k+1+3*n) c/\q<c.2/\l.length=n/\∀x∈l,TrM x) (m:=λv=>(v.1+1).toNat) ?_ ⟨0,_,_,[],rfl,by omega,by omega,by omega,by omega,d1.le (by omega),by omega,by simp,by simp⟩ (by simp only;omega);rintro v ⟨n,i,c,l,rfl,hn,hi,hin,hi1,hc,hlt,hl,hall⟩;have c5:∀{y:o7} {x:A0},ky L (k+1+3*n+3) y->q<y.2->TrM x->0<=i->Ok (dC i y z0 z1 z2 z3 z4 a0 a1 a2 a3 a4 x l) (Nxt (λr=>ky L (k+10) r.1/\q<r.1.2/\TxM r.2) λz=>(∃(n:Nat) (i:Int) (c:o7) (l:List A0),z=(i,c,z0,z1,z2,z3,z4,a0,a1,a2,a3,a4,l)/\n<=3/\ -1<=i/\i+n<=2/\(i= -1->1<=n)/\ky L (k+1+3*n) c/\q<c.2/\l.length=n/\∀x∈l,TrM x)/\(z.1+1).toNat<(i+1).toNat):=by
  intro y x hy hqy hx hi0;have hw:B3 (i-1)=i-1:=by rw[D9] <;> omega
  simp only[dC,D8,A1,A8,a5M,hw];refine⟨⟨by unfold LIM;omega,by unfold LEN;omega⟩,⟨n+1,i-1,y,l++[x],rfl,by omega,by omega,by omega,by omega,hy.le (by omega),hqy,by simp[hl],λw hw=>?_⟩,by omega⟩;rcases List.mem_append.1 hw with hw|hw
  ·exact hall w hw
  ·simp only[a6b]at hw;subst hw;exact hx
 simp only[lk];rw[A5];refine⟨λh=>?_,λh=>?_⟩
 ·have hi0:0<=i:=a5P h;rw[A4];refine(Xg hc (by omega) (by omega)).mono λr6 h6=>?_;obtain⟨e1,e2,e3⟩:=h6;rw[A4];refine(K9 e1 (n:=60) (by omega) (by omega) (by omega)).mono λr7 h7=>?_;obtain⟨f1,f2,f3,f4⟩:=h7;rw[A4];refine(K9 f1 (n:=12) (by omega) (by omega) (by omega)).mono λr8 h8=>?_;obtain⟨g1,g2,g3,g4⟩:=h8;have w1:D4 r7.2=r7.2:=Q0 (by omega) (by omega);have w2:D4 (1+r7.2)=1+r7.2:=Q0 (by omega) (by omega);rw[A5];refine⟨λ_=>c5 (g1.le (by omega)) (by omega) ⟨e3,by simp only;omega,by simp only;omega⟩ hi0,λ_=>c5 (g1.le (by omega)) (by omega) ⟨e3,?_⟩ hi0⟩;simp only[w1,w2];omega
 ·have hi0:¬ 0<=i:=a57 h;rw[A1,B5];exact⟨hc.le (by omega),hlt,c0,c1,c2,c3,c4,⟨by simp only;omega,by simp only;omega⟩,hall⟩
theorem Xi{L:List Int}{k q p:Int}{b:o7}(hb:ky L k b) (hq:q<b.2) (hk:k<100000000000) (h0:0<=k) (z0 z4:List UInt8) (z1 z2 z3:Int){a0 a4:List UInt8}{a1 a2 a3:Int}
  (c0:Gx a0) (c2:150<=a2/\a2<=350) (c1:tH a1) (c4:UX a4):Ok (dF p b z0 z1 z2 z3 z4 a0 a1 a2 a3 a4) λr=>ky L (k+20) r.1/\q<r.1.2/\TxM r.2:=by
 have hc2:∀{y:o7} {n:Int},ky L (k+2) y->q<y.2->tH n->Ok (dE p y z0 z1 z2 z3 z4 a0 n a2 a3 a4) λr=>ky L (k+20) r.1/\q<r.1.2/\TxM r.2:=by
  intro y n hy hqy hn;unfold dE;rw[A4];refine(K9 hy (n:=5) (by omega) (by omega) (by omega)).mono λr4 h4=>?_;obtain⟨d1,d2,d3,d4⟩:=h4;rw[A4];refine(K9 d1 (n:=9) (by omega) (by omega) (by omega)).mono λr9 h9=>?_;obtain⟨e1,e2,e3,e4⟩:=h9;rw[A5];refine⟨λ_=>?_,λ_=>?_⟩
  ·rw[A4];refine(K9 e1 (n:=200) (by omega) (by omega) (by omega)).mono λr10 h10=>?_;obtain⟨f1,f2,f3,f4⟩:=h10;refine(Xh f1 (q:=q) (by omega) (by omega) (by omega) z0 z4 z1 z2 z3 c0 hn c2 (Y2 _) c4).mono λr h=>?_;exact⟨h.1.le (by omega),h.2⟩
  ·refine(Xh e1 (q:=q) (by omega) (by omega) (by omega) z0 z4 z1 z2 z3 c0 hn c2 (Y2 _) c4).mono λr h=>?_;exact⟨h.1.le (by omega),h.2⟩
 unfold dF;rw[A4];refine(K9 hb (n:=6) (by omega) (by omega) (by omega)).mono λr11 h11=>?_;obtain⟨d1,d2,d3,d4⟩:=h11;rw[A5];refine⟨λ_=>?_,λ_=>hc2 (d1.le (by omega)) (by omega) c1⟩;rw[A4];refine(K9 d1 (n:=3) (by omega) (by omega) (by omega)).mono λr12 h12=>?_;exact hc2 (h12.1.le (by omega)) (by have:=h12.2.1;omega) (Y2 _)
theorem Vx{L:List Int}{k p:Int}{s:o7}{g:o8}(hs:ky L k s) (hk:k<10000000000) (h0:0<=k) (hg:g.1.length<=1000) (ha:∀a∈g.1,Ja a):Ok (kV s g p) λr=>ky L (k+30) r.1/\s.2<r.1.2/\TxM r.2:=by
 unfold kV;rw[A4];refine(Xg hs (by omega) (by omega)).mono λr1 h1=>?_;obtain⟨a1,a2,a3⟩:=h1;rw[A4];refine(K9 a1 (n:=6) (by omega) (by omega) (by omega)).mono λr2 h2=>?_;obtain⟨b1,b2,b3,b4⟩:=h2;rw[A4];refine(a2n b1 (by omega) (by omega)).mono λr3 h3=>?_;obtain⟨c1,c2,c3⟩:=h3;have w1:D4 r2.2=r2.2:=Q0 (by omega) (by omega);have w2:D4 (r2.2*40)=r2.2*40:=Q0 (by omega) (by omega);have w3:D4 (150+r2.2*40)=150+r2.2*40:=Q0 (by omega) (by omega);have gas:150<=D4 (150+D4 (D4 r2.2*40))/\D4 (150+D4 (D4 r2.2*40))<=350:=by rw[w1,w2,w3];omega
 have z:tH 0:=⟨by decide,by decide⟩;have c6:∀{y:o7} {c:Bool},ky L (k+4) y->s.2<y.2->(c=true->0<g.1.length)->Ok (dG p ((List.length g.1:Nat):Int) c y g [] (0:Int) (0:Int) (0:Int) [] r1.2 (0:Int) (D4 (150+(D4 ((D4 r2.2)*40)))) (0:Int) r3.2) λr=>ky L (k+30) r.1/\s.2<r.1.2/\TxM r.2:=by
  intro y c hy hq hc;unfold dG;rw[A5];refine⟨λh=>?_,λ_=>?_⟩
  ·have hpos:=hc h;rw[A4];refine(K9 hy (n:=((List.length g.1:Nat):Int)) (by omega) (by omega) (by omega)).mono λr13 h13=>?_;obtain⟨d1,d2,d3,d4⟩:=h13;rw[D8];refine⟨a5H ⟨d3,d4⟩,?_⟩;have hm:List.getD g.1 (Int.toNat r13.2) A6∈g.1:=by
    rw[C9 (by omega)];exact a5V _
   have hacc:=ha _ hm;refine(Xi d1 (q:=s.2) (by omega) (by omega) (by omega) [] [] 0 0 0 hacc.1 gas hacc.2.2 c3).mono λr h=>?_;exact⟨h.1.le (by omega),h.2⟩
  ·refine(Xi hy (q:=s.2) (by omega) (by omega) (by omega) [] [] 0 0 0 a3 gas z c3).mono λr h=>?_;exact⟨h.1.le (by omega),h.2⟩
 rw[A5];refine⟨λh=>?_,λ_=>c6 (c1.le (by omega)) (by omega) (λh=>by cases h)⟩;have hpos:=a5P h;rw[A4];refine(K9 c1 (n:=8) (by omega) (by omega) (by omega)).mono λr14 h14=>?_;exact c6 (h14.1.le (by omega)) (by have:=h14.2.1;omega) (λ_=>by omega)
theorem Ze{l:List o5}(hb:vN l) (hn:∀a∈l,a.1.length<=1000000000000000) (hl:l.length<=4398046511000):dR l=some (ZN l):=by
 unfold dR ZN;by_cases h:256<l.length
 ·rw[a5W h,a5H (by omega),D1]
 rw[a5U h,a5N (by omega),D3];rw[<-J1];unfold jZ;refine C8 l (λi (b:List o5)=>(l,((l.length:Nat):Int),((i:Nat):Int),([],(0:Int)),(0:Int),b)) (λi b=>UL [] l=UL (J0 (l.take i)) (l.drop i)/\b.Perm (l.take i)/\Srt b/\(J0 (l.take i)).Nodup) (λi b hi hv=>?_) (λb hv=>?_) (b0:=[]) ⟨rfl,List.Perm.refl _,List.Pairwise.nil,a6T⟩ (by omega)
 ·obtain⟨hv,hp,hs,hnd⟩:=hv;rw[xM hi,Gk]at hv;have hbl:b.length=i:=by rw[hp.length_eq,a5T];omega
  unfold aS;dsimp only;rw[a5H (by omega:(i:Int)<((l.length:Nat):Int)),D1,a5H (by omega:(0:Int)<=(i:Int)/\(i:Int)<((l.length:Nat):Int)),B7,a5J,C9 hi,zl (hn _ (a5V hi)),a5I];cases hname:aR l[i].1 with
  |false=>
   rw[a5W hname]at hv;rw[a6g,D1,A1,B5,hv,a5U (by decide)]
  |true=>
   rw[a5U (by rw[hname];decide)]at hv;rw[a6a,D3,zo (by omega),a5I];by_cases hm:l[i].1∈J0 (l.take i)
   ·rw[a5W hm]at hv;have hf:I2 b l[i].1<b.length:=Gl.2 ((xP hp).2 hm);rw[a5W hf,a5H (by omega),D1,A1,B5,hv,a5U (by decide)]
   ·rw[a5U hm]at hv;have hf:¬I2 b l[i].1<b.length:=λh=>hm ((xP hp).1 (Gl.1 h));rw[a5U hf,a5N (by omega),D3,Eg (by omega),a5I,A1,A8,C1 (by omega)];refine⟨_,rfl,by rw[hv,Cx hi],?_,AM hs,?_⟩
    ·have hput:KX b l[i]=b.take (K0 b l[i].1)++l[i]::b.drop (K0 b l[i].1):=by unfold KX;rw[a5U hf]
     rw[hput,E4 hi];exact(qa _ _).trans ((hp.cons _).trans (List.perm_append_singleton _ _).symm)
    ·rw[Cx hi,a6K];exact⟨hnd,by simp,λx hx y hy e=>by rw[a6b]at hy;subst hy;subst e;exact hm hx⟩
 ·obtain⟨hv,hp,hs,hnd⟩:=hv;rw[a7b]at hv;rw[a52]at hp hnd;have hv:UL [] l=0:=hv;have hbl:=hp.length_eq;unfold aS fG;dsimp only;rw[decide_eq_false (by omega),D3,Qq (g:=(b,0)) ⟨by omega,by omega⟩ (λa ha=>hb a (hp.mem_iff.1 ha)) (by dsimp only;omega),Option.bind_some,hv,if_pos rfl];dsimp only;rw[AO hp,Qz hnd hp hs];cases (xk (0+pJ l)).2 with
  |true=>rw[a5W rfl];exact⟨_,rfl,rfl⟩
  |false=>rw[a5U (by decide)];exact⟨_,rfl,rfl⟩
theorem Xj{L:List Int}{k p:Int}{s:o7}{g:o8}(hs:ky L k s) (hk:k<1000000000) (h0:0<=k) (hg:Jj 256 g):Ok (gC s g p) λr=>ky L (k+40) r.1/\s.2<r.1.2/\r.2.length<=4096:=by
 unfold gC;rw[A4];refine(Vx hs (by omega) h0 (by have:=hg.1;omega) hg.2.1).mono λr1 h1=>?_;obtain⟨a1,a2,a3⟩:=h1;rw[Nh a3.b a3.n,a5I];have he:=Vn r1.2;generalize (a2j r1.2).1=e at he;have hc:∀{y:o7} {c:Bool},ky L (k+31) y->s.2<y.2->(c=true->0<e.length)->Ok (cG c y e) λr=>ky L (k+40) r.1/\s.2<r.1.2/\r.2.length<=4096:=by
  intro y c hy hq hc;unfold cG;rw[A5];refine⟨λh=>?_,λ_=>by rw[A1];exact⟨hy.le (by omega),hq,he⟩⟩;have hpos:=hc h;rw[A4];refine(K9 hy (n:=((e.length:Nat):Int)) (by omega) (by omega) (by omega)).mono λr3 h3=>?_;obtain⟨b1,b2,b3,b4⟩:=h3;rw[A4];refine(K9 b1 (n:=2) (by omega) (by omega) (by omega)).mono λr4 h4=>?_;obtain⟨c1,c2,c3,c4⟩:=h4;rw[A5];refine⟨λ_=>?_,λ_=>?_⟩
  ·rw[a5H (⟨by omega,b3,by omega⟩:(0:Int)<=0/\0<=r3.2/\r3.2<=((e.length:Nat):Int)),B7,A1];exact⟨c1.le (by omega),by dsimp only;omega,by dsimp only;rw[List.length_take];omega⟩
  ·rw[a5H (⟨by unfold LIM;omega,by unfold LEN;omega⟩:(0+e.length)*1<=LIM/\0+e.length<=LEN),B7,A4];refine(K9 c1 (n:=256) (by omega) (by omega) (by omega)).mono λr5 h5=>?_;obtain⟨d1,d2,d3,d4⟩:=h5;rw[a5H ⟨b3,b4⟩,B7,a5H (aJ _),B7,a5H (by omega),B7,A1];exact⟨d1.le (by omega),by dsimp only;omega,by dsimp only;rw[List.length_set];exact he⟩
 rw[A5];refine⟨λh=>?_,λ_=>hc (a1.le (by omega)) a2 (λh=>by cases h)⟩;have h:=a5P h;rw[A4];refine(K9 a1 (n:=12) (by omega) (by omega) (by omega)).mono λr6 h6=>?_;exact hc (h6.1.le (by omega)) (by have:=h6.2.1;omega) (λ_=>by omega)
def Jk(a:H6):Prop:=xl a.1/\xl a.2.1/\xl a.2.2.1/\a.2.2.2.1=false/\okU a.2.2.2.2
theorem a2o{l:List o5}{p:Int}(h:Nd l) (hp:okU p):Ok (gU l p) λr=>Jk r.1:=by
 have hg:=a38 h;unfold gU;rw[Ze (λa ha=>(h.2 a ha).2.1) (λa ha=>(h.2 a ha).len) (by have:=h.1;omega),a5I,A5,A1,A1];exact⟨λ_=>⟨AW,AW,AW,rfl,qe⟩,λ_=>⟨hg,hg,AW,rfl,hp⟩⟩
theorem Vy{a:H6}{raw:List UInt8}(h:Jk a) (hr:raw.length<=140737488351232):M5 a raw=some (a.1,(N9 a.2.1 a.2.2.2.2 raw).1,a.2.2):=by
 unfold M5;rw[AU h.2.1.b h.2.2.2.2 hr,a5I]
theorem GK{S S' R R':Type}{G1:S->Option (S⊕R)}{G2:S'->Option (S'⊕R')}(f:S->S') (K:R->Option R') (inv:S->Prop)
  (h:∀x,inv x->G2 (f x)=(G1 x).bind (λz=>match z with | .inl y=>some (.inl (f y)) | .inr r=>(K r).map .inr)/\∀y,G1 x=some (.inl y)->inv y):∀{x:S},inv x->F8 G2 (f x)=(F8 G1 x).bind K:=by
 have key:∀(n:Nat) (x:S),inv x->Hn n G2 (f x)=(Hn n G1 x).bind K:=by
  intro n
  induction n with
  |zero=>intro x _;rfl
  |succ n ih=>
   intro x hx;obtain⟨h1,h2⟩:=h x hx;unfold Hn;rw[h1];cases hg:G1 x with
   |none=>rfl
   |some y=>
    cases y with
    |inl z=>exact ih z (h2 z hg)
    |inr r=>
     rw[a5I,a5I];dsimp only;cases K r <;> rfl
 intro x hx;exact key _ x hx
theorem GL(k:IntKind) (a b:Int):bits .or k a b=bits .or k b a:=by
 unfold bits;simp only[BitVec.or_comm]
def BG(x:Int) (n:Nat):Int:=bits .or .u32 (li (x*2^(32-n))) (x / 2^n)
theorem nY(x:Int):L2 x 2=some (BG x 2)/\L2 x 6=some (BG x 6)/\L2 x 7=some (BG x 7)/\L2 x 11=some (BG x 11)/\L2 x 13=some (BG x 13)/\L2 x 17=some (BG x 17)/\L2 x 18=some (BG x 18)/\L2 x 19=some (BG x 19)/\L2 x 22=some (BG x 22)/\L2 x 25=some (BG x 25):=by
 refine⟨?_,?_,?_,?_,?_,?_,?_,?_,?_,?_⟩ <;> kernel_rfl
theorem zy(x:Int):E2 x 2=some (BG x 2)/\E2 x 6=some (BG x 6)/\E2 x 7=some (BG x 7)/\E2 x 11=some (BG x 11)/\E2 x 13=some (BG x 13)/\E2 x 17=some (BG x 17)/\E2 x 18=some (BG x 18)/\E2 x 19=some (BG x 19)/\E2 x 22=some (BG x 22)/\E2 x 25=some (BG x 25):=by
 have h:∀n:Nat,n<=32->bits .or .u32 (x / 2^n) (li (x*2^(32-n)))=BG x n:=λn _=>GL _ _ _;refine⟨(show _=some (bits .or .u32 (x / 2^2) (li (x*2^30))) by kernel_rfl).trans (congrArg some (h 2 (by decide))),(show _=some (bits .or .u32 (x / 2^6) (li (x*2^26))) by kernel_rfl).trans (congrArg some (h 6 (by decide))),(show _=some (bits .or .u32 (x / 2^7) (li (x*2^25))) by kernel_rfl).trans (congrArg some (h 7 (by decide))),(show _=some (bits .or .u32 (x / 2^11) (li (x*2^21))) by kernel_rfl).trans (congrArg some (h 11 (by decide))),(show _=some (bits .or .u32 (x / 2^13) (li (x*2^19))) by kernel_rfl).trans (congrArg some (h 13 (by decide))),(show _=some (bits .or .u32 (x / 2^17) (li (x*2^15))) by kernel_rfl).trans (congrArg some (h 17 (by decide))),(show _=some (bits .or .u32 (x / 2^18) (li (x*2^14))) by kernel_rfl).trans (congrArg some (h 18 (by decide))),(show _=some (bits .or .u32 (x / 2^19) (li (x*2^13))) by kernel_rfl).trans (congrArg some (h 19 (by decide))),(show _=some (bits .or .u32 (x / 2^22) (li (x*2^10))) by kernel_rfl).trans (congrArg some (h 22 (by decide))),(show _=some (bits .or .u32 (x / 2^25) (li (x*2^7))) by kernel_rfl).trans (congrArg some (h 25 (by decide)))⟩
theorem Nr(x a m:Int):li (li (x+a)+m)=li (x+li (a+m)):=by
 unfold li;rw[IntKind.wrap_u32,IntKind.wrap_u32,IntKind.wrap_u32,IntKind.wrap_u32];omega
theorem Lw{α β:Type}(b:Bool) (x:Option α) (f:α->Option β):(chk b x).bind f=chk b (x.bind f):=by cases b <;> rfl
theorem Lx{α β:Type}(b:Bool) (x y:Option α) (f:α->Option β):(sel b x y).bind f=sel b (x.bind f) (y.bind f):=by cases b <;> rfl
theorem a2p(i:Int) (a z s:Vector Int 8):gY i a z s=bm i a z s:=by
 have:iQ=gi:=by kernel_rfl
 unfold gY bm;rw[this]
theorem Rk(i:Int) (a z:Vector Int 8) (w k:Vector Int 64) (s:Vector Int 8):cO i a z w k s=X8 i a z w k s:=by
 have:dU=cJ:=by
  funext i a z w k s;unfold dU cJ iR gj;obtain⟨r2,r6,_,r11,r13,_,_,_,r22,r25⟩:=nY (L0 s 4 (0:Int));obtain⟨t2,t6,_,t11,t13,_,_,_,t22,t25⟩:=zy (L0 s 4 (0:Int));obtain⟨p2,p6,_,p11,p13,_,_,_,p22,p25⟩:=nY (L0 s 0 (0:Int));obtain⟨q2,q6,_,q11,q13,_,_,_,q22,q25⟩:=zy (L0 s 0 (0:Int));rw[r6,r11,r25,t6,t11,t25,p2,p13,p22,q2,q13,q22];simp only[a5I,a2p,Nr]
 unfold cO X8;rw[this]
theorem Rl(a:Vector Int 8) (z:Vector Int 8) (zz:Vector Int 64) (i:Int) (w:Vector Int 64):gZ i a z w=(bV i zz w).bind (au a z):=by
 unfold gZ bV;refine GK (G1:=λv:Int×Vector Int 64×Vector Int 64=>gJ v.1 v.2.1 v.2.2) (G2:=λv:Int×Vector Int 8×Vector Int 8×Vector Int 64=>dV v.1 v.2.1 v.2.2.1 v.2.2.2) (λx=>(x.1,a,z,x.2.2)) _ (λ_=>True) (λx _=>⟨?_,λ_ _=>trivial⟩) (x:=(i,zz,w)) trivial;obtain⟨i,zz,w⟩:=x;dsimp only;unfold dV gJ;obtain⟨_,_,r7,_,_,_,r18,_⟩:=nY (L0 w (Int.toNat (B3 (i-15))) (0:Int));obtain⟨_,_,t7,_,_,_,t18,_⟩:=zy (L0 w (Int.toNat (B3 (i-15))) (0:Int));obtain⟨_,_,_,_,_,p17,_,p19,_⟩:=nY (L0 w (Int.toNat (B3 (i-2))) (0:Int));obtain⟨_,_,_,_,_,q17,_,q19,_⟩:=zy (L0 w (Int.toNat (B3 (i-2))) (0:Int));rw[r7,r18,t7,t18,p17,p19,q17,q19];simp only[a5I,Lx,Lw]
theorem Vz(b:List UInt8) (a:Vector Int 8) (z:Vector Int 8) (zz:Vector Int 64) (i:Int) (w:Vector Int 64):hC b i a z w=(bW b i zz w).bind (au a z):=by
 unfold hC bW;refine GK (G1:=λv:List UInt8×Int×Vector Int 64×Vector Int 64=>gK v.1 v.2.1 v.2.2.1 v.2.2.2) (G2:=λv:List UInt8×Int×Vector Int 8×Vector Int 8×Vector Int 64=>dW v.1 v.2.1 v.2.2.1 v.2.2.2.1 v.2.2.2.2) (λx=>(x.1,x.2.1,a,z,x.2.2.2)) _ (λ_=>True) (λx _=>⟨?_,λ_ _=>trivial⟩) (x:=(b,i,zz,w)) trivial;obtain⟨b,i,zz,w⟩:=x;dsimp only;unfold dW gK iS jV;rw[Rl a z zz];simp only[a5I,Lx,Lw];congr 1;cases bV 16 zz w with
 |none=>rfl
 |some r=>rfl
theorem Rm:gX=lM:=by kernel_rfl
theorem a4a(a z:Vector Int 8) (w:Vector Int 64):au a z w=Option.bind lM λk=>X8 0 a z w k a:=
 (congrArg (λc=>Option.bind c λr1=>cO 0 a z w r1 a) Rm).trans (congrArg (Option.bind lM) (funext λk=>Rk 0 a z w k a))
theorem VA(a:Vector Int 8) (b:List UInt8):dy a b=T5 a b:=by
 unfold dy T5 nr;rw[Vz b a _ (Vector.replicate 64 (0:Int))];exact congrArg (Option.bind (bW b 0 (Vector.replicate 64 (0:Int)) (Vector.replicate 64 (0:Int)))) (funext λw=>a4a a _ w)
end Go.Proofs.YtjbgdpjgfjnkbaaGreatDoor.Am
