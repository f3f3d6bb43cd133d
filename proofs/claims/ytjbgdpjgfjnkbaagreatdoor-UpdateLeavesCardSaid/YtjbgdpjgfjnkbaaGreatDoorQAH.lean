/- Texts laid together: PUpP, PUpE, PUpR, PSame, PSameE. No conditions. -/
import Derived.Test.YtjbgdpjgfjnkbaaGreatDoorQAG
namespace Go.Proofs.YtjbgdpjgfjnkbaaGreatDoor.Am
open Go
variable {md:Int}
theorem Js{a:H6}(h:Jk a):qT a=some a:=by
 unfold qT;rw[AN h.1.b.2.2.2,a5I,AN h.2.1.b.2.2.2,a5I,AN h.2.2.1.b.2.2.2,a5I]
theorem ro{l:List KD}(h:l.length<=1000000):J8 l=some l:=AJ (u:=.arr 32 .byte) (by_:=32) (by show l.length*32<=140737488351232;omega) (by omega)
theorem Be{n:Nat}{s:StD}(h:StV md n s) (hn:n<=1000):ng s=some s:=by
 unfold ng;rw[Js h.2.1,a5I,Ed (h.2.2.1.b hn),a5I,ro (by have:=h.2.2.2.1;omega),a5I]
theorem Zy{l:List UInt8}(h:l.length<140737488350000):zj l=some (xV l):=by
 unfold zj;have e:xV l=a2t l:=by
  have:=GP h;rw[Rw (by omega)]at this;injection this with this;exact this.symm
 rw[VJ (by omega),a5I,e]
theorem a2J{l:List KD}(hl:l.length<=1000000) (k:KD):Ok (U6 l k) λr=>(r= -1/\k∉l)\/(0<=r/\k∈l):=by
 unfold U6 eO;refine C8 l (λi (_:Unit)=>(l,((l.length:Nat):Int),((i:Nat):Int),k)) (λi _=>k∉l.take i) (λi _ hi hv=>?_) (λ_ hv=>?_) (b0:=()) (by simp) (by omega)
 ·have e0:(l.getD i (Vector.replicate 32 (0:UInt8)):KD)=l[i]:=C9 hi _;unfold P9;dsimp only;rw[a5H (by omega:(i:Int)<((l.length:Nat):Int)),D1,a5H (by omega:(0:Int)<=(i:Int)/\(i:Int)<((l.length:Nat):Int)),B7,a5J,A5];refine⟨λe=>?_,λe=>?_⟩
  ·have e:l[i]=k:=e0.symm.trans ((U.beq_iff (.arr 32 .byte) _ rfl k _).1 e).symm;rw[A1,B5];exact .inr ⟨by omega,e▸a5V hi⟩
  ·have e:l[i]≠k:=λhk=>absurd (e.symm.trans ((U.beq_iff (.arr 32 .byte) _ rfl k _).2 (e0.trans hk).symm)) (by decide);rw[A1,A8,C1 (by omega)];refine⟨(),rfl,?_⟩;rw[E4 hi,a6Z,a6b];exact λhx=>hx.elim hv (λhx=>e hx.symm)
 ·unfold P9;dsimp only;rw[a52]at hv;rw[a5N (by omega),D3,A1,B5];exact .inl ⟨rfl,hv⟩
theorem Si{l:List KD}(hl:l.length<=1000000) (k:KD):wJ l k=some (decide (k∈l)):=by
 refine J1.1 ?_;unfold wJ Z6;rw[A4,A4];refine(a2J hl k).mono λr hr=>⟨_,rfl,_,rfl,?_⟩;rcases hr with⟨rfl,hk⟩|⟨h0,hk⟩
 ·rw[a5N hk];rfl
 ·rw[a5H hk,a5H h0]
theorem a2K{l:List KD}(hl:l.length<=1000000) (k:KD):Ok (I0 l k) λr=>r.1=l/\((r.2= -1/\k∉l)\/∃i:Nat,r.2=(i:Int)/\∃hi:i<l.length,l[i]=k/\k∉l.take i):=by
 unfold I0 P2;refine C8 l (λi (_:Unit)=>(k,((l.length:Nat):Int),((i:Nat):Int),l)) (λi _=>k∉l.take i) (λi _ hi hv=>?_) (λ_ hv=>?_) (b0:=()) (by simp) (by omega)
 ·have e0:(l.getD i (Vector.replicate 32 (0:UInt8)):KD)=l[i]:=C9 hi _;unfold H2;dsimp only;rw[a5H (by omega:(i:Int)<((l.length:Nat):Int)),D1,a5H (by omega:(0:Int)<=(i:Int)/\(i:Int)<((l.length:Nat):Int)),B7,a5J,a5H hi,B7];unfold kK;rw[a5I,A5];refine⟨λe=>?_,λe=>?_⟩
  ·have e:l[i]=k:=e0.symm.trans ((U.beq_iff (.arr 32 .byte) _ rfl _ k).1 e);rw[A1,B5];exact⟨rfl,.inr ⟨i,rfl,hi,e,hv⟩⟩
  ·have e:l[i]≠k:=λhk=>absurd (e.symm.trans ((U.beq_iff (.arr 32 .byte) _ rfl _ k).2 (e0.trans hk))) (by decide);rw[A1,A8,C1 (by omega)];refine⟨(),rfl,?_⟩;rw[E4 hi,a6Z,a6b];exact λhx=>hx.elim hv (λhx=>e hx.symm)
 ·unfold H2;dsimp only;rw[a52]at hv;rw[a5N (by omega),D3,A1,B5];exact⟨rfl,.inl ⟨rfl,hv⟩⟩
theorem Sj{l:List KD}(hl:l.length<=1000000) (hn:l.Nodup) (k:KD):E9 l k=some (l.erase k):=by
 refine J1.1 ?_;unfold E9;rw[A4];refine(a2K hl k).mono λr hr=>?_;obtain⟨r1,r2⟩:=r;obtain⟨e,hr⟩:=hr;dsimp only at e hr⊢;subst e;rcases hr with⟨rfl,hk⟩|⟨i,rfl,hi,hk,hv⟩
 ·rw[a5H rfl,D1,List.erase_of_not_mem hk];exact⟨_,rfl,rfl⟩
 ·have he:r1.erase k=r1.take i++r1.drop (i+1):=by
   have el:r1=r1.take i++(k::r1.drop (i+1)):=by rw[<-hk,<-a6n hi,a6d]
   have:(r1.take i++(k::r1.drop (i+1))).erase k=r1.take i++r1.drop (i+1):=by rw[List.erase_append_right _ hv,List.erase_cons_head]
   rwa [<-el]at this
  rw[a5N (by omega),D3,C1 (by omega)];unfold N8;refine L5 (λm v=>∃(j:Nat) (t:List KD),j+m=r1.length/\v=(k,((j:Int)-1),(j:Int),t)/\i+1<=j/\t.length=r1.length/\t.take (j-1)=r1.take i++(r1.take j).drop (i+1)/\t.drop j=r1.drop j) ?_ ⟨i+1,r1,by omega,by simp,a56 _,rfl,?_,rfl⟩ (n:=r1.length-(i+1)) (by omega)
  ·rintro m v ⟨j,t,hm,rfl,hij,ht,h1,h2⟩;unfold I9;dsimp only;rw[A5];refine⟨λhc=>?_,λhc=>?_⟩
   ·have hc:=a5P hc;have hj:j<t.length:=by omega
    have hj':j<r1.length:=by omega
    have e0:(t.getD j (Vector.replicate 32 (0:UInt8)):KD)=t[j]:=C9 hj _;have e1:t[j]=r1[j]:=by
     have a1:=a6n hj;have a2:=a6n hj';rw[h2,a2]at a1;injection a1 with a1 _;exact a1.symm
    have hne:t[j]≠k:=by
     rw[e1,<-hk];intro e;have:=(a75 hn).1 e;omega
    have hb:U.beq (.arr 32 .byte) (t.getD j (Vector.replicate 32 (0:UInt8))) k=false:=by
     cases hx:U.beq (.arr 32 .byte) (t.getD j (Vector.replicate 32 (0:UInt8))) k with
     |false=>rfl
     |true=>exact absurd (e0.symm.trans ((U.beq_iff (.arr 32 .byte) _ rfl _ k).1 hx)) hne
    have ej:Int.toNat ((j:Int)-1)=j-1:=by omega
    rw[a5H (by omega),B7,a5J,a5H hj,B7];unfold kK;rw[a5I];refine(A5 _ _ _ _).2 ⟨λ_=>?_,λhx=>absurd (hx.symm.trans (by show(!(U.beq (.arr 32 .byte) (t.getD j (Vector.replicate 32 (0:UInt8))) k))=true;rw[hb];rfl)) (by decide)⟩;rw[a5H (by omega),B7,ej,a5H (by omega),B7,A1,A8,C1 (by omega)];have w1:B3 ((j:Int)-1+1)=((j+1:Nat):Int)-1:=by rw[D9 (by omega) (by omega)];omega
    rw[w1];refine⟨m-1,by omega,j+1,t.set (j-1) t[j],by omega,?_,by omega,by rw[a6z];exact ht,?_,?_⟩
    ·exact congrArg (λx:KD=>(k,((j+1:Nat):Int)-1,((j+1:Nat):Int),t.set (j-1) x)) e0
    ·have hj1:j-1<(t.set (j-1) t[j]).length:=by rw[a6z];omega
     have a1:(t.set (j-1) t[j]).take (j-1+1)=(t.set (j-1) t[j]).take (j-1)++[(t.set (j-1) t[j])[j-1]]:=E4 hj1;rw[show j-1+1=j+1-1 by omega]at a1;rw[a1,List.getElem_set_self,List.take_set,List.set_eq_of_length_le (by rw[a5T];omega),h1,E4 hj',a7h (by rw[a5T];omega),e1,a50]
    ·rw[List.drop_set_of_lt (by omega),a70,h2,<-a70]
   ·have hc:=a57 hc;have hj:j=r1.length:=by omega
    subst hj;have ej:Int.toNat (((r1.length:Nat):Int)-1)=r1.length-1:=by omega
    rw[C4];unfold I8;rw[a5H (by omega),B7,ej,a5H (by omega),B7];have hlen:(t.take (r1.length-1)++List.replicate (t.length-(r1.length-1)) (Vector.replicate 32 (0:UInt8))).length=r1.length:=by rw[a5K,a5T,a6t];omega
    rw[hlen,a5H (by omega),B7];refine⟨_,rfl,?_⟩;show List.take (r1.length-1) (t.take (r1.length-1)++_)=r1.erase k;rw[a62 (by rw[a5T];omega),a7U,Nat.min_self,h1,a52,he]
  ·rw[show i+1-1=i by omega,a6X (by rw[a5T];omega),a5Z]
theorem EG{l:List KD}(hl:l.length<=1000000) (hn:l.Nodup) (k:KD):gR l k=some (l.erase k):=by
 unfold gR;rw[ro hl,a5I,Sj hl hn,a5I]
theorem Sk{l:List KD}(hl:l.length<=1000000) (hn:l.Nodup) (k:KD):kY l k=some (l.erase k):=by
 unfold kY;rw[ro hl,a5I,Sj hl hn,a5I]
theorem Wg{c:C6}{l:List KD}(h:CaV c l) (k:KD):pS l c.2.2.2.1 k=some (GQ c.2.2.2.1 l k):=by
 obtain⟨a,b,d⟩:=h;have e1:(l.erase k).length<=l.length:=(List.erase_sublist (a:=k) (l:=l)).length_le;unfold pS GQ;generalize c.2.2.2.1=z at d⊢;rw[Si (by omega),a5I];by_cases hk:k∈l
 ·rw[a5H hk,a6a,D3,Sk (by omega) b,a5I,a5H (nZ (by omega)),B7,a5W hk]
 ·rw[a5N hk,a6g,D1,a5U hk];by_cases h0:min (max z 0) 1024=0
  ·rw[a5H h0,D1,ro (by omega),a5I,a5W (by omega)];have:l=[]:=a6f (by omega);subst this;rfl
  ·have w1:B3 (((l.length:Nat):Int)-min (max z 0) 1024)=((l.length:Nat):Int)-min (max z 0) 1024:=D9 (by omega) (by omega);have w2:B3 (((l.length:Nat):Int)-min (max z 0) 1024+1)=((l.length:Nat):Int)-min (max z 0) 1024+1:=D9 (by omega) (by omega);have hd:∀j:Nat,(l.drop j).length<=l.length:=λj=>by rw[a5Y];omega
   have hd2:=hd (Int.toNat (max (((l.length:Nat):Int)-min (max z 0) 1024+1) 0));rw[a5N h0,D3,w1,w2,a5H (by omega),B7,a5J,a52,ro (by omega),a5I,a5H (nZ (by omega)),B7];congr 1;split
   ·rw[show Int.toNat (max (((l.length:Nat):Int)-min (max z 0) 1024+1) 0)=1 by omega,a7h (by omega)]
   ·rw[show Int.toNat (max (((l.length:Nat):Int)-min (max z 0) 1024+1) 0)=0 by omega,a7T]
theorem a2L{l:List ED}(hl:l.length<=1000000) (k:KD):G6 l k=some (atE l k):=by
 refine J1.1 ?_;unfold G6 L7;refine C8 l (λi (_:Unit)=>(l,k,((l.length:Nat):Int),((i:Nat):Int))) (λi _=>∀e∈l.take i,isK k e=false) (λi _ hi hne=>?_) (λ_ hne=>?_) (b0:=()) (by simp) (by omega)
 ·unfold F7;dsimp only;rw[a5H (by omega:(i:Int)<((l.length:Nat):Int)),D1,a5H (by omega:(0:Int)<=(i:Int)/\(i:Int)<((l.length:Nat):Int)),B7,a5J,C9 hi];unfold nh;rw[a5I,WU,A5];refine⟨λhk=>?_,λhk=>?_⟩
  ·rw[A1,B5];have:l.findIdx? (isK k)=some i:=by
    rw[List.findIdx?_eq_some_iff_getElem];refine⟨hi,hk,λj hj=>?_⟩;have:=hne l[j] (List.mem_take_iff_getElem.2 ⟨j,by omega,rfl⟩);rw[this];decide
   unfold atE;rw[this];rfl
  ·rw[A1,A8,C1 (by omega)];refine⟨(),rfl,λe he=>?_⟩;rw[E4 hi]at he;rcases List.mem_append.1 he with he|he
   ·exact hne e he
   ·rw[List.mem_singleton.1 he];exact hk
 ·unfold F7;dsimp only;rw[a52]at hne;rw[a5N (by omega),D3,A1,B5];have:l.findIdx? (isK k)=none:=by rw[List.findIdx?_eq_none_iff];exact hne
  unfold atE;rw[this];rfl
theorem Jt{n:Nat}{s:StD}(h:StV md n s) (hn:n<=1000) (k:KD):kZ s k=some (uV s k,decide (∃e∈s.2.2.2.2.2.1,e.1=k)):=by
 have hl:=h.2.2.1.1;unfold kZ pp uV;rw[a2L (by omega),a5I,a5I];by_cases hs:∃e∈s.2.2.2.2.2.1,e.1=k
 ·obtain⟨i,e1,e2,hi,_⟩:=xL hs;have w:B3 ((i:Int)+1)=((i+1:Nat):Int):=by rw[D9 (by omega) (by omega)];omega
  have h1:(s.2.2.2.2.2.1.take i).length=i:=by rw[a5T];omega
  have h2:(s.2.2.2.2.2.1.drop (i+1)).length=s.2.2.2.2.2.1.length-(i+1):=a5Y;rw[e1,a5N (by omega),D3,a5H hs,w];simp only[a5J,a52,h1,h2];rw[a5H (by omega),B7,a5H (pA (by omega)),B7,a5H (by omega),B7,a5H (pA (by omega)),B7,List.eraseP_eq_eraseIdx,e2];show some ((s.1,s.2.1,s.2.2.1,s.2.2.2.1,s.2.2.2.2.1,_,s.2.2.2.2.2.2),true)=_;rw[<-a7R];rfl
 ·have h':∀e∈s.2.2.2.2.2.1,e.1≠k:=λe he hk=>hs ⟨e,he,hk⟩;rw[xK h',a5H (by omega),D1,a5N hs,List.eraseP_of_forall_not λe he=>by rw[isK,a5N (h' e he)];decide];rfl
end Go.Proofs.YtjbgdpjgfjnkbaaGreatDoor.Am
namespace Go.Proofs.YtjbgdpjgfjnkbaaGreatDoor.Am
open Go
variable {md:Int}
theorem StV.leave{n:Nat}{s:StD}(h:StV md n s) (k:KD):StV md n (uV s k):=h.e (h.2.2.1.sub (List.eraseP_sublist ..))
theorem StV.forget{n:Nat}{s:StD}(h:StV md n s) (k:KD):StV md n (qz s k):=by
 unfold qz;split
 ·exact h
 ·exact h.c (h.2.2.2.drop k)
noncomputable def Ju(s:StD) (raw:List UInt8) (r:B1):StD:=if r.1=0 then pD s (GQ s.1.2.2.2.1 s.2.2.2.2.2.2 (xV raw))else qz s (xV raw)
noncomputable def qC(s:StD) (raws:List (List UInt8)) (rs:List B1):Nat->StD×List KD
 |0=>(s,[])
 |i+1=>(uV (Ju (qC s raws rs i).1 (raws.getD i []) (rs.getD i R6)) (xV (raws.getD i [])),
   if ∃e∈(Ju (qC s raws rs i).1 (raws.getD i []) (rs.getD i R6)).2.2.2.2.2.1,e.1=xV (raws.getD i []) then(qC s raws rs i).2++[xV (raws.getD i [])] else(qC s raws rs i).2)
theorem pE(s:StD) (raws:List (List UInt8)) (rs:List B1) (i:Nat):qC s raws rs (i+1)=(uV (Ju (qC s raws rs i).1 (raws.getD i []) (rs.getD i R6)) (xV (raws.getD i [])),
   if ∃e∈(Ju (qC s raws rs i).1 (raws.getD i []) (rs.getD i R6)).2.2.2.2.2.1,e.1=xV (raws.getD i []) then(qC s raws rs i).2++[xV (raws.getD i [])] else(qC s raws rs i).2):=rfl
theorem StV.rem{n:Nat}{s:StD}(h:StV md n s) (raw:List UInt8) (r:B1):StV md n (Ju s raw r):=by
 unfold Ju;split
 ·exact h.c (h.2.2.2.push _)
 ·exact h.forget _
theorem qg{n:Nat}{s:StD}(h:StV md n s) (raws:List (List UInt8)) (rs:List B1):∀i,StV md n (qC s raws rs i).1/\(qC s raws rs i).2.length<=i
 |0=>⟨h,a56 _⟩
 |i+1=>by
  obtain⟨h1,h2⟩:=qg h raws rs i;refine⟨(h1.rem _ _).leave _,?_⟩;rw[pE];show(ite _ _ _:List KD).length<=i+1;split
  ·rw[a5K,a51];omega
  ·omega
theorem Sl{n:Nat}{s:StD}{raws:List (List UInt8)}{rs:List B1}(h:StV md n s) (hn:n<=1000) (hl:raws.length<=1000000) (hl2:rs.length<=1000000) (hr:∀r∈raws,r.length<=1000000):gL s raws rs=some (qC s raws rs (min raws.length rs.length)):=by
 refine J1.1 ?_;unfold gL pq;rw[Be h hn,a5I];refine L5 (λm v=>∃(i:Nat) (b1:StD),i+m=min raws.length rs.length/\v=(raws,rs,min ((raws.length:Nat):Int) ((rs.length:Nat):Int),(i:Int),(qC s raws rs i).1,b1,(qC s raws rs i).2)) ?_ ⟨0,_,by omega,rfl⟩ (n:=min raws.length rs.length) (by omega);rintro m v ⟨i,b1,hi,rfl⟩;obtain⟨hv,h0⟩:=qg h raws rs i;unfold mw;dsimp only;rw[A5];refine⟨λhc=>?_,λhc=>?_⟩
 ·have hc:=a5P hc;have hir:i<raws.length:=by omega
  have c3:Ok (bX raws rs (min ((raws.length:Nat):Int) ((rs.length:Nat):Int)) (i:Int) (Ju (qC s raws rs i).1 (raws.getD i []) (rs.getD i R6)) b1 (xV (raws.getD i [])) (qC s raws rs i).2) (Nxt (λx=>x=qC s raws rs (min raws.length rs.length)) λz=>∃m',m'<m/\∃(i:Nat) (b1:StD),i+m'=min raws.length rs.length/\z=(raws,rs,min ((raws.length:Nat):Int) ((rs.length:Nat):Int),(i:Int),(qC s raws rs i).1,b1,(qC s raws rs i).2)):=by
   unfold bX;rw[Jt (hv.rem _ _) hn,a5I,A5];refine⟨λhe=>?_,λhe=>?_⟩
   ·have he:=a5P he;rw[a5H (nZ (by omega)),B7,A1,A8,C1 (by omega)];refine⟨m-1,by omega,i+1,b1,by omega,?_⟩;rw[pE,a5W he]
   ·have he:=a57 he;rw[A1,A8,C1 (by omega)];refine⟨m-1,by omega,i+1,b1,by omega,?_⟩;rw[pE,a5U he]
  have hr':=hr _ (a5V hir);unfold Ju at c3;rw[a5H (by omega),B7,a5J,Zy (by rw[C9 hir];omega),a5I,a5H (by omega),B7,A5];refine⟨λe=>?_,λe=>?_⟩
  ·rw[a5W (a5P e)]at c3;rw[Wg hv.2.2.2,a5I];exact c3
  ·rw[a5U (a57 e)]at c3;unfold qz at c3;rw[A5];refine⟨λe2=>?_,λe2=>?_⟩
   ·rw[a5U (by intro e3;rw[e3]at e2;cases e2)]at c3;rw[EG (by have:=hv.2.2.2.1;omega) hv.2.2.2.2.1,a5I];exact c3
   ·rw[a5W (by simpa using e2)]at c3;exact c3
 ·have hc:=a57 hc;have:i=min raws.length rs.length:=by omega
  rw[C4];unfold mv;exact⟨_,rfl,by rw[<-this];exact rfl⟩
theorem Sm{n:Nat}{s:StD}{raws:List (List UInt8)}{rs:List B1}(h:StV md n s) (hn:n<=1000) (hl:raws.length<=1000000) (hl2:rs.length<=1000000) (hr:∀r∈raws,r.length<=1000000):M6 s raws rs=some (qC s raws rs (min raws.length rs.length)):=by
 refine J1.1 ?_;unfold M6 fN;refine L5 (λm v=>∃(i:Nat) (b1:StD),i+m=min raws.length rs.length/\v=(raws,rs,(i:Int),(qC s raws rs i).1,b1,(qC s raws rs i).2)) ?_ ⟨0,_,by omega,rfl⟩ (n:=min raws.length rs.length) (by omega);rintro m v ⟨i,b1,hi,rfl⟩;obtain⟨hv,h0⟩:=qg h raws rs i;have fin:¬i<min raws.length rs.length->Ok (Option.map Sum.inr (Q7 (qC s raws rs i).1 b1 (qC s raws rs i).2):Option ((List (List UInt8)×List B1×Int×StD×StD×List KD)⊕(StD×List KD))) (Nxt (λx=>x=qC s raws rs (min raws.length rs.length)) λz=>∃m',m'<m/\∃(i:Nat) (b1:StD),i+m'=min raws.length rs.length/\z=(raws,rs,(i:Int),(qC s raws rs i).1,b1,(qC s raws rs i).2)):=λhc=>by
  have:i=min raws.length rs.length:=by omega
  rw[C4];unfold Q7;exact⟨_,rfl,by rw[<-this];exact rfl⟩
 unfold bP;dsimp only;rw[A5];refine⟨λhc=>?_,λhc=>fin (by have:=a57 hc;omega)⟩;have hc:=a5P hc;rw[A5];refine⟨λhd=>?_,λhd=>fin (by have:=a57 hd;omega)⟩;have hd:=a5P hd;have hir:i<raws.length:=by omega
 have hr':=hr _ (a5V hir);have c3:∀{v18 v20:Int} {v19:List B1} {v21:Bool},Ok (M2 raws rs (i:Int) v18 v19 v20 v21 (Ju (qC s raws rs i).1 (raws.getD i []) (rs.getD i R6)) b1 (xV (raws.getD i [])) (qC s raws rs i).2) (Nxt (λx=>x=qC s raws rs (min raws.length rs.length)) λz=>∃m',m'<m/\∃(i:Nat) (b1:StD),i+m'=min raws.length rs.length/\z=(raws,rs,(i:Int),(qC s raws rs i).1,b1,(qC s raws rs i).2)):=fun {v18} {v20} {v19} {v21}=>by
  unfold M2;rw[EB (hv.rem _ _) hn,a5I,A5];refine⟨λhe=>?_,λhe=>?_⟩
  ·have he:=a5P he;rw[a5H (nZ (by omega)),B7,A1,A8,C1 (by omega)];refine⟨m-1,by omega,i+1,b1,by omega,?_⟩;rw[pE,a5W he]
  ·have he:=a57 he;rw[A1,A8,C1 (by omega)];refine⟨m-1,by omega,i+1,b1,by omega,?_⟩;rw[pE,a5U he]
 unfold Ju at c3;rw[a5H (by omega),B7,a5J,GP (by rw[C9 hir];omega),a5I,a5H (by omega),B7,A5];refine⟨λe=>?_,λe=>?_⟩
 ·rw[a5W (a5P e)]at c3;rw[RF hv,a5I];exact c3
 ·rw[a5U (a57 e)]at c3;rw[Ba hv,a5I];exact c3
def Hc(now then_ lim:Int):Bool:=decide (0<lim)&&decide (then_<now)&&decide (D4 lim<D4 (D4 now-D4 then_))
theorem LM(a b c:Int):X0 a b c=some (Hc a b c):=by
 unfold X0 Hc;by_cases h1:0<c
 ·by_cases h2:b<a
  ·rw[a5H h1,D1,a5H h2,D1];rfl
  ·rw[a5H h1,D1,a5N h2,D3];rfl
 ·rw[a5N h1,D3];rfl
theorem Hd(a b:Int){c:Int}(hc:0<=c):iD a b c=some (Hc a b c):=by
 unfold iD Hc;by_cases h1:c=0
 ·subst h1;rfl
 ·by_cases h2:b<a
  ·rw[a5N h1,a6g,D1,a5H h2,D1,a5H (by omega:0<c)];rfl
  ·rw[a5N h1,a6g,D1,a5N h2,D3,Bool.and_false];rfl
def vU(s:StD) (e:ED):Bool:=Hc s.2.2.1 e.2.2.2.2.2.2.1 s.1.2.2.2.2.1||Hc s.2.2.2.1 e.2.2.2.2.2.2.2.1 s.1.2.2.2.2.2.1
def dr(s:StD) (l:List ED):List KD:=(l.filter (vU s)).map λe=>e.1
def dropL(c:List KD) (ks:List KD):List KD:=ks.foldl (λc k=>c.erase k) c
theorem CaV.dropL{c:C6}:∀{ks l:List KD},CaV c l->CaV c (dropL l ks)
 |[],_,h=>h
 |k::ks,_,h=>CaV.dropL (ks:=ks) (h.drop k)
theorem um(c ks:List KD) (k:KD):dropL c (ks++[k])=(dropL c ks).erase k:=by unfold dropL;rw[a7Q];rfl
def oe(l:List ED) (ks:List KD):List ED:=l.filter λe=>decide (e.1∉ks)
theorem un{l:List ED}(h:(l.map λe=>e.1).Nodup) (k:KD):l.eraseP (isK k)=oe l [k]:=by
 unfold oe
 induction l with
 |nil=>rfl
 |cons e l ih=>
  rw[a55,a6P]at h;by_cases hk:e.1=k
  ·have h1:isK k e=true:=a5H hk;rw[List.eraseP_cons_of_pos h1,a7k (by simp[hk])];refine(List.filter_eq_self.2 λx hx=>?_).symm;have:x.1≠k:=λe2=>h.1 (by rw[hk,<-e2];exact a6S hx);simp[this]
  ·have h1:¬isK k e=true:=by unfold isK;rw[a5N hk];decide
   rw[List.eraseP_cons_of_neg h1,a68 (by simp[hk]),ih h.2]
theorem mG(l:List ED) (ks:List KD):(oe l ks).Sublist l:=List.filter_sublist
theorem He(l:List ED) (ks:List KD) (k:KD):oe (oe l ks) [k]=oe l (ks++[k]):=by
 unfold oe;rw[List.filter_filter];refine List.filter_congr λe _=>?_;simp only[a6Z,a6b,Bool.and_eq_decide,decide_not];by_cases h1:e.1∈ks <;> by_cases h2:e.1=k <;> simp[h1,h2]
theorem zC(l:List ED):oe l []=l:=List.filter_eq_self.2 λx _=>by simp
def sv(s:StD):StD×List KD:=(pD (tJ s (oe s.2.2.2.2.2.1 (dr s s.2.2.2.2.2.1))) (dropL s.2.2.2.2.2.2 (dr s s.2.2.2.2.2.1)),dr s s.2.2.2.2.2.1)
theorem a2M{s:StD}{l:List ED}(hl:l.length<=1000000):X1 s.1 l s.2.2.1 s.2.2.2.1=some (dr s l):=by
 refine J1.1 ?_;unfold X1 iw;refine C8 l (λi (v:List KD)=>(s.2.2.1,s.2.2.2.1,l,((l.length:Nat):Int),((i:Nat):Int),s.1,v)) (λi v=>v=dr s (l.take i)) (λi v hi hv=>?_) (λv hv=>?_) (b0:=[]) rfl (by omega)
 ·have hv':v.length<=i:=by
   rw[hv];unfold dr;rw[a5X];exact a6c (a7s _ _) (by rw[a5T];omega)
  have es:dr s (l.take (i+1))=v++(if vU s l[i]=true then [l[i].1]else []):=by
   unfold dr;rw[E4 hi,a6W,a53,hv];unfold dr;congr 1;split
   ·rename_i he;rw[a68 he];rfl
   ·rename_i he;rw[a7k he];rfl
  have app:vU s l[i]=true->Ok (chk (decide ((v.length+1)*32<=LIM/\v.length+1<=LEN)) (some (Sum.inl (s.2.2.1,s.2.2.2.1,l,((l.length:Nat):Int),B3 ((i:Int)+1),s.1,v++[l[i].1]))):Option ((Int×Int×List ED×Int×Int×C6×List KD)⊕List KD)) (Nxt (λr=>r=dr s l) λz=>∃b':List KD,z=(s.2.2.1,s.2.2.2.1,l,((l.length:Nat):Int),(((i+1:Nat):Nat):Int),s.1,b')/\b'=dr s (l.take (i+1))):=λhe=>by
   rw[a5H (nZ (by omega)),B7,A1,A8,C1 (by omega)];exact⟨_,rfl,by rw[es,a5W he]⟩
  unfold V3;dsimp only;rw[a5H (by omega:(i:Int)<((l.length:Nat):Int)),D1,a5H (by omega:(0:Int)<=(i:Int)/\(i:Int)<((l.length:Nat):Int)),B7,a5J,C9 hi,LM,a5I,A5];refine⟨λh1=>app (by unfold vU;rw[h1];rfl),λh1=>?_⟩;rw[LM,a5I,A5];refine⟨λh2=>app (by unfold vU;rw[h2,Bool.or_true]),λh2=>?_⟩;rw[A1,A8,C1 (by omega)];exact⟨_,rfl,by rw[es,a5U (by unfold vU;rw[h1,h2];decide),a5Z]⟩
 ·unfold V3;dsimp only;rw[a5N (by omega),D3,A1,B5,hv,a52]
def vV(s:StD) (ks cs:List KD):StD:=pD (tJ s (oe s.2.2.2.2.2.1 ks)) (dropL s.2.2.2.2.2.2 cs)
theorem StV.less{n:Nat}{s:StD}(h:StV md n s) (ks cs:List KD):StV md n (vV s ks cs):=(h.e (h.2.2.1.sub (mG _ ks))).c h.2.2.2.dropL
theorem CR{n:Nat}{s:StD}(h:StV md n s) (ks cs:List KD) (k:KD):uV (vV s ks cs) k=vV s (ks++[k]) cs:=by
 unfold uV vV;have e:(pD (tJ s (oe s.2.2.2.2.2.1 ks)) (dropL s.2.2.2.2.2.2 cs)).2.2.2.2.2.1=oe s.2.2.2.2.2.1 ks:=rfl;rw[e,un (((mG _ ks).map _).nodup h.2.2.1.2.2),He];rfl
theorem Xs{n:Nat}{s:StD}(h:StV md n s) (hn:n<=1000):U2 s=some (sv s):=by
 have hl:=h.2.2.1.1;refine J1.1 ?_;unfold U2;rw[a2M (by omega),a5I];have hK:(dr s s.2.2.2.2.2.1).length<=1000:=by
  unfold dr;rw[a5X];exact a6c (a7s _ _) (by omega)
 unfold sv;generalize dr s s.2.2.2.2.2.1=K at hK⊢;unfold gG;refine C8 K (λi (v:StD)=>(((K.length:Nat):Int),((i:Nat):Int),v,_,K)) (λi v=>v=vV s (K.take i) (K.take i)) (λi v hi hv=>?_) (λv hv=>?_) (b0:=s) (by unfold vV;rw[a6E,zC];rfl) (by omega)
 ·have hvv:=h.less (K.take i) (K.take i);unfold T4;dsimp only;rw[a5H (by omega:(i:Int)<((K.length:Nat):Int)),D1,a5H (by omega:(0:Int)<=(i:Int)/\(i:Int)<((K.length:Nat):Int)),B7,a5J,a5H hi,B7,C9 hi,hv,EB hvv hn,a5I,Jm (hvv.leave _),a5I,A1,A8,C1 (by omega)];refine⟨_,rfl,?_⟩;rw[CR h,E4 hi];unfold vV;rw[um];rfl
 ·unfold T4 cZ;dsimp only;rw[a52]at hv;rw[a5N (by omega),D3,C4,hv];exact⟨_,rfl,rfl⟩
theorem vW{l:List ED}{ks:List KD}{i:Nat}(hi:i<l.length) (hn:(l.map λe=>e.1).Nodup) (hs:∀k∈ks,k∈(l.take i).map λe=>e.1):oe (l.take (i+1)) ks=oe (l.take i) ks++[l[i]]/\oe (l.take (i+1)) (ks++[l[i].1])=oe (l.take i) ks:=by
 have hnot:l[i].1∉(l.take i).map λe=>e.1:=by
  intro hm;obtain⟨e,he,ek⟩:=List.mem_map.1 hm;obtain⟨j,hj,ej⟩:=List.mem_take_iff_getElem.1 he;have h1:j<(l.map λe=>e.1).length:=by rw[a5X];omega
  have h2:i<(l.map λe=>e.1).length:=by rw[a5X];omega
  have:(l.map λe=>e.1)[j]=(l.map λe=>e.1)[i]:=by rw[a6J,a6J,ej,ek]
  have:=(a75 hn).1 this;omega
 constructor
 ·unfold oe;rw[E4 hi,a6W,a68 (by simpa using λhk=>hnot (hs _ hk))];rfl
 ·rw[<-He];have e1:oe (l.take (i+1)) ks=oe (l.take i) ks++[l[i]]:=by
   unfold oe;rw[E4 hi,a6W,a68 (by simpa using λhk=>hnot (hs _ hk))];rfl
  rw[e1];unfold oe;rw[a6W,a7k (by simp),List.filter_nil,a5Z];refine List.filter_eq_self.2 λe he=>?_;have he:=(List.mem_filter.1 he).1;have:e.1≠l[i].1:=λek=>hnot (by rw[<-ek];exact a6S he);simpa using this
theorem Xt{n:Nat}{s:StD}(h:StV md n s) (hn:n<=1000):kL s=some (sv s):=by
 have hl:=h.2.2.1.1;have hnd:=h.2.2.1.2.2;have hcf:=h.1.2.2.2;refine J1.1 ?_;unfold kL;rw[Be h hn,a5I];unfold sv;obtain⟨l,el⟩:∃l,l=s.2.2.2.2.2.1:=⟨_,rfl⟩;rw[<-el]at hl hnd⊢;unfold pU;refine C8 l (λi (v:List KD×List ED)=>(l,((l.length:Nat):Int),((i:Nat):Int),pD s (dropL s.2.2.2.2.2.2 v.1),_,v.1,v.2)) (λi v=>v.1=dr s (l.take i)/\v.2=oe (l.take i) v.1) (λi v hi hv=>?_) (λv hv=>?_) (b0:=([],[])) ⟨rfl,rfl⟩ (by omega)
 ·obtain⟨ks,es⟩:=v;obtain⟨v1,v2⟩:=hv;dsimp only at v1 v2;subst v1;subst v2;have hsub:∀k∈dr s (l.take i),k∈(l.take i).map λe=>e.1:=λk hk=>by
   obtain⟨e,he,rfl⟩:=List.mem_map.1 hk;exact a6S (List.mem_filter.1 he).1
  obtain⟨o1,o2⟩:=vW hi hnd hsub;have hlen:(dr s (l.take i)).length<=1000:=by
   unfold dr;rw[a5X];exact a6c (a7s _ _) (by rw[a5T];omega)
  have hlen2:(oe (l.take i) (dr s (l.take i))).length<=1000:=a6c (mG _ _).length_le (by rw[a5T];omega);have es:dr s (l.take (i+1))=dr s (l.take i)++(if vU s l[i]=true then [l[i].1]else []):=by
   unfold dr;rw[E4 hi,a6W,a53];congr 1;split
   ·rename_i he;rw[a68 he];rfl
   ·rename_i he;rw[a7k he];rfl
  have hca:=h.2.2.2.dropL (ks:=dr s (l.take i));have c3:∀{b:Bool} {b1:StD},b=vU s l[i]->Ok (gM l ((l.length:Nat):Int) (i:Int) b (pD s (dropL s.2.2.2.2.2.2 (dr s (l.take i)))) b1 l[i] (dr s (l.take i)) (oe (l.take i) (dr s (l.take i)))) (Nxt (λr=>r=(pD (tJ s (oe l (dr s l))) (dropL s.2.2.2.2.2.2 (dr s l)),dr s l)) λz=>∃b':List KD×List ED,z=(l,((l.length:Nat):Int),(((i+1:Nat):Nat):Int),pD s (dropL s.2.2.2.2.2.2 b'.1),b1,b'.1,b'.2)/\b'.1=dr s (l.take (i+1))/\b'.2=oe (l.take (i+1)) b'.1):=fun {b} {b1} eb=>by
   unfold gM;rw[A5];refine⟨λhb=>?_,λhb=>?_⟩
   ·rw[eb]at hb;rw[a5W hb]at es;rw[a5H (nZ (by omega)),B7];have ed:gR (pD s (dropL s.2.2.2.2.2.2 (dr s (l.take i)))).2.2.2.2.2.2 l[i].1=some ((dropL s.2.2.2.2.2.2 (dr s (l.take i))).erase l[i].1):=EG (by have:=hca.1;show(dropL s.2.2.2.2.2.2 (dr s (l.take i))).length<=1000000;omega) hca.2.1 _;rw[ed,a5I,A1,A8,C1 (by omega)];refine⟨(dr s (l.take i)++[l[i].1],oe (l.take i) (dr s (l.take i))),?_,es.symm,o2.symm⟩;dsimp only;rw[um];rfl
   ·rw[eb]at hb;rw[a5U (by rw[hb];decide),a5Z]at es;rw[a5H (pA (by omega)),B7,A1,A8,C1 (by omega)];exact⟨(dr s (l.take i),oe (l.take i) (dr s (l.take i))++[l[i]]),rfl,es.symm,o1.symm⟩
  unfold jW;dsimp only;rw[a5H (by omega:(i:Int)<((l.length:Nat):Int)),D1,a5H (by omega:(0:Int)<=(i:Int)/\(i:Int)<((l.length:Nat):Int)),B7,a5J,C9 hi];have o3:iD (pD s (dropL s.2.2.2.2.2.2 (dr s (l.take i)))).2.2.1 l[i].2.2.2.2.2.2.1 (pD s (dropL s.2.2.2.2.2.2 (dr s (l.take i)))).1.2.2.2.2.1=some (Hc s.2.2.1 l[i].2.2.2.2.2.2.1 s.1.2.2.2.2.1):=Hd _ _ hcf.1;have o4:iD (pD s (dropL s.2.2.2.2.2.2 (dr s (l.take i)))).2.2.2.1 l[i].2.2.2.2.2.2.2.1 (pD s (dropL s.2.2.2.2.2.2 (dr s (l.take i)))).1.2.2.2.2.2.1=some (Hc s.2.2.2.1 l[i].2.2.2.2.2.2.2.1 s.1.2.2.2.2.2.1):=Hd _ _ hcf.2.1;rw[o3,a5I,A5];refine⟨λh1=>c3 (by unfold vU;rw[h1];rfl),λh1=>?_⟩;rw[o4,a5I];exact c3 (by unfold vU;rw[h1,a8s])
 ·obtain⟨ks,es⟩:=v;obtain⟨v1,v2⟩:=hv;dsimp only at v1 v2;subst v1;subst v2;rw[a52];unfold jW ni;dsimp only;rw[a5N (by omega),D3,C4];exact⟨_,rfl,rfl⟩
end Go.Proofs.YtjbgdpjgfjnkbaaGreatDoor.Am
namespace Go.Proofs.YtjbgdpjgfjnkbaaGreatDoor.Am
open Go
variable {md:Int}
def oZ(s:StD) (g:o8) (e:ED):Bool:=decide ((N9 g s.2.1.2.2.2.2 e.2.1).2.1=0)&&(decide (s.1.2.2.2.2.2.2.2.2.1= -1)||decide ((N9 g s.2.1.2.2.2.2 e.2.1).2.2.2.2.1<=D4 (max s.1.2.2.2.2.2.2.2.2.1 0)))
def iF(s:StD) (l:List ED):Nat->o8×List KD
 |0=>(s.2.1.1,[])
 |i+1=>if oZ s (iF s l i).1 (l.getD i B2)=true then((N9 (iF s l i).1 s.2.1.2.2.2.2 (l.getD i B2).2.1).1,(iF s l i).2) else((iF s l i).1,(iF s l i).2++[(l.getD i B2).1])
theorem xh(s:StD) (l:List ED) (i:Nat):iF s l (i+1)=if oZ s (iF s l i).1 (l.getD i B2)=true then((N9 (iF s l i).1 s.2.1.2.2.2.2 (l.getD i B2).2.1).1,(iF s l i).2) else((iF s l i).1,(iF s l i).2++[(l.getD i B2).1]):=rfl
theorem Bf{s:StD}(h:xl s.2.1.1) (l:List ED):∀i,i<=l.length->xl (iF s l i).1/\(iF s l i).2.length<=i/\∀k∈(iF s l i).2,k∈(l.take i).map λe=>e.1
 |0,_=>⟨h,a56 _,λk hk=>by cases hk⟩
 |i+1,hi=>by
  obtain⟨h1,h2,h3⟩:=Bf h l i (by omega);have hm:∀k∈(iF s l i).2,k∈(l.take (i+1)).map λe=>e.1:=λk hk=>by
   rw[E4 (by omega),a53];exact a77 _ (h3 k hk)
  rw[xh];split
  ·exact⟨Xp h1 _ _,by dsimp only;omega,hm⟩
  ·refine⟨h1,by rw[a5K,a51];omega,λk hk=>?_⟩;rcases List.mem_append.1 hk with hk|hk
   ·exact hm k hk
   ·rw[List.mem_singleton.1 hk,C9 (by omega),E4 (by omega),a53];exact a7Y _ (by simp)
def stR(s:StD) (g:o8) (c:List KD):StD:=(s.1,(s.2.1.1,g,s.2.1.2.2),s.2.2.1,s.2.2.2.1,s.2.2.2.2.1,s.2.2.2.2.2.1,c)
theorem StV.r{n:Nat}{s:StD}(h:StV md n s){g:o8}(hg:xl g){c:List KD}(hc:CaV s.1 c):StV md n (stR s g c):=⟨h.1,⟨h.2.1.1,hg,h.2.1.2.2⟩,h.2.2.1,hc⟩
def cachR(s:StD) (ks:List KD):List KD:=if s.1.2.2.2.2.2.2.1=true then s.2.2.2.2.2.2 else dropL s.2.2.2.2.2.2 ks
theorem CaV.cachR{s:StD}(h:CaV s.1 s.2.2.2.2.2.2) (ks:List KD):CaV s.1 (cachR s ks):=by
 unfold Am.cachR;split
 ·exact h
 ·exact h.dropL
theorem NC(s:StD) (ks:List KD) (k:KD):cachR s (ks++[k])=if s.1.2.2.2.2.2.2.1=true then cachR s ks else(cachR s ks).erase k:=by
 unfold cachR;split
 ·rfl
 ·exact um ..
def Hf(s:StD):StD×List KD:=(tJ (stR s (iF s s.2.2.2.2.2.1 s.2.2.2.2.2.1.length).1 (cachR s (iF s s.2.2.2.2.2.1 s.2.2.2.2.2.1.length).2)) (oe s.2.2.2.2.2.1 (iF s s.2.2.2.2.2.1 s.2.2.2.2.2.1.length).2),(iF s s.2.2.2.2.2.1 s.2.2.2.2.2.1.length).2)
theorem EH{n:Nat}{s:StD}(h:StV md n s) (hn:n<=1000):eT s=some (Hf s):=by
 have hl:=h.2.2.1.1;have hnd:=h.2.2.1.2.2;have hent:=h.2.2.1.2.1;have hbg:=h.1.2.2.2.2.2;have hp:=h.2.1.2.2.2.2;refine J1.1 ?_;unfold eT;have er:rN s.2.1=some (s.2.1.1,s.2.1.1,s.2.1.2.2):=by
  unfold rN;rw[Js h.2.1,a5I,AN h.2.1.1.b.2.2.2,a5I]
 rw[Be h hn,a5I,er,a5I];unfold Hf;obtain⟨l,el⟩:∃l,l=s.2.2.2.2.2.1:=⟨_,rfl⟩;rw[<-el]at hl hnd hent⊢;unfold oC;have e0:stR s (iF s l 0).1 (cachR s (iF s l 0).2)=(s.1,(s.2.1.1,s.2.1.1,s.2.1.2.2),s.2.2):=by
  unfold cachR;split <;> rfl
 rw[<-e0];refine C8 l (λi (_:Unit)=>(l,((l.length:Nat):Int),((i:Nat):Int),stR s (iF s l i).1 (cachR s (iF s l i).2),_,(iF s l i).2,oe (l.take i) (iF s l i).2)) (λ_ _=>True) (λi _ hi _=>?_) (λ_ _=>?_) (b0:=()) trivial (by omega)
 ·obtain⟨g1,g2,g3⟩:=Bf h.2.1.1 l i (by omega);have hca:=h.2.2.2.cachR (iF s l i).2;have hv:=h.r g1 hca;obtain⟨o1,o2⟩:=vW hi hnd g3;have hk:=hent _ (a5V hi);have hkr:=hk.2.1;have hlen2:(oe (l.take i) (iF s l i).2).length<=1000:=a6c (mG _ _).length_le (by rw[a5T];omega);have epass:mz (stR s (iF s l i).1 (cachR s (iF s l i).2)) l[i]=some (oZ s (iF s l i).1 l[i]):=by
   unfold mz vu oZ;have et:lF (stR s (iF s l i).1 (cachR s (iF s l i).2)).2.1.2.1 (stR s (iF s l i).1 (cachR s (iF s l i).2)).2.1.2.2.2.2 l[i].2.1=some (N9 (iF s l i).1 s.2.1.2.2.2.2 l[i].2.1):=Jh g1.b hp (by omega);rw[et,a5I,a5I];have eb:(stR s (iF s l i).1 (cachR s (iF s l i).2)).1=s.1:=rfl;rw[eb];by_cases h1:(N9 (iF s l i).1 s.2.1.2.2.2.2 l[i].2.1).2.1=0
   ·rw[a5H h1,D1,a8r];by_cases h2:s.1.2.2.2.2.2.2.2.2.1= -1
    ·rw[a5H h2,D1];rfl
    ·rw[a5N h2,D3];rfl
   ·rw[a5N h1,D3];rfl
  have eacc:pV (stR s (iF s l i).1 (cachR s (iF s l i).2)).2.1 l[i].2.1=some (s.2.1.1,(N9 (iF s l i).1 s.2.1.2.2.2.2 l[i].2.1).1,s.2.1.2.2):=by
   unfold pV;have et:lF (stR s (iF s l i).1 (cachR s (iF s l i).2)).2.1.2.1 (stR s (iF s l i).1 (cachR s (iF s l i).2)).2.1.2.2.2.2 l[i].2.1=some (N9 (iF s l i).1 s.2.1.2.2.2.2 l[i].2.1):=Jh g1.b hp (by omega);rw[Js hv.2.1,a5I,et,a5I];rfl
  have esucc:=xh s l i;rw[C9 hi]at esucc;unfold iE;dsimp only;rw[a5H (by omega:(i:Int)<((l.length:Nat):Int)),D1,a5H (by omega:(0:Int)<=(i:Int)/\(i:Int)<((l.length:Nat):Int)),B7,a5J,C9 hi,epass,a5I,A5];refine⟨λhp1=>?_,λhp1=>?_⟩
  ·rw[a5W hp1]at esucc;rw[eacc,a5I,a5H (pA (by omega)),B7,A1,A8,C1 (by omega)];refine⟨(),?_,trivial⟩;rw[esucc,o1];rfl
  ·rw[a5U (by rw[hp1];decide)]at esucc;have es2:=NC s (iF s l i).2 l[i].1;rw[a5H (nZ (by omega)),B7,A5];refine⟨λhb=>?_,λhb=>?_⟩
   ·have hb':¬s.1.2.2.2.2.2.2.1=true:=λe=>by
     have:(!s.1.2.2.2.2.2.2.1)=true:=hb;rw[e]at this;cases this
    rw[a5U hb']at es2;have ed:gR (stR s (iF s l i).1 (cachR s (iF s l i).2)).2.2.2.2.2.2 l[i].1=some ((cachR s (iF s l i).2).erase l[i].1):=EG (by have:=hca.1;show(cachR s (iF s l i).2).length<=1000000;omega) hca.2.1 _;rw[ed,a5I,A1,A8,C1 (by omega)];refine⟨(),?_,trivial⟩;rw[esucc,o2,es2];rfl
   ·have hb':s.1.2.2.2.2.2.2.1=true:=by
     have:(!s.1.2.2.2.2.2.2.1)=false:=hb;simpa using this
    rw[a5W hb']at es2;rw[A1,A8,C1 (by omega)];refine⟨(),?_,trivial⟩;rw[esucc,o2,es2]
 ·rw[a52];unfold iE lr;dsimp only;rw[a5N (by omega),D3,C4];exact⟨_,rfl,rfl⟩
theorem Jv{s:StD}(ks cs:List KD) (k:KD):qz (vV s ks cs) k=vV s ks (if s.1.2.2.2.2.2.2.1=true then cs else cs++[k]):=by
 unfold qz;have e:(vV s ks cs).1=s.1:=rfl;rw[e];split
 ·rfl
 ·unfold vV;rw[um];rfl
theorem LN{n:Nat}{s:StD}(h:StV md n s) (hn:n<=1000):P4 s=some (Hf s):=by
 have hl:=h.2.2.1.1;have hent:=h.2.2.1.2.1;have hbg:=h.1.2.2.2.2.2;have hp:=h.2.1.2.2.2.2;refine J1.1 ?_;unfold P4;have er:cH s.2.1=some (s.2.1.1,s.2.1.1,s.2.1.2.2):=rfl;rw[er,a5I];unfold Hf;obtain⟨l,el⟩:∃l,l=s.2.2.2.2.2.1:=⟨_,rfl⟩;rw[<-el]at hl hent⊢;unfold eS;refine C8 l (λi (_:Unit)=>(l,((l.length:Nat):Int),((i:Nat):Int),stR s (iF s l i).1 s.2.2.2.2.2.2,_,(iF s l i).2)) (λ_ _=>True) (λi _ hi _=>?_) (λ_ _=>?_) (b0:=()) trivial (by omega)
 ·obtain⟨g1,g2,g3⟩:=Bf h.2.1.1 l i (by omega);have hk:=hent _ (a5V hi);have hkr:=hk.2.1;have hv:=h.r g1 h.2.2.2;have esucc:=xh s l i;rw[C9 hi]at esucc;have c5:∀{b:Bool} {t:StD},b=oZ s (iF s l i).1 l[i]->Ok (L1 l ((l.length:Nat):Int) (i:Int) b (stR s (iF s l i).1 s.2.2.2.2.2.2) t l[i] (iF s l i).2) (Nxt (λx=>x=(tJ (stR s (iF s l l.length).1 (cachR s (iF s l l.length).2)) (oe l (iF s l l.length).2),(iF s l l.length).2)) λz=>∃_:Unit,z=(l,((l.length:Nat):Int),(((i+1:Nat):Nat):Int),stR s (iF s l (i+1)).1 s.2.2.2.2.2.2,t,(iF s l (i+1)).2)/\True):=fun {b} {t} eb=>by
   unfold L1;rw[A5];refine⟨λhb=>?_,λhb=>?_⟩
   ·rw[a5W (eb▸hb)]at esucc;have ea:M5 (stR s (iF s l i).1 s.2.2.2.2.2.2).2.1 l[i].2.1=some (s.2.1.1,(N9 (iF s l i).1 s.2.1.2.2.2.2 l[i].2.1).1,s.2.1.2.2):=by
     unfold M5;have et:O2 (stR s (iF s l i).1 s.2.2.2.2.2.2).2.1.2.1 (stR s (iF s l i).1 s.2.2.2.2.2.2).2.1.2.2.2.2 l[i].2.1=some (N9 (iF s l i).1 s.2.1.2.2.2.2 l[i].2.1):=AU g1.b hp (by omega);rw[et,a5I];rfl
    rw[ea,a5I,A1,A8,C1 (by omega)];refine⟨(),?_,trivial⟩;rw[esucc];rfl
   ·rw[a5U (by rw[<-eb,hb];decide)]at esucc;rw[a5H (nZ (by omega)),B7,A1,A8,C1 (by omega)];refine⟨(),?_,trivial⟩;rw[esucc]
  unfold O4;dsimp only;have ec:ab (stR s (iF s l i).1 s.2.2.2.2.2.2).2.1 l[i].2.1=some (N9 (iF s l i).1 s.2.1.2.2.2.2 l[i].2.1).2:=Bc hv.2.1 (by omega);have eh:U0 (stR s (iF s l i).1 s.2.2.2.2.2.2) (N9 (iF s l i).1 s.2.1.2.2.2.2 l[i].2.1).2.2.2.2.1=some (!(decide (s.1.2.2.2.2.2.2.2.2.1= -1)||decide ((N9 (iF s l i).1 s.2.1.2.2.2.2 l[i].2.1).2.2.2.2.1<=D4 (max s.1.2.2.2.2.2.2.2.2.1 0)))):=by
   unfold U0;have eb:(stR s (iF s l i).1 s.2.2.2.2.2.2).1=s.1:=rfl;rw[eb];generalize (N9 (iF s l i).1 s.2.1.2.2.2.2 l[i].2.1).2.2.2.2.1=z;by_cases h0:0<=s.1.2.2.2.2.2.2.2.2.1
   ·rw[a5H h0,D1,a5N (by omega:¬s.1.2.2.2.2.2.2.2.2.1= -1),a8s,show max s.1.2.2.2.2.2.2.2.2.1 0=s.1.2.2.2.2.2.2.2.2.1 by omega];congr 1;rw[<-decide_not];exact decide_eq_decide.2 (by omega)
   ·rw[a5N h0,D3,a5H (by omega:s.1.2.2.2.2.2.2.2.2.1= -1)];rfl
  rw[a5H (by omega:(i:Int)<((l.length:Nat):Int)),D1,a5H (by omega:(0:Int)<=(i:Int)/\(i:Int)<((l.length:Nat):Int)),B7,a5J,C9 hi,ec,a5I,A5];refine⟨λh1=>?_,λh1=>c5 (by unfold oZ;rw[h1];rfl)⟩;rw[eh,a5I];exact c5 (by unfold oZ;rw[h1,Bool.not_not,a8r])
 ·unfold O4 V6;dsimp only;rw[a5N (by omega),D3,C4];obtain⟨g1,g2,g3⟩:=Bf h.2.1.1 l l.length (a56 _);have hv:=h.r g1 h.2.2.2;generalize (iF s l l.length).1=g at g1 hv⊢;generalize (iF s l l.length).2=K at g2⊢;obtain⟨t,et⟩:∃t,t=stR s g s.2.2.2.2.2.2:=⟨_,rfl⟩;have fin:(tJ (stR s g (cachR s K)) (oe l K),K)=(vV t K (if s.1.2.2.2.2.2.2.1=true then []else K),K):=by
   rw[et];unfold vV cachR;have e1:(stR s g s.2.2.2.2.2.2).2.2.2.2.2.1=l:=el.symm;have e2:(stR s g s.2.2.2.2.2.2).2.2.2.2.2.2=s.2.2.2.2.2.2:=rfl;rw[e1,e2];split
   ·rfl
   ·rfl
  rw[<-et]at hv⊢;rw[fin];unfold eR;refine C8 K (λi (v:StD)=>(((K.length:Nat):Int),((i:Nat):Int),v,_,K)) (λi v=>v=vV t (K.take i) (if s.1.2.2.2.2.2.2.1=true then []else K.take i)) (λi v hi hv2=>?_) (λv hv2=>?_) (b0:=t) (by
   unfold vV;rw[a6E,zC,show(if s.1.2.2.2.2.2.2.1=true then([]:List KD)else [])=[] by split <;> rfl]
   rfl) (by omega)
  ·have hvv:=hv.less (K.take i) (if s.1.2.2.2.2.2.2.1=true then []else K.take i)
   unfold O3;dsimp only;rw[a5H (by omega:(i:Int)<((K.length:Nat):Int)),D1,a5H (by omega:(0:Int)<=(i:Int)/\(i:Int)<((K.length:Nat):Int)),B7,a5J,a5H hi,B7,C9 hi,hv2,EB hvv hn,a5I,Ba (hvv.leave _),a5I,A1,A8,C1 (by omega)];refine⟨_,rfl,?_⟩;rw[CR hv,Jv,E4 hi];have e3:t.1=s.1:=by rw[et];rfl
   rw[e3];split
   ·rfl
   ·rfl
  ·unfold O3 aU;dsimp only;rw[a52]at hv2;rw[a5N (by omega),D3,C4,hv2];exact⟨_,rfl,rfl⟩
theorem StV.pur{n:Nat}{s:StD}(h:StV md n s):StV md n (sv s).1:=(h.e (h.2.2.1.sub (mG _ _))).c h.2.2.2.dropL
theorem StV.rec{n:Nat}{s:StD}(h:StV md n s):StV md n (Hf s).1:=by
 obtain⟨g1,_,_⟩:=Bf h.2.1.1 s.2.2.2.2.2.1 _ (a56 _);exact(h.r g1 (h.2.2.2.cachR _)).e (h.2.2.1.sub (mG _ _))
def stU(s:StD) (a b:Int):StD:=(s.1,s.2.1,a,max s.2.2.2.1 b,s.2.2.2.2)
theorem StV.u{n:Nat}{s:StD}(h:StV md n s) (a b:Int):StV md n (stU s a b):=⟨h.1,h.2.1,h.2.2.1,h.2.2.2⟩
noncomputable def nk(s:StD) (raws:List (List UInt8)) (rs:List B1) (a b:Int):StD×List KD:=qC (stU s a b) raws rs (min raws.length rs.length)
noncomputable def sf(s:StD) (raws:List (List UInt8)) (rs:List B1) (a b:Int):StD×E3:=
 ((Hf (sv (nk s raws rs a b).1).1).1,((0:Int),(Vector.replicate 32 (0:UInt8)),(0:Int),[],(sv (nk s raws rs a b).1).2,(Hf (sv (nk s raws rs a b).1).1).2,(nk s raws rs a b).2,[],[],a,(Vector.replicate 32 (0:UInt8))))
theorem Jw{n:Nat}{s:StD}{raws:List (List UInt8)}{rs:List B1}{a b:Int}(h:StV md n s) (hn:n<=1000) (hl:raws.length<=1000000) (hl2:rs.length<=1000000) (hr:∀r∈raws,r.length<=1000000):dM s raws rs a b=some (sf s raws rs a b):=by
 have h1:=(qg (h.u a b) raws rs (min raws.length rs.length)).1;unfold dM;have e:gL (s.1,s.2.1,a,max s.2.2.2.1 b,s.2.2.2.2) raws rs=some (nk s raws rs a b):=Sl (h.u a b) hn hl hl2 hr;rw[e,a5I,Xt (s:=(nk s raws rs a b).1) h1 hn,a5I,EH (StV.pur (s:=(nk s raws rs a b).1) h1) hn,a5I];rfl
theorem Zz{n:Nat}{s:StD}{raws:List (List UInt8)}{rs:List B1}{a b:Int}(h:StV md n s) (hn:n<=1000) (hl:raws.length<=1000000) (hl2:rs.length<=1000000) (hr:∀r∈raws,r.length<=1000000):S4 s raws rs a b=some (sf s raws rs a b):=by
 have h1:=(qg (h.u a b) raws rs (min raws.length rs.length)).1;unfold S4;have e:M6 (s.1,s.2.1,a,max s.2.2.2.1 b,s.2.2.2.2) raws rs=some (nk s raws rs a b):=Sm (h.u a b) hn hl hl2 hr;rw[e,a5I,Xs (s:=(nk s raws rs a b).1) h1 hn,a5I,LN (StV.pur (s:=(nk s raws rs a b).1) h1) hn,a5I];rfl
end Go.Proofs.YtjbgdpjgfjnkbaaGreatDoor.Am
namespace Go.Proofs.YtjbgdpjgfjnkbaaGreatDoor.Am
open Go
theorem BM{l:List (List UInt8)}(h:l.length<9223372036854775807):Z4 l l=some true:=by
 refine J1.1 ?_;simp only[Z4,A5,A1,a5M,a5L,a5R,a5Q];refine⟨λh=>(h trivial).elim,λ_=>?_⟩;unfold jA;refine C8 l (λi (_:Unit)=>(l,l,((l.length:Nat):Int),((i:Nat):Int))) (λ_ _=>True) (λi b hi _=>?_) (λb _=>?_) (b0:=()) trivial (by omega)
 ·simp only[ap,G8,C1 (i:=i) (by omega),A5,D8,A4,A1,A8,B5,a5M,a5L,a5R,a5Q,a5J,decide_true];refine⟨λ_=>⟨by omega,by omega,?_⟩,λh=>by omega⟩;simp
 ·simp only[ap,A5,D8,A4,A1,A8,B5,a5M,a5L,a5R,a5Q,a5J];exact⟨λh=>by omega,λ_=>trivial⟩
theorem EI{l:List Int}(h:l.length<9223372036854775807):eJ l l=some true:=by
 refine J1.1 ?_;simp only[eJ,A5,A1,a5M,a5L,a5R,a5Q];refine⟨λh=>(h trivial).elim,λ_=>?_⟩;unfold ke;refine C8 l (λi (_:Unit)=>(l,l,((l.length:Nat):Int),((i:Nat):Int))) (λ_ _=>True) (λi b hi _=>?_) (λb _=>?_) (b0:=()) trivial (by omega)
 ·simp only[aZ,C1 (i:=i) (by omega),A5,D8,A1,A8,B5,a5M,a5L,a5R,a5Q,a5J];refine⟨λ_=>⟨by omega,by omega,?_⟩,λh=>by omega⟩;simp
 ·simp only[aZ,A5,D8,A1,A8,B5,a5M,a5L,a5R,a5Q,a5J];exact⟨λh=>by omega,λ_=>trivial⟩
theorem uW{e:o6}(h:e.2.2.2.2.2.2.2.2.2.length<9223372036854775807):Q8 e e=some true:=by
 have hk:U.beq (.arr 32 .byte) e.1 e.1=true:=(U.beq_iff _ _ rfl _ _).2 rfl;simp only[Q8,hk,G8,EI h,sel,decide_true,a5I]
theorem yQ{l:List o6}(h:l.length<9223372036854775807) (he:∀e∈l,e.2.2.2.2.2.2.2.2.2.length<9223372036854775807):aq l l=some true:=by
 refine J1.1 ?_;simp only[aq,A5,A1,a5M,a5L,a5R,a5Q];refine⟨λh=>(h trivial).elim,λ_=>?_⟩;unfold gS;refine C8 l (λi (_:Unit)=>(l,l,((l.length:Nat):Int),((i:Nat):Int))) (λ_ _=>True) (λi b hi _=>?_) (λb _=>?_) (b0:=()) trivial (by omega)
 ·have hs:Q8 (l.getD i B2) (l.getD i B2)=some true:=uW (he _ (by rw[C9 hi];exact a5V hi));simp only[W2,C1 (i:=i) (by omega),A5,D8,A4,A1,A8,B5,a5M,a5L,a5R,a5Q,a5J,hs];refine⟨λ_=>⟨by omega,by omega,?_⟩,λh=>by omega⟩;simp
 ·simp only[W2,A5,D8,A4,A1,A8,B5,a5M,a5L,a5R,a5Q,a5J];exact⟨λh=>by omega,λ_=>trivial⟩
end Go.Proofs.YtjbgdpjgfjnkbaaGreatDoor.Am
