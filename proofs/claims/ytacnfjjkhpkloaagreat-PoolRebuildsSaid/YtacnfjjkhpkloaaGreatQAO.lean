/- Texts laid together: SpLay, TmKeys, Sp, PLoop, GList, GSortDef, GSort, GSym, GStable. No conditions. -/
import Derived.Shelf.SlIterI.Sorted
import Derived.Shelf.SlIter.Sorted
import Derived.Shelf.SortM.Plain
import Derived.Shelf.SortM.SortNone
import Derived.Ground.GgzProg
import Derived.Ground.SlgmProg
import Derived.Test.YtacnfjjkhpkloaaGreatProg
import Derived.Test.YtacnfjjkhpkloaaGreatQAG
import Derived.Lib.SlKeysI
import Derived.Test.YtacnfjjkhpkloaaGreatKD
namespace Go.Proofs
open Go.Shelf
def Tryz.keys49_ren:Go.Shelf.Ren:=⟨fun | 7=>49 | 10=>83 | n=>n,fun | 23=>88 | 26=>3 | 3=>102 | 28=>106 | 0=>0 | 27=>105 | 33=>121 | 4=>4 | n=>n,fun | n=>n⟩
theorem Tryz.keys49:Go.Proofs.SlLaysZI.n7 Tryz.prog Tryz.keys49_ren:={
 mixed:=by kernel_rfl
 f7:=⟨Tryz.f49.name,by decide,Tryz.func49.trans (congrArg some (by kernel_rfl))⟩
 f10:=⟨Tryz.f83.name,by decide,Tryz.func83.trans (congrArg some (by kernel_rfl))⟩
 t0:=Tryz.underlying0
 a0:=Tryz.isAgg0
 z0:=Tryz.sizeOf0
 v0:=Tryz.zeroValue0
 t4:=Tryz.underlying4
 a4:=Tryz.isAgg4
 z4:=Tryz.sizeOf4
 v4:=Tryz.zeroValue4
 t23:=Tryz.underlying88
 a23:=Tryz.isAgg88
 z23:=Tryz.sizeOf88
 v23:=Tryz.zeroValue88
 t26:=Tryz.underlying3
 a26:=Tryz.isAgg3
 z26:=Tryz.sizeOf3
 v26:=Tryz.zeroValue3
 t27:=Tryz.underlying105
 a27:=Tryz.isAgg105
 z27:=Tryz.sizeOf105
 v27:=Tryz.zeroValue105
 t28:=Tryz.underlying106
 a28:=Tryz.isAgg106
 z28:=Tryz.sizeOf106
 v28:=Tryz.zeroValue106
 t33:=Tryz.underlying121
 a33:=Tryz.isAgg121
 z33:=Tryz.sizeOf121
 v33:=Tryz.zeroValue121}
def Tryz.sorted48_ren:Go.Shelf.Ren:=⟨fun | 6=>48 | 8=>81 | 9=>82 | 11=>105 | 13=>99 | 12=>106 | 23=>127 | 24=>128 | 14=>129 | 15=>130 | 16=>131 | 17=>132 | 18=>133 | 19=>134 | 20=>135 | 21=>136 | 22=>137 | 25=>144 | 26=>140 | 27=>141 | 28=>145 | 29=>146 | 30=>101 | 31=>149 | n=>n,fun | 26=>3 | 28=>106 | 24=>22 | 0=>0 | 3=>3 | 37=>174 | 48=>167 | 50=>23 | 4=>4 | 40=>196 | 39=>195 | 45=>99 | 5=>5 | 9=>9 | 51=>209 | 55=>181 | 57=>217 | 58=>218 | 33=>121 | n=>n,fun | n=>n⟩
theorem Tryz.sorted48:Go.Proofs.SlLaysZI.n6 Tryz.prog Tryz.sorted48_ren:={
 mixed:=by kernel_rfl
 f6:=⟨Tryz.f48.name,by decide,Tryz.func48.trans (congrArg some (by kernel_rfl))⟩
 f8:=⟨Tryz.f81.name,by decide,Tryz.func81.trans (congrArg some (by kernel_rfl))⟩
 f11:=⟨Tryz.f105.name,by decide,Tryz.func105.trans (congrArg some (by kernel_rfl))⟩
 t0:=Tryz.underlying0
 a0:=Tryz.isAgg0
 z0:=Tryz.sizeOf0
 v0:=Tryz.zeroValue0
 t24:=Tryz.underlying22
 a24:=Tryz.isAgg22
 z24:=Tryz.sizeOf22
 v24:=Tryz.zeroValue22
 t26:=Tryz.underlying3
 a26:=Tryz.isAgg3
 z26:=Tryz.sizeOf3
 v26:=Tryz.zeroValue3
 t28:=Tryz.underlying106
 a28:=Tryz.isAgg106
 z28:=Tryz.sizeOf106
 v28:=Tryz.zeroValue106
 i26:=by kernel_rfl}
def Tryz.sort82_ren:Go.Shelf.Ren:=⟨fun | 5=>82 | 8=>99 | 7=>106 | 19=>127 | 20=>128 | 10=>129 | 11=>130 | 12=>131 | 13=>132 | 14=>133 | 15=>134 | 16=>135 | 17=>136 | 18=>137 | 30=>144 | 31=>140 | 32=>141 | 33=>145 | 34=>146 | 35=>101 | 40=>149 | n=>n,fun | 23=>22 | 25=>3 | 3=>3 | 32=>174 | 22=>22 | 0=>0 | 44=>167 | 46=>23 | 4=>4 | 36=>196 | 35=>195 | 41=>99 | 5=>5 | 9=>9 | 53=>209 | 57=>181 | 63=>217 | 64=>218 | n=>n,fun | n=>n⟩
theorem Tryz.sort82:Go.Proofs.SlLaysM.n5 Tryz.prog Tryz.sort82_ren:={
 mixed:=by kernel_rfl
 f5:=⟨Tryz.f82.name,by decide,Tryz.func82.trans (congrArg some (by kernel_rfl))⟩
 f7:=⟨Tryz.f106.name,by decide,Tryz.func106.trans (congrArg some (by kernel_rfl))⟩
 f8:=Tryz.func99.trans (congrArg some (by kernel_rfl))
 f10:=⟨Tryz.f129.name,by decide,Tryz.func129.trans (congrArg some (by kernel_rfl))⟩
 f11:=⟨Tryz.f130.name,by decide,Tryz.func130.trans (congrArg some (by kernel_rfl))⟩
 f12:=⟨Tryz.f131.name,by decide,Tryz.func131.trans (congrArg some (by kernel_rfl))⟩
 f13:=⟨Tryz.f132.name,by decide,Tryz.func132.trans (congrArg some (by kernel_rfl))⟩
 f14:=⟨Tryz.f133.name,by decide,Tryz.func133.trans (congrArg some (by kernel_rfl))⟩
 f15:=⟨Tryz.f134.name,by decide,Tryz.func134.trans (congrArg some (by kernel_rfl))⟩
 f16:=⟨Tryz.f135.name,by decide,Tryz.func135.trans (congrArg some (by kernel_rfl))⟩
 f17:=⟨Tryz.f136.name,by decide,Tryz.func136.trans (congrArg some (by kernel_rfl))⟩
 f18:=⟨Tryz.f137.name,by decide,Tryz.func137.trans (congrArg some (by kernel_rfl))⟩
 f19:=Tryz.func127.trans (congrArg some (by kernel_rfl))
 f20:=Tryz.func128.trans (congrArg some (by kernel_rfl))
 f30:=⟨Tryz.f144.name,by decide,Tryz.func144.trans (congrArg some (by kernel_rfl))⟩
 f31:=Tryz.func140.trans (congrArg some (by kernel_rfl))
 f32:=Tryz.func141.trans (congrArg some (by kernel_rfl))
 f33:=⟨Tryz.f145.name,by decide,Tryz.func145.trans (congrArg some (by kernel_rfl))⟩
 f34:=⟨Tryz.f146.name,by decide,Tryz.func146.trans (congrArg some (by kernel_rfl))⟩
 f35:=⟨Tryz.f101.name,by decide,Tryz.func101.trans (congrArg some (by kernel_rfl))⟩
 f40:=⟨Tryz.f149.name,by decide,Tryz.func149.trans (congrArg some (by kernel_rfl))⟩
 t0:=Tryz.underlying0
 a0:=Tryz.isAgg0
 z0:=Tryz.sizeOf0
 v0:=Tryz.zeroValue0
 t3:=Tryz.underlying3
 a3:=Tryz.isAgg3
 z3:=Tryz.sizeOf3
 v3:=Tryz.zeroValue3
 t4:=Tryz.underlying4
 a4:=Tryz.isAgg4
 z4:=Tryz.sizeOf4
 v4:=Tryz.zeroValue4
 t5:=Tryz.underlying5
 a5:=Tryz.isAgg5
 z5:=Tryz.sizeOf5
 v5:=Tryz.zeroValue5
 t9:=Tryz.underlying9
 a9:=Tryz.isAgg9
 z9:=Tryz.sizeOf9
 v9:=Tryz.zeroValue9
 t22:=Tryz.underlying22
 a22:=Tryz.isAgg22
 z22:=Tryz.sizeOf22
 v22:=Tryz.zeroValue22
 t23:=Tryz.underlying22
 a23:=Tryz.isAgg22
 z23:=Tryz.sizeOf22
 v23:=Tryz.zeroValue22
 t25:=Tryz.underlying3
 a25:=Tryz.isAgg3
 z25:=Tryz.sizeOf3
 v25:=Tryz.zeroValue3
 t32:=Tryz.underlying174
 a32:=Tryz.isAgg174
 z32:=Tryz.sizeOf174
 v32:=Tryz.zeroValue174
 t35:=Tryz.underlying195
 a35:=Tryz.isAgg195
 z35:=Tryz.sizeOf195
 v35:=Tryz.zeroValue195
 t36:=Tryz.underlying196
 a36:=Tryz.isAgg196
 z36:=Tryz.sizeOf196
 v36:=Tryz.zeroValue196
 t41:=Tryz.underlying99
 a41:=Tryz.isAgg99
 z41:=Tryz.sizeOf99
 v41:=Tryz.zeroValue99
 t44:=Tryz.underlying167
 a44:=Tryz.isAgg167
 z44:=Tryz.sizeOf167
 v44:=Tryz.zeroValue167
 t46:=Tryz.underlying23
 a46:=Tryz.isAgg23
 z46:=Tryz.sizeOf23
 v46:=Tryz.zeroValue23
 t53:=Tryz.underlying209
 a53:=Tryz.isAgg209
 z53:=Tryz.sizeOf209
 v53:=Tryz.zeroValue209
 t57:=Tryz.underlying181
 a57:=Tryz.isAgg181
 z57:=Tryz.sizeOf181
 v57:=Tryz.zeroValue181
 t63:=Tryz.underlying217
 a63:=Tryz.isAgg217
 z63:=Tryz.sizeOf217
 v63:=Tryz.zeroValue217
 t64:=Tryz.underlying218
 a64:=Tryz.isAgg218
 z64:=Tryz.sizeOf218
 v64:=Tryz.zeroValue218}
def Tryz.keys77_ren:Go.Shelf.Ren:=⟨fun | 7=>77 | 10=>102 | n=>n,fun | 23=>136 | 26=>3 | 3=>138 | 28=>106 | 0=>0 | 27=>105 | 33=>121 | 4=>4 | n=>n,fun | n=>n⟩
theorem Tryz.keys77:Go.Proofs.SlLaysZI.n7 Tryz.prog Tryz.keys77_ren:={
 mixed:=by kernel_rfl
 f7:=⟨Tryz.f77.name,by decide,Tryz.func77.trans (congrArg some (by kernel_rfl))⟩
 f10:=⟨Tryz.f102.name,by decide,Tryz.func102.trans (congrArg some (by kernel_rfl))⟩
 t0:=Tryz.underlying0
 a0:=Tryz.isAgg0
 z0:=Tryz.sizeOf0
 v0:=Tryz.zeroValue0
 t4:=Tryz.underlying4
 a4:=Tryz.isAgg4
 z4:=Tryz.sizeOf4
 v4:=Tryz.zeroValue4
 t23:=Tryz.underlying136
 a23:=Tryz.isAgg136
 z23:=Tryz.sizeOf136
 v23:=Tryz.zeroValue136
 t26:=Tryz.underlying3
 a26:=Tryz.isAgg3
 z26:=Tryz.sizeOf3
 v26:=Tryz.zeroValue3
 t27:=Tryz.underlying105
 a27:=Tryz.isAgg105
 z27:=Tryz.sizeOf105
 v27:=Tryz.zeroValue105
 t28:=Tryz.underlying106
 a28:=Tryz.isAgg106
 z28:=Tryz.sizeOf106
 v28:=Tryz.zeroValue106
 t33:=Tryz.underlying121
 a33:=Tryz.isAgg121
 z33:=Tryz.sizeOf121
 v33:=Tryz.zeroValue121}
end Go.Proofs
namespace Go.Proofs.YtacnfjjkhpkloaaGreat.Am
open Go Go.Proofs Go.RowKit Go.Maps Go.Sort Go.WideElems Go.WideShapes
def c0f (_:Value):Option (DataW Unit × List MemPlace):=some (.lit (.bool true),[])
theorem b09 {w:World} {b:Nat} {v:Value} (h:w.cell? ⟨b,0,none⟩=some v):b < w.heap.size:=by
 rcases Nat.lt_or_ge b w.heap.size with h1 | h1
 ·exact h1
 ·have:w.heap[b]?=none:=Array.getElem?_eq_none h1
  simp [World.cell?,this] at h
theorem b7A {ms:List MapEntry} {c:Nat} (h:a8c ms c):(ms.map (·.born)).Nodup:=by
 unfold List.Nodup
 rw [List.pairwise_map]
 exact h.1.imp fun hlt=>Nat.ne_of_lt hlt
theorem c2l {w:World} {b g:Nat} {ty:TypeId} (hb:w.heap[b]?=some (.cells #[.map (some g)] ty (0,0))):w.cell? ⟨b,0,none⟩=some (.map (some g)):=by
 simp [World.cell?,hb]
theorem c7b {P:Program} {k:TypeId} {x:MapEntry} {kl:Lit} (h:keyOf P k x.key=some kl):WideElems.rg P k c0f x=(kl,.lit (.bool true)):=by
 simp [WideElems.rg,WideElems.rd,h,c0f]
theorem c0g {P:Program} {k:TypeId} {en:Array MapEntry} {clock:Nat} (hb:a8c en.toList clock) (hnd:(en.toList.map (·.key)).Nodup) (hk:∀ x ∈ en.toList,∃ kl,keyOf P k x.key=some kl) (hsz:en.size<=maxLen):WideElems.Fit P k c0f en clock:=
 ⟨hsz,⟨hb.2,b7A hb,hnd⟩,fun x hx=>by
  obtain⟨kl,h⟩:=hk x hx
  exact⟨(kl,.lit (.bool true)),by simp [WideElems.rd,h,c0f]⟩⟩
theorem c0h {P:Program} {k:TypeId} (hk:P.underlying k=some (.int .i64)) {x:Int} (hx:(Lit.int .i64 x).wf=true):keyOf P k (.int .i64 x)=some (.int .i64 x):=by
 simp [keyOf,hk,mapKey,hx]
theorem c3f {P:Program} {k:TypeId} (hk:P.underlying k=some (.int .i64)):∀ {ms:List MapEntry} {ks:List Int},ms.map (·.key)=ks.map (Value.int .i64)->(∀ x ∈ ks,(Lit.int .i64 x).wf=true)->(ms.map (WideElems.rg P k c0f)).map (fun p=>Go.intOf p.1)=ks
 | [],[],_,_=>rfl
 | m :: ms,x :: ks,h,hw=>by
  simp only [List.map_cons,List.cons.injEq] at h
  have h1:keyOf P k m.key=some (.int .i64 x):=by rw [h.1];exact c0h hk (hw x (by simp))
  rw [List.map_cons,List.map_cons,c7b h1,c3f hk h.2 (fun y hy=>hw y (by simp [hy]))]
  rfl
 | [],_ :: _,h,_=>by simp at h
 | _ :: _,[],h,_=>by simp at h
theorem b3x {α β:Type} {f:α->β} (hf:∀ x y,f x=f y->x=y) {l:List α} (h:l.Nodup):(l.map f).Nodup:=by
 unfold List.Nodup at *
 rw [List.pairwise_map]
 exact h.imp fun hne e=>hne (hf _ _ e)
theorem c4F {α:Type} {f:α->Value} {ms:List MapEntry} {ks:List α} (h:ms.map (·.key)=ks.map f) {m:MapEntry} (hm:m ∈ ms):∃ x ∈ ks,m.key=f x:=by
 have:m.key ∈ ms.map (·.key):=List.mem_map.2 ⟨m,hm,rfl⟩
 rw [h] at this
 obtain⟨x,h1,h2⟩:=List.mem_map.1 this
 exact⟨x,h1,h2.symm⟩
theorem c0i {P:Program} {k:TypeId} (en:Array MapEntry):Maps.size (DataW.map ((en.toList.map (WideElems.rg P k c0f)).foldr DataW.insert []))=en.size:=by
 show((en.toList.map (WideElems.rg P k c0f)).foldr DataW.insert []).length=en.size
 rw [length_sorted];simp
theorem b6v {P:Program} {f f1:FuncId} {e:TypeId} (hk:P.underlying e=some (.int .i64))
  (h:∀ (b g nn:Nat) (D0:DataW Unit) (w:World),w.cell? ⟨b,0,none⟩=some (.map (some g))->w.ownsMap P e c0f g nn D0->Maps.size D0<=maxLen->Maps.size D0 * 8<=140737488355328->
   Calls P f #[b3T f1 b] w fun o w'=>∃ (v:Value) (ss:List Int),o= .returned v/\ss.Perm (intKeys D0)/\w'.ownsRow w.heap.size e 1 v ss.length ((ss.mergeSort (fun x y=>decide (x<=y))).map encZ)/\(v= .slice none 0 0 ↔ ss=[])/\RowKit.Below w.heap.size w w'):c5F P f f1 e:=by
 intro w b g ty en clock ks hb hg hborn hkeys hnd hwf hmax hby
 have hlen:en.size=ks.length:=by
  have:=congrArg List.length hkeys
  simpa using this
 have hfit:WideElems.Fit P e c0f en clock:=c0g hborn (by rw [hkeys];exact b3x (fun x y h=>by injection h) hnd) (fun m hm=>by
  obtain⟨x,hx,hxe⟩:=c4F hkeys hm
  exact⟨_,by rw [hxe];exact c0h hk (hwf x hx)⟩) (by rw [hlen];exact hmax)
 refine(h b g en.size _ w (c2l hb) ⟨en,clock,hg,hfit,Nat.le_refl _,rfl⟩ (by rw [c0i,hlen];exact hmax) (by rw [c0i,hlen];exact hby)).mono ?_
 rintro o w' ⟨v,ss,rfl,hp,hown,_,hB⟩
 have hperm:ss.Perm ks:=by
  refine hp.trans ?_
  show(((en.toList.map (WideElems.rg P e c0f)).foldr DataW.insert []).map fun p=>Go.intOf p.1).Perm ks
  have:=(sorted_perm (en.toList.map (WideElems.rg P e c0f))).map (fun p=>Go.intOf p.1)
  rw [c3f hk hkeys hwf] at this
  exact this
 refine⟨v,rfl,?_,hB⟩
 have e1:ss.mergeSort (fun x y=>decide (x<=y))=ks.mergeSort (fun x y=>decide (x<=y)):=mergeSort_of_perm_i hperm
 rw [e1,hperm.length_eq] at hown
 exact hown
end Go.Proofs.YtacnfjjkhpkloaaGreat.Am
namespace Go.Proofs.YtacnfjjkhpkloaaGreat.Am
open Go Go.Proofs Go.RowKit Go.Maps Go.Sort Go.Shelf
theorem b6w (m:Nat):AnyZI.SortsIn Tryz.prog Tryz.sorted48_ren Fence.wide m:=
 ⟨fun blk off cap ss W hH hblk hsz=>callsIn_wide.2 (AnyM.slices_Sort_int Tryz.sort82 blk off cap ss W hH hblk hsz),
  fun p cap W=>callsIn_wide.2 (AnyM.slices_Sort_int_none Tryz.sort82 p cap W)⟩
theorem c8W:c4Y Tryz.prog 49 (.keys 83):=⟨88,fun g w=>(callsIn_wide (n:=5)).1 (AnyZI.keys_in Tryz.keys49 Fence.wide 5 trivial rfl (some g) w)⟩
theorem c2m:c4Y Tryz.prog 48 (.sortI 83 3):=b6v Tryz.underlying3 fun b g nn D0 w hb hown hmax hby=>by
 have hseq:SeqGives Fence.wide 2 Tryz.prog 83 #[.pointer (some ⟨b,0,none⟩)] encZ (fun ss=>ss.Perm (intKeys D0)) (Maps.size D0) w:=
  AnyZI.keys_gives (ρ:=Tryz.keys49_ren) {Tryz.keys49 with} Fence.wide _ trivial rfl (by omega) b g nn D0 w (b09 hb) hb hown
 exact(callsIn_wide (n:=5)).1 (AnyZI.sorted_in Tryz.sorted48 Fence.wide 5 trivial trivial trivial trivial rfl (by omega) (b6w _) (enters_of Tryz.func82 (by kernel_rfl) rfl) 83 #[.pointer (some ⟨b,0,none⟩)] trivial (enters_of Tryz.func83 (by kernel_rfl) rfl) _ _ hmax hby _ hseq)
theorem c8X:c4Y Tryz.prog 77 (.keys 102):=⟨136,fun g w=>(callsIn_wide (n:=5)).1 (AnyZI.keys_in Tryz.keys77 Fence.wide 5 trivial rfl (some g) w)⟩
theorem c0j:c4Y Tryz.prog 48 (.sortI 102 3):=b6v Tryz.underlying3 fun b g nn D0 w hb hown hmax hby=>by
 have hseq:SeqGives Fence.wide 2 Tryz.prog 102 #[.pointer (some ⟨b,0,none⟩)] encZ (fun ss=>ss.Perm (intKeys D0)) (Maps.size D0) w:=
  AnyZI.keys_gives (ρ:=Tryz.keys77_ren) {Tryz.keys77 with} Fence.wide _ trivial rfl (by omega) b g nn D0 w (b09 hb) hb hown
 exact(callsIn_wide (n:=5)).1 (AnyZI.sorted_in Tryz.sorted48 Fence.wide 5 trivial trivial trivial trivial rfl (by omega) (b6w _) (enters_of Tryz.func82 (by kernel_rfl) rfl) 102 #[.pointer (some ⟨b,0,none⟩)] trivial (enters_of Tryz.func102 (by kernel_rfl) rfl) _ _ hmax hby _ hseq)
end Go.Proofs.YtacnfjjkhpkloaaGreat.Am
namespace Go.Proofs.YtacnfjjkhpkloaaGreat.Am
open Go
theorem O3 {S R:Type} {G:S->Option (S ⊕ R)} {p:R->Prop} (inv:Nat->S->Prop) (step:∀ n x,inv n x->Ok (G x) (Nxt p fun z=>∃ m,m < n/\inv m z)) :
  ∀ {n:Nat} {x:S},inv n x->n < 1180591620717411303424->Ok (Q9 G x) p:=by
 have key:∀ (f n:Nat) (x:S),inv n x->n < f->Ok (c48 f G x) p:=by
  intro f
  induction f with
  | zero=>intro n x _ h;omega
  | succ f ih=>
   intro n x hi hm
   obtain⟨y,hy,h⟩:=step n x hi
   unfold c48
   rw [hy]
   cases y with
   | inl z=>
    obtain⟨m,h1,h2⟩:=h
    exact ih m z h2 (by omega)
   | inr r=>exact⟨r,rfl,h⟩
 intro n x hi hm
 unfold Q9
 rw [c4d]
 exact key _ n x hi hm
theorem O4 {α β S R:Type} {G:S->Option (S ⊕ R)} {p:R->Prop} (l:List α) (st:Nat->β->S) (inv:Nat->β->Prop)
  (step:∀ i b,(h:i < l.length)->inv i b->Ok (G (st i b)) (Nxt p fun z=>∃ b',z=st (i + 1) b'/\inv (i + 1) b'))
  (stop:∀ b,inv l.length b->Ok (G (st l.length b)) (Nxt p fun _=>False)) {b0:β} (h0:inv 0 b0) (hl:l.length < 1180591620717411303424):Ok (Q9 G (st 0 b0)) p:=by
 refine O3 (fun n x=>∃ i b,i + n=l.length/\x=st i b/\inv i b) ?_ ⟨0,b0,by omega,rfl,h0⟩ hl
 rintro n x ⟨i,b,hn,rfl,hi⟩
 by_cases h:i < l.length
 ·refine(step i b h hi).mono fun r hr=>?_
  cases r with
  | inl z=>
   obtain⟨b',h1,h2⟩:=hr
   exact⟨n - 1,by omega,i + 1,b',by omega,h1,h2⟩
  | inr r=>exact hr
 ·have e:i=l.length:=by omega
  subst e
  refine(stop b hi).mono fun r hr=>?_
  cases r with
  | inl z=>exact hr.elim
  | inr r=>exact hr
theorem U3 {α:Type} (x y:Option α):sel true x y=x:=rfl
theorem L0 {α:Type} (x y:Option α):sel false x y=y:=rfl
theorem M5 {α:Type} (x:Option α):chk true x=x:=rfl
theorem R4 {α:Type} {l:List α} {i:Nat} (h:i < l.length) (d:α):l.getD i d=l[i]:=by
 rw [List.getD_eq_getElem?_getD,List.getElem?_eq_getElem h];rfl
theorem M2 {α:Type} {l:List α} {i:Nat} (h:i < l.length):l.take (i + 1)=l.take i ++ [l[i]]:=List.take_succ_eq_append_getElem h
theorem H2 {i:Nat} (h:i < 9223372036854775807):C6 ((i:Int) + 1)=((i + 1:Nat):Int):=by
 rw [E4] <;> omega
end Go.Proofs.YtacnfjjkhpkloaaGreat.Am
namespace Go.Proofs.YtacnfjjkhpkloaaGreat.Am
open Go
section
variable {α:Type}
theorem c0k {A B:List α} {x d:α} {i:Nat} (h:i=A.length):(A ++ x :: B).getD i d=x:=by
 subst h;simp
theorem a4m {l:List α} (h:0 < l.length):∃ A x,l=A ++ [x]:=by
 have hne:l ≠ []:=by intro e;rw [e] at h;simp at h
 exact⟨l.dropLast,l.getLast hne,(List.dropLast_concat_getLast hne).symm⟩
theorem b2l {p:List α->Prop} (h0:p []) (h1:∀ l x,p l->p (l ++ [x])) (l:List α):p l:=by
 have:∀ m:List α,p m.reverse:=by
  intro m
  induction m with
  | nil=>exact h0
  | cons x m ih=>rw [List.reverse_cons];exact h1 _ _ ih
 have h:=this l.reverse
 rwa [List.reverse_reverse] at h
end
section
variable {α:Type} (lt:α->α->Bool)
def c3g (x:α):List α->List α
 | []=>[x]
 | y :: ys=>if lt x y then y :: c3g x ys else x :: y :: ys
def a58 (x:α) (s:List α):List α:=(c3g lt x s.reverse).reverse
def a4Y (l:List α):List α:=l.foldl (fun s x=>a58 lt x s) []
theorem a9l (x:α):a58 lt x []=[x]:=rfl
theorem a2p (x y:α) (s:List α):a58 lt x (s ++ [y])=if lt x y then a58 lt x s ++ [y] else s ++ [y,x]:=by
 unfold a58
 rw [List.reverse_append]
 simp only [List.reverse_cons,List.reverse_nil,List.nil_append,List.cons_append,c3g]
 split <;> simp
theorem a1R (l:List α) (x:α):a4Y lt (l ++ [x])=a58 lt x (a4Y lt l):=by
 unfold a4Y;rw [List.foldl_append];rfl
theorem c2n (x:α) (s:List α):(a58 lt x s).length=s.length + 1:=by
 have:∀ t:List α,(c3g lt x t).length=t.length + 1:=by
  intro t
  induction t with
  | nil=>rfl
  | cons y t ih=>unfold c3g;split <;> simp [ih]
 simp [a58,this]
theorem b0d:∀ (l:List α),(a4Y lt l).length=l.length:=by
 intro l
 induction l using b2l with
 | h0=>rfl
 | h1 l x ih=>rw [a1R,c2n,ih];simp
theorem c2o (x z:α) (s:List α):z ∈ a58 lt x s ↔ z=x\/z ∈ s:=by
 have:∀ t:List α,z ∈ c3g lt x t ↔ z=x\/z ∈ t:=by
  intro t
  induction t with
  | nil=>simp [c3g]
  | cons y t ih=>
   unfold c3g
   split
   ·simp only [List.mem_cons,ih]
    constructor
    ·rintro(h | h | h)
     ·exact .inr (.inl h)
     ·exact .inl h
     ·exact .inr (.inr h)
    ·rintro(h | h | h)
     ·exact .inr (.inl h)
     ·exact .inl h
     ·exact .inr (.inr h)
   ·simp only [List.mem_cons]
 simp [a58,this]
structure Swo:Prop where
 irr:∀ a,lt a a=false
 asy:∀ a b,lt a b=true->lt b a=false
 tr:∀ a b c,lt a b=false->lt b c=false->lt a c=false
def Srt (l:List α):Prop:=l.Pairwise fun a b=>lt b a=false
def eqv (x y:α):Bool:= !lt x y && !lt y x
variable {lt}
theorem a4x {x y:α}:eqv lt x y=true ↔ lt x y=false/\lt y x=false:=by simp [eqv]
theorem Swo.eqv_refl (h:Swo lt) (x:α):eqv lt x x=true:=a4x.2 ⟨h.irr x,h.irr x⟩
theorem Swo.eqv_symm {x y:α} (e:eqv lt x y=true):eqv lt y x=true:=a4x.2 ⟨(a4x.1 e).2,(a4x.1 e).1⟩
theorem Swo.eqv_trans (h:Swo lt) {x y z:α} (e:eqv lt x y=true) (k:eqv lt y z=true):eqv lt x z=true:=
 a4x.2 ⟨h.tr _ _ _ (a4x.1 e).1 (a4x.1 k).1,h.tr _ _ _ (a4x.1 k).2 (a4x.1 e).2⟩
def a2q (l m:List α):Prop:=∀ x,l.filter (eqv lt x)=m.filter (eqv lt x)
theorem a2q.mem (h:Swo lt) {l m:List α} (e:a2q (lt:=lt) l m) {x:α} (hx:x ∈ l):x ∈ m:=by
 have h1:x ∈ l.filter (eqv lt x):=List.mem_filter.2 ⟨hx,h.eqv_refl x⟩
 rw [e x] at h1
 exact(List.mem_filter.1 h1).1
theorem a2q.refl (l:List α):a2q (lt:=lt) l l:=fun _=>rfl
theorem a2q.symm {l m:List α} (e:a2q (lt:=lt) l m):a2q (lt:=lt) m l:=fun x=>(e x).symm
theorem a2q.trans {l m n:List α} (e:a2q (lt:=lt) l m) (k:a2q (lt:=lt) m n):a2q (lt:=lt) l n:=fun x=>(e x).trans (k x)
theorem a2q.app {l m l' m':List α} (e:a2q (lt:=lt) l m) (k:a2q (lt:=lt) l' m'):a2q (lt:=lt) (l ++ l') (m ++ m'):=fun x=>by
 rw [List.filter_append,List.filter_append,e x,k x]
theorem a2q.comm (h:Swo lt) {A B:List α} (hlt:∀ a ∈ A,∀ b ∈ B,lt b a=true):a2q (lt:=lt) (A ++ B) (B ++ A):=fun x=>by
 rw [List.filter_append,List.filter_append]
 cases hA:A.filter (eqv lt x) with
 | nil=>simp
 | cons a tl=>
  cases hB:B.filter (eqv lt x) with
  | nil=>simp
  | cons b bs=>
   have ha:a ∈ A.filter (eqv lt x):=by rw [hA];simp
   have hb:b ∈ B.filter (eqv lt x):=by rw [hB];simp
   obtain⟨ha1,ha2⟩:=List.mem_filter.1 ha
   obtain⟨hb1,hb2⟩:=List.mem_filter.1 hb
   have:=h.eqv_trans (Swo.eqv_symm hb2) ha2
   have h1:=hlt a ha1 b hb1
   rw [(a4x.1 this).1] at h1
   cases h1
theorem c2p (h:Swo lt) (x:α):∀ {s:List α},Srt lt s->Srt lt (a58 lt x s)/\a2q (lt:=lt) (a58 lt x s) (s ++ [x]):=by
 intro s
 induction s using b2l with
 | h0=>intro _;exact⟨by simp [a9l,Srt],a2q.refl _⟩
 | h1 s y ih=>
  intro hs
  unfold Srt at hs
  rw [List.pairwise_append] at hs
  obtain⟨h1,_,h3⟩:=hs
  obtain⟨i1,i2⟩:=ih h1
  rw [a2p]
  split
  ·rename_i hxy
   refine⟨?_,?_⟩
   ·unfold Srt
    rw [List.pairwise_append]
    refine⟨i1,by simp,fun a ha b hb=>?_⟩
    simp only [List.mem_singleton] at hb
    subst hb
    rcases(c2o lt x a s).1 ha with rfl | ha
    ·exact h.asy _ _ hxy
    ·exact h3 a ha b (by simp)
   ·refine(i2.app (a2q.refl [y])).trans ?_
    rw [List.append_assoc,List.append_assoc]
    refine(a2q.refl s).app ?_
    have:=a2q.comm h (A:=[y]) (B:=[x]) (by simpa using hxy)
    exact this.symm
  ·rename_i hxy
   have hxy':lt x y=false:=by simpa using hxy
   refine⟨?_,by simpa using a2q.refl _⟩
   unfold Srt
   rw [List.pairwise_append]
   refine⟨h1,by simpa using hxy',fun a ha b hb=>?_⟩
   simp only [List.mem_cons,List.not_mem_nil,or_false] at hb
   have hay:=h3 a ha y (by simp)
   rcases hb with rfl | rfl
   ·exact hay
   ·exact h.tr _ _ _ hxy' hay
theorem b3y (h:Swo lt):∀ (l:List α),Srt lt (a4Y lt l)/\a2q (lt:=lt) (a4Y lt l) l:=by
 intro l
 induction l using b2l with
 | h0=>exact⟨by simp [a4Y,Srt],a2q.refl _⟩
 | h1 l x ih=>
  rw [a1R]
  obtain⟨h1,h2⟩:=c2p h x ih.1
  exact⟨h1,h2.trans (ih.2.app (a2q.refl [x]))⟩
theorem c0l (h:Swo lt) {l:List α} {x:α}:x ∈ a4Y lt l ↔ x ∈ l:=⟨fun hx=>(b3y h l).2.mem h hx,fun hx=>(b3y h l).2.symm.mem h hx⟩
end
end Go.Proofs.YtacnfjjkhpkloaaGreat.Am
namespace Go.Proofs.YtacnfjjkhpkloaaGreat.Am
open Go
end Go.Proofs.YtacnfjjkhpkloaaGreat.Am
namespace Go.Proofs.YtacnfjjkhpkloaaGreat.Am
open Go
section
variable {α:Type} {d:α} {cmp:α->α->Option Int} {c:α->α->Int}
def ltc (c:α->α->Int) (a b:α):Bool:=decide (c a b < 0)
end
end Go.Proofs.YtacnfjjkhpkloaaGreat.Am
namespace Go.Proofs.YtacnfjjkhpkloaaGreat.Am
open Go
section
variable {α:Type} {lt:α->α->Bool}
end
section
variable {α:Type} {d:α} {cmp:α->α->Option Int} {c:α->α->Int} {rec:List α->Int->Int->Int->Option (List α)}
def b6x (lt:α->α->Bool) (A B S:List α):Prop:=Srt lt S/\a2q (lt:=lt) S (A ++ B)/\S.length=A.length + B.length
theorem b6x.left {A:List α} (h:Srt (ltc c) A):b6x (ltc c) A [] A:=⟨h,by simpa using a2q.refl A,by simp⟩
theorem b6x.right {A:List α} (h:Srt (ltc c) A):b6x (ltc c) [] A A:=⟨h,by simpa using a2q.refl A,by simp⟩
end
end Go.Proofs.YtacnfjjkhpkloaaGreat.Am
namespace Go.Proofs.YtacnfjjkhpkloaaGreat.Am
open Go
section
variable {α:Type} {d:α} {cmp:α->α->Option Int} {c:α->α->Int}
def blk (lt:α->α->Bool) (bs:Nat) (l:List α):List α:=if _h:l=[]\/bs=0 then [] else a4Y lt (l.take bs) ++ blk lt bs (l.drop bs)
termination_by l.length
decreasing_by
 have h1:l ≠ []:=fun e=>_h (.inl e)
 have h2:bs ≠ 0:=fun e=>_h (.inr e)
 have:=List.length_pos_iff.2 h1
 simp only [List.length_drop]
 omega
end
end Go.Proofs.YtacnfjjkhpkloaaGreat.Am
