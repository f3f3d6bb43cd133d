/- Texts laid together: SpLay, TmKeys, Sp, SendNames. No conditions. -/
import Derived.Shelf.SlIterI.Sorted
import Derived.Shelf.SlIter.Sorted
import Derived.Shelf.SortM.Plain
import Derived.Shelf.SortM.SortNone
import Derived.Ground.GgzProg
import Derived.Ground.SlgmProg
import Derived.Test.YthadhfbkhldblaaProg
import Derived.Test.YthadhfbkhldblaaQAC
import Derived.Lib.SlKeysI
import Derived.Test.YthadhfbkhldblaaQAH
namespace Go.Proofs
open Go.Shelf
def Try.keys29_ren:Go.Shelf.Ren:=⟨fun | 7=>29 | 10=>37 | n=>n,fun | 23=>60 | 26=>9 | 3=>67 | 28=>65 | 0=>0 | 27=>64 | 33=>77 | 4=>4 | n=>n,fun | n=>n⟩
theorem Try.keys29:Go.Proofs.SlLaysZ.n7 Try.prog Try.keys29_ren:={
 mixed:=by kernel_rfl
 f7:=⟨Try.f29.name,by decide,Try.func29.trans (congrArg some (by kernel_rfl))⟩
 f10:=⟨Try.f37.name,by decide,Try.func37.trans (congrArg some (by kernel_rfl))⟩
 t0:=Try.underlying0
 a0:=Try.isAgg0
 z0:=Try.sizeOf0
 v0:=Try.zeroValue0
 t4:=Try.underlying4
 a4:=Try.isAgg4
 z4:=Try.sizeOf4
 v4:=Try.zeroValue4
 t23:=Try.underlying60
 a23:=Try.isAgg60
 z23:=Try.sizeOf60
 v23:=Try.zeroValue60
 t26:=Try.underlying9
 a26:=Try.isAgg9
 z26:=Try.sizeOf9
 v26:=Try.zeroValue9
 t27:=Try.underlying64
 a27:=Try.isAgg64
 z27:=Try.sizeOf64
 v27:=Try.zeroValue64
 t28:=Try.underlying65
 a28:=Try.isAgg65
 z28:=Try.sizeOf65
 v28:=Try.zeroValue65
 t33:=Try.underlying77
 a33:=Try.isAgg77
 z33:=Try.sizeOf77
 v33:=Try.zeroValue77}
def Try.sorted28_ren:Go.Shelf.Ren:=⟨fun | 6=>28 | 8=>35 | 9=>36 | 11=>43 | 13=>45 | 12=>44 | 23=>57 | 24=>58 | 14=>48 | 15=>49 | 16=>50 | 17=>51 | 18=>52 | 19=>53 | 20=>54 | 21=>55 | 22=>56 | 25=>60 | 26=>61 | 27=>62 | 28=>63 | 29=>64 | 30=>65 | 31=>66 | n=>n,fun | 26=>9 | 28=>65 | 24=>32 | 0=>0 | 3=>3 | 37=>86 | 48=>97 | 50=>38 | 4=>4 | 40=>90 | 39=>89 | 45=>71 | 5=>5 | 9=>9 | 51=>100 | 55=>104 | 57=>106 | 58=>107 | 33=>77 | n=>n,fun | n=>n⟩
theorem Try.sorted28:Go.Proofs.SlLaysZ.n6 Try.prog Try.sorted28_ren:={
 mixed:=by kernel_rfl
 f6:=⟨Try.f28.name,by decide,Try.func28.trans (congrArg some (by kernel_rfl))⟩
 f8:=⟨Try.f35.name,by decide,Try.func35.trans (congrArg some (by kernel_rfl))⟩
 f11:=⟨Try.f43.name,by decide,Try.func43.trans (congrArg some (by kernel_rfl))⟩
 t0:=Try.underlying0
 a0:=Try.isAgg0
 z0:=Try.sizeOf0
 v0:=Try.zeroValue0
 t24:=Try.underlying32
 a24:=Try.isAgg32
 z24:=Try.sizeOf32
 v24:=Try.zeroValue32
 t26:=Try.underlying9
 a26:=Try.isAgg9
 z26:=Try.sizeOf9
 v26:=Try.zeroValue9
 t28:=Try.underlying65
 a28:=Try.isAgg65
 z28:=Try.sizeOf65
 v28:=Try.zeroValue65
 i26:=by kernel_rfl}
def Try.sort36_ren:Go.Shelf.Ren:=⟨fun | 6=>36 | 8=>45 | 9=>44 | 19=>57 | 20=>58 | 21=>48 | 22=>49 | 23=>50 | 24=>51 | 25=>52 | 26=>53 | 27=>54 | 28=>55 | 29=>56 | 36=>60 | 31=>61 | 32=>62 | 37=>63 | 38=>64 | 39=>65 | 41=>66 | n=>n,fun | 27=>32 | 29=>9 | 3=>3 | 32=>86 | 26=>32 | 0=>0 | 44=>97 | 46=>38 | 4=>4 | 36=>90 | 35=>89 | 41=>71 | 5=>5 | 9=>9 | 53=>100 | 57=>104 | 63=>106 | 64=>107 | n=>n,fun | n=>n⟩
theorem Try.sort36:Go.Proofs.SlLaysM.n6 Try.prog Try.sort36_ren:={
 mixed:=by kernel_rfl
 f6:=⟨Try.f36.name,by decide,Try.func36.trans (congrArg some (by kernel_rfl))⟩
 f8:=Try.func45.trans (congrArg some (by kernel_rfl))
 f9:=⟨Try.f44.name,by decide,Try.func44.trans (congrArg some (by kernel_rfl))⟩
 f19:=Try.func57.trans (congrArg some (by kernel_rfl))
 f20:=Try.func58.trans (congrArg some (by kernel_rfl))
 f21:=⟨Try.f48.name,by decide,Try.func48.trans (congrArg some (by kernel_rfl))⟩
 f22:=⟨Try.f49.name,by decide,Try.func49.trans (congrArg some (by kernel_rfl))⟩
 f23:=⟨Try.f50.name,by decide,Try.func50.trans (congrArg some (by kernel_rfl))⟩
 f24:=⟨Try.f51.name,by decide,Try.func51.trans (congrArg some (by kernel_rfl))⟩
 f25:=⟨Try.f52.name,by decide,Try.func52.trans (congrArg some (by kernel_rfl))⟩
 f26:=⟨Try.f53.name,by decide,Try.func53.trans (congrArg some (by kernel_rfl))⟩
 f27:=⟨Try.f54.name,by decide,Try.func54.trans (congrArg some (by kernel_rfl))⟩
 f28:=⟨Try.f55.name,by decide,Try.func55.trans (congrArg some (by kernel_rfl))⟩
 f29:=⟨Try.f56.name,by decide,Try.func56.trans (congrArg some (by kernel_rfl))⟩
 f31:=Try.func61.trans (congrArg some (by kernel_rfl))
 f32:=Try.func62.trans (congrArg some (by kernel_rfl))
 f36:=⟨Try.f60.name,by decide,Try.func60.trans (congrArg some (by kernel_rfl))⟩
 f37:=⟨Try.f63.name,by decide,Try.func63.trans (congrArg some (by kernel_rfl))⟩
 f38:=⟨Try.f64.name,by decide,Try.func64.trans (congrArg some (by kernel_rfl))⟩
 f39:=⟨Try.f65.name,by decide,Try.func65.trans (congrArg some (by kernel_rfl))⟩
 f41:=⟨Try.f66.name,by decide,Try.func66.trans (congrArg some (by kernel_rfl))⟩
 t0:=Try.underlying0
 a0:=Try.isAgg0
 z0:=Try.sizeOf0
 v0:=Try.zeroValue0
 t3:=Try.underlying3
 a3:=Try.isAgg3
 z3:=Try.sizeOf3
 v3:=Try.zeroValue3
 t4:=Try.underlying4
 a4:=Try.isAgg4
 z4:=Try.sizeOf4
 v4:=Try.zeroValue4
 t5:=Try.underlying5
 a5:=Try.isAgg5
 z5:=Try.sizeOf5
 v5:=Try.zeroValue5
 t9:=Try.underlying9
 a9:=Try.isAgg9
 z9:=Try.sizeOf9
 v9:=Try.zeroValue9
 t26:=Try.underlying32
 a26:=Try.isAgg32
 z26:=Try.sizeOf32
 v26:=Try.zeroValue32
 t27:=Try.underlying32
 a27:=Try.isAgg32
 z27:=Try.sizeOf32
 v27:=Try.zeroValue32
 t29:=Try.underlying9
 a29:=Try.isAgg9
 z29:=Try.sizeOf9
 v29:=Try.zeroValue9
 t32:=Try.underlying86
 a32:=Try.isAgg86
 z32:=Try.sizeOf86
 v32:=Try.zeroValue86
 t35:=Try.underlying89
 a35:=Try.isAgg89
 z35:=Try.sizeOf89
 v35:=Try.zeroValue89
 t36:=Try.underlying90
 a36:=Try.isAgg90
 z36:=Try.sizeOf90
 v36:=Try.zeroValue90
 t41:=Try.underlying71
 a41:=Try.isAgg71
 z41:=Try.sizeOf71
 v41:=Try.zeroValue71
 t44:=Try.underlying97
 a44:=Try.isAgg97
 z44:=Try.sizeOf97
 v44:=Try.zeroValue97
 t46:=Try.underlying38
 a46:=Try.isAgg38
 z46:=Try.sizeOf38
 v46:=Try.zeroValue38
 t53:=Try.underlying100
 a53:=Try.isAgg100
 z53:=Try.sizeOf100
 v53:=Try.zeroValue100
 t57:=Try.underlying104
 a57:=Try.isAgg104
 z57:=Try.sizeOf104
 v57:=Try.zeroValue104
 t63:=Try.underlying106
 a63:=Try.isAgg106
 z63:=Try.sizeOf106
 v63:=Try.zeroValue106
 t64:=Try.underlying107
 a64:=Try.isAgg107
 z64:=Try.sizeOf107
 v64:=Try.zeroValue107}
end Go.Proofs
namespace Go.Proofs.Ythadhfbkhldblaa.Am
open Go Go.Proofs Go.RowKit Go.Maps Go.Sort Go.WideElems Go.WideShapes
def b12 (_:Value):Option (DataW Unit × List MemPlace):=some (.lit (.bool true),[])
theorem a9Y {w:World} {b:Nat} {v:Value} (h:w.cell? ⟨b,0,none⟩=some v):b < w.heap.size:=by
 rcases Nat.lt_or_ge b w.heap.size with h1 | h1
 ·exact h1
 ·have:w.heap[b]?=none:=Array.getElem?_eq_none h1
  simp [World.cell?,this] at h
theorem a9Z {ms:List MapEntry} {c:Nat} (h:a2k ms c):(ms.map (·.born)).Nodup:=by
 unfold List.Nodup
 rw [List.pairwise_map]
 exact h.1.imp fun hlt=>Nat.ne_of_lt hlt
theorem b3B {w:World} {b g:Nat} {ty:TypeId} (hb:w.heap[b]?=some (.cells #[.map (some g)] ty (0,0))):w.cell? ⟨b,0,none⟩=some (.map (some g)):=by
 simp [World.cell?,hb]
theorem b6F {P:Program} {k:TypeId} {x:MapEntry} {kl:Lit} (h:keyOf P k x.key=some kl):WideElems.rg P k b12 x=(kl,.lit (.bool true)):=by
 simp [WideElems.rg,WideElems.rd,h,b12]
theorem b13 {P:Program} {k:TypeId} {en:Array MapEntry} {clock:Nat} (hb:a2k en.toList clock) (hnd:(en.toList.map (·.key)).Nodup) (hk:∀ x ∈ en.toList,∃ kl,keyOf P k x.key=some kl) (hsz:en.size<=maxLen):WideElems.Fit P k b12 en clock:=
 ⟨hsz,⟨hb.2,a9Z hb,hnd⟩,fun x hx=>by
  obtain⟨kl,h⟩:=hk x hx
  exact⟨(kl,.lit (.bool true)),by simp [WideElems.rd,h,b12]⟩⟩
theorem b14 {P:Program} {k:TypeId} (hk:P.underlying k=some .string) {x:List UInt8} (hx:x.length<=maxLen):keyOf P k (a4f x)=some (.string x):=by
 simp [keyOf,hk,mapKey,a4f,ByteArray.size,hx]
theorem b4j {P:Program} {k:TypeId} (hk:P.underlying k=some .string):∀ {ms:List MapEntry} {ks:List (List UInt8)},ms.map (·.key)=ks.map a4f->(∀ x ∈ ks,x.length<=maxLen)->(ms.map (WideElems.rg P k b12)).map (fun p=>strOf p.1)=ks
 | [],[],_,_=>rfl
 | m :: ms,x :: ks,h,hw=>by
  simp only [List.map_cons,List.cons.injEq] at h
  have h1:keyOf P k m.key=some (.string x):=by rw [h.1];exact b14 hk (hw x (by simp))
  rw [List.map_cons,List.map_cons,b6F h1,b4j hk h.2 (fun y hy=>hw y (by simp [hy]))]
  rfl
 | [],_ :: _,h,_=>by simp at h
 | _ :: _,[],h,_=>by simp at h
theorem a6D {α β:Type} {f:α->β} (hf:∀ x y,f x=f y->x=y) {l:List α} (h:l.Nodup):(l.map f).Nodup:=by
 unfold List.Nodup at *
 rw [List.pairwise_map]
 exact h.imp fun hne e=>hne (hf _ _ e)
theorem b5j {α:Type} {f:α->Value} {ms:List MapEntry} {ks:List α} (h:ms.map (·.key)=ks.map f) {m:MapEntry} (hm:m ∈ ms):∃ x ∈ ks,m.key=f x:=by
 have:m.key ∈ ms.map (·.key):=List.mem_map.2 ⟨m,hm,rfl⟩
 rw [h] at this
 obtain⟨x,h1,h2⟩:=List.mem_map.1 this
 exact⟨x,h1,h2.symm⟩
theorem b15 {P:Program} {k:TypeId} (en:Array MapEntry):Maps.size (DataW.map ((en.toList.map (WideElems.rg P k b12)).foldr DataW.insert []))=en.size:=by
 show((en.toList.map (WideElems.rg P k b12)).foldr DataW.insert []).length=en.size
 rw [length_sorted];simp
theorem b3C {P:Program} {f f1:FuncId} {e:TypeId} (hk:P.underlying e=some .string)
  (h:∀ (b g nn:Nat) (D0:DataW Unit) (w:World),w.cell? ⟨b,0,none⟩=some (.map (some g))->w.ownsMap P e b12 g nn D0->Maps.size D0<=maxLen->Maps.size D0 * 16<=140737488355328->
   Calls P f #[a6P f1 b] w fun o w'=>∃ (v:Value) (ss:List (List UInt8)),o= .returned v/\ss.Perm (strKeys D0)/\w'.ownsRow w.heap.size e 1 v ss.length ((ss.mergeSort (fun x y=>decide (x<=y))).map encStr)/\(v= .slice none 0 0 ↔ ss=[])/\RowKit.Below w.heap.size w w'):b55 P f f1 e:=by
 intro w b g ty en clock ks hb hg hborn hkeys hnd hwf hmax hby
 have hlen:en.size=ks.length:=by
  have:=congrArg List.length hkeys
  simpa using this
 have hfit:WideElems.Fit P e b12 en clock:=b13 hborn (by rw [hkeys];exact a6D (fun x y h=>by simpa [a4f] using h) hnd) (fun m hm=>by
  obtain⟨x,hx,hxe⟩:=b5j hkeys hm
  exact⟨_,by rw [hxe];exact b14 hk (hwf x hx)⟩) (by rw [hlen];exact hmax)
 refine(h b g en.size _ w (b3B hb) ⟨en,clock,hg,hfit,Nat.le_refl _,rfl⟩ (by rw [b15,hlen];exact hmax) (by rw [b15,hlen];exact hby)).mono ?_
 rintro o w' ⟨v,ss,rfl,hp,hown,_,hB⟩
 have hperm:ss.Perm ks:=by
  refine hp.trans ?_
  show(((en.toList.map (WideElems.rg P e b12)).foldr DataW.insert []).map fun p=>strOf p.1).Perm ks
  have:=(sorted_perm (en.toList.map (WideElems.rg P e b12))).map (fun p=>strOf p.1)
  rw [b4j hk hkeys hwf] at this
  exact this
 refine⟨v,rfl,?_,hB⟩
 have e1:ss.mergeSort (fun x y=>decide (x<=y))=ks.mergeSort (fun x y=>decide (x<=y)):=mergeSort_of_perm hperm
 rw [e1,hperm.length_eq] at hown
 exact hown
end Go.Proofs.Ythadhfbkhldblaa.Am
namespace Go.Proofs.Ythadhfbkhldblaa.Am
open Go Go.Proofs Go.RowKit Go.Maps Go.Sort Go.Shelf
theorem b3D (m:Nat):AnyZ.SortsIn Try.prog Try.sorted28_ren Fence.wide m:=
 ⟨fun blk off cap ss W hH hblk hsz=>callsIn_wide.2 (AnyM.slices_Sort_string Try.sort36 blk off cap ss W hH hblk hsz),
  fun p cap W=>callsIn_wide.2 (AnyM.slices_Sort_string_none Try.sort36 p cap W)⟩
theorem b7N:b66 Try.prog 29 (.keys 37):=⟨60,fun g w=>(callsIn_wide (n:=5)).1 (AnyZ.keys_in Try.keys29 Fence.wide 5 trivial rfl (some g) w)⟩
theorem b7O:b66 Try.prog 28 (.sortS 37 9):=b3C Try.underlying9 fun b g nn D0 w hb hown hmax hby=>by
 have hseq:SeqGives Fence.wide 2 Try.prog 37 #[.pointer (some ⟨b,0,none⟩)] encStr (fun ss=>ss.Perm (strKeys D0)) (Maps.size D0) w:=
  AnyZ.keys_gives (ρ:=Try.keys29_ren) {Try.keys29 with} Fence.wide _ trivial rfl (by omega) b g nn D0 w (a9Y hb) hb hown
 exact(callsIn_wide (n:=5)).1 (AnyZ.sorted_in Try.sorted28 Fence.wide 5 trivial trivial trivial trivial rfl (by omega) (b3D _) (enters_of Try.func36 (by kernel_rfl) rfl) 37 #[.pointer (some ⟨b,0,none⟩)] trivial (enters_of Try.func37 (by kernel_rfl) rfl) _ _ hmax hby _ hseq)
end Go.Proofs.Ythadhfbkhldblaa.Am
namespace Go.Proofs.Ythadhfbkhldblaa.Am
open Go Go.Proofs Go.RowKit
theorem IxL.keysE {w:World}:∀ {l:IxD} {ms:List MapEntry} {xs:List Nat},IxL w l ms xs->ms.map (·.key)=(l.map (·.1)).map a4f
 | [],_,_,h=>by simp only [IxL] at h;rw [h.1];rfl
 | c :: l,ms,xs,h=>by
  simp only [IxL] at h
  obtain⟨m,r,x,y,rfl,rfl,h1,h2,h3,h4⟩:=h
  rw [List.map_cons,h1,h4.keysE];rfl
set_option maxHeartbeats 4000000 in
set_option maxRecDepth 100000 in
theorem a7T {w:World} {bx g:Nat} {l:IxD} {n:Int} {xs:List Nat} (hw:IxW w bx l n g xs) (hg:a0v (l.map (·.1))=true) :
  Calls Try.prog 12 #[.pointer (some ⟨bx,0,none⟩)] w fun e w'=>∃ v,e= .returned v/\w'.ownsRow w.heap.size 9 1 v l.length ((W4 (l.map (·.1))).map a4f)/\Below w.heap.size w w':=by
 obtain⟨en,cl,ty,hbx,hgg,hb,hnd,hnb,hl⟩:=hw
 obtain⟨h1,h2,h3⟩:=of_decide_eq_true hg
 obtain⟨tm,hkeys⟩:=b7N
 have hbxl:bx < w.heap.size:=(Array.getElem?_eq_some_iff.1 hbx).1
 have hgl:g < w.heap.size:=(Array.getElem?_eq_some_iff.1 hgg).1
 have hs:=b7O (w.alloc (.cells #[.map (some g)] tm)) w.heap.size g tm en cl (l.map (·.1)) (heap_alloc_new w _) (((K2 w _).block g hgl (by simp)).trans hgg) hb hl.keysE h1 (fun x hx=>Nat.le_trans (h2 x hx) (by simp [maxLen])) (by unfold LIM at h3;unfold maxLen;omega) h3
 have hk:=hkeys g w
 have hc0:w.cell? ⟨bx,0,none⟩=some (.map (some g)):=a7S hbx
 clear hkeys hbx hgg hb hnd hnb hl h1 h2 h3
 go_enter Try.func12,Try.ntmps12
 go_wp2_with (first | (go_at_call 29;refine hk.mono ?_;rintro e w1 ⟨rfl,rfl⟩) | (go_at_call 28;refine hs.mono ?_;rintro e w2 ⟨v,rfl,ho,hB⟩))
 go_ret
 refine⟨v,rfl,?_,?_⟩
 ·have e1:=a3S (l.map (·.1))
  rw [e1,List.length_map] at ho
  rcases ho with⟨q1,q2⟩
  refine⟨q1,q2.imp id ?_⟩
  rintro⟨g',cap,cur,r1,r2,r3⟩
  exact⟨g',cap,cur,r1,by simp at r2;omega,r3⟩
 ·have:=hB
  exact(Below.alloc (Below.refl _ _) (Nat.le_refl _) _).trans (hB.mono (by simp))
end Go.Proofs.Ythadhfbkhldblaa.Am
