/- Texts laid together: DeLay, Decode, AmTab. No conditions. -/
import Derived.Shelf.Unicode.DecodeAny
import Derived.Ground.NamesProg
import Derived.Test.YtbipjlehhlkghaaGreatDoorProg
import Derived.Test.YtbipjlehhlkghaaGreatDoorKD
import Derived.KernelRfl
namespace Go.Proofs
open Go.Shelf
def Tryz.decode_ren:Go.Shelf.Ren:=⟨fun | 197=>134 | 260=>148 | n=>n,fun | 9=>9 | 21=>21 | 3=>3 | 4=>4 | 5=>5 | 105=>173 | 119=>194 | 0=>0 | 46=>158 | 139=>197 | 138=>196 | n=>n,fun | 3=>2 | 4=>3 | n=>n⟩
theorem Tryz.decode:Go.Proofs.Lays.n197 Tryz.prog Tryz.decode_ren:={
 mixed:=by kernel_rfl
 f197:=Tryz.func134.trans (congrArg some (by kernel_rfl))
 f260:=Tryz.func148.trans (congrArg some (by kernel_rfl))
 t0:=Tryz.underlying0
 a0:=Tryz.isAgg0
 z0:=Tryz.sizeOf0
 v0:=Tryz.zeroValue0
 t3:=Tryz.underlying3
 a3:=Tryz.isAgg3
 z3:=Tryz.sizeOf3
 v3:=Tryz.zeroValue3
 t4:=Tryz.underlying4
 a4:=Tryz.isAgg4
 z4:=Tryz.sizeOf4
 v4:=Tryz.zeroValue4
 t5:=Tryz.underlying5
 a5:=Tryz.isAgg5
 z5:=Tryz.sizeOf5
 v5:=Tryz.zeroValue5
 t9:=Tryz.underlying9
 a9:=Tryz.isAgg9
 z9:=Tryz.sizeOf9
 v9:=Tryz.zeroValue9
 t21:=Tryz.underlying21
 a21:=Tryz.isAgg21
 z21:=Tryz.sizeOf21
 v21:=Tryz.zeroValue21
 t46:=Tryz.underlying158
 a46:=Tryz.isAgg158
 z46:=Tryz.sizeOf158
 v46:=Tryz.zeroValue158
 t105:=Tryz.underlying173
 a105:=Tryz.isAgg173
 z105:=Tryz.sizeOf173
 v105:=Tryz.zeroValue173
 t119:=Tryz.underlying194
 a119:=Tryz.isAgg194
 z119:=Tryz.sizeOf194
 t138:=Tryz.underlying196
 a138:=Tryz.isAgg196
 z138:=Tryz.sizeOf196
 v138:=Tryz.zeroValue196
 t139:=Tryz.underlying197
 a139:=Tryz.isAgg197
 z139:=Tryz.sizeOf197
 v139:=Tryz.zeroValue197
 g3:=by kernel_rfl
 g4:=by kernel_rfl}
end Go.Proofs
namespace Go.Proofs.YtbipjlehhlkghaaGreatDoor.Am
open Go Go.Proofs Go.RowKit
def H0 (a0:List UInt8):Option (Int × Int):=some (((Lib.decodeGo ⟨a0.toArray⟩).1:Nat),((Lib.decodeGo ⟨a0.toArray⟩).2:Nat))
def H1:TFn:=⟨.cons (.c (.d .str)) .nil,.nil,.cons (.c (.d (.int .i32))) (.cons (.c (.d (.int .i64))) .nil),Int × Int,fun a=>H0 a.1,fun r=>((),(r.1,(r.2,()))),.none⟩
theorem c0U {I:Nat->Nat->Prop} {w:World} (h:d1x I w):Lib.Utf8Tabs 2 3 w:=by
 refine⟨fun c hc=>(h 2 c _ (by simp [GT,hc])).1,fun i hi=>⟨?_,?_⟩⟩
 ·have:=(h 3 (2 * i) (.int .u8 (Lib.accLo i)) (by
   have h1:2 * i < 32:=by omega
   have h2:2 * i % 2=0:=by omega
   have h3:2 * i / 2=i:=by omega
   simp [GT,h1])).1
  exact this
 ·have:=(h 3 (2 * i + 1) (.int .u8 (Lib.accHi i)) (by
   have h1:2 * i + 1 < 32:=by omega
   have h2:¬ (2 * i + 1) % 2=0:=by omega
   have h3:(2 * i + 1) / 2=i:=by omega
   simp [GT,h1,h3])).1
  exact this
theorem a5n:FnT Tryz.prog 134 H1:=
 ⟨rfl,rfl,⟨trivial,⟨_,Tryz.func134,rfl,rfl⟩,fun w I F args xs hIn hgl hargs hF hp=>by
  obtain⟨a,r,rfl,hr⟩:=hp
  replace hargs:OAs I w [.c (.d (.v (.string ⟨a.1.toArray⟩)))] args.toList F:=hargs
  simp only [OAs,OAr,OCr,DVr] at hargs
  obtain⟨x,r1,F1,F2,e1,⟨rfl,rfl,_⟩,⟨rfl,rfl⟩,rfl⟩:=hargs
  have ha:args= #[.string ⟨a.1.toArray⟩]:=by
   cases args;simp only at e1;subst e1;rfl
  subst ha
  have hc:=Any.utf8_DecodeRuneInString Tryz.decode ⟨a.1.toArray⟩ w (c0U hgl)
  refine Calls.mono (show Calls Tryz.prog 134 _ _ _ from hc) fun e w' h=>?_
  obtain⟨rfl,hb⟩:=h
  refine⟨I,[.int .i32 (Lib.decodeGo ⟨a.1.toArray⟩).1,.int .i64 (Lib.decodeGo ⟨a.1.toArray⟩).2],[],[],rfl,?_⟩
  refine⟨⟨hb.os,hb.tape,hb.output,hb.size,fun k hk _=>hb.block k hk⟩,fun _ _ h=>h,fun b o hi=>World.cell?_of_block (a:=⟨b,o,none⟩) (hb.block b (hIn b o hi)),fun _ _ h=> .inl h,fun b o hi=>Nat.lt_of_lt_of_le (hIn b o hi) hb.size,?_,?_,by simp,by simp⟩
  ·have e1:(H1.spec.post (H1.args.oas a))=[]:=by
    rw [TFn.post_of rfl hr];rfl
   rw [e1]
   exact⟨rfl,rfl⟩
  ·have e1:(H1.spec.res (H1.args.oas a))=[.c (.d (.v (.int .i32 r.1))),.c (.d (.v (.int .i64 r.2)))]:=by
    rw [TFn.res_of rfl hr];rfl
   rw [e1]
   injection hr with hr
   rw [<-hr]
   simp only [OAs,OAr,OCr,DVr]
   exact⟨_,_,[],[],rfl,⟨rfl,rfl,rfl⟩,⟨_,_,[],[],rfl,⟨rfl,rfl,rfl⟩,⟨rfl,rfl⟩,rfl⟩,rfl⟩⟩⟩
end Go.Proofs.YtbipjlehhlkghaaGreatDoor.Am
namespace Go.Proofs.YtbipjlehhlkghaaGreatDoor.Am
open Go
def ti3:TI:=⟨.int .i64,1,8,[.int .i64 0],[],false,[]⟩
def ti4:TI:=⟨.bool,1,1,[.bool false],[],false,[]⟩
def ti5:TI:=⟨.int .u8,1,1,[.int .u8 0],[],false,[]⟩
def ti9:TI:=⟨.str,1,16,[.string ⟨#[]⟩],[],false,[]⟩
def d7C:TI:=⟨.other,1,16,[.nilIface],[],false,[]⟩
def d7D:TI:=⟨.int .i32,1,4,[.int .i32 0],[],false,[]⟩
def d7E:TI:=⟨.slice 49,1,24,[.slice none 0 0],[],false,[]⟩
def d7F:TI:=⟨.int .u64,1,8,[.int .u64 0],[],false,[]⟩
def d7G:TI:=⟨.struct [(0,1),(1,1)],2,32,[.slice none 0 0,.int .u64 0],[],false,[22,23]⟩
def d7H:TI:=⟨.slice 5,1,24,[.slice none 0 0],[],false,[]⟩
def d7I:TI:=⟨.slice 3,1,24,[.slice none 0 0],[],false,[]⟩
def d7J:TI:=⟨.ptr 109,1,8,[.pointer none],[],false,[]⟩
def d7K:TI:=⟨.slice 25,1,24,[.slice none 0 0],[],false,[]⟩
def d7L:TI:=⟨.slice 26,1,24,[.slice none 0 0],[],false,[]⟩
def d7M:TI:=⟨.slice 23,1,24,[.slice none 0 0],[],false,[]⟩
def d7N:TI:=⟨.int .i64,1,8,[.int .i64 0],[],false,[]⟩
def d7O:TI:=⟨.struct [(0,1),(1,1),(2,1),(3,1),(4,1)],5,48,[.int .i64 0,.string ⟨#[]⟩,.int .u64 0,.int .u64 0,.int .u64 0],[.i .i64,.s,.i .u64,.i .u64,.i .u64],false,[]⟩
def d7P:TI:=⟨.slice 59,1,24,[.slice none 0 0],[],false,[]⟩
def d7Q:TI:=⟨.struct [(0,1),(1,1),(2,1),(3,1),(4,1),(5,1)],6,80,[.string ⟨#[]⟩,.int .u64 0,.int .u64 0,.int .u64 0,.string ⟨#[]⟩,.slice none 0 0],[],false,[]⟩
def d7R:TI:=⟨.struct [(0,1),(1,1),(2,1)],3,32,[.string ⟨#[]⟩,.int .u64 0,.int .u64 0],[.s,.i .u64,.i .u64],false,[]⟩
def d7S:TI:=⟨.struct [(0,1),(1,1)],2,24,[.string ⟨#[]⟩,.int .u64 0],[.s,.i .u64],false,[]⟩
def d7T:TI:=⟨.slice 35,1,24,[.slice none 0 0],[],false,[]⟩
def d7U:TI:=⟨.slice 39,1,24,[.slice none 0 0],[],false,[]⟩
def d7V:TI:=⟨.arr 32 5,32,32,[.int .u8 0,.int .u8 0,.int .u8 0,.int .u8 0,.int .u8 0,.int .u8 0,.int .u8 0,.int .u8 0,.int .u8 0,.int .u8 0,.int .u8 0,.int .u8 0,.int .u8 0,.int .u8 0,.int .u8 0,.int .u8 0,.int .u8 0,.int .u8 0,.int .u8 0,.int .u8 0,.int .u8 0,.int .u8 0,.int .u8 0,.int .u8 0,.int .u8 0,.int .u8 0,.int .u8 0,.int .u8 0,.int .u8 0,.int .u8 0,.int .u8 0,.int .u8 0],[.i .u8,.i .u8,.i .u8,.i .u8,.i .u8,.i .u8,.i .u8,.i .u8,.i .u8,.i .u8,.i .u8,.i .u8,.i .u8,.i .u8,.i .u8,.i .u8,.i .u8,.i .u8,.i .u8,.i .u8,.i .u8,.i .u8,.i .u8,.i .u8,.i .u8,.i .u8,.i .u8,.i .u8,.i .u8,.i .u8,.i .u8,.i .u8],false,[]⟩
def d7W:TI:=⟨.slice 27,1,24,[.slice none 0 0],[],false,[]⟩
def d7X:TI:=⟨.struct [(0,2),(2,2),(4,2),(6,1),(7,1)],8,112,[.slice none 0 0,.int .u64 0,.slice none 0 0,.int .u64 0,.slice none 0 0,.int .u64 0,.bool false,.int .u64 0],[],false,[]⟩
def d4X:TI:=⟨.slice 106,1,24,[.slice none 0 0],[],false,[]⟩
def d4Y:TI:=⟨.struct [(0,1),(1,1),(2,1),(3,1)],4,48,[.int .i64 0,.int .i64 0,.int .u64 0,.slice none 0 0],[],false,[]⟩
def d4Z:TI:=⟨.struct [(0,1),(1,1)],2,32,[.slice none 0 0,.int .i64 0],[],false,[]⟩
def d40:TI:=⟨.slice 9,1,24,[.slice none 0 0],[],false,[]⟩
def d41:TI:=⟨.struct [(0,1)],1,24,[.slice none 0 0],[],false,[]⟩
def d42:TI:=⟨.other,1,8,[.nilFunc],[],false,[]⟩
def d43:TI:=⟨.map 9 150,1,8,[.map none],[],false,[]⟩
def d44:TI:=⟨.struct [],0,0,[],[],false,[]⟩
def d45:TI:=⟨.int .u64,1,8,[.int .u64 0],[],false,[]⟩
def d46:TI:=⟨.ptr 183,1,8,[.pointer none],[],false,[]⟩
def d47:TI:=⟨.int .u32,1,4,[.int .u32 0],[],false,[]⟩
def d48:TI:=⟨.arr 8 165,8,32,[.int .u32 0,.int .u32 0,.int .u32 0,.int .u32 0,.int .u32 0,.int .u32 0,.int .u32 0,.int .u32 0],[.i .u32,.i .u32,.i .u32,.i .u32,.i .u32,.i .u32,.i .u32,.i .u32],false,[]⟩
def d49:TI:=⟨.ptr 144,1,8,[.pointer none],[],false,[]⟩
def d5a:TI:=⟨.other,1,16,[.nilIface],[],false,[]⟩
def d5b:TI:=⟨.arr 8 165,8,32,[.int .u32 0,.int .u32 0,.int .u32 0,.int .u32 0,.int .u32 0,.int .u32 0,.int .u32 0,.int .u32 0],[.i .u32,.i .u32,.i .u32,.i .u32,.i .u32,.i .u32,.i .u32,.i .u32],false,[]⟩
def d5c:TI:=⟨.struct [(0,8),(8,1),(9,1)],10,64,[.int .u32 0,.int .u32 0,.int .u32 0,.int .u32 0,.int .u32 0,.int .u32 0,.int .u32 0,.int .u32 0,.slice none 0 0,.int .i64 0],[],false,[]⟩
def d5d:TI:=⟨.arr 64 165,64,256,[.int .u32 0,.int .u32 0,.int .u32 0,.int .u32 0,.int .u32 0,.int .u32 0,.int .u32 0,.int .u32 0,.int .u32 0,.int .u32 0,.int .u32 0,.int .u32 0,.int .u32 0,.int .u32 0,.int .u32 0,.int .u32 0,.int .u32 0,.int .u32 0,.int .u32 0,.int .u32 0,.int .u32 0,.int .u32 0,.int .u32 0,.int .u32 0,.int .u32 0,.int .u32 0,.int .u32 0,.int .u32 0,.int .u32 0,.int .u32 0,.int .u32 0,.int .u32 0,.int .u32 0,.int .u32 0,.int .u32 0,.int .u32 0,.int .u32 0,.int .u32 0,.int .u32 0,.int .u32 0,.int .u32 0,.int .u32 0,.int .u32 0,.int .u32 0,.int .u32 0,.int .u32 0,.int .u32 0,.int .u32 0,.int .u32 0,.int .u32 0,.int .u32 0,.int .u32 0,.int .u32 0,.int .u32 0,.int .u32 0,.int .u32 0,.int .u32 0,.int .u32 0,.int .u32 0,.int .u32 0,.int .u32 0,.int .u32 0,.int .u32 0,.int .u32 0],[.i .u32,.i .u32,.i .u32,.i .u32,.i .u32,.i .u32,.i .u32,.i .u32,.i .u32,.i .u32,.i .u32,.i .u32,.i .u32,.i .u32,.i .u32,.i .u32,.i .u32,.i .u32,.i .u32,.i .u32,.i .u32,.i .u32,.i .u32,.i .u32,.i .u32,.i .u32,.i .u32,.i .u32,.i .u32,.i .u32,.i .u32,.i .u32,.i .u32,.i .u32,.i .u32,.i .u32,.i .u32,.i .u32,.i .u32,.i .u32,.i .u32,.i .u32,.i .u32,.i .u32,.i .u32,.i .u32,.i .u32,.i .u32,.i .u32,.i .u32,.i .u32,.i .u32,.i .u32,.i .u32,.i .u32,.i .u32,.i .u32,.i .u32,.i .u32,.i .u32,.i .u32,.i .u32,.i .u32,.i .u32],false,[]⟩
def d5e:TI:=⟨.ptr 186,1,8,[.pointer none],[],false,[]⟩
def d5f:TI:=⟨.struct [(0,1),(1,1)],2,2,[.int .u8 0,.int .u8 0],[.i .u8,.i .u8],false,[]⟩
def d5g:TI:=⟨.arr 16 196,32,32,[.int .u8 0,.int .u8 0,.int .u8 0,.int .u8 0,.int .u8 0,.int .u8 0,.int .u8 0,.int .u8 0,.int .u8 0,.int .u8 0,.int .u8 0,.int .u8 0,.int .u8 0,.int .u8 0,.int .u8 0,.int .u8 0,.int .u8 0,.int .u8 0,.int .u8 0,.int .u8 0,.int .u8 0,.int .u8 0,.int .u8 0,.int .u8 0,.int .u8 0,.int .u8 0,.int .u8 0,.int .u8 0,.int .u8 0,.int .u8 0,.int .u8 0,.int .u8 0],[.i .u8,.i .u8,.i .u8,.i .u8,.i .u8,.i .u8,.i .u8,.i .u8,.i .u8,.i .u8,.i .u8,.i .u8,.i .u8,.i .u8,.i .u8,.i .u8,.i .u8,.i .u8,.i .u8,.i .u8,.i .u8,.i .u8,.i .u8,.i .u8,.i .u8,.i .u8,.i .u8,.i .u8,.i .u8,.i .u8,.i .u8,.i .u8],false,[]⟩
def u3:U:= .int .i64
def u4:U:= .bool
def u5:U:= .byte
def u9:U:= .str
def u21:U:= .int .i32
def u23:U:= .int .u64
def u49:U:= .pr u9 (.pr u23 (u23))
def u22:U:= .sl u49
def u25:U:= .pr u22 (u23)
def u26:U:= .sl u5
def u27:U:= .sl u3
def u34:U:= .sl u25
def u35:U:= .sl u26
def u36:U:= .sl u23
def u37:U:= .int .i64
def u39:U:= .pr u37 (.pr u9 (.pr u23 (.pr u23 (u23))))
def u59:U:= .pr u9 (u23)
def u44:U:= .sl u59
def u46:U:= .pr u9 (.pr u23 (.pr u23 (.pr u23 (.pr u9 (u44)))))
def u70:U:= .sl u35
def u71:U:= .sl u39
def u81:U:= .arr 32 u5
def u84:U:= .sl u27
def u87:U:= .pr u25 (.pr u25 (.pr u25 (.pr u4 (u23))))
def d7Y:U:= .pr u3 (.pr u3 (.pr u23 (u26)))
def d8b:U:= .sl d7Y
def d8c:U:= .pr u27 (u3)
def d8d:U:= .sl u9
def d8e:U:=u26
def d8f:U:= .arr 0 .byte
def d8g:U:= .int .u64
def d6m:U:= .int .u32
def d8h:U:= .arr 8 d6m
def d7Z:U:= .arr 8 d6m
def d8i:U:= .pr d7Z (.pr u26 (u3))
def d8j:U:= .arr 64 d6m
def d70:U:= .pr u5 (u5)
def d8k:U:= .arr 16 d70
def TU:TypeId->Option U
 | 3=>some u3
 | 4=>some u4
 | 5=>some u5
 | 9=>some u9
 | 21=>some u21
 | 22=>some u22
 | 23=>some u23
 | 25=>some u25
 | 26=>some u26
 | 27=>some u27
 | 34=>some u34
 | 35=>some u35
 | 36=>some u36
 | 37=>some u37
 | 39=>some u39
 | 44=>some u44
 | 46=>some u46
 | 49=>some u49
 | 59=>some u59
 | 70=>some u70
 | 71=>some u71
 | 81=>some u81
 | 84=>some u84
 | 87=>some u87
 | 101=>some d8b
 | 106=>some d7Y
 | 109=>some d8c
 | 131=>some d8d
 | 144=>some d8e
 | 150=>some d8f
 | 158=>some d8g
 | 165=>some d6m
 | 166=>some d8h
 | 180=>some d7Z
 | 183=>some d8i
 | 186=>some d8j
 | 196=>some d70
 | 197=>some d8k
 | _=>none
def T:TypeId->Option TI
 | 3=>some ti3
 | 4=>some ti4
 | 5=>some ti5
 | 9=>some ti9
 | 20=>some d7C
 | 21=>some d7D
 | 22=>some d7E
 | 23=>some d7F
 | 25=>some d7G
 | 26=>some d7H
 | 27=>some d7I
 | 31=>some d7J
 | 34=>some d7K
 | 35=>some d7L
 | 36=>some d7M
 | 37=>some d7N
 | 39=>some d7O
 | 44=>some d7P
 | 46=>some d7Q
 | 49=>some d7R
 | 59=>some d7S
 | 70=>some d7T
 | 71=>some d7U
 | 81=>some d7V
 | 84=>some d7W
 | 87=>some d7X
 | 101=>some d4X
 | 106=>some d4Y
 | 109=>some d4Z
 | 131=>some d40
 | 144=>some d41
 | 148=>some d42
 | 149=>some d43
 | 150=>some d44
 | 158=>some d45
 | 160=>some d46
 | 165=>some d47
 | 166=>some d48
 | 170=>some d49
 | 177=>some d5a
 | 180=>some d5b
 | 183=>some d5c
 | 186=>some d5d
 | 192=>some d5e
 | 196=>some d5f
 | 197=>some d5g
 | _=>none
theorem d8l:TOk Tryz.prog 3 ti3:=TOk.mk' (by kernel_rfl) rfl rfl ⟨_,Tryz.underlying3,rfl⟩
theorem d8m:TOk Tryz.prog 4 ti4:=TOk.mk' (by kernel_rfl) rfl rfl ⟨_,Tryz.underlying4,rfl⟩
theorem d8n:TOk Tryz.prog 5 ti5:=TOk.mk' (by kernel_rfl) rfl rfl ⟨_,Tryz.underlying5,rfl⟩
theorem d8o:TOk Tryz.prog 9 ti9:=TOk.mk' (by kernel_rfl) rfl rfl ⟨_,Tryz.underlying9,rfl⟩
theorem d6R:TOk Tryz.prog 20 d7C:=TOk.mk' (by kernel_rfl) rfl rfl ⟨_,Tryz.underlying20,rfl⟩
theorem d6S:TOk Tryz.prog 21 d7D:=TOk.mk' (by kernel_rfl) rfl rfl ⟨_,Tryz.underlying21,rfl⟩
theorem d6T:TOk Tryz.prog 22 d7E:=TOk.mk' (by kernel_rfl) rfl rfl ⟨_,Tryz.underlying22,rfl⟩
theorem d6U:TOk Tryz.prog 23 d7F:=TOk.mk' (by kernel_rfl) rfl rfl ⟨_,Tryz.underlying23,rfl⟩
theorem d6V:TOk Tryz.prog 25 d7G:=TOk.mk' (by kernel_rfl) rfl rfl ⟨_,Tryz.underlying25,_,rfl,by kernel_rfl,by kernel_rfl⟩ (fts:=fun _=>⟨_,Tryz.underlying25,by kernel_rfl⟩)
theorem d6W:TOk Tryz.prog 26 d7H:=TOk.mk' (by kernel_rfl) rfl rfl ⟨_,Tryz.underlying26,rfl⟩
theorem d6X:TOk Tryz.prog 27 d7I:=TOk.mk' (by kernel_rfl) rfl rfl ⟨_,Tryz.underlying27,rfl⟩
theorem d6Y:TOk Tryz.prog 31 d7J:=TOk.mk' (by kernel_rfl) rfl rfl ⟨_,Tryz.underlying31,rfl⟩
theorem d6Z:TOk Tryz.prog 34 d7K:=TOk.mk' (by kernel_rfl) rfl rfl ⟨_,Tryz.underlying34,rfl⟩
theorem d60:TOk Tryz.prog 35 d7L:=TOk.mk' (by kernel_rfl) rfl rfl ⟨_,Tryz.underlying35,rfl⟩
theorem d61:TOk Tryz.prog 36 d7M:=TOk.mk' (by kernel_rfl) rfl rfl ⟨_,Tryz.underlying36,rfl⟩
theorem d62:TOk Tryz.prog 37 d7N:=TOk.mk' (by kernel_rfl) rfl rfl ⟨_,Tryz.underlying37,rfl⟩
theorem d63:TOk Tryz.prog 39 d7O:=TOk.mk' (by kernel_rfl) rfl rfl ⟨_,Tryz.underlying39,_,rfl,by kernel_rfl,by kernel_rfl⟩ (fun _=>⟨⟨20,by decide,by kernel_rfl⟩,by kernel_rfl⟩)
theorem d64:TOk Tryz.prog 44 d7P:=TOk.mk' (by kernel_rfl) rfl rfl ⟨_,Tryz.underlying44,rfl⟩
theorem d65:TOk Tryz.prog 46 d7Q:=TOk.mk' (by kernel_rfl) rfl rfl ⟨_,Tryz.underlying46,_,rfl,by kernel_rfl,by kernel_rfl⟩
theorem c5z:TOk Tryz.prog 49 d7R:=TOk.mk' (by kernel_rfl) rfl rfl ⟨_,Tryz.underlying49,_,rfl,by kernel_rfl,by kernel_rfl⟩ (fun _=>⟨⟨20,by decide,by kernel_rfl⟩,by kernel_rfl⟩)
theorem d66:TOk Tryz.prog 59 d7S:=TOk.mk' (by kernel_rfl) rfl rfl ⟨_,Tryz.underlying59,_,rfl,by kernel_rfl,by kernel_rfl⟩ (fun _=>⟨⟨20,by decide,by kernel_rfl⟩,by kernel_rfl⟩)
theorem d67:TOk Tryz.prog 70 d7T:=TOk.mk' (by kernel_rfl) rfl rfl ⟨_,Tryz.underlying70,rfl⟩
theorem d68:TOk Tryz.prog 71 d7U:=TOk.mk' (by kernel_rfl) rfl rfl ⟨_,Tryz.underlying71,rfl⟩
theorem d69:TOk Tryz.prog 81 d7V:=TOk.mk' (by kernel_rfl) rfl rfl ⟨_,Tryz.underlying81,rfl⟩ (fun _=>⟨⟨20,by decide,by kernel_rfl⟩,by kernel_rfl⟩)
theorem d7a:TOk Tryz.prog 84 d7W:=TOk.mk' (by kernel_rfl) rfl rfl ⟨_,Tryz.underlying84,rfl⟩
theorem d7b:TOk Tryz.prog 87 d7X:=TOk.mk' (by kernel_rfl) rfl rfl ⟨_,Tryz.underlying87,_,rfl,by kernel_rfl,by kernel_rfl⟩
theorem d5h:TOk Tryz.prog 101 d4X:=TOk.mk' (by kernel_rfl) rfl rfl ⟨_,Tryz.underlying101,rfl⟩
theorem d5i:TOk Tryz.prog 106 d4Y:=TOk.mk' (by kernel_rfl) rfl rfl ⟨_,Tryz.underlying106,_,rfl,by kernel_rfl,by kernel_rfl⟩
theorem d5j:TOk Tryz.prog 109 d4Z:=TOk.mk' (by kernel_rfl) rfl rfl ⟨_,Tryz.underlying109,_,rfl,by kernel_rfl,by kernel_rfl⟩
theorem d5k:TOk Tryz.prog 131 d40:=TOk.mk' (by kernel_rfl) rfl rfl ⟨_,Tryz.underlying131,rfl⟩
theorem d5l:TOk Tryz.prog 144 d41:=TOk.mk' (by kernel_rfl) rfl rfl ⟨_,Tryz.underlying144,_,rfl,by kernel_rfl,by kernel_rfl⟩
theorem d5m:TOk Tryz.prog 148 d42:=TOk.mk' (by kernel_rfl) rfl rfl ⟨_,Tryz.underlying148,rfl⟩
theorem d5n:TOk Tryz.prog 149 d43:=TOk.mk' (by kernel_rfl) rfl rfl ⟨_,Tryz.underlying149,rfl⟩
theorem d5o:TOk Tryz.prog 150 d44:=TOk.mk' (by kernel_rfl) rfl rfl ⟨_,Tryz.underlying150,_,rfl,by kernel_rfl,by kernel_rfl⟩
theorem d5p:TOk Tryz.prog 158 d45:=TOk.mk' (by kernel_rfl) rfl rfl ⟨_,Tryz.underlying158,rfl⟩
theorem d5q:TOk Tryz.prog 160 d46:=TOk.mk' (by kernel_rfl) rfl rfl ⟨_,Tryz.underlying160,rfl⟩
theorem d5r:TOk Tryz.prog 165 d47:=TOk.mk' (by kernel_rfl) rfl rfl ⟨_,Tryz.underlying165,rfl⟩
theorem d5s:TOk Tryz.prog 166 d48:=TOk.mk' (by kernel_rfl) rfl rfl ⟨_,Tryz.underlying166,rfl⟩ (fun _=>⟨⟨20,by decide,by kernel_rfl⟩,by kernel_rfl⟩)
theorem d5t:TOk Tryz.prog 170 d49:=TOk.mk' (by kernel_rfl) rfl rfl ⟨_,Tryz.underlying170,rfl⟩
theorem d5u:TOk Tryz.prog 177 d5a:=TOk.mk' (by kernel_rfl) rfl rfl ⟨_,Tryz.underlying177,rfl⟩
theorem d5v:TOk Tryz.prog 180 d5b:=TOk.mk' (by kernel_rfl) rfl rfl ⟨_,Tryz.underlying180,rfl⟩ (fun _=>⟨⟨20,by decide,by kernel_rfl⟩,by kernel_rfl⟩)
theorem d5w:TOk Tryz.prog 183 d5c:=TOk.mk' (by kernel_rfl) rfl rfl ⟨_,Tryz.underlying183,_,rfl,by kernel_rfl,by kernel_rfl⟩
theorem d5x:TOk Tryz.prog 186 d5d:=TOk.mk' (by kernel_rfl) rfl rfl ⟨_,Tryz.underlying186,rfl⟩ (fun _=>⟨⟨20,by decide,by kernel_rfl⟩,by kernel_rfl⟩)
theorem d5y:TOk Tryz.prog 192 d5e:=TOk.mk' (by kernel_rfl) rfl rfl ⟨_,Tryz.underlying192,rfl⟩
theorem d5z:TOk Tryz.prog 196 d5f:=TOk.mk' (by kernel_rfl) rfl rfl ⟨_,Tryz.underlying196,_,rfl,by kernel_rfl,by kernel_rfl⟩ (fun _=>⟨⟨20,by decide,by kernel_rfl⟩,by kernel_rfl⟩)
theorem d5A:TOk Tryz.prog 197 d5g:=TOk.mk' (by kernel_rfl) rfl rfl ⟨_,Tryz.underlying197,rfl⟩ (fun _=>⟨⟨20,by decide,by kernel_rfl⟩,by kernel_rfl⟩)
theorem L6:∀ t i,T t=some i->TOk Tryz.prog t i:=by
 intro t i h
 unfold T at h
 split at h
 ·injection h with h;subst h;exact d8l
 ·injection h with h;subst h;exact d8m
 ·injection h with h;subst h;exact d8n
 ·injection h with h;subst h;exact d8o
 ·injection h with h;subst h;exact d6R
 ·injection h with h;subst h;exact d6S
 ·injection h with h;subst h;exact d6T
 ·injection h with h;subst h;exact d6U
 ·injection h with h;subst h;exact d6V
 ·injection h with h;subst h;exact d6W
 ·injection h with h;subst h;exact d6X
 ·injection h with h;subst h;exact d6Y
 ·injection h with h;subst h;exact d6Z
 ·injection h with h;subst h;exact d60
 ·injection h with h;subst h;exact d61
 ·injection h with h;subst h;exact d62
 ·injection h with h;subst h;exact d63
 ·injection h with h;subst h;exact d64
 ·injection h with h;subst h;exact d65
 ·injection h with h;subst h;exact c5z
 ·injection h with h;subst h;exact d66
 ·injection h with h;subst h;exact d67
 ·injection h with h;subst h;exact d68
 ·injection h with h;subst h;exact d69
 ·injection h with h;subst h;exact d7a
 ·injection h with h;subst h;exact d7b
 ·injection h with h;subst h;exact d5h
 ·injection h with h;subst h;exact d5i
 ·injection h with h;subst h;exact d5j
 ·injection h with h;subst h;exact d5k
 ·injection h with h;subst h;exact d5l
 ·injection h with h;subst h;exact d5m
 ·injection h with h;subst h;exact d5n
 ·injection h with h;subst h;exact d5o
 ·injection h with h;subst h;exact d5p
 ·injection h with h;subst h;exact d5q
 ·injection h with h;subst h;exact d5r
 ·injection h with h;subst h;exact d5s
 ·injection h with h;subst h;exact d5t
 ·injection h with h;subst h;exact d5u
 ·injection h with h;subst h;exact d5v
 ·injection h with h;subst h;exact d5w
 ·injection h with h;subst h;exact d5x
 ·injection h with h;subst h;exact d5y
 ·injection h with h;subst h;exact d5z
 ·injection h with h;subst h;exact d5A
 ·cases h
end Go.Proofs.YtbipjlehhlkghaaGreatDoor.Am
