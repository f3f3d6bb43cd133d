/- Texts laid together: Decode, AmTab. No conditions. -/
import Derived.Test.YtbipjlehhlkghaaDoorKD
import Derived.Test.YtbipjlehhlkghaaDoorQAB
import Derived.Test.YtbipjlehhlkghaaDoorProg
import Derived.KernelRfl
namespace Go.Proofs.YtbipjlehhlkghaaDoor.Am
open Go Go.Proofs Go.RowKit
def D0 (a0:List UInt8):Option (Int × Int):=some (((Lib.decodeGo ⟨a0.toArray⟩).1:Nat),((Lib.decodeGo ⟨a0.toArray⟩).2:Nat))
def C2:TFn:=⟨.cons (.c (.d .str)) .nil,.nil,.cons (.c (.d (.int .i32))) (.cons (.c (.d (.int .i64))) .nil),Int × Int,fun a=>D0 a.1,fun r=>((),(r.1,(r.2,()))),.none⟩
theorem b2X {I:Nat->Nat->Prop} {w:World} (h:c1T I w):Lib.Utf8Tabs 2 3 w:=by
 refine⟨fun c hc=>(h 2 c _ (by simp [GT,hc])).1,fun i hi=>⟨?_,?_⟩⟩
 ·have:=(h 3 (2 * i) (.int .u8 (Lib.accLo i)) (by
   have h1:2 * i < 32:=by omega
   have h2:2 * i % 2=0:=by omega
   have h3:2 * i / 2=i:=by omega
   simp [GT,h1])).1
  exact this
 ·have:=(h 3 (2 * i + 1) (.int .u8 (Lib.accHi i)) (by
   have h1:2 * i + 1 < 32:=by omega
   have h2:¬ (2 * i + 1) % 2=0:=by omega
   have h3:(2 * i + 1) / 2=i:=by omega
   simp [GT,h1,h3])).1
  exact this
theorem a0M:FnT Tryd.prog 83 C2:=
 ⟨rfl,rfl,⟨trivial,⟨_,Tryd.func83,rfl,rfl⟩,fun w I F args xs hIn hgl hargs hF hp=>by
  obtain⟨a,r,rfl,hr⟩:=hp
  replace hargs:OAs I w [.c (.d (.v (.string ⟨a.1.toArray⟩)))] args.toList F:=hargs
  simp only [OAs,OAr,OCr,DVr] at hargs
  obtain⟨x,r1,F1,F2,e1,⟨rfl,rfl,_⟩,⟨rfl,rfl⟩,rfl⟩:=hargs
  have ha:args= #[.string ⟨a.1.toArray⟩]:=by
   cases args;simp only at e1;subst e1;rfl
  subst ha
  have hc:=Any.utf8_DecodeRuneInString Tryd.decode ⟨a.1.toArray⟩ w (b2X hgl)
  refine Calls.mono (show Calls Tryd.prog 83 _ _ _ from hc) fun e w' h=>?_
  obtain⟨rfl,hb⟩:=h
  refine⟨I,[.int .i32 (Lib.decodeGo ⟨a.1.toArray⟩).1,.int .i64 (Lib.decodeGo ⟨a.1.toArray⟩).2],[],[],rfl,?_⟩
  refine⟨⟨hb.os,hb.tape,hb.output,hb.size,fun k hk _=>hb.block k hk⟩,fun _ _ h=>h,fun b o hi=>World.cell?_of_block (a:=⟨b,o,none⟩) (hb.block b (hIn b o hi)),fun _ _ h=> .inl h,fun b o hi=>Nat.lt_of_lt_of_le (hIn b o hi) hb.size,?_,?_,by simp,by simp⟩
  ·have e1:(C2.spec.post (C2.args.oas a))=[]:=by
    rw [TFn.post_of rfl hr];rfl
   rw [e1]
   exact⟨rfl,rfl⟩
  ·have e1:(C2.spec.res (C2.args.oas a))=[.c (.d (.v (.int .i32 r.1))),.c (.d (.v (.int .i64 r.2)))]:=by
    rw [TFn.res_of rfl hr];rfl
   rw [e1]
   injection hr with hr
   rw [<-hr]
   simp only [OAs,OAr,OCr,DVr]
   exact⟨_,_,[],[],rfl,⟨rfl,rfl,rfl⟩,⟨_,_,[],[],rfl,⟨rfl,rfl,rfl⟩,⟨rfl,rfl⟩,rfl⟩,rfl⟩⟩⟩
end Go.Proofs.YtbipjlehhlkghaaDoor.Am
namespace Go.Proofs.YtbipjlehhlkghaaDoor.Am
open Go
def ti3:TI:=⟨.int .i64,1,8,[.int .i64 0],[],false,[]⟩
def ti4:TI:=⟨.bool,1,1,[.bool false],[],false,[]⟩
def ti5:TI:=⟨.int .u8,1,1,[.int .u8 0],[],false,[]⟩
def ti9:TI:=⟨.str,1,16,[.string ⟨#[]⟩],[],false,[]⟩
def c6N:TI:=⟨.other,1,16,[.nilIface],[],false,[]⟩
def c6O:TI:=⟨.int .i32,1,4,[.int .i32 0],[],false,[]⟩
def c6P:TI:=⟨.int .u64,1,8,[.int .u64 0],[],false,[]⟩
def c6Q:TI:=⟨.struct [(0,1),(1,1),(2,1)],3,32,[.string ⟨#[]⟩,.int .u64 0,.int .u64 0],[.s,.i .u64,.i .u64],false,[]⟩
def c6R:TI:=⟨.slice 24,1,24,[.slice none 0 0],[],false,[]⟩
def c6S:TI:=⟨.struct [(0,1),(1,1)],2,32,[.slice none 0 0,.int .u64 0],[],false,[25,22]⟩
def c6T:TI:=⟨.slice 5,1,24,[.slice none 0 0],[],false,[]⟩
def c6U:TI:=⟨.slice 35,1,24,[.slice none 0 0],[],false,[]⟩
def c6V:TI:=⟨.struct [(0,1),(1,1),(2,1),(3,1),(4,1),(5,1)],6,80,[.string ⟨#[]⟩,.int .u64 0,.int .u64 0,.int .u64 0,.string ⟨#[]⟩,.slice none 0 0],[],false,[]⟩
def c6W:TI:=⟨.slice 9,1,24,[.slice none 0 0],[],false,[]⟩
def c6X:TI:=⟨.struct [(0,1),(1,1)],2,24,[.string ⟨#[]⟩,.int .u64 0],[.s,.i .u64],false,[]⟩
def c6Y:TI:=⟨.int .i64,1,8,[.int .i64 0],[],false,[]⟩
def c6Z:TI:=⟨.struct [(0,1),(1,1),(2,1),(3,1),(4,1)],5,48,[.int .i64 0,.string ⟨#[]⟩,.int .u64 0,.int .u64 0,.int .u64 0],[.i .i64,.s,.i .u64,.i .u64,.i .u64],false,[]⟩
def c60:TI:=⟨.slice 64,1,24,[.slice none 0 0],[],false,[]⟩
def c61:TI:=⟨.struct [(0,1),(1,1),(2,1),(3,1)],4,48,[.int .i64 0,.int .i64 0,.int .u64 0,.slice none 0 0],[],false,[]⟩
def c62:TI:=⟨.slice 22,1,24,[.slice none 0 0],[],false,[]⟩
def c63:TI:=⟨.struct [(0,1)],1,24,[.slice none 0 0],[],false,[]⟩
def c64:TI:=⟨.other,1,8,[.nilFunc],[],false,[]⟩
def c65:TI:=⟨.map 9 99,1,8,[.map none],[],false,[]⟩
def c66:TI:=⟨.struct [],0,0,[],[],false,[]⟩
def c4V:TI:=⟨.int .u64,1,8,[.int .u64 0],[],false,[]⟩
def c4W:TI:=⟨.ptr 92,1,8,[.pointer none],[],false,[]⟩
def c4X:TI:=⟨.other,1,16,[.nilIface],[],false,[]⟩
def c4Y:TI:=⟨.struct [(0,1),(1,1)],2,2,[.int .u8 0,.int .u8 0],[.i .u8,.i .u8],false,[]⟩
def c4Z:TI:=⟨.arr 16 127,32,32,[.int .u8 0,.int .u8 0,.int .u8 0,.int .u8 0,.int .u8 0,.int .u8 0,.int .u8 0,.int .u8 0,.int .u8 0,.int .u8 0,.int .u8 0,.int .u8 0,.int .u8 0,.int .u8 0,.int .u8 0,.int .u8 0,.int .u8 0,.int .u8 0,.int .u8 0,.int .u8 0,.int .u8 0,.int .u8 0,.int .u8 0,.int .u8 0,.int .u8 0,.int .u8 0,.int .u8 0,.int .u8 0,.int .u8 0,.int .u8 0,.int .u8 0,.int .u8 0],[.i .u8,.i .u8,.i .u8,.i .u8,.i .u8,.i .u8,.i .u8,.i .u8,.i .u8,.i .u8,.i .u8,.i .u8,.i .u8,.i .u8,.i .u8,.i .u8,.i .u8,.i .u8,.i .u8,.i .u8,.i .u8,.i .u8,.i .u8,.i .u8,.i .u8,.i .u8,.i .u8,.i .u8,.i .u8,.i .u8,.i .u8,.i .u8],false,[]⟩
def u3:U:= .int .i64
def u4:U:= .bool
def u5:U:= .byte
def u9:U:= .str
def u21:U:= .int .i32
def u22:U:= .int .u64
def u24:U:= .pr u9 (.pr u22 (u22))
def u25:U:= .sl u24
def u27:U:= .pr u25 (u22)
def u29:U:= .sl u5
def u35:U:= .pr u9 (u22)
def u30:U:= .sl u35
def u32:U:= .pr u9 (.pr u22 (.pr u22 (.pr u22 (.pr u9 (u30)))))
def u33:U:= .sl u9
def u36:U:= .int .i64
def u40:U:= .pr u36 (.pr u9 (.pr u22 (.pr u22 (u22))))
def u64:U:= .pr u3 (.pr u3 (.pr u22 (u29)))
def u59:U:= .sl u64
def u82:U:= .sl u22
def u92:U:=u29
def u99:U:= .arr 0 .byte
def c7i:U:= .int .u64
def c67:U:= .pr u5 (u5)
def c7j:U:= .arr 16 c67
def TU:TypeId->Option U
 | 3=>some u3
 | 4=>some u4
 | 5=>some u5
 | 9=>some u9
 | 21=>some u21
 | 22=>some u22
 | 24=>some u24
 | 25=>some u25
 | 27=>some u27
 | 29=>some u29
 | 30=>some u30
 | 32=>some u32
 | 33=>some u33
 | 35=>some u35
 | 36=>some u36
 | 40=>some u40
 | 59=>some u59
 | 64=>some u64
 | 82=>some u82
 | 92=>some u92
 | 99=>some u99
 | 107=>some c7i
 | 127=>some c67
 | 128=>some c7j
 | _=>none
def T:TypeId->Option TI
 | 3=>some ti3
 | 4=>some ti4
 | 5=>some ti5
 | 9=>some ti9
 | 20=>some c6N
 | 21=>some c6O
 | 22=>some c6P
 | 24=>some c6Q
 | 25=>some c6R
 | 27=>some c6S
 | 29=>some c6T
 | 30=>some c6U
 | 32=>some c6V
 | 33=>some c6W
 | 35=>some c6X
 | 36=>some c6Y
 | 40=>some c6Z
 | 59=>some c60
 | 64=>some c61
 | 82=>some c62
 | 92=>some c63
 | 96=>some c64
 | 98=>some c65
 | 99=>some c66
 | 107=>some c4V
 | 113=>some c4W
 | 120=>some c4X
 | 127=>some c4Y
 | 128=>some c4Z
 | _=>none
theorem c7k:TOk Tryd.prog 3 ti3:=TOk.mk' (by kernel_rfl) rfl rfl ⟨_,Tryd.underlying3,rfl⟩
theorem c7l:TOk Tryd.prog 4 ti4:=TOk.mk' (by kernel_rfl) rfl rfl ⟨_,Tryd.underlying4,rfl⟩
theorem c7m:TOk Tryd.prog 5 ti5:=TOk.mk' (by kernel_rfl) rfl rfl ⟨_,Tryd.underlying5,rfl⟩
theorem c7n:TOk Tryd.prog 9 ti9:=TOk.mk' (by kernel_rfl) rfl rfl ⟨_,Tryd.underlying9,rfl⟩
theorem c57:TOk Tryd.prog 20 c6N:=TOk.mk' (by kernel_rfl) rfl rfl ⟨_,Tryd.underlying20,rfl⟩
theorem c58:TOk Tryd.prog 21 c6O:=TOk.mk' (by kernel_rfl) rfl rfl ⟨_,Tryd.underlying21,rfl⟩
theorem c59:TOk Tryd.prog 22 c6P:=TOk.mk' (by kernel_rfl) rfl rfl ⟨_,Tryd.underlying22,rfl⟩
theorem b60:TOk Tryd.prog 24 c6Q:=TOk.mk' (by kernel_rfl) rfl rfl ⟨_,Tryd.underlying24,_,rfl,by kernel_rfl,by kernel_rfl⟩ (fun _=>⟨⟨20,by decide,by kernel_rfl⟩,by kernel_rfl⟩)
theorem c6a:TOk Tryd.prog 25 c6R:=TOk.mk' (by kernel_rfl) rfl rfl ⟨_,Tryd.underlying25,rfl⟩
theorem c6b:TOk Tryd.prog 27 c6S:=TOk.mk' (by kernel_rfl) rfl rfl ⟨_,Tryd.underlying27,_,rfl,by kernel_rfl,by kernel_rfl⟩ (fts:=fun _=>⟨_,Tryd.underlying27,by kernel_rfl⟩)
theorem c6c:TOk Tryd.prog 29 c6T:=TOk.mk' (by kernel_rfl) rfl rfl ⟨_,Tryd.underlying29,rfl⟩
theorem c6d:TOk Tryd.prog 30 c6U:=TOk.mk' (by kernel_rfl) rfl rfl ⟨_,Tryd.underlying30,rfl⟩
theorem c6e:TOk Tryd.prog 32 c6V:=TOk.mk' (by kernel_rfl) rfl rfl ⟨_,Tryd.underlying32,_,rfl,by kernel_rfl,by kernel_rfl⟩
theorem c6f:TOk Tryd.prog 33 c6W:=TOk.mk' (by kernel_rfl) rfl rfl ⟨_,Tryd.underlying33,rfl⟩
theorem c6g:TOk Tryd.prog 35 c6X:=TOk.mk' (by kernel_rfl) rfl rfl ⟨_,Tryd.underlying35,_,rfl,by kernel_rfl,by kernel_rfl⟩ (fun _=>⟨⟨20,by decide,by kernel_rfl⟩,by kernel_rfl⟩)
theorem c6h:TOk Tryd.prog 36 c6Y:=TOk.mk' (by kernel_rfl) rfl rfl ⟨_,Tryd.underlying36,rfl⟩
theorem c6i:TOk Tryd.prog 40 c6Z:=TOk.mk' (by kernel_rfl) rfl rfl ⟨_,Tryd.underlying40,_,rfl,by kernel_rfl,by kernel_rfl⟩ (fun _=>⟨⟨20,by decide,by kernel_rfl⟩,by kernel_rfl⟩)
theorem c6j:TOk Tryd.prog 59 c60:=TOk.mk' (by kernel_rfl) rfl rfl ⟨_,Tryd.underlying59,rfl⟩
theorem c6k:TOk Tryd.prog 64 c61:=TOk.mk' (by kernel_rfl) rfl rfl ⟨_,Tryd.underlying64,_,rfl,by kernel_rfl,by kernel_rfl⟩
theorem c6l:TOk Tryd.prog 82 c62:=TOk.mk' (by kernel_rfl) rfl rfl ⟨_,Tryd.underlying82,rfl⟩
theorem c6m:TOk Tryd.prog 92 c63:=TOk.mk' (by kernel_rfl) rfl rfl ⟨_,Tryd.underlying92,_,rfl,by kernel_rfl,by kernel_rfl⟩
theorem c6n:TOk Tryd.prog 96 c64:=TOk.mk' (by kernel_rfl) rfl rfl ⟨_,Tryd.underlying96,rfl⟩
theorem c6o:TOk Tryd.prog 98 c65:=TOk.mk' (by kernel_rfl) rfl rfl ⟨_,Tryd.underlying98,rfl⟩
theorem c6p:TOk Tryd.prog 99 c66:=TOk.mk' (by kernel_rfl) rfl rfl ⟨_,Tryd.underlying99,_,rfl,by kernel_rfl,by kernel_rfl⟩
theorem c40:TOk Tryd.prog 107 c4V:=TOk.mk' (by kernel_rfl) rfl rfl ⟨_,Tryd.underlying107,rfl⟩
theorem c41:TOk Tryd.prog 113 c4W:=TOk.mk' (by kernel_rfl) rfl rfl ⟨_,Tryd.underlying113,rfl⟩
theorem c42:TOk Tryd.prog 120 c4X:=TOk.mk' (by kernel_rfl) rfl rfl ⟨_,Tryd.underlying120,rfl⟩
theorem c43:TOk Tryd.prog 127 c4Y:=TOk.mk' (by kernel_rfl) rfl rfl ⟨_,Tryd.underlying127,_,rfl,by kernel_rfl,by kernel_rfl⟩ (fun _=>⟨⟨20,by decide,by kernel_rfl⟩,by kernel_rfl⟩)
theorem c44:TOk Tryd.prog 128 c4Z:=TOk.mk' (by kernel_rfl) rfl rfl ⟨_,Tryd.underlying128,rfl⟩ (fun _=>⟨⟨20,by decide,by kernel_rfl⟩,by kernel_rfl⟩)
theorem R7:∀ t i,T t=some i->TOk Tryd.prog t i:=by
 intro t i h
 unfold T at h
 split at h
 ·injection h with h;subst h;exact c7k
 ·injection h with h;subst h;exact c7l
 ·injection h with h;subst h;exact c7m
 ·injection h with h;subst h;exact c7n
 ·injection h with h;subst h;exact c57
 ·injection h with h;subst h;exact c58
 ·injection h with h;subst h;exact c59
 ·injection h with h;subst h;exact b60
 ·injection h with h;subst h;exact c6a
 ·injection h with h;subst h;exact c6b
 ·injection h with h;subst h;exact c6c
 ·injection h with h;subst h;exact c6d
 ·injection h with h;subst h;exact c6e
 ·injection h with h;subst h;exact c6f
 ·injection h with h;subst h;exact c6g
 ·injection h with h;subst h;exact c6h
 ·injection h with h;subst h;exact c6i
 ·injection h with h;subst h;exact c6j
 ·injection h with h;subst h;exact c6k
 ·injection h with h;subst h;exact c6l
 ·injection h with h;subst h;exact c6m
 ·injection h with h;subst h;exact c6n
 ·injection h with h;subst h;exact c6o
 ·injection h with h;subst h;exact c6p
 ·injection h with h;subst h;exact c40
 ·injection h with h;subst h;exact c41
 ·injection h with h;subst h;exact c42
 ·injection h with h;subst h;exact c43
 ·injection h with h;subst h;exact c44
 ·cases h
end Go.Proofs.YtbipjlehhlkghaaDoor.Am
