/- Part of the proof: SlFacts, SlT, SlU, SlV, SlW, SlX. -/
import Derived.Test.YtdjmpacladhijaaGreatDoorProg
import Derived.KernelRfl
import Derived.Test.YtdjmpacladhijaaGreatDoorM3
set_option maxRecDepth 100000
set_option linter.unusedSimpArgs false
set_option linter.unusedVariables false
namespace Go.Proofs.YtdjmpacladhijaaGreatDoor
open Go Go.SL
def g0:List PV:=[.val (.string ⟨#[]⟩), .val (.string ⟨#[110,111,114,109,97,108]⟩), .val (.string ⟨#[109,117,108,116,105,112,108,121]⟩), .val (.string ⟨#[115,99,114,101,101,110]⟩), .val (.string ⟨#[111,118,101,114,108,97,121]⟩), .val (.string ⟨#[100,97,114,107,101,110]⟩), .val (.string ⟨#[108,105,103,104,116,101,110]⟩), .val (.string ⟨#[99,111,108,111,114,45,100,111,100,103,101]⟩), .val (.string ⟨#[99,111,108,111,114,45,98,117,114,110]⟩), .val (.string ⟨#[104,97,114,100,45,108,105,103,104,116]⟩), .val (.string ⟨#[115,111,102,116,45,108,105,103,104,116]⟩), .val (.string ⟨#[100,105,102,102,101,114,101,110,99,101]⟩), .val (.string ⟨#[101,120,99,108,117,115,105,111,110]⟩)]
def g1:List PV:=[.val (.string ⟨#[]⟩), .val (.int .i64 0), .val (.int .i64 0), .val (.int .i64 0), .val (.string ⟨#[99,108,101,97,114]⟩), .val (.int .i64 0), .val (.int .i64 0), .val (.int .i64 0), .val (.string ⟨#[115,114,99]⟩), .val (.int .i64 1), .val (.int .i64 0), .val (.int .i64 1), .val (.string ⟨#[100,115,116]⟩), .val (.int .i64 0), .val (.int .i64 1), .val (.int .i64 2), .val (.string ⟨#[115,114,99,45,111,118,101,114]⟩), .val (.int .i64 1), .val (.int .i64 3), .val (.int .i64 3), .val (.string ⟨#[100,115,116,45,111,118,101,114]⟩), .val (.int .i64 3), .val (.int .i64 1), .val (.int .i64 3), .val (.string ⟨#[115,114,99,45,105,110]⟩), .val (.int .i64 2), .val (.int .i64 0), .val (.int .i64 4), .val (.string ⟨#[100,115,116,45,105,110]⟩), .val (.int .i64 0), .val (.int .i64 2), .val (.int .i64 4), .val (.string ⟨#[115,114,99,45,111,117,116]⟩), .val (.int .i64 3), .val (.int .i64 0), .val (.int .i64 1), .val (.string ⟨#[100,115,116,45,111,117,116]⟩), .val (.int .i64 0), .val (.int .i64 3), .val (.int .i64 2), .val (.string ⟨#[115,114,99,45,97,116,111,112]⟩), .val (.int .i64 2), .val (.int .i64 3), .val (.int .i64 2), .val (.string ⟨#[100,115,116,45,97,116,111,112]⟩), .val (.int .i64 3), .val (.int .i64 2), .val (.int .i64 1), .val (.string ⟨#[120,111,114]⟩), .val (.int .i64 3), .val (.int .i64 3), .val (.int .i64 3)]
def a2f (g:Nat):Option (Nat × (Nat→PV)):=if g=0 then some (13,fun j=>g0.getD j .any) else if g=1 then some (52,fun j=>g1.getD j .any) else none
abbrev jt:List PV:=g0
abbrev dL:List PV:=g1
def a8O (f:Nat):Bool:=Nat.beq f 10 || Nat.beq f 28 || Nat.beq f 57 || Nat.beq f 59 || Nat.beq f 62 || Nat.beq f 105 || Nat.beq f 109 || Nat.beq f 113 || Nat.beq f 114 || Nat.beq f 116 || Nat.beq f 117 || Nat.beq f 118 || Nat.beq f 119 || Nat.beq f 120 || Nat.beq f 121 || Nat.beq f 122 || Nat.beq f 123 || Nat.beq f 124 || Nat.beq f 126 || Nat.beq f 142 || Nat.beq f 144 || Nat.beq f 147 || Nat.beq f 148 || Nat.beq f 152 || Nat.beq f 157 || Nat.beq f 158 || Nat.beq f 159 || Nat.beq f 165 || Nat.beq f 169 || Nat.beq f 170 || Nat.beq f 184 || Nat.beq f 191 || Nat.beq f 197 || Nat.beq f 2000012 || Nat.beq f 2000042 || Nat.beq f 2000050 || Nat.beq f 2000098 || Nat.beq f 2000125 || Nat.beq f 2000126 || Nat.beq f 2000127 || Nat.beq f 2000128 || Nat.beq f 1000038 || Nat.beq f 1000080 || Nat.beq f 1000088 || Nat.beq f 1000133 || Nat.beq f 1000139 || Nat.beq f 1000145 || Nat.beq f 1000151 || Nat.beq f 1000161 || Nat.beq f 1000164 || Nat.beq f 1000173 || Nat.beq f 1000178 || Nat.beq f 1000179 || Nat.beq f 1000180 || Nat.beq f 1000182 || Nat.beq f 1000183 || Nat.beq f 1000185 || Nat.beq f 1000186 || Nat.beq f 1000187 || Nat.beq f 1000189 || Nat.beq f 1000193 || Nat.beq f 1000195 || Nat.beq f 1000200 || Nat.beq f 1000201 || Nat.beq f 1000202 || Nat.beq f 1000203 || Nat.beq f 1000204 || Nat.beq f 1000205 || Nat.beq f 1000206 || Nat.beq f 1000207 || Nat.beq f 1000209 || Nat.beq f 1000210 || Nat.beq f 1000211 || Nat.beq f 1000212 || Nat.beq f 1000213 || Nat.beq f 1000214 || Nat.beq f 1000215 || Nat.beq f 1000216 || Nat.beq f 1000217 || Nat.beq f 1000218 || Nat.beq f 1000219 || Nat.beq f 1000220 || Nat.beq f 1000221 || Nat.beq f 1000222 || Nat.beq f 1000223 || Nat.beq f 1000224 || Nat.beq f 1000225 || Nat.beq f 1000226 || Nat.beq f 1000227 || Nat.beq f 1000228 || Nat.beq f 1000229 || Nat.beq f 1000230 || Nat.beq f 1000231 || Nat.beq f 1000232 || Nat.beq f 1000234 || Nat.beq f 1000235 || Nat.beq f 1000236 || Nat.beq f 1000237 || Nat.beq f 1000238 || Nat.beq f 1000239 || Nat.beq f 1000240 || Nat.beq f 1000243 || Nat.beq f 1000244 || Nat.beq f 1000245 || Nat.beq f 1000247 || Nat.beq f 1000250 || Nat.beq f 1000253 || Nat.beq f 1000254 || Nat.beq f 1000256 || Nat.beq f 1000257 || Nat.beq f 4052027 || Nat.beq f 4219025
noncomputable def Sg:Env := { P:=Tryz.prog,gl:=a2f,rcv:=a8O }
theorem SgP:Sg.P=Tryz.prog:=rfl
theorem gl0:Sg.gl 0=some (13,fun j=>g0.getD j .any):=rfl
theorem gl1:Sg.gl 1=some (52,fun j=>g1.getD j .any):=rfl
theorem dI:Sg.P.follows .mixedOrders=true:=by kernel_rfl
theorem a1t:Sg.frz 22 (.tmp 9)=false:=by kernel_rfl
theorem XZ:Sg.frz 22 (.tmp 17)=false:=by kernel_rfl
theorem ZE:Sg.frz 22 (.tmp 26)=false:=by kernel_rfl
theorem a0c:Sg.frz 22 (.tmp 45)=false:=by kernel_rfl
theorem Yq:Sg.frz 22 (.tmp 49)=false:=by kernel_rfl
theorem Zc:Sg.frz 44 (.tmp 33)=false:=by kernel_rfl
theorem VN:Sg.frz 44 (.tmp 38)=false:=by kernel_rfl
theorem WN:Sg.frz 52 (.tmp 22)=false:=by kernel_rfl
theorem XB:Sg.frz 52 (.tmp 26)=false:=by kernel_rfl
theorem Vy:Sg.frz 52 (.tmp 27)=true:=by kernel_rfl
theorem ZI:Sg.frz 52 (.tmp 44)=false:=by kernel_rfl
theorem Ue:Sg.frz 114 (.tmp 23)=false:=by kernel_rfl
theorem Ui:Sg.frz 164 (.tmp 27)=false:=by kernel_rfl
theorem RB:Sg.frz 164 (.tmp 28)=false:=by kernel_rfl
theorem Ti:Sg.frz 164 (.tmp 53)=false:=by kernel_rfl
theorem TW:Sg.frz 219 (.tmp 22)=false:=by kernel_rfl
theorem TL:Sg.frz 219 (.tmp 25)=true:=by kernel_rfl
-- 2 int64
theorem ti3:Sg.ti 3=some (1,false):=by kernel_rfl
theorem un3:Sg.P.underlying 3=some (.int .i64):=by kernel_rfl
theorem ze3:Sg.zero 3=some [.int .i64 0]:=by kernel_rfl
theorem by3:Sg.byt 3=some 8:=by kernel_rfl
-- 4 bool
theorem ti4:Sg.ti 4=some (1,false):=by kernel_rfl
theorem un4:Sg.P.underlying 4=some (.bool):=by kernel_rfl
theorem ze4:Sg.zero 4=some [.bool false]:=by kernel_rfl
theorem by4:Sg.byt 4=some 1:=by kernel_rfl
-- 5 uint8
theorem un5:Sg.P.underlying 5=some (.int .u8):=by kernel_rfl
theorem ti9:Sg.ti 9=some (1,false):=by kernel_rfl
theorem un9:Sg.P.underlying 9=some (.string):=by kernel_rfl
theorem ze9:Sg.zero 9=some [.string ⟨#[]⟩]:=by kernel_rfl
theorem a7w:Sg.ti 22=some (1,false):=by kernel_rfl
theorem a9p:Sg.P.underlying 22=some (.slice 3):=by kernel_rfl
theorem a8C:Sg.el 22=some (none,3,1,false):=by kernel_rfl
theorem a9r:Sg.ti 23=some (1,false):=by kernel_rfl
theorem a7E:Sg.P.underlying 23=some (.slice 84):=by kernel_rfl
theorem a8u:Sg.el 23=some (none,84,5,true):=by kernel_rfl
theorem a7z:Sg.ti 24=some (1,false):=by kernel_rfl
theorem a8g:Sg.P.underlying 24=some (.slice 95):=by kernel_rfl
theorem a8V:Sg.el 24=some (none,95,11,true):=by kernel_rfl
theorem a9e:Sg.ti 26=some (10,true):=by kernel_rfl
theorem a2C:Sg.fld 26 0=some (0,1,false):=by kernel_rfl
theorem a3K:Sg.fld 26 1=some (1,1,false):=by kernel_rfl
theorem a4v:Sg.fld 26 2=some (2,1,false):=by kernel_rfl
theorem a2R:Sg.fld 26 3=some (3,1,false):=by kernel_rfl
theorem a4c:Sg.fld 26 4=some (4,1,false):=by kernel_rfl
theorem a1f:Sg.fld 26 5=some (5,1,false):=by kernel_rfl
theorem a3T:Sg.fld 26 6=some (6,1,false):=by kernel_rfl
theorem a3r:Sg.fld 26 7=some (7,1,false):=by kernel_rfl
theorem a4o:Sg.fld 26 8=some (8,1,false):=by kernel_rfl
theorem a1R:Sg.fld 26 9=some (9,1,false):=by kernel_rfl
theorem a8e:Sg.ti 27=some (1,false):=by kernel_rfl
theorem a8T:Sg.P.underlying 27=some (.slice 98):=by kernel_rfl
theorem a8G:Sg.el 27=some (none,98,5,true):=by kernel_rfl
theorem a9A:Sg.ti 29=some (2,true):=by kernel_rfl
theorem a8R:Sg.zero 29=some [.int .i64 0, .slice none 0 0]:=by kernel_rfl
theorem a1q:Sg.fld 29 0=some (0,1,false):=by kernel_rfl
theorem a1U:Sg.fld 29 1=some (1,1,false):=by kernel_rfl
theorem a8S:Sg.ti 30=some (4,true):=by kernel_rfl
theorem a8K:Sg.el 30=some (some 4,3,1,false):=by kernel_rfl
theorem a7x:Sg.ti 31=some (1,false):=by kernel_rfl
theorem a9x:Sg.P.underlying 31=some (.int .u16):=by kernel_rfl
theorem a9l:Sg.zero 31=some [.int .u16 0]:=by kernel_rfl
theorem a8d:Sg.byt 31=some 2:=by kernel_rfl
-- 32 struct { Kind int;Image int;X int;Y int;Mask int;MaskX
theorem a7X:Sg.ti 33=some (12,true):=by kernel_rfl
theorem a9s:Sg.zero 33=some [.int .i64 0, .int .i64 0, .int .i64 0, .int .i64 0, .int .i64 0, .int .i64 0, .int .i64 0, .int .u16 0, .int .i64 0, .int .i64 0, .bool false, .bool false]:=by kernel_rfl
theorem a8p:Sg.bld 33=some (some [(0,1),(1,1),(2,1),(3,1),(4,1),(5,1),(6,1),(7,1),(8,1),(9,1),(10,1),(11,1)],0):=by kernel_rfl
theorem a3l:Sg.fld 33 0=some (0,1,false):=by kernel_rfl
theorem a1A:Sg.fld 33 1=some (1,1,false):=by kernel_rfl
theorem a2r:Sg.fld 33 2=some (2,1,false):=by kernel_rfl
theorem a3W:Sg.fld 33 3=some (3,1,false):=by kernel_rfl
theorem a1y:Sg.fld 33 4=some (4,1,false):=by kernel_rfl
theorem a2s:Sg.fld 33 5=some (5,1,false):=by kernel_rfl
theorem a2g:Sg.fld 33 6=some (6,1,false):=by kernel_rfl
theorem a3Z:Sg.fld 33 7=some (7,1,false):=by kernel_rfl
theorem a3H:Sg.fld 33 8=some (8,1,false):=by kernel_rfl
theorem a1S:Sg.fld 33 9=some (9,1,false):=by kernel_rfl
theorem YG:Sg.fld 33 10=some (10,1,false):=by kernel_rfl
theorem VD:Sg.fld 33 11=some (11,1,false):=by kernel_rfl
theorem a8y (a0 b0:Int) (a1 b1:Int) (a2 b2:Int) (a3 b3:Int) (a4 b4:Int) (a5 b5:Int) (a6 b6:Int) (a7 b7:Int) (a8 b8:Int) (a9 b9:Int) (a10 b10:Bool) (a11 b11:Bool):Sg.eqv 33 [.int .i64 a0, .int .i64 a1, .int .i64 a2, .int .i64 a3, .int .i64 a4, .int .i64 a5, .int .i64 a6, .int .u16 a7, .int .i64 a8, .int .i64 a9, .bool a10, .bool a11] [.int .i64 b0, .int .i64 b1, .int .i64 b2, .int .i64 b3, .int .i64 b4, .int .i64 b5, .int .i64 b6, .int .u16 b7, .int .i64 b8, .int .i64 b9, .bool b10, .bool b11]=some ((a0 == b0) && ((a1 == b1) && ((a2 == b2) && ((a3 == b3) && ((a4 == b4) && ((a5 == b5) && ((a6 == b6) && ((a7 == b7) && ((a8 == b8) && ((a9 == b9) && ((a10 == b10) && ((a11 == b11) && true)))))))))))):=by kernel_rfl
theorem a7B:Sg.byt 33=some 88:=by kernel_rfl
-- 34 struct { X0 int;Y0 int;X1 int;Y1 int }
theorem a9a:Sg.ti 35=some (4,true):=by kernel_rfl
theorem a8H:Sg.zero 35=some [.int .i64 0, .int .i64 0, .int .i64 0, .int .i64 0]:=by kernel_rfl
theorem a7J:Sg.bld 35=some (some [(0,1),(1,1),(2,1),(3,1)],0):=by kernel_rfl
theorem a2d:Sg.fld 35 0=some (0,1,false):=by kernel_rfl
theorem a3U:Sg.fld 35 1=some (1,1,false):=by kernel_rfl
theorem a3t:Sg.fld 35 2=some (2,1,false):=by kernel_rfl
theorem a3E:Sg.fld 35 3=some (3,1,false):=by kernel_rfl
theorem a9h (a0 b0:Int) (a1 b1:Int) (a2 b2:Int) (a3 b3:Int):Sg.eqv 35 [.int .i64 a0, .int .i64 a1, .int .i64 a2, .int .i64 a3] [.int .i64 b0, .int .i64 b1, .int .i64 b2, .int .i64 b3]=some ((a0 == b0) && ((a1 == b1) && ((a2 == b2) && ((a3 == b3) && true)))):=by kernel_rfl
theorem a8L:Sg.byt 35=some 32:=by kernel_rfl
-- 36 []api.Image
theorem a8v:Sg.ti 36=some (1,false):=by kernel_rfl
theorem a8a:Sg.P.underlying 36=some (.slice 49):=by kernel_rfl
theorem a8A:Sg.el 36=some (none,49,28,true):=by kernel_rfl
theorem a8k:Sg.ti 37=some (1,false):=by kernel_rfl
theorem a7O:Sg.P.underlying 37=some (.slice 33):=by kernel_rfl
theorem a8I:Sg.el 37=some (none,33,12,true):=by kernel_rfl
theorem a7A:Sg.ti 39=some (10,true):=by kernel_rfl
theorem a7t:Sg.zero 39=some [.int .i64 0, .int .i64 0, .int .i64 0, .int .i64 0, .int .i64 0, .int .i64 0, .int .i64 0, .slice none 0 0, .slice none 0 0, .slice none 0 0]:=by kernel_rfl
theorem a7S:Sg.bld 39=some (some [(0,1),(1,4),(5,1),(6,1),(7,1),(8,1),(9,1)],0):=by kernel_rfl
theorem a3F:Sg.fld 39 0=some (0,1,false):=by kernel_rfl
theorem a3z:Sg.fld 39 1=some (1,4,true):=by kernel_rfl
theorem a1p:Sg.fld 39 2=some (5,1,false):=by kernel_rfl
theorem a1F:Sg.fld 39 3=some (6,1,false):=by kernel_rfl
theorem a3P:Sg.fld 39 4=some (7,1,false):=by kernel_rfl
theorem a1m:Sg.fld 39 5=some (8,1,false):=by kernel_rfl
theorem a1d:Sg.fld 39 6=some (9,1,false):=by kernel_rfl
theorem a8N:Sg.ti 41=some (3,true):=by kernel_rfl
theorem a8s:Sg.el 41=some (some 3,31,1,false):=by kernel_rfl
theorem a7v:Sg.zero 41=some [.int .u16 0, .int .u16 0, .int .u16 0]:=by kernel_rfl
theorem a7L:Sg.bld 41=some (none,1):=by kernel_rfl
theorem a8M:Sg.ti 43=some (5,true):=by kernel_rfl
theorem a8b:Sg.zero 43=some [.int .u16 0, .int .u16 0, .int .u16 0, .int .u16 0, .int .u16 0]:=by kernel_rfl
theorem a7I:Sg.bld 43=some (some [(0,3),(3,1),(4,1)],0):=by kernel_rfl
theorem a2G:Sg.fld 43 0=some (0,3,true):=by kernel_rfl
theorem a1Q:Sg.fld 43 1=some (3,1,false):=by kernel_rfl
theorem a2o:Sg.fld 43 2=some (4,1,false):=by kernel_rfl
theorem a8w (a0 b0:Int) (a1 b1:Int) (a2 b2:Int) (a3 b3:Int) (a4 b4:Int):Sg.eqv 43 [.int .u16 a0, .int .u16 a1, .int .u16 a2, .int .u16 a3, .int .u16 a4] [.int .u16 b0, .int .u16 b1, .int .u16 b2, .int .u16 b3, .int .u16 b4]=some (((a0 == b0) && ((a1 == b1) && ((a2 == b2) && true))) && ((a3 == b3) && ((a4 == b4) && true))):=by kernel_rfl
theorem a9t:Sg.byt 43=some 10:=by kernel_rfl
-- 44 []uint16
theorem a8x:Sg.ti 44=some (1,false):=by kernel_rfl
theorem a7U:Sg.P.underlying 44=some (.slice 31):=by kernel_rfl
theorem a7W:Sg.el 44=some (none,31,1,false):=by kernel_rfl
theorem a9i:Sg.ti 46=some (4,true):=by kernel_rfl
theorem a8D:Sg.zero 46=some [.int .i64 0, .int .i64 0, .int .i64 0, .slice none 0 0]:=by kernel_rfl
theorem a7Q:Sg.bld 46=some (some [(0,1),(1,1),(2,1),(3,1)],0):=by kernel_rfl
theorem a1u:Sg.fld 46 0=some (0,1,false):=by kernel_rfl
theorem a4l:Sg.fld 46 1=some (1,1,false):=by kernel_rfl
theorem a0W:Sg.fld 46 2=some (2,1,false):=by kernel_rfl
theorem a2P:Sg.fld 46 3=some (3,1,false):=by kernel_rfl
theorem a7u:Sg.ti 47=some (20,true):=by kernel_rfl
theorem a9g:Sg.el 47=some (some 5,46,4,true):=by kernel_rfl
theorem a8X:Sg.ti 49=some (28,true):=by kernel_rfl
theorem a7Z:Sg.zero 49=some [.int .i64 0, .int .i64 0, .bool false, .int .u16 0, .int .u16 0, .int .u16 0, .int .u16 0, .int .u16 0, .int .i64 0, .int .i64 0, .int .i64 0, .slice none 0 0, .int .i64 0, .int .i64 0, .int .i64 0, .slice none 0 0, .int .i64 0, .int .i64 0, .int .i64 0, .slice none 0 0, .int .i64 0, .int .i64 0, .int .i64 0, .slice none 0 0, .int .i64 0, .int .i64 0, .int .i64 0, .slice none 0 0]:=by kernel_rfl
theorem a7y:Sg.bld 49=some (some [(0,1),(1,1),(2,1),(3,5),(8,20)],0):=by kernel_rfl
theorem a1v:Sg.fld 49 0=some (0,1,false):=by kernel_rfl
theorem a0V:Sg.fld 49 1=some (1,1,false):=by kernel_rfl
theorem a2b:Sg.fld 49 2=some (2,1,false):=by kernel_rfl
theorem a1w:Sg.fld 49 3=some (3,5,true):=by kernel_rfl
theorem a1B:Sg.fld 49 4=some (8,20,true):=by kernel_rfl
theorem a7H:Sg.byt 49=some 272:=by kernel_rfl
-- 52 []api.Pixel
theorem a7D:Sg.ti 52=some (1,false):=by kernel_rfl
theorem a8W:Sg.P.underlying 52=some (.slice 43):=by kernel_rfl
theorem a9b:Sg.el 52=some (none,43,5,true):=by kernel_rfl
theorem a7P:Sg.zero 52=some [.slice none 0 0]:=by kernel_rfl
theorem a8F:Sg.ti 58=some (1,false):=by kernel_rfl
theorem a9d:Sg.zero 58=some [.int .i64 0]:=by kernel_rfl
theorem a7V:Sg.P.underlying 76=some (.slice 81):=by kernel_rfl
theorem a7C:Sg.el 76=some (none,81,2,true):=by kernel_rfl
theorem a9w:Sg.ti 81=some (2,true):=by kernel_rfl
theorem a8i:Sg.zero 81=some [.int .i64 0, .int .i64 0]:=by kernel_rfl
theorem a9u:Sg.bld 81=some (some [(0,1),(1,1)],0):=by kernel_rfl
theorem a1Z:Sg.fld 81 0=some (0,1,false):=by kernel_rfl
theorem a2V:Sg.fld 81 1=some (1,1,false):=by kernel_rfl
theorem a8z:Sg.byt 81=some 16:=by kernel_rfl
-- 83 struct { W int;H int;Solid int;Row compositorgen.Row }
theorem a9c:Sg.ti 84=some (5,true):=by kernel_rfl
theorem a2l:Sg.fld 84 0=some (0,1,false):=by kernel_rfl
theorem a3v:Sg.fld 84 1=some (1,1,false):=by kernel_rfl
theorem a1e:Sg.fld 84 2=some (2,1,false):=by kernel_rfl
theorem a1j:Sg.fld 84 3=some (3,2,true):=by kernel_rfl
theorem a8P:Sg.ti 95=some (11,true):=by kernel_rfl
theorem a2p:Sg.fld 95 0=some (0,1,false):=by kernel_rfl
theorem a2W:Sg.fld 95 1=some (1,1,false):=by kernel_rfl
theorem a2J:Sg.fld 95 2=some (2,1,false):=by kernel_rfl
theorem a3y:Sg.fld 95 3=some (3,1,false):=by kernel_rfl
theorem a4u:Sg.fld 95 4=some (4,1,false):=by kernel_rfl
theorem a1k:Sg.fld 95 5=some (5,1,false):=by kernel_rfl
theorem a1D:Sg.fld 95 6=some (6,1,false):=by kernel_rfl
theorem a2B:Sg.fld 95 7=some (7,1,false):=by kernel_rfl
theorem a1M:Sg.fld 95 8=some (8,1,false):=by kernel_rfl
theorem a1H:Sg.fld 95 9=some (9,1,false):=by kernel_rfl
theorem Vx:Sg.fld 95 10=some (10,1,false):=by kernel_rfl
theorem a8E:Sg.ti 98=some (5,true):=by kernel_rfl
theorem a8t:Sg.el 98=some (some 5,3,1,false):=by kernel_rfl
theorem a8q:Sg.zero 98=some [.int .i64 0, .int .i64 0, .int .i64 0, .int .i64 0, .int .i64 0]:=by kernel_rfl
theorem a9m:Sg.bld 98=some (none,1):=by kernel_rfl
theorem a4U:Sg.ti 114=some (1,false):=by kernel_rfl
theorem a5e:Sg.P.underlying 114=some (.slice 35):=by kernel_rfl
theorem a5S:Sg.el 114=some (none,35,4,true):=by kernel_rfl
theorem a6l:Sg.zero 114=some [.slice none 0 0]:=by kernel_rfl
theorem a6I:Sg.P.underlying 126=some (.slice 176):=by kernel_rfl
theorem a6x:Sg.el 126=some (none,176,2,true):=by kernel_rfl
theorem a4E:Sg.el 143=some (some 5,31,1,false):=by kernel_rfl
theorem a6B:Sg.zero 143=some [.int .u16 0, .int .u16 0, .int .u16 0, .int .u16 0, .int .u16 0]:=by kernel_rfl
theorem a6O:Sg.bld 143=some (none,1):=by kernel_rfl
theorem a6M:Sg.el 144=some (none,197,18,true):=by kernel_rfl
theorem a5l:Sg.ti 155=some (1,false):=by kernel_rfl
theorem a4N:Sg.P.underlying 155=some (.slice 221):=by kernel_rfl
theorem a4F:Sg.el 155=some (none,221,14,true):=by kernel_rfl
theorem a5z:Sg.zero 157=some [.int .i64 0, .int .i64 0, .int .i64 0, .int .i64 0, .int .i64 0, .int .i64 0, .int .i64 0, .slice none 0 0, .slice none 0 0, .slice none 0 0, .int .u16 0, .slice none 0 0, .slice none 0 0]:=by kernel_rfl
theorem a5j:Sg.bld 157=some (some [(0,10),(10,1),(11,1),(12,1)],0):=by kernel_rfl
theorem ZJ:Sg.fld 157 0=some (0,10,true):=by kernel_rfl
theorem Yr:Sg.fld 157 1=some (10,1,false):=by kernel_rfl
theorem Zv:Sg.fld 157 2=some (11,1,false):=by kernel_rfl
theorem Zt:Sg.fld 157 3=some (12,1,false):=by kernel_rfl
theorem a7k:Sg.ti 164=some (1,false):=by kernel_rfl
theorem a6T:Sg.el 164=some (none,4,1,false):=by kernel_rfl
theorem a5E:Sg.zero 171=some [.int .i64 0, .int .i64 0, .int .i64 0, .int .i64 0, .int .i64 0, .int .i64 0, .int .i64 0, .slice none 0 0, .slice none 0 0, .slice none 0 0, .int .u16 0, .slice none 0 0, .slice none 0 0, .slice none 0 0, .slice none 0 0]:=by kernel_rfl
theorem a6s:Sg.bld 171=some (some [(0,10),(10,1),(11,1),(12,1),(13,1),(14,1)],0):=by kernel_rfl
theorem Yh:Sg.fld 171 0=some (0,10,true):=by kernel_rfl
theorem VJ:Sg.fld 171 1=some (10,1,false):=by kernel_rfl
theorem a0n:Sg.fld 171 2=some (11,1,false):=by kernel_rfl
theorem ZS:Sg.fld 171 3=some (12,1,false):=by kernel_rfl
theorem Yc:Sg.fld 171 4=some (13,1,false):=by kernel_rfl
theorem Zj:Sg.fld 171 5=some (14,1,false):=by kernel_rfl
theorem a6X:Sg.zero 176=some [.nilFunc, .nilFunc]:=by kernel_rfl
theorem a4W:Sg.zero 197=some [.int .i64 0, .int .i64 0, .int .u16 0, .int .u16 0, .int .u16 0, .int .u16 0, .int .u16 0, .int .u16 0, .int .u16 0, .int .u16 0, .int .u16 0, .int .u16 0, .int .u16 0, .int .u16 0, .int .u16 0, .int .u16 0, .int .u16 0, .int .u16 0]:=by kernel_rfl
theorem a5n:Sg.bld 197=some (some [(0,1),(1,1),(2,5),(7,5),(12,1),(13,5)],0):=by kernel_rfl
theorem a5Y:Sg.byt 197=some 48:=by kernel_rfl
-- 201 struct { C [3]uint16;A uint16;Own uint16;F uint16 }
theorem a4T:Sg.ti 202=some (6,true):=by kernel_rfl
theorem a6m:Sg.zero 202=some [.int .u16 0, .int .u16 0, .int .u16 0, .int .u16 0, .int .u16 0, .int .u16 0]:=by kernel_rfl
theorem a5f:Sg.bld 202=some (some [(0,3),(3,1),(4,1),(5,1)],0):=by kernel_rfl
theorem XU:Sg.fld 202 0=some (0,3,true):=by kernel_rfl
theorem Zn:Sg.fld 202 1=some (3,1,false):=by kernel_rfl
theorem VZ:Sg.fld 202 2=some (4,1,false):=by kernel_rfl
theorem Zm:Sg.fld 202 3=some (5,1,false):=by kernel_rfl
theorem a5P (a0 b0:Int) (a1 b1:Int) (a2 b2:Int) (a3 b3:Int) (a4 b4:Int) (a5 b5:Int):Sg.eqv 202 [.int .u16 a0, .int .u16 a1, .int .u16 a2, .int .u16 a3, .int .u16 a4, .int .u16 a5] [.int .u16 b0, .int .u16 b1, .int .u16 b2, .int .u16 b3, .int .u16 b4, .int .u16 b5]=some (((a0 == b0) && ((a1 == b1) && ((a2 == b2) && true))) && ((a3 == b3) && ((a4 == b4) && ((a5 == b5) && true)))):=by kernel_rfl
theorem a4Q:Sg.byt 202=some 12:=by kernel_rfl
-- 207 struct { Op api.Op;Acc api.Accum;Back api.Pixel }
theorem a6q:Sg.ti 208=some (23,true):=by kernel_rfl
theorem a6U:Sg.zero 208=some [.int .i64 0, .int .i64 0, .int .i64 0, .int .i64 0, .int .i64 0, .int .i64 0, .int .i64 0, .int .u16 0, .int .i64 0, .int .i64 0, .bool false, .bool false, .int .u16 0, .int .u16 0, .int .u16 0, .int .u16 0, .int .u16 0, .int .u16 0, .int .u16 0, .int .u16 0, .int .u16 0, .int .u16 0, .int .u16 0]:=by kernel_rfl
theorem a6t:Sg.bld 208=some (some [(0,12),(12,6),(18,5)],0):=by kernel_rfl
theorem Zo:Sg.fld 208 0=some (0,12,true):=by kernel_rfl
theorem XD:Sg.fld 208 1=some (12,6,true):=by kernel_rfl
theorem Wj:Sg.fld 208 2=some (18,5,true):=by kernel_rfl
theorem a4D:Sg.byt 208=some 112:=by kernel_rfl
-- 209 []compositorref22.level
theorem a7f:Sg.ti 209=some (1,false):=by kernel_rfl
theorem a6W:Sg.P.underlying 209=some (.slice 208):=by kernel_rfl
theorem a6r:Sg.el 209=some (none,208,23,true):=by kernel_rfl
theorem a4K:Sg.zero 211=some [.int .u16 0, .slice none 0 0]:=by kernel_rfl
theorem a6g:Sg.bld 211=some (some [(0,1),(1,1)],0):=by kernel_rfl
theorem Vz:Sg.fld 211 0=some (0,1,false):=by kernel_rfl
theorem a0z:Sg.fld 211 1=some (1,1,false):=by kernel_rfl
theorem a6E:Sg.ti 219=some (1,false):=by kernel_rfl
theorem a5s:Sg.P.underlying 219=some (.slice 202):=by kernel_rfl
theorem a5y:Sg.el 219=some (none,202,6,true):=by kernel_rfl
theorem a7l:Sg.ti 221=some (14,true):=by kernel_rfl
theorem a5I:Sg.zero 221=some [.int .i64 0, .int .i64 0, .int .i64 0, .int .i64 0, .int .i64 0, .int .i64 0, .int .i64 0, .int .u16 0, .int .i64 0, .int .i64 0, .bool false, .bool false, .slice none 0 0, .slice none 0 0]:=by kernel_rfl
theorem a6H:Sg.bld 221=some (some [(0,12),(12,1),(13,1)],0):=by kernel_rfl
theorem ZU:Sg.fld 221 0=some (0,12,true):=by kernel_rfl
theorem Zp:Sg.fld 221 1=some (12,1,false):=by kernel_rfl
theorem Ya:Sg.fld 221 2=some (13,1,false):=by kernel_rfl
theorem a6w:Sg.byt 221=some 136:=by kernel_rfl
-- 243 uint64
theorem a5B:Sg.ti 243=some (1,false):=by kernel_rfl
theorem a4X:Sg.P.underlying 243=some (.int .u64):=by kernel_rfl
theorem a5A:Sg.ti 253=some (4,true):=by kernel_rfl
theorem a6V:Sg.zero 253=some [.string ⟨#[]⟩, .int .i64 0, .int .i64 0, .int .i64 0]:=by kernel_rfl
theorem a7h:Sg.bld 253=some (some [(0,1),(1,1),(2,1),(3,1)],0):=by kernel_rfl
theorem Wt:Sg.fld 253 0=some (0,1,false):=by kernel_rfl
theorem YM:Sg.fld 253 1=some (1,1,false):=by kernel_rfl
theorem YD:Sg.fld 253 2=some (2,1,false):=by kernel_rfl
theorem Wg:Sg.fld 253 3=some (3,1,false):=by kernel_rfl
theorem a5p:Sg.el 256=some (some 13,9,1,false):=by kernel_rfl
theorem a4Z:Sg.el 263=some (some 13,253,4,true):=by kernel_rfl
theorem a4I:Sg.P.underlying 264=some (.slice 9):=by kernel_rfl
theorem a5w:Sg.el 264=some (none,9,1,false):=by kernel_rfl
theorem a5v:Sg.ti 272=some (2,true):=by kernel_rfl
theorem a5L:Sg.zero 272=some [.int .u64 0, .int .u64 0]:=by kernel_rfl
theorem a6Q:Sg.bld 272=some (some [(0,1),(1,1)],0):=by kernel_rfl
theorem WQ:Sg.fld 272 0=some (0,1,false):=by kernel_rfl
theorem Yf:Sg.fld 272 1=some (1,1,false):=by kernel_rfl
theorem a6j (a0 b0:Int) (a1 b1:Int):Sg.eqv 272 [.int .u64 a0, .int .u64 a1] [.int .u64 b0, .int .u64 b1]=some ((a0 == b0) && ((a1 == b1) && true)):=by kernel_rfl
theorem a6k:Sg.ti 274=some (5,true):=by kernel_rfl
theorem a6z:Sg.zero 274=some [.int .u64 0, .int .u64 0, .int .u64 0, .int .u64 0, .int .u64 0]:=by kernel_rfl
theorem a7m:Sg.bld 274=some (some [(0,2),(2,1),(3,1),(4,1)],0):=by kernel_rfl
theorem Zk:Sg.fld 274 0=some (0,2,true):=by kernel_rfl
theorem Zz:Sg.fld 274 1=some (2,1,false):=by kernel_rfl
theorem a0i:Sg.fld 274 2=some (3,1,false):=by kernel_rfl
theorem a0f:Sg.fld 274 3=some (4,1,false):=by kernel_rfl
theorem a5W:Sg.zero 286=some [.pointer none, .pointer none, .pointer none, .pointer none, .pointer none]:=by kernel_rfl
theorem a4L:Sg.bld 286=some (none,1):=by kernel_rfl
theorem a4M:Sg.P.underlying 287=some (.int .u32):=by kernel_rfl
theorem a6Y:Sg.P.underlying 300=some (.int .u64):=by kernel_rfl
theorem a2k (g:Nat→PV):fv 1 g=[.p (g 0)]:=rfl
theorem a3S (g:Nat→PV):fv 2 g=[.p (g 0), .p (g 1)]:=rfl
theorem a2j (g:Nat→PV):fv 3 g=[.p (g 0), .p (g 1), .p (g 2)]:=rfl
theorem a0X (g:Nat→PV):fv 4 g=[.p (g 0), .p (g 1), .p (g 2), .p (g 3)]:=rfl
theorem a3k (g:Nat→PV):fv 5 g=[.p (g 0), .p (g 1), .p (g 2), .p (g 3), .p (g 4)]:=rfl
theorem a2A (g:Nat→PV):fv 6 g=[.p (g 0), .p (g 1), .p (g 2), .p (g 3), .p (g 4), .p (g 5)]:=rfl
theorem a0x (g:Nat→PV):fv 10 g=[.p (g 0), .p (g 1), .p (g 2), .p (g 3), .p (g 4), .p (g 5), .p (g 6), .p (g 7), .p (g 8), .p (g 9)]:=rfl
theorem VM (g:Nat→PV):fv 11 g=[.p (g 0), .p (g 1), .p (g 2), .p (g 3), .p (g 4), .p (g 5), .p (g 6), .p (g 7), .p (g 8), .p (g 9), .p (g 10)]:=rfl
theorem YN (g:Nat→PV):fv 12 g=[.p (g 0), .p (g 1), .p (g 2), .p (g 3), .p (g 4), .p (g 5), .p (g 6), .p (g 7), .p (g 8), .p (g 9), .p (g 10), .p (g 11)]:=rfl
theorem WA (g:Nat→PV):fv 13 g=[.p (g 0), .p (g 1), .p (g 2), .p (g 3), .p (g 4), .p (g 5), .p (g 6), .p (g 7), .p (g 8), .p (g 9), .p (g 10), .p (g 11), .p (g 12)]:=rfl
theorem Wn (g:Nat→PV):fv 14 g=[.p (g 0), .p (g 1), .p (g 2), .p (g 3), .p (g 4), .p (g 5), .p (g 6), .p (g 7), .p (g 8), .p (g 9), .p (g 10), .p (g 11), .p (g 12), .p (g 13)]:=rfl
theorem YX (g:Nat→PV):fv 15 g=[.p (g 0), .p (g 1), .p (g 2), .p (g 3), .p (g 4), .p (g 5), .p (g 6), .p (g 7), .p (g 8), .p (g 9), .p (g 10), .p (g 11), .p (g 12), .p (g 13), .p (g 14)]:=rfl
theorem Ye (g:Nat→PV):fv 18 g=[.p (g 0), .p (g 1), .p (g 2), .p (g 3), .p (g 4), .p (g 5), .p (g 6), .p (g 7), .p (g 8), .p (g 9), .p (g 10), .p (g 11), .p (g 12), .p (g 13), .p (g 14), .p (g 15), .p (g 16), .p (g 17)]:=rfl
theorem XF (g:Nat→PV):fv 20 g=[.p (g 0), .p (g 1), .p (g 2), .p (g 3), .p (g 4), .p (g 5), .p (g 6), .p (g 7), .p (g 8), .p (g 9), .p (g 10), .p (g 11), .p (g 12), .p (g 13), .p (g 14), .p (g 15), .p (g 16), .p (g 17), .p (g 18), .p (g 19)]:=rfl
theorem a0k (g:Nat→PV):fv 23 g=[.p (g 0), .p (g 1), .p (g 2), .p (g 3), .p (g 4), .p (g 5), .p (g 6), .p (g 7), .p (g 8), .p (g 9), .p (g 10), .p (g 11), .p (g 12), .p (g 13), .p (g 14), .p (g 15), .p (g 16), .p (g 17), .p (g 18), .p (g 19), .p (g 20), .p (g 21), .p (g 22)]:=rfl
theorem a0t (g:Nat→PV):fv 28 g=[.p (g 0), .p (g 1), .p (g 2), .p (g 3), .p (g 4), .p (g 5), .p (g 6), .p (g 7), .p (g 8), .p (g 9), .p (g 10), .p (g 11), .p (g 12), .p (g 13), .p (g 14), .p (g 15), .p (g 16), .p (g 17), .p (g 18), .p (g 19), .p (g 20), .p (g 21), .p (g 22), .p (g 23), .p (g 24), .p (g 25), .p (g 26), .p (g 27)]:=rfl
theorem a0m (g:Nat→PV):fv 52 g=[.p (g 0), .p (g 1), .p (g 2), .p (g 3), .p (g 4), .p (g 5), .p (g 6), .p (g 7), .p (g 8), .p (g 9), .p (g 10), .p (g 11), .p (g 12), .p (g 13), .p (g 14), .p (g 15), .p (g 16), .p (g 17), .p (g 18), .p (g 19), .p (g 20), .p (g 21), .p (g 22), .p (g 23), .p (g 24), .p (g 25), .p (g 26), .p (g 27), .p (g 28), .p (g 29), .p (g 30), .p (g 31), .p (g 32), .p (g 33), .p (g 34), .p (g 35), .p (g 36), .p (g 37), .p (g 38), .p (g 39), .p (g 40), .p (g 41), .p (g 42), .p (g 43), .p (g 44), .p (g 45), .p (g 46), .p (g 47), .p (g 48), .p (g 49), .p (g 50), .p (g 51)]:=rfl
attribute [go_sem] gl0 gl1 a1t XZ ZE a0c Yq Zc VN WN XB Vy ZI Ue Ui RB Ti TW TL ti3 un3 ze3 by3 ti4 un4 ze4 by4 un5 ti9 un9 ze9 a7w a9p a8C a9r a7E a8u a7z a8g a8V a9e a2C a3K a4v a2R a4c a1f a3T a3r a4o a1R a8e a8T a8G a9A a8R a1q a1U a8S a8K a7x a9x a9l a8d a7X a9s a8p a3l a1A a2r a3W a1y a2s a2g a3Z a3H a1S YG VD a8y a7B a9a a8H a7J a2d a3U a3t a3E a9h a8L a8v a8a a8A a8k a7O a8I a7A a7t a7S a3F a3z a1p a1F a3P a1m a1d a8N a8s a7v a7L a8M a8b a7I a2G a1Q a2o a8w a9t a8x a7U a7W a9i a8D a7Q a1u a4l a0W a2P a7u a9g a8X a7Z a7y a1v a0V a2b a1w a1B a7H a7D a8W a9b a7P a8F a9d a7V a7C a9w a8i a9u a1Z a2V a8z a9c a2l a3v a1e a1j a8P a2p a2W a2J a3y a4u a1k a1D a2B a1M a1H Vx a8E a8t a8q a9m a4U a5e a5S a6l a6I a6x a4E a6B a6O a6M a5l a4N a4F a5z a5j ZJ Yr Zv Zt a7k a6T a5E a6s Yh VJ a0n ZS Yc Zj a6X a4W a5n a5Y a4T a6m a5f XU Zn VZ Zm a5P a4Q a6q a6U a6t Zo XD Wj a4D a7f a6W a6r a4K a6g Vz a0z a6E a5s a5y a7l a5I a6H ZU Zp Ya a6w a5B a4X a5A a6V a7h Wt YM YD Wg a5p a4Z a4I a5w a5v a5L a6Q WQ Yf a6j a6k a6z a7m Zk Zz a0i a0f a5W a4L a4M a6Y a2k a3S a2j a0X a3k a2A a0x VM YN WA Wn YX Ye XF a0k a0t a0m
end Go.Proofs.YtdjmpacladhijaaGreatDoor
namespace Go.SL
open Go
section
inductive Tr where
 | leaf
 | nil
 | br (i:Nat) (t r:Tr)
def ig (S:Env) (ops:Array Oper) (L:List Oper):Tr→St→(St→Prop)→Prop
 | .leaf,st,K=>K st
 | .nil,_,_=>True
 | .br i t r,st,K=>bj S ops [L.getD i default] st (fun s=>ig S ops L t s K)∧ig S ops L r st K
def fV:Tr→List Nat
 | .br i _ r=>i :: fV r
 | _=>[]
def jS:Tr→Nat
 | .br _ t r=>max (jS t+1) (jS r)
 | _=>0
section
variable {S:Env} {l:List Oper}
theorem JX {ops:Array Oper} {L:List Oper} {st:St} {K:St→Prop}:ig S ops L .leaf st K=K st:=rfl
theorem Pq {ops:Array Oper} {L:List Oper} {st:St} {K:St→Prop}:ig S ops L .nil st K=True:=rfl
theorem TJ {ops:Array Oper} {L:List Oper} {st:St} {K:St→Prop} {i:Nat} {t r:Tr}:ig S ops L (.br i t r) st K=(bj S ops [L.getD i default] st (fun s=>ig S ops L t s K)∧ig S ops L r st K):=rfl
end
theorem ZA {x:Oper} {r:List Oper}:(x :: r).getD 0 default=x:=rfl
theorem ZR {x:Oper} {r:List Oper} {i:Nat}:(x :: r).getD (i+1) default=r.getD i default:=rfl
attribute [go_sem] JX Pq TJ ZA ZR
end
section
def Fo (f:FuncId) (l:List SV):Option (Prop × SV) :=
 match ld l with
 | some ps=>some (True, .b (.c (.clo f ps)))
 | none=>none
def NA (S:Env) (st:St) (v:SV) (args:List BV) {K:SV→St→Prop} (_:Sl K):Prop :=
 match tA v with
 | some (f,xs)=>CallP S st f (args ++ xs) K
 | none=>False
section
variable {S:Env} {ops:Array Oper} {rest:List Oper} {st:St} {K:St→Prop} {d:Option Nat} {ty:TypeId} {pos:String} {af:Array Edge}
theorem Zg {f : FuncId} {ps : List (Nat × Nat)} {args : List BV} {K : SV → St → Prop} :
  NA S st (.b (.c (.clo f ps))) args (Sl.of K)=dY S st f (args ++ ps.map fun p => .c (.ptr p.1 p.2)) (Sl.of K):=rfl
theorem Wu {f n : Nat} {sz : Nat → Nat} {g : Nat → Nat → PV} {args : List BV} {K : SV → St → Prop} :
  NA S st (.b (.c (.p (.fn f n sz g)))) args (Sl.of K)=dY S st f (args ++ (List.range n).map fun i => .c (.ipt (sz i) (g i) 0)) (Sl.of K):=rfl
theorem TX {f : FuncId} {args : List BV} {K : SV → St → Prop} :
  NA S st (.b (.c (.p (.val (.func (.func f) #[] #[]))))) args (Sl.of K)=dY S st f args (Sl.of K):=by
 unfold NA tA;simp only [and_self,if_true,List.append_nil];rfl
theorem Kc {f : FuncId} {cap : Array Operand} : bj S ops (⟨d, .makeFunc (.func f) #[] cap, ty, pos, af, none⟩ :: rest) st K =
  rk (Fo f (cap.toList.map fun x=>(st.ev S x).strip)) (bc (cap.toList.map (st.ev S))) (Sl.of fun r=>bj S ops rest (st.set d r) K):=by
 simp only [bj,gh];rw [eP (by simp) (by simp) (by simp) (fun _=>rfl)];have e:bK S st.bx (st.ev S) (.makeFunc (.func f) #[] cap)=Fo f (cap.toList.map fun x=>(st.ev S x).strip):=by
  simp only [bK,Fo];split
  ·grind
  ·grind
 grind [Op.operands]
theorem a6d {t : Tmp} {args : Array Operand} {ts : Array TypeId} : bj S ops (⟨d, .call ⟨.value (.tmp t), args, ts⟩, ty, pos, af, none⟩ :: rest) st K =
  (((st.fr t).cond∧bc (args.toList.map (st.ev S)))∧NA S st (st.fr t).strip (args.toList.map fun x=>fS (st.ev S x)) (Sl.of fun r st'=>bj S ops rest (st'.set d r) K)):=by
 simp only [bj,gh];rw [yO (by simp [ro,bK])];simp only [Op.operands,Call.operands,fp,NA];grind [bc,St.ev]
theorem Tf:ld []=some []:=rfl
theorem OZ {id off:Nat} {r:List SV}:ld (.b (.c (.ptr id off)) :: r)=(ld r).map fun l=>(id,off) :: l:=rfl
theorem a1C {nx:Nat} {f:Nat} {ps:List (Nat × Nat)}:CV.lt nx (.clo f ps)=(ps.all fun p=>Nat.blt p.1 nx):=by simp [CV.lt]
end
def aJ (n:Nat) (x:Bx) (b:Nat→Option Bx):Nat→Option Bx:=fun i=>if i=n then some x else b i
def dH (n:Nat) (b:Nat→Option Bx):Nat→Option Bx:=fun i=>if i=n then none else b i
theorem sN {st:St} {d:Option Nat} {v:SV}:(st.set d v).bx=st.bx:=by cases d <;> rfl
theorem lq {st:St} {x:Bx}:(st.newBox x).bx=aJ st.nx x st.bx:=rfl
theorem lh {st:St} {id:Nat} {x:Bx}:(st.setBox id x).bx=aJ id x st.bx:=rfl
theorem lz {st:St} {id:Nat}:(st.delBox id).bx=dH id st.bx:=rfl
theorem a3A {st:St} {d:Option Nat} {v:SV}:(st.set d v).kf=st.kf:=by cases d <;> rfl
theorem NB {st:St} {x:Bx}:(st.newBox x).kf=st.kf:=rfl
theorem Pv {st:St} {id:Nat} {x:Bx}:(st.setBox id x).kf=st.kf:=rfl
theorem OD {st:St} {id:Nat}:(st.delBox id).kf=st.kf:=rfl
theorem a3u {n i:Nat} {x:Bx} {b:Nat→Option Bx}:aJ n x b i=if i=n then some x else b i:=rfl
theorem a1i {n i:Nat} {b:Nat→Option Bx}:dH n b i=if i=n then none else b i:=rfl
def ID (args:List BV) (bx:Nat→Option Bx) (nx:Nat) (kf:Nat→SV):St:=⟨mB args 0,bx,nx,kf⟩
def St.turn (st:St) (bx:Nat→Option Bx) (nx:Nat):St:=⟨st.fr,bx,nx,st.kf⟩
theorem a3s {args:List BV} {bx:Nat→Option Bx} {nx:Nat} {kf:Nat→SV} {s:Nat}:(ID args bx nx kf).fr s=mB args 0 s:=rfl
theorem uP {args:List BV} {bx:Nat→Option Bx} {nx:Nat} {kf:Nat→SV}:(ID args bx nx kf).bx=bx:=rfl
theorem uL {args:List BV} {bx:Nat→Option Bx} {nx:Nat} {kf:Nat→SV}:(ID args bx nx kf).nx=nx:=rfl
theorem a3G {args:List BV} {bx:Nat→Option Bx} {nx:Nat} {kf:Nat→SV}:(ID args bx nx kf).kf=kf:=rfl
theorem ZH {st:St} {bx:Nat→Option Bx} {nx:Nat} {s:Nat}:(st.turn bx nx).fr s=st.fr s:=rfl
theorem Wv {st:St} {bx:Nat→Option Bx} {nx:Nat}:(st.turn bx nx).bx=bx:=rfl
theorem Xi {st:St} {bx:Nat→Option Bx} {nx:Nat}:(st.turn bx nx).nx=nx:=rfl
theorem WY {st:St} {bx:Nat→Option Bx} {nx:Nat}:(st.turn bx nx).kf=st.kf:=rfl
def Yu (S:Env) (st:St):ResultVar→Option (Prop × BV)
 | .tmp t=>match st.fr t with
  | .b x=>some (True,x)
  | _=>none
 | .cell p t=>match fw S t st.bx (st.fr p) with
  | some (vc, .b x)=>some (vc,x)
  | _=>none
def mP (S:Env) (st:St):List ResultVar→Option (Prop × List BV)
 | []=>some (True,[])
 | r :: l=>match Yu S st r,mP S st l with
  | some (p,x),some (q,xs)=>some (p∧q,x :: xs)
  | _,_=>none
def RU:List BV→SV
 | [x] => .b x
 | l => .tup l
def Ky (S:Env) (rs:List ResultVar) (X:SV) (bx':Nat→Option Bx) (nx':Nat) (kf:Nat→SV) (st:St):Prop :=
 match mP S st rs with
 | some (p,xs)=>p∧RU xs=X∧st.bx=bx'∧st.nx=nx'∧st.kf=kf∧X.lt nx'
 | none=>False
def a2q (S:Env) (rs:List ResultVar) (X:SV) (bx':Nat→Option Bx) (nx':Nat) (kf:Nat→SV):AExit→St→Prop
 | .ret,st=>Ky S rs X bx' nx' kf st
 | .normal,st=>Ky S rs X bx' nx' kf st
 | _,_=>False
theorem Sj {S:Env} {rs:List ResultVar} {X:SV} {bx':Nat→Option Bx} {nx':Nat} {kf:Nat→SV} {st:St}:a2q S rs X bx' nx' kf .ret st=Ky S rs X bx' nx' kf st:=rfl
theorem HP {S:Env} {rs:List ResultVar} {X:SV} {bx':Nat→Option Bx} {nx':Nat} {kf:Nat→SV} {st:St}:a2q S rs X bx' nx' kf .normal st=Ky S rs X bx' nx' kf st:=rfl
section
variable {S:Env} {E:Ent} {st:St} {ρ:iN} {a:Act} {w:World}
theorem Rb {r:ResultVar} {p:Prop} {x:BV} (h:Yu S st r=some (p,x)) (hp:p) (g:Gam S E st ρ a w):∃ v,xx S.P a.tmps w r v∧di ρ (cd E st.bx ρ w) w x v:=by
 unfold Yu at h;split at h
 ·rename_i t;have hs:=g.slt t;split at h
  ·rename_i y hy;rw [hy] at hs;simp only [Option.some.injEq,Prod.mk.injEq] at h;obtain ⟨_,rfl⟩:=h;exact ⟨_,rfl,hs⟩
  grind
 ·rename_i q t;split at h
  ·rename_i vc y hl;simp only [Option.some.injEq,Prod.mk.injEq] at h;obtain ⟨rfl,rfl⟩:=h;obtain ⟨v,hr,hv,_⟩:=AM hl hp g (g.slt q);refine ⟨v, ?_,hv⟩;unfold xx tG;simp only [Instr.loadAt,Sem.run_bind] at hr ⊢;cases hq:a.tmps.getD q undef <;> simp only [hq,Instr.sureAddr,run_stuck,Result.andThen_halt,reduceCtorEq] at hr
   rename_i ad;cases ad with
   | none=>simp_all
   | some ad=>grind [asAddr]
  grind
theorem kh (g : Gam S E st ρ a w) : ∀ {rs : List ResultVar} {p : Prop} {xs : List BV},
  mP S st rs=some (p,xs)→p→∃ vs:List Value,(rs.mapM (tG a.tmps)).run S.P w = .ok vs w∧vs.length=xs.length∧∀ j,di ρ (cd E st.bx ρ w) w (xs.getD j .any) (vs.getD j undef)
 | [],p,xs,h,_=>by
  simp only [mP,Option.some.injEq,Prod.mk.injEq] at h;obtain ⟨_,rfl⟩:=h;exact ⟨[],by simp,rfl,fun j=>by simp [di,cR,bq]⟩
 | r :: rs,p,xs,h,hp=>by
  simp only [mP] at h;split at h
  ·rename_i p1 x1 p2 xs2 h1 h2;simp only [Option.some.injEq,Prod.mk.injEq] at h;obtain ⟨rfl,rfl⟩:=h;obtain ⟨v,hv,hd⟩:=Rb h1 hp.1 g;obtain ⟨vs,hvs,hl,hds⟩:=kh g h2 hp.2;refine ⟨v :: vs, ?_,by simp [hl],fun j => ?_⟩
   ·unfold xx at hv;simp_all
   ·cases j with
    | zero=>exact hd
    | succ j=>exact hds j
  grind
theorem rN {fn : Func} {xs : List BV} {vs : List Value} {ok : Nat → Prop} (hvs : (fn.results.toList.mapM (tG a.tmps)).run S.P w = .ok vs w) (hl : vs.length = xs.length)
  (hd:∀ j,di ρ ok w (xs.getD j .any) (vs.getD j undef)):∃ v,(results fn a.tmps).run S.P w = .ok v w∧bB ρ ok w (RU xs) v:=by
 refine ⟨_,lR hvs, ?_⟩
 match vs,xs,hl with
 | [],[],_=>exact ⟨#[],rfl,rfl,fun j=>by grind⟩
 | [v],[x],_=>exact hd 0
 | v :: v2 :: vs, x :: x2 :: xs, hl => exact ⟨(v :: v2 :: vs).toArray, rfl, by omega, fun j => by
   simp_all⟩
theorem wG {f : FuncId} {fn : Func} {c : Code} {rs : List ResultVar} {args : List BV} {X : SV} {bx bx' : Nat → Option Bx} {nx nx' : Nat} (hf : S.P.funcs[f]? = some fn) (hb : fn.body = some c) (hrs : fn.results.toList = rs)
  (hname : (fn.name == "runtime.NumGoroutine") = false) (hm : S.P.follows .mixedOrders = true) (hN : cX fn.ntmps c = true) (hlen : args.length ≤ fn.ntmps) (hl : ∀ x ∈ args, BV.lt nx x)
  (h:∀ kf,cw S c (a2q S rs X bx' nx' kf) (ID args bx nx kf)):lj S bx nx f args X bx' nx':=by
 subst hrs;refine ⟨⟨fn,hf,hname,by grind⟩,fun E st ρ a w vs hbx hnx g hsz hden => ?_⟩;refine calls_of_wp hf hb ?_;subst hbx;subst hnx
 let E2:Ent := { w0:=E.w0,ok0:=E.ok0,rx:=E.rx,N:=fn.ntmps,kp:=fun s=>if s % 2=0 then a.tmps.getD (s / 2) undef else E.kp (s / 2),hd:=E.hd,hn:=E.hn }
 let kf:Nat→SV:=fun s=>if s % 2=0 then st.fr (s / 2) else st.kf (s / 2)
 have g2:Gam S E2 (ID args st.bx st.nx kf) ρ { tmps:=vs ++ Array.replicate (fn.ntmps - vs.size) undef,defers:=[] } w:=by
  refine ⟨⟨rfl,g.dfr.2.1,g.dfr.2.2⟩,by grind,⟨g.frm.os,g.frm.tape,g.frm.output,g.frm.size,g.frm.block,g.frm.rxb⟩,fun s => ?_,g.wfb,g.bxs,g.new,g.inj,g.rx0,fun s => ?_,g.glb,fun s => ?_⟩
  ·simp only [ID,cN];split
   ·rename_i hs;refine hl _ ?_;grind
   ·trivial
  ·simp only [ID,cN];split
   ·rename_i hs;have e:(vs ++ Array.replicate (fn.ntmps - vs.size) undef).getD s undef=vs.getD s undef:=by
     have:s<vs.size:=by omega
     simp [this];rw [Array.getElem?_append_left this];simp [this]
    rw [e];exact hden (s - 0)
   ·trivial
  ·show (kf s).lt st.nx∧bB ρ (cd E st.bx ρ w) w (kf s) (E2.kp s);simp only [kf,E2];split
   ·exact ⟨g.wfs _,g.slt _⟩
   ·exact g.kept _
 have fin : ∀ {a' : Act} {w' : World}, nL S E2 (Ky S fn.results.toList X bx' nx' kf) a' w' → a'.defers = [] ∧ ∃ v, (results fn a'.tmps).run S.P w' = .ok v w' ∧
   ∃ v2 ρ',Ending.returned v = .returned v2∧bB ρ' (cd E bx' ρ' w') w' X v2∧X.lt nx'∧Gam S E ⟨st.fr,bx',nx',st.kf⟩ ρ' a w':=fun {a' w'} ⟨st',ρ',g',hq⟩=>by
  unfold Ky at hq;split at hq
  ·rename_i p xs hr;obtain ⟨hp,hX,hbx',hnx',hkf,hXl⟩:=hq;obtain ⟨vs2,hvs,hl2,hd⟩:=kh g' hr hp;obtain ⟨v,hv1,hv2⟩:=rN hvs hl2 hd;subst hX;subst hbx';subst hnx';refine ⟨g'.dfr.1,v,hv1,v,ρ',rfl,hv2,hXl, ?_⟩;have hk0:∀ s,(st.fr s).lt st'.nx∧bB ρ' (cd E st'.bx ρ' w') w' (st.fr s) (a.tmps.getD s undef):=fun s=>by
    have:=g'.kept (2 * s);rw [hkf] at this;have e1:2 * s % 2=0:=by omega
    have e2:2 * s / 2=s:=by omega
    simp only [kf,E2,e1,e2,if_true] at this;exact this
   have hk1:∀ s,(st.kf s).lt st'.nx∧bB ρ' (cd E st'.bx ρ' w') w' (st.kf s) (E.kp s):=fun s=>by
    have:=g'.kept (2 * s+1);rw [hkf] at this;have e1:¬ (2 * s+1) % 2=0:=by omega
    have e2:(2 * s+1) / 2=s:=by omega
    simp only [kf,E2,e1,e2,if_false] at this;exact this
   exact ⟨⟨g.dfr.1,g'.dfr.2.1,g'.dfr.2.2⟩,g.sz,⟨g'.frm.os,g'.frm.tape,g'.frm.output,g'.frm.size,g'.frm.block,g'.frm.rxb⟩,fun s=>(hk0 s).1,g'.wfb,g'.bxs,g'.new,g'.inj,g'.rx0,fun s=>(hk0 s).2,g'.glb,hk1⟩
  grind
 refine wp_mono (fB hm c hN (h kf) g2) fun e a' w' hq => ?_;cases e with
 | normal=>exact fin hq
 | ret=>exact fin hq
 | exit id=>obtain ⟨_,_,_,h⟩:=hq;exact h.elim
 | _=>exact hq.elim
theorem dS {f : FuncId} {args : List BV} {K : SV → St → Prop} {X : SV} {bx' : Nat → Option Bx} {nx' : Nat} (h : lj S st.bx st.nx f args X bx' nx') (hr : S.rcv f = true) (hw : ∀ i, nx' ≤ i → bx' i = none) (hn : st.nx ≤ nx')
  (hk:K X (st.turn bx' nx')):dY S st f args (Sl.of K) := .inl X bx' nx' h hr hw hk hn
end
def FI (rs:List ResultVar) (e sz n:Nat) (g:Nat→Nat→PV) (st:St):Prop :=
 match rs with
 | [.tmp t]=>match st.fr t with
  | .b (.c (.own id n'))=>∃ f,st.bx id=some (.arr e sz n f)∧n'=n∧∀ i,i<n→∀ j,j<sz→∃ u,f i j = .val u∧g i j = .val u
  | _=>False
 | _=>False
def Wc (rs:List ResultVar) (e sz n:Nat) (g:Nat→Nat→PV):AExit→St→Prop
 | .ret,st=>FI rs e sz n g st
 | .normal,st=>FI rs e sz n g st
 | _,_=>False
theorem TK {rs:List ResultVar} {e sz n:Nat} {g:Nat→Nat→PV} {st:St}:Wc rs e sz n g .ret st=FI rs e sz n g st:=rfl
theorem Ij {rs:List ResultVar} {e sz n:Nat} {g:Nat→Nat→PV} {st:St}:Wc rs e sz n g .normal st=FI rs e sz n g st:=rfl
theorem wY {S : Env} {f : FuncId} {fn : Func} {c : Code} {rs : List ResultVar} {args : List BV} {e sz n : Nat} {g : Nat → Nat → PV} (hf : S.P.funcs[f]? = some fn) (hb : fn.body = some c) (hrs : fn.results.toList = rs) (hname : (fn.name == "runtime.NumGoroutine") = false)
  (hm:S.P.follows .mixedOrders=true) (hN:cX fn.ntmps c=true) (hlen:args.length≤fn.ntmps) (hl:∀ x ∈ args,BV.lt 0 x) (h:cw S c (Wc rs e sz n g) (zy args)):gC S f args e sz n g:=by
 subst hrs;refine ⟨⟨fn,hf,hname,by grind⟩,fun ok w vs hok hgl hsz hden => ?_⟩;refine calls_of_wp hf hb ?_
 let E:Ent := { w0:=w,ok0:=ok,rx:=none,N:=fn.ntmps }
 have hokA:∀ b,ok b→cd E (fun _=>none) dd w b:=fun b hb=>⟨hok b hb,fun _=>hb,fun _ h=>absurd rfl h⟩
 have hk:iM ok (cd E (fun _=>none) dd w) w w:=fun b hb=>⟨hokA b hb,fun _=>rfl⟩
 have g0:Gam S E (zy args) dd { tmps:=vs ++ Array.replicate (fn.ntmps - vs.size) undef,defers:=[] } w:=by
  refine ⟨⟨rfl,Nat.zero_le _,fun _ _ h=>(by cases h)⟩,by grind,⟨rfl,rfl,rfl,Nat.le_refl _,fun _ _ _=>rfl,fun _ _ _ h=>(by cases h)⟩,fun s => ?_,fun _ _ h=>(by cases h),fun _ _ h=>(by cases h),fun _ _ _ h=>(by cases h),fun _ _ _ h=>absurd rfl h,
   fun _ _ _ h=>(by cases h),fun s => ?_,fun gg n f hg => ?_,fun s=>⟨trivial,trivial⟩⟩
  ·simp only [zy,cN];split
   ·rename_i hs;refine hl _ ?_;grind
   ·trivial
  ·simp only [zy,cN];split
   ·rename_i hs;have e:(vs ++ Array.replicate (fn.ntmps - vs.size) undef).getD s undef=vs.getD s undef:=by
     have:s<vs.size:=by omega
     simp [this];rw [Array.getElem?_append_left this];simp [this]
    rw [e];exact di.mono (nx:=0) hk (fun _ _=>rfl) (hl _ (by grind)) (hden (s - 0))
   ·trivial
  ·obtain ⟨h1,h2⟩:=hgl gg n f hg;refine ⟨hokA gg h1,fun j hj => ?_⟩;obtain ⟨x,hx,h3,hd⟩:=h2 j hj;exact ⟨x,hx,h3,bq.mono hk hd⟩
 have fin : ∀ {a' : Act} {w' : World}, nL S E (FI fn.results.toList e sz n g) a' w' → a'.defers = [] ∧ ∃ v, (results fn a'.tmps).run S.P w' = .ok v w' ∧
   ∃ v2 xs,Ending.returned v = .returned v2∧RowKit.Below w.heap.size w w'∧0<sz∧w'.ownsRow w.heap.size e sz v2 n xs∧(∀ x ∈ xs,x.oneCell'=true) ∧
    ∀ i,i<n→∀ j,j<sz→bq (fun _=>False) w' (g i j) (xs.getD (i * sz+j) undef):=fun {a' w'} ⟨st',ρ',g',hq⟩=>by
  unfold FI at hq;split at hq
  ·rename_i t hrs;split at hq
   ·rename_i id n' hfr;obtain ⟨f2,hbx,rfl,hgf⟩:=hq;have hs:=g'.slt t;rw [hfr] at hs;obtain ⟨A,m,cp,hr,h1,h2,h3,hu⟩:=hs;obtain ⟨h0,xs,hown,hone,hd⟩:=g'.bxs id _ hbx;have hmn:m=n':=by
     rcases hown.2 with ⟨e1,e2⟩|⟨b,cap,cur,e1,_⟩
     ·grind
     ·grind
    subst hmn;have hv:a'.tmps.getD t undef=ρ' id:=by rw [hu,hr]
    have hres:(fn.results.toList.mapM (tG a'.tmps)).run S.P w' = .ok [ρ' id] w':=by rw [hrs,← hv];rfl
    refine ⟨g'.dfr.1,ρ' id,lR hres,ρ' id,xs,rfl,⟨g'.frm.os,g'.frm.tape,g'.frm.output,g'.frm.size,fun k hk=>g'.frm.block k hk (fun _ _ h=>by cases h)⟩,h0,⟨hown.1, ?_⟩,hone,fun i hi j hj => ?_⟩
    ·rcases hown.2 with h|⟨b,cap,cur,e1,e2,e3⟩
     ·grind
     ·refine .inr ⟨b,cap,cur,e1, ?_,e3⟩;rcases (g'.new id _ b hbx (by rw [e1];rfl)).2 with h|⟨_,_,_,h,_⟩
      ·exact h
      ·cases h
    grind [bq,undef,cd]
   grind
  grind
 refine wp_mono (fB hm c hN h g0) fun e a' w' hq => ?_;cases e with
 | normal=>exact fin hq
 | ret=>exact fin hq
 | exit id=>obtain ⟨_,_,_,h⟩:=hq;exact h.elim
 | _=>exact hq.elim
theorem Ow {S : Env} {st : St} {f : FuncId} {args : List BV} {K : SV → St → Prop} {e sz n : Nat} {g : Nat → Nat → PV} (h : gC S f args e sz n g) (hk : K (.b (.c (.own st.nx n))) (st.newBox (.arr e sz n g)))
  (hr:S.rcv (f+2000000)=true:=by rfl) (hl:iy args:=by simp (maxSteps:=999999)(disch:=omega) only [go_sem]) (ha:args.map (gq st.bx)=args:=by simp (maxSteps:=999999)(disch:=omega) only [go_sem]):dY S st f args (Sl.of K) := .own args e sz n g h (by rw [ha];exact ik _) (bN hl) hr hk
def wQ (bx:Nat→Option Bx) (id off:Nat):Option (Nat × (Nat→PV)) :=
 match bx id with
 | some (.fix cs)=>if off≤cs.length then some (cs.length - off,fun j=>(iV bx (cs.getD (off+j) .any)).toP) else none
 | _=>none
def Gq (bx:Nat→Option Bx) (p:Nat × Nat):Nat × (Nat→PV):=(wQ bx p.1 p.2).getD (0,fun _ => .any)
def NU (bx:Nat→Option Bx):CV→CV
 | .ptr id off=>match wQ bx id off with
  | some (n,g) => .ipt n g 0
  | none => .ptr id off
 | .clo f ps=>if ps.all (fun p=>(wQ bx p.1 p.2).isSome)=true then .p (.fn f ps.length (fun i=>(Gq bx (ps.getD i (0,0))).1) (fun i=>(Gq bx (ps.getD i (0,0))).2)) else .clo f ps
 | x=>iV bx x
def Co (bx:Nat→Option Bx):BV→BV
 | .c x => .c (NU bx x)
 | .agg cs => .agg (cs.map (NU bx))
def LA (S:Env) (rs:List ResultVar) (R:SV→Prop) (st:St):Prop :=
 match mP S st rs with
 | some (p,xs)=>p∧(∀ x ∈ xs.map (Co st.bx),BV.lt 0 x)∧R (RU (xs.map (Co st.bx)))
 | none=>False
def Te (S:Env) (rs:List ResultVar) (R:SV→Prop):AExit→St→Prop
 | .ret,st=>LA S rs R st
 | .normal,st=>LA S rs R st
 | _,_=>False
theorem NQ {S:Env} {rs:List ResultVar} {R:SV→Prop} {st:St}:Te S rs R .ret st=LA S rs R st:=rfl
theorem Gf {S:Env} {rs:List ResultVar} {R:SV→Prop} {st:St}:Te S rs R .normal st=LA S rs R st:=rfl
section
variable {S:Env} {E:Ent} {st:St} {ρ:iN} {a:Act} {w:World}
theorem QJ {x:CV} {u:Value} {ok:Nat→Prop} (h:cR ρ ok w x u):bq ok w x.toP u:=by
 cases x with
 | p x=>exact h
 | _=>trivial
theorem Bn {id off n : Nat} {g : Nat → PV} {u : Value} {ok : Nat → Prop} (G : Gam S E st ρ a w) (hrx : E.rx = none) (hok : ∀ b, cd E st.bx ρ w b → ok b) (hnew : ∀ b, b < w.heap.size → E.w0.heap.size ≤ b → ok b)
  (ho:wQ st.bx id off=some (n,g)) (h:∃ b o,ρ id = .pointer (some ⟨b,o,none⟩)∧u = .pointer (some ⟨b,o+off,none⟩)) :
  ∃ b o,u = .pointer (some ⟨b,o,none⟩)∧ok b∧∀ j,j<n→∃ x,w.cell? ⟨b,o+j,none⟩=some x∧x.oneCell'=true∧bq ok w (g j) x:=by
 unfold wQ at ho;split at ho
 ·rename_i cs hb;split at ho
  ·rename_i hoff;simp only [Option.some.injEq,Prod.mk.injEq] at ho;obtain ⟨rfl,rfl⟩:=ho;obtain ⟨b,o,hr,hu⟩:=h;obtain ⟨b2,o2,cells,t,hv,hh,hs,h1,hd⟩:=G.bxs id _ hb;rw [hr] at hv;simp only [Value.pointer.injEq,Option.some.injEq,Addr.mk.injEq,and_true] at hv;obtain ⟨rfl,rfl⟩:=hv;have hge:E.w0.heap.size≤b:=by
    rcases (G.new id _ b hb (by rw [hr];rfl)).2 with h|⟨o3,cs3,_,_,e⟩
    ·exact h
    ·grind
   refine ⟨b,o+off,hu,hnew b (cm hh) hge,fun j hj=>⟨cells.getD (o+off+j) undef,cr hh (by omega), ?_, ?_⟩⟩
   ·rw [Nat.add_assoc];exact h1 _ (by omega)
   ·have:=hd (off+j);rw [← Nat.add_assoc] at this;exact QJ (sG G hok hnew this)
  ·cases ho
 ·cases ho
theorem Hl {x : CV} {u : Value} {ok : Nat → Prop} (G : Gam S E st ρ a w) (hrx : E.rx = none) (hok : ∀ b, cd E st.bx ρ w b → ok b) (hnew : ∀ b, b < w.heap.size → E.w0.heap.size ≤ b → ok b)
  (h:cR ρ (cd E st.bx ρ w) w x u):cR ρ ok w (NU st.bx x) u:=by
 unfold NU;split
 ·split
  ·rename_i id off n g ho;obtain ⟨b,o,h1,h2,h3⟩:=Bn G hrx hok hnew ho h;exact ⟨b,o,h1,h2,h3⟩
  ·exact h
 ·rename_i f ps;split
  ·rename_i hall;obtain ⟨vs,hu,hs,hc⟩:=h;refine ⟨vs,hu,hs,fun i hi => ?_⟩;have hm:ps.getD i (0,0) ∈ ps:=by rw [List.getD_eq_getElem?_getD,List.getElem?_eq_getElem hi];exact List.getElem_mem hi
   have hq:=List.all_eq_true.1 hall _ hm;obtain ⟨q,hq⟩:=Option.isSome_iff_exists.1 hq;have:=Bn (n:=q.1) (g:=q.2) G hrx hok hnew hq (hc i hi);grind [Gq]
  ·exact h
 grind [sG]
theorem Sb {x : BV} {u : Value} {ok : Nat → Prop} (G : Gam S E st ρ a w) (hrx : E.rx = none) (hok : ∀ b, cd E st.bx ρ w b → ok b) (hnew : ∀ b, b < w.heap.size → E.w0.heap.size ≤ b → ok b)
  (h:di ρ (cd E st.bx ρ w) w x u):di ρ ok w (Co st.bx x) u:=by
 cases x with
 | c x=>exact Hl G hrx hok hnew h
 | agg cs =>
  obtain ⟨us,rfl,hs,h1,hd⟩:=h;refine ⟨us,rfl,by simp [hs],h1,fun j => ?_⟩;by_cases hj:j<cs.length
  ·grind [NU,Hl]
  ·rw [List.getD_eq_getElem?_getD,List.getElem?_eq_none (by simp;omega)];trivial
theorem vq {f : FuncId} {fn : Func} {c : Code} {rs : List ResultVar} {args : List BV} {R : SV → Prop} (hf : S.P.funcs[f]? = some fn) (hb : fn.body = some c) (hrs : fn.results.toList = rs) (hname : (fn.name == "runtime.NumGoroutine") = false)
  (hm:S.P.follows .mixedOrders=true) (hN:cX fn.ntmps c=true) (hlen:args.length≤fn.ntmps) (hl:∀ x ∈ args,BV.lt 0 x) (h:cw S c (Te S rs R) (zy args)):aB S f args R:=by
 subst hrs;refine ⟨⟨fn,hf,hname,by grind⟩,fun ok w vs hok hgl hsz hden => ?_⟩;refine calls_of_wp hf hb ?_
 let E:Ent := { w0:=w,ok0:=ok,rx:=none,N:=fn.ntmps }
 have hokA:∀ b,ok b→cd E (fun _=>none) dd w b:=fun b hb=>⟨hok b hb,fun _=>hb,fun _ h=>absurd rfl h⟩
 have hk:iM ok (cd E (fun _=>none) dd w) w w:=fun b hb=>⟨hokA b hb,fun _=>rfl⟩
 have g:Gam S E (zy args) dd { tmps:=vs ++ Array.replicate (fn.ntmps - vs.size) undef,defers:=[] } w:=by
  refine ⟨⟨rfl,Nat.zero_le _,fun _ _ h=>(by cases h)⟩,by grind,⟨rfl,rfl,rfl,Nat.le_refl _,fun _ _ _=>rfl,fun _ _ _ h=>(by cases h)⟩,fun s => ?_,fun _ _ h=>(by cases h),fun _ _ h=>(by cases h),fun _ _ _ h=>(by cases h),fun _ _ _ h=>absurd rfl h,
   fun _ _ _ h=>(by cases h),fun s => ?_,fun gg n f hg => ?_,fun s=>⟨trivial,trivial⟩⟩
  ·simp only [zy,cN];split
   ·rename_i hs;refine hl _ ?_;grind
   ·trivial
  ·simp only [zy,cN];split
   ·rename_i hs;have e:(vs ++ Array.replicate (fn.ntmps - vs.size) undef).getD s undef=vs.getD s undef:=by
     have:s<vs.size:=by omega
     simp [this];rw [Array.getElem?_append_left this];simp [this]
    rw [e];exact di.mono (nx:=0) hk (fun _ _=>rfl) (hl _ (by grind)) (hden (s - 0))
   ·trivial
  ·obtain ⟨h1,h2⟩:=hgl gg n f hg;refine ⟨hokA gg h1,fun j hj => ?_⟩;obtain ⟨x,hx,h3,hd⟩:=h2 j hj;exact ⟨x,hx,h3,bq.mono hk hd⟩
 have fin : ∀ {a' : Act} {w' : World}, nL S E (LA S fn.results.toList R) a' w' → a'.defers = [] ∧ ∃ v, (results fn a'.tmps).run S.P w' = .ok v w' ∧
   ∃ v2 r,Ending.returned v = .returned v2∧R r∧SV.lt 0 r∧RowKit.Below w.heap.size w w'∧bB dd (RK ok w w') w' r v2:=fun {a' w'} ⟨st',ρ',g',hq⟩=>by
  unfold LA at hq;split at hq
  ·rename_i p xs hr;obtain ⟨hp,hl2,hR⟩:=hq;obtain ⟨vs2,hvs,hlv,hd⟩:=kh g' hr hp;have hd2:∀ j,di dd (RK ok w w') w' ((xs.map (Co st'.bx)).getD j .any) (vs2.getD j undef):=fun j=>by
    by_cases hj:j<xs.length
    ·have e:(xs.map (Co st'.bx)).getD j .any=Co st'.bx (xs.getD j .any):=by simp [List.getD_eq_getElem?_getD,hj]
     have hm:(xs.map (Co st'.bx)).getD j .any ∈ xs.map (Co st'.bx):=by rw [List.getD_eq_getElem?_getD,List.getElem?_eq_getElem (by grind)];exact List.getElem_mem _
     refine gO (ρ:=ρ') (hl2 _ hm) ?_;rw [e];exact Sb g' rfl (fun b hb=>⟨hb.1,hb.2.1⟩) (fun b h1 h2=>⟨h1,fun h3=>by grind⟩) (hd j)
    ·rw [List.getD_eq_getElem?_getD,List.getElem?_eq_none (by grind)];trivial
   obtain ⟨v,hv1,hv2⟩:=rN hvs (by grind) hd2;refine ⟨g'.dfr.1,v,hv1,v,_,rfl,hR, ?_,⟨g'.frm.os,g'.frm.tape,g'.frm.output,g'.frm.size,fun k hk=>g'.frm.block k hk (fun _ _ h=>by cases h)⟩,hv2⟩;generalize xs.map (Co st'.bx)=l at hl2
   match l,hl2 with
   | [],_=>exact fun x hx=>by simp at hx
   | [x],hl2=>exact hl2 x (List.mem_cons_self ..)
   | x :: y :: l,hl2=>exact hl2
  grind
 refine wp_mono (fB hm c hN h g) fun e a' w' hq => ?_;cases e with
 | normal=>exact fin hq
 | ret=>exact fin hq
 | exit id=>obtain ⟨_,_,_,h⟩:=hq;exact h.elim
 | _=>exact hq.elim
end
attribute [go_sem ↓] Kc a6d
attribute [go_sem] Zg Wu TX Fo Tf OZ a1C List.all_cons List.all_nil a3u a1i a3s uP uL ZH Wv Xi Sj HP Ky mP Yu RU a3A NB Pv OD a3G WY NQ Gf LA TK Ij FI Co NU wQ Gq
end
section
def AL (o:Oper):Bool:=o.guard.isNone && match o.op with
 | .alloc _=>true
 | .box _ _=>true
 | .makeSlice _ _ _=>true
 | _=>false
def EW (o:Oper):Bool:=o.guard.isNone && o.dst.isNone && match o.op with
 | .store _ _ _=>true
 | _=>false
def zf (ops:Array Oper) (x y:Oper):Bool:=(match y.dst with|some d => !(cc ops x).contains d|none=>true) && EW x && AL y
section
variable {S:Env} {ops:Array Oper} {st s1 s2 s':St}
theorem SZ {o:Oper} (ha:AL o=true) (h:Ex S ops st o s'):∃ (z:Option Bx) (r:SV),s'=(st.newBoxO z).set o.dst r∧∀ st2:St,st2.fr=st.fr→st2.nx=st.nx→Ex S ops st2 o ((st2.newBoxO z).set o.dst r):=by
 simp only [AL,Bool.and_eq_true,Option.isNone_iff_eq_none] at ha;obtain ⟨hg,ha⟩:=ha;have hev:∀ st2:St,st2.fr=st.fr→st2.ev S=st.ev S:=fun st2 hf=>by
  funext x;simp_all [St.ev]
 unfold Ex gh at h;rw [hg] at h;simp only [lO] at h;split at ha
 ·rename_i t ho;rw [ho] at h;simp only [show ro S st.bx (st.ev S) (.alloc t)=none from rfl,fp] at h;split at h
  ·rename_i z hz;refine ⟨some _,_,h.2.symm,fun st2 hf hn => ?_⟩;unfold Ex gh;rw [hg];simp only [lO,ho,show ro S st2.bx (st2.ev S) (.alloc t)=none from rfl,fp,hev st2 hf,hn,hz];exact ⟨h.1,rfl⟩
  grind
 ·rename_i t x ho;rw [ho] at h;simp only [show ro S st.bx (st.ev S) (.box t x)=none from rfl,fp] at h;split at h
  ·rename_i v hz;refine ⟨some _,_,h.2.2.symm,fun st2 hf hn => ?_⟩;unfold Ex gh;rw [hg];simp only [lO,ho,show ro S st2.bx (st2.ev S) (.box t x)=none from rfl,fp,hev st2 hf,hn,hz];exact ⟨h.1,h.2.1,rfl⟩
  grind
 ·rename_i t l c ho;rw [ho] at h;simp only [show ro S st.bx (st.ev S) (.makeSlice t l c)=none from rfl,fp] at h;split at h
  ·rename_i q1 q2 q3;split at h
   ·rename_i q4 q5;refine ⟨_,_,h.2.2.symm,fun st2 hf hn => ?_⟩;unfold Ex gh;rw [hg];simp only [lO,ho,show ro S st2.bx (st2.ev S) (.makeSlice t l c)=none from rfl,fp,hev st2 hf,hn,q1,q2,q3,q4,q5];exact ⟨h.1,h.2.1,trivial⟩
   grind
  grind
 ·cases ha
theorem TT {o:Oper} (ha:EW o=true) (h:Ex S ops st o s'):∃ id b b',st.bx id=some b∧s'=st.setBox id b'∧∀ st2:St,(∀ t ∈ cc ops o,st.fr t=st2.fr t)→st2.bx id=some b→Ex S ops st2 o (st2.setBox id b'):=by
 simp only [EW,Bool.and_eq_true,Option.isNone_iff_eq_none] at ha;obtain ⟨⟨hg,hd⟩,ha⟩:=ha;split at ha
 ·rename_i t p v ho;have hev:∀ st2:St,(∀ t ∈ cc ops o,st.fr t=st2.fr t)→st2.ev S p=st.ev S p∧st2.ev S v=st.ev S v:=fun st2 hf=>by
   have:=fD (S:=S) hf;grind [Op.operands]
  unfold Ex gh at h;rw [hg] at h;simp only [lO,hd,ho,show ro S st.bx (st.ev S) (.store t p v)=none from rfl] at h;obtain ⟨hcond,h⟩:=h;simp only [fp] at h;split at h
  ·rename_i id off w sz ag q1 q2 q3;split at h
   ·rename_i cs hb;refine ⟨id,_,_,hb,h.2.symm,fun st2 hf hb2 => ?_⟩;obtain ⟨e1,e2⟩:=hev st2 hf;unfold Ex gh;rw [hg];simp only [lO,hd,ho,show ro S st2.bx (st2.ev S) (.store t p v)=none from rfl];refine ⟨?_, ?_⟩
    ·grind [Op.operands]
    ·simp only [fp,e1,e2,q1,q2,q3,hb2];exact ⟨h.1,rfl⟩
   grind
  ·rename_i id s i off w sz ag q1 q2 q3;split at h
   ·rename_i e s' n f hb;refine ⟨id,_,_,hb,h.2.symm,fun st2 hf hb2 => ?_⟩;obtain ⟨e1,e2⟩:=hev st2 hf;unfold Ex gh;rw [hg];simp only [lO,hd,ho,show ro S st2.bx (st2.ev S) (.store t p v)=none from rfl];refine ⟨?_, ?_⟩
    ·grind [Op.operands]
    ·simp only [fp,e1,e2,q1,q2,q3,hb2];exact ⟨h.1,rfl⟩
   grind
  grind
 ·cases ha
theorem pg {lb:Nat} {x y:Oper} (hi:zf ops x y=true) (w:jB lb st) (h1:Ex S ops st x s1) (h2:Ex S ops s1 y s2):∃ s3,Ex S ops st y s3∧Ex S ops s3 x s2:=by
 simp only [zf,Bool.and_eq_true] at hi;obtain ⟨⟨hyx,hx⟩,hy⟩:=hi;obtain ⟨id,b,b',hb,rfl,k1⟩:=TT hx h1;obtain ⟨z,r,rfl,k2⟩:=SZ hy h2;have hid:id≠st.nx:=fun e=>by
  have:=w.1 id (by omega);grind
 refine ⟨_,k2 st rfl rfl, ?_⟩
 have:=k1 ((st.newBoxO z).set y.dst r) (fun t ht=>by
  have:=iG (fr:=(st.newBoxO z).fr) (kf:=st.kf) (nx':=0) (bx':=st.bx) (bx:=(st.newBoxO z).bx) (nx:=(st.newBoxO z).nx) (d:=y.dst) (v:=r) hyx t ht
  exact this.symm) (by grind [St.newBoxO,eR])
 have e:(((st.newBoxO z).set y.dst r).setBox id b')=((st.setBox id b').newBoxO z).set y.dst r:=by
  rw [dO,dO];simp only [St.setBox,St.newBoxO,St.mk.injEq,true_and,and_true];funext j;by_cases c1:j=id
  ·grind
  ·grind
 grind
end
def qN (rcv:Nat→Bool) (ops:Array Oper) (m:Nat→Nat) (listed:Array Bool) (p:Nat):Bool :=
 match ops[p]? with
 | none=>false
 | some x=>(List.range ops.size).all fun i=>listed.getD i true || Nat.beq i p || ((m i).testBit p && Nat.blt p i) || (match ops[i]? with
  | some o=>yv rcv ops x o || wa rcv ops x o || zf ops x o
  | none=>false)
def oE (ops:Array Oper):Bool:=(List.range ops.size).all fun i=>match ops[i]? with
 | none=>false
 | some o=>o.after.all fun e => !Region.binds .any e || Nat.blt e.on i
section
variable {S:Env} {ops:Array Oper} {st:St}
theorem qn {listed:Array Bool} {i:Nat} (hi:i<listed.size) (k:Nat) (b:Bool):(listed.setIfInBounds i true).getD k b=if k=i then true else listed.getD k b:=by
 simp only [Array.getD_eq_getD_getElem?,Array.getElem?_setIfInBounds];grind
theorem tX (h:oE ops=true):∀ i o,ops[i]?=some o→∀ e ∈ o.after,Region.binds .any e=true→e.on<i:=fun i o ho e he hb=>by
 have hlt:i<ops.size:=by
  rcases Nat.lt_or_ge i ops.size with h|h
  ·exact h
  ·grind
 have:=List.all_eq_true.1 h i (List.mem_range.2 hlt);rw [ho] at this;obtain ⟨k,hk,rfl⟩:=Array.mem_iff_getElem.1 he;have:=(Array.all_eq_true.1 this) k hk;simp_all
theorem gB {listed:Array Bool} {i:Nat} (hs:listed.size=ops.size) (h:i ∈ Region.ready .any ops listed):i<ops.size:=by grind [de]
theorem En {listed : Array Bool} {i : Nat} (hs : listed.size = ops.size) (hed : ∀ i o, ops[i]? = some o → ∀ e ∈ o.after, Region.binds .any e = true → e.on < i) (h : i ∈ Region.ready .any ops listed) {o : Oper} (ho : ops[i]? = some o) :
  ∀ e ∈ o.after,Region.binds .any e=true→mw listed e.on:=fun e he hb=>by
 grind [gB,mw,de]
theorem jW {listed:Array Bool} {i:Nat} (hs:listed.size=ops.size) (hed:∀ i o,ops[i]?=some o→∀ e ∈ o.after,Region.binds .any e=true→e.on<i) (hcl:iv ops listed) (h:i ∈ Region.ready .any ops listed):iv ops (listed.setIfInBounds i true):=fun k x hx hin e he hb=>by
 have hlt:=gB hs h;unfold mw at hin ⊢;rw [qn (by omega)] at hin ⊢;by_cases hek:e.on=i
 ·grind
 ·rw [if_neg hek];by_cases hki:k=i
  ·subst hki;exact En hs hed h hx e he hb
  ·rw [if_neg hki] at hin;exact hcl k x hx hin e he hb
theorem xH {m : Nat → Nat} {listed : Array Bool} {i p : Nat} (hm : dc ops m = true) (hs : listed.size = ops.size) (hed : ∀ i o, ops[i]? = some o → ∀ e ∈ o.after, Region.binds .any e = true → e.on < i) (hcl : iv ops listed)
  (hpi:p<i) (hb:(m i).testBit p=true) (hp:listed.getD p true=false):¬ i ∈ Region.ready .any ops listed:=fun h=>by
 have hlt:=gB hs h;obtain ⟨o,ho,_⟩:=(de hs).1 h;have hdep:=En hs hed h ho;have h3:=List.all_eq_true.1 hm i (List.mem_range.2 hlt);rw [ho] at h3;have h4:=List.all_eq_true.1 h3 p (List.mem_range.2 hpi);simp only [hb,Bool.not_true,Bool.false_or] at h4;obtain ⟨k,hk',hh⟩:=Array.any_eq_true.1 h4;simp only [Bool.and_eq_true,Bool.or_eq_true,Nat.beq_eq] at hh;have hin:=hdep _ (Array.getElem_mem hk') hh.1;have hle:=hed i o ho _ (Array.getElem_mem hk') hh.1;have:mw listed p:=by
  rcases hh.2 with q|q
  ·grind
  ·exact Bm hm hcl hed (fun _ _ _=>trivial) (i+1) _ (by omega) hin (by omega) p (by simp_all) q.1
 unfold mw at this;grind
theorem Hb {rcv:Nat→Bool} {m:Nat→Nat} {listed:Array Bool} {i p:Nat} (hi:i<listed.size) (h:qN rcv ops m listed p=true):qN rcv ops m (listed.setIfInBounds i true) p=true:=by
 unfold qN at h ⊢;split at h
 ·cases h
 ·refine List.all_eq_true.2 fun k hk => ?_;have:=List.all_eq_true.1 h k hk;simp only [Bool.or_eq_true] at this ⊢;rw [qn hi];grind
theorem jc {listed:Array Bool} {i k:Nat} (hs:listed.size=ops.size) (hi:i<listed.size) (hk:k ∈ Region.ready .any ops listed) (hne:k≠i):k ∈ Region.ready .any ops (listed.setIfInBounds i true):=by
 obtain ⟨o,ho,hl,hdep⟩:=(de hs).1 hk;refine (de (by grind)).2 ⟨o,ho,by rw [qn hi,if_neg hne];exact hl,fun e he hb => ?_⟩;rw [qn hi];grind
theorem zM {listed:Array Bool} {i k:Nat}:(listed.setIfInBounds i true).setIfInBounds k true=(listed.setIfInBounds k true).setIfInBounds i true:=by grind
theorem GM {m : Nat → Nat} {x : Oper} {p : Nat} (hm : dc ops m = true) (hed : ∀ i o, ops[i]? = some o → ∀ e ∈ o.after, Region.binds .any e = true → e.on < i) (hx : ops[p]? = some x) {K : St → Prop} : ∀ (fuel : Nat) (listed : Array Bool) (st : St),
  listed.size=ops.size→iv ops listed→qN S.rcv ops m listed p=true→p ∈ Region.ready .any ops listed→jB 0 st→(∃ s,Ex S ops st x s∧iY S ops fuel (listed.setIfInBounds p true) s K)→iY S ops (fuel+1) listed st K:=by
 intro fuel
 induction fuel with
 | zero =>
  intro listed st hs hcl hp hr hw ⟨s,h1,h2⟩;have hplt:=gB hs hr;refine ⟨fun hno=>(by grind),fun i hi => ?_⟩;by_cases e:i=p
  ·grind [gh,jT]
  ·have:=jc hs (by omega) hi e;rw [h2.1] at this;grind
 | succ f ih =>
  intro listed st hs hcl hp hr hw ⟨s,h1,h2⟩;have hplt:=gB hs hr;obtain ⟨_,_,hpl,_⟩:=(de hs).1 hr;refine ⟨fun hno=>(by grind),fun i hi => ?_⟩;by_cases e:i=p
  ·grind [gh,jT]
  obtain ⟨o,ho,hl,hdep⟩:=(de hs).1 hi;have hlt:=gB hs hi;rw [ho];have h3:=h2.2 i (jc hs (by omega) hi e);rw [ho] at h3;obtain ⟨s2,h4,h5⟩:=nC h3;have hsw:∃ s3,Ex S ops st o s3∧Ex S ops s3 x s2:=by
   have hq:=hp;unfold qN at hq;rw [hx] at hq;have hq:=List.all_eq_true.1 hq i (List.mem_range.2 hlt);rw [ho] at hq;simp only [Bool.or_eq_true,Nat.beq_eq,Bool.and_eq_true] at hq;rcases hq with ((q|q)|q)|q
   ·grind
   ·omega
   ·exact absurd hi (xH hm hs hed hcl (by simp_all) q.1 hpl)
   ·grind [zm,ml,pg]
  obtain ⟨s3,h6,h7⟩:=hsw;grind [jT,jW,Hb,jc,ym,zM]
end
def GI (rcv:Nat→Bool) (ops:Array Oper) (m:Nat→Nat) (listed:Array Bool):Tr→Bool
 | .leaf=>Region.ready .any ops listed == []
 | .nil=>false
 | .br i t r=>Region.ready .any ops listed == fV (.br i t r) || (fV r == [] && (Region.ready .any ops listed).contains i && qN rcv ops m listed i)
def Ou (rcv:Nat→Bool) (ops:Array Oper) (m:Nat→Nat):Array Bool→Tr→Bool
 | _, .leaf=>true
 | _, .nil=>true
 | listed, .br i t r=>Nat.blt i ops.size && GI rcv ops m (listed.setIfInBounds i true) t && Ou rcv ops m (listed.setIfInBounds i true) t && Ou rcv ops m listed r
section
variable {S:Env} {l:List Oper} {m:Nat→Nat}
theorem zN {t:Tr} {listed:Array Bool} (hn:GI S.rcv l.toArray m listed t=true):∀ i ∈ fV t,i ∈ Region.ready .any l.toArray listed:=by
 cases t with
 | leaf=>intro i hi;cases hi
 | nil=>cases hn
 | br k t r =>
  grind [fV,GI]
theorem zY (hm : dc l.toArray m = true) (hf : oE l.toArray = true) {t : Tr} {listed : Array Bool} {fuel : Nat} {st : St} {K : St → Prop} (hs : listed.size = l.toArray.size) (hcl : iv l.toArray listed) (hw : jB 0 st)
  (hn:GI S.rcv l.toArray m listed t=true) (h:ig S l.toArray l t st K) (hd:jS t≤fuel)
  (hal : ∀ f, fuel = f + 1 → ∀ i ∈ fV t, match l.toArray[i]? with
    | some o=>gh S l.toArray st o fun st'=>iY S l.toArray f (listed.setIfInBounds i true) st' K
    | none=>iY S l.toArray f (listed.setIfInBounds i true) st K):iY S l.toArray fuel listed st K:=by
 have hsub:=zN hn;cases t with
 | leaf =>
  have hr:Region.ready .any l.toArray listed=[]:=by simpa [GI] using hn
  cases fuel with
  | zero=>exact ⟨hr,h⟩
  | succ f=>exact ⟨fun _=>h,fun i hi=>by grind⟩
 | nil=>cases hn
 | br i t r =>
  cases fuel with
  | zero=>grind [jS]
  | succ f =>
   have hi:i ∈ Region.ready .any l.toArray listed:=hsub i (by grind [fV]);simp only [GI,Bool.or_eq_true,Bool.and_eq_true,beq_iff_eq] at hn;rcases hn with hn|hn
   ·exact ⟨fun h0=>by grind,fun j hj=>hal f rfl j (by grind)⟩
   ·have:=hal f rfl i (by grind [fV]);grind [de,GM,tX,qN,nC,gh]
theorem uH (hm : dc l.toArray m = true) (hf : oE l.toArray = true) {K : St → Prop} : ∀ (t : Tr) (listed : Array Bool) (fuel : Nat) (st : St), listed.size = l.toArray.size → iv l.toArray listed → jB 0 st → (∀ i ∈ fV t, i ∈ Region.ready .any l.toArray listed) →
  Ou S.rcv l.toArray m listed t = true → ig S l.toArray l t st K → jS t ≤ fuel + 1 → ∀ i ∈ fV t, match l.toArray[i]? with
    | some o=>gh S l.toArray st o fun st'=>iY S l.toArray fuel (listed.setIfInBounds i true) st' K
    | none=>iY S l.toArray fuel (listed.setIfInBounds i true) st K
 | .leaf,_,_,_,_,_,_,_,_,_,_,i,hi=>by cases hi
 | .nil,_,_,_,_,_,_,_,_,_,_,i,hi=>by cases hi
 | .br k t r,listed,fuel,st,hs,hcl,hw,hsub,hok,h,hd,i,hi=>by
  have hkr:k ∈ Region.ready .any l.toArray listed:=hsub k (by grind [fV]);simp only [Ou,Bool.and_eq_true] at hok;obtain ⟨⟨⟨hk,hn⟩,ht⟩,hr⟩:=hok;simp only [jS] at hd;rcases List.mem_cons.1 hi with rfl|hi
  ·have hlt:i<l.toArray.size:=by simp [Nat.blt] at hk ⊢;omega
   have hget:l.toArray[i]?=some (l.getD i default):=by
    have hlt2:i<l.length:=by simpa using hlt
    rw [List.getElem?_toArray,List.getD_eq_getElem?_getD,List.getElem?_eq_getElem hlt2];rfl
   rw [hget];obtain ⟨s,h1,h2⟩:=nC h.1;refine jT h1 ?_;have hs2:(listed.setIfInBounds i true).size=l.toArray.size:=by simpa using hs
   have hcl2:=jW hs (tX hf) hcl hkr;exact zY hm hf hs2 hcl2 (ym h1 hw) hn h2 (by omega) fun f hf2 j hj=>uH hm hf t _ f s hs2 hcl2 (ym h1 hw) (zN hn) ht h2 (by omega) j hj
  ·exact uH hm hf r listed fuel st hs hcl hw (fun j hj=>hsub j (by grind [fV])) hr h.2 (by omega) i hi
theorem Ku {t : Tr} {st : St} {K : St → Prop} (hok : (oE l.toArray && dc l.toArray m && GI S.rcv l.toArray m (Array.replicate l.toArray.size false) t && Ou S.rcv l.toArray m (Array.replicate l.toArray.size false) t && Nat.ble (jS t) l.toArray.size) = true) (hw : jB 0 st) (h : ig S l.toArray l t st K) :
  iY S l.toArray l.toArray.size (Array.replicate l.toArray.size false) st K:=by
 simp only [Bool.and_eq_true] at hok;obtain ⟨⟨⟨⟨hf,hm⟩,h1⟩,h2⟩,h3⟩:=hok;have h3:=Nat.le_of_ble_eq_true h3;have hs:(Array.replicate l.toArray.size false).size=l.toArray.size:=by simp
 have hcl:iv l.toArray (Array.replicate l.toArray.size false):=fun i o ho hi=>by
  exfalso;have hlt:i<l.toArray.size:=by
   rcases Nat.lt_or_ge i l.toArray.size with h|h
   ·exact h
   ·grind
  unfold mw at hi;simp_all
 grind [zY,uH,zN]
theorem cM {id : Nat} {y : Code} {Q : AExit → St → Prop} {st : St} (t : Tr)
  (hok:(oE l.toArray && dc l.toArray (fun i=>(Region.before l.toArray).getD i 0) && GI S.rcv l.toArray (fun i=>(Region.before l.toArray).getD i 0) (Array.replicate l.toArray.size false) t && Ou S.rcv l.toArray (fun i=>(Region.before l.toArray).getD i 0) (Array.replicate l.toArray.size false) t && Nat.ble (jS t) l.toArray.size)=true)
  (hw:jB 0 st) (h:∀ K:St→Prop,(∀ s s',Le s s'→cw S y Q s'→K s)→ig S l.toArray l t st K):cw S (.seq (.region id l.toArray true) y) Q st:=by
 grind [fJ,ku,Wk,cw,iY,Ku]
end
theorem bO {S:Env} {ops:Array Oper} {L:List Oper} {i:Nat} {t r:Tr} {st:St} {K:St→Prop} (h:∀ K':St→Prop,(∀ s,ig S ops L t s K→K' s)→bj S ops [L.getD i default] st K') (hr:ig S ops L r st K):ig S ops L (.br i t r) st K :=
 ⟨h _ (fun _ h=>h),hr⟩
theorem aZ {S:Env} {ops:Array Oper} {L:List Oper} {st:St} {K:St→Prop} (h:K st):ig S ops L .leaf st K:=h
theorem bp {S:Env} {ops:Array Oper} {L:List Oper} {st:St} {K:St→Prop}:ig S ops L .nil st K:=trivial
end
theorem LQ {S:Env} {f:FuncId} {args:List BV} {e sz:Nat} {g:Nat→Nat→PV} (h0:0<sz) (h:aB S f args fun r=>r = .b (.c (.p (.val (.slice none 0 0))))):gC S f args e sz 0 g :=
 ⟨h.1,fun ok w vs h1 h2 h3 h4=>(h.2 ok w vs h1 h2 h3 h4).mono fun ex w' ⟨v,r,he,hR,_,hb,hd⟩=>by
  subst hR
  refine ⟨v,[],he,hb,h0,⟨by simp, .inl ⟨hd,rfl⟩⟩,by simp,fun i hi=>absurd hi (Nat.not_lt_zero i)⟩⟩
section
def Qh (ok:Nat→Prop) (w w':World) (v:Value) (b:Nat):Prop:=RK ok w w' b∧mW v≠some b
def pB (S:Env) (f:FuncId) (args:List BV) (cs:List (Option PV)) (k e sz n:Nat) (g:Nat→Nat→PV):Prop :=
 JE S f∧∀ (ok:Nat→Prop) (w:World) (vs:Array Value),(∀ b,ok b→b<w.heap.size)→oP S ok w →
  vs.size=args.length→(∀ j,di dd ok w (args.getD j .any) (vs.getD j undef)) →
  Calls S.P f vs w fun ex w'=>∃ (us:Array Value) (xs:List Value),ex = .returned (.agg us)∧RowKit.Below w.heap.size w w'∧0<sz∧w'.ownsRow w.heap.size e sz (us.getD k undef) n xs∧(∀ x ∈ xs,x.oneCell'=true) ∧
   (∀ i,i<n→∀ j,j<sz→bq (Qh ok w w' (us.getD k undef)) w' (g i j) (xs.getD (i * sz+j) undef))∧us.size=cs.length∧(∀ j,j<us.size→(us.getD j undef).oneCell'=true) ∧
   ∀ j y,cs[j]?=some (some y)→bq (Qh ok w w' (us.getD k undef)) w' y (us.getD j undef)
def AD:List (Option PV)→Bool
 | []=>true
 | some _ :: l=>AD l
 | none :: _=>false
def xC:Nat→List (Option PV)→Bool
 | _,[]=>true
 | 0,_ :: l=>AD l
 | k+1,some _ :: l=>xC k l
 | _+1,none :: _=>false
theorem ye:∀ {l:List (Option PV)},AD l=true→∀ j:Nat,l[j]?≠some none
 | [],_,j=>by simp
 | some x :: l,h,0=>by simp
 | some x :: l,h,j+1=>by simpa using ye (l:=l) h j
 | none :: l,h,_=>by cases h
theorem Ek:∀ {k:Nat} {l:List (Option PV)},xC k l=true→∀ j:Nat,l[j]?=some none→j=k
 | _,[],_,j,h=>by simp at h
 | 0,x :: l,h,0,_=>rfl
 | 0,x :: l,h,j+1,h2=>absurd (by grind) (ye (l:=l) h j)
 | k+1,some x :: l,h,0,h2=>by simp at h2
 | k+1,some x :: l,h,j+1,h2=>by
  have:=Ek (k:=k) (l:=l) h j (by grind);omega
 | k+1,none :: l,h,_,_=>by cases h
def HU (x:CV):Option PV→CV
 | some y => .p y
 | none=>x
def jZ (x:CV) (cs:List (Option PV)):List CV:=cs.map (HU x)
theorem PG {x:CV} {cs:List (Option PV)} {j:Nat} {y:Option PV} (h:cs[j]?=some y):(jZ x cs).getD j .any=HU x y:=by grind [jZ]
theorem AE {ρ : iN} {ok : Nat → Prop} {w : World} {x : CV} {cs : List (Option PV)} {us : Array Value} {k : Nat} (ho : xC k cs = true) (hs : us.size = cs.length) (h1 : ∀ j, j < us.size → (us.getD j undef).oneCell' = true)
  (hx:cR ρ ok w x (us.getD k undef)) (hc:∀ j y,cs[j]?=some (some y)→bq ok w y (us.getD j undef)):di ρ ok w (.agg (jZ x cs)) (.agg us):=by
 refine ⟨us,rfl,by simp [jZ,hs],h1,fun j => ?_⟩;cases hj:cs[j]? with
 | none =>
  rw [List.getD_eq_getElem?_getD,show (jZ x cs)[j]?=none by simp [jZ,hj]];trivial
 | some y =>
  rw [PG hj];cases y with
  | none=>rw [Ek ho j hj];exact hx
  | some y=>exact hc j y hj
theorem Tu {S : Env} {f : FuncId} {args : List BV} {cs : List (Option PV)} {k e sz n : Nat} {g : Nat → Nat → PV} (h : pB S f args cs k e sz n g) (hl : ∀ x ∈ args, BV.lt 0 x) (ho : xC k cs = true) (bx : Nat → Option Bx) (nx : Nat) :
  lj S bx nx f args (.b (.agg (jZ (.own nx n) cs))) (aJ nx (.arr e sz n g) bx) (nx+1):=by
 refine ⟨h.1,fun E st ρ a w vs hbx hnx G hsz hden => ?_⟩;subst hbx;subst hnx;have hgl:oP S (cd E st.bx ρ w) w:=fun k n f hg=>G.glb k n f hg;refine (h.2 (cd E st.bx ρ w) w vs (fun b hb=>hb.1) hgl hsz fun j => ?_).mono fun ex w' ⟨us,xs,he,hB,h0,hown,hone,hd,hs,h1,hc⟩ => ?_
 ·by_cases hj:j<args.length
  ·grind [gO]
  ·rw [List.getD_eq_getElem?_getD,List.getElem?_eq_none (by omega)];trivial
 ·have hown0:w'.ownsRow 0 e sz (us.getD k undef) n xs:=⟨hown.1,by
   rcases hown.2 with h|⟨b,cap,cur,e1,e2,e3⟩
   ·grind
   grind⟩
  have hge:∀ b,mW (us.getD k undef)=some b→w.heap.size≤b:=fun b hb=>by
   rcases hown.2 with ⟨e1,_⟩|⟨b2,cap,cur,e1,e2,_⟩
   ·grind [mW,undef]
   grind [mW]
  have hkx:∀ ok',iM (cd E st.bx ρ w) ok' w w'→(∀ b,w.heap.size≤b→b<w'.heap.size→mW (us.getD k undef)≠some b→ok' b)→∀ b,Qh (cd E st.bx ρ w) w w' (us.getD k undef) b→ok' b:=fun ok' q1 q2 b hb=>by
   rcases Nat.lt_or_ge b w.heap.size with hlt|hge
   ·exact (q1 b (hb.1.2 hlt)).1
   ·exact q2 b hge hb.1.1 hb.2
  have g':=G.newBoxN hB (.arr e sz n g) (us.getD k undef) trivial (fun b hb=>⟨hge b hb,Fp hown0 hb⟩)
   (fun ok' q1 q2=>⟨h0,xs,hown0,hone,fun i hi j hj=>bq.mono (fun b hb=>⟨hkx ok' q1 q2 b hb,fun _=>rfl⟩) (hd i hi j hj)⟩)
  have hkA:∀ b,Qh (cd E st.bx ρ w) w w' (us.getD k undef) b→cd E (st.newBox (.arr e sz n g)).bx (ρ.upd st.nx (us.getD k undef)) w' b:=fun b hb=>by
   refine ⟨hb.1.1,fun q => ?_,fun id hid => ?_⟩
   ·have:=G.frm.size;exact (hb.1.2 (by omega)).2.1 q
   ·by_cases he:id=st.nx
    ·subst he;simp only [iN.upd,if_true];exact hb.2
    ·simp only [St.newBox,he,if_false] at hid;simp only [iN.upd,he,if_false];cases hq:st.bx id with
     | none=>grind
     | some y =>
      intro hbk;have hlt:=(G.new id y b hq hbk).1;exact (hb.1.2 hlt).2.2 id hid hbk
  refine ⟨.agg us,ρ.upd st.nx (us.getD k undef),he, ?_, ?_,g'⟩
  ·refine AE ho hs h1 ?_ fun j y hj=>bq.mono (fun b hb=>⟨hkA b hb,fun _=>rfl⟩) (hc j y hj);exact zs hown0 st ρ (cd E (st.newBox (.arr e sz n g)).bx (ρ.upd st.nx (us.getD k undef)) w') w'
  ·intro c hc;obtain ⟨y,_,rfl⟩:=List.mem_map.1 hc;cases y with
   | none=>exact Nat.lt_succ_self _
   | some y=>trivial
theorem Ed {S:Env} {f:FuncId} {args:List BV} {cs:List (Option PV)} {k e sz n:Nat} {g:Nat→Nat→PV} (h:pB S f args cs k e sz n g) (ho:xC k cs=true):aB S f args fun r=>r = .b (.agg (jZ (.p (.lst sz n g)) cs)) :=
 ⟨h.1,fun ok w vs h1 h2 h3 h4=>(h.2 ok w vs h1 h2 h3 h4).mono fun ex w' ⟨us,xs,he,hB,h0,hown,hone,hd,hs,h1,hc⟩=>by
  refine ⟨.agg us,_,he,rfl, ?_,hB, ?_⟩
  ·intro c hc;obtain ⟨y,_,rfl⟩:=List.mem_map.1 hc;cases y <;> trivial
  ·refine AE ho hs h1 ?_ fun j y hj=>bq.mono (fun b hb=>⟨hb.1,fun _=>rfl⟩) (hc j y hj);rcases hown.2 with ⟨e1,e2⟩|⟨b,cap,cur,hv,hge,hh,hnc,_,hcs,htk⟩
   ·rw [e1];exact ⟨none,0,by rw [e2],by omega,fun h=>by omega⟩
   ·rw [hv];refine ⟨_,cap,rfl,hnc,fun _=>⟨b,0,rfl,⟨cm hh,fun q=>by omega⟩,fun i hi j hj => ?_⟩⟩;have hlt:i * sz+j<n * sz:=eE hi hj;have hlt2:i * sz+j<cur.size:=by rw [hcs];exact Nat.lt_of_lt_of_le hlt (Nat.mul_le_mul_right _ hnc)
    have hlx:i * sz+j<xs.length:=by rw [hown.1];exact hlt
    have hxe:xs.getD (i * sz+j) undef=cur.getD (i * sz+j) undef:=by rw [← htk];simp [List.getElem?_take,hlt]
    refine ⟨cur.getD (i * sz+j) undef,by grind [cr], ?_, ?_⟩
    ·grind
    ·rw [← hxe]
     exact bq.mono (fun b hb=>⟨hb.1,fun _=>rfl⟩) (hd i hi j hj)⟩
def Mh (bx:Nat→Option Bx) (e sz n:Nat) (g:Nat→Nat→PV):CV→Prop
 | .own id n'=>∃ f,bx id=some (.arr e sz n f)∧n'=n∧0<sz∧∀ i,i<n→∀ j,j<sz→PV.le (f i j) (g i j)
 | .p x=>x = .val (.slice none 0 0)∧n=0∧0<sz
 | _=>False
def Io:CV→Option Nat
 | .own id _=>some id
 | _=>none
def BY (d:Option Nat):CV→Prop
 | .own id _=>d≠some id
 | _=>True
def leP:CV→PV→Prop
 | .p z,y=>z=y∨PV.le z y
 | _,_=>False
def we (bx:Nat→Option Bx) (d:Option Nat):List CV→List (Option PV)→Prop
 | [],[]=>True
 | _ :: l,none :: r=>we bx d l r
 | x :: l,some y :: r=>leP (iV bx x) y∧BY d x∧we bx d l r
 | _,_=>False
def Ci (S:Env) (rs:List ResultVar) (cs:List (Option PV)) (k e sz n:Nat) (g:Nat→Nat→PV) (st:St):Prop :=
 match mP S st rs with
 | some (p,[.agg xs])=>p∧Mh st.bx e sz n g (xs.getD k .any)∧we st.bx (Io (xs.getD k .any)) xs cs
 | _=>False
def RL (S:Env) (rs:List ResultVar) (cs:List (Option PV)) (k e sz n:Nat) (g:Nat→Nat→PV):AExit→St→Prop
 | .ret,st=>Ci S rs cs k e sz n g st
 | .normal,st=>Ci S rs cs k e sz n g st
 | _,_=>False
theorem Pd {S:Env} {rs:List ResultVar} {cs:List (Option PV)} {k e sz n:Nat} {g:Nat→Nat→PV} {st:St}:RL S rs cs k e sz n g .ret st=Ci S rs cs k e sz n g st:=rfl
theorem Eu {S:Env} {rs:List ResultVar} {cs:List (Option PV)} {k e sz n:Nat} {g:Nat→Nat→PV} {st:St}:RL S rs cs k e sz n g .normal st=Ci S rs cs k e sz n g st:=rfl
theorem a6c {z y:PV}:leP (.p z) y=(z=y∨PV.le z y):=rfl
theorem Pj {bx:Nat→Option Bx} {d:Option Nat}:we bx d [] []=True:=rfl
theorem AB {bx:Nat→Option Bx} {d:Option Nat} {x:CV} {l:List CV} {r:List (Option PV)}:we bx d (x :: l) (none :: r)=we bx d l r:=by cases x <;> rfl
theorem Ap {bx:Nat→Option Bx} {d:Option Nat} {x:CV} {l:List CV} {y:PV} {r:List (Option PV)}:we bx d (x :: l) (some y :: r)=(leP (iV bx x) y∧BY d x∧we bx d l r):=by cases x <;> rfl
theorem BO {bx:Nat→Option Bx} {d:Option Nat}:∀ {l:List CV} {r:List (Option PV)},we bx d l r→l.length=r.length∧∀ (j:Nat) y,r[j]?=some (some y)→leP (iV bx (l.getD j .any)) y∧BY d (l.getD j .any)
 | [],[],_=>⟨rfl,fun j y h=>by simp at h⟩
 | x :: l,none :: r,h=>by
  rw [AB] at h;obtain ⟨q1,q2⟩:=BO h;grind
 | x :: l,some z :: r,h=>by
  rw [Ap] at h;obtain ⟨h1,h2,h3⟩:=h;obtain ⟨q1,q2⟩:=BO h3;grind
 | [],none :: r,h=>by cases h
 | [],some _ :: r,h=>by cases h
 | x :: l,[],h=>by cases x <;> cases h
section
variable {S:Env} {E:Ent} {st:St} {ρ:iN} {a:Act} {w:World}
theorem Kx {x : CV} {u v : Value} {d : Option Nat} (g : Gam S E st ρ a w) (hrx : E.rx = none) (hd : ∀ id, d = some id → ρ id = v ∧ st.bx id ≠ none) (hdn : d = none → mW v = none) (hx : BY d x) (hw : E.w0.heap.size ≤ w.heap.size)
  (h:cR ρ (cd E st.bx ρ w) w x u) {y:PV} (hy:leP (iV st.bx x) y):bq (Qh E.ok0 E.w0 w v) w y u:=by
 have hA:∀ b,cd E st.bx ρ w b→Qh E.ok0 E.w0 w v b:=fun b hb=>⟨⟨hb.1,hb.2.1⟩,fun hv=>by
  cases hq:d with
  | none=>grind
  | some id =>
   obtain ⟨q1,q2⟩:=hd id hq
   exact hb.2.2 id q2 (by grind)⟩
 have hk:iM (cd E st.bx ρ w) (Qh E.ok0 E.w0 w v) w w:=fun b hb=>⟨hA b hb,fun _=>rfl⟩
 have fin:∀ z:PV,(z=y∨PV.le z y)→bq (Qh E.ok0 E.w0 w v) w z u→bq (Qh E.ok0 E.w0 w v) w y u:=fun z hz hu=>by
  rcases hz with rfl|hz
  ·exact hu
  ·exact hz _ _ _ hu
 cases x with
 | p x=>exact fin _ hy (bq.mono hk h)
 | ptr id off=>exact hy.elim
 | pel id sz i off=>exact hy.elim
 | ipt sz g off=>exact hy.elim
 | clo f ps=>exact hy.elim
 | sub id sz lo n=>exact hy.elim
 | own id n =>
  unfold iV at hy;split at hy
  ·rename_i id n e;cases e;split at hy
   ·rename_i e sz n' f hb;split at hy
    ·rename_i hn;refine fin _ hy ?_;obtain ⟨A,m,c,hr,h1,h2,h3,hu⟩:=h;obtain ⟨h0,xs,hown,hone,hd2⟩:=g.bxs id _ hb;refine ⟨A,c,hu,by omega,fun hpos => ?_⟩;rcases hown.2 with ⟨e1,e2⟩|⟨gb,cap,cur,hv,_,hh,hnc,_,hcs,htk⟩
     ·omega
     ·rw [hr] at hv;simp only [Value.slice.injEq] at hv;obtain ⟨rfl,rfl,rfl⟩:=hv;have hgb:mW (ρ id)=some gb:=by rw [hr];rfl
      have hge:E.w0.heap.size≤gb:=by
       rcases (g.new id _ gb hb hgb).2 with h|⟨_,_,_,h,_⟩
       ·exact h
       ·cases h
      refine ⟨gb,0,rfl,⟨⟨cm hh,fun q=>by omega⟩,fun hv => ?_⟩,fun i hi j hj => ?_⟩
      ·cases hq:d with
       | none=>grind
       | some id2 =>
        obtain ⟨q1,q2⟩:=hd id2 hq;have:=g.inj id id2 gb (by grind) q2 hgb (by grind);subst this;exact hx hq
      have hlt:i * sz+j<m * sz:=eE (by omega) hj;have hlt2:i * sz+j<cur.size:=by rw [hcs];exact Nat.lt_of_lt_of_le hlt (Nat.mul_le_mul_right _ hnc)
      have hlx:i * sz+j<xs.length:=by rw [hown.1];exact hlt
      have hxe:xs.getD (i * sz+j) undef=cur.getD (i * sz+j) undef:=by rw [← htk];simp [List.getElem?_take,hlt]
      grind [bq,undef,cr,bq.mono]
    ·exact hy.elim
   ·exact hy.elim
  grind
end
theorem Md {S : Env} {f : FuncId} {fn : Func} {c : Code} {rs : List ResultVar} {args : List BV} {cs : List (Option PV)} {k e sz n : Nat} {g : Nat → Nat → PV} (hf : S.P.funcs[f]? = some fn) (hb : fn.body = some c) (hrs : fn.results.toList = rs) (hname : (fn.name == "runtime.NumGoroutine") = false)
  (hm:S.P.follows .mixedOrders=true) (hN:cX fn.ntmps c=true) (hlen:args.length≤fn.ntmps) (hl:∀ x ∈ args,BV.lt 0 x) (h:cw S c (RL S rs cs k e sz n g) (zy args)):pB S f args cs k e sz n g:=by
 subst hrs;refine ⟨⟨fn,hf,hname,by grind⟩,fun ok w vs hok hgl hsz hden => ?_⟩;refine calls_of_wp hf hb ?_
 let E:Ent := { w0:=w,ok0:=ok,rx:=none,N:=fn.ntmps }
 have hokA:∀ b,ok b→cd E (fun _=>none) dd w b:=fun b hb=>⟨hok b hb,fun _=>hb,fun _ h=>absurd rfl h⟩
 have hk:iM ok (cd E (fun _=>none) dd w) w w:=fun b hb=>⟨hokA b hb,fun _=>rfl⟩
 have g0:Gam S E (zy args) dd { tmps:=vs ++ Array.replicate (fn.ntmps - vs.size) undef,defers:=[] } w:=by
  refine ⟨⟨rfl,Nat.zero_le _,fun _ _ h=>(by cases h)⟩,by grind,⟨rfl,rfl,rfl,Nat.le_refl _,fun _ _ _=>rfl,fun _ _ _ h=>(by cases h)⟩,fun s => ?_,fun _ _ h=>(by cases h),fun _ _ h=>(by cases h),fun _ _ _ h=>(by cases h),fun _ _ _ h=>absurd rfl h,
   fun _ _ _ h=>(by cases h),fun s => ?_,fun gg n f hg => ?_,fun s=>⟨trivial,trivial⟩⟩
  ·simp only [zy,cN];split
   ·rename_i hs;refine hl _ ?_;grind
   ·trivial
  ·simp only [zy,cN];split
   ·rename_i hs;have e:(vs ++ Array.replicate (fn.ntmps - vs.size) undef).getD s undef=vs.getD s undef:=by
     have:s<vs.size:=by omega
     simp [this];rw [Array.getElem?_append_left this];simp [this]
    rw [e];exact di.mono (nx:=0) hk (fun _ _=>rfl) (hl _ (by grind)) (hden (s - 0))
   ·trivial
  ·obtain ⟨h1,h2⟩:=hgl gg n f hg;refine ⟨hokA gg h1,fun j hj => ?_⟩;obtain ⟨x,hx,h3,hd⟩:=h2 j hj;exact ⟨x,hx,h3,bq.mono hk hd⟩
 have fin : ∀ {a' : Act} {w' : World}, nL S E (Ci S fn.results.toList cs k e sz n g) a' w' → a'.defers = [] ∧ ∃ v, (results fn a'.tmps).run S.P w' = .ok v w' ∧
   ∃ (us:Array Value) (xs:List Value),Ending.returned v = .returned (.agg us)∧RowKit.Below w.heap.size w w'∧0<sz∧w'.ownsRow w.heap.size e sz (us.getD k undef) n xs∧(∀ x ∈ xs,x.oneCell'=true) ∧
   (∀ i,i<n→∀ j,j<sz→bq (Qh ok w w' (us.getD k undef)) w' (g i j) (xs.getD (i * sz+j) undef))∧us.size=cs.length∧(∀ j,j<us.size→(us.getD j undef).oneCell'=true) ∧
   ∀ j y,cs[j]?=some (some y)→bq (Qh ok w w' (us.getD k undef)) w' y (us.getD j undef):=fun {a' w'} ⟨st',ρ',g',hq⟩=>by
  unfold Ci at hq;split at hq
  ·rename_i p ys hr;obtain ⟨hp,hcell,hrest⟩:=hq;obtain ⟨vs2,hvs,hlv,hd⟩:=kh g' hr hp;obtain ⟨v,hv1,hv2⟩:=rN (xs:=[.agg ys]) hvs hlv hd;obtain ⟨us,rfl,hs,h1,hdu⟩:=hv2;obtain ⟨q1,q2⟩:=BO hrest;have hB:RowKit.Below w.heap.size w w':=⟨g'.frm.os,g'.frm.tape,g'.frm.output,g'.frm.size,fun k hk=>g'.frm.block k hk (fun _ _ h=>by cases h)⟩
   have hkd:=hdu k;generalize hX:ys.getD k .any=X at hcell hrest q2 hkd;have hmain : 0 < sz ∧ (∃ xs : List Value, w'.ownsRow w.heap.size e sz (us.getD k undef) n xs ∧ (∀ x ∈ xs, x.oneCell' = true) ∧ (∀ i, i < n → ∀ j, j < sz → bq (Qh ok w w' (us.getD k undef)) w' (g i j) (xs.getD (i * sz + j) undef))) ∧
     (∀ id,Io X=some id→ρ' id=us.getD k undef∧st'.bx id≠none)∧(Io X=none→mW (us.getD k undef)=none):=by
    cases X with
    | own id n' =>
     obtain ⟨f2,hbx,rfl,h0,hgf⟩:=hcell;obtain ⟨A,m,cp,hr2,h2,h3,h4,hu⟩:=hkd;obtain ⟨h0,xs,hown,hone,hd2⟩:=g'.bxs id _ hbx;have hmn:m=n':=by
      rcases hown.2 with ⟨e1,e2⟩|⟨b,cap,cur,e1,_⟩
      ·grind
      ·grind
     subst hmn;have hv:us.getD k undef=ρ' id:=by rw [hu,hr2]
     rw [hv];refine ⟨h0,⟨xs,⟨hown.1, ?_⟩,hone,fun i hi j hj => ?_⟩,fun id2 hid => ?_,fun h=>(by cases h)⟩
     ·rcases hown.2 with h|⟨b,cap,cur,e1,e2,e3⟩
      ·grind
      ·refine .inr ⟨b,cap,cur,e1, ?_,e3⟩;rcases (g'.new id _ b hbx (by rw [e1];rfl)).2 with h|⟨_,_,_,h,_⟩
       ·exact h
       ·cases h
     ·refine hgf i hi j hj _ _ _ (bq.mono (fun b hb=>⟨⟨⟨hb.1,hb.2.1⟩,fun hb2 => ?_⟩,fun _=>rfl⟩) (hd2 i hi j hj));exact hb.2.2 id (by grind) hb2
     grind [Io]
    | p x =>
     obtain ⟨rfl,rfl,h0⟩:=hcell;have hv:us.getD k undef = .slice none 0 0:=hkd;rw [hv];exact ⟨h0,⟨[],⟨by simp, .inl ⟨rfl,rfl⟩⟩,by simp,fun i hi=>absurd hi (Nat.not_lt_zero i)⟩,fun id h=>(by cases h),fun _=>rfl⟩
    | ptr _ _=>exact hcell.elim
    | pel _ _ _ _=>exact hcell.elim
    | ipt _ _ _=>exact hcell.elim
    | clo _ _=>exact hcell.elim
    | sub _ _ _ _=>exact hcell.elim
   obtain ⟨h0,⟨xs,m1,m2,m3⟩,m4,m5⟩:=hmain;refine ⟨g'.dfr.1, .agg us,hv1,us,xs,rfl,hB,h0,m1,m2,m3,by rw [hs,q1],h1,fun j y hj => ?_⟩;obtain ⟨t1,t2⟩:=q2 j y hj;exact Kx g' rfl m4 m5 t2 g'.frm.size (hdu j) t1
  grind
 refine wp_mono (fB hm c hN h g0) fun e a' w' hq => ?_;cases e with
 | normal=>exact fin hq
 | ret=>exact fin hq
 | exit id=>obtain ⟨_,_,_,h⟩:=hq;exact h.elim
 | _=>exact hq.elim
attribute [go_sem] Pd Eu Ci Mh Io BY a6c Pj AB Ap jZ HU
end
end Go.SL
