/- Part of the proof: SlFacts, SlT, SlU, SlV, SlW, SlX. -/
import Derived.Test.YtcbifofjjpfbcaaGreatDoorProg
import Derived.KernelRfl
import Derived.Test.YtcbifofjjpfbcaaGreatDoorM3
set_option maxRecDepth 100000
set_option linter.unusedSimpArgs false
set_option linter.unusedVariables false
namespace Go.Proofs.YtcbifofjjpfbcaaGreatDoor
open Go Go.SL
def g0:List PV:=[.val (.string ⟨#[]⟩), .val (.string ⟨#[110,111,114,109,97,108]⟩), .val (.string ⟨#[109,117,108,116,105,112,108,121]⟩), .val (.string ⟨#[115,99,114,101,101,110]⟩), .val (.string ⟨#[111,118,101,114,108,97,121]⟩), .val (.string ⟨#[100,97,114,107,101,110]⟩), .val (.string ⟨#[108,105,103,104,116,101,110]⟩), .val (.string ⟨#[99,111,108,111,114,45,100,111,100,103,101]⟩), .val (.string ⟨#[99,111,108,111,114,45,98,117,114,110]⟩), .val (.string ⟨#[104,97,114,100,45,108,105,103,104,116]⟩), .val (.string ⟨#[115,111,102,116,45,108,105,103,104,116]⟩), .val (.string ⟨#[100,105,102,102,101,114,101,110,99,101]⟩), .val (.string ⟨#[101,120,99,108,117,115,105,111,110]⟩)]
def g1:List PV:=[.val (.string ⟨#[]⟩), .val (.int .i64 0), .val (.int .i64 0), .val (.int .i64 0), .val (.string ⟨#[99,108,101,97,114]⟩), .val (.int .i64 0), .val (.int .i64 0), .val (.int .i64 0), .val (.string ⟨#[115,114,99]⟩), .val (.int .i64 1), .val (.int .i64 0), .val (.int .i64 1), .val (.string ⟨#[100,115,116]⟩), .val (.int .i64 0), .val (.int .i64 1), .val (.int .i64 2), .val (.string ⟨#[115,114,99,45,111,118,101,114]⟩), .val (.int .i64 1), .val (.int .i64 3), .val (.int .i64 3), .val (.string ⟨#[100,115,116,45,111,118,101,114]⟩), .val (.int .i64 3), .val (.int .i64 1), .val (.int .i64 3), .val (.string ⟨#[115,114,99,45,105,110]⟩), .val (.int .i64 2), .val (.int .i64 0), .val (.int .i64 4), .val (.string ⟨#[100,115,116,45,105,110]⟩), .val (.int .i64 0), .val (.int .i64 2), .val (.int .i64 4), .val (.string ⟨#[115,114,99,45,111,117,116]⟩), .val (.int .i64 3), .val (.int .i64 0), .val (.int .i64 1), .val (.string ⟨#[100,115,116,45,111,117,116]⟩), .val (.int .i64 0), .val (.int .i64 3), .val (.int .i64 2), .val (.string ⟨#[115,114,99,45,97,116,111,112]⟩), .val (.int .i64 2), .val (.int .i64 3), .val (.int .i64 2), .val (.string ⟨#[100,115,116,45,97,116,111,112]⟩), .val (.int .i64 3), .val (.int .i64 2), .val (.int .i64 1), .val (.string ⟨#[120,111,114]⟩), .val (.int .i64 3), .val (.int .i64 3), .val (.int .i64 3)]
def SK (g:Nat):Option (Nat × (Nat→PV)):=if g=0 then some (13,fun j=>g0.getD j .any) else if g=1 then some (52,fun j=>g1.getD j .any) else none
abbrev gT:List PV:=g0
abbrev cM:List PV:=g1
def Yt (f:Nat):Bool:=Nat.beq f 10 || Nat.beq f 11 || Nat.beq f 38 || Nat.beq f 40 || Nat.beq f 42 || Nat.beq f 59 || Nat.beq f 75 || Nat.beq f 86 || Nat.beq f 88 || Nat.beq f 92 || Nat.beq f 94 || Nat.beq f 95 || Nat.beq f 113 || Nat.beq f 114 || Nat.beq f 115 || Nat.beq f 129 || Nat.beq f 137 || Nat.beq f 139 || Nat.beq f 142 || Nat.beq f 143 || Nat.beq f 147 || Nat.beq f 156 || Nat.beq f 178 || Nat.beq f 2000061 || Nat.beq f 1000014 || Nat.beq f 1000035 || Nat.beq f 1000047 || Nat.beq f 1000068 || Nat.beq f 1000090 || Nat.beq f 1000096 || Nat.beq f 1000108 || Nat.beq f 1000126 || Nat.beq f 1000127 || Nat.beq f 1000128 || Nat.beq f 1000130 || Nat.beq f 1000135 || Nat.beq f 1000136 || Nat.beq f 1000140 || Nat.beq f 1000146 || Nat.beq f 1000152 || Nat.beq f 1000159 || Nat.beq f 1000162 || Nat.beq f 1000167 || Nat.beq f 1000168 || Nat.beq f 1000169 || Nat.beq f 1000170 || Nat.beq f 1000171 || Nat.beq f 1000172 || Nat.beq f 1000173 || Nat.beq f 1000174 || Nat.beq f 1000176 || Nat.beq f 1000177 || Nat.beq f 1000179 || Nat.beq f 1000180 || Nat.beq f 1000181 || Nat.beq f 1000184 || Nat.beq f 1000188 || Nat.beq f 1000189 || Nat.beq f 1000190 || Nat.beq f 1000191 || Nat.beq f 1000192 || Nat.beq f 1000193 || Nat.beq f 1000196 || Nat.beq f 1000197 || Nat.beq f 1000198 || Nat.beq f 1000199 || Nat.beq f 1000201 || Nat.beq f 1000202 || Nat.beq f 1000203 || Nat.beq f 1000204 || Nat.beq f 1000205 || Nat.beq f 1000206 || Nat.beq f 1000207 || Nat.beq f 1000208 || Nat.beq f 1000210 || Nat.beq f 1000213 || Nat.beq f 1000216 || Nat.beq f 1000217 || Nat.beq f 1000218 || Nat.beq f 1000219 || Nat.beq f 1000220 || Nat.beq f 1000221 || Nat.beq f 1000222 || Nat.beq f 1000235 || Nat.beq f 1000236 || Nat.beq f 1000237 || Nat.beq f 1000238 || Nat.beq f 1000239 || Nat.beq f 1000240 || Nat.beq f 1000241 || Nat.beq f 1000242 || Nat.beq f 1000252 || Nat.beq f 1000253 || Nat.beq f 1000254 || Nat.beq f 4094027 || Nat.beq f 4168025
noncomputable def Sg:Env := { P:=Tryz.prog,gl:=SK,rcv:=Yt }
theorem Zz:Sg.P=Tryz.prog:=rfl
theorem gl0:Sg.gl 0=some (13,fun j=>g0.getD j .any):=rfl
theorem gl1:Sg.gl 1=some (52,fun j=>g1.getD j .any):=rfl
theorem fG:Sg.P.follows .mixedOrders=true:=by kernel_rfl
theorem Sw:Sg.frz 22 (.tmp 8)=false:=by kernel_rfl
theorem Vx:Sg.frz 22 (.tmp 9)=false:=by kernel_rfl
theorem Qe:Sg.frz 22 (.tmp 17)=false:=by kernel_rfl
theorem OH:Sg.frz 22 (.tmp 26)=false:=by kernel_rfl
theorem RJ:Sg.frz 38 (.tmp 33)=false:=by kernel_rfl
theorem PW:Sg.frz 38 (.tmp 38)=false:=by kernel_rfl
theorem Rw:Sg.frz 94 (.tmp 22)=false:=by kernel_rfl
theorem OC:Sg.frz 94 (.tmp 26)=false:=by kernel_rfl
theorem OJ:Sg.frz 94 (.tmp 27)=true:=by kernel_rfl
theorem Oh:Sg.frz 94 (.tmp 44)=false:=by kernel_rfl
theorem Oy:Sg.frz 98 (.tmp 23)=false:=by kernel_rfl
theorem Qs:Sg.frz 98 (.tmp 26)=false:=by kernel_rfl
theorem Nt:Sg.frz 108 (.tmp 27)=false:=by kernel_rfl
theorem Ls:Sg.frz 108 (.tmp 28)=false:=by kernel_rfl
theorem Ka:Sg.frz 168 (.tmp 22)=false:=by kernel_rfl
theorem My:Sg.frz 168 (.tmp 25)=true:=by kernel_rfl
-- 2 int64
theorem ti3:Sg.ti 3=some (1,false):=by kernel_rfl
theorem un3:Sg.P.underlying 3=some (.int .i64):=by kernel_rfl
theorem ze3:Sg.zero 3=some [.int .i64 0]:=by kernel_rfl
theorem by3:Sg.byt 3=some 8:=by kernel_rfl
-- 4 bool
theorem ti4:Sg.ti 4=some (1,false):=by kernel_rfl
theorem un4:Sg.P.underlying 4=some (.bool):=by kernel_rfl
theorem ze4:Sg.zero 4=some [.bool false]:=by kernel_rfl
theorem by4:Sg.byt 4=some 1:=by kernel_rfl
-- 5 uint8
theorem un5:Sg.P.underlying 5=some (.int .u8):=by kernel_rfl
theorem ti9:Sg.ti 9=some (1,false):=by kernel_rfl
theorem un9:Sg.P.underlying 9=some (.string):=by kernel_rfl
theorem ze9:Sg.zero 9=some [.string ⟨#[]⟩]:=by kernel_rfl
theorem Zr:Sg.ti 22=some (1,false):=by kernel_rfl
theorem a0f:Sg.P.underlying 22=some (.slice 3):=by kernel_rfl
theorem Zf:Sg.el 22=some (none,3,1,false):=by kernel_rfl
theorem a0i:Sg.ti 23=some (1,false):=by kernel_rfl
theorem a0a:Sg.P.underlying 23=some (.slice 85):=by kernel_rfl
theorem ZJ:Sg.el 23=some (none,85,5,true):=by kernel_rfl
theorem YV:Sg.ti 24=some (1,false):=by kernel_rfl
theorem Zb:Sg.P.underlying 24=some (.slice 88):=by kernel_rfl
theorem a0b:Sg.el 24=some (none,88,11,true):=by kernel_rfl
theorem Zu:Sg.ti 26=some (10,true):=by kernel_rfl
theorem SA:Sg.fld 26 0=some (0,1,false):=by kernel_rfl
theorem UO:Sg.fld 26 1=some (1,1,false):=by kernel_rfl
theorem SJ:Sg.fld 26 2=some (2,1,false):=by kernel_rfl
theorem Vp:Sg.fld 26 3=some (3,1,false):=by kernel_rfl
theorem Sz:Sg.fld 26 4=some (4,1,false):=by kernel_rfl
theorem Tg:Sg.fld 26 5=some (5,1,false):=by kernel_rfl
theorem Su:Sg.fld 26 6=some (6,1,false):=by kernel_rfl
theorem Uw:Sg.fld 26 7=some (7,1,false):=by kernel_rfl
theorem Vi:Sg.fld 26 8=some (8,1,false):=by kernel_rfl
theorem Vd:Sg.fld 26 9=some (9,1,false):=by kernel_rfl
theorem YP:Sg.ti 28=some (4,true):=by kernel_rfl
theorem YG:Sg.zero 28=some [.int .i64 0, .int .i64 0, .int .i64 0, .int .i64 0]:=by kernel_rfl
theorem ZM:Sg.bld 28=some (some [(0,1),(1,1),(2,1),(3,1)],0):=by kernel_rfl
theorem UN:Sg.fld 28 0=some (0,1,false):=by kernel_rfl
theorem UC:Sg.fld 28 1=some (1,1,false):=by kernel_rfl
theorem UG:Sg.fld 28 2=some (2,1,false):=by kernel_rfl
theorem TX:Sg.fld 28 3=some (3,1,false):=by kernel_rfl
theorem YR (a0 b0:Int) (a1 b1:Int) (a2 b2:Int) (a3 b3:Int):Sg.eqv 28 [.int .i64 a0, .int .i64 a1, .int .i64 a2, .int .i64 a3] [.int .i64 b0, .int .i64 b1, .int .i64 b2, .int .i64 b3]=some ((a0 == b0) && ((a1 == b1) && ((a2 == b2) && ((a3 == b3) && true)))):=by kernel_rfl
theorem ZQ:Sg.byt 28=some 32:=by kernel_rfl
-- 29 []api.Image
theorem YD:Sg.ti 29=some (1,false):=by kernel_rfl
theorem YS:Sg.P.underlying 29=some (.slice 43):=by kernel_rfl
theorem ZK:Sg.el 29=some (none,43,28,true):=by kernel_rfl
theorem ZV:Sg.ti 30=some (1,false):=by kernel_rfl
theorem YN:Sg.P.underlying 30=some (.slice 74):=by kernel_rfl
theorem Zd:Sg.el 30=some (none,74,12,true):=by kernel_rfl
theorem Zg:Sg.ti 32=some (10,true):=by kernel_rfl
theorem ZS:Sg.zero 32=some [.int .i64 0, .int .i64 0, .int .i64 0, .int .i64 0, .int .i64 0, .int .i64 0, .int .i64 0, .slice none 0 0, .slice none 0 0, .slice none 0 0]:=by kernel_rfl
theorem a0h:Sg.bld 32=some (some [(0,1),(1,4),(5,1),(6,1),(7,1),(8,1),(9,1)],0):=by kernel_rfl
theorem SW:Sg.fld 32 0=some (0,1,false):=by kernel_rfl
theorem TS:Sg.fld 32 1=some (1,4,true):=by kernel_rfl
theorem SI:Sg.fld 32 2=some (5,1,false):=by kernel_rfl
theorem Vw:Sg.fld 32 3=some (6,1,false):=by kernel_rfl
theorem Vb:Sg.fld 32 4=some (7,1,false):=by kernel_rfl
theorem Ta:Sg.fld 32 5=some (8,1,false):=by kernel_rfl
theorem Tp:Sg.fld 32 6=some (9,1,false):=by kernel_rfl
theorem ZP:Sg.ti 34=some (1,false):=by kernel_rfl
theorem a0c:Sg.P.underlying 34=some (.int .u16):=by kernel_rfl
theorem Ys:Sg.zero 34=some [.int .u16 0]:=by kernel_rfl
theorem Yv:Sg.byt 34=some 2:=by kernel_rfl
-- 35 [3]uint16
theorem YL:Sg.ti 35=some (3,true):=by kernel_rfl
theorem Yr:Sg.el 35=some (some 3,34,1,false):=by kernel_rfl
theorem Zc:Sg.zero 35=some [.int .u16 0, .int .u16 0, .int .u16 0]:=by kernel_rfl
theorem Zs:Sg.bld 35=some (none,1):=by kernel_rfl
theorem YF:Sg.ti 37=some (5,true):=by kernel_rfl
theorem Yw:Sg.zero 37=some [.int .u16 0, .int .u16 0, .int .u16 0, .int .u16 0, .int .u16 0]:=by kernel_rfl
theorem Zm:Sg.bld 37=some (some [(0,3),(3,1),(4,1)],0):=by kernel_rfl
theorem TF:Sg.fld 37 0=some (0,3,true):=by kernel_rfl
theorem Ur:Sg.fld 37 1=some (3,1,false):=by kernel_rfl
theorem Vy:Sg.fld 37 2=some (4,1,false):=by kernel_rfl
theorem YJ (a0 b0:Int) (a1 b1:Int) (a2 b2:Int) (a3 b3:Int) (a4 b4:Int):Sg.eqv 37 [.int .u16 a0, .int .u16 a1, .int .u16 a2, .int .u16 a3, .int .u16 a4] [.int .u16 b0, .int .u16 b1, .int .u16 b2, .int .u16 b3, .int .u16 b4]=some (((a0 == b0) && ((a1 == b1) && ((a2 == b2) && true))) && ((a3 == b3) && ((a4 == b4) && true))):=by kernel_rfl
theorem YK:Sg.byt 37=some 10:=by kernel_rfl
-- 38 []uint16
theorem YM:Sg.ti 38=some (1,false):=by kernel_rfl
theorem ZN:Sg.P.underlying 38=some (.slice 34):=by kernel_rfl
theorem Yu:Sg.el 38=some (none,34,1,false):=by kernel_rfl
theorem a0e:Sg.ti 40=some (4,true):=by kernel_rfl
theorem Zi:Sg.zero 40=some [.int .i64 0, .int .i64 0, .int .i64 0, .slice none 0 0]:=by kernel_rfl
theorem YQ:Sg.bld 40=some (some [(0,1),(1,1),(2,1),(3,1)],0):=by kernel_rfl
theorem SS:Sg.fld 40 0=some (0,1,false):=by kernel_rfl
theorem Ud:Sg.fld 40 1=some (1,1,false):=by kernel_rfl
theorem Vm:Sg.fld 40 2=some (2,1,false):=by kernel_rfl
theorem Sn:Sg.fld 40 3=some (3,1,false):=by kernel_rfl
theorem YY:Sg.ti 41=some (20,true):=by kernel_rfl
theorem ZY:Sg.el 41=some (some 5,40,4,true):=by kernel_rfl
theorem a0d:Sg.ti 43=some (28,true):=by kernel_rfl
theorem Zo:Sg.zero 43=some [.int .i64 0, .int .i64 0, .bool false, .int .u16 0, .int .u16 0, .int .u16 0, .int .u16 0, .int .u16 0, .int .i64 0, .int .i64 0, .int .i64 0, .slice none 0 0, .int .i64 0, .int .i64 0, .int .i64 0, .slice none 0 0, .int .i64 0, .int .i64 0, .int .i64 0, .slice none 0 0, .int .i64 0, .int .i64 0, .int .i64 0, .slice none 0 0, .int .i64 0, .int .i64 0, .int .i64 0, .slice none 0 0]:=by kernel_rfl
theorem YU:Sg.bld 43=some (some [(0,1),(1,1),(2,1),(3,5),(8,20)],0):=by kernel_rfl
theorem TG:Sg.fld 43 0=some (0,1,false):=by kernel_rfl
theorem SY:Sg.fld 43 1=some (1,1,false):=by kernel_rfl
theorem VC:Sg.fld 43 2=some (2,1,false):=by kernel_rfl
theorem SH:Sg.fld 43 3=some (3,5,true):=by kernel_rfl
theorem Tk:Sg.fld 43 4=some (8,20,true):=by kernel_rfl
theorem Za:Sg.byt 43=some 272:=by kernel_rfl
-- 44 api.Errno
theorem YH:Sg.ti 44=some (1,false):=by kernel_rfl
theorem YW:Sg.zero 44=some [.int .i64 0]:=by kernel_rfl
theorem Yz:Sg.ti 61=some (4,true):=by kernel_rfl
theorem a0j:Sg.el 61=some (some 4,3,1,false):=by kernel_rfl
theorem ZR:Sg.ti 74=some (12,true):=by kernel_rfl
theorem YZ:Sg.zero 74=some [.int .i64 0, .int .i64 0, .int .i64 0, .int .i64 0, .int .i64 0, .int .i64 0, .int .i64 0, .int .u16 0, .int .i64 0, .int .i64 0, .bool false, .bool false]:=by kernel_rfl
theorem ZA:Sg.bld 74=some (some [(0,1),(1,1),(2,1),(3,1),(4,1),(5,1),(6,1),(7,1),(8,1),(9,1),(10,1),(11,1)],0):=by kernel_rfl
theorem Vt:Sg.fld 74 0=some (0,1,false):=by kernel_rfl
theorem TQ:Sg.fld 74 1=some (1,1,false):=by kernel_rfl
theorem Tu:Sg.fld 74 2=some (2,1,false):=by kernel_rfl
theorem Ti:Sg.fld 74 3=some (3,1,false):=by kernel_rfl
theorem UP:Sg.fld 74 4=some (4,1,false):=by kernel_rfl
theorem Vu:Sg.fld 74 5=some (5,1,false):=by kernel_rfl
theorem Sm:Sg.fld 74 6=some (6,1,false):=by kernel_rfl
theorem Ux:Sg.fld 74 7=some (7,1,false):=by kernel_rfl
theorem SU:Sg.fld 74 8=some (8,1,false):=by kernel_rfl
theorem TN:Sg.fld 74 9=some (9,1,false):=by kernel_rfl
theorem RD:Sg.fld 74 10=some (10,1,false):=by kernel_rfl
theorem Rs:Sg.fld 74 11=some (11,1,false):=by kernel_rfl
theorem Zq (a0 b0:Int) (a1 b1:Int) (a2 b2:Int) (a3 b3:Int) (a4 b4:Int) (a5 b5:Int) (a6 b6:Int) (a7 b7:Int) (a8 b8:Int) (a9 b9:Int) (a10 b10:Bool) (a11 b11:Bool):Sg.eqv 74 [.int .i64 a0, .int .i64 a1, .int .i64 a2, .int .i64 a3, .int .i64 a4, .int .i64 a5, .int .i64 a6, .int .u16 a7, .int .i64 a8, .int .i64 a9, .bool a10, .bool a11] [.int .i64 b0, .int .i64 b1, .int .i64 b2, .int .i64 b3, .int .i64 b4, .int .i64 b5, .int .i64 b6, .int .u16 b7, .int .i64 b8, .int .i64 b9, .bool b10, .bool b11]=some ((a0 == b0) && ((a1 == b1) && ((a2 == b2) && ((a3 == b3) && ((a4 == b4) && ((a5 == b5) && ((a6 == b6) && ((a7 == b7) && ((a8 == b8) && ((a9 == b9) && ((a10 == b10) && ((a11 == b11) && true)))))))))))):=by kernel_rfl
theorem YB:Sg.byt 74=some 88:=by kernel_rfl
-- 81 [][5]int
theorem Zj:Sg.ti 81=some (1,false):=by kernel_rfl
theorem Zy:Sg.P.underlying 81=some (.slice 132):=by kernel_rfl
theorem ZD:Sg.el 81=some (none,132,5,true):=by kernel_rfl
theorem Zl:Sg.ti 83=some (2,true):=by kernel_rfl
theorem Uv:Sg.fld 83 0=some (0,1,false):=by kernel_rfl
theorem SF:Sg.fld 83 1=some (1,1,false):=by kernel_rfl
theorem ZZ:Sg.ti 85=some (5,true):=by kernel_rfl
theorem Sy:Sg.fld 85 0=some (0,1,false):=by kernel_rfl
theorem Un:Sg.fld 85 1=some (1,1,false):=by kernel_rfl
theorem VI:Sg.fld 85 2=some (2,1,false):=by kernel_rfl
theorem TL:Sg.fld 85 3=some (3,2,true):=by kernel_rfl
theorem ZL:Sg.ti 88=some (11,true):=by kernel_rfl
theorem Vk:Sg.fld 88 0=some (0,1,false):=by kernel_rfl
theorem Tl:Sg.fld 88 1=some (1,1,false):=by kernel_rfl
theorem SB:Sg.fld 88 2=some (2,1,false):=by kernel_rfl
theorem UU:Sg.fld 88 3=some (3,1,false):=by kernel_rfl
theorem VN:Sg.fld 88 4=some (4,1,false):=by kernel_rfl
theorem Vo:Sg.fld 88 5=some (5,1,false):=by kernel_rfl
theorem Sp:Sg.fld 88 6=some (6,1,false):=by kernel_rfl
theorem TP:Sg.fld 88 7=some (7,1,false):=by kernel_rfl
theorem Vl:Sg.fld 88 8=some (8,1,false):=by kernel_rfl
theorem Uj:Sg.fld 88 9=some (9,1,false):=by kernel_rfl
theorem Oz:Sg.fld 88 10=some (10,1,false):=by kernel_rfl
theorem ZH:Sg.ti 94=some (1,false):=by kernel_rfl
theorem YE:Sg.P.underlying 94=some (.slice 37):=by kernel_rfl
theorem ZT:Sg.el 94=some (none,37,5,true):=by kernel_rfl
theorem YX:Sg.P.underlying 98=some (.slice 28):=by kernel_rfl
theorem ZC:Sg.el 98=some (none,28,4,true):=by kernel_rfl
theorem Wm:Sg.P.underlying 108=some (.slice 4):=by kernel_rfl
theorem Xr:Sg.el 108=some (none,4,1,false):=by kernel_rfl
theorem Ym:Sg.zero 116=some [.int .i64 0, .int .i64 0, .int .u16 0, .int .u16 0, .int .u16 0, .int .u16 0, .int .u16 0, .int .u16 0, .int .u16 0, .int .u16 0, .int .u16 0, .int .u16 0, .int .u16 0, .int .u16 0, .int .u16 0, .int .u16 0, .int .u16 0, .int .u16 0]:=by kernel_rfl
theorem Yk:Sg.bld 116=some (some [(0,1),(1,1),(2,5),(7,5),(12,1),(13,5)],0):=by kernel_rfl
theorem Xh:Sg.byt 116=some 48:=by kernel_rfl
-- 122 []render.frame
theorem Wo:Sg.ti 122=some (1,false):=by kernel_rfl
theorem WD:Sg.P.underlying 122=some (.slice 170):=by kernel_rfl
theorem Ww:Sg.el 122=some (none,170,14,true):=by kernel_rfl
theorem XU:Sg.zero 124=some [.int .i64 0, .int .i64 0, .int .i64 0, .int .i64 0, .int .i64 0, .int .i64 0, .int .i64 0, .slice none 0 0, .slice none 0 0, .slice none 0 0, .int .u16 0, .slice none 0 0, .slice none 0 0]:=by kernel_rfl
theorem VX:Sg.bld 124=some (some [(0,10),(10,1),(11,1),(12,1)],0):=by kernel_rfl
theorem Py:Sg.fld 124 0=some (0,10,true):=by kernel_rfl
theorem QC:Sg.fld 124 1=some (10,1,false):=by kernel_rfl
theorem PN:Sg.fld 124 2=some (11,1,false):=by kernel_rfl
theorem Ro:Sg.fld 124 3=some (12,1,false):=by kernel_rfl
theorem Wb:Sg.el 130=some (some 5,34,1,false):=by kernel_rfl
theorem XE:Sg.zero 130=some [.int .u16 0, .int .u16 0, .int .u16 0, .int .u16 0, .int .u16 0]:=by kernel_rfl
theorem Xz:Sg.bld 130=some (none,1):=by kernel_rfl
theorem WW:Sg.ti 132=some (5,true):=by kernel_rfl
theorem VY:Sg.el 132=some (some 5,3,1,false):=by kernel_rfl
theorem Xg:Sg.zero 132=some [.int .i64 0, .int .i64 0, .int .i64 0, .int .i64 0, .int .i64 0]:=by kernel_rfl
theorem WN:Sg.bld 132=some (none,1):=by kernel_rfl
theorem XA:Sg.ti 147=some (6,true):=by kernel_rfl
theorem Yf:Sg.zero 147=some [.int .u16 0, .int .u16 0, .int .u16 0, .int .u16 0, .int .u16 0, .int .u16 0]:=by kernel_rfl
theorem Xt:Sg.bld 147=some (some [(0,3),(3,1),(4,1),(5,1)],0):=by kernel_rfl
theorem ON:Sg.fld 147 0=some (0,3,true):=by kernel_rfl
theorem Oa:Sg.fld 147 1=some (3,1,false):=by kernel_rfl
theorem Rc:Sg.fld 147 2=some (4,1,false):=by kernel_rfl
theorem Qq:Sg.fld 147 3=some (5,1,false):=by kernel_rfl
theorem Yg (a0 b0:Int) (a1 b1:Int) (a2 b2:Int) (a3 b3:Int) (a4 b4:Int) (a5 b5:Int):Sg.eqv 147 [.int .u16 a0, .int .u16 a1, .int .u16 a2, .int .u16 a3, .int .u16 a4, .int .u16 a5] [.int .u16 b0, .int .u16 b1, .int .u16 b2, .int .u16 b3, .int .u16 b4, .int .u16 b5]=some (((a0 == b0) && ((a1 == b1) && ((a2 == b2) && true))) && ((a3 == b3) && ((a4 == b4) && ((a5 == b5) && true)))):=by kernel_rfl
theorem WH:Sg.byt 147=some 12:=by kernel_rfl
-- 159 []api.Micro
theorem Yl:Sg.el 159=some (none,116,18,true):=by kernel_rfl
theorem Wv:Sg.ti 168=some (1,false):=by kernel_rfl
theorem Wz:Sg.P.underlying 168=some (.slice 147):=by kernel_rfl
theorem Xd:Sg.el 168=some (none,147,6,true):=by kernel_rfl
theorem WT:Sg.ti 170=some (14,true):=by kernel_rfl
theorem XV:Sg.zero 170=some [.int .i64 0, .int .i64 0, .int .i64 0, .int .i64 0, .int .i64 0, .int .i64 0, .int .i64 0, .int .u16 0, .int .i64 0, .int .i64 0, .bool false, .bool false, .slice none 0 0, .slice none 0 0]:=by kernel_rfl
theorem Wl:Sg.bld 170=some (some [(0,12),(12,1),(13,1)],0):=by kernel_rfl
theorem RC:Sg.fld 170 0=some (0,12,true):=by kernel_rfl
theorem PP:Sg.fld 170 1=some (12,1,false):=by kernel_rfl
theorem QB:Sg.fld 170 2=some (13,1,false):=by kernel_rfl
theorem Xa:Sg.byt 170=some 136:=by kernel_rfl
-- 183 struct { op api.Op;acc api.Accum;back api.Pixel }
theorem XB:Sg.ti 206=some (23,true):=by kernel_rfl
theorem Xl:Sg.zero 206=some [.int .i64 0, .int .i64 0, .int .i64 0, .int .i64 0, .int .i64 0, .int .i64 0, .int .i64 0, .int .u16 0, .int .i64 0, .int .i64 0, .bool false, .bool false, .int .u16 0, .int .u16 0, .int .u16 0, .int .u16 0, .int .u16 0, .int .u16 0, .int .u16 0, .int .u16 0, .int .u16 0, .int .u16 0, .int .u16 0]:=by kernel_rfl
theorem Wr:Sg.bld 206=some (some [(0,12),(12,6),(18,5)],0):=by kernel_rfl
theorem OF:Sg.fld 206 0=some (0,12,true):=by kernel_rfl
theorem Qi:Sg.fld 206 1=some (12,6,true):=by kernel_rfl
theorem RH:Sg.fld 206 2=some (18,5,true):=by kernel_rfl
theorem Xq:Sg.byt 206=some 112:=by kernel_rfl
-- 207 []compositorref22.level
theorem WV:Sg.ti 207=some (1,false):=by kernel_rfl
theorem Wh:Sg.P.underlying 207=some (.slice 206):=by kernel_rfl
theorem Wy:Sg.el 207=some (none,206,23,true):=by kernel_rfl
theorem WA:Sg.zero 209=some [.int .u16 0, .slice none 0 0]:=by kernel_rfl
theorem Xf:Sg.bld 209=some (some [(0,1),(1,1)],0):=by kernel_rfl
theorem OW:Sg.fld 209 0=some (0,1,false):=by kernel_rfl
theorem Qj:Sg.fld 209 1=some (1,1,false):=by kernel_rfl
theorem XD:Sg.ti 221=some (1,false):=by kernel_rfl
theorem Xi:Sg.P.underlying 221=some (.int .u64):=by kernel_rfl
theorem Wt:Sg.zero 224=some [.pointer none, .pointer none, .pointer none, .pointer none, .pointer none]:=by kernel_rfl
theorem VR:Sg.bld 224=some (none,1):=by kernel_rfl
theorem Yd:Sg.P.underlying 225=some (.int .u32):=by kernel_rfl
theorem XO:Sg.ti 236=some (4,true):=by kernel_rfl
theorem WB:Sg.zero 236=some [.string ⟨#[]⟩, .int .i64 0, .int .i64 0, .int .i64 0]:=by kernel_rfl
theorem Yh:Sg.bld 236=some (some [(0,1),(1,1),(2,1),(3,1)],0):=by kernel_rfl
theorem Pw:Sg.fld 236 0=some (0,1,false):=by kernel_rfl
theorem QJ:Sg.fld 236 1=some (1,1,false):=by kernel_rfl
theorem Qt:Sg.fld 236 2=some (2,1,false):=by kernel_rfl
theorem Og:Sg.fld 236 3=some (3,1,false):=by kernel_rfl
theorem WR:Sg.el 239=some (some 13,9,1,false):=by kernel_rfl
theorem WI:Sg.P.underlying 240=some (.int .u64):=by kernel_rfl
theorem XJ:Sg.P.underlying 244=some (.slice 9):=by kernel_rfl
theorem Wu:Sg.el 244=some (none,9,1,false):=by kernel_rfl
theorem Xj:Sg.el 246=some (some 13,236,4,true):=by kernel_rfl
theorem Yb:Sg.ti 251=some (2,true):=by kernel_rfl
theorem XK:Sg.zero 251=some [.int .u64 0, .int .u64 0]:=by kernel_rfl
theorem XH:Sg.bld 251=some (some [(0,1),(1,1)],0):=by kernel_rfl
theorem Rg:Sg.fld 251 0=some (0,1,false):=by kernel_rfl
theorem Pd:Sg.fld 251 1=some (1,1,false):=by kernel_rfl
theorem Yi (a0 b0:Int) (a1 b1:Int):Sg.eqv 251 [.int .u64 a0, .int .u64 a1] [.int .u64 b0, .int .u64 b1]=some ((a0 == b0) && ((a1 == b1) && true)):=by kernel_rfl
theorem XX:Sg.ti 253=some (5,true):=by kernel_rfl
theorem XQ:Sg.zero 253=some [.int .u64 0, .int .u64 0, .int .u64 0, .int .u64 0, .int .u64 0]:=by kernel_rfl
theorem WG:Sg.bld 253=some (some [(0,2),(2,1),(3,1),(4,1)],0):=by kernel_rfl
theorem Qm:Sg.fld 253 0=some (0,2,true):=by kernel_rfl
theorem Ov:Sg.fld 253 1=some (2,1,false):=by kernel_rfl
theorem OY:Sg.fld 253 2=some (3,1,false):=by kernel_rfl
theorem Oj:Sg.fld 253 3=some (4,1,false):=by kernel_rfl
theorem UW (g:Nat→PV):eL 1 g=[.p (g 0)]:=rfl
theorem Up (g:Nat→PV):eL 2 g=[.p (g 0), .p (g 1)]:=rfl
theorem SO (g:Nat→PV):eL 3 g=[.p (g 0), .p (g 1), .p (g 2)]:=rfl
theorem UA (g:Nat→PV):eL 4 g=[.p (g 0), .p (g 1), .p (g 2), .p (g 3)]:=rfl
theorem Vj (g:Nat→PV):eL 5 g=[.p (g 0), .p (g 1), .p (g 2), .p (g 3), .p (g 4)]:=rfl
theorem UL (g:Nat→PV):eL 6 g=[.p (g 0), .p (g 1), .p (g 2), .p (g 3), .p (g 4), .p (g 5)]:=rfl
theorem Qn (g:Nat→PV):eL 10 g=[.p (g 0), .p (g 1), .p (g 2), .p (g 3), .p (g 4), .p (g 5), .p (g 6), .p (g 7), .p (g 8), .p (g 9)]:=rfl
theorem RR (g:Nat→PV):eL 11 g=[.p (g 0), .p (g 1), .p (g 2), .p (g 3), .p (g 4), .p (g 5), .p (g 6), .p (g 7), .p (g 8), .p (g 9), .p (g 10)]:=rfl
theorem Rv (g:Nat→PV):eL 12 g=[.p (g 0), .p (g 1), .p (g 2), .p (g 3), .p (g 4), .p (g 5), .p (g 6), .p (g 7), .p (g 8), .p (g 9), .p (g 10), .p (g 11)]:=rfl
theorem OQ (g:Nat→PV):eL 13 g=[.p (g 0), .p (g 1), .p (g 2), .p (g 3), .p (g 4), .p (g 5), .p (g 6), .p (g 7), .p (g 8), .p (g 9), .p (g 10), .p (g 11), .p (g 12)]:=rfl
theorem Pz (g:Nat→PV):eL 14 g=[.p (g 0), .p (g 1), .p (g 2), .p (g 3), .p (g 4), .p (g 5), .p (g 6), .p (g 7), .p (g 8), .p (g 9), .p (g 10), .p (g 11), .p (g 12), .p (g 13)]:=rfl
theorem Qz (g:Nat→PV):eL 18 g=[.p (g 0), .p (g 1), .p (g 2), .p (g 3), .p (g 4), .p (g 5), .p (g 6), .p (g 7), .p (g 8), .p (g 9), .p (g 10), .p (g 11), .p (g 12), .p (g 13), .p (g 14), .p (g 15), .p (g 16), .p (g 17)]:=rfl
theorem Qp (g:Nat→PV):eL 20 g=[.p (g 0), .p (g 1), .p (g 2), .p (g 3), .p (g 4), .p (g 5), .p (g 6), .p (g 7), .p (g 8), .p (g 9), .p (g 10), .p (g 11), .p (g 12), .p (g 13), .p (g 14), .p (g 15), .p (g 16), .p (g 17), .p (g 18), .p (g 19)]:=rfl
theorem Pv (g:Nat→PV):eL 23 g=[.p (g 0), .p (g 1), .p (g 2), .p (g 3), .p (g 4), .p (g 5), .p (g 6), .p (g 7), .p (g 8), .p (g 9), .p (g 10), .p (g 11), .p (g 12), .p (g 13), .p (g 14), .p (g 15), .p (g 16), .p (g 17), .p (g 18), .p (g 19), .p (g 20), .p (g 21), .p (g 22)]:=rfl
theorem Pf (g:Nat→PV):eL 28 g=[.p (g 0), .p (g 1), .p (g 2), .p (g 3), .p (g 4), .p (g 5), .p (g 6), .p (g 7), .p (g 8), .p (g 9), .p (g 10), .p (g 11), .p (g 12), .p (g 13), .p (g 14), .p (g 15), .p (g 16), .p (g 17), .p (g 18), .p (g 19), .p (g 20), .p (g 21), .p (g 22), .p (g 23), .p (g 24), .p (g 25), .p (g 26), .p (g 27)]:=rfl
theorem NR (g:Nat→PV):eL 52 g=[.p (g 0), .p (g 1), .p (g 2), .p (g 3), .p (g 4), .p (g 5), .p (g 6), .p (g 7), .p (g 8), .p (g 9), .p (g 10), .p (g 11), .p (g 12), .p (g 13), .p (g 14), .p (g 15), .p (g 16), .p (g 17), .p (g 18), .p (g 19), .p (g 20), .p (g 21), .p (g 22), .p (g 23), .p (g 24), .p (g 25), .p (g 26), .p (g 27), .p (g 28), .p (g 29), .p (g 30), .p (g 31), .p (g 32), .p (g 33), .p (g 34), .p (g 35), .p (g 36), .p (g 37), .p (g 38), .p (g 39), .p (g 40), .p (g 41), .p (g 42), .p (g 43), .p (g 44), .p (g 45), .p (g 46), .p (g 47), .p (g 48), .p (g 49), .p (g 50), .p (g 51)]:=rfl
attribute [go_sem] gl0 gl1 Sw Vx Qe OH RJ PW Rw OC OJ Oh Oy Qs Nt Ls Ka My ti3 un3 ze3 by3 ti4 un4 ze4 by4 un5 ti9 un9 ze9 Zr a0f Zf a0i a0a ZJ YV Zb a0b Zu SA UO SJ Vp Sz Tg Su Uw Vi Vd YP YG ZM UN UC UG TX YR ZQ YD YS ZK ZV YN Zd Zg ZS a0h SW TS SI Vw Vb Ta Tp ZP a0c Ys Yv YL Yr Zc Zs YF Yw Zm TF Ur Vy YJ YK YM ZN Yu a0e Zi YQ SS Ud Vm Sn YY ZY a0d Zo YU TG SY VC SH Tk Za YH YW Yz a0j ZR YZ ZA Vt TQ Tu Ti UP Vu Sm Ux SU TN RD Rs Zq YB Zj Zy ZD Zl Uv SF ZZ Sy Un VI TL ZL Vk Tl SB UU VN Vo Sp TP Vl Uj Oz ZH YE ZT YX ZC Wm Xr Ym Yk Xh Wo WD Ww XU VX Py QC PN Ro Wb XE Xz WW VY Xg WN XA Yf Xt ON Oa Rc Qq Yg WH Yl Wv Wz Xd WT XV Wl RC PP QB Xa XB Xl Wr OF Qi RH Xq WV Wh Wy WA Xf OW Qj XD Xi Wt VR Yd XO WB Yh Pw QJ Qt Og WR WI XJ Wu Xj Yb XK XH Rg Pd Yi XX XQ WG Qm Ov OY Oj UW Up SO UA Vj UL Qn RR Rv OQ Pz Qz Qp Pv Pf NR
end Go.Proofs.YtcbifofjjpfbcaaGreatDoor
namespace Go.SL
open Go
section
inductive Tr where
 | leaf
 | nil
 | br (i:Nat) (t r:Tr)
def fL (S:Env) (ops:Array Oper) (L:List Oper):Tr→St→(St→Prop)→Prop
 | .leaf,st,K=>K st
 | .nil,_,_=>True
 | .br i t r,st,K=>aY S ops [L.getD i default] st (fun s=>fL S ops L t s K)∧fL S ops L r st K
def eK:Tr→List Nat
 | .br i _ r=>i :: eK r
 | _=>[]
def iD:Tr→Nat
 | .br _ t r=>max (iD t+1) (iD r)
 | _=>0
section
variable {S:Env} {l:List Oper}
theorem DZ {ops:Array Oper} {L:List Oper} {st:St} {K:St→Prop}:fL S ops L .leaf st K=K st:=rfl
theorem Hn {ops:Array Oper} {L:List Oper} {st:St} {K:St→Prop}:fL S ops L .nil st K=True:=rfl
theorem LW {ops:Array Oper} {L:List Oper} {st:St} {K:St→Prop} {i:Nat} {t r:Tr}:fL S ops L (.br i t r) st K=(aY S ops [L.getD i default] st (fun s=>fL S ops L t s K)∧fL S ops L r st K):=rfl
end
theorem NX {x:Oper} {r:List Oper}:(x :: r).getD 0 default=x:=rfl
theorem QW {x:Oper} {r:List Oper} {i:Nat}:(x :: r).getD (i+1) default=r.getD i default:=rfl
attribute [go_sem] DZ Hn LW NX QW
end
section
def As (f:FuncId) (l:List SV):Option (Prop × SV) :=
 match jv l with
 | some ps=>some (True, .b (.c (.clo f ps)))
 | none=>none
def Yc (S:Env) (st:St) (v:SV) (args:List BV) {K:SV→St→Prop} (_:Sl K):Prop :=
 match rb v with
 | some (f,xs)=>CallP S st f (args ++ xs) K
 | none=>False
section
variable {S:Env} {ops:Array Oper} {rest:List Oper} {st:St} {K:St→Prop} {d:Option Nat} {ty:TypeId} {pos:String} {af:Array Edge}
theorem OU {f : FuncId} {ps : List (Nat × Nat)} {args : List BV} {K : SV → St → Prop} :
  Yc S st (.b (.c (.clo f ps))) args (Sl.of K)=en S st f (args ++ ps.map fun p => .c (.ptr p.1 p.2)) (Sl.of K):=rfl
theorem Pr {f n : Nat} {sz : Nat → Nat} {g : Nat → Nat → PV} {args : List BV} {K : SV → St → Prop} :
  Yc S st (.b (.c (.p (.fn f n sz g)))) args (Sl.of K)=en S st f (args ++ (List.range n).map fun i => .c (.ipt (sz i) (g i) 0)) (Sl.of K):=rfl
theorem ET {f : FuncId} {cap : Array Operand} : aY S ops (⟨d, .makeFunc (.func f) #[] cap, ty, pos, af, none⟩ :: rest) st K =
  rk (As f (cap.toList.map fun x=>(st.ev S x).strip)) (bc (cap.toList.map (st.ev S))) (Sl.of fun r=>aY S ops rest (st.set d r) K):=by
 simp only [aY,eX];rw [dD (by simp) (by simp) (by simp) (fun _=>rfl)];have e:bA S st.bx (st.ev S) (.makeFunc (.func f) #[] cap)=As f (cap.toList.map fun x=>(st.ev S x).strip):=by
  simp only [bA,As];split
  ·grind
  ·grind
 grind [Op.operands]
theorem LS:jv []=some []:=rfl
theorem HJ {id off:Nat} {r:List SV}:jv (.b (.c (.ptr id off)) :: r)=(jv r).map fun l=>(id,off) :: l:=rfl
end
def aJ (n:Nat) (x:Bx) (b:Nat→Option Bx):Nat→Option Bx:=fun i=>if i=n then some x else b i
def dr (n:Nat) (b:Nat→Option Bx):Nat→Option Bx:=fun i=>if i=n then none else b i
theorem Vn {st:St} {d:Option Nat} {v:SV}:(st.set d v).kf=st.kf:=by cases d <;> rfl
theorem HK {st:St} {x:Bx}:(st.newBox x).kf=st.kf:=rfl
theorem HU {st:St} {id:Nat} {x:Bx}:(st.setBox id x).kf=st.kf:=rfl
theorem HG {st:St} {id:Nat}:(st.delBox id).kf=st.kf:=rfl
theorem TJ {n i:Nat} {x:Bx} {b:Nat→Option Bx}:aJ n x b i=if i=n then some x else b i:=rfl
theorem So {n i:Nat} {b:Nat→Option Bx}:dr n b i=if i=n then none else b i:=rfl
def Jf (args:List BV) (bx:Nat→Option Bx) (nx:Nat) (kf:Nat→SV):St:=⟨jQ args 0,bx,nx,kf⟩
def St.turn (st:St) (bx:Nat→Option Bx) (nx:Nat):St:=⟨st.fr,bx,nx,st.kf⟩
theorem UT {args:List BV} {bx:Nat→Option Bx} {nx:Nat} {kf:Nat→SV} {s:Nat}:(Jf args bx nx kf).fr s=jQ args 0 s:=rfl
theorem SX {args:List BV} {bx:Nat→Option Bx} {nx:Nat} {kf:Nat→SV}:(Jf args bx nx kf).bx=bx:=rfl
theorem Tz {args:List BV} {bx:Nat→Option Bx} {nx:Nat} {kf:Nat→SV}:(Jf args bx nx kf).nx=nx:=rfl
theorem Vv {args:List BV} {bx:Nat→Option Bx} {nx:Nat} {kf:Nat→SV}:(Jf args bx nx kf).kf=kf:=rfl
theorem Oc {st:St} {bx:Nat→Option Bx} {nx:Nat} {s:Nat}:(st.turn bx nx).fr s=st.fr s:=rfl
theorem Rk {st:St} {bx:Nat→Option Bx} {nx:Nat}:(st.turn bx nx).bx=bx:=rfl
theorem RG {st:St} {bx:Nat→Option Bx} {nx:Nat}:(st.turn bx nx).nx=nx:=rfl
theorem Oo {st:St} {bx:Nat→Option Bx} {nx:Nat}:(st.turn bx nx).kf=st.kf:=rfl
def Om (S:Env) (st:St):ResultVar→Option (Prop × BV)
 | .tmp t=>match st.fr t with
  | .b x=>some (True,x)
  | _=>none
 | .cell p t=>match ef S t st.bx (st.fr p) with
  | some (vc, .b x)=>some (vc,x)
  | _=>none
def kn (S:Env) (st:St):List ResultVar→Option (Prop × List BV)
 | []=>some (True,[])
 | r :: l=>match Om S st r,kn S st l with
  | some (p,x),some (q,xs)=>some (p∧q,x :: xs)
  | _,_=>none
def JT:List BV→SV
 | [x] => .b x
 | l => .tup l
def Kx (S:Env) (rs:List ResultVar) (X:SV) (bx':Nat→Option Bx) (nx':Nat) (kf:Nat→SV) (st:St):Prop :=
 match kn S st rs with
 | some (p,xs)=>p∧JT xs=X∧st.bx=bx'∧st.nx=nx'∧st.kf=kf∧X.lt nx'
 | none=>False
def WO (S:Env) (rs:List ResultVar) (X:SV) (bx':Nat→Option Bx) (nx':Nat) (kf:Nat→SV):AExit→St→Prop
 | .ret,st=>Kx S rs X bx' nx' kf st
 | .normal,st=>Kx S rs X bx' nx' kf st
 | _,_=>False
theorem Nd {S:Env} {rs:List ResultVar} {X:SV} {bx':Nat→Option Bx} {nx':Nat} {kf:Nat→SV} {st:St}:WO S rs X bx' nx' kf .ret st=Kx S rs X bx' nx' kf st:=rfl
theorem Du {S:Env} {rs:List ResultVar} {X:SV} {bx':Nat→Option Bx} {nx':Nat} {kf:Nat→SV} {st:St}:WO S rs X bx' nx' kf .normal st=Kx S rs X bx' nx' kf st:=rfl
section
variable {S:Env} {E:Ent} {st:St} {ρ:gU} {a:Act} {w:World}
theorem Mg {r:ResultVar} {p:Prop} {x:BV} (h:Om S st r=some (p,x)) (hp:p) (g:Gam S E st ρ a w):∃ v,sX S.P a.tmps w r v∧cq ρ (bR E st.bx ρ w) w x v:=by
 unfold Om at h;split at h
 ·rename_i t;have hs:=g.slt t;split at h
  ·rename_i y hy;rw [hy] at hs;simp only [Option.some.injEq,Prod.mk.injEq] at h;obtain ⟨_,rfl⟩:=h;exact ⟨_,rfl,hs⟩
  grind
 ·rename_i q t;split at h
  ·rename_i vc y hl;simp only [Option.some.injEq,Prod.mk.injEq] at h;obtain ⟨rfl,rfl⟩:=h;obtain ⟨v,hr,hv,_⟩:=vR hl hp g (g.slt q);refine ⟨v, ?_,hv⟩;unfold sX ri;simp only [Instr.loadAt,Sem.run_bind] at hr ⊢;cases hq:a.tmps.getD q undef <;> simp only [hq,Instr.sureAddr,run_stuck,Result.andThen_halt,reduceCtorEq] at hr
   rename_i ad;cases ad with
   | none=>simp_all
   | some ad=>grind [asAddr]
  grind
theorem jK (g : Gam S E st ρ a w) : ∀ {rs : List ResultVar} {p : Prop} {xs : List BV},
  kn S st rs=some (p,xs)→p→∃ vs:List Value,(rs.mapM (ri a.tmps)).run S.P w = .ok vs w∧vs.length=xs.length∧∀ j,cq ρ (bR E st.bx ρ w) w (xs.getD j .any) (vs.getD j undef)
 | [],p,xs,h,_=>by
  simp only [kn,Option.some.injEq,Prod.mk.injEq] at h;obtain ⟨_,rfl⟩:=h;exact ⟨[],by simp,rfl,fun j=>by simp [cq,cC,bo]⟩
 | r :: rs,p,xs,h,hp=>by
  simp only [kn] at h;split at h
  ·rename_i p1 x1 p2 xs2 h1 h2;simp only [Option.some.injEq,Prod.mk.injEq] at h;obtain ⟨rfl,rfl⟩:=h;obtain ⟨v,hv,hd⟩:=Mg h1 hp.1 g;obtain ⟨vs,hvs,hl,hds⟩:=jK g h2 hp.2;refine ⟨v :: vs, ?_,by simp [hl],fun j => ?_⟩
   ·unfold sX at hv;simp_all
   ·cases j with
    | zero=>exact hd
    | succ j=>exact hds j
  grind
theorem rh {fn : Func} {xs : List BV} {vs : List Value} {ok : Nat → Prop} (hvs : (fn.results.toList.mapM (ri a.tmps)).run S.P w = .ok vs w) (hl : vs.length = xs.length)
  (hd:∀ j,cq ρ ok w (xs.getD j .any) (vs.getD j undef)):∃ v,(results fn a.tmps).run S.P w = .ok v w∧bz ρ ok w (JT xs) v:=by
 refine ⟨_,lE hvs, ?_⟩
 match vs,xs,hl with
 | [],[],_=>exact ⟨#[],rfl,rfl,fun j=>by grind⟩
 | [v],[x],_=>exact hd 0
 | v :: v2 :: vs, x :: x2 :: xs, hl => exact ⟨(v :: v2 :: vs).toArray, rfl, by omega, fun j => by
   simp_all⟩
theorem eT {f : FuncId} {args : List BV} {K : SV → St → Prop} {X : SV} {bx' : Nat → Option Bx} {nx' : Nat} (h : lU S st.bx st.nx f args X bx' nx') (hr : S.rcv f = true) (hw : ∀ i, nx' ≤ i → bx' i = none) (hn : st.nx ≤ nx')
  (hk:K X (st.turn bx' nx')):en S st f args (Sl.of K) := .inl X bx' nx' h hr hw hk hn
end
def EL (rs:List ResultVar) (e sz n:Nat) (g:Nat→Nat→PV) (st:St):Prop :=
 match rs with
 | [.tmp t]=>match st.fr t with
  | .b (.c (.own id n'))=>∃ f,st.bx id=some (.arr e sz n f)∧n'=n∧∀ i,i<n→∀ j,j<sz→∃ u,f i j = .val u∧g i j = .val u
  | _=>False
 | _=>False
def TV (rs:List ResultVar) (e sz n:Nat) (g:Nat→Nat→PV):AExit→St→Prop
 | .ret,st=>EL rs e sz n g st
 | .normal,st=>EL rs e sz n g st
 | _,_=>False
theorem KC {rs:List ResultVar} {e sz n:Nat} {g:Nat→Nat→PV} {st:St}:TV rs e sz n g .ret st=EL rs e sz n g st:=rfl
theorem Dm {rs:List ResultVar} {e sz n:Nat} {g:Nat→Nat→PV} {st:St}:TV rs e sz n g .normal st=EL rs e sz n g st:=rfl
theorem Ef {S : Env} {f : FuncId} {fn : Func} {c : Code} {rs : List ResultVar} {args : List BV} {e sz n : Nat} {g : Nat → Nat → PV} (hf : S.P.funcs[f]? = some fn) (hb : fn.body = some c) (hrs : fn.results.toList = rs) (hname : (fn.name == "runtime.NumGoroutine") = false)
  (hm:S.P.follows .mixedOrders=true) (hN:dk fn.ntmps c=true) (hlen:args.length≤fn.ntmps) (hl:∀ x ∈ args,BV.lt 0 x) (h:cw S c (TV rs e sz n g) (wP args)):iV S f args e sz n g:=by
 subst hrs;refine ⟨⟨fn,hf,hname,by grind⟩,fun ok w vs hok hgl hsz hden => ?_⟩;refine calls_of_wp hf hb ?_
 let E:Ent := { w0:=w,ok0:=ok,rx:=none,N:=fn.ntmps }
 have hokA:∀ b,ok b→bR E (fun _=>none) ck w b:=fun b hb=>⟨hok b hb,fun _=>hb,fun _ h=>absurd rfl h⟩
 have hk:gy ok (bR E (fun _=>none) ck w) w w:=fun b hb=>⟨hokA b hb,fun _=>rfl⟩
 have g0:Gam S E (wP args) ck { tmps:=vs ++ Array.replicate (fn.ntmps - vs.size) undef,defers:=[] } w:=by
  refine ⟨rfl,by grind,⟨rfl,rfl,rfl,Nat.le_refl _,fun _ _ _=>rfl,fun _ _ _ h=>(by cases h)⟩,fun s => ?_,fun _ _ h=>(by cases h),fun _ _ h=>(by cases h),fun _ _ _ h=>(by cases h),fun _ _ _ h=>absurd rfl h,
   fun _ _ _ h=>(by cases h),fun s => ?_,fun gg n f hg => ?_,fun s=>⟨trivial,trivial⟩⟩
  ·simp only [wP,cz];split
   ·rename_i hs;refine hl _ ?_;grind
   ·trivial
  ·simp only [wP,cz];split
   ·rename_i hs;have e:(vs ++ Array.replicate (fn.ntmps - vs.size) undef).getD s undef=vs.getD s undef:=by
     have:s<vs.size:=by omega
     simp [this];rw [Array.getElem?_append_left this];simp [this]
    rw [e];exact cq.mono (nx:=0) hk (fun _ _=>rfl) (hl _ (by grind)) (hden (s - 0))
   ·trivial
  ·obtain ⟨h1,h2⟩:=hgl gg n f hg;refine ⟨hokA gg h1,fun j hj => ?_⟩;obtain ⟨x,hx,h3,hd⟩:=h2 j hj;exact ⟨x,hx,h3,bo.mono hk hd⟩
 have fin : ∀ {a' : Act} {w' : World}, lu S E (EL fn.results.toList e sz n g) a' w' → a'.defers = [] ∧ ∃ v, (results fn a'.tmps).run S.P w' = .ok v w' ∧
   ∃ v2 xs,Ending.returned v = .returned v2∧RowKit.Below w.heap.size w w'∧0<sz∧w'.ownsRow w.heap.size e sz v2 n xs∧(∀ x ∈ xs,x.oneCell'=true) ∧
    ∀ i,i<n→∀ j,j<sz→bo (fun _=>False) w' (g i j) (xs.getD (i * sz+j) undef):=fun {a' w'} ⟨st',ρ',g',hq⟩=>by
  unfold EL at hq;split at hq
  ·rename_i t hrs;split at hq
   ·rename_i id n' hfr;obtain ⟨f2,hbx,rfl,hgf⟩:=hq;have hs:=g'.slt t;rw [hfr] at hs;obtain ⟨A,m,cp,hr,h1,h2,h3,hu⟩:=hs;obtain ⟨h0,xs,hown,hone,hd⟩:=g'.bxs id _ hbx;have hmn:m=n':=by
     rcases hown.2 with ⟨e1,e2⟩|⟨b,cap,cur,e1,_⟩
     ·grind
     ·grind
    subst hmn;have hv:a'.tmps.getD t undef=ρ' id:=by rw [hu,hr]
    have hres:(fn.results.toList.mapM (ri a'.tmps)).run S.P w' = .ok [ρ' id] w':=by rw [hrs,← hv];rfl
    refine ⟨g'.dfr,ρ' id,lE hres,ρ' id,xs,rfl,⟨g'.frm.os,g'.frm.tape,g'.frm.output,g'.frm.size,fun k hk=>g'.frm.block k hk (fun _ _ h=>by cases h)⟩,h0,⟨hown.1, ?_⟩,hone,fun i hi j hj => ?_⟩
    ·rcases hown.2 with h|⟨b,cap,cur,e1,e2,e3⟩
     ·grind
     ·refine .inr ⟨b,cap,cur,e1, ?_,e3⟩;rcases (g'.new id _ b hbx (by rw [e1];rfl)).2 with h|⟨_,_,_,h,_⟩
      ·exact h
      ·cases h
    grind [bo,undef,bR]
   grind
  grind
 refine wp_mono (ft hm c hN h g0) fun e a' w' hq => ?_;cases e with
 | normal=>exact fin hq
 | ret=>exact fin hq
 | exit id=>obtain ⟨_,_,_,h⟩:=hq;exact h.elim
 | _=>exact hq.elim
def sv (bx:Nat→Option Bx) (id off:Nat):Option (Nat × (Nat→PV)) :=
 match bx id with
 | some (.fix cs)=>if off≤cs.length then some (cs.length - off,fun j=>(fK bx (cs.getD (off+j) .any)).toP) else none
 | _=>none
def Af (bx:Nat→Option Bx) (p:Nat × Nat):Nat × (Nat→PV):=(sv bx p.1 p.2).getD (0,fun _ => .any)
def Ig (bx:Nat→Option Bx):CV→CV
 | .ptr id off=>match sv bx id off with
  | some (n,g) => .ipt n g 0
  | none => .ptr id off
 | .clo f ps=>if ps.all (fun p=>(sv bx p.1 p.2).isSome)=true then .p (.fn f ps.length (fun i=>(Af bx (ps.getD i (0,0))).1) (fun i=>(Af bx (ps.getD i (0,0))).2)) else .clo f ps
 | x=>fK bx x
def xT (bx:Nat→Option Bx):BV→BV
 | .c x => .c (Ig bx x)
 | .agg cs => .agg (cs.map (Ig bx))
def EK (S:Env) (rs:List ResultVar) (R:SV→Prop) (st:St):Prop :=
 match kn S st rs with
 | some (p,xs)=>p∧(∀ x ∈ xs.map (xT st.bx),BV.lt 0 x)∧R (JT (xs.map (xT st.bx)))
 | none=>False
def JS (S:Env) (rs:List ResultVar) (R:SV→Prop):AExit→St→Prop
 | .ret,st=>EK S rs R st
 | .normal,st=>EK S rs R st
 | _,_=>False
theorem Ip {S:Env} {rs:List ResultVar} {R:SV→Prop} {st:St}:JS S rs R .ret st=EK S rs R st:=rfl
theorem Ag {S:Env} {rs:List ResultVar} {R:SV→Prop} {st:St}:JS S rs R .normal st=EK S rs R st:=rfl
section
variable {S:Env} {E:Ent} {st:St} {ρ:gU} {a:Act} {w:World}
theorem KF {x:CV} {u:Value} {ok:Nat→Prop} (h:cC ρ ok w x u):bo ok w x.toP u:=by
 cases x with
 | p x=>exact h
 | _=>trivial
theorem xb {id off n : Nat} {g : Nat → PV} {u : Value} {ok : Nat → Prop} (G : Gam S E st ρ a w) (hrx : E.rx = none) (hok : ∀ b, bR E st.bx ρ w b → ok b) (hnew : ∀ b, b < w.heap.size → E.w0.heap.size ≤ b → ok b)
  (ho:sv st.bx id off=some (n,g)) (h:∃ b o,ρ id = .pointer (some ⟨b,o,none⟩)∧u = .pointer (some ⟨b,o+off,none⟩)) :
  ∃ b o,u = .pointer (some ⟨b,o,none⟩)∧ok b∧∀ j,j<n→∃ x,w.cell? ⟨b,o+j,none⟩=some x∧x.oneCell'=true∧bo ok w (g j) x:=by
 unfold sv at ho;split at ho
 ·rename_i cs hb;split at ho
  ·rename_i hoff;simp only [Option.some.injEq,Prod.mk.injEq] at ho;obtain ⟨rfl,rfl⟩:=ho;obtain ⟨b,o,hr,hu⟩:=h;obtain ⟨b2,o2,cells,t,hv,hh,hs,h1,hd⟩:=G.bxs id _ hb;rw [hr] at hv;simp only [Value.pointer.injEq,Option.some.injEq,Addr.mk.injEq,and_true] at hv;obtain ⟨rfl,rfl⟩:=hv;have hge:E.w0.heap.size≤b:=by
    rcases (G.new id _ b hb (by rw [hr];rfl)).2 with h|⟨o3,cs3,_,_,e⟩
    ·exact h
    ·grind
   refine ⟨b,o+off,hu,hnew b (ch hh) hge,fun j hj=>⟨cells.getD (o+off+j) undef,bP hh (by omega), ?_, ?_⟩⟩
   ·rw [Nat.add_assoc];exact h1 _ (by omega)
   ·have:=hd (off+j);rw [← Nat.add_assoc] at this;exact KF (po G hok hnew this)
  ·cases ho
 ·cases ho
theorem CG {x : CV} {u : Value} {ok : Nat → Prop} (G : Gam S E st ρ a w) (hrx : E.rx = none) (hok : ∀ b, bR E st.bx ρ w b → ok b) (hnew : ∀ b, b < w.heap.size → E.w0.heap.size ≤ b → ok b)
  (h:cC ρ (bR E st.bx ρ w) w x u):cC ρ ok w (Ig st.bx x) u:=by
 unfold Ig;split
 ·split
  ·rename_i id off n g ho;obtain ⟨b,o,h1,h2,h3⟩:=xb G hrx hok hnew ho h;exact ⟨b,o,h1,h2,h3⟩
  ·exact h
 ·rename_i f ps;split
  ·rename_i hall;obtain ⟨vs,hu,hs,hc⟩:=h;refine ⟨vs,hu,hs,fun i hi => ?_⟩;have hm:ps.getD i (0,0) ∈ ps:=by rw [List.getD_eq_getElem?_getD,List.getElem?_eq_getElem hi];exact List.getElem_mem hi
   have hq:=List.all_eq_true.1 hall _ hm;obtain ⟨q,hq⟩:=Option.isSome_iff_exists.1 hq;have:=xb (n:=q.1) (g:=q.2) G hrx hok hnew hq (hc i hi);grind [Af]
  ·exact h
 grind [po]
theorem Jy {x : BV} {u : Value} {ok : Nat → Prop} (G : Gam S E st ρ a w) (hrx : E.rx = none) (hok : ∀ b, bR E st.bx ρ w b → ok b) (hnew : ∀ b, b < w.heap.size → E.w0.heap.size ≤ b → ok b)
  (h:cq ρ (bR E st.bx ρ w) w x u):cq ρ ok w (xT st.bx x) u:=by
 cases x with
 | c x=>exact CG G hrx hok hnew h
 | agg cs =>
  obtain ⟨us,rfl,hs,h1,hd⟩:=h;refine ⟨us,rfl,by simp [hs],h1,fun j => ?_⟩;by_cases hj:j<cs.length
  ·grind [Ig,CG]
  ·rw [List.getD_eq_getElem?_getD,List.getElem?_eq_none (by simp;omega)];trivial
theorem Bv {f : FuncId} {fn : Func} {c : Code} {rs : List ResultVar} {args : List BV} {R : SV → Prop} (hf : S.P.funcs[f]? = some fn) (hb : fn.body = some c) (hrs : fn.results.toList = rs) (hname : (fn.name == "runtime.NumGoroutine") = false)
  (hm:S.P.follows .mixedOrders=true) (hN:dk fn.ntmps c=true) (hlen:args.length≤fn.ntmps) (hl:∀ x ∈ args,BV.lt 0 x) (h:cw S c (JS S rs R) (wP args)):aA S f args R:=by
 subst hrs;refine ⟨⟨fn,hf,hname,by grind⟩,fun ok w vs hok hgl hsz hden => ?_⟩;refine calls_of_wp hf hb ?_
 let E:Ent := { w0:=w,ok0:=ok,rx:=none,N:=fn.ntmps }
 have hokA:∀ b,ok b→bR E (fun _=>none) ck w b:=fun b hb=>⟨hok b hb,fun _=>hb,fun _ h=>absurd rfl h⟩
 have hk:gy ok (bR E (fun _=>none) ck w) w w:=fun b hb=>⟨hokA b hb,fun _=>rfl⟩
 have g:Gam S E (wP args) ck { tmps:=vs ++ Array.replicate (fn.ntmps - vs.size) undef,defers:=[] } w:=by
  refine ⟨rfl,by grind,⟨rfl,rfl,rfl,Nat.le_refl _,fun _ _ _=>rfl,fun _ _ _ h=>(by cases h)⟩,fun s => ?_,fun _ _ h=>(by cases h),fun _ _ h=>(by cases h),fun _ _ _ h=>(by cases h),fun _ _ _ h=>absurd rfl h,
   fun _ _ _ h=>(by cases h),fun s => ?_,fun gg n f hg => ?_,fun s=>⟨trivial,trivial⟩⟩
  ·simp only [wP,cz];split
   ·rename_i hs;refine hl _ ?_;grind
   ·trivial
  ·simp only [wP,cz];split
   ·rename_i hs;have e:(vs ++ Array.replicate (fn.ntmps - vs.size) undef).getD s undef=vs.getD s undef:=by
     have:s<vs.size:=by omega
     simp [this];rw [Array.getElem?_append_left this];simp [this]
    rw [e];exact cq.mono (nx:=0) hk (fun _ _=>rfl) (hl _ (by grind)) (hden (s - 0))
   ·trivial
  ·obtain ⟨h1,h2⟩:=hgl gg n f hg;refine ⟨hokA gg h1,fun j hj => ?_⟩;obtain ⟨x,hx,h3,hd⟩:=h2 j hj;exact ⟨x,hx,h3,bo.mono hk hd⟩
 have fin : ∀ {a' : Act} {w' : World}, lu S E (EK S fn.results.toList R) a' w' → a'.defers = [] ∧ ∃ v, (results fn a'.tmps).run S.P w' = .ok v w' ∧
   ∃ v2 r,Ending.returned v = .returned v2∧R r∧SV.lt 0 r∧RowKit.Below w.heap.size w w'∧bz ck (JW ok w w') w' r v2:=fun {a' w'} ⟨st',ρ',g',hq⟩=>by
  unfold EK at hq;split at hq
  ·rename_i p xs hr;obtain ⟨hp,hl2,hR⟩:=hq;obtain ⟨vs2,hvs,hlv,hd⟩:=jK g' hr hp;have hd2:∀ j,cq ck (JW ok w w') w' ((xs.map (xT st'.bx)).getD j .any) (vs2.getD j undef):=fun j=>by
    by_cases hj:j<xs.length
    ·have e:(xs.map (xT st'.bx)).getD j .any=xT st'.bx (xs.getD j .any):=by simp [List.getD_eq_getElem?_getD,hj]
     have hm:(xs.map (xT st'.bx)).getD j .any ∈ xs.map (xT st'.bx):=by rw [List.getD_eq_getElem?_getD,List.getElem?_eq_getElem (by grind)];exact List.getElem_mem _
     refine fJ (ρ:=ρ') (hl2 _ hm) ?_;rw [e];exact Jy g' rfl (fun b hb=>⟨hb.1,hb.2.1⟩) (fun b h1 h2=>⟨h1,fun h3=>by grind⟩) (hd j)
    ·rw [List.getD_eq_getElem?_getD,List.getElem?_eq_none (by grind)];trivial
   obtain ⟨v,hv1,hv2⟩:=rh hvs (by grind) hd2;refine ⟨g'.dfr,v,hv1,v,_,rfl,hR, ?_,⟨g'.frm.os,g'.frm.tape,g'.frm.output,g'.frm.size,fun k hk=>g'.frm.block k hk (fun _ _ h=>by cases h)⟩,hv2⟩;generalize xs.map (xT st'.bx)=l at hl2
   match l,hl2 with
   | [],_=>exact fun x hx=>by simp at hx
   | [x],hl2=>exact hl2 x (List.mem_cons_self ..)
   | x :: y :: l,hl2=>exact hl2
  grind
 refine wp_mono (ft hm c hN h g) fun e a' w' hq => ?_;cases e with
 | normal=>exact fin hq
 | ret=>exact fin hq
 | exit id=>obtain ⟨_,_,_,h⟩:=hq;exact h.elim
 | _=>exact hq.elim
end
attribute [go_sem ↓] ET
attribute [go_sem] OU Pr As LS HJ List.all_cons List.all_nil TJ So UT SX Tz Oc Rk RG Nd Du Kx kn Om JT Vn HK HU HG Vv Oo Ip Ag EK KC Dm EL xT Ig sv Af
end
section
def wJ (o:Oper):Bool:=o.guard.isNone && match o.op with
 | .alloc _=>true
 | .box _ _=>true
 | .makeSlice _ _ _=>true
 | _=>false
def AV (o:Oper):Bool:=o.guard.isNone && o.dst.isNone && match o.op with
 | .store _ _ _=>true
 | _=>false
def vl (ops:Array Oper) (x y:Oper):Bool:=(match y.dst with|some d => !(bE ops x).contains d|none=>true) && AV x && wJ y
section
variable {S:Env} {ops:Array Oper} {st s1 s2 s':St}
theorem Lb {o:Oper} (ha:wJ o=true) (h:Ex S ops st o s'):∃ (z:Option Bx) (r:SV),s'=(st.newBoxO z).set o.dst r∧∀ st2:St,st2.fr=st.fr→st2.nx=st.nx→Ex S ops st2 o ((st2.newBoxO z).set o.dst r):=by
 simp only [wJ,Bool.and_eq_true,Option.isNone_iff_eq_none] at ha;obtain ⟨hg,ha⟩:=ha;have hev:∀ st2:St,st2.fr=st.fr→st2.ev S=st.ev S:=fun st2 hf=>by
  funext x;simp_all [St.ev]
 unfold Ex eX at h;rw [hg] at h;simp only [jM] at h;split at ha
 ·rename_i t ho;rw [ho] at h;simp only [show ro S st.bx (st.ev S) (.alloc t)=none from rfl,dX] at h;split at h
  ·rename_i z hz;refine ⟨some _,_,h.2.symm,fun st2 hf hn => ?_⟩;unfold Ex eX;rw [hg];simp only [jM,ho,show ro S st2.bx (st2.ev S) (.alloc t)=none from rfl,dX,hev st2 hf,hn,hz];exact ⟨h.1,rfl⟩
  grind
 ·rename_i t x ho;rw [ho] at h;simp only [show ro S st.bx (st.ev S) (.box t x)=none from rfl,dX] at h;split at h
  ·rename_i v hz;refine ⟨some _,_,h.2.2.symm,fun st2 hf hn => ?_⟩;unfold Ex eX;rw [hg];simp only [jM,ho,show ro S st2.bx (st2.ev S) (.box t x)=none from rfl,dX,hev st2 hf,hn,hz];exact ⟨h.1,h.2.1,rfl⟩
  grind
 ·rename_i t l c ho;rw [ho] at h;simp only [show ro S st.bx (st.ev S) (.makeSlice t l c)=none from rfl,dX] at h;split at h
  ·rename_i q1 q2 q3;split at h
   ·rename_i q4 q5;refine ⟨_,_,h.2.2.symm,fun st2 hf hn => ?_⟩;unfold Ex eX;rw [hg];simp only [jM,ho,show ro S st2.bx (st2.ev S) (.makeSlice t l c)=none from rfl,dX,hev st2 hf,hn,q1,q2,q3,q4,q5];exact ⟨h.1,h.2.1,trivial⟩
   grind
  grind
 ·cases ha
theorem JL {o:Oper} (ha:AV o=true) (h:Ex S ops st o s'):∃ id b b',st.bx id=some b∧s'=st.setBox id b'∧∀ st2:St,(∀ t ∈ bE ops o,st.fr t=st2.fr t)→st2.bx id=some b→Ex S ops st2 o (st2.setBox id b'):=by
 simp only [AV,Bool.and_eq_true,Option.isNone_iff_eq_none] at ha;obtain ⟨⟨hg,hd⟩,ha⟩:=ha;split at ha
 ·rename_i t p v ho;have hev:∀ st2:St,(∀ t ∈ bE ops o,st.fr t=st2.fr t)→st2.ev S p=st.ev S p∧st2.ev S v=st.ev S v:=fun st2 hf=>by
   have:=eo (S:=S) hf;grind [Op.operands]
  unfold Ex eX at h;rw [hg] at h;simp only [jM,hd,ho,show ro S st.bx (st.ev S) (.store t p v)=none from rfl] at h;obtain ⟨hcond,h⟩:=h;simp only [dX] at h;split at h
  ·rename_i id off w sz ag q1 q2 q3;split at h
   ·rename_i cs hb;refine ⟨id,_,_,hb,h.2.symm,fun st2 hf hb2 => ?_⟩;obtain ⟨e1,e2⟩:=hev st2 hf;unfold Ex eX;rw [hg];simp only [jM,hd,ho,show ro S st2.bx (st2.ev S) (.store t p v)=none from rfl];refine ⟨?_, ?_⟩
    ·grind [Op.operands]
    ·simp only [dX,e1,e2,q1,q2,q3,hb2];exact ⟨h.1,rfl⟩
   grind
  ·rename_i id s i off w sz ag q1 q2 q3;split at h
   ·rename_i e s' n f hb;refine ⟨id,_,_,hb,h.2.symm,fun st2 hf hb2 => ?_⟩;obtain ⟨e1,e2⟩:=hev st2 hf;unfold Ex eX;rw [hg];simp only [jM,hd,ho,show ro S st2.bx (st2.ev S) (.store t p v)=none from rfl];refine ⟨?_, ?_⟩
    ·grind [Op.operands]
    ·simp only [dX,e1,e2,q1,q2,q3,hb2];exact ⟨h.1,rfl⟩
   grind
  grind
 ·cases ha
theorem mO {lb:Nat} {x y:Oper} (hi:vl ops x y=true) (w:iT lb st) (h1:Ex S ops st x s1) (h2:Ex S ops s1 y s2):∃ s3,Ex S ops st y s3∧Ex S ops s3 x s2:=by
 simp only [vl,Bool.and_eq_true] at hi;obtain ⟨⟨hyx,hx⟩,hy⟩:=hi;obtain ⟨id,b,b',hb,rfl,k1⟩:=JL hx h1;obtain ⟨z,r,rfl,k2⟩:=Lb hy h2;have hid:id≠st.nx:=fun e=>by
  have:=w.1 id (by omega);grind
 refine ⟨_,k2 st rfl rfl, ?_⟩
 have:=k1 ((st.newBoxO z).set y.dst r) (fun t ht=>by
  have:=fR (fr:=(st.newBoxO z).fr) (kf:=st.kf) (nx':=0) (bx':=st.bx) (bx:=(st.newBoxO z).bx) (nx:=(st.newBoxO z).nx) (d:=y.dst) (v:=r) hyx t ht
  exact this.symm) (by grind [St.newBoxO,dG])
 have e:(((st.newBoxO z).set y.dst r).setBox id b')=((st.setBox id b').newBoxO z).set y.dst r:=by
  rw [cP,cP];simp only [St.setBox,St.newBoxO,St.mk.injEq,true_and,and_true];funext j;by_cases c1:j=id
  ·grind
  ·grind
 grind
end
def nf (rcv:Nat→Bool) (ops:Array Oper) (m:Nat→Nat) (listed:Array Bool) (p:Nat):Bool :=
 match ops[p]? with
 | none=>false
 | some x=>(List.range ops.size).all fun i=>listed.getD i true || Nat.beq i p || ((m i).testBit p && Nat.blt p i) || (match ops[i]? with
  | some o=>tY rcv ops x o || qT rcv ops x o || vl ops x o
  | none=>false)
def lL (ops:Array Oper):Bool:=(List.range ops.size).all fun i=>match ops[i]? with
 | none=>false
 | some o=>o.after.all fun e => !Region.binds .any e || Nat.blt e.on i
section
variable {S:Env} {ops:Array Oper} {st:St}
theorem nM {listed:Array Bool} {i:Nat} (hi:i<listed.size) (k:Nat) (b:Bool):(listed.setIfInBounds i true).getD k b=if k=i then true else listed.getD k b:=by
 simp only [Array.getD_eq_getD_getElem?,Array.getElem?_setIfInBounds];grind
theorem qC (h:lL ops=true):∀ i o,ops[i]?=some o→∀ e ∈ o.after,Region.binds .any e=true→e.on<i:=fun i o ho e he hb=>by
 have hlt:i<ops.size:=by
  rcases Nat.lt_or_ge i ops.size with h|h
  ·exact h
  ·grind
 have:=List.all_eq_true.1 h i (List.mem_range.2 hlt);rw [ho] at this;obtain ⟨k,hk,rfl⟩:=Array.mem_iff_getElem.1 he;have:=(Array.all_eq_true.1 this) k hk;simp_all
theorem fu {listed:Array Bool} {i:Nat} (hs:listed.size=ops.size) (h:i ∈ Region.ready .any ops listed):i<ops.size:=by grind [cu]
theorem zb {listed : Array Bool} {i : Nat} (hs : listed.size = ops.size) (hed : ∀ i o, ops[i]? = some o → ∀ e ∈ o.after, Region.binds .any e = true → e.on < i) (h : i ∈ Region.ready .any ops listed) {o : Oper} (ho : ops[i]? = some o) :
  ∀ e ∈ o.after,Region.binds .any e=true→jR listed e.on:=fun e he hb=>by
 grind [fu,jR,cu]
theorem iA {listed:Array Bool} {i:Nat} (hs:listed.size=ops.size) (hed:∀ i o,ops[i]?=some o→∀ e ∈ o.after,Region.binds .any e=true→e.on<i) (hcl:fP ops listed) (h:i ∈ Region.ready .any ops listed):fP ops (listed.setIfInBounds i true):=fun k x hx hin e he hb=>by
 have hlt:=fu hs h;unfold jR at hin ⊢;rw [nM (by omega)] at hin ⊢;by_cases hek:e.on=i
 ·grind
 ·rw [if_neg hek];by_cases hki:k=i
  ·subst hki;exact zb hs hed h hx e he hb
  ·rw [if_neg hki] at hin;exact hcl k x hx hin e he hb
theorem sY {m : Nat → Nat} {listed : Array Bool} {i p : Nat} (hm : cn ops m = true) (hs : listed.size = ops.size) (hed : ∀ i o, ops[i]? = some o → ∀ e ∈ o.after, Region.binds .any e = true → e.on < i) (hcl : fP ops listed)
  (hpi:p<i) (hb:(m i).testBit p=true) (hp:listed.getD p true=false):¬ i ∈ Region.ready .any ops listed:=fun h=>by
 have hlt:=fu hs h;obtain ⟨o,ho,_⟩:=(cu hs).1 h;have hdep:=zb hs hed h ho;have h3:=List.all_eq_true.1 hm i (List.mem_range.2 hlt);rw [ho] at h3;have h4:=List.all_eq_true.1 h3 p (List.mem_range.2 hpi);simp only [hb,Bool.not_true,Bool.false_or] at h4;obtain ⟨k,hk',hh⟩:=Array.any_eq_true.1 h4;simp only [Bool.and_eq_true,Bool.or_eq_true,Nat.beq_eq] at hh;have hin:=hdep _ (Array.getElem_mem hk') hh.1;have hle:=hed i o ho _ (Array.getElem_mem hk') hh.1;have:jR listed p:=by
  rcases hh.2 with q|q
  ·grind
  ·exact vB hm hcl hed (fun _ _ _=>trivial) (i+1) _ (by omega) hin (by omega) p (by simp_all) q.1
 unfold jR at this;grind
theorem CM {rcv:Nat→Bool} {m:Nat→Nat} {listed:Array Bool} {i p:Nat} (hi:i<listed.size) (h:nf rcv ops m listed p=true):nf rcv ops m (listed.setIfInBounds i true) p=true:=by
 unfold nf at h ⊢;split at h
 ·cases h
 ·refine List.all_eq_true.2 fun k hk => ?_;have:=List.all_eq_true.1 h k hk;simp only [Bool.or_eq_true] at this ⊢;rw [nM hi];grind
theorem gR {listed:Array Bool} {i k:Nat} (hs:listed.size=ops.size) (hi:i<listed.size) (hk:k ∈ Region.ready .any ops listed) (hne:k≠i):k ∈ Region.ready .any ops (listed.setIfInBounds i true):=by
 obtain ⟨o,ho,hl,hdep⟩:=(cu hs).1 hk;refine (cu (by grind)).2 ⟨o,ho,by rw [nM hi,if_neg hne];exact hl,fun e he hb => ?_⟩;rw [nM hi];grind
theorem vM {listed:Array Bool} {i k:Nat}:(listed.setIfInBounds i true).setIfInBounds k true=(listed.setIfInBounds k true).setIfInBounds i true:=by grind
theorem Dv {m : Nat → Nat} {x : Oper} {p : Nat} (hm : cn ops m = true) (hed : ∀ i o, ops[i]? = some o → ∀ e ∈ o.after, Region.binds .any e = true → e.on < i) (hx : ops[p]? = some x) {K : St → Prop} : ∀ (fuel : Nat) (listed : Array Bool) (st : St),
  listed.size=ops.size→fP ops listed→nf S.rcv ops m listed p=true→p ∈ Region.ready .any ops listed→iT 0 st→(∃ s,Ex S ops st x s∧gP S ops fuel (listed.setIfInBounds p true) s K)→gP S ops (fuel+1) listed st K:=by
 intro fuel
 induction fuel with
 | zero =>
  intro listed st hs hcl hp hr hw ⟨s,h1,h2⟩;have hplt:=fu hs hr;refine ⟨fun hno=>(by grind),fun i hi => ?_⟩;by_cases e:i=p
  ·grind [eX,iC]
  ·have:=gR hs (by omega) hi e;rw [h2.1] at this;grind
 | succ f ih =>
  intro listed st hs hcl hp hr hw ⟨s,h1,h2⟩;have hplt:=fu hs hr;obtain ⟨_,_,hpl,_⟩:=(cu hs).1 hr;refine ⟨fun hno=>(by grind),fun i hi => ?_⟩;by_cases e:i=p
  ·grind [eX,iC]
  obtain ⟨o,ho,hl,hdep⟩:=(cu hs).1 hi;have hlt:=fu hs hi;rw [ho];have h3:=h2.2 i (gR hs (by omega) hi e);rw [ho] at h3;obtain ⟨s2,h4,h5⟩:=lf h3;have hsw:∃ s3,Ex S ops st o s3∧Ex S ops s3 x s2:=by
   have hq:=hp;unfold nf at hq;rw [hx] at hq;have hq:=List.all_eq_true.1 hq i (List.mem_range.2 hlt);rw [ho] at hq;simp only [Bool.or_eq_true,Nat.beq_eq,Bool.and_eq_true] at hq;rcases hq with ((q|q)|q)|q
   ·grind
   ·omega
   ·exact absurd hi (sY hm hs hed hcl (by simp_all) q.1 hpl)
   ·grind [va,jO,mO]
  obtain ⟨s3,h6,h7⟩:=hsw;grind [iC,iA,CM,gR,tJ,vM]
end
def DL (rcv:Nat→Bool) (ops:Array Oper) (m:Nat→Nat) (listed:Array Bool):Tr→Bool
 | .leaf=>Region.ready .any ops listed == []
 | .nil=>false
 | .br i t r=>Region.ready .any ops listed == eK (.br i t r) || (eK r == [] && (Region.ready .any ops listed).contains i && nf rcv ops m listed i)
def Hk (rcv:Nat→Bool) (ops:Array Oper) (m:Nat→Nat):Array Bool→Tr→Bool
 | _, .leaf=>true
 | _, .nil=>true
 | listed, .br i t r=>Nat.blt i ops.size && DL rcv ops m (listed.setIfInBounds i true) t && Hk rcv ops m (listed.setIfInBounds i true) t && Hk rcv ops m listed r
section
variable {S:Env} {l:List Oper} {m:Nat→Nat}
theorem vH {t:Tr} {listed:Array Bool} (hn:DL S.rcv l.toArray m listed t=true):∀ i ∈ eK t,i ∈ Region.ready .any l.toArray listed:=by
 cases t with
 | leaf=>intro i hi;cases hi
 | nil=>cases hn
 | br k t r =>
  grind [eK,DL]
theorem xM (hm : cn l.toArray m = true) (hf : lL l.toArray = true) {t : Tr} {listed : Array Bool} {fuel : Nat} {st : St} {K : St → Prop} (hs : listed.size = l.toArray.size) (hcl : fP l.toArray listed) (hw : iT 0 st)
  (hn:DL S.rcv l.toArray m listed t=true) (h:fL S l.toArray l t st K) (hd:iD t≤fuel)
  (hal : ∀ f, fuel = f + 1 → ∀ i ∈ eK t, match l.toArray[i]? with
    | some o=>eX S l.toArray st o fun st'=>gP S l.toArray f (listed.setIfInBounds i true) st' K
    | none=>gP S l.toArray f (listed.setIfInBounds i true) st K):gP S l.toArray fuel listed st K:=by
 have hsub:=vH hn;cases t with
 | leaf =>
  have hr:Region.ready .any l.toArray listed=[]:=by simpa [DL] using hn
  cases fuel with
  | zero=>exact ⟨hr,h⟩
  | succ f=>exact ⟨fun _=>h,fun i hi=>by grind⟩
 | nil=>cases hn
 | br i t r =>
  cases fuel with
  | zero=>grind [iD]
  | succ f =>
   have hi:i ∈ Region.ready .any l.toArray listed:=hsub i (by grind [eK]);simp only [DL,Bool.or_eq_true,Bool.and_eq_true,beq_iff_eq] at hn;rcases hn with hn|hn
   ·exact ⟨fun h0=>by grind,fun j hj=>hal f rfl j (by grind)⟩
   ·have:=hal f rfl i (by grind [eK]);grind [cu,Dv,qC,nf,lf,eX]
theorem qs (hm : cn l.toArray m = true) (hf : lL l.toArray = true) {K : St → Prop} : ∀ (t : Tr) (listed : Array Bool) (fuel : Nat) (st : St), listed.size = l.toArray.size → fP l.toArray listed → iT 0 st → (∀ i ∈ eK t, i ∈ Region.ready .any l.toArray listed) →
  Hk S.rcv l.toArray m listed t = true → fL S l.toArray l t st K → iD t ≤ fuel + 1 → ∀ i ∈ eK t, match l.toArray[i]? with
    | some o=>eX S l.toArray st o fun st'=>gP S l.toArray fuel (listed.setIfInBounds i true) st' K
    | none=>gP S l.toArray fuel (listed.setIfInBounds i true) st K
 | .leaf,_,_,_,_,_,_,_,_,_,_,i,hi=>by cases hi
 | .nil,_,_,_,_,_,_,_,_,_,_,i,hi=>by cases hi
 | .br k t r,listed,fuel,st,hs,hcl,hw,hsub,hok,h,hd,i,hi=>by
  have hkr:k ∈ Region.ready .any l.toArray listed:=hsub k (by grind [eK]);simp only [Hk,Bool.and_eq_true] at hok;obtain ⟨⟨⟨hk,hn⟩,ht⟩,hr⟩:=hok;simp only [iD] at hd;rcases List.mem_cons.1 hi with rfl|hi
  ·have hlt:i<l.toArray.size:=by simp [Nat.blt] at hk ⊢;omega
   have hget:l.toArray[i]?=some (l.getD i default):=by
    have hlt2:i<l.length:=by simpa using hlt
    rw [List.getElem?_toArray,List.getD_eq_getElem?_getD,List.getElem?_eq_getElem hlt2];rfl
   rw [hget];obtain ⟨s,h1,h2⟩:=lf h.1;refine iC h1 ?_;have hs2:(listed.setIfInBounds i true).size=l.toArray.size:=by simpa using hs
   have hcl2:=iA hs (qC hf) hcl hkr;exact xM hm hf hs2 hcl2 (tJ h1 hw) hn h2 (by omega) fun f hf2 j hj=>qs hm hf t _ f s hs2 hcl2 (tJ h1 hw) (vH hn) ht h2 (by omega) j hj
  ·exact qs hm hf r listed fuel st hs hcl hw (fun j hj=>hsub j (by grind [eK])) hr h.2 (by omega) i hi
theorem EP {t : Tr} {st : St} {K : St → Prop} (hok : (lL l.toArray && cn l.toArray m && DL S.rcv l.toArray m (Array.replicate l.toArray.size false) t && Hk S.rcv l.toArray m (Array.replicate l.toArray.size false) t && Nat.ble (iD t) l.toArray.size) = true) (hw : iT 0 st) (h : fL S l.toArray l t st K) :
  gP S l.toArray l.toArray.size (Array.replicate l.toArray.size false) st K:=by
 simp only [Bool.and_eq_true] at hok;obtain ⟨⟨⟨⟨hf,hm⟩,h1⟩,h2⟩,h3⟩:=hok;have h3:=Nat.le_of_ble_eq_true h3;have hs:(Array.replicate l.toArray.size false).size=l.toArray.size:=by simp
 have hcl:fP l.toArray (Array.replicate l.toArray.size false):=fun i o ho hi=>by
  exfalso;have hlt:i<l.toArray.size:=by
   rcases Nat.lt_or_ge i l.toArray.size with h|h
   ·exact h
   ·grind
  unfold jR at hi;simp_all
 grind [xM,qs,vH]
theorem fw {id : Nat} {y : Code} {Q : AExit → St → Prop} {st : St} (t : Tr)
  (hok:(lL l.toArray && cn l.toArray (fun i=>(Region.before l.toArray).getD i 0) && DL S.rcv l.toArray (fun i=>(Region.before l.toArray).getD i 0) (Array.replicate l.toArray.size false) t && Hk S.rcv l.toArray (fun i=>(Region.before l.toArray).getD i 0) (Array.replicate l.toArray.size false) t && Nat.ble (iD t) l.toArray.size)=true)
  (hw:iT 0 st) (h:∀ K:St→Prop,(∀ s s',Le s s'→cw S y Q s'→K s)→fL S l.toArray l t st K):cw S (.seq (.region id l.toArray true) y) Q st:=by
 grind [ec,iL,Wk,cw,gP,EP]
end
theorem cH {S:Env} {ops:Array Oper} {L:List Oper} {i:Nat} {t r:Tr} {st:St} {K:St→Prop} (h:∀ K':St→Prop,(∀ s,fL S ops L t s K→K' s)→aY S ops [L.getD i default] st K') (hr:fL S ops L r st K):fL S ops L (.br i t r) st K :=
 ⟨h _ (fun _ h=>h),hr⟩
theorem bJ {S:Env} {ops:Array Oper} {L:List Oper} {st:St} {K:St→Prop} (h:K st):fL S ops L .leaf st K:=h
theorem cg {S:Env} {ops:Array Oper} {L:List Oper} {st:St} {K:St→Prop}:fL S ops L .nil st K:=trivial
end
theorem NO {S:Env} {f:FuncId} {args:List BV} {e sz:Nat} {g:Nat→Nat→PV} (h0:0<sz) (h:aA S f args fun r=>r = .b (.c (.p (.val (.slice none 0 0))))):iV S f args e sz 0 g :=
 ⟨h.1,fun ok w vs h1 h2 h3 h4=>(h.2 ok w vs h1 h2 h3 h4).mono fun ex w' ⟨v,r,he,hR,_,hb,hd⟩=>by
  subst hR
  refine ⟨v,[],he,hb,h0,⟨by simp, .inl ⟨hd,rfl⟩⟩,by simp,fun i hi=>absurd hi (Nat.not_lt_zero i)⟩⟩
section
def Jr (ok:Nat→Prop) (w w':World) (v:Value) (b:Nat):Prop:=JW ok w w' b∧lD v≠some b
def mq (S:Env) (f:FuncId) (args:List BV) (cs:List (Option PV)) (k e sz n:Nat) (g:Nat→Nat→PV):Prop :=
 EA S f∧∀ (ok:Nat→Prop) (w:World) (vs:Array Value),(∀ b,ok b→b<w.heap.size)→nT S ok w →
  vs.size=args.length→(∀ j,cq ck ok w (args.getD j .any) (vs.getD j undef)) →
  Calls S.P f vs w fun ex w'=>∃ (us:Array Value) (xs:List Value),ex = .returned (.agg us)∧RowKit.Below w.heap.size w w'∧0<sz∧w'.ownsRow w.heap.size e sz (us.getD k undef) n xs∧(∀ x ∈ xs,x.oneCell'=true) ∧
   (∀ i,i<n→∀ j,j<sz→bo (Jr ok w w' (us.getD k undef)) w' (g i j) (xs.getD (i * sz+j) undef))∧us.size=cs.length∧(∀ j,j<us.size→(us.getD j undef).oneCell'=true) ∧
   ∀ j y,cs[j]?=some (some y)→bo (Jr ok w w' (us.getD k undef)) w' y (us.getD j undef)
def wY:List (Option PV)→Bool
 | []=>true
 | some _ :: l=>wY l
 | none :: _=>false
def sB:Nat→List (Option PV)→Bool
 | _,[]=>true
 | 0,_ :: l=>wY l
 | k+1,some _ :: l=>sB k l
 | _+1,none :: _=>false
theorem ue:∀ {l:List (Option PV)},wY l=true→∀ j:Nat,l[j]?≠some none
 | [],_,j=>by simp
 | some x :: l,h,0=>by simp
 | some x :: l,h,j+1=>by simpa using ue (l:=l) h j
 | none :: l,h,_=>by cases h
theorem zt:∀ {k:Nat} {l:List (Option PV)},sB k l=true→∀ j:Nat,l[j]?=some none→j=k
 | _,[],_,j,h=>by simp at h
 | 0,x :: l,h,0,_=>rfl
 | 0,x :: l,h,j+1,h2=>absurd (by grind) (ue (l:=l) h j)
 | k+1,some x :: l,h,0,h2=>by simp at h2
 | k+1,some x :: l,h,j+1,h2=>by
  have:=zt (k:=k) (l:=l) h j (by grind);omega
 | k+1,none :: l,h,_,_=>by cases h
def KX (x:CV):Option PV→CV
 | some y => .p y
 | none=>x
def jX (x:CV) (cs:List (Option PV)):List CV:=cs.map (KX x)
theorem Iq {x:CV} {cs:List (Option PV)} {j:Nat} {y:Option PV} (h:cs[j]?=some y):(jX x cs).getD j .any=KX x y:=by grind [jX]
theorem xn {ρ : gU} {ok : Nat → Prop} {w : World} {x : CV} {cs : List (Option PV)} {us : Array Value} {k : Nat} (ho : sB k cs = true) (hs : us.size = cs.length) (h1 : ∀ j, j < us.size → (us.getD j undef).oneCell' = true)
  (hx:cC ρ ok w x (us.getD k undef)) (hc:∀ j y,cs[j]?=some (some y)→bo ok w y (us.getD j undef)):cq ρ ok w (.agg (jX x cs)) (.agg us):=by
 refine ⟨us,rfl,by simp [jX,hs],h1,fun j => ?_⟩;cases hj:cs[j]? with
 | none =>
  rw [List.getD_eq_getElem?_getD,show (jX x cs)[j]?=none by simp [jX,hj]];trivial
 | some y =>
  rw [Iq hj];cases y with
  | none=>rw [zt ho j hj];exact hx
  | some y=>exact hc j y hj
theorem Ms {S : Env} {f : FuncId} {args : List BV} {cs : List (Option PV)} {k e sz n : Nat} {g : Nat → Nat → PV} (h : mq S f args cs k e sz n g) (hl : ∀ x ∈ args, BV.lt 0 x) (ho : sB k cs = true) (bx : Nat → Option Bx) (nx : Nat) :
  lU S bx nx f args (.b (.agg (jX (.own nx n) cs))) (aJ nx (.arr e sz n g) bx) (nx+1):=by
 refine ⟨h.1,fun E st ρ a w vs hbx hnx G hsz hden => ?_⟩;subst hbx;subst hnx;have hgl:nT S (bR E st.bx ρ w) w:=fun k n f hg=>G.glb k n f hg;refine (h.2 (bR E st.bx ρ w) w vs (fun b hb=>hb.1) hgl hsz fun j => ?_).mono fun ex w' ⟨us,xs,he,hB,h0,hown,hone,hd,hs,h1,hc⟩ => ?_
 ·by_cases hj:j<args.length
  ·grind [fJ]
  ·rw [List.getD_eq_getElem?_getD,List.getElem?_eq_none (by omega)];trivial
 ·have hown0:w'.ownsRow 0 e sz (us.getD k undef) n xs:=⟨hown.1,by
   rcases hown.2 with h|⟨b,cap,cur,e1,e2,e3⟩
   ·grind
   grind⟩
  have hge:∀ b,lD (us.getD k undef)=some b→w.heap.size≤b:=fun b hb=>by
   rcases hown.2 with ⟨e1,_⟩|⟨b2,cap,cur,e1,e2,_⟩
   ·grind [lD,undef]
   grind [lD]
  have hkx:∀ ok',gy (bR E st.bx ρ w) ok' w w'→(∀ b,w.heap.size≤b→b<w'.heap.size→lD (us.getD k undef)≠some b→ok' b)→∀ b,Jr (bR E st.bx ρ w) w w' (us.getD k undef) b→ok' b:=fun ok' q1 q2 b hb=>by
   rcases Nat.lt_or_ge b w.heap.size with hlt|hge
   ·exact (q1 b (hb.1.2 hlt)).1
   ·exact q2 b hge hb.1.1 hb.2
  have g':=G.newBoxN hB (.arr e sz n g) (us.getD k undef) trivial (fun b hb=>⟨hge b hb,AS hown0 hb⟩)
   (fun ok' q1 q2=>⟨h0,xs,hown0,hone,fun i hi j hj=>bo.mono (fun b hb=>⟨hkx ok' q1 q2 b hb,fun _=>rfl⟩) (hd i hi j hj)⟩)
  have hkA:∀ b,Jr (bR E st.bx ρ w) w w' (us.getD k undef) b→bR E (st.newBox (.arr e sz n g)).bx (ρ.upd st.nx (us.getD k undef)) w' b:=fun b hb=>by
   refine ⟨hb.1.1,fun q => ?_,fun id hid => ?_⟩
   ·have:=G.frm.size;exact (hb.1.2 (by omega)).2.1 q
   ·by_cases he:id=st.nx
    ·subst he;simp only [gU.upd,if_true];exact hb.2
    ·simp only [St.newBox,he,if_false] at hid;simp only [gU.upd,he,if_false];cases hq:st.bx id with
     | none=>grind
     | some y =>
      intro hbk;have hlt:=(G.new id y b hq hbk).1;exact (hb.1.2 hlt).2.2 id hid hbk
  refine ⟨.agg us,ρ.upd st.nx (us.getD k undef),he, ?_, ?_,g'⟩
  ·refine xn ho hs h1 ?_ fun j y hj=>bo.mono (fun b hb=>⟨hkA b hb,fun _=>rfl⟩) (hc j y hj);exact uU hown0 st ρ (bR E (st.newBox (.arr e sz n g)).bx (ρ.upd st.nx (us.getD k undef)) w') w'
  ·intro c hc;obtain ⟨y,_,rfl⟩:=List.mem_map.1 hc;cases y with
   | none=>exact Nat.lt_succ_self _
   | some y=>trivial
theorem Ht {S:Env} {f:FuncId} {args:List BV} {cs:List (Option PV)} {k e sz n:Nat} {g:Nat→Nat→PV} (h:mq S f args cs k e sz n g) (ho:sB k cs=true):aA S f args fun r=>r = .b (.agg (jX (.p (.lst sz n g)) cs)) :=
 ⟨h.1,fun ok w vs h1 h2 h3 h4=>(h.2 ok w vs h1 h2 h3 h4).mono fun ex w' ⟨us,xs,he,hB,h0,hown,hone,hd,hs,h1,hc⟩=>by
  refine ⟨.agg us,_,he,rfl, ?_,hB, ?_⟩
  ·intro c hc;obtain ⟨y,_,rfl⟩:=List.mem_map.1 hc;cases y <;> trivial
  ·refine xn ho hs h1 ?_ fun j y hj=>bo.mono (fun b hb=>⟨hb.1,fun _=>rfl⟩) (hc j y hj);rcases hown.2 with ⟨e1,e2⟩|⟨b,cap,cur,hv,hge,hh,hnc,_,hcs,htk⟩
   ·rw [e1];exact ⟨none,0,by rw [e2],by omega,fun h=>by omega⟩
   ·rw [hv];refine ⟨_,cap,rfl,hnc,fun _=>⟨b,0,rfl,⟨ch hh,fun q=>by omega⟩,fun i hi j hj => ?_⟩⟩;have hlt:i * sz+j<n * sz:=ej hi hj;have hlt2:i * sz+j<cur.size:=by rw [hcs];exact Nat.lt_of_lt_of_le hlt (Nat.mul_le_mul_right _ hnc)
    have hlx:i * sz+j<xs.length:=by rw [hown.1];exact hlt
    have hxe:xs.getD (i * sz+j) undef=cur.getD (i * sz+j) undef:=by rw [← htk];simp [List.getElem?_take,hlt]
    refine ⟨cur.getD (i * sz+j) undef,by grind [bP], ?_, ?_⟩
    ·grind
    ·rw [← hxe]
     exact bo.mono (fun b hb=>⟨hb.1,fun _=>rfl⟩) (hd i hi j hj)⟩
def GJ (bx:Nat→Option Bx) (e sz n:Nat) (g:Nat→Nat→PV):CV→Prop
 | .own id n'=>∃ f,bx id=some (.arr e sz n f)∧n'=n∧0<sz∧∀ i,i<n→∀ j,j<sz→PV.le (f i j) (g i j)
 | .p x=>x = .val (.slice none 0 0)∧n=0∧0<sz
 | _=>False
def Do:CV→Option Nat
 | .own id _=>some id
 | _=>none
def wC (d:Option Nat):CV→Prop
 | .own id _=>d≠some id
 | _=>True
def VV:CV→PV→Prop
 | .p z,y=>z=y∨PV.le z y
 | _,_=>False
def rC (bx:Nat→Option Bx) (d:Option Nat):List CV→List (Option PV)→Prop
 | [],[]=>True
 | _ :: l,none :: r=>rC bx d l r
 | x :: l,some y :: r=>VV (fK bx x) y∧wC d x∧rC bx d l r
 | _,_=>False
def vm (S:Env) (rs:List ResultVar) (cs:List (Option PV)) (k e sz n:Nat) (g:Nat→Nat→PV) (st:St):Prop :=
 match kn S st rs with
 | some (p,[.agg xs])=>p∧GJ st.bx e sz n g (xs.getD k .any)∧rC st.bx (Do (xs.getD k .any)) xs cs
 | _=>False
def Mw (S:Env) (rs:List ResultVar) (cs:List (Option PV)) (k e sz n:Nat) (g:Nat→Nat→PV):AExit→St→Prop
 | .ret,st=>vm S rs cs k e sz n g st
 | .normal,st=>vm S rs cs k e sz n g st
 | _,_=>False
theorem Ik {S:Env} {rs:List ResultVar} {cs:List (Option PV)} {k e sz n:Nat} {g:Nat→Nat→PV} {st:St}:Mw S rs cs k e sz n g .ret st=vm S rs cs k e sz n g st:=rfl
theorem Ax {S:Env} {rs:List ResultVar} {cs:List (Option PV)} {k e sz n:Nat} {g:Nat→Nat→PV} {st:St}:Mw S rs cs k e sz n g .normal st=vm S rs cs k e sz n g st:=rfl
theorem XS {z y:PV}:VV (.p z) y=(z=y∨PV.le z y):=rfl
theorem IR {bx:Nat→Option Bx} {d:Option Nat}:rC bx d [] []=True:=rfl
theorem wF {bx:Nat→Option Bx} {d:Option Nat} {x:CV} {l:List CV} {r:List (Option PV)}:rC bx d (x :: l) (none :: r)=rC bx d l r:=by cases x <;> rfl
theorem wR {bx:Nat→Option Bx} {d:Option Nat} {x:CV} {l:List CV} {y:PV} {r:List (Option PV)}:rC bx d (x :: l) (some y :: r)=(VV (fK bx x) y∧wC d x∧rC bx d l r):=by cases x <;> rfl
theorem xv {bx:Nat→Option Bx} {d:Option Nat}:∀ {l:List CV} {r:List (Option PV)},rC bx d l r→l.length=r.length∧∀ (j:Nat) y,r[j]?=some (some y)→VV (fK bx (l.getD j .any)) y∧wC d (l.getD j .any)
 | [],[],_=>⟨rfl,fun j y h=>by simp at h⟩
 | x :: l,none :: r,h=>by
  rw [wF] at h;obtain ⟨q1,q2⟩:=xv h;grind
 | x :: l,some z :: r,h=>by
  rw [wR] at h;obtain ⟨h1,h2,h3⟩:=h;obtain ⟨q1,q2⟩:=xv h3;grind
 | [],none :: r,h=>by cases h
 | [],some _ :: r,h=>by cases h
 | x :: l,[],h=>by cases x <;> cases h
section
variable {S:Env} {E:Ent} {st:St} {ρ:gU} {a:Act} {w:World}
theorem Fw {x : CV} {u v : Value} {d : Option Nat} (g : Gam S E st ρ a w) (hrx : E.rx = none) (hd : ∀ id, d = some id → ρ id = v ∧ st.bx id ≠ none) (hdn : d = none → lD v = none) (hx : wC d x) (hw : E.w0.heap.size ≤ w.heap.size)
  (h:cC ρ (bR E st.bx ρ w) w x u) {y:PV} (hy:VV (fK st.bx x) y):bo (Jr E.ok0 E.w0 w v) w y u:=by
 have hA:∀ b,bR E st.bx ρ w b→Jr E.ok0 E.w0 w v b:=fun b hb=>⟨⟨hb.1,hb.2.1⟩,fun hv=>by
  cases hq:d with
  | none=>grind
  | some id =>
   obtain ⟨q1,q2⟩:=hd id hq
   exact hb.2.2 id q2 (by grind)⟩
 have hk:gy (bR E st.bx ρ w) (Jr E.ok0 E.w0 w v) w w:=fun b hb=>⟨hA b hb,fun _=>rfl⟩
 have fin:∀ z:PV,(z=y∨PV.le z y)→bo (Jr E.ok0 E.w0 w v) w z u→bo (Jr E.ok0 E.w0 w v) w y u:=fun z hz hu=>by
  rcases hz with rfl|hz
  ·exact hu
  ·exact hz _ _ _ hu
 cases x with
 | p x=>exact fin _ hy (bo.mono hk h)
 | ptr id off=>exact hy.elim
 | pel id sz i off=>exact hy.elim
 | ipt sz g off=>exact hy.elim
 | clo f ps=>exact hy.elim
 | sub id sz lo n=>exact hy.elim
 | own id n =>
  unfold fK at hy;split at hy
  ·rename_i id n e;cases e;split at hy
   ·rename_i e sz n' f hb;split at hy
    ·rename_i hn;refine fin _ hy ?_;obtain ⟨A,m,c,hr,h1,h2,h3,hu⟩:=h;obtain ⟨h0,xs,hown,hone,hd2⟩:=g.bxs id _ hb;refine ⟨A,c,hu,by omega,fun hpos => ?_⟩;rcases hown.2 with ⟨e1,e2⟩|⟨gb,cap,cur,hv,_,hh,hnc,_,hcs,htk⟩
     ·omega
     ·rw [hr] at hv;simp only [Value.slice.injEq] at hv;obtain ⟨rfl,rfl,rfl⟩:=hv;have hgb:lD (ρ id)=some gb:=by rw [hr];rfl
      have hge:E.w0.heap.size≤gb:=by
       rcases (g.new id _ gb hb hgb).2 with h|⟨_,_,_,h,_⟩
       ·exact h
       ·cases h
      refine ⟨gb,0,rfl,⟨⟨ch hh,fun q=>by omega⟩,fun hv => ?_⟩,fun i hi j hj => ?_⟩
      ·cases hq:d with
       | none=>grind
       | some id2 =>
        obtain ⟨q1,q2⟩:=hd id2 hq;have:=g.inj id id2 gb (by grind) q2 hgb (by grind);subst this;exact hx hq
      have hlt:i * sz+j<m * sz:=ej (by omega) hj;have hlt2:i * sz+j<cur.size:=by rw [hcs];exact Nat.lt_of_lt_of_le hlt (Nat.mul_le_mul_right _ hnc)
      have hlx:i * sz+j<xs.length:=by rw [hown.1];exact hlt
      have hxe:xs.getD (i * sz+j) undef=cur.getD (i * sz+j) undef:=by rw [← htk];simp [List.getElem?_take,hlt]
      grind [bo,undef,bP,bo.mono]
    ·exact hy.elim
   ·exact hy.elim
  grind
end
theorem FN {S : Env} {f : FuncId} {fn : Func} {c : Code} {rs : List ResultVar} {args : List BV} {cs : List (Option PV)} {k e sz n : Nat} {g : Nat → Nat → PV} (hf : S.P.funcs[f]? = some fn) (hb : fn.body = some c) (hrs : fn.results.toList = rs) (hname : (fn.name == "runtime.NumGoroutine") = false)
  (hm:S.P.follows .mixedOrders=true) (hN:dk fn.ntmps c=true) (hlen:args.length≤fn.ntmps) (hl:∀ x ∈ args,BV.lt 0 x) (h:cw S c (Mw S rs cs k e sz n g) (wP args)):mq S f args cs k e sz n g:=by
 subst hrs;refine ⟨⟨fn,hf,hname,by grind⟩,fun ok w vs hok hgl hsz hden => ?_⟩;refine calls_of_wp hf hb ?_
 let E:Ent := { w0:=w,ok0:=ok,rx:=none,N:=fn.ntmps }
 have hokA:∀ b,ok b→bR E (fun _=>none) ck w b:=fun b hb=>⟨hok b hb,fun _=>hb,fun _ h=>absurd rfl h⟩
 have hk:gy ok (bR E (fun _=>none) ck w) w w:=fun b hb=>⟨hokA b hb,fun _=>rfl⟩
 have g0:Gam S E (wP args) ck { tmps:=vs ++ Array.replicate (fn.ntmps - vs.size) undef,defers:=[] } w:=by
  refine ⟨rfl,by grind,⟨rfl,rfl,rfl,Nat.le_refl _,fun _ _ _=>rfl,fun _ _ _ h=>(by cases h)⟩,fun s => ?_,fun _ _ h=>(by cases h),fun _ _ h=>(by cases h),fun _ _ _ h=>(by cases h),fun _ _ _ h=>absurd rfl h,
   fun _ _ _ h=>(by cases h),fun s => ?_,fun gg n f hg => ?_,fun s=>⟨trivial,trivial⟩⟩
  ·simp only [wP,cz];split
   ·rename_i hs;refine hl _ ?_;grind
   ·trivial
  ·simp only [wP,cz];split
   ·rename_i hs;have e:(vs ++ Array.replicate (fn.ntmps - vs.size) undef).getD s undef=vs.getD s undef:=by
     have:s<vs.size:=by omega
     simp [this];rw [Array.getElem?_append_left this];simp [this]
    rw [e];exact cq.mono (nx:=0) hk (fun _ _=>rfl) (hl _ (by grind)) (hden (s - 0))
   ·trivial
  ·obtain ⟨h1,h2⟩:=hgl gg n f hg;refine ⟨hokA gg h1,fun j hj => ?_⟩;obtain ⟨x,hx,h3,hd⟩:=h2 j hj;exact ⟨x,hx,h3,bo.mono hk hd⟩
 have fin : ∀ {a' : Act} {w' : World}, lu S E (vm S fn.results.toList cs k e sz n g) a' w' → a'.defers = [] ∧ ∃ v, (results fn a'.tmps).run S.P w' = .ok v w' ∧
   ∃ (us:Array Value) (xs:List Value),Ending.returned v = .returned (.agg us)∧RowKit.Below w.heap.size w w'∧0<sz∧w'.ownsRow w.heap.size e sz (us.getD k undef) n xs∧(∀ x ∈ xs,x.oneCell'=true) ∧
   (∀ i,i<n→∀ j,j<sz→bo (Jr ok w w' (us.getD k undef)) w' (g i j) (xs.getD (i * sz+j) undef))∧us.size=cs.length∧(∀ j,j<us.size→(us.getD j undef).oneCell'=true) ∧
   ∀ j y,cs[j]?=some (some y)→bo (Jr ok w w' (us.getD k undef)) w' y (us.getD j undef):=fun {a' w'} ⟨st',ρ',g',hq⟩=>by
  unfold vm at hq;split at hq
  ·rename_i p ys hr;obtain ⟨hp,hcell,hrest⟩:=hq;obtain ⟨vs2,hvs,hlv,hd⟩:=jK g' hr hp;obtain ⟨v,hv1,hv2⟩:=rh (xs:=[.agg ys]) hvs hlv hd;obtain ⟨us,rfl,hs,h1,hdu⟩:=hv2;obtain ⟨q1,q2⟩:=xv hrest;have hB:RowKit.Below w.heap.size w w':=⟨g'.frm.os,g'.frm.tape,g'.frm.output,g'.frm.size,fun k hk=>g'.frm.block k hk (fun _ _ h=>by cases h)⟩
   have hkd:=hdu k;generalize hX:ys.getD k .any=X at hcell hrest q2 hkd;have hmain : 0 < sz ∧ (∃ xs : List Value, w'.ownsRow w.heap.size e sz (us.getD k undef) n xs ∧ (∀ x ∈ xs, x.oneCell' = true) ∧ (∀ i, i < n → ∀ j, j < sz → bo (Jr ok w w' (us.getD k undef)) w' (g i j) (xs.getD (i * sz + j) undef))) ∧
     (∀ id,Do X=some id→ρ' id=us.getD k undef∧st'.bx id≠none)∧(Do X=none→lD (us.getD k undef)=none):=by
    cases X with
    | own id n' =>
     obtain ⟨f2,hbx,rfl,h0,hgf⟩:=hcell;obtain ⟨A,m,cp,hr2,h2,h3,h4,hu⟩:=hkd;obtain ⟨h0,xs,hown,hone,hd2⟩:=g'.bxs id _ hbx;have hmn:m=n':=by
      rcases hown.2 with ⟨e1,e2⟩|⟨b,cap,cur,e1,_⟩
      ·grind
      ·grind
     subst hmn;have hv:us.getD k undef=ρ' id:=by rw [hu,hr2]
     rw [hv];refine ⟨h0,⟨xs,⟨hown.1, ?_⟩,hone,fun i hi j hj => ?_⟩,fun id2 hid => ?_,fun h=>(by cases h)⟩
     ·rcases hown.2 with h|⟨b,cap,cur,e1,e2,e3⟩
      ·grind
      ·refine .inr ⟨b,cap,cur,e1, ?_,e3⟩;rcases (g'.new id _ b hbx (by rw [e1];rfl)).2 with h|⟨_,_,_,h,_⟩
       ·exact h
       ·cases h
     ·refine hgf i hi j hj _ _ _ (bo.mono (fun b hb=>⟨⟨⟨hb.1,hb.2.1⟩,fun hb2 => ?_⟩,fun _=>rfl⟩) (hd2 i hi j hj));exact hb.2.2 id (by grind) hb2
     grind [Do]
    | p x =>
     obtain ⟨rfl,rfl,h0⟩:=hcell;have hv:us.getD k undef = .slice none 0 0:=hkd;rw [hv];exact ⟨h0,⟨[],⟨by simp, .inl ⟨rfl,rfl⟩⟩,by simp,fun i hi=>absurd hi (Nat.not_lt_zero i)⟩,fun id h=>(by cases h),fun _=>rfl⟩
    | ptr _ _=>exact hcell.elim
    | pel _ _ _ _=>exact hcell.elim
    | ipt _ _ _=>exact hcell.elim
    | clo _ _=>exact hcell.elim
    | sub _ _ _ _=>exact hcell.elim
   obtain ⟨h0,⟨xs,m1,m2,m3⟩,m4,m5⟩:=hmain;refine ⟨g'.dfr, .agg us,hv1,us,xs,rfl,hB,h0,m1,m2,m3,by rw [hs,q1],h1,fun j y hj => ?_⟩;obtain ⟨t1,t2⟩:=q2 j y hj;exact Fw g' rfl m4 m5 t2 g'.frm.size (hdu j) t1
  grind
 refine wp_mono (ft hm c hN h g0) fun e a' w' hq => ?_;cases e with
 | normal=>exact fin hq
 | ret=>exact fin hq
 | exit id=>obtain ⟨_,_,_,h⟩:=hq;exact h.elim
 | _=>exact hq.elim
attribute [go_sem] Ik Ax vm GJ Do wC XS IR wF wR jX KX
end
end Go.SL
