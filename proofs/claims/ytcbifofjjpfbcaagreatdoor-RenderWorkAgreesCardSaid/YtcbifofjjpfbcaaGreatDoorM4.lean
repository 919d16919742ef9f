/- Part of the proof: SlFacts, SlT, SlU, SlV, SlW, SlX, SlY. -/
import Derived.Test.YtcbifofjjpfbcaaGreatDoorProg
import Derived.KernelRfl
import Derived.Test.YtcbifofjjpfbcaaGreatDoorM3
set_option maxRecDepth 100000
namespace Go.Proofs.YtcbifofjjpfbcaaGreatDoor
open Go Go.SL
def g0:List PV:=[.val (.string ⟨#[]⟩), .val (.string ⟨#[110,111,114,109,97,108]⟩), .val (.string ⟨#[109,117,108,116,105,112,108,121]⟩), .val (.string ⟨#[115,99,114,101,101,110]⟩), .val (.string ⟨#[111,118,101,114,108,97,121]⟩), .val (.string ⟨#[100,97,114,107,101,110]⟩), .val (.string ⟨#[108,105,103,104,116,101,110]⟩), .val (.string ⟨#[99,111,108,111,114,45,100,111,100,103,101]⟩), .val (.string ⟨#[99,111,108,111,114,45,98,117,114,110]⟩), .val (.string ⟨#[104,97,114,100,45,108,105,103,104,116]⟩), .val (.string ⟨#[115,111,102,116,45,108,105,103,104,116]⟩), .val (.string ⟨#[100,105,102,102,101,114,101,110,99,101]⟩), .val (.string ⟨#[101,120,99,108,117,115,105,111,110]⟩)]
def g1:List PV:=[.val (.string ⟨#[]⟩), .val (.int .i64 0), .val (.int .i64 0), .val (.int .i64 0), .val (.string ⟨#[99,108,101,97,114]⟩), .val (.int .i64 0), .val (.int .i64 0), .val (.int .i64 0), .val (.string ⟨#[115,114,99]⟩), .val (.int .i64 1), .val (.int .i64 0), .val (.int .i64 1), .val (.string ⟨#[100,115,116]⟩), .val (.int .i64 0), .val (.int .i64 1), .val (.int .i64 2), .val (.string ⟨#[115,114,99,45,111,118,101,114]⟩), .val (.int .i64 1), .val (.int .i64 3), .val (.int .i64 3), .val (.string ⟨#[100,115,116,45,111,118,101,114]⟩), .val (.int .i64 3), .val (.int .i64 1), .val (.int .i64 3), .val (.string ⟨#[115,114,99,45,105,110]⟩), .val (.int .i64 2), .val (.int .i64 0), .val (.int .i64 4), .val (.string ⟨#[100,115,116,45,105,110]⟩), .val (.int .i64 0), .val (.int .i64 2), .val (.int .i64 4), .val (.string ⟨#[115,114,99,45,111,117,116]⟩), .val (.int .i64 3), .val (.int .i64 0), .val (.int .i64 1), .val (.string ⟨#[100,115,116,45,111,117,116]⟩), .val (.int .i64 0), .val (.int .i64 3), .val (.int .i64 2), .val (.string ⟨#[115,114,99,45,97,116,111,112]⟩), .val (.int .i64 2), .val (.int .i64 3), .val (.int .i64 2), .val (.string ⟨#[100,115,116,45,97,116,111,112]⟩), .val (.int .i64 3), .val (.int .i64 2), .val (.int .i64 1), .val (.string ⟨#[120,111,114]⟩), .val (.int .i64 3), .val (.int .i64 3), .val (.int .i64 3)]
def Sx (g:Nat):Option (Nat × (Nat→PV)):=if g=0 then some (13,fun j=>g0.getD j .any) else if g=1 then some (52,fun j=>g1.getD j .any) else none
abbrev fH:List PV:=g0
abbrev ck:List PV:=g1
def Xb (f:Nat):Bool:=Nat.beq f 10 || Nat.beq f 40 || Nat.beq f 42 || Nat.beq f 59 || Nat.beq f 75 || Nat.beq f 86 || Nat.beq f 88 || Nat.beq f 92 || Nat.beq f 94 || Nat.beq f 95 || Nat.beq f 113 || Nat.beq f 114 || Nat.beq f 115 || Nat.beq f 129 || Nat.beq f 137 || Nat.beq f 139 || Nat.beq f 142 || Nat.beq f 143 || Nat.beq f 147 || Nat.beq f 156 || Nat.beq f 178 || Nat.beq f 2000061 || Nat.beq f 1000014 || Nat.beq f 1000035 || Nat.beq f 1000047 || Nat.beq f 1000068 || Nat.beq f 1000090 || Nat.beq f 1000096 || Nat.beq f 1000108 || Nat.beq f 1000126 || Nat.beq f 1000127 || Nat.beq f 1000128 || Nat.beq f 1000130 || Nat.beq f 1000135 || Nat.beq f 1000136 || Nat.beq f 1000140 || Nat.beq f 1000146 || Nat.beq f 1000152 || Nat.beq f 1000159 || Nat.beq f 1000162 || Nat.beq f 1000167 || Nat.beq f 1000168 || Nat.beq f 1000169 || Nat.beq f 1000170 || Nat.beq f 1000171 || Nat.beq f 1000172 || Nat.beq f 1000173 || Nat.beq f 1000174 || Nat.beq f 1000176 || Nat.beq f 1000177 || Nat.beq f 1000179 || Nat.beq f 1000180 || Nat.beq f 1000181 || Nat.beq f 1000184 || Nat.beq f 1000188 || Nat.beq f 1000189 || Nat.beq f 1000190 || Nat.beq f 1000191 || Nat.beq f 1000192 || Nat.beq f 1000193 || Nat.beq f 1000196 || Nat.beq f 1000197 || Nat.beq f 1000198 || Nat.beq f 1000199 || Nat.beq f 1000201 || Nat.beq f 1000202 || Nat.beq f 1000203 || Nat.beq f 1000204 || Nat.beq f 1000205 || Nat.beq f 1000206 || Nat.beq f 1000207 || Nat.beq f 1000208 || Nat.beq f 1000210 || Nat.beq f 1000213 || Nat.beq f 1000216 || Nat.beq f 1000217 || Nat.beq f 1000218 || Nat.beq f 1000219 || Nat.beq f 1000220 || Nat.beq f 1000221 || Nat.beq f 1000222 || Nat.beq f 1000235 || Nat.beq f 1000236 || Nat.beq f 1000237 || Nat.beq f 1000238 || Nat.beq f 1000239 || Nat.beq f 1000240 || Nat.beq f 1000241 || Nat.beq f 1000242 || Nat.beq f 1000252 || Nat.beq f 1000253 || Nat.beq f 1000254 || Nat.beq f 4094027 || Nat.beq f 4168025
noncomputable def Sg:Env := { P:=Tryz.prog,gl:=Sx,rcv:=Xb }
theorem Wx:Sg.P=Tryz.prog:=rfl
theorem Yf:Sg.gl 0=some (13,fun j=>g0.getD j .any):=rfl
theorem XZ:Sg.gl 1=some (52,fun j=>g1.getD j .any):=rfl
theorem gp:Sg.P.follows .mixedOrders=true:=by kernel_rfl
theorem SY:Sg.frz 22 (.tmp 8)=false:=by kernel_rfl
theorem QA:Sg.frz 22 (.tmp 9)=false:=by kernel_rfl
theorem Lr:Sg.frz 22 (.tmp 17)=false:=by kernel_rfl
theorem Oi:Sg.frz 22 (.tmp 26)=false:=by kernel_rfl
theorem OB:Sg.frz 38 (.tmp 33)=false:=by kernel_rfl
theorem KX:Sg.frz 38 (.tmp 38)=false:=by kernel_rfl
theorem Ol:Sg.frz 94 (.tmp 22)=false:=by kernel_rfl
theorem MH:Sg.frz 94 (.tmp 26)=false:=by kernel_rfl
theorem Mj:Sg.frz 94 (.tmp 27)=true:=by kernel_rfl
theorem KY:Sg.frz 94 (.tmp 44)=false:=by kernel_rfl
theorem OI:Sg.frz 98 (.tmp 23)=false:=by kernel_rfl
theorem Lb:Sg.frz 98 (.tmp 26)=false:=by kernel_rfl
theorem Ie:Sg.frz 108 (.tmp 27)=false:=by kernel_rfl
theorem HQ:Sg.frz 108 (.tmp 28)=false:=by kernel_rfl
theorem JW:Sg.frz 168 (.tmp 22)=false:=by kernel_rfl
theorem Kr:Sg.frz 168 (.tmp 25)=true:=by kernel_rfl
-- 2 int64
theorem Yc:Sg.ti 3=some (1,false):=by kernel_rfl
theorem Yb:Sg.P.underlying 3=some (.int .i64):=by kernel_rfl
theorem XV:Sg.zero 3=some [.int .i64 0]:=by kernel_rfl
theorem Ye:Sg.byt 3=some 8:=by kernel_rfl
-- 4 bool
theorem XW:Sg.ti 4=some (1,false):=by kernel_rfl
theorem XY:Sg.P.underlying 4=some (.bool):=by kernel_rfl
theorem XS:Sg.zero 4=some [.bool false]:=by kernel_rfl
theorem XO:Sg.byt 4=some 1:=by kernel_rfl
-- 5 uint8
theorem XN:Sg.P.underlying 5=some (.int .u8):=by kernel_rfl
theorem XR:Sg.ti 9=some (1,false):=by kernel_rfl
theorem XU:Sg.P.underlying 9=some (.string):=by kernel_rfl
theorem XT:Sg.zero 9=some [.string ⟨#[]⟩]:=by kernel_rfl
theorem WL:Sg.ti 22=some (1,false):=by kernel_rfl
theorem We:Sg.P.underlying 22=some (.slice 3):=by kernel_rfl
theorem Ww:Sg.el 22=some (none,3,1,false):=by kernel_rfl
theorem Xl:Sg.ti 23=some (1,false):=by kernel_rfl
theorem Ws:Sg.P.underlying 23=some (.slice 85):=by kernel_rfl
theorem WE:Sg.el 23=some (none,85,5,true):=by kernel_rfl
theorem VW:Sg.ti 24=some (1,false):=by kernel_rfl
theorem VY:Sg.P.underlying 24=some (.slice 88):=by kernel_rfl
theorem Wz:Sg.el 24=some (none,88,11,true):=by kernel_rfl
theorem VN:Sg.ti 26=some (10,true):=by kernel_rfl
theorem Sa:Sg.fld 26 0=some (0,1,false):=by kernel_rfl
theorem SJ:Sg.fld 26 1=some (1,1,false):=by kernel_rfl
theorem SM:Sg.fld 26 2=some (2,1,false):=by kernel_rfl
theorem PT:Sg.fld 26 3=some (3,1,false):=by kernel_rfl
theorem RC:Sg.fld 26 4=some (4,1,false):=by kernel_rfl
theorem Rj:Sg.fld 26 5=some (5,1,false):=by kernel_rfl
theorem Sh:Sg.fld 26 6=some (6,1,false):=by kernel_rfl
theorem Rq:Sg.fld 26 7=some (7,1,false):=by kernel_rfl
theorem Rr:Sg.fld 26 8=some (8,1,false):=by kernel_rfl
theorem Sm:Sg.fld 26 9=some (9,1,false):=by kernel_rfl
theorem XE:Sg.ti 28=some (4,true):=by kernel_rfl
theorem VU:Sg.zero 28=some [.int .i64 0, .int .i64 0, .int .i64 0, .int .i64 0]:=by kernel_rfl
theorem XA:Sg.bld 28=some (some [(0,1),(1,1),(2,1),(3,1)],0):=by kernel_rfl
theorem Qs:Sg.fld 28 0=some (0,1,false):=by kernel_rfl
theorem SE:Sg.fld 28 1=some (1,1,false):=by kernel_rfl
theorem SF:Sg.fld 28 2=some (2,1,false):=by kernel_rfl
theorem Rw:Sg.fld 28 3=some (3,1,false):=by kernel_rfl
theorem WX:Sg.byt 28=some 32:=by kernel_rfl
-- 29 []api.Image
theorem Wg:Sg.ti 29=some (1,false):=by kernel_rfl
theorem Wb:Sg.P.underlying 29=some (.slice 43):=by kernel_rfl
theorem Wo:Sg.el 29=some (none,43,28,true):=by kernel_rfl
theorem WO:Sg.ti 30=some (1,false):=by kernel_rfl
theorem VV:Sg.P.underlying 30=some (.slice 74):=by kernel_rfl
theorem WW:Sg.el 30=some (none,74,12,true):=by kernel_rfl
theorem Xp:Sg.ti 32=some (10,true):=by kernel_rfl
theorem WZ:Sg.zero 32=some [.int .i64 0, .int .i64 0, .int .i64 0, .int .i64 0, .int .i64 0, .int .i64 0, .int .i64 0, .slice none 0 0, .slice none 0 0, .slice none 0 0]:=by kernel_rfl
theorem Wj:Sg.bld 32=some (some [(0,1),(1,4),(5,1),(6,1),(7,1),(8,1),(9,1)],0):=by kernel_rfl
theorem Sv:Sg.fld 32 0=some (0,1,false):=by kernel_rfl
theorem RU:Sg.fld 32 1=some (1,4,true):=by kernel_rfl
theorem Qf:Sg.fld 32 2=some (5,1,false):=by kernel_rfl
theorem Qn:Sg.fld 32 3=some (6,1,false):=by kernel_rfl
theorem Rs:Sg.fld 32 4=some (7,1,false):=by kernel_rfl
theorem RR:Sg.fld 32 5=some (8,1,false):=by kernel_rfl
theorem Ql:Sg.fld 32 6=some (9,1,false):=by kernel_rfl
theorem Xf:Sg.ti 34=some (1,false):=by kernel_rfl
theorem WI:Sg.P.underlying 34=some (.int .u16):=by kernel_rfl
theorem Xj:Sg.zero 34=some [.int .u16 0]:=by kernel_rfl
theorem Wi:Sg.byt 34=some 2:=by kernel_rfl
-- 35 [3]uint16
theorem XG:Sg.ti 35=some (3,true):=by kernel_rfl
theorem Wm:Sg.el 35=some (some 3,34,1,false):=by kernel_rfl
theorem Xn:Sg.zero 35=some [.int .u16 0, .int .u16 0, .int .u16 0]:=by kernel_rfl
theorem VS:Sg.bld 35=some (none,1):=by kernel_rfl
theorem Wl:Sg.ti 37=some (5,true):=by kernel_rfl
theorem XC:Sg.zero 37=some [.int .u16 0, .int .u16 0, .int .u16 0, .int .u16 0, .int .u16 0]:=by kernel_rfl
theorem Wa:Sg.bld 37=some (some [(0,3),(3,1),(4,1)],0):=by kernel_rfl
theorem Qm:Sg.fld 37 0=some (0,3,true):=by kernel_rfl
theorem Rb:Sg.fld 37 1=some (3,1,false):=by kernel_rfl
theorem SD:Sg.fld 37 2=some (4,1,false):=by kernel_rfl
theorem WM (a0 b0:Int) (a1 b1:Int) (a2 b2:Int) (a3 b3:Int) (a4 b4:Int):Sg.eqv 37 [.int .u16 a0, .int .u16 a1, .int .u16 a2, .int .u16 a3, .int .u16 a4] [.int .u16 b0, .int .u16 b1, .int .u16 b2, .int .u16 b3, .int .u16 b4]=some (((a0 == b0) && ((a1 == b1) && ((a2 == b2) && true))) && ((a3 == b3) && ((a4 == b4) && true))):=by kernel_rfl
theorem Wc:Sg.byt 37=some 10:=by kernel_rfl
-- 38 []uint16
theorem Xr:Sg.ti 38=some (1,false):=by kernel_rfl
theorem Xa:Sg.P.underlying 38=some (.slice 34):=by kernel_rfl
theorem Wt:Sg.el 38=some (none,34,1,false):=by kernel_rfl
theorem Wu:Sg.ti 40=some (4,true):=by kernel_rfl
theorem WB:Sg.zero 40=some [.int .i64 0, .int .i64 0, .int .i64 0, .slice none 0 0]:=by kernel_rfl
theorem WN:Sg.bld 40=some (some [(0,1),(1,1),(2,1),(3,1)],0):=by kernel_rfl
theorem Qr:Sg.fld 40 0=some (0,1,false):=by kernel_rfl
theorem QZ:Sg.fld 40 1=some (1,1,false):=by kernel_rfl
theorem SK:Sg.fld 40 2=some (2,1,false):=by kernel_rfl
theorem Ri:Sg.fld 40 3=some (3,1,false):=by kernel_rfl
theorem Xt:Sg.ti 41=some (20,true):=by kernel_rfl
theorem Xm:Sg.el 41=some (some 5,40,4,true):=by kernel_rfl
theorem Xd:Sg.ti 43=some (28,true):=by kernel_rfl
theorem WT:Sg.zero 43=some [.int .i64 0, .int .i64 0, .bool false, .int .u16 0, .int .u16 0, .int .u16 0, .int .u16 0, .int .u16 0, .int .i64 0, .int .i64 0, .int .i64 0, .slice none 0 0, .int .i64 0, .int .i64 0, .int .i64 0, .slice none 0 0, .int .i64 0, .int .i64 0, .int .i64 0, .slice none 0 0, .int .i64 0, .int .i64 0, .int .i64 0, .slice none 0 0, .int .i64 0, .int .i64 0, .int .i64 0, .slice none 0 0]:=by kernel_rfl
theorem WG:Sg.bld 43=some (some [(0,1),(1,1),(2,1),(3,5),(8,20)],0):=by kernel_rfl
theorem Se:Sg.fld 43 0=some (0,1,false):=by kernel_rfl
theorem QR:Sg.fld 43 1=some (1,1,false):=by kernel_rfl
theorem SH:Sg.fld 43 2=some (2,1,false):=by kernel_rfl
theorem Qi:Sg.fld 43 3=some (3,5,true):=by kernel_rfl
theorem QK:Sg.fld 43 4=some (8,20,true):=by kernel_rfl
theorem WU:Sg.byt 43=some 272:=by kernel_rfl
-- 44 api.Errno
theorem WR:Sg.ti 44=some (1,false):=by kernel_rfl
theorem WC:Sg.zero 44=some [.int .i64 0]:=by kernel_rfl
theorem Xs:Sg.ti 74=some (12,true):=by kernel_rfl
theorem XB:Sg.zero 74=some [.int .i64 0, .int .i64 0, .int .i64 0, .int .i64 0, .int .i64 0, .int .i64 0, .int .i64 0, .int .u16 0, .int .i64 0, .int .i64 0, .bool false, .bool false]:=by kernel_rfl
theorem Xh:Sg.bld 74=some (some [(0,1),(1,1),(2,1),(3,1),(4,1),(5,1),(6,1),(7,1),(8,1),(9,1),(10,1),(11,1)],0):=by kernel_rfl
theorem QV:Sg.fld 74 0=some (0,1,false):=by kernel_rfl
theorem Qt:Sg.fld 74 1=some (1,1,false):=by kernel_rfl
theorem QI:Sg.fld 74 2=some (2,1,false):=by kernel_rfl
theorem Sy:Sg.fld 74 3=some (3,1,false):=by kernel_rfl
theorem SA:Sg.fld 74 4=some (4,1,false):=by kernel_rfl
theorem SG:Sg.fld 74 5=some (5,1,false):=by kernel_rfl
theorem QS:Sg.fld 74 6=some (6,1,false):=by kernel_rfl
theorem Re:Sg.fld 74 7=some (7,1,false):=by kernel_rfl
theorem QJ:Sg.fld 74 8=some (8,1,false):=by kernel_rfl
theorem Qo:Sg.fld 74 9=some (9,1,false):=by kernel_rfl
theorem MT:Sg.fld 74 10=some (10,1,false):=by kernel_rfl
theorem LU:Sg.fld 74 11=some (11,1,false):=by kernel_rfl
theorem Xc (a0 b0:Int) (a1 b1:Int) (a2 b2:Int) (a3 b3:Int) (a4 b4:Int) (a5 b5:Int) (a6 b6:Int) (a7 b7:Int) (a8 b8:Int) (a9 b9:Int) (a10 b10:Bool) (a11 b11:Bool):Sg.eqv 74 [.int .i64 a0, .int .i64 a1, .int .i64 a2, .int .i64 a3, .int .i64 a4, .int .i64 a5, .int .i64 a6, .int .u16 a7, .int .i64 a8, .int .i64 a9, .bool a10, .bool a11] [.int .i64 b0, .int .i64 b1, .int .i64 b2, .int .i64 b3, .int .i64 b4, .int .i64 b5, .int .i64 b6, .int .u16 b7, .int .i64 b8, .int .i64 b9, .bool b10, .bool b11]=some ((a0 == b0) && ((a1 == b1) && ((a2 == b2) && ((a3 == b3) && ((a4 == b4) && ((a5 == b5) && ((a6 == b6) && ((a7 == b7) && ((a8 == b8) && ((a9 == b9) && ((a10 == b10) && ((a11 == b11) && true)))))))))))):=by kernel_rfl
theorem VQ:Sg.byt 74=some 88:=by kernel_rfl
-- 81 [][5]int
theorem Xw:Sg.ti 81=some (1,false):=by kernel_rfl
theorem VX:Sg.P.underlying 81=some (.slice 132):=by kernel_rfl
theorem Wn:Sg.el 81=some (none,132,5,true):=by kernel_rfl
theorem WD:Sg.ti 83=some (2,true):=by kernel_rfl
theorem Qh:Sg.fld 83 0=some (0,1,false):=by kernel_rfl
theorem RY:Sg.fld 83 1=some (1,1,false):=by kernel_rfl
theorem WA:Sg.ti 85=some (5,true):=by kernel_rfl
theorem Qc:Sg.fld 85 0=some (0,1,false):=by kernel_rfl
theorem Qa:Sg.fld 85 1=some (1,1,false):=by kernel_rfl
theorem SR:Sg.fld 85 2=some (2,1,false):=by kernel_rfl
theorem Sj:Sg.fld 85 3=some (3,2,true):=by kernel_rfl
theorem WV:Sg.ti 88=some (11,true):=by kernel_rfl
theorem QD:Sg.fld 88 0=some (0,1,false):=by kernel_rfl
theorem Sk:Sg.fld 88 1=some (1,1,false):=by kernel_rfl
theorem Rn:Sg.fld 88 2=some (2,1,false):=by kernel_rfl
theorem RF:Sg.fld 88 3=some (3,1,false):=by kernel_rfl
theorem RO:Sg.fld 88 4=some (4,1,false):=by kernel_rfl
theorem PQ:Sg.fld 88 5=some (5,1,false):=by kernel_rfl
theorem Sr:Sg.fld 88 6=some (6,1,false):=by kernel_rfl
theorem Tl:Sg.fld 88 7=some (7,1,false):=by kernel_rfl
theorem Qj:Sg.fld 88 8=some (8,1,false):=by kernel_rfl
theorem SO:Sg.fld 88 9=some (9,1,false):=by kernel_rfl
theorem Mm:Sg.fld 88 10=some (10,1,false):=by kernel_rfl
theorem Xg:Sg.ti 94=some (1,false):=by kernel_rfl
theorem Xu:Sg.P.underlying 94=some (.slice 37):=by kernel_rfl
theorem Wy:Sg.el 94=some (none,37,5,true):=by kernel_rfl
theorem Wv:Sg.P.underlying 98=some (.slice 28):=by kernel_rfl
theorem XF:Sg.el 98=some (none,28,4,true):=by kernel_rfl
theorem TF:Sg.P.underlying 108=some (.slice 4):=by kernel_rfl
theorem Ut:Sg.el 108=some (none,4,1,false):=by kernel_rfl
theorem Ug:Sg.ti 116=some (18,true):=by kernel_rfl
theorem Uw:Sg.zero 116=some [.int .i64 0, .int .i64 0, .int .u16 0, .int .u16 0, .int .u16 0, .int .u16 0, .int .u16 0, .int .u16 0, .int .u16 0, .int .u16 0, .int .u16 0, .int .u16 0, .int .u16 0, .int .u16 0, .int .u16 0, .int .u16 0, .int .u16 0, .int .u16 0]:=by kernel_rfl
theorem Vh:Sg.bld 116=some (some [(0,1),(1,1),(2,5),(7,5),(12,1),(13,5)],0):=by kernel_rfl
theorem LR:Sg.fld 116 0=some (0,1,false):=by kernel_rfl
theorem Nu:Sg.fld 116 5=some (13,5,true):=by kernel_rfl
theorem TG:Sg.ti 122=some (1,false):=by kernel_rfl
theorem Uv:Sg.P.underlying 122=some (.slice 170):=by kernel_rfl
theorem Ul:Sg.el 122=some (none,170,14,true):=by kernel_rfl
theorem Uk:Sg.zero 124=some [.int .i64 0, .int .i64 0, .int .i64 0, .int .i64 0, .int .i64 0, .int .i64 0, .int .i64 0, .slice none 0 0, .slice none 0 0, .slice none 0 0, .int .u16 0, .slice none 0 0, .slice none 0 0]:=by kernel_rfl
theorem Vd:Sg.bld 124=some (some [(0,10),(10,1),(11,1),(12,1)],0):=by kernel_rfl
theorem NI:Sg.fld 124 0=some (0,10,true):=by kernel_rfl
theorem MO:Sg.fld 124 1=some (10,1,false):=by kernel_rfl
theorem Mt:Sg.fld 124 2=some (11,1,false):=by kernel_rfl
theorem Mq:Sg.fld 124 3=some (12,1,false):=by kernel_rfl
theorem Vv:Sg.el 130=some (some 5,34,1,false):=by kernel_rfl
theorem Vt:Sg.zero 130=some [.int .u16 0, .int .u16 0, .int .u16 0, .int .u16 0, .int .u16 0]:=by kernel_rfl
theorem UK:Sg.bld 130=some (none,1):=by kernel_rfl
theorem Vi:Sg.ti 132=some (5,true):=by kernel_rfl
theorem US:Sg.el 132=some (some 5,3,1,false):=by kernel_rfl
theorem UA:Sg.zero 132=some [.int .i64 0, .int .i64 0, .int .i64 0, .int .i64 0, .int .i64 0]:=by kernel_rfl
theorem Vr:Sg.bld 132=some (none,1):=by kernel_rfl
theorem UH:Sg.ti 147=some (6,true):=by kernel_rfl
theorem Vm:Sg.zero 147=some [.int .u16 0, .int .u16 0, .int .u16 0, .int .u16 0, .int .u16 0, .int .u16 0]:=by kernel_rfl
theorem Vx:Sg.bld 147=some (some [(0,3),(3,1),(4,1),(5,1)],0):=by kernel_rfl
theorem LV:Sg.fld 147 0=some (0,3,true):=by kernel_rfl
theorem Oa:Sg.fld 147 1=some (3,1,false):=by kernel_rfl
theorem Mp:Sg.fld 147 2=some (4,1,false):=by kernel_rfl
theorem LC:Sg.fld 147 3=some (5,1,false):=by kernel_rfl
theorem TT (a0 b0:Int) (a1 b1:Int) (a2 b2:Int) (a3 b3:Int) (a4 b4:Int) (a5 b5:Int):Sg.eqv 147 [.int .u16 a0, .int .u16 a1, .int .u16 a2, .int .u16 a3, .int .u16 a4, .int .u16 a5] [.int .u16 b0, .int .u16 b1, .int .u16 b2, .int .u16 b3, .int .u16 b4, .int .u16 b5]=some (((a0 == b0) && ((a1 == b1) && ((a2 == b2) && true))) && ((a3 == b3) && ((a4 == b4) && ((a5 == b5) && true)))):=by kernel_rfl
theorem Ud:Sg.byt 147=some 12:=by kernel_rfl
-- 159 []api.Micro
theorem TU:Sg.ti 168=some (1,false):=by kernel_rfl
theorem Uf:Sg.P.underlying 168=some (.slice 147):=by kernel_rfl
theorem Um:Sg.el 168=some (none,147,6,true):=by kernel_rfl
theorem Uu:Sg.ti 170=some (14,true):=by kernel_rfl
theorem Uc:Sg.zero 170=some [.int .i64 0, .int .i64 0, .int .i64 0, .int .i64 0, .int .i64 0, .int .i64 0, .int .i64 0, .int .u16 0, .int .i64 0, .int .i64 0, .bool false, .bool false, .slice none 0 0, .slice none 0 0]:=by kernel_rfl
theorem VH:Sg.bld 170=some (some [(0,12),(12,1),(13,1)],0):=by kernel_rfl
theorem Pl:Sg.fld 170 0=some (0,12,true):=by kernel_rfl
theorem Ni:Sg.fld 170 1=some (12,1,false):=by kernel_rfl
theorem NJ:Sg.fld 170 2=some (13,1,false):=by kernel_rfl
theorem Uh:Sg.byt 170=some 136:=by kernel_rfl
-- 183 struct { op api.Op;acc api.Accum;back api.Pixel }
theorem TA:Sg.ti 184=some (23,true):=by kernel_rfl
theorem UN:Sg.zero 184=some [.int .i64 0, .int .i64 0, .int .i64 0, .int .i64 0, .int .i64 0, .int .i64 0, .int .i64 0, .int .u16 0, .int .i64 0, .int .i64 0, .bool false, .bool false, .int .u16 0, .int .u16 0, .int .u16 0, .int .u16 0, .int .u16 0, .int .u16 0, .int .u16 0, .int .u16 0, .int .u16 0, .int .u16 0, .int .u16 0]:=by kernel_rfl
theorem TS:Sg.bld 184=some (some [(0,12),(12,6),(18,5)],0):=by kernel_rfl
theorem MK:Sg.fld 184 0=some (0,12,true):=by kernel_rfl
theorem Ld:Sg.fld 184 1=some (12,6,true):=by kernel_rfl
theorem NV:Sg.fld 184 2=some (18,5,true):=by kernel_rfl
theorem UV:Sg.byt 184=some 112:=by kernel_rfl
-- 185 []frame.level
theorem VB:Sg.ti 185=some (1,false):=by kernel_rfl
theorem TL:Sg.P.underlying 185=some (.slice 184):=by kernel_rfl
theorem Tu:Sg.el 185=some (none,184,23,true):=by kernel_rfl
theorem TI:Sg.zero 187=some [.int .u16 0, .slice none 0 0]:=by kernel_rfl
theorem UE:Sg.bld 187=some (some [(0,1),(1,1)],0):=by kernel_rfl
theorem Mv:Sg.fld 187 0=some (0,1,false):=by kernel_rfl
theorem ND:Sg.fld 187 1=some (1,1,false):=by kernel_rfl
theorem Vw:Sg.ti 221=some (1,false):=by kernel_rfl
theorem TQ:Sg.P.underlying 221=some (.int .u64):=by kernel_rfl
theorem UU:Sg.zero 224=some [.pointer none, .pointer none, .pointer none, .pointer none, .pointer none]:=by kernel_rfl
theorem VG:Sg.bld 224=some (none,1):=by kernel_rfl
theorem Ui:Sg.P.underlying 225=some (.int .u32):=by kernel_rfl
theorem UG:Sg.ti 236=some (4,true):=by kernel_rfl
theorem Vg:Sg.zero 236=some [.string ⟨#[]⟩, .int .i64 0, .int .i64 0, .int .i64 0]:=by kernel_rfl
theorem Ts:Sg.bld 236=some (some [(0,1),(1,1),(2,1),(3,1)],0):=by kernel_rfl
theorem LL:Sg.fld 236 0=some (0,1,false):=by kernel_rfl
theorem Mc:Sg.fld 236 1=some (1,1,false):=by kernel_rfl
theorem Nd:Sg.fld 236 2=some (2,1,false):=by kernel_rfl
theorem Pc:Sg.fld 236 3=some (3,1,false):=by kernel_rfl
theorem TZ:Sg.el 239=some (some 13,9,1,false):=by kernel_rfl
theorem Tv:Sg.P.underlying 240=some (.int .u64):=by kernel_rfl
theorem Uq:Sg.P.underlying 244=some (.slice 9):=by kernel_rfl
theorem UI:Sg.el 244=some (none,9,1,false):=by kernel_rfl
theorem TP:Sg.el 246=some (some 13,236,4,true):=by kernel_rfl
theorem UX:Sg.ti 251=some (2,true):=by kernel_rfl
theorem Vf:Sg.zero 251=some [.int .u64 0, .int .u64 0]:=by kernel_rfl
theorem Uj:Sg.bld 251=some (some [(0,1),(1,1)],0):=by kernel_rfl
theorem My:Sg.fld 251 0=some (0,1,false):=by kernel_rfl
theorem Nv:Sg.fld 251 1=some (1,1,false):=by kernel_rfl
theorem Vb:Sg.ti 253=some (5,true):=by kernel_rfl
theorem TW:Sg.zero 253=some [.int .u64 0, .int .u64 0, .int .u64 0, .int .u64 0, .int .u64 0]:=by kernel_rfl
theorem UM:Sg.bld 253=some (some [(0,2),(2,1),(3,1),(4,1)],0):=by kernel_rfl
theorem Lu:Sg.fld 253 0=some (0,2,true):=by kernel_rfl
theorem MB:Sg.fld 253 1=some (2,1,false):=by kernel_rfl
theorem LP:Sg.fld 253 2=some (3,1,false):=by kernel_rfl
theorem Nx:Sg.fld 253 3=some (4,1,false):=by kernel_rfl
theorem Qq (g:Nat→PV):dL 1 g=[.p (g 0)]:=rfl
theorem Rt (g:Nat→PV):dL 2 g=[.p (g 0), .p (g 1)]:=rfl
theorem Tm (g:Nat→PV):dL 3 g=[.p (g 0), .p (g 1), .p (g 2)]:=rfl
theorem Qu (g:Nat→PV):dL 4 g=[.p (g 0), .p (g 1), .p (g 2), .p (g 3)]:=rfl
theorem RW (g:Nat→PV):dL 5 g=[.p (g 0), .p (g 1), .p (g 2), .p (g 3), .p (g 4)]:=rfl
theorem SI (g:Nat→PV):dL 6 g=[.p (g 0), .p (g 1), .p (g 2), .p (g 3), .p (g 4), .p (g 5)]:=rfl
theorem MN (g:Nat→PV):dL 10 g=[.p (g 0), .p (g 1), .p (g 2), .p (g 3), .p (g 4), .p (g 5), .p (g 6), .p (g 7), .p (g 8), .p (g 9)]:=rfl
theorem MA (g:Nat→PV):dL 11 g=[.p (g 0), .p (g 1), .p (g 2), .p (g 3), .p (g 4), .p (g 5), .p (g 6), .p (g 7), .p (g 8), .p (g 9), .p (g 10)]:=rfl
theorem LQ (g:Nat→PV):dL 12 g=[.p (g 0), .p (g 1), .p (g 2), .p (g 3), .p (g 4), .p (g 5), .p (g 6), .p (g 7), .p (g 8), .p (g 9), .p (g 10), .p (g 11)]:=rfl
theorem Lt (g:Nat→PV):dL 13 g=[.p (g 0), .p (g 1), .p (g 2), .p (g 3), .p (g 4), .p (g 5), .p (g 6), .p (g 7), .p (g 8), .p (g 9), .p (g 10), .p (g 11), .p (g 12)]:=rfl
theorem Ng (g:Nat→PV):dL 14 g=[.p (g 0), .p (g 1), .p (g 2), .p (g 3), .p (g 4), .p (g 5), .p (g 6), .p (g 7), .p (g 8), .p (g 9), .p (g 10), .p (g 11), .p (g 12), .p (g 13)]:=rfl
theorem Nq (g:Nat→PV):dL 18 g=[.p (g 0), .p (g 1), .p (g 2), .p (g 3), .p (g 4), .p (g 5), .p (g 6), .p (g 7), .p (g 8), .p (g 9), .p (g 10), .p (g 11), .p (g 12), .p (g 13), .p (g 14), .p (g 15), .p (g 16), .p (g 17)]:=rfl
theorem KW (g:Nat→PV):dL 20 g=[.p (g 0), .p (g 1), .p (g 2), .p (g 3), .p (g 4), .p (g 5), .p (g 6), .p (g 7), .p (g 8), .p (g 9), .p (g 10), .p (g 11), .p (g 12), .p (g 13), .p (g 14), .p (g 15), .p (g 16), .p (g 17), .p (g 18), .p (g 19)]:=rfl
theorem OO (g:Nat→PV):dL 23 g=[.p (g 0), .p (g 1), .p (g 2), .p (g 3), .p (g 4), .p (g 5), .p (g 6), .p (g 7), .p (g 8), .p (g 9), .p (g 10), .p (g 11), .p (g 12), .p (g 13), .p (g 14), .p (g 15), .p (g 16), .p (g 17), .p (g 18), .p (g 19), .p (g 20), .p (g 21), .p (g 22)]:=rfl
theorem Lj (g:Nat→PV):dL 28 g=[.p (g 0), .p (g 1), .p (g 2), .p (g 3), .p (g 4), .p (g 5), .p (g 6), .p (g 7), .p (g 8), .p (g 9), .p (g 10), .p (g 11), .p (g 12), .p (g 13), .p (g 14), .p (g 15), .p (g 16), .p (g 17), .p (g 18), .p (g 19), .p (g 20), .p (g 21), .p (g 22), .p (g 23), .p (g 24), .p (g 25), .p (g 26), .p (g 27)]:=rfl
theorem Nc (g:Nat→PV):dL 52 g=[.p (g 0), .p (g 1), .p (g 2), .p (g 3), .p (g 4), .p (g 5), .p (g 6), .p (g 7), .p (g 8), .p (g 9), .p (g 10), .p (g 11), .p (g 12), .p (g 13), .p (g 14), .p (g 15), .p (g 16), .p (g 17), .p (g 18), .p (g 19), .p (g 20), .p (g 21), .p (g 22), .p (g 23), .p (g 24), .p (g 25), .p (g 26), .p (g 27), .p (g 28), .p (g 29), .p (g 30), .p (g 31), .p (g 32), .p (g 33), .p (g 34), .p (g 35), .p (g 36), .p (g 37), .p (g 38), .p (g 39), .p (g 40), .p (g 41), .p (g 42), .p (g 43), .p (g 44), .p (g 45), .p (g 46), .p (g 47), .p (g 48), .p (g 49), .p (g 50), .p (g 51)]:=rfl
attribute [go_sem] Yf XZ SY QA Lr Oi OB KX Ol MH Mj KY OI Lb Ie HQ JW Kr Yc Yb XV Ye XW XY XS XO XN XR XU XT WL We Ww Xl Ws WE VW VY Wz VN Sa SJ SM PT RC Rj Sh Rq Rr Sm XE VU XA Qs SE SF Rw WX Wg Wb Wo WO VV WW Xp WZ Wj Sv RU Qf Qn Rs RR Ql Xf WI Xj Wi XG Wm Xn VS Wl XC Wa Qm Rb SD WM Wc Xr Xa Wt Wu WB WN Qr QZ SK Ri Xt Xm Xd WT WG Se QR SH Qi QK WU WR WC Xs XB Xh QV Qt QI Sy SA SG QS Re QJ Qo MT LU Xc VQ Xw VX Wn WD Qh RY WA Qc Qa SR Sj WV QD Sk Rn RF RO PQ Sr Tl Qj SO Mm Xg Xu Wy Wv XF TF Ut Ug Uw Vh LR Nu TG Uv Ul Uk Vd NI MO Mt Mq Vv Vt UK Vi US UA Vr UH Vm Vx LV Oa Mp LC TT Ud TU Uf Um Uu Uc VH Pl Ni NJ Uh TA UN TS MK Ld NV UV VB TL Tu TI UE Mv ND Vw TQ UU VG Ui UG Vg Ts LL Mc Nd Pc TZ Tv Uq UI TP UX Vf Uj My Nv Vb TW UM Lu MB LP Nx Qq Rt Tm Qu RW SI MN MA LQ Lt Ng Nq KW OO Lj Nc
end Go.Proofs.YtcbifofjjpfbcaaGreatDoor
set_option linter.unusedSimpArgs false
set_option linter.unusedVariables false
namespace Go.SL
open Go
inductive Tr where
 | leaf
 | nil
 | br (i:Nat) (t r:Tr)
def eC (S:Env) (ops:Array Oper) (L:List Oper):Tr→St→(St→Prop)→Prop
 | .leaf,st,K=>K st
 | .nil,_,_=>True
 | .br i t r,st,K=>aZ S ops [L.getD i default] st (fun s=>eC S ops L t s K)∧eC S ops L r st K
def dM:Tr→List Nat
 | .br i _ r=>i :: dM r
 | _=>[]
def ga:Tr→Nat
 | .br _ t r=>max (ga t+1) (ga r)
 | _=>0
section
variable {S:Env} {l:List Oper}
theorem Dj {ops:Array Oper} {L:List Oper} {st:St} {K:St→Prop}:eC S ops L .leaf st K=K st:=rfl
theorem Gj {ops:Array Oper} {L:List Oper} {st:St} {K:St→Prop}:eC S ops L .nil st K=True:=rfl
theorem JN {ops:Array Oper} {L:List Oper} {st:St} {K:St→Prop} {i:Nat} {t r:Tr}:eC S ops L (.br i t r) st K=(aZ S ops [L.getD i default] st (fun s=>eC S ops L t s K)∧eC S ops L r st K):=rfl
end
theorem OM {x:Oper} {r:List Oper}:(x :: r).getD 0 default=x:=rfl
theorem LK {x:Oper} {r:List Oper} {i:Nat}:(x :: r).getD (i+1) default=r.getD i default:=rfl
attribute [go_sem] Dj Gj JN OM LK
end Go.SL
namespace Go.SL
open Go
def xT (f:FuncId) (l:List SV):Option (Prop × SV) :=
 match il l with
 | some ps=>some (True, .b (.c (.clo f ps)))
 | none=>none
def Hf (S:Env) (st:St) (v:SV) (args:List BV) {K:SV→St→Prop} (_:Sl K):Prop :=
 match nD v with
 | some (f,xs)=>CallP S st f (args ++ xs) K
 | none=>False
section
variable {S:Env} {ops:Array Oper} {rest:List Oper} {st:St} {K:St→Prop} {d:Option Nat} {ty:TypeId} {pos:String} {af:Array Edge}
theorem LN {f : FuncId} {ps : List (Nat × Nat)} {args : List BV} {K : SV → St → Prop} :
  Hf S st (.b (.c (.clo f ps))) args (Sl.of K)=eB S st f (args ++ ps.map fun p => .c (.ptr p.1 p.2)) (Sl.of K):=rfl
theorem Po {f n : Nat} {sz : Nat → Nat} {g : Nat → Nat → PV} {args : List BV} {K : SV → St → Prop} :
  Hf S st (.b (.c (.p (.fn f n sz g)))) args (Sl.of K)=eB S st f (args ++ (List.range n).map fun i => .c (.ipt (sz i) (g i) 0)) (Sl.of K):=rfl
theorem Kl {f : FuncId} {args : List BV} {K : SV → St → Prop} :
  Hf S st (.b (.c (.p (.val (.func (.func f) #[] #[]))))) args (Sl.of K)=eB S st f args (Sl.of K):=by
 unfold Hf nD
 simp only [and_self,if_true,List.append_nil]
 rfl
theorem CR {f : FuncId} {cap : Array Operand} : aZ S ops (⟨d, .makeFunc (.func f) #[] cap, ty, pos, af, none⟩ :: rest) st K =
  rk (xT f (cap.toList.map fun x=>(st.ev S x).strip)) (aV (cap.toList.map (st.ev S))) (Sl.of fun r=>aZ S ops rest (st.set d r) K):=by
 simp only [aZ,eP]
 rw [cV (by simp) (by simp) (by simp) (fun _=>rfl)]
 have e:bj S st.bx (st.ev S) (.makeFunc (.func f) #[] cap)=xT f (cap.toList.map fun x=>(st.ev S x).strip):=by
  simp only [bj,xT]
  split
  ·rename_i h1 h2 h3;cases h1;rw [h3]
  ·rename_i h;split
   ·rename_i ps hp;exact absurd hp (h f ps rfl rfl)
   ·rfl
 rw [e]
 simp [Op.operands]
theorem TX {t : Tmp} {args : Array Operand} {ts : Array TypeId} : aZ S ops (⟨d, .call ⟨.value (.tmp t), args, ts⟩, ty, pos, af, none⟩ :: rest) st K =
  (((st.fr t).cond∧aV (args.toList.map (st.ev S)))∧Hf S st (st.fr t).strip (args.toList.map fun x=>dO (st.ev S x)) (Sl.of fun r st'=>aZ S ops rest (st'.set d r) K)):=by
 simp only [aZ,eP]
 rw [sC (by simp [ro,bj])]
 simp only [Op.operands,Call.operands,dk,Hf]
 have e:aV ((#[Operand.tmp t] ++ args).toList.map (st.ev S))=((st.fr t).cond∧aV (args.toList.map (st.ev S))):=by simp [aV,St.ev]
 rw [e]
 rfl
theorem Ja:il []=some []:=rfl
theorem FQ {id off:Nat} {r:List SV}:il (.b (.c (.ptr id off)) :: r)=(il r).map fun l=>(id,off) :: l:=rfl
theorem Rv {nx:Nat} {f:Nat} {ps:List (Nat × Nat)}:CV.lt nx (.clo f ps)=(ps.all fun p=>Nat.blt p.1 nx):=by
 simp [CV.lt]
end
def aN (n:Nat) (x:Bx) (b:Nat→Option Bx):Nat→Option Bx:=fun i=>if i=n then some x else b i
def di (n:Nat) (b:Nat→Option Bx):Nat→Option Bx:=fun i=>if i=n then none else b i
theorem Th {st:St} {d:Option Nat} {v:SV}:(st.set d v).kf=st.kf:=by cases d <;> rfl
theorem FO {st:St} {x:Bx}:(st.newBox x).kf=st.kf:=rfl
theorem FF {st:St} {id:Nat} {x:Bx}:(st.setBox id x).kf=st.kf:=rfl
theorem GV {st:St} {id:Nat}:(st.delBox id).kf=st.kf:=rfl
theorem RD {n i:Nat} {x:Bx} {b:Nat→Option Bx}:aN n x b i=if i=n then some x else b i:=rfl
theorem Rk {n i:Nat} {b:Nat→Option Bx}:di n b i=if i=n then none else b i:=rfl
def Gf (args:List BV) (bx:Nat→Option Bx) (nx:Nat) (kf:Nat→SV):St:=⟨iQ args 0,bx,nx,kf⟩
def St.turn (st:St) (bx:Nat→Option Bx) (nx:Nat):St:=⟨st.fr,bx,nx,st.kf⟩
theorem SC {args:List BV} {bx:Nat→Option Bx} {nx:Nat} {kf:Nat→SV} {s:Nat}:(Gf args bx nx kf).fr s=iQ args 0 s:=rfl
theorem Qy {args:List BV} {bx:Nat→Option Bx} {nx:Nat} {kf:Nat→SV}:(Gf args bx nx kf).bx=bx:=rfl
theorem Rg {args:List BV} {bx:Nat→Option Bx} {nx:Nat} {kf:Nat→SV}:(Gf args bx nx kf).nx=nx:=rfl
theorem QH {args:List BV} {bx:Nat→Option Bx} {nx:Nat} {kf:Nat→SV}:(Gf args bx nx kf).kf=kf:=rfl
theorem Ma {st:St} {bx:Nat→Option Bx} {nx:Nat} {s:Nat}:(st.turn bx nx).fr s=st.fr s:=rfl
theorem MP {st:St} {bx:Nat→Option Bx} {nx:Nat}:(st.turn bx nx).bx=bx:=rfl
theorem OR {st:St} {bx:Nat→Option Bx} {nx:Nat}:(st.turn bx nx).nx=nx:=rfl
theorem OD {st:St} {bx:Nat→Option Bx} {nx:Nat}:(st.turn bx nx).kf=st.kf:=rfl
def Mu (S:Env) (st:St):ResultVar→Option (Prop × BV)
 | .tmp t=>match st.fr t with
  | .b x=>some (True,x)
  | _=>none
 | .cell p t=>match dj S t st.bx (st.fr p) with
  | some (vc, .b x)=>some (vc,x)
  | _=>none
def jc (S:Env) (st:St):List ResultVar→Option (Prop × List BV)
 | []=>some (True,[])
 | r :: l=>match Mu S st r,jc S st l with
  | some (p,x),some (q,xs)=>some (p∧q,x :: xs)
  | _,_=>none
def IY:List BV→SV
 | [x] => .b x
 | l => .tup l
def JT (S:Env) (rs:List ResultVar) (X:SV) (bx':Nat→Option Bx) (nx':Nat) (kf:Nat→SV) (st:St):Prop :=
 match jc S st rs with
 | some (p,xs)=>p∧IY xs=X∧st.bx=bx'∧st.nx=nx'∧st.kf=kf∧X.lt nx'
 | none=>False
def Ua (S:Env) (rs:List ResultVar) (X:SV) (bx':Nat→Option Bx) (nx':Nat) (kf:Nat→SV):AExit→St→Prop
 | .ret,st=>JT S rs X bx' nx' kf st
 | .normal,st=>JT S rs X bx' nx' kf st
 | _,_=>False
theorem IZ {S:Env} {rs:List ResultVar} {X:SV} {bx':Nat→Option Bx} {nx':Nat} {kf:Nat→SV} {st:St}:Ua S rs X bx' nx' kf .ret st=JT S rs X bx' nx' kf st:=rfl
theorem AQ {S:Env} {rs:List ResultVar} {X:SV} {bx':Nat→Option Bx} {nx':Nat} {kf:Nat→SV} {st:St}:Ua S rs X bx' nx' kf .normal st=JT S rs X bx' nx' kf st:=rfl
section
variable {S:Env} {E:Ent} {st:St} {ρ:fQ} {a:Act} {w:World}
theorem Ir {r:ResultVar} {p:Prop} {x:BV} (h:Mu S st r=some (p,x)) (hp:p) (g:Gam S E st ρ a w):∃ v,qN S.P a.tmps w r v∧bR ρ (bL E st.bx ρ w) w x v:=by
 unfold Mu at h
 split at h
 ·rename_i t
  have hs:=g.slt t
  split at h
  ·rename_i y hy
   rw [hy] at hs
   simp only [Option.some.injEq,Prod.mk.injEq] at h
   obtain ⟨_,rfl⟩:=h
   exact ⟨_,rfl,hs⟩
  ·simp at h
 ·rename_i q t
  split at h
  ·rename_i vc y hl
   simp only [Option.some.injEq,Prod.mk.injEq] at h
   obtain ⟨rfl,rfl⟩:=h
   obtain ⟨v,hr,hv,_⟩:=tZ hl hp g (g.slt q)
   refine ⟨v, ?_,hv⟩
   unfold qN pQ
   simp only [Instr.loadAt,Sem.run_bind] at hr ⊢
   cases hq:a.tmps.getD q undef <;> simp only [hq,Instr.sureAddr,run_stuck,Result.andThen_halt,reduceCtorEq] at hr
   rename_i ad
   cases ad with
   | none=>simp [Instr.sureAddr] at hr
   | some ad=>simpa [asAddr,Instr.sureAddr] using hr
  ·simp at h
theorem ix (g : Gam S E st ρ a w) : ∀ {rs : List ResultVar} {p : Prop} {xs : List BV},
  jc S st rs=some (p,xs)→p→∃ vs:List Value,(rs.mapM (pQ a.tmps)).run S.P w = .ok vs w∧vs.length=xs.length∧∀ j,bR ρ (bL E st.bx ρ w) w (xs.getD j .any) (vs.getD j undef)
 | [],p,xs,h,_=>by
  simp only [jc,Option.some.injEq,Prod.mk.injEq] at h
  obtain ⟨_,rfl⟩:=h
  exact ⟨[],by simp,rfl,fun j=>by simp [bR,ca,bt]⟩
 | r :: rs,p,xs,h,hp=>by
  simp only [jc] at h
  split at h
  ·rename_i p1 x1 p2 xs2 h1 h2
   simp only [Option.some.injEq,Prod.mk.injEq] at h
   obtain ⟨rfl,rfl⟩:=h
   obtain ⟨v,hv,hd⟩:=Ir h1 hp.1 g
   obtain ⟨vs,hvs,hl,hds⟩:=ix g h2 hp.2
   refine ⟨v :: vs, ?_,by simp [hl],fun j => ?_⟩
   ·unfold qN at hv
    rw [List.mapM_cons]
    simp only [Sem.run_bind,hv,Result.andThen_ok,hvs,Sem.run_pure]
   ·cases j with
    | zero=>exact hd
    | succ j=>exact hds j
  ·simp at h
theorem pk {fn : Func} {xs : List BV} {vs : List Value} {ok : Nat → Prop} (hvs : (fn.results.toList.mapM (pQ a.tmps)).run S.P w = .ok vs w) (hl : vs.length = xs.length)
  (hd:∀ j,bR ρ ok w (xs.getD j .any) (vs.getD j undef)):∃ v,(results fn a.tmps).run S.P w = .ok v w∧bu ρ ok w (IY xs) v:=by
 refine ⟨_,jW hvs, ?_⟩
 match vs,xs,hl with
 | [],[],_=>exact ⟨#[],rfl,rfl,fun j=>by simpa using hd j⟩
 | [v],[x],_=>exact hd 0
 | v :: v2 :: vs, x :: x2 :: xs, hl => exact ⟨(v :: v2 :: vs).toArray, rfl, by simpa using hl, fun j => by
   have e:(v :: v2 :: vs).toArray.getD j undef=(v :: v2 :: vs).getD j undef:=by simp [List.getD_eq_getElem?_getD]
   rw [e];exact hd j⟩
theorem eO {f : FuncId} {args : List BV} {K : SV → St → Prop} {X : SV} {bx' : Nat → Option Bx} {nx' : Nat} (h : nY S st.bx st.nx f args X bx' nx') (hr : S.rcv f = true) (hw : ∀ i, nx' ≤ i → bx' i = none) (hn : st.nx ≤ nx')
  (hk:K X (st.turn bx' nx')):eB S st f args (Sl.of K) := .inl X bx' nx' h hr hw hk hn
end
def Cx (rs:List ResultVar) (e sz n:Nat) (g:Nat→Nat→PV) (st:St):Prop :=
 match rs with
 | [.tmp t]=>match st.fr t with
  | .b (.c (.own id n'))=>∃ f,st.bx id=some (.arr e sz n f)∧n'=n∧∀ i,i<n→∀ j,j<sz→∃ u,f i j = .val u∧g i j = .val u
  | _=>False
 | _=>False
def Rc (rs:List ResultVar) (e sz n:Nat) (g:Nat→Nat→PV):AExit→St→Prop
 | .ret,st=>Cx rs e sz n g st
 | .normal,st=>Cx rs e sz n g st
 | _,_=>False
theorem HI {rs:List ResultVar} {e sz n:Nat} {g:Nat→Nat→PV} {st:St}:Rc rs e sz n g .ret st=Cx rs e sz n g st:=rfl
theorem BG {rs:List ResultVar} {e sz n:Nat} {g:Nat→Nat→PV} {st:St}:Rc rs e sz n g .normal st=Cx rs e sz n g st:=rfl
theorem IL {S : Env} {f : FuncId} {fn : Func} {c : Code} {rs : List ResultVar} {args : List BV} {e sz n : Nat} {g : Nat → Nat → PV} (hf : S.P.funcs[f]? = some fn) (hb : fn.body = some c) (hrs : fn.results.toList = rs) (hname : (fn.name == "runtime.NumGoroutine") = false)
  (hm:S.P.follows .mixedOrders=true) (hN:cO fn.ntmps c=true) (hlen:args.length≤fn.ntmps) (hl:∀ x ∈ args,BV.lt 0 x) (h:cw S c (Rc rs e sz n g) (uj args)):kr S f args e sz n g:=by
 subst hrs
 refine ⟨⟨fn,hf,hname,by rw [hb];rfl⟩,fun ok w vs hok hgl hsz hden => ?_⟩
 refine calls_of_wp hf hb ?_
 let E:Ent := { w0:=w,ok0:=ok,rx:=none,N:=fn.ntmps }
 have hokA:∀ b,ok b→bL E (fun _=>none) bM w b:=fun b hb=>⟨hok b hb,fun _=>hb,fun _ h=>absurd rfl h⟩
 have hk:fG ok (bL E (fun _=>none) bM w) w w:=fun b hb=>⟨hokA b hb,fun _=>rfl⟩
 have g0:Gam S E (uj args) bM { tmps:=vs ++ Array.replicate (fn.ntmps - vs.size) undef,defers:=[] } w:=by
  refine ⟨rfl,by simp [E];omega,⟨rfl,rfl,rfl,Nat.le_refl _,fun _ _ _=>rfl,fun _ _ _ h=>(by cases h)⟩,fun s => ?_,fun _ _ h=>(by cases h),fun _ _ h=>(by cases h),fun _ _ _ h=>(by cases h),fun _ _ _ h=>absurd rfl h,
   fun _ _ _ h=>(by cases h),fun s => ?_,fun gg n f hg => ?_,fun s=>⟨trivial,trivial⟩⟩
  ·simp only [uj,bY]
   split
   ·rename_i hs
    refine hl _ ?_
    rw [List.getD_eq_getElem?_getD,List.getElem?_eq_getElem (by omega)];exact List.getElem_mem _
   ·trivial
  ·simp only [uj,bY]
   split
   ·rename_i hs
    have e:(vs ++ Array.replicate (fn.ntmps - vs.size) undef).getD s undef=vs.getD s undef:=by
     have:s<vs.size:=by omega
     simp [this]
     rw [Array.getElem?_append_left this]
     simp [this]
    rw [e]
    exact bR.mono (nx:=0) hk (fun _ _=>rfl) (hl _ (by rw [List.getD_eq_getElem?_getD,List.getElem?_eq_getElem (by omega)];exact List.getElem_mem _)) (hden (s - 0))
   ·trivial
  ·obtain ⟨h1,h2⟩:=hgl gg n f hg
   refine ⟨hokA gg h1,fun j hj => ?_⟩
   obtain ⟨x,hx,h3,hd⟩:=h2 j hj
   exact ⟨x,hx,h3,bt.mono hk hd⟩
 have fin : ∀ {a' : Act} {w' : World}, kO S E (Cx fn.results.toList e sz n g) a' w' → a'.defers = [] ∧ ∃ v, (results fn a'.tmps).run S.P w' = .ok v w' ∧
   ∃ v2 xs,Ending.returned v = .returned v2∧RowKit.Below w.heap.size w w'∧0<sz∧w'.ownsRow w.heap.size e sz v2 n xs∧(∀ x ∈ xs,x.oneCell'=true) ∧
    ∀ i,i<n→∀ j,j<sz→bt (fun _=>False) w' (g i j) (xs.getD (i * sz+j) undef):=fun {a' w'} ⟨st',ρ',g',hq⟩=>by
  unfold Cx at hq
  split at hq
  ·rename_i t hrs
   split at hq
   ·rename_i id n' hfr
    obtain ⟨f2,hbx,rfl,hgf⟩:=hq
    have hs:=g'.slt t
    rw [hfr] at hs
    obtain ⟨A,m,cp,hr,h1,h2,h3,hu⟩:=hs
    obtain ⟨h0,xs,hown,hone,hd⟩:=g'.bxs id _ hbx
    have hmn:m=n':=by
     rcases hown.2 with ⟨e1,e2⟩|⟨b,cap,cur,e1,_⟩
     ·rw [hr] at e1;simp only [Value.slice.injEq] at e1;omega
     ·rw [hr] at e1;simp only [Value.slice.injEq] at e1;omega
    subst hmn
    have hv:a'.tmps.getD t undef=ρ' id:=by rw [hu,hr]
    have hres:(fn.results.toList.mapM (pQ a'.tmps)).run S.P w' = .ok [ρ' id] w':=by
     rw [hrs,← hv];rfl
    refine ⟨g'.dfr,ρ' id,jW hres,ρ' id,xs,rfl,⟨g'.frm.os,g'.frm.tape,g'.frm.output,g'.frm.size,fun k hk=>g'.frm.block k hk (fun _ _ h=>by cases h)⟩,h0,⟨hown.1, ?_⟩,hone,fun i hi j hj => ?_⟩
    ·rcases hown.2 with h|⟨b,cap,cur,e1,e2,e3⟩
     ·exact .inl h
     ·refine .inr ⟨b,cap,cur,e1, ?_,e3⟩
      rcases (g'.new id _ b hbx (by rw [e1];rfl)).2 with h|⟨_,_,_,h,_⟩
      ·exact h
      ·cases h
    ·obtain ⟨u,e1,e2⟩:=hgf i hi j hj
     have:=hd i hi j hj
     rw [e1] at this
     rw [e2]
     exact this
   ·exact hq.elim
  ·exact hq.elim
 refine wp_mono (dV hm c hN h g0) fun e a' w' hq => ?_
 cases e with
 | normal=>exact fin hq
 | ret=>exact fin hq
 | exit id=>obtain ⟨_,_,_,h⟩:=hq;exact h.elim
 | _=>exact hq.elim
def qQ (bx:Nat→Option Bx) (id off:Nat):Option (Nat × (Nat→PV)) :=
 match bx id with
 | some (.fix cs)=>if off≤cs.length then some (cs.length - off,fun j=>(eR bx (cs.getD (off+j) .any)).toP) else none
 | _=>none
def uU (bx:Nat→Option Bx) (p:Nat × Nat):Nat × (Nat→PV):=(qQ bx p.1 p.2).getD (0,fun _ => .any)
def BZ (bx:Nat→Option Bx):CV→CV
 | .ptr id off=>match qQ bx id off with
  | some (n,g) => .ipt n g 0
  | none => .ptr id off
 | .clo f ps=>if ps.all (fun p=>(qQ bx p.1 p.2).isSome)=true then .p (.fn f ps.length (fun i=>(uU bx (ps.getD i (0,0))).1) (fun i=>(uU bx (ps.getD i (0,0))).2)) else .clo f ps
 | x=>eR bx x
def wm (bx:Nat→Option Bx):BV→BV
 | .c x => .c (BZ bx x)
 | .agg cs => .agg (cs.map (BZ bx))
def Dy (S:Env) (rs:List ResultVar) (R:SV→Prop) (st:St):Prop :=
 match jc S st rs with
 | some (p,xs)=>p∧(∀ x ∈ xs.map (wm st.bx),BV.lt 0 x)∧R (IY (xs.map (wm st.bx)))
 | none=>False
def Ke (S:Env) (rs:List ResultVar) (R:SV→Prop):AExit→St→Prop
 | .ret,st=>Dy S rs R st
 | .normal,st=>Dy S rs R st
 | _,_=>False
theorem GJ {S:Env} {rs:List ResultVar} {R:SV→Prop} {st:St}:Ke S rs R .ret st=Dy S rs R st:=rfl
theorem yD {S:Env} {rs:List ResultVar} {R:SV→Prop} {st:St}:Ke S rs R .normal st=Dy S rs R st:=rfl
section
variable {S:Env} {E:Ent} {st:St} {ρ:fQ} {a:Act} {w:World}
theorem KE {x:CV} {u:Value} {ok:Nat→Prop} (h:ca ρ ok w x u):bt ok w x.toP u:=by
 cases x with
 | p x=>exact h
 | _=>trivial
theorem tV {id off n : Nat} {g : Nat → PV} {u : Value} {ok : Nat → Prop} (G : Gam S E st ρ a w) (hrx : E.rx = none) (hok : ∀ b, bL E st.bx ρ w b → ok b) (hnew : ∀ b, b < w.heap.size → E.w0.heap.size ≤ b → ok b)
  (ho:qQ st.bx id off=some (n,g)) (h:∃ b o,ρ id = .pointer (some ⟨b,o,none⟩)∧u = .pointer (some ⟨b,o+off,none⟩)) :
  ∃ b o,u = .pointer (some ⟨b,o,none⟩)∧ok b∧∀ j,j<n→∃ x,w.cell? ⟨b,o+j,none⟩=some x∧x.oneCell'=true∧bt ok w (g j) x:=by
 unfold qQ at ho
 split at ho
 ·rename_i cs hb
  split at ho
  ·rename_i hoff
   simp only [Option.some.injEq,Prod.mk.injEq] at ho
   obtain ⟨rfl,rfl⟩:=ho
   obtain ⟨b,o,hr,hu⟩:=h
   obtain ⟨b2,o2,cells,t,hv,hh,hs,h1,hd⟩:=G.bxs id _ hb
   rw [hr] at hv
   simp only [Value.pointer.injEq,Option.some.injEq,Addr.mk.injEq,and_true] at hv
   obtain ⟨rfl,rfl⟩:=hv
   have hge:E.w0.heap.size≤b:=by
    rcases (G.new id _ b hb (by rw [hr];rfl)).2 with h|⟨o3,cs3,_,_,e⟩
    ·exact h
    ·rw [hrx] at e;cases e
   refine ⟨b,o+off,hu,hnew b (bN hh) hge,fun j hj=>⟨cells.getD (o+off+j) undef,bG hh (by omega), ?_, ?_⟩⟩
   ·rw [Nat.add_assoc];exact h1 _ (by omega)
   ·have:=hd (off+j)
    rw [← Nat.add_assoc] at this
    exact KE (nO G hok hnew this)
  ·cases ho
 ·cases ho
theorem zG {x : CV} {u : Value} {ok : Nat → Prop} (G : Gam S E st ρ a w) (hrx : E.rx = none) (hok : ∀ b, bL E st.bx ρ w b → ok b) (hnew : ∀ b, b < w.heap.size → E.w0.heap.size ≤ b → ok b)
  (h:ca ρ (bL E st.bx ρ w) w x u):ca ρ ok w (BZ st.bx x) u:=by
 unfold BZ
 split
 ·split
  ·rename_i id off n g ho
   obtain ⟨b,o,h1,h2,h3⟩:=tV G hrx hok hnew ho h
   exact ⟨b,o,h1,h2,h3⟩
  ·exact h
 ·rename_i f ps
  split
  ·rename_i hall
   obtain ⟨vs,hu,hs,hc⟩:=h
   refine ⟨vs,hu,hs,fun i hi => ?_⟩
   have hm:ps.getD i (0,0) ∈ ps:=by rw [List.getD_eq_getElem?_getD,List.getElem?_eq_getElem hi];exact List.getElem_mem hi
   have hq:=List.all_eq_true.1 hall _ hm
   obtain ⟨q,hq⟩:=Option.isSome_iff_exists.1 hq
   have:=tV (n:=q.1) (g:=q.2) G hrx hok hnew hq (hc i hi)
   have e:uU st.bx (ps.getD i (0,0))=q:=by unfold uU;rw [hq];rfl
   dsimp only
   rw [e]
   exact this
  ·exact h
 ·exact nO G hok hnew h
theorem Ji {x : BV} {u : Value} {ok : Nat → Prop} (G : Gam S E st ρ a w) (hrx : E.rx = none) (hok : ∀ b, bL E st.bx ρ w b → ok b) (hnew : ∀ b, b < w.heap.size → E.w0.heap.size ≤ b → ok b)
  (h:bR ρ (bL E st.bx ρ w) w x u):bR ρ ok w (wm st.bx x) u:=by
 cases x with
 | c x=>exact zG G hrx hok hnew h
 | agg cs =>
  obtain ⟨us,rfl,hs,h1,hd⟩:=h
  refine ⟨us,rfl,by simp [hs],h1,fun j => ?_⟩
  by_cases hj:j<cs.length
  ·have e:(cs.map (BZ st.bx)).getD j .any=BZ st.bx (cs.getD j .any):=by simp [List.getD_eq_getElem?_getD,hj]
   rw [e]
   exact zG G hrx hok hnew (hd j)
  ·rw [List.getD_eq_getElem?_getD,List.getElem?_eq_none (by simp;omega)];trivial
theorem IR {f : FuncId} {fn : Func} {c : Code} {rs : List ResultVar} {args : List BV} {R : SV → Prop} (hf : S.P.funcs[f]? = some fn) (hb : fn.body = some c) (hrs : fn.results.toList = rs) (hname : (fn.name == "runtime.NumGoroutine") = false)
  (hm:S.P.follows .mixedOrders=true) (hN:cO fn.ntmps c=true) (hlen:args.length≤fn.ntmps) (hl:∀ x ∈ args,BV.lt 0 x) (h:cw S c (Ke S rs R) (uj args)):aF S f args R:=by
 subst hrs
 refine ⟨⟨fn,hf,hname,by rw [hb];rfl⟩,fun ok w vs hok hgl hsz hden => ?_⟩
 refine calls_of_wp hf hb ?_
 let E:Ent := { w0:=w,ok0:=ok,rx:=none,N:=fn.ntmps }
 have hokA:∀ b,ok b→bL E (fun _=>none) bM w b:=fun b hb=>⟨hok b hb,fun _=>hb,fun _ h=>absurd rfl h⟩
 have hk:fG ok (bL E (fun _=>none) bM w) w w:=fun b hb=>⟨hokA b hb,fun _=>rfl⟩
 have g:Gam S E (uj args) bM { tmps:=vs ++ Array.replicate (fn.ntmps - vs.size) undef,defers:=[] } w:=by
  refine ⟨rfl,by simp [E];omega,⟨rfl,rfl,rfl,Nat.le_refl _,fun _ _ _=>rfl,fun _ _ _ h=>(by cases h)⟩,fun s => ?_,fun _ _ h=>(by cases h),fun _ _ h=>(by cases h),fun _ _ _ h=>(by cases h),fun _ _ _ h=>absurd rfl h,
   fun _ _ _ h=>(by cases h),fun s => ?_,fun gg n f hg => ?_,fun s=>⟨trivial,trivial⟩⟩
  ·simp only [uj,bY]
   split
   ·rename_i hs
    refine hl _ ?_
    rw [List.getD_eq_getElem?_getD,List.getElem?_eq_getElem (by omega)];exact List.getElem_mem _
   ·trivial
  ·simp only [uj,bY]
   split
   ·rename_i hs
    have e:(vs ++ Array.replicate (fn.ntmps - vs.size) undef).getD s undef=vs.getD s undef:=by
     have:s<vs.size:=by omega
     simp [this]
     rw [Array.getElem?_append_left this]
     simp [this]
    rw [e]
    exact bR.mono (nx:=0) hk (fun _ _=>rfl) (hl _ (by rw [List.getD_eq_getElem?_getD,List.getElem?_eq_getElem (by omega)];exact List.getElem_mem _)) (hden (s - 0))
   ·trivial
  ·obtain ⟨h1,h2⟩:=hgl gg n f hg
   refine ⟨hokA gg h1,fun j hj => ?_⟩
   obtain ⟨x,hx,h3,hd⟩:=h2 j hj
   exact ⟨x,hx,h3,bt.mono hk hd⟩
 have fin : ∀ {a' : Act} {w' : World}, kO S E (Dy S fn.results.toList R) a' w' → a'.defers = [] ∧ ∃ v, (results fn a'.tmps).run S.P w' = .ok v w' ∧
   ∃ v2 r,Ending.returned v = .returned v2∧R r∧SV.lt 0 r∧RowKit.Below w.heap.size w w'∧bu bM (Ib ok w w') w' r v2:=fun {a' w'} ⟨st',ρ',g',hq⟩=>by
  unfold Dy at hq
  split at hq
  ·rename_i p xs hr
   obtain ⟨hp,hl2,hR⟩:=hq
   obtain ⟨vs2,hvs,hlv,hd⟩:=ix g' hr hp
   have hd2:∀ j,bR bM (Ib ok w w') w' ((xs.map (wm st'.bx)).getD j .any) (vs2.getD j undef):=fun j=>by
    by_cases hj:j<xs.length
    ·have e:(xs.map (wm st'.bx)).getD j .any=wm st'.bx (xs.getD j .any):=by simp [List.getD_eq_getElem?_getD,hj]
     have hm:(xs.map (wm st'.bx)).getD j .any ∈ xs.map (wm st'.bx):=by rw [List.getD_eq_getElem?_getD,List.getElem?_eq_getElem (by simpa using hj)];exact List.getElem_mem _
     refine eT (ρ:=ρ') (hl2 _ hm) ?_
     rw [e]
     exact Ji g' rfl (fun b hb=>⟨hb.1,hb.2.1⟩) (fun b h1 h2=>⟨h1,fun h3=>by have:w.heap.size≤b:=h2;omega⟩) (hd j)
    ·rw [List.getD_eq_getElem?_getD,List.getElem?_eq_none (by simpa using hj)];trivial
   obtain ⟨v,hv1,hv2⟩:=pk hvs (by simpa using hlv) hd2
   refine ⟨g'.dfr,v,hv1,v,_,rfl,hR, ?_,⟨g'.frm.os,g'.frm.tape,g'.frm.output,g'.frm.size,fun k hk=>g'.frm.block k hk (fun _ _ h=>by cases h)⟩,hv2⟩
   generalize xs.map (wm st'.bx)=l at hl2
   match l,hl2 with
   | [],_=>exact fun x hx=>by simp at hx
   | [x],hl2=>exact hl2 x (List.mem_cons_self ..)
   | x :: y :: l,hl2=>exact hl2
  ·exact hq.elim
 refine wp_mono (dV hm c hN h g) fun e a' w' hq => ?_
 cases e with
 | normal=>exact fin hq
 | ret=>exact fin hq
 | exit id=>obtain ⟨_,_,_,h⟩:=hq;exact h.elim
 | _=>exact hq.elim
end
attribute [go_sem ↓] CR TX
attribute [go_sem] LN Po Kl xT Ja FQ Rv List.all_cons List.all_nil RD Rk SC Qy Rg Ma MP OR IZ AQ JT jc Mu IY Th FO FF GV QH OD GJ yD Dy HI BG Cx wm BZ qQ uU
end Go.SL
namespace Go.SL
open Go
def uS (o:Oper):Bool:=o.guard.isNone && match o.op with
 | .alloc _=>true
 | .box _ _=>true
 | .makeSlice _ _ _=>true
 | _=>false
def yC (o:Oper):Bool:=o.guard.isNone && o.dst.isNone && match o.op with
 | .store _ _ _=>true
 | _=>false
def tp (ops:Array Oper) (x y:Oper):Bool:=(match y.dst with|some d => !(cg ops x).contains d|none=>true) && yC x && uS y
section
variable {S:Env} {ops:Array Oper} {st s1 s2 s':St}
theorem JA {o:Oper} (ha:uS o=true) (h:Ex S ops st o s'):∃ (z:Option Bx) (r:SV),s'=(st.newBoxO z).set o.dst r∧∀ st2:St,st2.fr=st.fr→st2.nx=st.nx→Ex S ops st2 o ((st2.newBoxO z).set o.dst r):=by
 simp only [uS,Bool.and_eq_true,Option.isNone_iff_eq_none] at ha
 obtain ⟨hg,ha⟩:=ha
 have hev:∀ st2:St,st2.fr=st.fr→st2.ev S=st.ev S:=fun st2 hf=>by
  funext x
  cases x <;> simp [St.ev,hf]
 unfold Ex eP at h
 rw [hg] at h
 simp only [jo] at h
 split at ha
 ·rename_i t ho
  rw [ho] at h
  simp only [show ro S st.bx (st.ev S) (.alloc t)=none from rfl,dk] at h
  split at h
  ·rename_i z hz
   refine ⟨some _,_,h.2.symm,fun st2 hf hn => ?_⟩
   unfold Ex eP
   rw [hg]
   simp only [jo,ho,show ro S st2.bx (st2.ev S) (.alloc t)=none from rfl,dk,hev st2 hf,hn,hz]
   exact ⟨h.1,rfl⟩
  ·exact h.2.elim
 ·rename_i t x ho
  rw [ho] at h
  simp only [show ro S st.bx (st.ev S) (.box t x)=none from rfl,dk] at h
  split at h
  ·rename_i v hz
   refine ⟨some _,_,h.2.2.symm,fun st2 hf hn => ?_⟩
   unfold Ex eP
   rw [hg]
   simp only [jo,ho,show ro S st2.bx (st2.ev S) (.box t x)=none from rfl,dk,hev st2 hf,hn,hz]
   exact ⟨h.1,h.2.1,rfl⟩
  ·exact h.2.elim
 ·rename_i t l c ho
  rw [ho] at h
  simp only [show ro S st.bx (st.ev S) (.makeSlice t l c)=none from rfl,dk] at h
  split at h
  ·rename_i q1 q2 q3
   split at h
   ·rename_i q4 q5
    refine ⟨_,_,h.2.2.symm,fun st2 hf hn => ?_⟩
    unfold Ex eP
    rw [hg]
    simp only [jo,ho,show ro S st2.bx (st2.ev S) (.makeSlice t l c)=none from rfl,dk,hev st2 hf,hn,q1,q2,q3,q4,q5]
    exact ⟨h.1,h.2.1,trivial⟩
   ·exact h.2.elim
  ·exact h.2.elim
 ·cases ha
theorem IN {o:Oper} (ha:yC o=true) (h:Ex S ops st o s'):∃ id b b',st.bx id=some b∧s'=st.setBox id b'∧∀ st2:St,(∀ t ∈ cg ops o,st.fr t=st2.fr t)→st2.bx id=some b→Ex S ops st2 o (st2.setBox id b'):=by
 simp only [yC,Bool.and_eq_true,Option.isNone_iff_eq_none] at ha
 obtain ⟨⟨hg,hd⟩,ha⟩:=ha
 split at ha
 ·rename_i t p v ho
  have hev:∀ st2:St,(∀ t ∈ cg ops o,st.fr t=st2.fr t)→st2.ev S p=st.ev S p∧st2.ev S v=st.ev S v:=fun st2 hf=>by
   have:=du (S:=S) hf
   rw [ho] at this
   exact ⟨(this p (by simp [Op.operands])).symm,(this v (by simp [Op.operands])).symm⟩
  unfold Ex eP at h
  rw [hg] at h
  simp only [jo,hd,ho,show ro S st.bx (st.ev S) (.store t p v)=none from rfl] at h
  obtain ⟨hcond,h⟩:=h
  simp only [dk] at h
  split at h
  ·rename_i id off w sz ag q1 q2 q3
   split at h
   ·rename_i cs hb
    refine ⟨id,_,_,hb,h.2.symm,fun st2 hf hb2 => ?_⟩
    obtain ⟨e1,e2⟩:=hev st2 hf
    unfold Ex eP
    rw [hg]
    simp only [jo,hd,ho,show ro S st2.bx (st2.ev S) (.store t p v)=none from rfl]
    refine ⟨?_, ?_⟩
    ·simpa only [Op.operands,List.map_cons,List.map_nil,e1,e2] using hcond
    ·simp only [dk,e1,e2,q1,q2,q3,hb2]
     exact ⟨h.1,rfl⟩
   ·exact h.elim
  ·rename_i id s i off w sz ag q1 q2 q3
   split at h
   ·rename_i e s' n f hb
    refine ⟨id,_,_,hb,h.2.symm,fun st2 hf hb2 => ?_⟩
    obtain ⟨e1,e2⟩:=hev st2 hf
    unfold Ex eP
    rw [hg]
    simp only [jo,hd,ho,show ro S st2.bx (st2.ev S) (.store t p v)=none from rfl]
    refine ⟨?_, ?_⟩
    ·simpa only [Op.operands,List.map_cons,List.map_nil,e1,e2] using hcond
    ·simp only [dk,e1,e2,q1,q2,q3,hb2]
     exact ⟨h.1,rfl⟩
   ·exact h.elim
  ·exact h.elim
 ·cases ha
theorem lr {lb:Nat} {x y:Oper} (hi:tp ops x y=true) (w:gS lb st) (h1:Ex S ops st x s1) (h2:Ex S ops s1 y s2):∃ s3,Ex S ops st y s3∧Ex S ops s3 x s2:=by
 simp only [tp,Bool.and_eq_true] at hi
 obtain ⟨⟨hyx,hx⟩,hy⟩:=hi
 obtain ⟨id,b,b',hb,rfl,k1⟩:=IN hx h1
 obtain ⟨z,r,rfl,k2⟩:=JA hy h2
 have hid:id≠st.nx:=fun e=>by
  have:=w.1 id (by omega)
  rw [this] at hb;cases hb
 refine ⟨_,k2 st rfl rfl, ?_⟩
 have:=k1 ((st.newBoxO z).set y.dst r) (fun t ht=>by
  have:=gy (fr:=(st.newBoxO z).fr) (kf:=st.kf) (nx':=0) (bx':=st.bx) (bx:=(st.newBoxO z).bx) (nx:=(st.newBoxO z).nx) (d:=y.dst) (v:=r) hyx t ht
  exact this.symm) (by rw [dX];simp only [St.newBoxO];rw [if_neg hid];exact hb)
 have e:(((st.newBoxO z).set y.dst r).setBox id b')=((st.setBox id b').newBoxO z).set y.dst r:=by
  rw [dZ,dZ]
  simp only [St.setBox,St.newBoxO,St.mk.injEq,true_and,and_true]
  funext j
  by_cases c1:j=id
  ·subst c1;simp [hid]
  ·by_cases c2:j=st.nx
   ·subst c2;simp [c1]
   ·simp [c1,c2]
 rw [e] at this
 exact this
end
def nq (rcv:Nat→Bool) (ops:Array Oper) (m:Nat→Nat) (listed:Array Bool) (p:Nat):Bool :=
 match ops[p]? with
 | none=>false
 | some x=>(List.range ops.size).all fun i=>listed.getD i true || Nat.beq i p || ((m i).testBit p && Nat.blt p i) || (match ops[i]? with
  | some o=>rL rcv ops x o || pF rcv ops x o || tp ops x o
  | none=>false)
def od (ops:Array Oper):Bool:=(List.range ops.size).all fun i=>match ops[i]? with
 | none=>false
 | some o=>o.after.all fun e => !Region.binds .any e || Nat.blt e.on i
section
variable {S:Env} {ops:Array Oper} {st:St}
theorem pn {listed:Array Bool} {i:Nat} (hi:i<listed.size) (k:Nat) (b:Bool):(listed.setIfInBounds i true).getD k b=if k=i then true else listed.getD k b:=by
 simp only [Array.getD_eq_getD_getElem?,Array.getElem?_setIfInBounds]
 by_cases hk:k=i
 ·subst hk;simp [hi]
 ·rw [if_neg (fun h=>hk h.symm),if_neg hk]
theorem yn (h:od ops=true):∀ i o,ops[i]?=some o→∀ e ∈ o.after,Region.binds .any e=true→e.on<i:=fun i o ho e he hb=>by
 have hlt:i<ops.size:=by
  rcases Nat.lt_or_ge i ops.size with h|h
  ·exact h
  ·rw [Array.getElem?_eq_none h] at ho;cases ho
 have:=List.all_eq_true.1 h i (List.mem_range.2 hlt)
 rw [ho] at this
 obtain ⟨k,hk,rfl⟩:=Array.mem_iff_getElem.1 he
 have:=(Array.all_eq_true.1 this) k hk
 simp only [hb,Bool.not_true,Bool.false_or,Nat.blt] at this
 have:=Nat.le_of_ble_eq_true this
 omega
theorem gx {listed:Array Bool} {i:Nat} (hs:listed.size=ops.size) (h:i ∈ Region.ready .any ops listed):i<ops.size:=by
 obtain ⟨o,ho,_⟩:=(cA hs).1 h
 rcases Nat.lt_or_ge i ops.size with h|h
 ·exact h
 ·rw [Array.getElem?_eq_none h] at ho;cases ho
theorem wM {listed : Array Bool} {i : Nat} (hs : listed.size = ops.size) (hed : ∀ i o, ops[i]? = some o → ∀ e ∈ o.after, Region.binds .any e = true → e.on < i) (h : i ∈ Region.ready .any ops listed) {o : Oper} (ho : ops[i]? = some o) :
  ∀ e ∈ o.after,Region.binds .any e=true→jd listed e.on:=fun e he hb=>by
 have hlt:=gx hs h
 obtain ⟨o2,ho2,hl,hdep⟩:=(cA hs).1 h
 rw [ho] at ho2
 cases ho2
 have:=hdep e he hb
 have h2:=hed i o ho e he hb
 have hl2:e.on<listed.size:=by omega
 unfold jd
 rw [Array.getD,dif_pos hl2] at this ⊢
 exact this
theorem lI {listed:Array Bool} {i:Nat} (hs:listed.size=ops.size) (hed:∀ i o,ops[i]?=some o→∀ e ∈ o.after,Region.binds .any e=true→e.on<i) (hcl:gD ops listed) (h:i ∈ Region.ready .any ops listed):gD ops (listed.setIfInBounds i true):=fun k x hx hin e he hb=>by
 have hlt:=gx hs h
 unfold jd at hin ⊢
 rw [pn (by omega)] at hin ⊢
 by_cases hek:e.on=i
 ·rw [if_pos hek]
 ·rw [if_neg hek]
  by_cases hki:k=i
  ·subst hki
   exact wM hs hed h hx e he hb
  ·rw [if_neg hki] at hin
   exact hcl k x hx hin e he hb
theorem wF {m : Nat → Nat} {listed : Array Bool} {i p : Nat} (hm : cP ops m = true) (hs : listed.size = ops.size) (hed : ∀ i o, ops[i]? = some o → ∀ e ∈ o.after, Region.binds .any e = true → e.on < i) (hcl : gD ops listed)
  (hpi:p<i) (hb:(m i).testBit p=true) (hp:listed.getD p true=false):¬ i ∈ Region.ready .any ops listed:=fun h=>by
 have hlt:=gx hs h
 obtain ⟨o,ho,_⟩:=(cA hs).1 h
 have hdep:=wM hs hed h ho
 have h3:=List.all_eq_true.1 hm i (List.mem_range.2 hlt)
 rw [ho] at h3
 have h4:=List.all_eq_true.1 h3 p (List.mem_range.2 hpi)
 simp only [hb,Bool.not_true,Bool.false_or] at h4
 obtain ⟨k,hk',hh⟩:=Array.any_eq_true.1 h4
 simp only [Bool.and_eq_true,Bool.or_eq_true,Nat.beq_eq] at hh
 have hin:=hdep _ (Array.getElem_mem hk') hh.1
 have hle:=hed i o ho _ (Array.getElem_mem hk') hh.1
 have:jd listed p:=by
  rcases hh.2 with q|q
  ·rw [← q];exact hin
  ·exact uP hm hcl hed (fun _ _ _=>trivial) (i+1) _ (by omega) hin (by omega) p (by have:=q.2;simp [Nat.blt] at this;omega) q.1
 unfold jd at this
 rw [this] at hp
 cases hp
theorem zT {rcv:Nat→Bool} {m:Nat→Nat} {listed:Array Bool} {i p:Nat} (hi:i<listed.size) (h:nq rcv ops m listed p=true):nq rcv ops m (listed.setIfInBounds i true) p=true:=by
 unfold nq at h ⊢
 split at h
 ·cases h
 ·refine List.all_eq_true.2 fun k hk => ?_
  have:=List.all_eq_true.1 h k hk
  simp only [Bool.or_eq_true] at this ⊢
  rw [pn hi]
  rcases this with ((h1|h1)|h1)|h1
  ·refine .inl (.inl (.inl ?_));split
   ·rfl
   ·exact h1
  ·exact .inl (.inl (.inr h1))
  ·exact .inl (.inr h1)
  ·exact .inr h1
theorem jq {listed:Array Bool} {i k:Nat} (hs:listed.size=ops.size) (hi:i<listed.size) (hk:k ∈ Region.ready .any ops listed) (hne:k≠i):k ∈ Region.ready .any ops (listed.setIfInBounds i true):=by
 obtain ⟨o,ho,hl,hdep⟩:=(cA hs).1 hk
 refine (cA (by simpa using hs)).2 ⟨o,ho,by rw [pn hi,if_neg hne];exact hl,fun e he hb => ?_⟩
 rw [pn hi]
 split
 ·rfl
 ·exact hdep e he hb
theorem AO {listed:Array Bool} {i k:Nat}:(listed.setIfInBounds i true).setIfInBounds k true=(listed.setIfInBounds k true).setIfInBounds i true:=by
 apply Array.ext_getElem?
 intro j
 simp only [Array.getElem?_setIfInBounds,Array.size_setIfInBounds]
 repeat' split
 all_goals first|rfl|omega|(simp_all;done)
theorem zP {m : Nat → Nat} {x : Oper} {p : Nat} (hm : cP ops m = true) (hed : ∀ i o, ops[i]? = some o → ∀ e ∈ o.after, Region.binds .any e = true → e.on < i) (hx : ops[p]? = some x) {K : St → Prop} : ∀ (fuel : Nat) (listed : Array Bool) (st : St),
  listed.size=ops.size→gD ops listed→nq S.rcv ops m listed p=true→p ∈ Region.ready .any ops listed→gS 0 st→(∃ s,Ex S ops st x s∧iL S ops fuel (listed.setIfInBounds p true) s K)→iL S ops (fuel+1) listed st K:=by
 intro fuel
 induction fuel with
 | zero =>
  intro listed st hs hcl hp hr hw ⟨s,h1,h2⟩
  have hplt:=gx hs hr
  refine ⟨fun hno=>(by rw [hno] at hr;cases hr),fun i hi => ?_⟩
  by_cases e:i=p
  ·subst e;rw [hx];exact kN h1 h2
  ·have:=jq hs (by omega) hi e
   rw [h2.1] at this;cases this
 | succ f ih =>
  intro listed st hs hcl hp hr hw ⟨s,h1,h2⟩
  have hplt:=gx hs hr
  obtain ⟨_,_,hpl,_⟩:=(cA hs).1 hr
  refine ⟨fun hno=>(by rw [hno] at hr;cases hr),fun i hi => ?_⟩
  by_cases e:i=p
  ·subst e;rw [hx];exact kN h1 h2
  obtain ⟨o,ho,hl,hdep⟩:=(cA hs).1 hi
  have hlt:=gx hs hi
  rw [ho]
  have h3:=h2.2 i (jq hs (by omega) hi e)
  rw [ho] at h3
  obtain ⟨s2,h4,h5⟩:=oO h3
  have hsw:∃ s3,Ex S ops st o s3∧Ex S ops s3 x s2:=by
   have hq:=hp
   unfold nq at hq
   rw [hx] at hq
   have hq:=List.all_eq_true.1 hq i (List.mem_range.2 hlt)
   rw [ho] at hq
   simp only [Bool.or_eq_true,Nat.beq_eq,Bool.and_eq_true] at hq
   rcases hq with ((q|q)|q)|q
   ·rw [q] at hl;cases hl
   ·exact absurd q e
   ·exact absurd hi (wF hm hs hed hcl (by have:=q.2;simp [Nat.blt] at this;omega) q.1 hpl)
   ·rcases q with (q|q)|q
    ·exact sS q h1 h4
    ·exact iY q hw h1 h4
    ·exact lr q hw h1 h4
  obtain ⟨s3,h6,h7⟩:=hsw
  refine kN h6 ?_
  refine ih _ s3 (by simpa using hs) (lI hs hed hcl hi) (zT (by omega) hp) (jq hs (by omega) hr (fun h=>e h.symm)) (rz h6 hw) ⟨s2,h7, ?_⟩
  rw [AO];exact h5
end
def Az (rcv:Nat→Bool) (ops:Array Oper) (m:Nat→Nat) (listed:Array Bool):Tr→Bool
 | .leaf=>Region.ready .any ops listed == []
 | .nil=>false
 | .br i t r=>Region.ready .any ops listed == dM (.br i t r) || (dM r == [] && (Region.ready .any ops listed).contains i && nq rcv ops m listed i)
def FR (rcv:Nat→Bool) (ops:Array Oper) (m:Nat→Nat):Array Bool→Tr→Bool
 | _, .leaf=>true
 | _, .nil=>true
 | listed, .br i t r=>Nat.blt i ops.size && Az rcv ops m (listed.setIfInBounds i true) t && FR rcv ops m (listed.setIfInBounds i true) t && FR rcv ops m listed r
section
variable {S:Env} {l:List Oper} {m:Nat→Nat}
theorem ua {t:Tr} {listed:Array Bool} (hn:Az S.rcv l.toArray m listed t=true):∀ i ∈ dM t,i ∈ Region.ready .any l.toArray listed:=by
 cases t with
 | leaf=>intro i hi;cases hi
 | nil=>cases hn
 | br k t r =>
  intro i hi
  simp only [Az,Bool.or_eq_true,Bool.and_eq_true,beq_iff_eq] at hn
  rcases hn with hn|hn
  ·rw [hn];exact hi
  ·obtain ⟨⟨h1,h2⟩,_⟩:=hn
   rw [dM,h1,List.mem_singleton] at hi
   subst hi
   exact List.contains_iff_mem.1 h2
theorem vp (hm : cP l.toArray m = true) (hf : od l.toArray = true) {t : Tr} {listed : Array Bool} {fuel : Nat} {st : St} {K : St → Prop} (hs : listed.size = l.toArray.size) (hcl : gD l.toArray listed) (hw : gS 0 st)
  (hn:Az S.rcv l.toArray m listed t=true) (h:eC S l.toArray l t st K) (hd:ga t≤fuel)
  (hal : ∀ f, fuel = f + 1 → ∀ i ∈ dM t, match l.toArray[i]? with
    | some o=>eP S l.toArray st o fun st'=>iL S l.toArray f (listed.setIfInBounds i true) st' K
    | none=>iL S l.toArray f (listed.setIfInBounds i true) st K):iL S l.toArray fuel listed st K:=by
 have hsub:=ua hn
 cases t with
 | leaf =>
  have hr:Region.ready .any l.toArray listed=[]:=by simpa [Az] using hn
  cases fuel with
  | zero=>exact ⟨hr,h⟩
  | succ f=>exact ⟨fun _=>h,fun i hi=>by rw [hr] at hi;cases hi⟩
 | nil=>cases hn
 | br i t r =>
  cases fuel with
  | zero=>simp [ga] at hd
  | succ f =>
   have hi:i ∈ Region.ready .any l.toArray listed:=hsub i (by rw [dM];exact List.mem_cons_self ..)
   simp only [Az,Bool.or_eq_true,Bool.and_eq_true,beq_iff_eq] at hn
   rcases hn with hn|hn
   ·exact ⟨fun h0=>by (rw [h0] at hi;cases hi),fun j hj=>hal f rfl j (by rw [← hn];exact hj)⟩
   ·have:=hal f rfl i (by rw [dM];exact List.mem_cons_self ..)
    obtain ⟨o,ho,_⟩:=(cA hs).1 hi
    rw [ho] at this
    exact zP hm (yn hf) ho f listed st hs hcl hn.2 hi hw (oO this)
theorem oL (hm : cP l.toArray m = true) (hf : od l.toArray = true) {K : St → Prop} : ∀ (t : Tr) (listed : Array Bool) (fuel : Nat) (st : St), listed.size = l.toArray.size → gD l.toArray listed → gS 0 st → (∀ i ∈ dM t, i ∈ Region.ready .any l.toArray listed) →
  FR S.rcv l.toArray m listed t = true → eC S l.toArray l t st K → ga t ≤ fuel + 1 → ∀ i ∈ dM t, match l.toArray[i]? with
    | some o=>eP S l.toArray st o fun st'=>iL S l.toArray fuel (listed.setIfInBounds i true) st' K
    | none=>iL S l.toArray fuel (listed.setIfInBounds i true) st K
 | .leaf,_,_,_,_,_,_,_,_,_,_,i,hi=>by cases hi
 | .nil,_,_,_,_,_,_,_,_,_,_,i,hi=>by cases hi
 | .br k t r,listed,fuel,st,hs,hcl,hw,hsub,hok,h,hd,i,hi=>by
  have hkr:k ∈ Region.ready .any l.toArray listed:=hsub k (by rw [dM];exact List.mem_cons_self ..)
  simp only [FR,Bool.and_eq_true] at hok
  obtain ⟨⟨⟨hk,hn⟩,ht⟩,hr⟩:=hok
  simp only [ga] at hd
  rcases List.mem_cons.1 hi with rfl|hi
  ·have hlt:i<l.toArray.size:=by simp [Nat.blt] at hk ⊢;omega
   have hget:l.toArray[i]?=some (l.getD i default):=by
    have hlt2:i<l.length:=by simpa using hlt
    rw [List.getElem?_toArray,List.getD_eq_getElem?_getD,List.getElem?_eq_getElem hlt2];rfl
   rw [hget]
   obtain ⟨s,h1,h2⟩:=oO h.1
   refine kN h1 ?_
   have hs2:(listed.setIfInBounds i true).size=l.toArray.size:=by simpa using hs
   have hcl2:=lI hs (yn hf) hcl hkr
   exact vp hm hf hs2 hcl2 (rz h1 hw) hn h2 (by omega) fun f hf2 j hj=>oL hm hf t _ f s hs2 hcl2 (rz h1 hw) (ua hn) ht h2 (by omega) j hj
  ·exact oL hm hf r listed fuel st hs hcl hw (fun j hj=>hsub j (by rw [dM];exact List.mem_cons_of_mem _ hj)) hr h.2 (by omega) i hi
theorem CF {t : Tr} {st : St} {K : St → Prop} (hok : (od l.toArray && cP l.toArray m && Az S.rcv l.toArray m (Array.replicate l.toArray.size false) t && FR S.rcv l.toArray m (Array.replicate l.toArray.size false) t && Nat.ble (ga t) l.toArray.size) = true) (hw : gS 0 st) (h : eC S l.toArray l t st K) :
  iL S l.toArray l.toArray.size (Array.replicate l.toArray.size false) st K:=by
 simp only [Bool.and_eq_true] at hok
 obtain ⟨⟨⟨⟨hf,hm⟩,h1⟩,h2⟩,h3⟩:=hok
 have h3:=Nat.le_of_ble_eq_true h3
 have hs:(Array.replicate l.toArray.size false).size=l.toArray.size:=by simp
 have hcl:gD l.toArray (Array.replicate l.toArray.size false):=fun i o ho hi=>by
  exfalso
  have hlt:i<l.toArray.size:=by
   rcases Nat.lt_or_ge i l.toArray.size with h|h
   ·exact h
   ·rw [Array.getElem?_eq_none h] at ho;cases ho
  unfold jd at hi
  simp only [Array.getD_eq_getD_getElem?,Array.getElem?_replicate,if_pos hlt] at hi
  cases hi
 exact vp hm hf hs hcl hw h1 h h3 fun f hf2 i hi=>oL hm hf t _ f st hs hcl hw (ua h1) h2 h (by omega) i hi
theorem iN {id : Nat} {y : Code} {Q : AExit → St → Prop} {st : St} (t : Tr)
  (hok:(od l.toArray && cP l.toArray (fun i=>(Region.before l.toArray).getD i 0) && Az S.rcv l.toArray (fun i=>(Region.before l.toArray).getD i 0) (Array.replicate l.toArray.size false) t && FR S.rcv l.toArray (fun i=>(Region.before l.toArray).getD i 0) (Array.replicate l.toArray.size false) t && Nat.ble (ga t) l.toArray.size)=true)
  (hw:gS 0 st) (h:∀ K:St→Prop,(∀ s s',Le s s'→cw S y Q s'→K s)→eC S l.toArray l t st K):cw S (.seq (.region id l.toArray true) y) Q st:=by
 refine dv (S:=S) (.region id l.toArray true) (Q:=gV (fun st=>Wk (cw S y Q) st∨cw S y Q st) Q) (fun _ _ h=>h) ?_
 simp only [cw,if_pos]
 exact CF hok hw (h _ fun s s' hl hs => .inl ⟨s',hl,hs⟩)
end
theorem dA {S:Env} {ops:Array Oper} {L:List Oper} {i:Nat} {t r:Tr} {st:St} {K:St→Prop} (h:∀ K':St→Prop,(∀ s,eC S ops L t s K→K' s)→aZ S ops [L.getD i default] st K') (hr:eC S ops L r st K):eC S ops L (.br i t r) st K :=
 ⟨h _ (fun _ h=>h),hr⟩
theorem cj {S:Env} {ops:Array Oper} {L:List Oper} {st:St} {K:St→Prop} (h:K st):eC S ops L .leaf st K:=h
theorem cE {S:Env} {ops:Array Oper} {L:List Oper} {st:St} {K:St→Prop}:eC S ops L .nil st K:=trivial
end Go.SL
namespace Go.SL
open Go
theorem Od {S:Env} {f:FuncId} {args:List BV} {e sz:Nat} {g:Nat→Nat→PV} (h0:0<sz) (h:aF S f args fun r=>r = .b (.c (.p (.val (.slice none 0 0))))):kr S f args e sz 0 g :=
 ⟨h.1,fun ok w vs h1 h2 h3 h4=>(h.2 ok w vs h1 h2 h3 h4).mono fun ex w' ⟨v,r,he,hR,_,hb,hd⟩=>by
  subst hR
  refine ⟨v,[],he,hb,h0,⟨by simp, .inl ⟨hd,rfl⟩⟩,by simp,fun i hi=>absurd hi (Nat.not_lt_zero i)⟩⟩
end Go.SL
namespace Go.SL
open Go
def KU (ok:Nat→Prop) (w w':World) (v:Value) (b:Nat):Prop:=Ib ok w w' b∧mZ v≠some b
def vl (S:Env) (f:FuncId) (args:List BV) (cs:List (Option PV)) (k e sz n:Nat) (g:Nat→Nat→PV):Prop :=
 Cl S f∧∀ (ok:Nat→Prop) (w:World) (vs:Array Value),(∀ b,ok b→b<w.heap.size)→mz S ok w →
  vs.size=args.length→(∀ j,bR bM ok w (args.getD j .any) (vs.getD j undef)) →
  Calls S.P f vs w fun ex w'=>∃ (us:Array Value) (xs:List Value),ex = .returned (.agg us)∧RowKit.Below w.heap.size w w'∧0<sz∧w'.ownsRow w.heap.size e sz (us.getD k undef) n xs∧(∀ x ∈ xs,x.oneCell'=true) ∧
   (∀ i,i<n→∀ j,j<sz→bt (KU ok w w' (us.getD k undef)) w' (g i j) (xs.getD (i * sz+j) undef))∧us.size=cs.length∧(∀ j,j<us.size→(us.getD j undef).oneCell'=true) ∧
   ∀ j y,cs[j]?=some (some y)→bt (KU ok w w' (us.getD k undef)) w' y (us.getD j undef)
def uH:List (Option PV)→Bool
 | []=>true
 | some _ :: l=>uH l
 | none :: _=>false
def yV:Nat→List (Option PV)→Bool
 | _,[]=>true
 | 0,_ :: l=>uH l
 | k+1,some _ :: l=>yV k l
 | _+1,none :: _=>false
theorem se:∀ {l:List (Option PV)},uH l=true→∀ j:Nat,l[j]?≠some none
 | [],_,j=>by simp
 | some x :: l,h,0=>by simp
 | some x :: l,h,j+1=>by simpa using se (l:=l) h j
 | none :: l,h,_=>by cases h
theorem xv:∀ {k:Nat} {l:List (Option PV)},yV k l=true→∀ j:Nat,l[j]?=some none→j=k
 | _,[],_,j,h=>by simp at h
 | 0,x :: l,h,0,_=>rfl
 | 0,x :: l,h,j+1,h2=>absurd (by simpa using h2) (se (l:=l) h j)
 | k+1,some x :: l,h,0,h2=>by simp at h2
 | k+1,some x :: l,h,j+1,h2=>by
  have:=xv (k:=k) (l:=l) h j (by simpa using h2)
  omega
 | k+1,none :: l,h,_,_=>by cases h
def Sz (x:CV):Option PV→CV
 | some y => .p y
 | none=>x
def mH (x:CV) (cs:List (Option PV)):List CV:=cs.map (Sz x)
theorem Hc {x:CV} {cs:List (Option PV)} {j:Nat} {y:Option PV} (h:cs[j]?=some y):(mH x cs).getD j .any=Sz x y:=by
 simp [mH,List.getD_eq_getElem?_getD,h]
theorem CN {ρ : fQ} {ok : Nat → Prop} {w : World} {x : CV} {cs : List (Option PV)} {us : Array Value} {k : Nat} (ho : yV k cs = true) (hs : us.size = cs.length) (h1 : ∀ j, j < us.size → (us.getD j undef).oneCell' = true)
  (hx:ca ρ ok w x (us.getD k undef)) (hc:∀ j y,cs[j]?=some (some y)→bt ok w y (us.getD j undef)):bR ρ ok w (.agg (mH x cs)) (.agg us):=by
 refine ⟨us,rfl,by simp [mH,hs],h1,fun j => ?_⟩
 cases hj:cs[j]? with
 | none =>
  rw [List.getD_eq_getElem?_getD,show (mH x cs)[j]?=none by simp [mH,hj]]
  trivial
 | some y =>
  rw [Hc hj]
  cases y with
  | none=>rw [xv ho j hj];exact hx
  | some y=>exact hc j y hj
theorem Gm {S:Env} {f:FuncId} {args:List BV} {cs:List (Option PV)} {k e sz n:Nat} {g:Nat→Nat→PV} (h:vl S f args cs k e sz n g) (ho:yV k cs=true):aF S f args fun r=>r = .b (.agg (mH (.p (.lst sz n g)) cs)) :=
 ⟨h.1,fun ok w vs h1 h2 h3 h4=>(h.2 ok w vs h1 h2 h3 h4).mono fun ex w' ⟨us,xs,he,hB,h0,hown,hone,hd,hs,h1,hc⟩=>by
  refine ⟨.agg us,_,he,rfl, ?_,hB, ?_⟩
  ·intro c hc
   obtain ⟨y,_,rfl⟩:=List.mem_map.1 hc
   cases y <;> trivial
  ·refine CN ho hs h1 ?_ fun j y hj=>bt.mono (fun b hb=>⟨hb.1,fun _=>rfl⟩) (hc j y hj)
   rcases hown.2 with ⟨e1,e2⟩|⟨b,cap,cur,hv,hge,hh,hnc,_,hcs,htk⟩
   ·rw [e1]
    exact ⟨none,0,by rw [e2],by omega,fun h=>by omega⟩
   ·rw [hv]
    refine ⟨_,cap,rfl,hnc,fun _=>⟨b,0,rfl,⟨bN hh,fun q=>by omega⟩,fun i hi j hj => ?_⟩⟩
    have hlt:i * sz+j<n * sz:=dq hi hj
    have hlt2:i * sz+j<cur.size:=by rw [hcs];exact Nat.lt_of_lt_of_le hlt (Nat.mul_le_mul_right _ hnc)
    have hlx:i * sz+j<xs.length:=by rw [hown.1];exact hlt
    have hxe:xs.getD (i * sz+j) undef=cur.getD (i * sz+j) undef:=by
     rw [← htk];simp [List.getElem?_take,hlt]
    refine ⟨cur.getD (i * sz+j) undef,by rw [Nat.zero_add];exact bG hh hlt2, ?_, ?_⟩
    ·rw [← hxe,List.getD_eq_getElem?_getD,List.getElem?_eq_getElem hlx]
     exact hone _ (List.getElem_mem hlx)
    ·rw [← hxe]
     exact bt.mono (fun b hb=>⟨hb.1,fun _=>rfl⟩) (hd i hi j hj)⟩
def EE (bx:Nat→Option Bx) (e sz n:Nat) (g:Nat→Nat→PV):CV→Prop
 | .own id n'=>∃ f,bx id=some (.arr e sz n f)∧n'=n∧0<sz∧∀ i,i<n→∀ j,j<sz→PV.le (f i j) (g i j)
 | .p x=>x = .val (.slice none 0 0)∧n=0∧0<sz
 | _=>False
def zC:CV→Option Nat
 | .own id _=>some id
 | _=>none
def tU (d:Option Nat):CV→Prop
 | .own id _=>d≠some id
 | _=>True
def UZ:CV→PV→Prop
 | .p z,y=>z=y∨PV.le z y
 | _,_=>False
def qi (bx:Nat→Option Bx) (d:Option Nat):List CV→List (Option PV)→Prop
 | [],[]=>True
 | _ :: l,none :: r=>qi bx d l r
 | x :: l,some y :: r=>UZ (eR bx x) y∧tU d x∧qi bx d l r
 | _,_=>False
def vb (S:Env) (rs:List ResultVar) (cs:List (Option PV)) (k e sz n:Nat) (g:Nat→Nat→PV) (st:St):Prop :=
 match jc S st rs with
 | some (p,[.agg xs])=>p∧EE st.bx e sz n g (xs.getD k .any)∧qi st.bx (zC (xs.getD k .any)) xs cs
 | _=>False
def JV (S:Env) (rs:List ResultVar) (cs:List (Option PV)) (k e sz n:Nat) (g:Nat→Nat→PV):AExit→St→Prop
 | .ret,st=>vb S rs cs k e sz n g st
 | .normal,st=>vb S rs cs k e sz n g st
 | _,_=>False
theorem GD {S:Env} {rs:List ResultVar} {cs:List (Option PV)} {k e sz n:Nat} {g:Nat→Nat→PV} {st:St}:JV S rs cs k e sz n g .ret st=vb S rs cs k e sz n g st:=rfl
theorem zk {S:Env} {rs:List ResultVar} {cs:List (Option PV)} {k e sz n:Nat} {g:Nat→Nat→PV} {st:St}:JV S rs cs k e sz n g .normal st=vb S rs cs k e sz n g st:=rfl
theorem Ur {z y:PV}:UZ (.p z) y=(z=y∨PV.le z y):=rfl
theorem GC {bx:Nat→Option Bx} {d:Option Nat}:qi bx d [] []=True:=rfl
theorem vq {bx:Nat→Option Bx} {d:Option Nat} {x:CV} {l:List CV} {r:List (Option PV)}:qi bx d (x :: l) (none :: r)=qi bx d l r:=by cases x <;> rfl
theorem tx {bx:Nat→Option Bx} {d:Option Nat} {x:CV} {l:List CV} {y:PV} {r:List (Option PV)}:qi bx d (x :: l) (some y :: r)=(UZ (eR bx x) y∧tU d x∧qi bx d l r):=by cases x <;> rfl
theorem uA {bx:Nat→Option Bx} {d:Option Nat}:∀ {l:List CV} {r:List (Option PV)},qi bx d l r→l.length=r.length∧∀ (j:Nat) y,r[j]?=some (some y)→UZ (eR bx (l.getD j .any)) y∧tU d (l.getD j .any)
 | [],[],_=>⟨rfl,fun j y h=>by simp at h⟩
 | x :: l,none :: r,h=>by
  rw [vq] at h
  obtain ⟨q1,q2⟩:=uA h
  refine ⟨by simp [q1],fun j y hj => ?_⟩
  cases j with
  | zero=>simp at hj
  | succ j=>exact q2 j y (by simpa using hj)
 | x :: l,some z :: r,h=>by
  rw [tx] at h
  obtain ⟨h1,h2,h3⟩:=h
  obtain ⟨q1,q2⟩:=uA h3
  refine ⟨by simp [q1],fun j y hj => ?_⟩
  cases j with
  | zero =>
   have:z=y:=by simpa using hj
   subst this
   exact ⟨h1,h2⟩
  | succ j=>exact q2 j y (by simpa using hj)
 | [],none :: r,h=>by cases h
 | [],some _ :: r,h=>by cases h
 | x :: l,[],h=>by cases x <;> cases h
section
variable {S:Env} {E:Ent} {st:St} {ρ:fQ} {a:Act} {w:World}
theorem Cb {x : CV} {u v : Value} {d : Option Nat} (g : Gam S E st ρ a w) (hrx : E.rx = none) (hd : ∀ id, d = some id → ρ id = v ∧ st.bx id ≠ none) (hdn : d = none → mZ v = none) (hx : tU d x) (hw : E.w0.heap.size ≤ w.heap.size)
  (h:ca ρ (bL E st.bx ρ w) w x u) {y:PV} (hy:UZ (eR st.bx x) y):bt (KU E.ok0 E.w0 w v) w y u:=by
 have hA:∀ b,bL E st.bx ρ w b→KU E.ok0 E.w0 w v b:=fun b hb=>⟨⟨hb.1,hb.2.1⟩,fun hv=>by
  cases hq:d with
  | none=>rw [hdn hq] at hv;cases hv
  | some id =>
   obtain ⟨q1,q2⟩:=hd id hq
   exact hb.2.2 id q2 (by rw [q1];exact hv)⟩
 have hk:fG (bL E st.bx ρ w) (KU E.ok0 E.w0 w v) w w:=fun b hb=>⟨hA b hb,fun _=>rfl⟩
 have fin:∀ z:PV,(z=y∨PV.le z y)→bt (KU E.ok0 E.w0 w v) w z u→bt (KU E.ok0 E.w0 w v) w y u:=fun z hz hu=>by
  rcases hz with rfl|hz
  ·exact hu
  ·exact hz _ _ _ hu
 cases x with
 | p x=>exact fin _ hy (bt.mono hk h)
 | ptr id off=>exact hy.elim
 | pel id sz i off=>exact hy.elim
 | ipt sz g off=>exact hy.elim
 | clo f ps=>exact hy.elim
 | sub id sz lo n=>exact hy.elim
 | own id n =>
  unfold eR at hy
  split at hy
  ·rename_i id n e
   cases e
   split at hy
   ·rename_i e sz n' f hb
    split at hy
    ·rename_i hn
     refine fin _ hy ?_
     obtain ⟨A,m,c,hr,h1,h2,h3,hu⟩:=h
     obtain ⟨h0,xs,hown,hone,hd2⟩:=g.bxs id _ hb
     refine ⟨A,c,hu,by omega,fun hpos => ?_⟩
     rcases hown.2 with ⟨e1,e2⟩|⟨gb,cap,cur,hv,_,hh,hnc,_,hcs,htk⟩
     ·omega
     ·rw [hr] at hv
      simp only [Value.slice.injEq] at hv
      obtain ⟨rfl,rfl,rfl⟩:=hv
      have hgb:mZ (ρ id)=some gb:=by rw [hr];rfl
      have hge:E.w0.heap.size≤gb:=by
       rcases (g.new id _ gb hb hgb).2 with h|⟨_,_,_,h,_⟩
       ·exact h
       ·cases h
      refine ⟨gb,0,rfl,⟨⟨bN hh,fun q=>by omega⟩,fun hv => ?_⟩,fun i hi j hj => ?_⟩
      ·cases hq:d with
       | none=>rw [hdn hq] at hv;cases hv
       | some id2 =>
        obtain ⟨q1,q2⟩:=hd id2 hq
        have:=g.inj id id2 gb (by rw [hb];simp) q2 hgb (by rw [q1];exact hv)
        subst this
        exact hx hq
      have hlt:i * sz+j<m * sz:=dq (by omega) hj
      have hlt2:i * sz+j<cur.size:=by rw [hcs];exact Nat.lt_of_lt_of_le hlt (Nat.mul_le_mul_right _ hnc)
      have hlx:i * sz+j<xs.length:=by rw [hown.1];exact hlt
      have hxe:xs.getD (i * sz+j) undef=cur.getD (i * sz+j) undef:=by
       rw [← htk];simp [List.getElem?_take,hlt]
      refine ⟨cur.getD (i * sz+j) undef,by rw [Nat.zero_add];exact bG hh hlt2, ?_, ?_⟩
      ·rw [← hxe,List.getD_eq_getElem?_getD,List.getElem?_eq_getElem hlx]
       exact hone _ (List.getElem_mem hlx)
      ·rw [← hxe]
       exact bt.mono hk (hd2 i (by omega) j hj)
    ·exact hy.elim
   ·exact hy.elim
  ·rename_i h;exact absurd rfl (h id n)
end
theorem Lz {S : Env} {f : FuncId} {fn : Func} {c : Code} {rs : List ResultVar} {args : List BV} {cs : List (Option PV)} {k e sz n : Nat} {g : Nat → Nat → PV} (hf : S.P.funcs[f]? = some fn) (hb : fn.body = some c) (hrs : fn.results.toList = rs) (hname : (fn.name == "runtime.NumGoroutine") = false)
  (hm:S.P.follows .mixedOrders=true) (hN:cO fn.ntmps c=true) (hlen:args.length≤fn.ntmps) (hl:∀ x ∈ args,BV.lt 0 x) (h:cw S c (JV S rs cs k e sz n g) (uj args)):vl S f args cs k e sz n g:=by
 subst hrs
 refine ⟨⟨fn,hf,hname,by rw [hb];rfl⟩,fun ok w vs hok hgl hsz hden => ?_⟩
 refine calls_of_wp hf hb ?_
 let E:Ent := { w0:=w,ok0:=ok,rx:=none,N:=fn.ntmps }
 have hokA:∀ b,ok b→bL E (fun _=>none) bM w b:=fun b hb=>⟨hok b hb,fun _=>hb,fun _ h=>absurd rfl h⟩
 have hk:fG ok (bL E (fun _=>none) bM w) w w:=fun b hb=>⟨hokA b hb,fun _=>rfl⟩
 have g0:Gam S E (uj args) bM { tmps:=vs ++ Array.replicate (fn.ntmps - vs.size) undef,defers:=[] } w:=by
  refine ⟨rfl,by simp [E];omega,⟨rfl,rfl,rfl,Nat.le_refl _,fun _ _ _=>rfl,fun _ _ _ h=>(by cases h)⟩,fun s => ?_,fun _ _ h=>(by cases h),fun _ _ h=>(by cases h),fun _ _ _ h=>(by cases h),fun _ _ _ h=>absurd rfl h,
   fun _ _ _ h=>(by cases h),fun s => ?_,fun gg n f hg => ?_,fun s=>⟨trivial,trivial⟩⟩
  ·simp only [uj,bY]
   split
   ·rename_i hs
    refine hl _ ?_
    rw [List.getD_eq_getElem?_getD,List.getElem?_eq_getElem (by omega)];exact List.getElem_mem _
   ·trivial
  ·simp only [uj,bY]
   split
   ·rename_i hs
    have e:(vs ++ Array.replicate (fn.ntmps - vs.size) undef).getD s undef=vs.getD s undef:=by
     have:s<vs.size:=by omega
     simp [this]
     rw [Array.getElem?_append_left this]
     simp [this]
    rw [e]
    exact bR.mono (nx:=0) hk (fun _ _=>rfl) (hl _ (by rw [List.getD_eq_getElem?_getD,List.getElem?_eq_getElem (by omega)];exact List.getElem_mem _)) (hden (s - 0))
   ·trivial
  ·obtain ⟨h1,h2⟩:=hgl gg n f hg
   refine ⟨hokA gg h1,fun j hj => ?_⟩
   obtain ⟨x,hx,h3,hd⟩:=h2 j hj
   exact ⟨x,hx,h3,bt.mono hk hd⟩
 have fin : ∀ {a' : Act} {w' : World}, kO S E (vb S fn.results.toList cs k e sz n g) a' w' → a'.defers = [] ∧ ∃ v, (results fn a'.tmps).run S.P w' = .ok v w' ∧
   ∃ (us:Array Value) (xs:List Value),Ending.returned v = .returned (.agg us)∧RowKit.Below w.heap.size w w'∧0<sz∧w'.ownsRow w.heap.size e sz (us.getD k undef) n xs∧(∀ x ∈ xs,x.oneCell'=true) ∧
   (∀ i,i<n→∀ j,j<sz→bt (KU ok w w' (us.getD k undef)) w' (g i j) (xs.getD (i * sz+j) undef))∧us.size=cs.length∧(∀ j,j<us.size→(us.getD j undef).oneCell'=true) ∧
   ∀ j y,cs[j]?=some (some y)→bt (KU ok w w' (us.getD k undef)) w' y (us.getD j undef):=fun {a' w'} ⟨st',ρ',g',hq⟩=>by
  unfold vb at hq
  split at hq
  ·rename_i p ys hr
   obtain ⟨hp,hcell,hrest⟩:=hq
   obtain ⟨vs2,hvs,hlv,hd⟩:=ix g' hr hp
   obtain ⟨v,hv1,hv2⟩:=pk (xs:=[.agg ys]) hvs hlv hd
   obtain ⟨us,rfl,hs,h1,hdu⟩:=hv2
   obtain ⟨q1,q2⟩:=uA hrest
   have hB:RowKit.Below w.heap.size w w':=⟨g'.frm.os,g'.frm.tape,g'.frm.output,g'.frm.size,fun k hk=>g'.frm.block k hk (fun _ _ h=>by cases h)⟩
   have hkd:=hdu k
   generalize hX:ys.getD k .any=X at hcell hrest q2 hkd
   have hmain : 0 < sz ∧ (∃ xs : List Value, w'.ownsRow w.heap.size e sz (us.getD k undef) n xs ∧ (∀ x ∈ xs, x.oneCell' = true) ∧ (∀ i, i < n → ∀ j, j < sz → bt (KU ok w w' (us.getD k undef)) w' (g i j) (xs.getD (i * sz + j) undef))) ∧
     (∀ id,zC X=some id→ρ' id=us.getD k undef∧st'.bx id≠none)∧(zC X=none→mZ (us.getD k undef)=none):=by
    cases X with
    | own id n' =>
     obtain ⟨f2,hbx,rfl,h0,hgf⟩:=hcell
     obtain ⟨A,m,cp,hr2,h2,h3,h4,hu⟩:=hkd
     obtain ⟨h0,xs,hown,hone,hd2⟩:=g'.bxs id _ hbx
     have hmn:m=n':=by
      rcases hown.2 with ⟨e1,e2⟩|⟨b,cap,cur,e1,_⟩
      ·rw [hr2] at e1;simp only [Value.slice.injEq] at e1;omega
      ·rw [hr2] at e1;simp only [Value.slice.injEq] at e1;omega
     subst hmn
     have hv:us.getD k undef=ρ' id:=by rw [hu,hr2]
     rw [hv]
     refine ⟨h0,⟨xs,⟨hown.1, ?_⟩,hone,fun i hi j hj => ?_⟩,fun id2 hid => ?_,fun h=>(by cases h)⟩
     ·rcases hown.2 with h|⟨b,cap,cur,e1,e2,e3⟩
      ·exact .inl h
      ·refine .inr ⟨b,cap,cur,e1, ?_,e3⟩
       rcases (g'.new id _ b hbx (by rw [e1];rfl)).2 with h|⟨_,_,_,h,_⟩
       ·exact h
       ·cases h
     ·refine hgf i hi j hj _ _ _ (bt.mono (fun b hb=>⟨⟨⟨hb.1,hb.2.1⟩,fun hb2 => ?_⟩,fun _=>rfl⟩) (hd2 i hi j hj))
      exact hb.2.2 id (by rw [hbx];simp) hb2
     ·simp only [zC,Option.some.injEq] at hid
      subst hid
      exact ⟨rfl,by rw [hbx];simp⟩
    | p x =>
     obtain ⟨rfl,rfl,h0⟩:=hcell
     have hv:us.getD k undef = .slice none 0 0:=hkd
     rw [hv]
     exact ⟨h0,⟨[],⟨by simp, .inl ⟨rfl,rfl⟩⟩,by simp,fun i hi=>absurd hi (Nat.not_lt_zero i)⟩,fun id h=>(by cases h),fun _=>rfl⟩
    | ptr _ _=>exact hcell.elim
    | pel _ _ _ _=>exact hcell.elim
    | ipt _ _ _=>exact hcell.elim
    | clo _ _=>exact hcell.elim
    | sub _ _ _ _=>exact hcell.elim
   obtain ⟨h0,⟨xs,m1,m2,m3⟩,m4,m5⟩:=hmain
   refine ⟨g'.dfr, .agg us,hv1,us,xs,rfl,hB,h0,m1,m2,m3,by rw [hs,q1],h1,fun j y hj => ?_⟩
   obtain ⟨t1,t2⟩:=q2 j y hj
   exact Cb g' rfl m4 m5 t2 g'.frm.size (hdu j) t1
  ·exact hq.elim
 refine wp_mono (dV hm c hN h g0) fun e a' w' hq => ?_
 cases e with
 | normal=>exact fin hq
 | ret=>exact fin hq
 | exit id=>obtain ⟨_,_,_,h⟩:=hq;exact h.elim
 | _=>exact hq.elim
attribute [go_sem] GD zk vb EE zC tU Ur GC vq tx mH Sz
end Go.SL
namespace Go.SL
open Go
def Tp (bx' bx:Nat→Option Bx):Prop:=∀ i y,bx' i=some y→bx i=some y
section
variable {S:Env} {E:Ent} {st:St} {ρ:fQ} {a:Act} {w:World}
theorem tF {bx':Nat→Option Bx} (h:Tp bx' st.bx):fG (bL E st.bx ρ w) (bL E bx' ρ w) w w:=fun b ⟨h1,h2,h3⟩=>⟨⟨h1,h2,fun i hi=>h3 i fun q=>hi (by
 cases hx:bx' i with
 | none=>rfl
 | some y=>rw [h i y hx] at q;cases q)⟩,fun _=>rfl⟩
theorem Gam.subBox (g:Gam S E st ρ a w) (bx':Nat→Option Bx) (h:Tp bx' st.bx):Gam S E ⟨st.fr,bx',st.nx,st.kf⟩ ρ a w:=by
 have hsub':∀ i,bx' i≠none→st.bx i≠none:=fun i hi=>by
  cases hx:bx' i with
  | none=>exact absurd hx hi
  | some y=>rw [h i y hx];simp
 have hk:fG (bL E st.bx ρ w) (bL E bx' ρ w) w w:=tF h
 have hρ:∀ id,id<st.nx→ρ id=ρ id:=fun _ _=>rfl
 refine ⟨g.dfr,g.sz,g.frm,g.wfs,fun i b hb=>g.wfb i b (h i b hb),fun i b hb=>jG.mono hk hρ (g.wfb i b (h i b hb)).2 (fun _ _=>rfl) (g.bxs i b (h i b hb)),
  fun i y b h1 h2=>g.new i y b (h i y h1) h2,fun i j b h1 h2=>g.inj i j b (hsub' i h1) (hsub' j h2),g.rx0,fun s=>bu.mono hk hρ (g.wfs s) (g.slt s),fun gg n f hg => ?_,fun s=>⟨(g.kept s).1,bu.mono hk hρ (g.kept s).1 (g.kept s).2⟩⟩
 obtain ⟨h1,h2⟩:=g.glb gg n f hg
 refine ⟨(hk gg h1).1,fun j hj => ?_⟩
 obtain ⟨x,hx,h3,hd⟩:=h2 j hj
 exact ⟨x,hx,h3,bt.mono hk hd⟩
def mE (S:Env) (rs:List ResultVar) (X:SV) (bx':Nat→Option Bx) (nx':Nat) (kf:Nat→SV) (st:St):Prop :=
 match jc S st rs with
 | some (p,xs)=>p∧IY xs=X∧Tp bx' st.bx∧st.nx=nx'∧st.kf=kf∧X.lt nx'
 | none=>False
def EN (S:Env) (rs:List ResultVar) (X:SV) (bx':Nat→Option Bx) (nx':Nat) (kf:Nat→SV):AExit→St→Prop
 | .ret,st=>mE S rs X bx' nx' kf st
 | .normal,st=>mE S rs X bx' nx' kf st
 | _,_=>False
theorem Hh {S:Env} {rs:List ResultVar} {X:SV} {bx':Nat→Option Bx} {nx':Nat} {kf:Nat→SV} {st:St}:EN S rs X bx' nx' kf .ret st=mE S rs X bx' nx' kf st:=rfl
theorem yJ {S:Env} {rs:List ResultVar} {X:SV} {bx':Nat→Option Bx} {nx':Nat} {kf:Nat→SV} {st:St}:EN S rs X bx' nx' kf .normal st=mE S rs X bx' nx' kf st:=rfl
attribute [go_sem] Hh yJ mE
theorem nQ {f : FuncId} {fn : Func} {c : Code} {rs : List ResultVar} {args : List BV} {X : SV} {bx bx' : Nat → Option Bx} {nx nx' : Nat} (hf : S.P.funcs[f]? = some fn) (hb : fn.body = some c) (hrs : fn.results.toList = rs)
  (hname : (fn.name == "runtime.NumGoroutine") = false) (hm : S.P.follows .mixedOrders = true) (hN : cO fn.ntmps c = true) (hlen : args.length ≤ fn.ntmps) (hl : ∀ x ∈ args, BV.lt nx x)
  (h:∀ kf,cw S c (EN S rs X bx' nx' kf) (Gf args bx nx kf)):nY S bx nx f args X bx' nx':=by
 subst hrs
 refine ⟨⟨fn,hf,hname,by rw [hb];rfl⟩,fun E st ρ a w vs hbx hnx g hsz hden => ?_⟩
 refine calls_of_wp hf hb ?_
 subst hbx
 subst hnx
 let E2:Ent := { w0:=E.w0,ok0:=E.ok0,rx:=E.rx,N:=fn.ntmps,kp:=fun s=>if s % 2=0 then a.tmps.getD (s / 2) undef else E.kp (s / 2) }
 let kf:Nat→SV:=fun s=>if s % 2=0 then st.fr (s / 2) else st.kf (s / 2)
 have g2:Gam S E2 (Gf args st.bx st.nx kf) ρ { tmps:=vs ++ Array.replicate (fn.ntmps - vs.size) undef,defers:=[] } w:=by
  refine ⟨rfl,by simp [E2];omega,⟨g.frm.os,g.frm.tape,g.frm.output,g.frm.size,g.frm.block,g.frm.rxb⟩,fun s => ?_,g.wfb,g.bxs,g.new,g.inj,g.rx0,fun s => ?_,g.glb,fun s => ?_⟩
  ·simp only [Gf,bY]
   split
   ·rename_i hs
    refine hl _ ?_
    rw [List.getD_eq_getElem?_getD,List.getElem?_eq_getElem (by omega)];exact List.getElem_mem _
   ·trivial
  ·simp only [Gf,bY]
   split
   ·rename_i hs
    have e:(vs ++ Array.replicate (fn.ntmps - vs.size) undef).getD s undef=vs.getD s undef:=by
     have:s<vs.size:=by omega
     simp [this]
     rw [Array.getElem?_append_left this]
     simp [this]
    rw [e]
    exact hden (s - 0)
   ·trivial
  ·show (kf s).lt st.nx∧bu ρ (bL E st.bx ρ w) w (kf s) (E2.kp s)
   simp only [kf,E2]
   split
   ·exact ⟨g.wfs _,g.slt _⟩
   ·exact g.kept _
 have fin : ∀ {a' : Act} {w' : World}, kO S E2 (mE S fn.results.toList X bx' nx' kf) a' w' → a'.defers = [] ∧ ∃ v, (results fn a'.tmps).run S.P w' = .ok v w' ∧
   ∃ v2 ρ',Ending.returned v = .returned v2∧bu ρ' (bL E bx' ρ' w') w' X v2∧X.lt nx'∧Gam S E ⟨st.fr,bx',nx',st.kf⟩ ρ' a w':=fun {a' w'} ⟨st',ρ',g',hq⟩=>by
  unfold mE at hq
  split at hq
  ·rename_i p xs hr
   obtain ⟨hp,hX,hbx',hnx',hkf,hXl⟩:=hq
   obtain ⟨vs2,hvs,hl2,hd⟩:=ix g' hr hp
   obtain ⟨v,hv1,hv2⟩:=pk hvs hl2 hd
   subst hX
   subst hnx'
   have g'':=g'.subBox bx' hbx'
   have hkk:fG (bL E2 st'.bx ρ' w') (bL E2 bx' ρ' w') w' w':=tF hbx'
   have hv3:=bu.mono hkk (fun (_:Nat) (_:_<st'.nx)=>rfl) hXl hv2
   refine ⟨g'.dfr,v,hv1,v,ρ',rfl,hv3,hXl, ?_⟩
   have hk0:∀ s,(st.fr s).lt st'.nx∧bu ρ' (bL E bx' ρ' w') w' (st.fr s) (a.tmps.getD s undef):=fun s=>by
    have:=g''.kept (2 * s)
    dsimp only at this
    rw [hkf] at this
    have e1:2 * s % 2=0:=by omega
    have e2:2 * s / 2=s:=by omega
    simp only [kf,E2,e1,e2,if_true] at this
    exact this
   have hk1:∀ s,(st.kf s).lt st'.nx∧bu ρ' (bL E bx' ρ' w') w' (st.kf s) (E.kp s):=fun s=>by
    have:=g''.kept (2 * s+1)
    dsimp only at this
    rw [hkf] at this
    have e1:¬ (2 * s+1) % 2=0:=by omega
    have e2:(2 * s+1) / 2=s:=by omega
    simp only [kf,E2,e1,e2,if_false] at this
    exact this
   exact ⟨g.dfr,g.sz,⟨g''.frm.os,g''.frm.tape,g''.frm.output,g''.frm.size,g''.frm.block,g''.frm.rxb⟩,fun s=>(hk0 s).1,g''.wfb,g''.bxs,g''.new,g''.inj,g''.rx0,fun s=>(hk0 s).2,g''.glb,hk1⟩
  ·exact hq.elim
 refine wp_mono (dV hm c hN (h kf) g2) fun e a' w' hq => ?_
 cases e with
 | normal=>exact fin hq
 | ret=>exact fin hq
 | exit id=>obtain ⟨_,_,_,h⟩:=hq;exact h.elim
 | _=>exact hq.elim
end
def vI (o:Oper):Bool:=o.guard.isNone && match o.op with
 | .call c=>match c.callee,c.args.toList with
  | .builtin .append,[.const (.slice none 0 0),_]=>true
  | _,_=>false
 | _=>false
def za (ops:Array Oper) (x y:Oper):Bool :=
 (match x.dst with|some d => !(cg ops y).contains d|none=>true) && (match y.dst with|some d => !(cg ops x).contains d|none=>true) &&
 (match x.dst,y.dst with|some d,some e=>d != e|_,_=>true) && ya x && vI y
section
variable {S:Env} {ops:Array Oper} {st s1 s2 s':St}
theorem GN {o:Oper} (ha:vI o=true) (h:Ex S ops st o s'):∀ i,i≠st.nx→s'.bx i=st.bx i:=by
 intro i hi
 simp only [vI,Bool.and_eq_true,Option.isNone_iff_eq_none] at ha
 obtain ⟨hg,ha⟩:=ha
 unfold Ex eP at h
 rw [hg] at h
 simp only [jo] at h
 split at ha
 ·rename_i c ho
  obtain ⟨cal,⟨al⟩,⟨tl⟩⟩:=c
  simp only at ha
  split at ha
  ·rename_i y
   rw [ho] at h
   have hro:ro S st.bx (st.ev S) (.call ⟨.builtin .append,⟨[.const (.slice none 0 0),y]⟩,⟨tl⟩⟩)=none:=by simp [ro,bj]
   rw [hro] at h
   have h2:=h.2
   have hev:(st.ev S (.const (.slice none 0 0))).strip = .b (.c (.p (.val (.slice none 0 0)))):=rfl
   unfold dk at h2
   simp only at h2
   split at h2
   ·rename_i e3
    simp only [List.cons.injEq,and_true] at e3
    obtain ⟨rfl,rfl⟩:=e3
    split at h2
    ·split at h2
     ·rw [← h2.2];simp [St.newBox,dX,hi]
     ·rename_i e4
      rw [hev] at e4;cases e4
     ·exact h2.elim
    ·exact h2.elim
   all_goals first|exact h2.elim|exact absurd (by assumption:Callee.builtin Builtin.append=Callee.builtin Builtin.copy) (by intro q;cases q)|(rename_i q;cases q)
  ·cases ha
 ·cases ha
theorem vo {lb:Nat} {x y:Oper} (hi:za ops x y=true) (w:gS lb st) (h1:Ex S ops st x s1) (h2:Ex S ops s1 y s2):∃ s3,Ex S ops st y s3∧Ex S ops s3 x s2:=by
 simp only [za,Bool.and_eq_true] at hi
 obtain ⟨⟨⟨⟨hxy,hyx⟩,hdd⟩,hl⟩,ha⟩:=hi
 have hab:=GN ha h2
 simp only [ya,Bool.and_eq_true,Option.isNone_iff_eq_none] at hl
 obtain ⟨hxg,hl⟩:=hl
 split at hl
 case h_2=>cases hl
 rename_i t q hxo
 obtain ⟨v1,b1,n1,e1,k1,p1,z1⟩:=gC h1
 have hc1:vQ S.rcv x≤1:=by simp [vQ,dE,hxo]
 obtain ⟨rfl,rfl⟩:=k1 hc1
 obtain ⟨v2,b2,n2,e2,k2,p2,z2⟩:=gC h2
 have hs1:s1.bx=st.bx∧s1.nx=st.nx:=by rw [e1];exact ⟨dX,mj⟩
 have ag1:∀ t ∈ cg ops y,s1.fr t=st.fr t:=by
  rw [e1];exact gy (nx':=0) (bx':=st.bx) hxy
 have q2:=p2 st ag1 hs1.1.symm hs1.2.symm
 refine ⟨_,q2, ?_⟩
 have comm:s2=St.set (St.set ⟨st.fr,b2,n2,st.kf⟩ y.dst v2) x.dst v1:=by
  rw [e2,e1]
  simp only [dZ,St.mk.injEq,and_true]
  funext s
  by_cases c1:some s=x.dst
  ·by_cases c2:some s=y.dst
   ·rw [← c1,← c2] at hdd
    simp at hdd
   ·rw [if_neg c2,if_pos c1,if_pos c1]
  ·by_cases c2:some s=y.dst
   ·rw [if_pos c2,if_neg c1,if_pos c2]
   ·rw [if_neg c2,if_neg c1,if_neg c1,if_neg c2]
 have hbx:∀ i y',st.bx i=some y'→b2 i=some y':=fun i y' hi=>by
  have hne:i≠s1.nx:=by
   rw [hs1.2]
   intro e
   have:=w.1 i (by omega)
   rw [this] at hi;cases hi
  have:=hab i hne
  rw [e2,dX,hs1.1] at this
  exact this.trans hi
 have ag2:∀ t ∈ cg ops x,(St.set ⟨st.fr,b2,n2,st.kf⟩ y.dst v2).fr t=st.fr t:=gy (nx':=0) (bx':=st.bx) hyx
 have hevq:(St.set ⟨st.fr,b2,n2,st.kf⟩ y.dst v2).ev S q=st.ev S q :=
  (du (S:=S) (ops:=ops) (o:=x) (fun t ht=>(ag2 t ht).symm) q (by rw [hxo];simp [Op.operands])).symm
 unfold Ex eP at h1 ⊢
 rw [hxg] at h1 ⊢
 simp only [jo,hxo,nr] at h1 ⊢
 rw [hevq,dX]
 cases hr:dj S t st.bx (st.ev S q).strip with
 | none=>rw [hr] at h1;simp only [rc,dk] at h1;exact h1.2.elim
 | some r =>
  rw [hr] at h1
  rw [Eg hr hbx]
  obtain ⟨r1,r2⟩:=r
  simp only [rc] at h1 ⊢
  refine ⟨h1.1, ?_⟩
  rw [comm]
  have hv:∀ d,x.dst=some d→r2=v1:=fun d hd=>by
   have:=congrArg (fun s:St=>s.fr d) (h1.2.trans e1)
   simpa [hd,St.set] using this
  cases hd:x.dst with
  | none=>rfl
  | some d=>rw [hv d hd]
end
def lu (rcv:Nat→Bool) (ops:Array Oper) (m:Nat→Nat) (listed:Array Bool) (p:Nat):Bool :=
 match ops[p]? with
 | none=>false
 | some x=>(List.range ops.size).all fun i=>listed.getD i true || Nat.beq i p || ((m i).testBit p && Nat.blt p i) || (match ops[i]? with
  | some o=>rL rcv ops x o || pF rcv ops x o || tp ops x o || za ops x o
  | none=>false)
section
variable {S:Env} {ops:Array Oper} {st:St}
theorem xR {rcv:Nat→Bool} {m:Nat→Nat} {listed:Array Bool} {i p:Nat} (hi:i<listed.size) (h:lu rcv ops m listed p=true):lu rcv ops m (listed.setIfInBounds i true) p=true:=by
 unfold lu at h ⊢
 split at h
 ·cases h
 ·refine List.all_eq_true.2 fun k hk => ?_
  have:=List.all_eq_true.1 h k hk
  simp only [Bool.or_eq_true] at this ⊢
  rw [pn hi]
  rcases this with ((h1|h1)|h1)|h1
  ·refine .inl (.inl (.inl ?_));split
   ·rfl
   ·exact h1
  ·exact .inl (.inl (.inr h1))
  ·exact .inl (.inr h1)
  ·exact .inr h1
theorem ym {m : Nat → Nat} {x : Oper} {p : Nat} (hm : cP ops m = true) (hed : ∀ i o, ops[i]? = some o → ∀ e ∈ o.after, Region.binds .any e = true → e.on < i) (hx : ops[p]? = some x) {K : St → Prop} : ∀ (fuel : Nat) (listed : Array Bool) (st : St),
  listed.size=ops.size→gD ops listed→lu S.rcv ops m listed p=true→p ∈ Region.ready .any ops listed→gS 0 st→(∃ s,Ex S ops st x s∧iL S ops fuel (listed.setIfInBounds p true) s K)→iL S ops (fuel+1) listed st K:=by
 intro fuel
 induction fuel with
 | zero =>
  intro listed st hs hcl hp hr hw ⟨s,h1,h2⟩
  have hplt:=gx hs hr
  refine ⟨fun hno=>(by rw [hno] at hr;cases hr),fun i hi => ?_⟩
  by_cases e:i=p
  ·subst e;rw [hx];exact kN h1 h2
  ·have:=jq hs (by omega) hi e
   rw [h2.1] at this;cases this
 | succ f ih =>
  intro listed st hs hcl hp hr hw ⟨s,h1,h2⟩
  have hplt:=gx hs hr
  obtain ⟨_,_,hpl,_⟩:=(cA hs).1 hr
  refine ⟨fun hno=>(by rw [hno] at hr;cases hr),fun i hi => ?_⟩
  by_cases e:i=p
  ·subst e;rw [hx];exact kN h1 h2
  obtain ⟨o,ho,hl,hdep⟩:=(cA hs).1 hi
  have hlt:=gx hs hi
  rw [ho]
  have h3:=h2.2 i (jq hs (by omega) hi e)
  rw [ho] at h3
  obtain ⟨s2,h4,h5⟩:=oO h3
  have hsw:∃ s3,Ex S ops st o s3∧Ex S ops s3 x s2:=by
   have hq:=hp
   unfold lu at hq
   rw [hx] at hq
   have hq:=List.all_eq_true.1 hq i (List.mem_range.2 hlt)
   rw [ho] at hq
   simp only [Bool.or_eq_true,Nat.beq_eq,Bool.and_eq_true] at hq
   rcases hq with ((q|q)|q)|q
   ·rw [q] at hl;cases hl
   ·exact absurd q e
   ·exact absurd hi (wF hm hs hed hcl (by have:=q.2;simp [Nat.blt] at this;omega) q.1 hpl)
   ·rcases q with ((q|q)|q)|q
    ·exact sS q h1 h4
    ·exact iY q hw h1 h4
    ·exact lr q hw h1 h4
    ·exact vo q hw h1 h4
  obtain ⟨s3,h6,h7⟩:=hsw
  refine kN h6 ?_
  refine ih _ s3 (by simpa using hs) (lI hs hed hcl hi) (xR (by omega) hp) (jq hs (by omega) hr (fun h=>e h.symm)) (rz h6 hw) ⟨s2,h7, ?_⟩
  rw [AO];exact h5
end
def zj (rcv:Nat→Bool) (ops:Array Oper) (m:Nat→Nat) (listed:Array Bool):Tr→Bool
 | .leaf=>Region.ready .any ops listed == []
 | .nil=>false
 | .br i t r=>Region.ready .any ops listed == dM (.br i t r) || (dM r == [] && (Region.ready .any ops listed).contains i && lu rcv ops m listed i)
def CL (rcv:Nat→Bool) (ops:Array Oper) (m:Nat→Nat):Array Bool→Tr→Bool
 | _, .leaf=>true
 | _, .nil=>true
 | listed, .br i t r=>Nat.blt i ops.size && zj rcv ops m (listed.setIfInBounds i true) t && CL rcv ops m (listed.setIfInBounds i true) t && CL rcv ops m listed r
section
variable {S:Env} {l:List Oper} {m:Nat→Nat}
theorem vm {t:Tr} {listed:Array Bool} (hn:zj S.rcv l.toArray m listed t=true):∀ i ∈ dM t,i ∈ Region.ready .any l.toArray listed:=by
 cases t with
 | leaf=>intro i hi;cases hi
 | nil=>cases hn
 | br k t r =>
  intro i hi
  simp only [zj,Bool.or_eq_true,Bool.and_eq_true,beq_iff_eq] at hn
  rcases hn with hn|hn
  ·rw [hn];exact hi
  ·obtain ⟨⟨h1,h2⟩,_⟩:=hn
   rw [dM,h1,List.mem_singleton] at hi
   subst hi
   exact List.contains_iff_mem.1 h2
theorem vB (hm : cP l.toArray m = true) (hf : od l.toArray = true) {t : Tr} {listed : Array Bool} {fuel : Nat} {st : St} {K : St → Prop} (hs : listed.size = l.toArray.size) (hcl : gD l.toArray listed) (hw : gS 0 st)
  (hn:zj S.rcv l.toArray m listed t=true) (h:eC S l.toArray l t st K) (hd:ga t≤fuel)
  (hal : ∀ f, fuel = f + 1 → ∀ i ∈ dM t, match l.toArray[i]? with
    | some o=>eP S l.toArray st o fun st'=>iL S l.toArray f (listed.setIfInBounds i true) st' K
    | none=>iL S l.toArray f (listed.setIfInBounds i true) st K):iL S l.toArray fuel listed st K:=by
 have hsub:=vm hn
 cases t with
 | leaf =>
  have hr:Region.ready .any l.toArray listed=[]:=by simpa [zj] using hn
  cases fuel with
  | zero=>exact ⟨hr,h⟩
  | succ f=>exact ⟨fun _=>h,fun i hi=>by rw [hr] at hi;cases hi⟩
 | nil=>cases hn
 | br i t r =>
  cases fuel with
  | zero=>simp [ga] at hd
  | succ f =>
   have hi:i ∈ Region.ready .any l.toArray listed:=hsub i (by rw [dM];exact List.mem_cons_self ..)
   simp only [zj,Bool.or_eq_true,Bool.and_eq_true,beq_iff_eq] at hn
   rcases hn with hn|hn
   ·exact ⟨fun h0=>by (rw [h0] at hi;cases hi),fun j hj=>hal f rfl j (by rw [← hn];exact hj)⟩
   ·have:=hal f rfl i (by rw [dM];exact List.mem_cons_self ..)
    obtain ⟨o,ho,_⟩:=(cA hs).1 hi
    rw [ho] at this
    exact ym hm (yn hf) ho f listed st hs hcl hn.2 hi hw (oO this)
theorem oE (hm : cP l.toArray m = true) (hf : od l.toArray = true) {K : St → Prop} : ∀ (t : Tr) (listed : Array Bool) (fuel : Nat) (st : St), listed.size = l.toArray.size → gD l.toArray listed → gS 0 st → (∀ i ∈ dM t, i ∈ Region.ready .any l.toArray listed) →
  CL S.rcv l.toArray m listed t = true → eC S l.toArray l t st K → ga t ≤ fuel + 1 → ∀ i ∈ dM t, match l.toArray[i]? with
    | some o=>eP S l.toArray st o fun st'=>iL S l.toArray fuel (listed.setIfInBounds i true) st' K
    | none=>iL S l.toArray fuel (listed.setIfInBounds i true) st K
 | .leaf,_,_,_,_,_,_,_,_,_,_,i,hi=>by cases hi
 | .nil,_,_,_,_,_,_,_,_,_,_,i,hi=>by cases hi
 | .br k t r,listed,fuel,st,hs,hcl,hw,hsub,hok,h,hd,i,hi=>by
  have hkr:k ∈ Region.ready .any l.toArray listed:=hsub k (by rw [dM];exact List.mem_cons_self ..)
  simp only [CL,Bool.and_eq_true] at hok
  obtain ⟨⟨⟨hk,hn⟩,ht⟩,hr⟩:=hok
  simp only [ga] at hd
  rcases List.mem_cons.1 hi with rfl|hi
  ·have hlt:i<l.toArray.size:=by simp [Nat.blt] at hk ⊢;omega
   have hget:l.toArray[i]?=some (l.getD i default):=by
    have hlt2:i<l.length:=by simpa using hlt
    rw [List.getElem?_toArray,List.getD_eq_getElem?_getD,List.getElem?_eq_getElem hlt2];rfl
   rw [hget]
   obtain ⟨s,h1,h2⟩:=oO h.1
   refine kN h1 ?_
   have hs2:(listed.setIfInBounds i true).size=l.toArray.size:=by simpa using hs
   have hcl2:=lI hs (yn hf) hcl hkr
   exact vB hm hf hs2 hcl2 (rz h1 hw) hn h2 (by omega) fun f hf2 j hj=>oE hm hf t _ f s hs2 hcl2 (rz h1 hw) (vm hn) ht h2 (by omega) j hj
  ·exact oE hm hf r listed fuel st hs hcl hw (fun j hj=>hsub j (by rw [dM];exact List.mem_cons_of_mem _ hj)) hr h.2 (by omega) i hi
theorem tq {t : Tr} {st : St} {K : St → Prop} (hok : (od l.toArray && cP l.toArray m && zj S.rcv l.toArray m (Array.replicate l.toArray.size false) t && CL S.rcv l.toArray m (Array.replicate l.toArray.size false) t && Nat.ble (ga t) l.toArray.size) = true) (hw : gS 0 st) (h : eC S l.toArray l t st K) :
  iL S l.toArray l.toArray.size (Array.replicate l.toArray.size false) st K:=by
 simp only [Bool.and_eq_true] at hok
 obtain ⟨⟨⟨⟨hf,hm⟩,h1⟩,h2⟩,h3⟩:=hok
 have h3:=Nat.le_of_ble_eq_true h3
 have hs:(Array.replicate l.toArray.size false).size=l.toArray.size:=by simp
 have hcl:gD l.toArray (Array.replicate l.toArray.size false):=fun i o ho hi=>by
  exfalso
  have hlt:i<l.toArray.size:=by
   rcases Nat.lt_or_ge i l.toArray.size with h|h
   ·exact h
   ·rw [Array.getElem?_eq_none h] at ho;cases ho
  unfold jd at hi
  simp only [Array.getD_eq_getD_getElem?,Array.getElem?_replicate,if_pos hlt] at hi
  cases hi
 exact vB hm hf hs hcl hw h1 h h3 fun f hf2 i hi=>oE hm hf t _ f st hs hcl hw (vm h1) h2 h (by omega) i hi
end
section
variable {S:Env} {l:List Oper}
theorem mn {id : Nat} {y : Code} {Q : AExit → St → Prop} {st : St} (t : Tr)
  (hok:(od l.toArray && cP l.toArray (fun i=>(Region.before l.toArray).getD i 0) && zj S.rcv l.toArray (fun i=>(Region.before l.toArray).getD i 0) (Array.replicate l.toArray.size false) t && CL S.rcv l.toArray (fun i=>(Region.before l.toArray).getD i 0) (Array.replicate l.toArray.size false) t && Nat.ble (ga t) l.toArray.size)=true)
  (hw:gS 0 st) (h:∀ K:St→Prop,(∀ s,cw S y Q s→K s)→eC S l.toArray l t st K):cw S (.seq (.region id l.toArray true) y) Q st:=by
 refine dv (S:=S) (.region id l.toArray true) (Q:=gV (fun st=>Wk (cw S y Q) st∨cw S y Q st) Q) (fun _ _ h=>h) ?_
 simp only [cw,if_pos]
 exact tq hok hw (h _ fun s hs => .inr hs)
theorem pD {id : Nat} {Q : AExit → St → Prop} {st : St} (t : Tr)
  (hok:(od l.toArray && cP l.toArray (fun i=>(Region.before l.toArray).getD i 0) && zj S.rcv l.toArray (fun i=>(Region.before l.toArray).getD i 0) (Array.replicate l.toArray.size false) t && CL S.rcv l.toArray (fun i=>(Region.before l.toArray).getD i 0) (Array.replicate l.toArray.size false) t && Nat.ble (ga t) l.toArray.size)=true)
  (hw:gS 0 st) (h:∀ K:St→Prop,(∀ s,Q .normal s→K s)→eC S l.toArray l t st K):cw S (.region id l.toArray true) Q st:=by
 simp only [cw,if_pos]
 exact tq hok hw (h _ fun s hs=>hs)
end
structure Hold (p:Prop):Prop where
 out:p
theorem ji {p:Prop} (h:p):Hold p:=⟨h⟩
theorem lQ {K:St→Prop} {P:St→Prop} (h:∀ s,P s→K s):∀ s,Hold (P s)→K s:=fun s q=>h s q.out
theorem bU {α:Type} {i j:Nat} {a b:α} (h:i≠j):(if i=j then a else b)=b:=if_neg h
theorem cR {bx:Nat→Option Bx} {n:Nat} {x:Bx} (h:bx n=some x):bx=aN n x bx:=by
 funext i
 unfold aN
 split
 ·rename_i e;rw [e,h]
 ·rfl
end Go.SL
