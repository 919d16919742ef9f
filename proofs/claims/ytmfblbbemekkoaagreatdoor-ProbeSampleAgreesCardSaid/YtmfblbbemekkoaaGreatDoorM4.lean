/- Part of the proof: SlFacts, SlS, SlT, SlU, SlV, SlX, SlY. -/
import Derived.Test.YtmfblbbemekkoaaGreatDoorProg
import Derived.KernelRfl
import Derived.Test.YtmfblbbemekkoaaGreatDoorM3
set_option maxRecDepth 100000
namespace Go.Proofs.YtmfblbbemekkoaaGreatDoor
open Go Go.SL
def g0:List PV:=[.val (.string ⟨#[]⟩), .val (.string ⟨#[110,111,114,109,97,108]⟩), .val (.string ⟨#[109,117,108,116,105,112,108,121]⟩), .val (.string ⟨#[115,99,114,101,101,110]⟩), .val (.string ⟨#[111,118,101,114,108,97,121]⟩), .val (.string ⟨#[100,97,114,107,101,110]⟩), .val (.string ⟨#[108,105,103,104,116,101,110]⟩), .val (.string ⟨#[99,111,108,111,114,45,100,111,100,103,101]⟩), .val (.string ⟨#[99,111,108,111,114,45,98,117,114,110]⟩), .val (.string ⟨#[104,97,114,100,45,108,105,103,104,116]⟩), .val (.string ⟨#[115,111,102,116,45,108,105,103,104,116]⟩), .val (.string ⟨#[100,105,102,102,101,114,101,110,99,101]⟩), .val (.string ⟨#[101,120,99,108,117,115,105,111,110]⟩)]
def g1:List PV:=[.val (.string ⟨#[]⟩), .val (.int .i64 0), .val (.int .i64 0), .val (.int .i64 0), .val (.string ⟨#[99,108,101,97,114]⟩), .val (.int .i64 0), .val (.int .i64 0), .val (.int .i64 0), .val (.string ⟨#[115,114,99]⟩), .val (.int .i64 1), .val (.int .i64 0), .val (.int .i64 1), .val (.string ⟨#[100,115,116]⟩), .val (.int .i64 0), .val (.int .i64 1), .val (.int .i64 2), .val (.string ⟨#[115,114,99,45,111,118,101,114]⟩), .val (.int .i64 1), .val (.int .i64 3), .val (.int .i64 3), .val (.string ⟨#[100,115,116,45,111,118,101,114]⟩), .val (.int .i64 3), .val (.int .i64 1), .val (.int .i64 3), .val (.string ⟨#[115,114,99,45,105,110]⟩), .val (.int .i64 2), .val (.int .i64 0), .val (.int .i64 4), .val (.string ⟨#[100,115,116,45,105,110]⟩), .val (.int .i64 0), .val (.int .i64 2), .val (.int .i64 4), .val (.string ⟨#[115,114,99,45,111,117,116]⟩), .val (.int .i64 3), .val (.int .i64 0), .val (.int .i64 1), .val (.string ⟨#[100,115,116,45,111,117,116]⟩), .val (.int .i64 0), .val (.int .i64 3), .val (.int .i64 2), .val (.string ⟨#[115,114,99,45,97,116,111,112]⟩), .val (.int .i64 2), .val (.int .i64 3), .val (.int .i64 2), .val (.string ⟨#[100,115,116,45,97,116,111,112]⟩), .val (.int .i64 3), .val (.int .i64 2), .val (.int .i64 1), .val (.string ⟨#[120,111,114]⟩), .val (.int .i64 3), .val (.int .i64 3), .val (.int .i64 3)]
def NT (g:Nat):Option (Nat × (Nat→PV)):=if g=0 then some (13,fun j=>g0.getD j .any) else if g=1 then some (52,fun j=>g1.getD j .any) else none
abbrev fJ:List PV:=g0
abbrev cq:List PV:=g1
def RL (f:Nat):Bool:=Nat.beq f 15 || Nat.beq f 35 || Nat.beq f 62 || Nat.beq f 66 || Nat.beq f 76 || Nat.beq f 78 || Nat.beq f 91 || Nat.beq f 92 || Nat.beq f 95 || Nat.beq f 96 || Nat.beq f 100 || Nat.beq f 104 || Nat.beq f 105 || Nat.beq f 109 || Nat.beq f 111 || Nat.beq f 112 || Nat.beq f 128 || Nat.beq f 142 || Nat.beq f 151 || Nat.beq f 165 || Nat.beq f 166 || Nat.beq f 167 || Nat.beq f 190 || Nat.beq f 2000033 || Nat.beq f 2000034 || Nat.beq f 1000018 || Nat.beq f 1000025 || Nat.beq f 1000026 || Nat.beq f 1000067 || Nat.beq f 1000093 || Nat.beq f 1000099 || Nat.beq f 1000103 || Nat.beq f 1000107 || Nat.beq f 1000113 || Nat.beq f 1000117 || Nat.beq f 1000118 || Nat.beq f 1000119 || Nat.beq f 1000139 || Nat.beq f 1000140 || Nat.beq f 1000141 || Nat.beq f 1000143 || Nat.beq f 1000144 || Nat.beq f 1000145 || Nat.beq f 1000148 || Nat.beq f 1000149 || Nat.beq f 1000150 || Nat.beq f 1000176 || Nat.beq f 1000177 || Nat.beq f 1000178 || Nat.beq f 1000179 || Nat.beq f 1000180 || Nat.beq f 1000182 || Nat.beq f 1000183 || Nat.beq f 1000186 || Nat.beq f 1000192 || Nat.beq f 1000195 || Nat.beq f 1000201 || Nat.beq f 1000202 || Nat.beq f 1000203 || Nat.beq f 1000204 || Nat.beq f 1000205 || Nat.beq f 1000206 || Nat.beq f 1000207 || Nat.beq f 1000208 || Nat.beq f 1000209 || Nat.beq f 1000210 || Nat.beq f 1000211 || Nat.beq f 1000212 || Nat.beq f 1000213 || Nat.beq f 1000217 || Nat.beq f 1000218 || Nat.beq f 1000219 || Nat.beq f 1000220 || Nat.beq f 1000221 || Nat.beq f 1000222 || Nat.beq f 1000223 || Nat.beq f 1000224 || Nat.beq f 1000225 || Nat.beq f 1000226 || Nat.beq f 1000228 || Nat.beq f 1000229 || Nat.beq f 1000230 || Nat.beq f 1000231 || Nat.beq f 1000232 || Nat.beq f 1000233 || Nat.beq f 1000234 || Nat.beq f 1000237 || Nat.beq f 1000238 || Nat.beq f 1000239 || Nat.beq f 1000241 || Nat.beq f 1000244 || Nat.beq f 1000247 || Nat.beq f 1000248 || Nat.beq f 1000250 || Nat.beq f 1000251
noncomputable def Sg:Env := { P:=Tryz.prog,gl:=NT,rcv:=RL }
theorem RK:Sg.P=Tryz.prog:=rfl
theorem TO:Sg.gl 0=some (13,fun j=>g0.getD j .any):=rfl
theorem TG:Sg.gl 1=some (52,fun j=>g1.getD j .any):=rfl
theorem dK:Sg.P.follows .mixedOrders=true:=by kernel_rfl
-- 2 int64
theorem TJ:Sg.ti 3=some (1,false):=by kernel_rfl
theorem TH:Sg.P.underlying 3=some (.int .i64):=by kernel_rfl
theorem TT:Sg.zero 3=some [.int .i64 0]:=by kernel_rfl
theorem TI:Sg.byt 3=some 8:=by kernel_rfl
-- 4 bool
theorem TP:Sg.ti 4=some (1,false):=by kernel_rfl
theorem TL:Sg.P.underlying 4=some (.bool):=by kernel_rfl
theorem TK:Sg.zero 4=some [.bool false]:=by kernel_rfl
theorem TW:Sg.byt 4=some 1:=by kernel_rfl
-- 5 uint8
theorem TM:Sg.P.underlying 5=some (.int .u8):=by kernel_rfl
theorem TN:Sg.ti 9=some (1,false):=by kernel_rfl
theorem TV:Sg.P.underlying 9=some (.string):=by kernel_rfl
theorem TF:Sg.zero 9=some [.string ⟨#[]⟩]:=by kernel_rfl
theorem To:Sg.ti 22=some (1,false):=by kernel_rfl
theorem Tk:Sg.P.underlying 22=some (.slice 3):=by kernel_rfl
theorem RS:Sg.el 22=some (none,3,1,false):=by kernel_rfl
theorem Se:Sg.ti 23=some (1,false):=by kernel_rfl
theorem SI:Sg.P.underlying 23=some (.slice 80):=by kernel_rfl
theorem Sx:Sg.el 23=some (none,80,5,true):=by kernel_rfl
theorem So:Sg.ti 24=some (1,false):=by kernel_rfl
theorem Sc:Sg.P.underlying 24=some (.slice 31):=by kernel_rfl
theorem Tq:Sg.el 24=some (none,31,11,true):=by kernel_rfl
theorem RN:Sg.ti 26=some (10,true):=by kernel_rfl
theorem MX:Sg.fld 26 0=some (0,1,false):=by kernel_rfl
theorem Pb:Sg.fld 26 1=some (1,1,false):=by kernel_rfl
theorem NJ:Sg.fld 26 2=some (2,1,false):=by kernel_rfl
theorem Pi:Sg.fld 26 3=some (3,1,false):=by kernel_rfl
theorem Ol:Sg.fld 26 4=some (4,1,false):=by kernel_rfl
theorem Pe:Sg.fld 26 5=some (5,1,false):=by kernel_rfl
theorem Oj:Sg.fld 26 6=some (6,1,false):=by kernel_rfl
theorem Ns:Sg.fld 26 7=some (7,1,false):=by kernel_rfl
theorem Od:Sg.fld 26 8=some (8,1,false):=by kernel_rfl
theorem MF:Sg.fld 26 9=some (9,1,false):=by kernel_rfl
theorem Sq:Sg.ti 27=some (1,false):=by kernel_rfl
theorem Sa:Sg.P.underlying 27=some (.int .u16):=by kernel_rfl
theorem Ss:Sg.zero 27=some [.int .u16 0]:=by kernel_rfl
theorem Sr:Sg.byt 27=some 2:=by kernel_rfl
-- 28 struct { Kind int;Image int;X int;Y int;Mask int;MaskX
theorem RW:Sg.ti 29=some (12,true):=by kernel_rfl
theorem Sj:Sg.zero 29=some [.int .i64 0, .int .i64 0, .int .i64 0, .int .i64 0, .int .i64 0, .int .i64 0, .int .i64 0, .int .u16 0, .int .i64 0, .int .i64 0, .bool false, .bool false]:=by kernel_rfl
theorem SW:Sg.bld 29=some (some [(0,1),(1,1),(2,1),(3,1),(4,1),(5,1),(6,1),(7,1),(8,1),(9,1),(10,1),(11,1)],0):=by kernel_rfl
theorem Mv:Sg.fld 29 0=some (0,1,false):=by kernel_rfl
theorem MI:Sg.fld 29 1=some (1,1,false):=by kernel_rfl
theorem NK:Sg.fld 29 2=some (2,1,false):=by kernel_rfl
theorem MP:Sg.fld 29 3=some (3,1,false):=by kernel_rfl
theorem MY:Sg.fld 29 4=some (4,1,false):=by kernel_rfl
theorem Ob:Sg.fld 29 5=some (5,1,false):=by kernel_rfl
theorem Mt:Sg.fld 29 6=some (6,1,false):=by kernel_rfl
theorem My:Sg.fld 29 7=some (7,1,false):=by kernel_rfl
theorem Oh:Sg.fld 29 8=some (8,1,false):=by kernel_rfl
theorem OU:Sg.fld 29 9=some (9,1,false):=by kernel_rfl
theorem Kf:Sg.fld 29 10=some (10,1,false):=by kernel_rfl
theorem IK:Sg.fld 29 11=some (11,1,false):=by kernel_rfl
theorem RR (a0 b0:Int) (a1 b1:Int) (a2 b2:Int) (a3 b3:Int) (a4 b4:Int) (a5 b5:Int) (a6 b6:Int) (a7 b7:Int) (a8 b8:Int) (a9 b9:Int) (a10 b10:Bool) (a11 b11:Bool):Sg.eqv 29 [.int .i64 a0, .int .i64 a1, .int .i64 a2, .int .i64 a3, .int .i64 a4, .int .i64 a5, .int .i64 a6, .int .u16 a7, .int .i64 a8, .int .i64 a9, .bool a10, .bool a11] [.int .i64 b0, .int .i64 b1, .int .i64 b2, .int .i64 b3, .int .i64 b4, .int .i64 b5, .int .i64 b6, .int .u16 b7, .int .i64 b8, .int .i64 b9, .bool b10, .bool b11]=some ((a0 == b0) && ((a1 == b1) && ((a2 == b2) && ((a3 == b3) && ((a4 == b4) && ((a5 == b5) && ((a6 == b6) && ((a7 == b7) && ((a8 == b8) && ((a9 == b9) && ((a10 == b10) && ((a11 == b11) && true)))))))))))):=by kernel_rfl
theorem Sf:Sg.byt 29=some 88:=by kernel_rfl
-- 30 struct { Kind int;Image int;X int;Y int;Mask int;MaskX
theorem Tw:Sg.ti 31=some (11,true):=by kernel_rfl
theorem OX:Sg.fld 31 0=some (0,1,false):=by kernel_rfl
theorem Pk:Sg.fld 31 1=some (1,1,false):=by kernel_rfl
theorem OI:Sg.fld 31 2=some (2,1,false):=by kernel_rfl
theorem NR:Sg.fld 31 3=some (3,1,false):=by kernel_rfl
theorem MU:Sg.fld 31 4=some (4,1,false):=by kernel_rfl
theorem NB:Sg.fld 31 5=some (5,1,false):=by kernel_rfl
theorem Mk:Sg.fld 31 6=some (6,1,false):=by kernel_rfl
theorem MG:Sg.fld 31 7=some (7,1,false):=by kernel_rfl
theorem OG:Sg.fld 31 8=some (8,1,false):=by kernel_rfl
theorem ML:Sg.fld 31 9=some (9,1,false):=by kernel_rfl
theorem IN:Sg.fld 31 10=some (10,1,false):=by kernel_rfl
theorem Te:Sg.ti 33=some (4,true):=by kernel_rfl
theorem SD:Sg.zero 33=some [.int .i64 0, .int .i64 0, .int .i64 0, .int .i64 0]:=by kernel_rfl
theorem Tf:Sg.bld 33=some (some [(0,1),(1,1),(2,1),(3,1)],0):=by kernel_rfl
theorem Ny:Sg.fld 33 0=some (0,1,false):=by kernel_rfl
theorem Nw:Sg.fld 33 1=some (1,1,false):=by kernel_rfl
theorem Ni:Sg.fld 33 2=some (2,1,false):=by kernel_rfl
theorem OB:Sg.fld 33 3=some (3,1,false):=by kernel_rfl
theorem SJ:Sg.ti 34=some (1,false):=by kernel_rfl
theorem Tm:Sg.P.underlying 34=some (.slice 47):=by kernel_rfl
theorem RV:Sg.el 34=some (none,47,28,true):=by kernel_rfl
theorem Tg:Sg.ti 35=some (1,false):=by kernel_rfl
theorem RF:Sg.P.underlying 35=some (.slice 29):=by kernel_rfl
theorem RT:Sg.el 35=some (none,29,12,true):=by kernel_rfl
theorem Th:Sg.ti 37=some (10,true):=by kernel_rfl
theorem Ti:Sg.zero 37=some [.int .i64 0, .int .i64 0, .int .i64 0, .int .i64 0, .int .i64 0, .int .i64 0, .int .i64 0, .slice none 0 0, .slice none 0 0, .slice none 0 0]:=by kernel_rfl
theorem SR:Sg.bld 37=some (some [(0,1),(1,4),(5,1),(6,1),(7,1),(8,1),(9,1)],0):=by kernel_rfl
theorem Oa:Sg.fld 37 0=some (0,1,false):=by kernel_rfl
theorem NW:Sg.fld 37 1=some (1,4,true):=by kernel_rfl
theorem Nk:Sg.fld 37 2=some (5,1,false):=by kernel_rfl
theorem Pd:Sg.fld 37 3=some (6,1,false):=by kernel_rfl
theorem MR:Sg.fld 37 4=some (7,1,false):=by kernel_rfl
theorem Nx:Sg.fld 37 5=some (8,1,false):=by kernel_rfl
theorem OH:Sg.fld 37 6=some (9,1,false):=by kernel_rfl
theorem SZ:Sg.ti 39=some (3,true):=by kernel_rfl
theorem Sn:Sg.el 39=some (some 3,27,1,false):=by kernel_rfl
theorem Tl:Sg.zero 39=some [.int .u16 0, .int .u16 0, .int .u16 0]:=by kernel_rfl
theorem SC:Sg.bld 39=some (none,1):=by kernel_rfl
theorem Tj:Sg.ti 41=some (5,true):=by kernel_rfl
theorem SK:Sg.zero 41=some [.int .u16 0, .int .u16 0, .int .u16 0, .int .u16 0, .int .u16 0]:=by kernel_rfl
theorem Su:Sg.bld 41=some (some [(0,3),(3,1),(4,1)],0):=by kernel_rfl
theorem MK:Sg.fld 41 0=some (0,3,true):=by kernel_rfl
theorem Ml:Sg.fld 41 1=some (3,1,false):=by kernel_rfl
theorem OK:Sg.fld 41 2=some (4,1,false):=by kernel_rfl
theorem Si (a0 b0:Int) (a1 b1:Int) (a2 b2:Int) (a3 b3:Int) (a4 b4:Int):Sg.eqv 41 [.int .u16 a0, .int .u16 a1, .int .u16 a2, .int .u16 a3, .int .u16 a4] [.int .u16 b0, .int .u16 b1, .int .u16 b2, .int .u16 b3, .int .u16 b4]=some (((a0 == b0) && ((a1 == b1) && ((a2 == b2) && true))) && ((a3 == b3) && ((a4 == b4) && true))):=by kernel_rfl
theorem Ts:Sg.byt 41=some 10:=by kernel_rfl
-- 42 []uint16
theorem SX:Sg.ti 42=some (1,false):=by kernel_rfl
theorem Sd:Sg.P.underlying 42=some (.slice 27):=by kernel_rfl
theorem SG:Sg.el 42=some (none,27,1,false):=by kernel_rfl
theorem RG:Sg.ti 44=some (4,true):=by kernel_rfl
theorem SY:Sg.zero 44=some [.int .i64 0, .int .i64 0, .int .i64 0, .slice none 0 0]:=by kernel_rfl
theorem Tb:Sg.bld 44=some (some [(0,1),(1,1),(2,1),(3,1)],0):=by kernel_rfl
theorem Nr:Sg.fld 44 0=some (0,1,false):=by kernel_rfl
theorem Ou:Sg.fld 44 1=some (1,1,false):=by kernel_rfl
theorem MA:Sg.fld 44 2=some (2,1,false):=by kernel_rfl
theorem OL:Sg.fld 44 3=some (3,1,false):=by kernel_rfl
theorem Sy:Sg.ti 45=some (20,true):=by kernel_rfl
theorem Tc:Sg.el 45=some (some 5,44,4,true):=by kernel_rfl
theorem RU:Sg.ti 47=some (28,true):=by kernel_rfl
theorem Sp:Sg.zero 47=some [.int .i64 0, .int .i64 0, .bool false, .int .u16 0, .int .u16 0, .int .u16 0, .int .u16 0, .int .u16 0, .int .i64 0, .int .i64 0, .int .i64 0, .slice none 0 0, .int .i64 0, .int .i64 0, .int .i64 0, .slice none 0 0, .int .i64 0, .int .i64 0, .int .i64 0, .slice none 0 0, .int .i64 0, .int .i64 0, .int .i64 0, .slice none 0 0, .int .i64 0, .int .i64 0, .int .i64 0, .slice none 0 0]:=by kernel_rfl
theorem RO:Sg.bld 47=some (some [(0,1),(1,1),(2,1),(3,5),(8,20)],0):=by kernel_rfl
theorem Oo:Sg.fld 47 0=some (0,1,false):=by kernel_rfl
theorem Pf:Sg.fld 47 1=some (1,1,false):=by kernel_rfl
theorem Oy:Sg.fld 47 2=some (2,1,false):=by kernel_rfl
theorem NM:Sg.fld 47 3=some (3,5,true):=by kernel_rfl
theorem Mr:Sg.fld 47 4=some (8,20,true):=by kernel_rfl
theorem Tp:Sg.byt 47=some 272:=by kernel_rfl
-- 58 api.Errno
theorem Tu:Sg.ti 58=some (1,false):=by kernel_rfl
theorem RX:Sg.zero 58=some [.int .i64 0]:=by kernel_rfl
theorem SP:Sg.ti 65=some (1,false):=by kernel_rfl
theorem Sv:Sg.P.underlying 65=some (.slice 120):=by kernel_rfl
theorem RJ:Sg.el 65=some (none,120,18,true):=by kernel_rfl
theorem RC:Sg.zero 65=some [.slice none 0 0]:=by kernel_rfl
theorem SQ:Sg.P.underlying 74=some (.slice 41):=by kernel_rfl
theorem Sk:Sg.el 74=some (none,41,5,true):=by kernel_rfl
theorem RY:Sg.ti 76=some (1,false):=by kernel_rfl
theorem SA:Sg.P.underlying 76=some (.slice 130):=by kernel_rfl
theorem Ta:Sg.el 76=some (none,130,5,true):=by kernel_rfl
theorem SM:Sg.ti 78=some (2,true):=by kernel_rfl
theorem ND:Sg.fld 78 0=some (0,1,false):=by kernel_rfl
theorem No:Sg.fld 78 1=some (1,1,false):=by kernel_rfl
theorem RQ:Sg.ti 80=some (5,true):=by kernel_rfl
theorem Nt:Sg.fld 80 0=some (0,1,false):=by kernel_rfl
theorem Mf:Sg.fld 80 1=some (1,1,false):=by kernel_rfl
theorem Mp:Sg.fld 80 2=some (2,1,false):=by kernel_rfl
theorem NU:Sg.fld 80 3=some (3,2,true):=by kernel_rfl
theorem QM:Sg.ti 120=some (18,true):=by kernel_rfl
theorem Qn:Sg.zero 120=some [.int .i64 0, .int .i64 0, .int .u16 0, .int .u16 0, .int .u16 0, .int .u16 0, .int .u16 0, .int .u16 0, .int .u16 0, .int .u16 0, .int .u16 0, .int .u16 0, .int .u16 0, .int .u16 0, .int .u16 0, .int .u16 0, .int .u16 0, .int .u16 0]:=by kernel_rfl
theorem Pv:Sg.bld 120=some (some [(0,1),(1,1),(2,5),(7,5),(12,1),(13,5)],0):=by kernel_rfl
theorem KQ:Sg.fld 120 0=some (0,1,false):=by kernel_rfl
theorem Lg:Sg.fld 120 1=some (1,1,false):=by kernel_rfl
theorem Jc:Sg.fld 120 2=some (2,5,true):=by kernel_rfl
theorem Is:Sg.fld 120 4=some (12,1,false):=by kernel_rfl
theorem Kp:Sg.fld 120 5=some (13,5,true):=by kernel_rfl
theorem Qm (a0 b0:Int) (a1 b1:Int) (a2 b2:Int) (a3 b3:Int) (a4 b4:Int) (a5 b5:Int) (a6 b6:Int) (a7 b7:Int) (a8 b8:Int) (a9 b9:Int) (a10 b10:Int) (a11 b11:Int) (a12 b12:Int) (a13 b13:Int) (a14 b14:Int) (a15 b15:Int) (a16 b16:Int) (a17 b17:Int):Sg.eqv 120 [.int .i64 a0, .int .i64 a1, .int .u16 a2, .int .u16 a3, .int .u16 a4, .int .u16 a5, .int .u16 a6, .int .u16 a7, .int .u16 a8, .int .u16 a9, .int .u16 a10, .int .u16 a11, .int .u16 a12, .int .u16 a13, .int .u16 a14, .int .u16 a15, .int .u16 a16, .int .u16 a17] [.int .i64 b0, .int .i64 b1, .int .u16 b2, .int .u16 b3, .int .u16 b4, .int .u16 b5, .int .u16 b6, .int .u16 b7, .int .u16 b8, .int .u16 b9, .int .u16 b10, .int .u16 b11, .int .u16 b12, .int .u16 b13, .int .u16 b14, .int .u16 b15, .int .u16 b16, .int .u16 b17]=some ((a0 == b0) && ((a1 == b1) && ((((a2 == b2) && ((a3 == b3) && ((a4 == b4) && true))) && ((a5 == b5) && ((a6 == b6) && true))) && ((((a7 == b7) && ((a8 == b8) && ((a9 == b9) && true))) && ((a10 == b10) && ((a11 == b11) && true))) && ((a12 == b12) && ((((a13 == b13) && ((a14 == b14) && ((a15 == b15) && true))) && ((a16 == b16) && ((a17 == b17) && true))) && true)))))):=by kernel_rfl
theorem PR:Sg.byt 120=some 48:=by kernel_rfl
-- 130 [5]int
theorem Rp:Sg.ti 130=some (5,true):=by kernel_rfl
theorem Qt:Sg.el 130=some (some 5,3,1,false):=by kernel_rfl
theorem QT:Sg.zero 130=some [.int .i64 0, .int .i64 0, .int .i64 0, .int .i64 0, .int .i64 0]:=by kernel_rfl
theorem Qw:Sg.bld 130=some (none,1):=by kernel_rfl
theorem Rk:Sg.el 142=some (none,4,1,false):=by kernel_rfl
theorem Rm:Sg.ti 149=some (1,false):=by kernel_rfl
theorem Pw:Sg.P.underlying 149=some (.int .u64):=by kernel_rfl
theorem Ql:Sg.ti 156=some (6,true):=by kernel_rfl
theorem Qs:Sg.zero 156=some [.int .u16 0, .int .u16 0, .int .u16 0, .int .u16 0, .int .u16 0, .int .u16 0]:=by kernel_rfl
theorem Qi:Sg.bld 156=some (some [(0,3),(3,1),(4,1),(5,1)],0):=by kernel_rfl
theorem Lh:Sg.fld 156 0=some (0,3,true):=by kernel_rfl
theorem JO:Sg.fld 156 1=some (3,1,false):=by kernel_rfl
theorem Jh:Sg.fld 156 2=some (4,1,false):=by kernel_rfl
theorem Lr:Sg.fld 156 3=some (5,1,false):=by kernel_rfl
theorem PG:Sg.ti 162=some (23,true):=by kernel_rfl
theorem PS:Sg.zero 162=some [.int .i64 0, .int .i64 0, .int .i64 0, .int .i64 0, .int .i64 0, .int .i64 0, .int .i64 0, .int .u16 0, .int .i64 0, .int .i64 0, .bool false, .bool false, .int .u16 0, .int .u16 0, .int .u16 0, .int .u16 0, .int .u16 0, .int .u16 0, .int .u16 0, .int .u16 0, .int .u16 0, .int .u16 0, .int .u16 0]:=by kernel_rfl
theorem Qu:Sg.bld 162=some (some [(0,12),(12,6),(18,5)],0):=by kernel_rfl
theorem KH:Sg.fld 162 0=some (0,12,true):=by kernel_rfl
theorem Kw:Sg.fld 162 1=some (12,6,true):=by kernel_rfl
theorem Ki:Sg.fld 162 2=some (18,5,true):=by kernel_rfl
theorem PW:Sg.byt 162=some 112:=by kernel_rfl
-- 163 []compositorref22.level
theorem Qg:Sg.ti 163=some (1,false):=by kernel_rfl
theorem Qv:Sg.P.underlying 163=some (.slice 162):=by kernel_rfl
theorem PQ:Sg.el 163=some (none,162,23,true):=by kernel_rfl
theorem Rd:Sg.zero 165=some [.int .u16 0, .slice none 0 0]:=by kernel_rfl
theorem Qe:Sg.bld 165=some (some [(0,1),(1,1)],0):=by kernel_rfl
theorem Jw:Sg.fld 165 0=some (0,1,false):=by kernel_rfl
theorem Ln:Sg.fld 165 1=some (1,1,false):=by kernel_rfl
theorem Rg:Sg.zero 176=some [.pointer none, .pointer none, .pointer none, .pointer none, .pointer none]:=by kernel_rfl
theorem PK:Sg.bld 176=some (none,1):=by kernel_rfl
theorem PE:Sg.P.underlying 177=some (.int .u32):=by kernel_rfl
theorem Qa:Sg.el 188=some (some 5,27,1,false):=by kernel_rfl
theorem QB:Sg.zero 188=some [.int .u16 0, .int .u16 0, .int .u16 0, .int .u16 0, .int .u16 0]:=by kernel_rfl
theorem Rf:Sg.ti 201=some (23,true):=by kernel_rfl
theorem Qx:Sg.zero 201=some [.int .i64 0, .int .i64 0, .int .i64 0, .int .i64 0, .int .i64 0, .int .i64 0, .int .i64 0, .int .u16 0, .int .i64 0, .int .i64 0, .bool false, .bool false, .int .u16 0, .int .u16 0, .int .u16 0, .int .u16 0, .int .u16 0, .int .u16 0, .int .u16 0, .int .u16 0, .int .u16 0, .int .u16 0, .int .u16 0]:=by kernel_rfl
theorem PP:Sg.bld 201=some (some [(0,12),(12,6),(18,5)],0):=by kernel_rfl
theorem II:Sg.fld 201 0=some (0,12,true):=by kernel_rfl
theorem Im:Sg.fld 201 1=some (12,6,true):=by kernel_rfl
theorem JQ:Sg.fld 201 2=some (18,5,true):=by kernel_rfl
theorem PD:Sg.byt 201=some 112:=by kernel_rfl
-- 202 []frame.level
theorem Pr:Sg.ti 202=some (1,false):=by kernel_rfl
theorem Rl:Sg.P.underlying 202=some (.slice 201):=by kernel_rfl
theorem Qb:Sg.el 202=some (none,201,23,true):=by kernel_rfl
theorem QY:Sg.zero 204=some [.int .u16 0, .slice none 0 0]:=by kernel_rfl
theorem QN:Sg.bld 204=some (some [(0,1),(1,1)],0):=by kernel_rfl
theorem ID:Sg.fld 204 0=some (0,1,false):=by kernel_rfl
theorem Ly:Sg.fld 204 1=some (1,1,false):=by kernel_rfl
theorem PA:Sg.P.underlying 214=some (.int .u64):=by kernel_rfl
theorem Qd:Sg.ti 255=some (4,true):=by kernel_rfl
theorem QK:Sg.zero 255=some [.string ⟨#[]⟩, .int .i64 0, .int .i64 0, .int .i64 0]:=by kernel_rfl
theorem PM:Sg.bld 255=some (some [(0,1),(1,1),(2,1),(3,1)],0):=by kernel_rfl
theorem Lo:Sg.fld 255 0=some (0,1,false):=by kernel_rfl
theorem Jt:Sg.fld 255 1=some (1,1,false):=by kernel_rfl
theorem Kq:Sg.fld 255 2=some (2,1,false):=by kernel_rfl
theorem JU:Sg.fld 255 3=some (3,1,false):=by kernel_rfl
theorem QP:Sg.el 258=some (some 13,9,1,false):=by kernel_rfl
theorem Qz:Sg.ti 260=some (2,true):=by kernel_rfl
theorem Rq:Sg.zero 260=some [.int .u64 0, .int .u64 0]:=by kernel_rfl
theorem QU:Sg.bld 260=some (some [(0,1),(1,1)],0):=by kernel_rfl
theorem Ll:Sg.fld 260 0=some (0,1,false):=by kernel_rfl
theorem Kx:Sg.fld 260 1=some (1,1,false):=by kernel_rfl
theorem QD (a0 b0:Int) (a1 b1:Int):Sg.eqv 260 [.int .u64 a0, .int .u64 a1] [.int .u64 b0, .int .u64 b1]=some ((a0 == b0) && ((a1 == b1) && true)):=by kernel_rfl
theorem PN:Sg.ti 262=some (5,true):=by kernel_rfl
theorem QC:Sg.zero 262=some [.int .u64 0, .int .u64 0, .int .u64 0, .int .u64 0, .int .u64 0]:=by kernel_rfl
theorem Ra:Sg.bld 262=some (some [(0,2),(2,1),(3,1),(4,1)],0):=by kernel_rfl
theorem Lb:Sg.fld 262 0=some (0,2,true):=by kernel_rfl
theorem Iw:Sg.fld 262 1=some (2,1,false):=by kernel_rfl
theorem Lc:Sg.fld 262 2=some (3,1,false):=by kernel_rfl
theorem Jl:Sg.fld 262 3=some (4,1,false):=by kernel_rfl
theorem Qq:Sg.P.underlying 274=some (.slice 9):=by kernel_rfl
theorem QR:Sg.el 274=some (none,9,1,false):=by kernel_rfl
theorem QA:Sg.el 275=some (some 13,255,4,true):=by kernel_rfl
theorem NS (g:Nat→PV):dI 1 g=[.p (g 0)]:=rfl
theorem OP (g:Nat→PV):dI 2 g=[.p (g 0), .p (g 1)]:=rfl
theorem NH (g:Nat→PV):dI 3 g=[.p (g 0), .p (g 1), .p (g 2)]:=rfl
theorem OZ (g:Nat→PV):dI 4 g=[.p (g 0), .p (g 1), .p (g 2), .p (g 3)]:=rfl
theorem Ng (g:Nat→PV):dI 5 g=[.p (g 0), .p (g 1), .p (g 2), .p (g 3), .p (g 4)]:=rfl
theorem Nq (g:Nat→PV):dI 6 g=[.p (g 0), .p (g 1), .p (g 2), .p (g 3), .p (g 4), .p (g 5)]:=rfl
theorem KF (g:Nat→PV):dI 10 g=[.p (g 0), .p (g 1), .p (g 2), .p (g 3), .p (g 4), .p (g 5), .p (g 6), .p (g 7), .p (g 8), .p (g 9)]:=rfl
theorem KA (g:Nat→PV):dI 11 g=[.p (g 0), .p (g 1), .p (g 2), .p (g 3), .p (g 4), .p (g 5), .p (g 6), .p (g 7), .p (g 8), .p (g 9), .p (g 10)]:=rfl
theorem Lm (g:Nat→PV):dI 12 g=[.p (g 0), .p (g 1), .p (g 2), .p (g 3), .p (g 4), .p (g 5), .p (g 6), .p (g 7), .p (g 8), .p (g 9), .p (g 10), .p (g 11)]:=rfl
theorem LI (g:Nat→PV):dI 13 g=[.p (g 0), .p (g 1), .p (g 2), .p (g 3), .p (g 4), .p (g 5), .p (g 6), .p (g 7), .p (g 8), .p (g 9), .p (g 10), .p (g 11), .p (g 12)]:=rfl
theorem Lu (g:Nat→PV):dI 14 g=[.p (g 0), .p (g 1), .p (g 2), .p (g 3), .p (g 4), .p (g 5), .p (g 6), .p (g 7), .p (g 8), .p (g 9), .p (g 10), .p (g 11), .p (g 12), .p (g 13)]:=rfl
theorem Jf (g:Nat→PV):dI 18 g=[.p (g 0), .p (g 1), .p (g 2), .p (g 3), .p (g 4), .p (g 5), .p (g 6), .p (g 7), .p (g 8), .p (g 9), .p (g 10), .p (g 11), .p (g 12), .p (g 13), .p (g 14), .p (g 15), .p (g 16), .p (g 17)]:=rfl
theorem JW (g:Nat→PV):dI 20 g=[.p (g 0), .p (g 1), .p (g 2), .p (g 3), .p (g 4), .p (g 5), .p (g 6), .p (g 7), .p (g 8), .p (g 9), .p (g 10), .p (g 11), .p (g 12), .p (g 13), .p (g 14), .p (g 15), .p (g 16), .p (g 17), .p (g 18), .p (g 19)]:=rfl
theorem JB (g:Nat→PV):dI 23 g=[.p (g 0), .p (g 1), .p (g 2), .p (g 3), .p (g 4), .p (g 5), .p (g 6), .p (g 7), .p (g 8), .p (g 9), .p (g 10), .p (g 11), .p (g 12), .p (g 13), .p (g 14), .p (g 15), .p (g 16), .p (g 17), .p (g 18), .p (g 19), .p (g 20), .p (g 21), .p (g 22)]:=rfl
theorem LK (g:Nat→PV):dI 28 g=[.p (g 0), .p (g 1), .p (g 2), .p (g 3), .p (g 4), .p (g 5), .p (g 6), .p (g 7), .p (g 8), .p (g 9), .p (g 10), .p (g 11), .p (g 12), .p (g 13), .p (g 14), .p (g 15), .p (g 16), .p (g 17), .p (g 18), .p (g 19), .p (g 20), .p (g 21), .p (g 22), .p (g 23), .p (g 24), .p (g 25), .p (g 26), .p (g 27)]:=rfl
theorem KR (g:Nat→PV):dI 52 g=[.p (g 0), .p (g 1), .p (g 2), .p (g 3), .p (g 4), .p (g 5), .p (g 6), .p (g 7), .p (g 8), .p (g 9), .p (g 10), .p (g 11), .p (g 12), .p (g 13), .p (g 14), .p (g 15), .p (g 16), .p (g 17), .p (g 18), .p (g 19), .p (g 20), .p (g 21), .p (g 22), .p (g 23), .p (g 24), .p (g 25), .p (g 26), .p (g 27), .p (g 28), .p (g 29), .p (g 30), .p (g 31), .p (g 32), .p (g 33), .p (g 34), .p (g 35), .p (g 36), .p (g 37), .p (g 38), .p (g 39), .p (g 40), .p (g 41), .p (g 42), .p (g 43), .p (g 44), .p (g 45), .p (g 46), .p (g 47), .p (g 48), .p (g 49), .p (g 50), .p (g 51)]:=rfl
attribute [go_sem] TO TG TJ TH TT TI TP TL TK TW TM TN TV TF To Tk RS Se SI Sx So Sc Tq RN MX Pb NJ Pi Ol Pe Oj Ns Od MF Sq Sa Ss Sr RW Sj SW Mv MI NK MP MY Ob Mt My Oh OU Kf IK RR Sf Tw OX Pk OI NR MU NB Mk MG OG ML IN Te SD Tf Ny Nw Ni OB SJ Tm RV Tg RF RT Th Ti SR Oa NW Nk Pd MR Nx OH SZ Sn Tl SC Tj SK Su MK Ml OK Si Ts SX Sd SG RG SY Tb Nr Ou MA OL Sy Tc RU Sp RO Oo Pf Oy NM Mr Tp Tu RX SP Sv RJ RC SQ Sk RY SA Ta SM ND No RQ Nt Mf Mp NU QM Qn Pv KQ Lg Jc Is Kp Qm PR Rp Qt QT Qw Rk Rm Pw Ql Qs Qi Lh JO Jh Lr PG PS Qu KH Kw Ki PW Qg Qv PQ Rd Qe Jw Ln Rg PK PE Qa QB Rf Qx PP II Im JQ PD Pr Rl Qb QY QN ID Ly PA Qd QK PM Lo Jt Kq JU QP Qz Rq QU Ll Kx QD PN QC Ra Lb Iw Lc Jl Qq QR QA NS OP NH OZ Ng Nq KF KA Lm LI Lu Jf JW JB LK KR
end Go.Proofs.YtmfblbbemekkoaaGreatDoor
set_option linter.unusedSimpArgs false
set_option linter.unusedVariables false
namespace Go.SL
open Go
def BN (c:Nat):SV→Prop
 | .b (.c (.ptr id _))=>c=1∨c=4+id
 | .b (.c (.pel _ _ _ _))=>c=2
 | .b (.c (.ipt _ _ _))=>c=3
 | _=>False
def iD:List (Nat × Nat)→St→Prop
 | [],_=>True
 | (t,c) :: r,s=>BN c (s.fr t)∧iD r s
def yh:List (Nat × Nat)→Nat
 | []=>0
 | (_,c) :: r=>max (c - 3) (yh r)
def oV:List (Nat × Nat)→Nat→Nat
 | [],_=>0
 | (t,c) :: r,s=>if s=t then c else oV r s
theorem LQ {t:Nat}:∀ {l:List (Nat × Nat)},oV l t - 3≤yh l
 | []=>Nat.zero_le _
 | (k,c) :: r=>by
  unfold oV yh
  split
  ·omega
  ·have:=LQ (t:=t) (l:=r)
   omega
theorem lr {s:St} {t:Nat}:∀ {l:List (Nat × Nat)},iD l s→oV l t≠0→BN (oV l t) (s.fr t)
 | [],_,h=>absurd rfl h
 | (k,c) :: r,h,hn=>by
  unfold oV at hn ⊢
  split
  ·rename_i e;subst e;exact h.1
  ·rename_i e
   rw [if_neg e] at hn
   exact lr h.2 hn
section
variable {S:Env} {ops:Array Oper} {st s1 s2 s':St}
theorem Dg {o:Oper} {t:Nat} (h:Ex S ops st o s') (hd:o.dst≠some t):s'.fr t=st.fr t:=by
 obtain ⟨v1,b1,n1,rfl,_⟩:=gE h
 rw [ec]
 simp only
 rw [if_neg fun e=>hd e.symm]
theorem xH {t:Nat}:∀ {l:List Oper} {st s':St},KJ S ops l st s'→(∀ o ∈ l,o.dst≠some t)→s'.fr t=st.fr t
 | [],_,_,h,_=>by rw [show _=_ from h]
 | o :: r,st,s',⟨s,h1,h2⟩,hd=>(xH h2 fun x hx=>hd x (List.mem_cons_of_mem _ hx)).trans (Dg h1 (hd o (List.mem_cons_self ..)))
theorem rN {x y : Oper} {d p q : Nat} {t t' : TypeId} {vop : Operand} (hx : x.op = .load t (.tmp q)) (hxd : x.dst = some d) (hxg : x.guard = none)
  (hy:y.op = .store t' (.tmp p) vop) (hyd:y.dst=none) (hyg:y.guard=none) (hdp:d≠p) (hdv:vop ≠ .tmp d) {c c':Nat} (hp:BN c (st.fr p)) (hq:BN c' (st.fr q)) (hc:c=2∧(c'=1∨c'=3))
  (h1:Ex S ops st x s1) (h2:Ex S ops s1 y s2):∃ s3,Ex S ops st y s3∧Ex S ops s3 x s2:=by
 obtain ⟨rfl,hc⟩:=hc
 obtain ⟨idp,szp,ip,offp,hpv⟩:∃ id sz i off,st.fr p = .b (.c (.pel id sz i off)):=by
  unfold BN at hp
  split at hp
  ·omega
  ·exact ⟨_,_,_,_,by assumption⟩
  ·cases hp
  ·cases hp
 have e1:s1=st.set (some d) (s1.fr d)∧s1.bx=st.bx∧s1.nx=st.nx:=by
  obtain ⟨v,b,n,rfl,hb,_⟩:=gE h1
  have:vj S.rcv x≤1:=by simp [vj,dF,hx]
  obtain ⟨rfl,rfl⟩:=hb this
  rw [hxd]
  refine ⟨?_,dX,fM⟩
  simp [St.set]
 have hev:∀ z:Operand,z ≠ .tmp d→s1.ev S z=st.ev S z:=fun z hz=>by
  rw [e1.1]
  cases z with
  | tmp k=>simp only [St.ev,St.set];rw [if_neg (fun e=>hz (by rw [e]))]
  | _=>rfl
 have hvp:s1.ev S (.tmp p)=st.ev S (.tmp p):=hev _ (fun e=>hdp (by cases e;rfl))
 have hvv:=hev vop hdv
 have hro:∀ b ev,ro S b ev (.store t' (.tmp p) vop)=none:=fun _ _=>rfl
 unfold Ex fe at h2
 rw [hyg] at h2
 simp only [jE,hy,hro,hyd] at h2
 obtain ⟨hcond,h2⟩:=h2
 simp only [Op.operands] at hcond
 have hev1:(st.ev S (.tmp p)).strip = .b (.c (.pel idp szp ip offp)):=by simp [St.ev,hpv,SV.strip]
 simp only [dt,hvp,hvv,hev1,e1.2.1] at h2
 split at h2
 ·rename_i q1 _ _;cases q1
 ·rename_i id s i off v sz ag q1 q2 q3
  cases q1
  split at h2
  ·rename_i e s' n f hb
   obtain ⟨hvc,h2⟩:=h2
   refine ⟨st.setBox idp (.arr e s' n fun i' j=>if i'=ip then (if offp≤j∧j<offp+sz then (v.cells.getD (j - offp) .any).toP else f ip j) else f i' j), ?_, ?_⟩
   ·unfold Ex fe
    rw [hyg]
    simp only [jE,hy,hro,hyd]
    refine ⟨?_, ?_⟩
    ·simp only [Op.operands]
     simpa only [Op.operands,List.map_cons,List.map_nil,hvp,hvv] using hcond
    ·simp only [dt,hev1,q2,q3,hb]
     exact ⟨hvc,rfl⟩
   ·subst h2
    unfold Ex fe at h1 ⊢
    rw [hxg] at h1 ⊢
    simp only [jE,hx,nA] at h1 ⊢
    have hload:∀ r,rc (dp S t st.bx (st.ev S (.tmp q)).strip) (st.ev S (.tmp q)).cond=some r→rc (dp S t (st.setBox idp (.arr e s' n fun i' j=>if i'=ip then (if offp≤j∧j<offp+sz then (v.cells.getD (j - offp) .any).toP else f ip j) else f i' j)).bx (st.ev S (.tmp q)).strip) (st.ev S (.tmp q)).cond=some r:=fun r hr=>by
     unfold BN at hq
     simp only [St.ev] at hr ⊢
     split at hq
     ·rename_i id2 off2 hqv
      rw [hqv] at hr ⊢
      simp only [SV.strip,SV.cond,dp,St.setBox] at hr ⊢
      by_cases hid:id2=idp
      ·subst hid
       rw [hb] at hr
       simp [rc] at hr
      ·rw [if_neg hid];exact hr
     ·subst hq;omega
     ·rename_i hqv
      rw [hqv] at hr ⊢
      exact hr
     ·exact hq.elim
    cases hr:rc (dp S t st.bx (st.ev S (.tmp q)).strip) (st.ev S (.tmp q)).cond with
    | none=>rw [hr] at h1;simp only [dt] at h1;exact h1.2.elim
    | some r =>
     rw [hr] at h1
     have:=hload r hr
     rw [show (St.ev S (st.setBox idp (.arr e s' n fun i' j=>if i'=ip then (if offp≤j∧j<offp+sz then (v.cells.getD (j - offp) .any).toP else f ip j) else f i' j)) (.tmp q))=st.ev S (.tmp q) from rfl,this]
     refine ⟨h1.1, ?_⟩
     rw [← h1.2,hxd]
     rfl
  ·exact h2.elim
 ·exact h2.elim
theorem qz {x y : Oper} {d p q : Nat} {t t' : TypeId} {vop : Operand} (hx : x.op = .load t (.tmp q)) (hxd : x.dst = some d) (hxg : x.guard = none)
  (hy:y.op = .store t' (.tmp p) vop) (hyd:y.dst=none) (hyg:y.guard=none) (hdp:d≠p) (hdv:vop ≠ .tmp d) {c c':Nat} (hp:BN c (st.fr p)) (hq:BN c' (st.fr q)) (hc:4≤c∧4≤c'∧c≠c')
  (h1:Ex S ops st x s1) (h2:Ex S ops s1 y s2):∃ s3,Ex S ops st y s3∧Ex S ops s3 x s2:=by
 obtain ⟨hc1,hc2,hc3⟩:=hc
 obtain ⟨idp,offp,hpv,rfl⟩:∃ id off,st.fr p = .b (.c (.ptr id off))∧c=4+id:=by
  unfold BN at hp
  split at hp
  ·exact ⟨_,_,by assumption,by omega⟩
  ·omega
  ·omega
  ·cases hp
 obtain ⟨idq,offq,hqv,rfl⟩:∃ id off,st.fr q = .b (.c (.ptr id off))∧c'=4+id:=by
  unfold BN at hq
  split at hq
  ·exact ⟨_,_,by assumption,by omega⟩
  ·omega
  ·omega
  ·cases hq
 have e1:s1=st.set (some d) (s1.fr d)∧s1.bx=st.bx∧s1.nx=st.nx:=by
  obtain ⟨v,b,n,rfl,hb,_⟩:=gE h1
  have:vj S.rcv x≤1:=by simp [vj,dF,hx]
  obtain ⟨rfl,rfl⟩:=hb this
  rw [hxd]
  refine ⟨?_,dX,fM⟩
  simp [St.set]
 have hev:∀ z:Operand,z ≠ .tmp d→s1.ev S z=st.ev S z:=fun z hz=>by
  rw [e1.1]
  cases z with
  | tmp k=>simp only [St.ev,St.set];rw [if_neg (fun e=>hz (by rw [e]))]
  | _=>rfl
 have hvp:s1.ev S (.tmp p)=st.ev S (.tmp p):=hev _ (fun e=>hdp (by cases e;rfl))
 have hvv:=hev vop hdv
 have hro:∀ b ev,ro S b ev (.store t' (.tmp p) vop)=none:=fun _ _=>rfl
 unfold Ex fe at h2
 rw [hyg] at h2
 simp only [jE,hy,hro,hyd] at h2
 obtain ⟨hcond,h2⟩:=h2
 simp only [Op.operands] at hcond
 have hev1:(st.ev S (.tmp p)).strip = .b (.c (.ptr idp offp)):=by simp [St.ev,hpv,SV.strip]
 simp only [dt,hvp,hvv,hev1,e1.2.1] at h2
 split at h2
 ·rename_i id off v sz ag q1 q2 q3
  cases q1
  split at h2
  ·rename_i cs hb
   obtain ⟨hvc,h2⟩:=h2
   refine ⟨st.setBox idp (.fix (jF cs offp v.cells)), ?_, ?_⟩
   ·unfold Ex fe
    rw [hyg]
    simp only [jE,hy,hro,hyd]
    refine ⟨?_, ?_⟩
    ·simp only [Op.operands]
     simpa only [Op.operands,List.map_cons,List.map_nil,hvp,hvv] using hcond
    ·simp only [dt,hev1,q2,q3,hb]
     exact ⟨hvc,rfl⟩
   ·subst h2
    unfold Ex fe at h1 ⊢
    rw [hxg] at h1 ⊢
    simp only [jE,hx,nA] at h1 ⊢
    have hload:∀ r,rc (dp S t st.bx (st.ev S (.tmp q)).strip) (st.ev S (.tmp q)).cond=some r→rc (dp S t (st.setBox idp (.fix (jF cs offp v.cells))).bx (st.ev S (.tmp q)).strip) (st.ev S (.tmp q)).cond=some r:=fun r hr=>by
     simp only [St.ev] at hr ⊢
     rw [hqv] at hr ⊢
     simp only [SV.strip,SV.cond,dp,St.setBox] at hr ⊢
     rw [if_neg (by omega)];exact hr
    cases hr:rc (dp S t st.bx (st.ev S (.tmp q)).strip) (st.ev S (.tmp q)).cond with
    | none=>rw [hr] at h1;simp only [dt] at h1;exact h1.2.elim
    | some r =>
     rw [hr] at h1
     have:=hload r hr
     rw [show (St.ev S (st.setBox idp (.fix (jF cs offp v.cells))) (.tmp q))=st.ev S (.tmp q) from rfl,this]
     refine ⟨h1.1, ?_⟩
     rw [← h1.2,hxd]
     rfl
  ·exact h2.elim
 ·rename_i q1 _ _;cases q1
 ·exact h2.elim
def dW (lb:Nat) (st:St):Prop:=(∀ i,st.nx≤i→st.bx i=none)∧lb≤st.nx
theorem dW.set {lb:Nat} {st:St} (h:dW lb st) (d:Option Nat) (v:SV):dW lb (st.set d v) :=
 ⟨fun i hi=>by rw [dX];rw [fM] at hi;exact h.1 i hi,by rw [fM];exact h.2⟩
theorem dW.newBox {lb:Nat} {st:St} (h:dW lb st) (x:Bx):dW lb (st.newBox x):=⟨fun i hi=>by
 simp only [St.newBox] at hi ⊢
 rw [if_neg (by omega)];exact h.1 i (by omega),Nat.le_succ_of_le h.2⟩
theorem dW.delBox {lb:Nat} {st:St} (h:dW lb st) (id:Nat):dW lb (st.delBox id):=⟨fun i hi=>by
 simp only [St.delBox] at hi ⊢
 split
 ·rfl
 ·exact h.1 i hi,h.2⟩
theorem dW.setBox {lb:Nat} {st:St} (h:dW lb st) {id:Nat} {y:Bx} (hb:st.bx id=some y) (x:Bx):dW lb (st.setBox id x):=⟨fun i hi=>by
 simp only [St.setBox] at hi ⊢
 split
 ·rename_i e
  subst e
  rw [h.1 i hi] at hb;cases hb
 ·exact h.1 i hi,h.2⟩
theorem An {lb:Nat} {f:FuncId} {args:List BV} {K:SV→St→Prop} (h:CallP S st f args K) (w:dW lb st):∃ r s',K r s'∧dW lb s':=by
 cases h with
 | pure args' X h ha hl hk=>exact ⟨_,_,hk,w⟩
 | ext args' X h ha hl hk=>exact ⟨_,_,hk,w⟩
 | lend args' X h ha hl hf hk=>exact ⟨_,_,hk,w⟩
 | recv id off cs0 cs rest args' X Y h he hb hoff hcs ha hl hr hy hk=>exact ⟨_,_,hk,w.setBox hb _⟩
 | recvEl id sz i e n g cs rest args' X Y h he hb hi hsz hcs ha hl hr hy hk=>exact ⟨_,_,hk,w.setBox hb _⟩
 | inl X bx' nx' h hr hw hk hn=>exact ⟨_,_,hk,hw,Nat.le_trans w.2 hn⟩
 | own args' e sz n g h ha hl hr hk=>exact ⟨_,_,hk,w.newBox _⟩
theorem Pj {lb:Nat} {ev:Operand→SV} {op:Op} {K:SV→St→Prop} (h:dt S st ev op K) (w:dW lb st):∃ r s',K r s'∧dW lb s':=by
 cases op with
 | build t parts =>
  simp only [dt] at h
  split at h
  ·split at h
   ·exact ⟨_,_,h.2,w⟩
   ·exact h.elim
  ·exact h.elim
 | alloc t =>
  simp only [dt] at h
  split at h
  ·exact ⟨_,_,h,w.newBox _⟩
  ·exact h.elim
 | box t x =>
  simp only [dt] at h
  split at h
  ·exact ⟨_,_,h.2,w.newBox _⟩
  ·exact h.elim
 | buildSlice t len parts =>
  simp only [dt] at h
  split at h
  ·split at h
   ·split at h
    ·exact ⟨_,_,h.2,w.newBox _⟩
    ·exact h.elim
   ·exact h.elim
  ·exact h.elim
 | store t p x =>
  simp only [dt] at h
  split at h
  ·split at h
   ·rename_i hb
    exact ⟨_,_,h.2,w.setBox hb _⟩
   ·exact h.elim
  ·split at h
   ·rename_i hb
    exact ⟨_,_,h.2,w.setBox hb _⟩
   ·exact h.elim
  ·exact h.elim
 | makeSlice t l c =>
  simp only [dt] at h
  split at h
  ·split at h
   ·exact ⟨_,_,h.2,w.newBox _⟩
   ·exact h.elim
  ·exact h.elim
 | call c =>
  simp only [dt] at h
  split at h
  ·split at h
   ·split at h
    ·exact ⟨_,_,h.2,w.newBox _⟩
    ·split at h
     ·exact ⟨_,_,h.2,(w.delBox _).newBox _⟩
     ·exact h.elim
    ·exact h.elim
   ·exact h.elim
  ·split at h
   ·split at h
    ·rename_i hb
     exact ⟨_,_,h.2,w.setBox hb _⟩
    ·exact h.elim
   ·exact h.elim
  ·exact An h w
  ·split at h
   ·exact An h w
   ·exact h.elim
  ·exact h.elim
 | _=>exact h.elim
theorem Fi {lb:Nat} {o:Oper} {K:St→Prop} (h:jE S st o K) (w:dW lb st):∃ s',K s'∧dW lb s':=by
 unfold jE at h
 split at h
 ·exact ⟨_,h.2,w.set _ _⟩
 ·obtain ⟨r,s',hk,hw⟩:=Pj h.2 w
  exact ⟨_,hk,hw.set _ _⟩
theorem ri {lb:Nat} {o:Oper} (h:Ex S ops st o s') (w:dW lb st):dW lb s':=by
 unfold Ex fe at h
 split at h
 ·obtain ⟨s,rfl,hw⟩:=Fi h w
  exact hw
 ·split at h
  ·rename_i g hg
   split at h
   ·rw [← h.2.2];exact w.set _ _
   ·rw [← h.2.2];exact w.set _ _
   ·rcases h with h|⟨x,_,_,h⟩
    ·cases g with
     | true =>
      obtain ⟨s,rfl,hw⟩:=Fi (h.1 rfl) w
      exact hw
     | false=>rw [← h.2 rfl];exact w.set _ _
    ·rw [← h];exact w.set _ _
  ·exact h.elim
def sg (rcv:Nat→Bool) (o:Oper):Bool:=o.guard.isNone && match o.op with
 | .alloc _=>true
 | .box _ _=>true
 | .buildSlice _ _ _=>true
 | .makeSlice _ _ _=>true
 | .call c=>match c.callee with
  | .value (.func f) => !rcv f && rcv (f+2000000)
  | _=>false
 | _=>false
theorem zB {o:Oper} (ha:sg S.rcv o=true) (h:Ex S ops st o s'):∀ i,i≠st.nx→s'.bx i=st.bx i:=by
 intro i hi
 simp only [sg,Bool.and_eq_true,Option.isNone_iff_eq_none] at ha
 obtain ⟨hg,ha⟩:=ha
 unfold Ex fe at h
 rw [hg] at h
 simp only [jE] at h
 split at ha
 ·rename_i t ho
  rw [ho] at h
  simp only [show ro S st.bx (st.ev S) (.alloc t)=none from rfl,dt] at h
  split at h
  ·rw [← h.2];simp [St.newBox,dX,hi]
  ·exact h.2.elim
 ·rename_i t x ho
  rw [ho] at h
  simp only [show ro S st.bx (st.ev S) (.box t x)=none from rfl,dt] at h
  split at h
  ·rw [← h.2.2];simp [St.newBox,dX,hi]
  ·exact h.2.elim
 ·rename_i t l ps ho
  rw [ho] at h
  simp only [show ro S st.bx (st.ev S) (.buildSlice t l ps)=none from rfl,dt] at h
  split at h
  ·split at h
   ·split at h
    ·rw [← h.2.2];simp [St.newBox,dX,hi]
    ·exact h.2.elim
   ·exact h.2.elim
  ·exact h.2.elim
 ·rename_i t l c ho
  rw [ho] at h
  simp only [show ro S st.bx (st.ev S) (.makeSlice t l c)=none from rfl,dt] at h
  split at h
  ·split at h
   ·rw [← h.2.2];simp [St.newBox,dX,hi]
   ·exact h.2.elim
  ·exact h.2.elim
 ·rename_i c ho
  obtain ⟨cal,⟨al⟩,⟨tl⟩⟩:=c
  simp only at ha
  split at ha
  ·rename_i f
   rw [ho] at h
   simp only [Bool.and_eq_true,Bool.not_eq_true'] at ha
   have hro:ro S st.bx (st.ev S) (.call ⟨.value (.func f),⟨al⟩,⟨tl⟩⟩)=none:=by simp [ro,bc]
   rw [hro] at h
   have h2:=h.2
   unfold dt at h2
   simp only at h2
   cases h2 with
   | pure args' X h ha2 hl hk=>rw [← hk,dX]
   | ext args' X h ha2 hl hk=>rw [← hk,dX]
   | lend args' X h ha2 hl hf hk hp=>rw [← hk,dX]
   | recv id off cs0 cs rest args' X Y h he hb hoff hcs ha2 hl hr hy hk=>rw [ha.1] at hr;cases hr
   | recvEl id sz i e n g cs rest args' X Y h he hb hi hsz hcs ha2 hl hr hy hk=>rw [ha.1] at hr;cases hr
   | inl X bx' nx' h hr hw hk hn=>rw [ha.1] at hr;cases hr
   | own args' e sz n g h ha2 hl hr hk=>rw [← hk,dX];simp [St.newBox,hi]
  ·cases ha
 ·cases ha
def xO (o:Oper):Bool:=o.guard.isNone && match o.op with
 | .load _ _=>true
 | _=>false
def pc (rcv:Nat→Bool) (ops:Array Oper) (x y:Oper):Bool :=
 (match x.dst with|some d => !(ck ops y).contains d|none=>true) && (match y.dst with|some d => !(ck ops x).contains d|none=>true) &&
 (match x.dst,y.dst with|some d,some e=>d != e|_,_=>true) && xO x && sg rcv y
theorem Cd {t:TypeId} {b b':Nat→Option Bx} {v:SV} {r:Prop × SV} (h:dp S t b v=some r) (hb:∀ i y,b i=some y→b' i=some y):dp S t b' v=some r:=by
 unfold dp at h ⊢
 split
 ·rename_i id off
  simp only at h
  split at h
  ·rename_i h1 h2;rw [hb _ _ h1,h2];exact h
  ·rename_i h1 h2;rw [hb _ _ h1,h2];exact h
  ·cases h
 ·rename_i id sz i off
  simp only at h
  split at h
  ·rename_i h1 h2;rw [hb _ _ h1,h2];exact h
  ·rename_i h1 h2;rw [hb _ _ h1,h2];exact h
  ·cases h
 ·exact h
 ·simp_all
theorem iY {lb:Nat} {x y:Oper} (hi:pc S.rcv ops x y=true) (w:dW lb st) (h1:Ex S ops st x s1) (h2:Ex S ops s1 y s2):∃ s3,Ex S ops st y s3∧Ex S ops s3 x s2:=by
 simp only [pc,Bool.and_eq_true] at hi
 obtain ⟨⟨⟨⟨hxy,hyx⟩,hdd⟩,hl⟩,ha⟩:=hi
 have hab:=zB ha h2
 simp only [xO,Bool.and_eq_true,Option.isNone_iff_eq_none] at hl
 obtain ⟨hxg,hl⟩:=hl
 split at hl
 case h_2=>cases hl
 rename_i t q hxo
 obtain ⟨v1,b1,n1,e1,k1,p1,z1⟩:=gE h1
 have hc1:vj S.rcv x≤1:=by simp [vj,dF,hxo]
 obtain ⟨rfl,rfl⟩:=k1 hc1
 obtain ⟨v2,b2,n2,e2,k2,p2,z2⟩:=gE h2
 have hs1:s1.bx=st.bx∧s1.nx=st.nx:=by rw [e1];exact ⟨dX,fM⟩
 have ag1:∀ t ∈ ck ops y,s1.fr t=st.fr t:=by
  rw [e1];exact gX (nx':=0) (bx':=st.bx) hxy
 have q2:=p2 st ag1 hs1.1.symm hs1.2.symm
 refine ⟨_,q2, ?_⟩
 have comm:s2=St.set (St.set ⟨st.fr,b2,n2,st.kf⟩ y.dst v2) x.dst v1:=by
  rw [e2,e1]
  simp only [ec,St.mk.injEq,and_true]
  funext s
  by_cases c1:some s=x.dst
  ·by_cases c2:some s=y.dst
   ·rw [← c1,← c2] at hdd
    simp at hdd
   ·rw [if_neg c2,if_pos c1,if_pos c1]
  ·by_cases c2:some s=y.dst
   ·rw [if_pos c2,if_neg c1,if_pos c2]
   ·rw [if_neg c2,if_neg c1,if_neg c1,if_neg c2]
 have hbx:∀ i y',st.bx i=some y'→b2 i=some y':=fun i y' hi=>by
  have hne:i≠s1.nx:=by
   rw [hs1.2]
   intro e
   have:=w.1 i (by omega)
   rw [this] at hi;cases hi
  have:=hab i hne
  rw [e2,dX,hs1.1] at this
  exact this.trans hi
 have ag2:∀ t ∈ ck ops x,(St.set ⟨st.fr,b2,n2,st.kf⟩ y.dst v2).fr t=st.fr t:=gX (nx':=0) (bx':=st.bx) hyx
 have hevq:(St.set ⟨st.fr,b2,n2,st.kf⟩ y.dst v2).ev S q=st.ev S q :=
  (dv (S:=S) (ops:=ops) (o:=x) (fun t ht=>(ag2 t ht).symm) q (by rw [hxo];simp [Op.operands])).symm
 unfold Ex fe at h1 ⊢
 rw [hxg] at h1 ⊢
 simp only [jE,hxo,nA] at h1 ⊢
 rw [hevq,dX]
 cases hr:dp S t st.bx (st.ev S q).strip with
 | none=>rw [hr] at h1;simp only [rc,dt] at h1;exact h1.2.elim
 | some r =>
  rw [hr] at h1
  rw [Cd hr hbx]
  obtain ⟨r1,r2⟩:=r
  simp only [rc] at h1 ⊢
  refine ⟨h1.1, ?_⟩
  rw [comm]
  have hv:∀ d,x.dst=some d→r2=v1:=fun d hd=>by
   have:=congrArg (fun s:St=>s.fr d) (h1.2.trans e1)
   simpa [hd,St.set] using this
  cases hd:x.dst with
  | none=>rfl
  | some d=>rw [hv d hd]
def Py (kl:List (Nat × Nat)) (ops:Array Oper) (mi:Nat) (j i:Nat) (x y:Oper):Bool :=
 match x.op,y.op,x.dst with
 | .load _ (.tmp q), .store _ (.tmp p) vop,some d =>
  x.guard.isNone && y.guard.isNone && y.dst.isNone && d != p && d != q && (match vop with | .tmp e=>e != d|_=>true) && ((Nat.beq (oV kl p) 2 && (Nat.beq (oV kl q) 1 || Nat.beq (oV kl q) 3)) || (Nat.ble 4 (oV kl p) && Nat.ble 4 (oV kl q) && oV kl p != oV kl q)) &&
   (List.range ops.size).all fun k=>Nat.ble k j || (match ops[k]? with
    | some z=>z.dst != some q && (z.dst != some p || (Nat.blt k i && mi.testBit k))
    | none=>true)
 | _,_,_=>false
def Jz (rcv:Nat→Bool) (kl:List (Nat × Nat)) (ops:Array Oper) (x y:Oper):Bool :=
 (match x.dst with|some d => !(ck ops y).contains d|none=>true) && (match y.dst with|some d => !(ck ops x).contains d|none=>true) &&
 (match x.dst,y.dst with|some d,some e=>d != e|_,_=>true) && sg rcv x && (match y.op with
 | .load _ (.tmp q)=>y.guard.isNone && Nat.ble 4 (oV kl q) && (List.range ops.size).all fun k=>match ops[k]? with
  | some z=>z.dst != some q
  | none=>true
 | _=>false)
theorem rQ {kl : List (Nat × Nat)} {x y : Oper} {t : TypeId} {q id off : Nat} (hi : Jz S.rcv kl ops x y = true) (hyo : y.op = .load t (.tmp q)) (hyg : y.guard = none) (hq : st.fr q = .b (.c (.ptr id off))) (hid : id < st.nx)
  (h1:Ex S ops st x s1) (h2:Ex S ops s1 y s2):∃ s3,Ex S ops st y s3∧Ex S ops s3 x s2:=by
 simp only [Jz,Bool.and_eq_true] at hi
 obtain ⟨⟨⟨⟨hxy,hyx⟩,hdd⟩,ha⟩,_⟩:=hi
 have hab:=zB ha h1
 obtain ⟨v1,b1,n1,e1,k1,p1,z1⟩:=gE h1
 obtain ⟨v2,b2,n2,e2,k2,p2,z2⟩:=gE h2
 have hc2:vj S.rcv y≤1:=by simp [vj,dF,hyo,hyg]
 obtain ⟨rfl,rfl⟩:=k2 hc2
 have hfrq:s1.fr q=st.fr q:=by
  rw [e1]
  refine gX (nx':=0) (bx':=st.bx) hxy q ?_
  simp [ck,hyo,Op.operands]
 have hload:rc (dp S t s1.bx (s1.ev S (.tmp q)).strip) (s1.ev S (.tmp q)).cond=rc (dp S t st.bx (st.ev S (.tmp q)).strip) (st.ev S (.tmp q)).cond:=by
  simp only [St.ev,hfrq,hq,SV.strip,SV.cond,dp,hab id (by omega)]
 have hy:Ex S ops st y (st.set y.dst v2):=by
  unfold Ex fe at h2 ⊢
  rw [hyg] at h2 ⊢
  simp only [jE,hyo,nA] at h2 ⊢
  rw [hload] at h2
  cases hr:rc (dp S t st.bx (st.ev S (.tmp q)).strip) (st.ev S (.tmp q)).cond with
  | none=>rw [hr] at h2;simp only [dt] at h2;exact h2.2.elim
  | some r =>
   rw [hr] at h2
   refine ⟨h2.1, ?_⟩
   have h3:s1.set y.dst r.2=St.set ⟨s1.fr,s1.bx,s1.nx,s1.kf⟩ y.dst v2:=h2.2.trans e2
   rw [ec,ec] at h3
   simp only [St.mk.injEq,and_true] at h3
   rw [ec,ec]
   simp only [St.mk.injEq,and_true]
   funext s
   have:=congrFun h3 s
   by_cases c1:some s=y.dst
   ·rw [if_pos c1,if_pos c1] at this
    rw [if_pos c1,if_pos c1,this]
   ·rw [if_neg c1,if_neg c1]
 refine ⟨_,hy, ?_⟩
 have ag:∀ t ∈ ck ops x,st.fr t=(st.set y.dst v2).fr t:=fun t ht=>(gX (fr:=st.fr) (kf:=st.kf) (nx':=0) (bx':=st.bx) (bx:=st.bx) (nx:=st.nx) hyx t ht).symm
 have:=p1 (st.set y.dst v2) ag dX fM
 have comm:s2=St.set ⟨(st.set y.dst v2).fr,b1,n1,(st.set y.dst v2).kf⟩ x.dst v1:=by
  rw [e2,e1]
  simp only [ec,St.mk.injEq,and_true]
  funext s
  by_cases c1:some s=x.dst
  ·by_cases c2:some s=y.dst
   ·rw [← c1,← c2] at hdd
    simp at hdd
   ·rw [if_neg c2,if_pos c1,if_pos c1]
  ·by_cases c2:some s=y.dst
   ·rw [if_pos c2,if_neg c1,if_pos c2]
   ·rw [if_neg c2,if_neg c1,if_neg c1,if_neg c2]
 rw [comm]
 exact this
def oy (rcv:Nat→Bool) (ops:Array Oper) (m:Nat→Nat) (kl:List (Nat × Nat)):Bool :=
 (List.range ops.size).all fun i=>match ops[i]? with
  | none=>false
  | some o=>(o.after.all fun e => !Region.binds .any e || Nat.blt e.on i) &&
   (List.range i).all fun j=>match ops[j]? with
    | none=>false
    | some x=>(rv rcv ops x o || pc rcv ops x o || Py kl ops (m i) j i x o || Jz rcv kl ops x o) || ((m i).testBit j)
theorem sR {m : Nat → Nat} {kl : List (Nat × Nat)} {i : Nat} {o : Oper} {l2 : List Nat} (hd : oy S.rcv ops m kl = true) (ho : ops[i]? = some o) (hlt : i < ops.size) : ∀ (l1 : List Nat) {st s' : St}, (l1 ++ i :: l2).Pairwise (· < ·) →
  (∀ k ∈ l1 ++ i :: l2,k<ops.size)→(∀ j ∈ l1,(m i).testBit j=false)→KJ S ops (l1.map (fun i=>ops.getD i default) ++ o :: l2.map (fun i=>ops.getD i default)) st s'→iD kl s'→dW (yh kl) st →
  ∃ s,Ex S ops st o s∧KJ S ops (l1.map (fun i=>ops.getD i default) ++ l2.map (fun i=>ops.getD i default)) s s'
 | [],_,_,_,_,_,h,_,_=>h
 | j :: l1,st,s',hp,hall,ht,⟨s,h1,h2⟩,hk,hwf=>by
  have hpc:=List.pairwise_cons.1 hp
  obtain ⟨s2,h3,h4⟩:=sR hd ho hlt l1 hpc.2 (fun k hk=>hall k (List.mem_cons_of_mem _ hk)) (fun k hk=>ht k (List.mem_cons_of_mem _ hk)) h2 hk (ri h1 hwf)
  have hji:j<i:=hpc.1 i (List.mem_append_right _ (List.mem_cons_self ..))
  have hjlt:j<ops.size:=hall j (List.mem_cons_self ..)
  have hx:ops[j]?=some (ops.getD j default):=by rw [Array.getD_eq_getD_getElem?,Array.getElem?_eq_getElem hjlt];rfl
  have d1:=List.all_eq_true.1 hd i (List.mem_range.2 hlt)
  rw [ho] at d1
  simp only [Bool.and_eq_true] at d1
  have d2:=List.all_eq_true.1 d1.2 j (List.mem_range.2 hji)
  rw [hx] at d2
  simp only [Bool.or_eq_true,ht j (List.mem_cons_self ..),Bool.false_eq_true,or_false] at d2
  have key:∃ s3,Ex S ops st o s3∧Ex S ops s3 (ops.getD j default) s2:=by
   rcases d2 with ((d2|d2)|d2)|d2
   ·exact sm d2 h1 h3
   ·exact iY d2 hwf h1 h3
   ·unfold Py at d2
    split at d2
    ·rename_i _ t q t' p vop d hxo hyo hxd
     simp only [Bool.and_eq_true,Nat.beq_eq,Nat.ble_eq,Bool.or_eq_true,bne_iff_ne,Option.isNone_iff_eq_none] at d2
     obtain ⟨⟨⟨⟨⟨⟨⟨g1,g2⟩,g3⟩,g4⟩,g5⟩,g6⟩,g7⟩,g9⟩:=d2
     have hw:∀ k,j<k→k<ops.size→(ops.getD k default).dst≠some q∧((ops.getD k default).dst≠some p∨(k<i∧(m i).testBit k=true)):=fun k hk1 hk2=>by
      have:=List.all_eq_true.1 g9 k (List.mem_range.2 hk2)
      rw [show ops[k]?=some (ops.getD k default) by rw [Array.getD_eq_getD_getElem?,Array.getElem?_eq_getElem hk2];rfl] at this
      simp only [Bool.or_eq_true,Nat.ble_eq,Bool.and_eq_true,bne_iff_ne] at this
      rcases this with h|h
      ·omega
      ·refine ⟨h.1,h.2.imp id fun h=>⟨?_,h.2⟩⟩
       have:=h.1
       simp [Nat.blt] at this
       omega
     have hq1:s'.fr q=s.fr q:=xH h2 fun z hz=>by
      rcases List.mem_append.1 hz with hz|hz
      ·obtain ⟨k,hk1,rfl⟩:=List.mem_map.1 hz
       exact (hw k (hpc.1 k (List.mem_append_left _ hk1)) (hall k (List.mem_cons_of_mem _ (List.mem_append_left _ hk1)))).1
      ·rcases List.mem_cons.1 hz with hz|hz
       ·subst hz;rw [g3];simp
       ·obtain ⟨k,hk1,rfl⟩:=List.mem_map.1 hz
        exact (hw k (hpc.1 k (List.mem_append_right _ (List.mem_cons_of_mem _ hk1))) (hall k (List.mem_cons_of_mem _ (List.mem_append_right _ (List.mem_cons_of_mem _ hk1))))).1
     have hp1:s'.fr p=s.fr p:=xH h2 fun z hz=>by
      rcases List.mem_append.1 hz with hz|hz
      ·obtain ⟨k,hk1,rfl⟩:=List.mem_map.1 hz
       rcases (hw k (hpc.1 k (List.mem_append_left _ hk1)) (hall k (List.mem_cons_of_mem _ (List.mem_append_left _ hk1)))).2 with h|h
       ·exact h
       ·rw [ht k (List.mem_cons_of_mem _ hk1)] at h;cases h.2
      ·rcases List.mem_cons.1 hz with hz|hz
       ·subst hz;rw [g3];simp
       ·obtain ⟨k,hk1,rfl⟩:=List.mem_map.1 hz
        rcases (hw k (hpc.1 k (List.mem_append_right _ (List.mem_cons_of_mem _ hk1))) (hall k (List.mem_cons_of_mem _ (List.mem_append_right _ (List.mem_cons_of_mem _ hk1))))).2 with h|h
        ·exact h
        ·have:=(List.pairwise_cons.1 (List.pairwise_append.1 hpc.2).2.1).1 k hk1
         omega
     have hp2:s.fr p=st.fr p:=Dg h1 (by rw [hxd];simpa using g4)
     have hq2:s.fr q=st.fr q:=Dg h1 (by rw [hxd];simpa using g5)
     have hpk:=lr hk (t:=p) (by omega)
     have hqk:=lr hk (t:=q) (by omega)
     rw [hp1,hp2] at hpk
     rw [hq1,hq2] at hqk
     have g6':vop ≠ .tmp d:=fun e=>by subst e;simp at g6
     rcases g7 with g7|g7
     ·rw [g7.1] at hpk
      exact rN hxo hxd g1 hyo g3 g2 (by simpa using g4) g6' hpk hqk ⟨rfl,g7.2⟩ h1 h3
     ·exact qz hxo hxd g1 hyo g3 g2 (by simpa using g4) g6' hpk hqk ⟨g7.1.1,g7.1.2,g7.2⟩ h1 h3
    ·cases d2
   ·have d3:=d2
    simp only [Jz,Bool.and_eq_true] at d3
    obtain ⟨⟨⟨⟨_,_⟩,_⟩,_⟩,d3⟩:=d3
    split at d3
    ·rename_i t q hyo
     simp only [Bool.and_eq_true,Option.isNone_iff_eq_none,Nat.ble_eq] at d3
     obtain ⟨⟨hyg,hkd⟩,hall2⟩:=d3
     have hz:∀ k,k<ops.size→(ops.getD k default).dst≠some q:=fun k hk2=>by
      have:=List.all_eq_true.1 hall2 k (List.mem_range.2 hk2)
      rw [show ops[k]?=some (ops.getD k default) by rw [Array.getD_eq_getD_getElem?,Array.getElem?_eq_getElem hk2];rfl] at this
      simpa using this
     have hoi:o=ops.getD i default:=by rw [Array.getD_eq_getD_getElem?,ho];rfl
     have hq1:s'.fr q=s.fr q:=xH h2 fun z hz2=>by
      rcases List.mem_append.1 hz2 with hz2|hz2
      ·obtain ⟨k,hk1,rfl⟩:=List.mem_map.1 hz2
       exact hz k (hall k (List.mem_cons_of_mem _ (List.mem_append_left _ hk1)))
      ·rcases List.mem_cons.1 hz2 with hz2|hz2
       ·subst hz2;rw [hoi];exact hz i hlt
       ·obtain ⟨k,hk1,rfl⟩:=List.mem_map.1 hz2
        exact hz k (hall k (List.mem_cons_of_mem _ (List.mem_append_right _ (List.mem_cons_of_mem _ hk1))))
     have hq2:s.fr q=st.fr q:=Dg h1 (hz j hjlt)
     have hqk:=lr hk (t:=q) (by omega)
     rw [hq1,hq2] at hqk
     unfold BN at hqk
     split at hqk
     ·rename_i id off hfr
      have hlb:=LQ (t:=q) (l:=kl)
      exact rQ d2 hyo hyg hfr (by have:=hwf.2;omega) h1 h3
     ·omega
     ·omega
     ·exact hqk.elim
    ·cases d3
  obtain ⟨s3,h5,h6⟩:=key
  exact ⟨s3,h5,s2,h6,h4⟩
theorem JA {m : Nat → Nat} {kl : List (Nat × Nat)} (hd : oy S.rcv ops m kl = true) (hm : cU ops m = true) {K : St → Prop} : ∀ (fuel : Nat) (listed : Array Bool) (rest : List Nat) (st s' : St),
  listed.size=ops.size→rest.Pairwise (· < ·)→(∀ i,i ∈ rest↔i<ops.size∧listed.getD i true=false)→gO ops listed→KJ S ops (rest.map fun i=>ops.getD i default) st s'→K s'→iD kl s'→dW (yh kl) st→rest.length≤fuel →
  iQ S ops fuel listed st K:=by
 have hed:∀ i o,ops[i]?=some o→∀ e ∈ o.after,Region.binds .any e=true→e.on<i:=fun i o ho e he hb=>by
  have hlt:i<ops.size:=by
   rcases Nat.lt_or_ge i ops.size with h|h
   ·exact h
   ·rw [Array.getElem?_eq_none h] at ho;cases ho
  have:=List.all_eq_true.1 hd i (List.mem_range.2 hlt)
  rw [ho] at this
  simp only [Bool.and_eq_true] at this
  have:=this.1
  obtain ⟨k,hk,rfl⟩:=Array.mem_iff_getElem.1 he
  have:=(Array.all_eq_true.1 this) k hk
  simp only [hb,Bool.not_true,Bool.false_or,Nat.blt] at this
  have:=Nat.le_of_ble_eq_true this
  omega
 have noready:∀ (listed:Array Bool) (rest:List Nat),listed.size=ops.size→rest.Pairwise (· < ·)→(∀ i,i ∈ rest↔i<ops.size∧listed.getD i true=false)→Region.ready .any ops listed=[]→rest=[]:=by
  intro listed rest hs hp hr hno
  cases rest with
  | nil=>rfl
  | cons i r =>
   exfalso
   obtain ⟨hlt,hl⟩:=(hr i).1 (List.mem_cons_self ..)
   have:i ∈ Region.ready .any ops listed:=(cC hs).2 ⟨_,Array.getElem?_eq_getElem hlt,hl,fun e he hb=>by
    have hle:=hed i _ (Array.getElem?_eq_getElem hlt) e he hb
    cases hq:listed.getD e.on false with
    | true=>rfl
    | false =>
     exfalso
     have hq':listed.getD e.on true=false:=by
      have hl2:e.on<listed.size:=by omega
      rw [Array.getD,dif_pos hl2] at hq ⊢
      exact hq
     have hmem:=(hr e.on).2 ⟨by omega,hq'⟩
     rcases List.mem_cons.1 hmem with h|h
     ·omega
     ·have:=(List.pairwise_cons.1 hp).1 _ h;omega⟩
   rw [hno] at this
   cases this
 intro fuel
 induction fuel with
 | zero =>
  intro listed rest st s' hs hp hr hcl hx hk hkl hwf hlen
  have hnil:rest=[]:=List.eq_nil_of_length_eq_zero (by omega)
  subst hnil
  have hst:st=s':=hx
  subst hst
  refine ⟨?_,hk⟩
  rw [List.eq_nil_iff_forall_not_mem]
  intro i hi
  obtain ⟨o,ho,hl,_⟩:=(cC hs).1 hi
  have hlt:i<ops.size:=by
   rcases Nat.lt_or_ge i ops.size with h|h
   ·exact h
   ·rw [Array.getElem?_eq_none h] at ho;cases ho
  exact absurd ((hr i).2 ⟨hlt,hl⟩) (by simp)
 | succ fuel ih =>
  intro listed rest st s' hs hp hr hcl hx hk hkl hwf hlen
  refine ⟨fun hno => ?_,fun i hi => ?_⟩
  ·have:=noready listed rest hs hp hr hno
   subst this
   have hst:st=s':=hx
   rw [hst];exact hk
  ·obtain ⟨o,ho,hl,hdep⟩:=(cC hs).1 hi
   have hlt:i<ops.size:=by
    rcases Nat.lt_or_ge i ops.size with h|h
    ·exact h
    ·rw [Array.getElem?_eq_none h] at ho;cases ho
   have hmem:=(hr i).2 ⟨hlt,hl⟩
   rw [ho]
   obtain ⟨l1,l2,rfl⟩:=List.append_of_mem hmem
   have hpw:=List.pairwise_append.1 hp
   have hoi:ops.getD i default=o:=by rw [Array.getD_eq_getD_getElem?,ho];rfl
   rw [List.map_append,List.map_cons,hoi] at hx
   have hdep':∀ e ∈ o.after,Region.binds .any e=true→jo listed e.on:=fun e he hb=>by
    have:=hdep e he hb
    have h2:=hed i o ho e he hb
    have hl2:e.on<listed.size:=by omega
    unfold jo
    rw [Array.getD,dif_pos hl2] at this ⊢
    exact this
   have hind:∀ j ∈ l1,(m i).testBit j=false:=fun j hj=>by
    have hji:j<i:=hpw.2.2 j hj i (List.mem_cons_self ..)
    obtain ⟨hjlt,hjl⟩:=(hr j).1 (List.mem_append_left _ hj)
    cases h2:(m i).testBit j with
    | false=>rfl
    | true =>
     exfalso
     have h3:=List.all_eq_true.1 hm i (List.mem_range.2 hlt)
     rw [ho] at h3
     have h4:=List.all_eq_true.1 h3 j (List.mem_range.2 hji)
     simp only [h2,Bool.not_true,Bool.false_or] at h4
     obtain ⟨k,hk',hh⟩:=Array.any_eq_true.1 h4
     simp only [Bool.and_eq_true,Bool.or_eq_true,Nat.beq_eq] at hh
     have hin:=hdep' _ (Array.getElem_mem hk') hh.1
     have hle:=hed i o ho _ (Array.getElem_mem hk') hh.1
     have:jo listed j:=by
      rcases hh.2 with q|q
      ·rw [← q];exact hin
      ·exact tT hm hcl hed (fun _ _ _=>trivial) (i+1) _ (by omega) hin (by omega) j (by have:=q.2;simp [Nat.blt] at this;omega) q.1
     unfold jo at this
     rw [this] at hjl
     cases hjl
   have hall:∀ k ∈ l1 ++ i :: l2,k<ops.size:=fun k hk2=>((hr k).1 hk2).1
   obtain ⟨s1,h1,h2⟩:=sR hd ho hlt l1 hp hall hind hx hkl hwf
   refine kF h1 ?_
   have hget:∀ k b,(listed.setIfInBounds i true).getD k b=if k=i then true else listed.getD k b:=fun k b=>by
    simp only [Array.getD_eq_getD_getElem?,Array.getElem?_setIfInBounds]
    by_cases hk:k=i
    ·subst hk;simp [hs,hlt]
    ·rw [if_neg (fun h=>hk h.symm),if_neg hk]
   refine ih _ (l1 ++ l2) s1 s' (by simpa using hs) ?_ (fun k => ?_) (fun k x hx' hin e he hb => ?_) (by rw [List.map_append];exact h2) hk hkl (ri h1 hwf) (by simp at hlen ⊢;omega)
   ·refine List.pairwise_append.2 ⟨hpw.1,(List.pairwise_cons.1 hpw.2.1).2,fun a ha b hb=>hpw.2.2 a ha b (List.mem_cons_of_mem _ hb)⟩
   ·have hk:=hr k
    rw [hget]
    by_cases hki:k=i
    ·subst hki
     simp only [if_true]
     constructor
     ·intro hmm
      exfalso
      rcases List.mem_append.1 hmm with q|q
      ·have:=hpw.2.2 k q k (List.mem_cons_self ..);omega
      ·have:=(List.pairwise_cons.1 hpw.2.1).1 k q;omega
     ·rintro ⟨_,q⟩;cases q
    ·rw [if_neg hki,← hk]
     simp [hki]
   ·unfold jo at hin ⊢
    rw [hget] at hin ⊢
    by_cases hek:e.on=i
    ·rw [if_pos hek]
    ·rw [if_neg hek]
     by_cases hki:k=i
     ·subst hki
      rw [ho] at hx'
      cases hx'
      exact hdep' e he hb
     ·rw [if_neg hki] at hin
      exact hcl k x hx' hin e he hb
theorem Aa {l:List Oper} {m:Nat→Nat} {kl:List (Nat × Nat)} (hd:oy S.rcv l.toArray m kl=true) (hm:cU l.toArray m=true) {K:St→Prop} (hwf:dW (yh kl) st) (h:aY S l.toArray l st fun s=>iD kl s∧K s):iQ S l.toArray l.toArray.size (Array.replicate l.toArray.size false) st K:=by
 obtain ⟨s',h1,h2⟩:=uF h
 refine JA hd hm _ _ (List.range l.length) st s' (by simp) List.pairwise_lt_range (fun i => ?_) (fun i o ho hi => ?_) ?_ h2.2 h2.1 hwf (by simp)
 ·rw [List.mem_range]
  simp only [List.size_toArray,Array.getD_eq_getD_getElem?,Array.getElem?_replicate]
  constructor
  ·intro h;exact ⟨h,by simp [h]⟩
  ·exact fun h=>h.1
 ·exfalso
  have hlt:i<l.toArray.size:=by
   rcases Nat.lt_or_ge i l.toArray.size with h|h
   ·exact h
   ·rw [Array.getElem?_eq_none h] at ho;cases ho
  unfold jo at hi
  simp only [Array.getD_eq_getD_getElem?,Array.getElem?_replicate,if_pos hlt] at hi
  cases hi
 ·have:(List.range l.length).map (fun i=>l.toArray.getD i default)=l:=by
   apply List.ext_getElem
   ·simp
   ·intro i h1 h2;simp [h2]
  rw [this];exact h1
theorem bM {id : Nat} {l : List Oper} {y : Code} {Q : AExit → St → Prop} (kl : List (Nat × Nat)) (hd : oy S.rcv l.toArray (fun i => (Region.before l.toArray).getD i 0) kl = true) (hm : cU l.toArray (fun i => (Region.before l.toArray).getD i 0) = true)
  (hwf:dW (yh kl) st) (h:∀ K:St→Prop,(∀ s,iD kl s→cw S y Q s→K s)→aY S l.toArray l st K):cw S (.seq (.region id l.toArray true) y) Q st:=by
 refine ua ?_
 simp only [cw,if_pos]
 exact Aa hd hm hwf (h _ fun s h1 h2=>⟨h1,h2⟩)
theorem gz {id : Nat} {l : List Oper} {Q : AExit → St → Prop} (kl : List (Nat × Nat)) (hd : oy S.rcv l.toArray (fun i => (Region.before l.toArray).getD i 0) kl = true) (hm : cU l.toArray (fun i => (Region.before l.toArray).getD i 0) = true)
  (hwf:dW (yh kl) st) (h:∀ K:St→Prop,(∀ s,iD kl s→Q .normal s→K s)→aY S l.toArray l st K):cw S (.region id l.toArray true) Q st:=by
 simp only [cw,if_pos]
 exact Aa hd hm hwf (h _ fun s h1 h2=>⟨h1,h2⟩)
theorem Gm {c:Operand} {x y z:Code} {t:Bool} {Q:AExit→St→Prop} (s0:St) (hc:st.ev S c = .t t) (h1:t=true→cw S x (hC (Wk fun s=>s=s0) Q) st) (h2:t=false→cw S y (hC (Wk fun s=>s=s0) Q) st) (h:cw S z Q s0):cw S (.seq (.cond c x y) z) Q st :=
 Mg (fun s=>s=s0) (ln hc h1 h2) (fun s hs=>hs ▸ h)
theorem dZ {z x:Code} {id:Nat} {Q:AExit→St→Prop} (h:∀ K:St→Prop,(∀ s s',Le s s'→cw S z Q s'→K s)→cw S x (kG id (hC K Q)) st):cw S (.seq (.block id x) z) Q st:=by
 refine dC (S:=S) (.block id x) (Q:=hC (fun st=>Wk (cw S z Q) st∨cw S z Q st) Q) (fun _ _ h=>h) (zU ?_)
 exact h _ fun s s' hl hs => .inl ⟨s',hl,hs⟩
theorem OQ {c i o:Nat}:BN c (.b (.c (.ptr i o)))=(c=1∨c=4+i):=rfl
theorem OJ {c i s k o:Nat}:BN c (.b (.c (.pel i s k o)))=(c=2):=rfl
theorem ME {c s o:Nat} {g:Nat→PV}:BN c (.b (.c (.ipt s g o)))=(c=3):=rfl
theorem Oi {s:St}:iD [] s=True:=rfl
theorem JF {s:St} {t c:Nat} {r:List (Nat × Nat)}:iD ((t,c) :: r) s=(BN c (s.fr t)∧iD r s):=rfl
end
attribute [go_sem] yh OQ OJ ME Oi JF
end Go.SL
namespace Go.SL
open Go
inductive Tr where
 | leaf
 | nil
 | br (i:Nat) (t r:Tr)
def eK (S:Env) (ops:Array Oper) (L:List Oper):Tr→St→(St→Prop)→Prop
 | .leaf,st,K=>K st
 | .nil,_,_=>True
 | .br i t r,st,K=>aY S ops [L.getD i default] st (fun s=>eK S ops L t s K)∧eK S ops L r st K
def dG:Tr→List Nat
 | .br i _ r=>i :: dG r
 | _=>[]
def gp:Tr→Nat
 | .br _ t r=>max (gp t+1) (gp r)
 | _=>0
section
variable {S:Env} {l:List Oper}
theorem AM {ops:Array Oper} {L:List Oper} {st:St} {K:St→Prop}:eK S ops L .leaf st K=K st:=rfl
theorem Ee {ops:Array Oper} {L:List Oper} {st:St} {K:St→Prop}:eK S ops L .nil st K=True:=rfl
theorem FX {ops:Array Oper} {L:List Oper} {st:St} {K:St→Prop} {i:Nat} {t r:Tr}:eK S ops L (.br i t r) st K=(aY S ops [L.getD i default] st (fun s=>eK S ops L t s K)∧eK S ops L r st K):=rfl
end
theorem Ja {x:Oper} {r:List Oper}:(x :: r).getD 0 default=x:=rfl
theorem Jq {x:Oper} {r:List Oper} {i:Nat}:(x :: r).getD (i+1) default=r.getD i default:=rfl
attribute [go_sem] AM Ee FX Ja Jq
end Go.SL
namespace Go.SL
open Go
def yw (f:FuncId) (l:List SV):Option (Prop × SV) :=
 match ic l with
 | some ps=>some (True, .b (.c (.clo f ps)))
 | none=>none
def Fa (S:Env) (st:St) (v:SV) (args:List BV) {K:SV→St→Prop} (_:Sl K):Prop :=
 match nq v with
 | some (f,xs)=>CallP S st f (args ++ xs) K
 | none=>False
section
variable {S:Env} {ops:Array Oper} {rest:List Oper} {st:St} {K:St→Prop} {d:Option Nat} {ty:TypeId} {pos:String} {af:Array Edge}
theorem IT {f : FuncId} {ps : List (Nat × Nat)} {args : List BV} {K : SV → St → Prop} :
  Fa S st (.b (.c (.clo f ps))) args (Sl.of K)=du S st f (args ++ ps.map fun p => .c (.ptr p.1 p.2)) (Sl.of K):=rfl
theorem KE {f n : Nat} {sz : Nat → Nat} {g : Nat → Nat → PV} {args : List BV} {K : SV → St → Prop} :
  Fa S st (.b (.c (.p (.fn f n sz g)))) args (Sl.of K)=du S st f (args ++ (List.range n).map fun i => .c (.ipt (sz i) (g i) 0)) (Sl.of K):=rfl
theorem GD {f : FuncId} {args : List BV} {K : SV → St → Prop} :
  Fa S st (.b (.c (.p (.val (.func (.func f) #[] #[]))))) args (Sl.of K)=du S st f args (Sl.of K):=by
 unfold Fa nq
 simp only [and_self,if_true,List.append_nil]
 rfl
theorem BI {f : FuncId} {cap : Array Operand} : aY S ops (⟨d, .makeFunc (.func f) #[] cap, ty, pos, af, none⟩ :: rest) st K =
  rk (yw f (cap.toList.map fun x=>(st.ev S x).strip)) (aP (cap.toList.map (st.ev S))) (Sl.of fun r=>aY S ops rest (st.set d r) K):=by
 simp only [aY,fe]
 rw [cW (by simp) (by simp) (by simp) (fun _=>rfl)]
 have e:bc S st.bx (st.ev S) (.makeFunc (.func f) #[] cap)=yw f (cap.toList.map fun x=>(st.ev S x).strip):=by
  simp only [bc,yw]
  split
  ·rename_i h1 h2 h3;cases h1;rw [h3]
  ·rename_i h;split
   ·rename_i ps hp;exact absurd hp (h f ps rfl rfl)
   ·rfl
 rw [e]
 simp [Op.operands]
theorem QO {t : Tmp} {args : Array Operand} {ts : Array TypeId} : aY S ops (⟨d, .call ⟨.value (.tmp t), args, ts⟩, ty, pos, af, none⟩ :: rest) st K =
  (((st.fr t).cond∧aP (args.toList.map (st.ev S)))∧Fa S st (st.fr t).strip (args.toList.map fun x=>dM (st.ev S x)) (Sl.of fun r st'=>aY S ops rest (st'.set d r) K)):=by
 simp only [aY,fe]
 rw [rS (by simp [ro,bc])]
 simp only [Op.operands,Call.operands,dt,Fa]
 have e:aP ((#[Operand.tmp t] ++ args).toList.map (st.ev S))=((st.fr t).cond∧aP (args.toList.map (st.ev S))):=by simp [aP,St.ev]
 rw [e]
 rfl
theorem Gv:ic []=some []:=rfl
theorem EX {id off:Nat} {r:List SV}:ic (.b (.c (.ptr id off)) :: r)=(ic r).map fun l=>(id,off) :: l:=rfl
theorem Nj {nx:Nat} {f:Nat} {ps:List (Nat × Nat)}:CV.lt nx (.clo f ps)=(ps.all fun p=>Nat.blt p.1 nx):=by
 simp [CV.lt]
end
def aB (n:Nat) (x:Bx) (b:Nat→Option Bx):Nat→Option Bx:=fun i=>if i=n then some x else b i
def cY (n:Nat) (b:Nat→Option Bx):Nat→Option Bx:=fun i=>if i=n then none else b i
theorem js {st:St} {d:Option Nat} {v:SV}:(st.set d v).bx=st.bx:=by cases d <;> rfl
theorem eP {st:St} {x:Bx}:(st.newBox x).bx=aB st.nx x st.bx:=rfl
theorem eW {st:St} {id:Nat} {x:Bx}:(st.setBox id x).bx=aB id x st.bx:=rfl
theorem eL {st:St} {id:Nat}:(st.delBox id).bx=cY id st.bx:=rfl
theorem NX {st:St} {d:Option Nat} {v:SV}:(st.set d v).kf=st.kf:=by cases d <;> rfl
theorem Dx {st:St} {x:Bx}:(st.newBox x).kf=st.kf:=rfl
theorem Ev {st:St} {id:Nat} {x:Bx}:(st.setBox id x).kf=st.kf:=rfl
theorem DP {st:St} {id:Nat}:(st.delBox id).kf=st.kf:=rfl
theorem lD {n i:Nat} {x:Bx} {b:Nat→Option Bx}:aB n x b i=if i=n then some x else b i:=rfl
theorem ly {n i:Nat} {b:Nat→Option Bx}:cY n b i=if i=n then none else b i:=rfl
def Ff (args:List BV) (bx:Nat→Option Bx) (nx:Nat) (kf:Nat→SV):St:=⟨iW args 0,bx,nx,kf⟩
def St.turn (st:St) (bx:Nat→Option Bx) (nx:Nat):St:=⟨st.fr,bx,nx,st.kf⟩
theorem MC {args:List BV} {bx:Nat→Option Bx} {nx:Nat} {kf:Nat→SV} {s:Nat}:(Ff args bx nx kf).fr s=iW args 0 s:=rfl
theorem lZ {args:List BV} {bx:Nat→Option Bx} {nx:Nat} {kf:Nat→SV}:(Ff args bx nx kf).bx=bx:=rfl
theorem lR {args:List BV} {bx:Nat→Option Bx} {nx:Nat} {kf:Nat→SV}:(Ff args bx nx kf).nx=nx:=rfl
theorem NG {args:List BV} {bx:Nat→Option Bx} {nx:Nat} {kf:Nat→SV}:(Ff args bx nx kf).kf=kf:=rfl
theorem IB {st:St} {bx:Nat→Option Bx} {nx:Nat} {s:Nat}:(st.turn bx nx).fr s=st.fr s:=rfl
theorem jl {st:St} {bx:Nat→Option Bx} {nx:Nat}:(st.turn bx nx).bx=bx:=rfl
theorem jg {st:St} {bx:Nat→Option Bx} {nx:Nat}:(st.turn bx nx).nx=nx:=rfl
theorem Kd {st:St} {bx:Nat→Option Bx} {nx:Nat}:(st.turn bx nx).kf=st.kf:=rfl
def IS (S:Env) (st:St):ResultVar→Option (Prop × BV)
 | .tmp t=>match st.fr t with
  | .b x=>some (True,x)
  | _=>none
 | .cell p t=>match dp S t st.bx (st.fr p) with
  | some (vc, .b x)=>some (vc,x)
  | _=>none
def jj (S:Env) (st:St):List ResultVar→Option (Prop × List BV)
 | []=>some (True,[])
 | r :: l=>match IS S st r,jj S st l with
  | some (p,x),some (q,xs)=>some (p∧q,x :: xs)
  | _,_=>none
def Fh:List BV→SV
 | [x] => .b x
 | l => .tup l
def Ig (S:Env) (rs:List ResultVar) (X:SV) (bx':Nat→Option Bx) (nx':Nat) (kf:Nat→SV) (st:St):Prop :=
 match jj S st rs with
 | some (p,xs)=>p∧Fh xs=X∧st.bx=bx'∧st.nx=nx'∧st.kf=kf∧X.lt nx'
 | none=>False
def QX (S:Env) (rs:List ResultVar) (X:SV) (bx':Nat→Option Bx) (nx':Nat) (kf:Nat→SV):AExit→St→Prop
 | .ret,st=>Ig S rs X bx' nx' kf st
 | .normal,st=>Ig S rs X bx' nx' kf st
 | _,_=>False
theorem GX {S:Env} {rs:List ResultVar} {X:SV} {bx':Nat→Option Bx} {nx':Nat} {kf:Nat→SV} {st:St}:QX S rs X bx' nx' kf .ret st=Ig S rs X bx' nx' kf st:=rfl
theorem Ai {S:Env} {rs:List ResultVar} {X:SV} {bx':Nat→Option Bx} {nx':Nat} {kf:Nat→SV} {st:St}:QX S rs X bx' nx' kf .normal st=Ig S rs X bx' nx' kf st:=rfl
section
variable {S:Env} {E:Ent} {st:St} {ρ:fO} {a:Act} {w:World}
theorem FY {r:ResultVar} {p:Prop} {x:BV} (h:IS S st r=some (p,x)) (hp:p) (g:Gam S E st ρ a w):∃ v,pX S.P a.tmps w r v∧bT ρ (bC E st.bx ρ w) w x v:=by
 unfold IS at h
 split at h
 ·rename_i t
  have hs:=g.slt t
  split at h
  ·rename_i y hy
   rw [hy] at hs
   simp only [Option.some.injEq,Prod.mk.injEq] at h
   obtain ⟨_,rfl⟩:=h
   exact ⟨_,rfl,hs⟩
  ·simp at h
 ·rename_i q t
  split at h
  ·rename_i vc y hl
   simp only [Option.some.injEq,Prod.mk.injEq] at h
   obtain ⟨rfl,rfl⟩:=h
   obtain ⟨v,hr,hv,_⟩:=uV hl hp g (g.slt q)
   refine ⟨v, ?_,hv⟩
   unfold pX qX
   simp only [Instr.loadAt,Sem.run_bind] at hr ⊢
   cases hq:a.tmps.getD q undef <;> simp only [hq,Instr.sureAddr,run_stuck,Result.andThen_halt,reduceCtorEq] at hr
   rename_i ad
   cases ad with
   | none=>simp [Instr.sureAddr] at hr
   | some ad=>simpa [asAddr,Instr.sureAddr] using hr
  ·simp at h
theorem iF (g : Gam S E st ρ a w) : ∀ {rs : List ResultVar} {p : Prop} {xs : List BV},
  jj S st rs=some (p,xs)→p→∃ vs:List Value,(rs.mapM (qX a.tmps)).run S.P w = .ok vs w∧vs.length=xs.length∧∀ j,bT ρ (bC E st.bx ρ w) w (xs.getD j .any) (vs.getD j undef)
 | [],p,xs,h,_=>by
  simp only [jj,Option.some.injEq,Prod.mk.injEq] at h
  obtain ⟨_,rfl⟩:=h
  exact ⟨[],by simp,rfl,fun j=>by simp [bT,cd,bp]⟩
 | r :: rs,p,xs,h,hp=>by
  simp only [jj] at h
  split at h
  ·rename_i p1 x1 p2 xs2 h1 h2
   simp only [Option.some.injEq,Prod.mk.injEq] at h
   obtain ⟨rfl,rfl⟩:=h
   obtain ⟨v,hv,hd⟩:=FY h1 hp.1 g
   obtain ⟨vs,hvs,hl,hds⟩:=iF g h2 hp.2
   refine ⟨v :: vs, ?_,by simp [hl],fun j => ?_⟩
   ·unfold pX at hv
    rw [List.mapM_cons]
    simp only [Sem.run_bind,hv,Result.andThen_ok,hvs,Sem.run_pure]
   ·cases j with
    | zero=>exact hd
    | succ j=>exact hds j
  ·simp at h
theorem oD {fn : Func} {xs : List BV} {vs : List Value} {ok : Nat → Prop} (hvs : (fn.results.toList.mapM (qX a.tmps)).run S.P w = .ok vs w) (hl : vs.length = xs.length)
  (hd:∀ j,bT ρ ok w (xs.getD j .any) (vs.getD j undef)):∃ v,(results fn a.tmps).run S.P w = .ok v w∧bn ρ ok w (Fh xs) v:=by
 refine ⟨_,mJ hvs, ?_⟩
 match vs,xs,hl with
 | [],[],_=>exact ⟨#[],rfl,rfl,fun j=>by simpa using hd j⟩
 | [v],[x],_=>exact hd 0
 | v :: v2 :: vs, x :: x2 :: xs, hl => exact ⟨(v :: v2 :: vs).toArray, rfl, by simpa using hl, fun j => by
   have e:(v :: v2 :: vs).toArray.getD j undef=(v :: v2 :: vs).getD j undef:=by simp [List.getD_eq_getElem?_getD]
   rw [e];exact hd j⟩
theorem cf {f : FuncId} {args : List BV} {K : SV → St → Prop} {X : SV} {bx' : Nat → Option Bx} {nx' : Nat} (h : iV S st.bx st.nx f args X bx' nx') (hr : S.rcv f = true) (hw : ∀ i, nx' ≤ i → bx' i = none) (hn : st.nx ≤ nx')
  (hk:K X (st.turn bx' nx')):du S st f args (Sl.of K) := .inl X bx' nx' h hr hw hk hn
end
def HP (rs:List ResultVar) (e sz n:Nat) (g:Nat→Nat→PV) (st:St):Prop :=
 match rs with
 | [.tmp t]=>match st.fr t with
  | .b (.c (.own id n'))=>∃ f,st.bx id=some (.arr e sz n f)∧n'=n∧∀ i,i<n→∀ j,j<sz→∃ u,f i j = .val u∧g i j = .val u
  | _=>False
 | _=>False
def QS (rs:List ResultVar) (e sz n:Nat) (g:Nat→Nat→PV):AExit→St→Prop
 | .ret,st=>HP rs e sz n g st
 | .normal,st=>HP rs e sz n g st
 | _,_=>False
theorem Fs {rs:List ResultVar} {e sz n:Nat} {g:Nat→Nat→PV} {st:St}:QS rs e sz n g .ret st=HP rs e sz n g st:=rfl
theorem zi {rs:List ResultVar} {e sz n:Nat} {g:Nat→Nat→PV} {st:St}:QS rs e sz n g .normal st=HP rs e sz n g st:=rfl
def qN (bx:Nat→Option Bx) (id off:Nat):Option (Nat × (Nat→PV)) :=
 match bx id with
 | some (.fix cs)=>if off≤cs.length then some (cs.length - off,fun j=>(ef bx (cs.getD (off+j) .any)).toP) else none
 | _=>none
def sV (bx:Nat→Option Bx) (p:Nat × Nat):Nat × (Nat→PV):=(qN bx p.1 p.2).getD (0,fun _ => .any)
def Bd (bx:Nat→Option Bx):CV→CV
 | .ptr id off=>match qN bx id off with
  | some (n,g) => .ipt n g 0
  | none => .ptr id off
 | .clo f ps=>if ps.all (fun p=>(qN bx p.1 p.2).isSome)=true then .p (.fn f ps.length (fun i=>(sV bx (ps.getD i (0,0))).1) (fun i=>(sV bx (ps.getD i (0,0))).2)) else .clo f ps
 | x=>ef bx x
def vC (bx:Nat→Option Bx):BV→BV
 | .c x => .c (Bd bx x)
 | .agg cs => .agg (cs.map (Bd bx))
def Bk (S:Env) (rs:List ResultVar) (R:SV→Prop) (st:St):Prop :=
 match jj S st rs with
 | some (p,xs)=>p∧(∀ x ∈ xs.map (vC st.bx),BV.lt 0 x)∧R (Fh (xs.map (vC st.bx)))
 | none=>False
def GE (S:Env) (rs:List ResultVar) (R:SV→Prop):AExit→St→Prop
 | .ret,st=>Bk S rs R st
 | .normal,st=>Bk S rs R st
 | _,_=>False
theorem DS {S:Env} {rs:List ResultVar} {R:SV→Prop} {st:St}:GE S rs R .ret st=Bk S rs R st:=rfl
theorem yr {S:Env} {rs:List ResultVar} {R:SV→Prop} {st:St}:GE S rs R .normal st=Bk S rs R st:=rfl
section
variable {S:Env} {E:Ent} {st:St} {ρ:fO} {a:Act} {w:World}
theorem Fk {x:CV} {u:Value} {ok:Nat→Prop} (h:cd ρ ok w x u):bp ok w x.toP u:=by
 cases x with
 | p x=>exact h
 | _=>trivial
theorem ve {id off n : Nat} {g : Nat → PV} {u : Value} {ok : Nat → Prop} (G : Gam S E st ρ a w) (hrx : E.rx = none) (hok : ∀ b, bC E st.bx ρ w b → ok b) (hnew : ∀ b, b < w.heap.size → E.w0.heap.size ≤ b → ok b)
  (ho:qN st.bx id off=some (n,g)) (h:∃ b o,ρ id = .pointer (some ⟨b,o,none⟩)∧u = .pointer (some ⟨b,o+off,none⟩)) :
  ∃ b o,u = .pointer (some ⟨b,o,none⟩)∧ok b∧∀ j,j<n→∃ x,w.cell? ⟨b,o+j,none⟩=some x∧x.oneCell'=true∧bp ok w (g j) x:=by
 unfold qN at ho
 split at ho
 ·rename_i cs hb
  split at ho
  ·rename_i hoff
   simp only [Option.some.injEq,Prod.mk.injEq] at ho
   obtain ⟨rfl,rfl⟩:=ho
   obtain ⟨b,o,hr,hu⟩:=h
   obtain ⟨b2,o2,cells,t,hv,hh,hs,h1,hd⟩:=G.bxs id _ hb
   rw [hr] at hv
   simp only [Value.pointer.injEq,Option.some.injEq,Addr.mk.injEq,and_true] at hv
   obtain ⟨rfl,rfl⟩:=hv
   have hge:E.w0.heap.size≤b:=by
    rcases (G.new id _ b hb (by rw [hr];rfl)).2 with h|⟨o3,cs3,_,_,e⟩
    ·exact h
    ·rw [hrx] at e;cases e
   refine ⟨b,o+off,hu,hnew b (bY hh) hge,fun j hj=>⟨cells.getD (o+off+j) undef,bS hh (by omega), ?_, ?_⟩⟩
   ·rw [Nat.add_assoc];exact h1 _ (by omega)
   ·have:=hd (off+j)
    rw [← Nat.add_assoc] at this
    exact Fk (mV G hok hnew this)
  ·cases ho
 ·cases ho
theorem yS {x : CV} {u : Value} {ok : Nat → Prop} (G : Gam S E st ρ a w) (hrx : E.rx = none) (hok : ∀ b, bC E st.bx ρ w b → ok b) (hnew : ∀ b, b < w.heap.size → E.w0.heap.size ≤ b → ok b)
  (h:cd ρ (bC E st.bx ρ w) w x u):cd ρ ok w (Bd st.bx x) u:=by
 unfold Bd
 split
 ·split
  ·rename_i id off n g ho
   obtain ⟨b,o,h1,h2,h3⟩:=ve G hrx hok hnew ho h
   exact ⟨b,o,h1,h2,h3⟩
  ·exact h
 ·rename_i f ps
  split
  ·rename_i hall
   obtain ⟨vs,hu,hs,hc⟩:=h
   refine ⟨vs,hu,hs,fun i hi => ?_⟩
   have hm:ps.getD i (0,0) ∈ ps:=by rw [List.getD_eq_getElem?_getD,List.getElem?_eq_getElem hi];exact List.getElem_mem hi
   have hq:=List.all_eq_true.1 hall _ hm
   obtain ⟨q,hq⟩:=Option.isSome_iff_exists.1 hq
   have:=ve (n:=q.1) (g:=q.2) G hrx hok hnew hq (hc i hi)
   have e:sV st.bx (ps.getD i (0,0))=q:=by unfold sV;rw [hq];rfl
   dsimp only
   rw [e]
   exact this
  ·exact h
 ·exact mV G hok hnew h
theorem Fu {x : BV} {u : Value} {ok : Nat → Prop} (G : Gam S E st ρ a w) (hrx : E.rx = none) (hok : ∀ b, bC E st.bx ρ w b → ok b) (hnew : ∀ b, b < w.heap.size → E.w0.heap.size ≤ b → ok b)
  (h:bT ρ (bC E st.bx ρ w) w x u):bT ρ ok w (vC st.bx x) u:=by
 cases x with
 | c x=>exact yS G hrx hok hnew h
 | agg cs =>
  obtain ⟨us,rfl,hs,h1,hd⟩:=h
  refine ⟨us,rfl,by simp [hs],h1,fun j => ?_⟩
  by_cases hj:j<cs.length
  ·have e:(cs.map (Bd st.bx)).getD j .any=Bd st.bx (cs.getD j .any):=by simp [List.getD_eq_getElem?_getD,hj]
   rw [e]
   exact yS G hrx hok hnew (hd j)
  ·rw [List.getD_eq_getElem?_getD,List.getElem?_eq_none (by simp;omega)];trivial
theorem pG {f : FuncId} {fn : Func} {c : Code} {rs : List ResultVar} {args : List BV} {R : SV → Prop} (hf : S.P.funcs[f]? = some fn) (hb : fn.body = some c) (hrs : fn.results.toList = rs) (hname : (fn.name == "runtime.NumGoroutine") = false)
  (hm:S.P.follows .mixedOrders=true) (hN:cZ fn.ntmps c=true) (hlen:args.length≤fn.ntmps) (hl:∀ x ∈ args,BV.lt 0 x) (h:cw S c (GE S rs R) (xE args)):aC S f args R:=by
 subst hrs
 refine ⟨⟨fn,hf,hname,by rw [hb];rfl⟩,fun ok w vs hok hgl hsz hden => ?_⟩
 refine calls_of_wp hf hb ?_
 let E:Ent := { w0:=w,ok0:=ok,rx:=none,N:=fn.ntmps }
 have hokA:∀ b,ok b→bC E (fun _=>none) bR w b:=fun b hb=>⟨hok b hb,fun _=>hb,fun _ h=>absurd rfl h⟩
 have hk:fF ok (bC E (fun _=>none) bR w) w w:=fun b hb=>⟨hokA b hb,fun _=>rfl⟩
 have g:Gam S E (xE args) bR { tmps:=vs ++ Array.replicate (fn.ntmps - vs.size) undef,defers:=[] } w:=by
  refine ⟨rfl,by simp [E];omega,⟨rfl,rfl,rfl,Nat.le_refl _,fun _ _ _=>rfl,fun _ _ _ h=>(by cases h)⟩,fun s => ?_,fun _ _ h=>(by cases h),fun _ _ h=>(by cases h),fun _ _ _ h=>(by cases h),fun _ _ _ h=>absurd rfl h,
   fun _ _ _ h=>(by cases h),fun s => ?_,fun gg n f hg => ?_,fun s=>⟨trivial,trivial⟩⟩
  ·simp only [xE,cD]
   split
   ·rename_i hs
    refine hl _ ?_
    rw [List.getD_eq_getElem?_getD,List.getElem?_eq_getElem (by omega)];exact List.getElem_mem _
   ·trivial
  ·simp only [xE,cD]
   split
   ·rename_i hs
    have e:(vs ++ Array.replicate (fn.ntmps - vs.size) undef).getD s undef=vs.getD s undef:=by
     have:s<vs.size:=by omega
     simp [this]
     rw [Array.getElem?_append_left this]
     simp [this]
    rw [e]
    exact bT.mono (nx:=0) hk (fun _ _=>rfl) (hl _ (by rw [List.getD_eq_getElem?_getD,List.getElem?_eq_getElem (by omega)];exact List.getElem_mem _)) (hden (s - 0))
   ·trivial
  ·obtain ⟨h1,h2⟩:=hgl gg n f hg
   refine ⟨hokA gg h1,fun j hj => ?_⟩
   obtain ⟨x,hx,h3,hd⟩:=h2 j hj
   exact ⟨x,hx,h3,bp.mono hk hd⟩
 have fin : ∀ {a' : Act} {w' : World}, kL S E (Bk S fn.results.toList R) a' w' → a'.defers = [] ∧ ∃ v, (results fn a'.tmps).run S.P w' = .ok v w' ∧
   ∃ v2 r,Ending.returned v = .returned v2∧R r∧SV.lt 0 r∧RowKit.Below w.heap.size w w'∧bn bR (FL ok w w') w' r v2:=fun {a' w'} ⟨st',ρ',g',hq⟩=>by
  unfold Bk at hq
  split at hq
  ·rename_i p xs hr
   obtain ⟨hp,hl2,hR⟩:=hq
   obtain ⟨vs2,hvs,hlv,hd⟩:=iF g' hr hp
   have hd2:∀ j,bT bR (FL ok w w') w' ((xs.map (vC st'.bx)).getD j .any) (vs2.getD j undef):=fun j=>by
    by_cases hj:j<xs.length
    ·have e:(xs.map (vC st'.bx)).getD j .any=vC st'.bx (xs.getD j .any):=by simp [List.getD_eq_getElem?_getD,hj]
     have hm:(xs.map (vC st'.bx)).getD j .any ∈ xs.map (vC st'.bx):=by rw [List.getD_eq_getElem?_getD,List.getElem?_eq_getElem (by simpa using hj)];exact List.getElem_mem _
     refine fh (ρ:=ρ') (hl2 _ hm) ?_
     rw [e]
     exact Fu g' rfl (fun b hb=>⟨hb.1,hb.2.1⟩) (fun b h1 h2=>⟨h1,fun h3=>by have:w.heap.size≤b:=h2;omega⟩) (hd j)
    ·rw [List.getD_eq_getElem?_getD,List.getElem?_eq_none (by simpa using hj)];trivial
   obtain ⟨v,hv1,hv2⟩:=oD hvs (by simpa using hlv) hd2
   refine ⟨g'.dfr,v,hv1,v,_,rfl,hR, ?_,⟨g'.frm.os,g'.frm.tape,g'.frm.output,g'.frm.size,fun k hk=>g'.frm.block k hk (fun _ _ h=>by cases h)⟩,hv2⟩
   generalize xs.map (vC st'.bx)=l at hl2
   match l,hl2 with
   | [],_=>exact fun x hx=>by simp at hx
   | [x],hl2=>exact hl2 x (List.mem_cons_self ..)
   | x :: y :: l,hl2=>exact hl2
  ·exact hq.elim
 refine wp_mono (eA hm c hN h g) fun e a' w' hq => ?_
 cases e with
 | normal=>exact fin hq
 | ret=>exact fin hq
 | exit id=>obtain ⟨_,_,_,h⟩:=hq;exact h.elim
 | _=>exact hq.elim
end
attribute [go_sem ↓] BI QO
attribute [go_sem] IT KE GD yw Gv EX Nj List.all_cons List.all_nil lD ly MC lZ lR IB jl jg GX Ai Ig jj IS Fh NX Dx Ev DP NG Kd DS yr Bk Fs zi HP vC Bd qN sV
end Go.SL
namespace Go.SL
open Go
def uN (o:Oper):Bool:=o.guard.isNone && match o.op with
 | .alloc _=>true
 | .box _ _=>true
 | .makeSlice _ _ _=>true
 | _=>false
def ya (o:Oper):Bool:=o.guard.isNone && o.dst.isNone && match o.op with
 | .store _ _ _=>true
 | _=>false
def sA (ops:Array Oper) (x y:Oper):Bool:=(match y.dst with|some d => !(ck ops x).contains d|none=>true) && ya x && uN y
section
variable {S:Env} {ops:Array Oper} {st s1 s2 s':St}
theorem FO {o:Oper} (ha:uN o=true) (h:Ex S ops st o s'):∃ z r,s'=(st.newBox z).set o.dst r∧∀ st2:St,st2.fr=st.fr→st2.nx=st.nx→Ex S ops st2 o ((st2.newBox z).set o.dst r):=by
 simp only [uN,Bool.and_eq_true,Option.isNone_iff_eq_none] at ha
 obtain ⟨hg,ha⟩:=ha
 have hev:∀ st2:St,st2.fr=st.fr→st2.ev S=st.ev S:=fun st2 hf=>by
  funext x
  cases x <;> simp [St.ev,hf]
 unfold Ex fe at h
 rw [hg] at h
 simp only [jE] at h
 split at ha
 ·rename_i t ho
  rw [ho] at h
  simp only [show ro S st.bx (st.ev S) (.alloc t)=none from rfl,dt] at h
  split at h
  ·rename_i z hz
   refine ⟨_,_,h.2.symm,fun st2 hf hn => ?_⟩
   unfold Ex fe
   rw [hg]
   simp only [jE,ho,show ro S st2.bx (st2.ev S) (.alloc t)=none from rfl,dt,hev st2 hf,hn,hz]
   exact ⟨h.1,trivial⟩
  ·exact h.2.elim
 ·rename_i t x ho
  rw [ho] at h
  simp only [show ro S st.bx (st.ev S) (.box t x)=none from rfl,dt] at h
  split at h
  ·rename_i v hz
   refine ⟨_,_,h.2.2.symm,fun st2 hf hn => ?_⟩
   unfold Ex fe
   rw [hg]
   simp only [jE,ho,show ro S st2.bx (st2.ev S) (.box t x)=none from rfl,dt,hev st2 hf,hn,hz]
   exact ⟨h.1,h.2.1,trivial⟩
  ·exact h.2.elim
 ·rename_i t l c ho
  rw [ho] at h
  simp only [show ro S st.bx (st.ev S) (.makeSlice t l c)=none from rfl,dt] at h
  split at h
  ·rename_i q1 q2 q3
   split at h
   ·rename_i q4 q5
    refine ⟨_,_,h.2.2.symm,fun st2 hf hn => ?_⟩
    unfold Ex fe
    rw [hg]
    simp only [jE,ho,show ro S st2.bx (st2.ev S) (.makeSlice t l c)=none from rfl,dt,hev st2 hf,hn,q1,q2,q3,q4,q5]
    exact ⟨h.1,h.2.1,trivial⟩
   ·exact h.2.elim
  ·exact h.2.elim
 ·cases ha
theorem HY {o:Oper} (ha:ya o=true) (h:Ex S ops st o s'):∃ id b b',st.bx id=some b∧s'=st.setBox id b'∧∀ st2:St,(∀ t ∈ ck ops o,st.fr t=st2.fr t)→st2.bx id=some b→Ex S ops st2 o (st2.setBox id b'):=by
 simp only [ya,Bool.and_eq_true,Option.isNone_iff_eq_none] at ha
 obtain ⟨⟨hg,hd⟩,ha⟩:=ha
 split at ha
 ·rename_i t p v ho
  have hev:∀ st2:St,(∀ t ∈ ck ops o,st.fr t=st2.fr t)→st2.ev S p=st.ev S p∧st2.ev S v=st.ev S v:=fun st2 hf=>by
   have:=dv (S:=S) hf
   rw [ho] at this
   exact ⟨(this p (by simp [Op.operands])).symm,(this v (by simp [Op.operands])).symm⟩
  unfold Ex fe at h
  rw [hg] at h
  simp only [jE,hd,ho,show ro S st.bx (st.ev S) (.store t p v)=none from rfl] at h
  obtain ⟨hcond,h⟩:=h
  simp only [dt] at h
  split at h
  ·rename_i id off w sz ag q1 q2 q3
   split at h
   ·rename_i cs hb
    refine ⟨id,_,_,hb,h.2.symm,fun st2 hf hb2 => ?_⟩
    obtain ⟨e1,e2⟩:=hev st2 hf
    unfold Ex fe
    rw [hg]
    simp only [jE,hd,ho,show ro S st2.bx (st2.ev S) (.store t p v)=none from rfl]
    refine ⟨?_, ?_⟩
    ·simpa only [Op.operands,List.map_cons,List.map_nil,e1,e2] using hcond
    ·simp only [dt,e1,e2,q1,q2,q3,hb2]
     exact ⟨h.1,rfl⟩
   ·exact h.elim
  ·rename_i id s i off w sz ag q1 q2 q3
   split at h
   ·rename_i e s' n f hb
    refine ⟨id,_,_,hb,h.2.symm,fun st2 hf hb2 => ?_⟩
    obtain ⟨e1,e2⟩:=hev st2 hf
    unfold Ex fe
    rw [hg]
    simp only [jE,hd,ho,show ro S st2.bx (st2.ev S) (.store t p v)=none from rfl]
    refine ⟨?_, ?_⟩
    ·simpa only [Op.operands,List.map_cons,List.map_nil,e1,e2] using hcond
    ·simp only [dt,e1,e2,q1,q2,q3,hb2]
     exact ⟨h.1,rfl⟩
   ·exact h.elim
  ·exact h.elim
 ·cases ha
theorem kQ {lb:Nat} {x y:Oper} (hi:sA ops x y=true) (w:dW lb st) (h1:Ex S ops st x s1) (h2:Ex S ops s1 y s2):∃ s3,Ex S ops st y s3∧Ex S ops s3 x s2:=by
 simp only [sA,Bool.and_eq_true] at hi
 obtain ⟨⟨hyx,hx⟩,hy⟩:=hi
 obtain ⟨id,b,b',hb,rfl,k1⟩:=HY hx h1
 obtain ⟨z,r,rfl,k2⟩:=FO hy h2
 have hid:id≠st.nx:=fun e=>by
  have:=w.1 id (by omega)
  rw [this] at hb;cases hb
 refine ⟨_,k2 st rfl rfl, ?_⟩
 have:=k1 ((st.newBox z).set y.dst r) (fun t ht=>by
  have:=gX (fr:=(st.newBox z).fr) (kf:=st.kf) (nx':=0) (bx':=st.bx) (bx:=(st.newBox z).bx) (nx:=(st.newBox z).nx) (d:=y.dst) (v:=r) hyx t ht
  exact this.symm) (by rw [dX];simp only [St.newBox];rw [if_neg hid];exact hb)
 have e:(((st.newBox z).set y.dst r).setBox id b')=((st.setBox id b').newBox z).set y.dst r:=by
  rw [ec,ec]
  simp only [St.setBox,St.newBox,St.mk.injEq,true_and,and_true]
  funext j
  by_cases c1:j=id
  ·subst c1;simp [hid]
  ·by_cases c2:j=st.nx
   ·subst c2;simp [c1]
   ·simp [c1,c2]
 rw [e] at this
 exact this
end
def mS (rcv:Nat→Bool) (ops:Array Oper) (m:Nat→Nat) (listed:Array Bool) (p:Nat):Bool :=
 match ops[p]? with
 | none=>false
 | some x=>(List.range ops.size).all fun i=>listed.getD i true || Nat.beq i p || ((m i).testBit p && Nat.blt p i) || (match ops[i]? with
  | some o=>rv rcv ops x o || pc rcv ops x o || sA ops x o
  | none=>false)
def nH (ops:Array Oper):Bool:=(List.range ops.size).all fun i=>match ops[i]? with
 | none=>false
 | some o=>o.after.all fun e => !Region.binds .any e || Nat.blt e.on i
section
variable {S:Env} {ops:Array Oper} {st:St}
theorem pk {listed:Array Bool} {i:Nat} (hi:i<listed.size) (k:Nat) (b:Bool):(listed.setIfInBounds i true).getD k b=if k=i then true else listed.getD k b:=by
 simp only [Array.getD_eq_getD_getElem?,Array.getElem?_setIfInBounds]
 by_cases hk:k=i
 ·subst hk;simp [hi]
 ·rw [if_neg (fun h=>hk h.symm),if_neg hk]
theorem xP (h:nH ops=true):∀ i o,ops[i]?=some o→∀ e ∈ o.after,Region.binds .any e=true→e.on<i:=fun i o ho e he hb=>by
 have hlt:i<ops.size:=by
  rcases Nat.lt_or_ge i ops.size with h|h
  ·exact h
  ·rw [Array.getElem?_eq_none h] at ho;cases ho
 have:=List.all_eq_true.1 h i (List.mem_range.2 hlt)
 rw [ho] at this
 obtain ⟨k,hk,rfl⟩:=Array.mem_iff_getElem.1 he
 have:=(Array.all_eq_true.1 this) k hk
 simp only [hb,Bool.not_true,Bool.false_or,Nat.blt] at this
 have:=Nat.le_of_ble_eq_true this
 omega
theorem gD {listed:Array Bool} {i:Nat} (hs:listed.size=ops.size) (h:i ∈ Region.ready .any ops listed):i<ops.size:=by
 obtain ⟨o,ho,_⟩:=(cC hs).1 h
 rcases Nat.lt_or_ge i ops.size with h|h
 ·exact h
 ·rw [Array.getElem?_eq_none h] at ho;cases ho
theorem wM {listed : Array Bool} {i : Nat} (hs : listed.size = ops.size) (hed : ∀ i o, ops[i]? = some o → ∀ e ∈ o.after, Region.binds .any e = true → e.on < i) (h : i ∈ Region.ready .any ops listed) {o : Oper} (ho : ops[i]? = some o) :
  ∀ e ∈ o.after,Region.binds .any e=true→jo listed e.on:=fun e he hb=>by
 have hlt:=gD hs h
 obtain ⟨o2,ho2,hl,hdep⟩:=(cC hs).1 h
 rw [ho] at ho2
 cases ho2
 have:=hdep e he hb
 have h2:=hed i o ho e he hb
 have hl2:e.on<listed.size:=by omega
 unfold jo
 rw [Array.getD,dif_pos hl2] at this ⊢
 exact this
theorem lE {listed:Array Bool} {i:Nat} (hs:listed.size=ops.size) (hed:∀ i o,ops[i]?=some o→∀ e ∈ o.after,Region.binds .any e=true→e.on<i) (hcl:gO ops listed) (h:i ∈ Region.ready .any ops listed):gO ops (listed.setIfInBounds i true):=fun k x hx hin e he hb=>by
 have hlt:=gD hs h
 unfold jo at hin ⊢
 rw [pk (by omega)] at hin ⊢
 by_cases hek:e.on=i
 ·rw [if_pos hek]
 ·rw [if_neg hek]
  by_cases hki:k=i
  ·subst hki
   exact wM hs hed h hx e he hb
  ·rw [if_neg hki] at hin
   exact hcl k x hx hin e he hb
theorem wW {m : Nat → Nat} {listed : Array Bool} {i p : Nat} (hm : cU ops m = true) (hs : listed.size = ops.size) (hed : ∀ i o, ops[i]? = some o → ∀ e ∈ o.after, Region.binds .any e = true → e.on < i) (hcl : gO ops listed)
  (hpi:p<i) (hb:(m i).testBit p=true) (hp:listed.getD p true=false):¬ i ∈ Region.ready .any ops listed:=fun h=>by
 have hlt:=gD hs h
 obtain ⟨o,ho,_⟩:=(cC hs).1 h
 have hdep:=wM hs hed h ho
 have h3:=List.all_eq_true.1 hm i (List.mem_range.2 hlt)
 rw [ho] at h3
 have h4:=List.all_eq_true.1 h3 p (List.mem_range.2 hpi)
 simp only [hb,Bool.not_true,Bool.false_or] at h4
 obtain ⟨k,hk',hh⟩:=Array.any_eq_true.1 h4
 simp only [Bool.and_eq_true,Bool.or_eq_true,Nat.beq_eq] at hh
 have hin:=hdep _ (Array.getElem_mem hk') hh.1
 have hle:=hed i o ho _ (Array.getElem_mem hk') hh.1
 have:jo listed p:=by
  rcases hh.2 with q|q
  ·rw [← q];exact hin
  ·exact tT hm hcl hed (fun _ _ _=>trivial) (i+1) _ (by omega) hin (by omega) p (by have:=q.2;simp [Nat.blt] at this;omega) q.1
 unfold jo at this
 rw [this] at hp
 cases hp
theorem zQ {rcv:Nat→Bool} {m:Nat→Nat} {listed:Array Bool} {i p:Nat} (hi:i<listed.size) (h:mS rcv ops m listed p=true):mS rcv ops m (listed.setIfInBounds i true) p=true:=by
 unfold mS at h ⊢
 split at h
 ·cases h
 ·refine List.all_eq_true.2 fun k hk => ?_
  have:=List.all_eq_true.1 h k hk
  simp only [Bool.or_eq_true] at this ⊢
  rw [pk hi]
  rcases this with ((h1|h1)|h1)|h1
  ·refine .inl (.inl (.inl ?_));split
   ·rfl
   ·exact h1
  ·exact .inl (.inl (.inr h1))
  ·exact .inl (.inr h1)
  ·exact .inr h1
theorem jB {listed:Array Bool} {i k:Nat} (hs:listed.size=ops.size) (hi:i<listed.size) (hk:k ∈ Region.ready .any ops listed) (hne:k≠i):k ∈ Region.ready .any ops (listed.setIfInBounds i true):=by
 obtain ⟨o,ho,hl,hdep⟩:=(cC hs).1 hk
 refine (cC (by simpa using hs)).2 ⟨o,ho,by rw [pk hi,if_neg hne];exact hl,fun e he hb => ?_⟩
 rw [pk hi]
 split
 ·rfl
 ·exact hdep e he hb
theorem zP {listed:Array Bool} {i k:Nat}:(listed.setIfInBounds i true).setIfInBounds k true=(listed.setIfInBounds k true).setIfInBounds i true:=by
 apply Array.ext_getElem?
 intro j
 simp only [Array.getElem?_setIfInBounds,Array.size_setIfInBounds]
 repeat' split
 all_goals first|rfl|omega|(simp_all;done)
theorem zw {m : Nat → Nat} {x : Oper} {p : Nat} (hm : cU ops m = true) (hed : ∀ i o, ops[i]? = some o → ∀ e ∈ o.after, Region.binds .any e = true → e.on < i) (hx : ops[p]? = some x) {K : St → Prop} : ∀ (fuel : Nat) (listed : Array Bool) (st : St),
  listed.size=ops.size→gO ops listed→mS S.rcv ops m listed p=true→p ∈ Region.ready .any ops listed→dW 0 st→(∃ s,Ex S ops st x s∧iQ S ops fuel (listed.setIfInBounds p true) s K)→iQ S ops (fuel+1) listed st K:=by
 intro fuel
 induction fuel with
 | zero =>
  intro listed st hs hcl hp hr hw ⟨s,h1,h2⟩
  have hplt:=gD hs hr
  refine ⟨fun hno=>(by rw [hno] at hr;cases hr),fun i hi => ?_⟩
  by_cases e:i=p
  ·subst e;rw [hx];exact kF h1 h2
  ·have:=jB hs (by omega) hi e
   rw [h2.1] at this;cases this
 | succ f ih =>
  intro listed st hs hcl hp hr hw ⟨s,h1,h2⟩
  have hplt:=gD hs hr
  obtain ⟨_,_,hpl,_⟩:=(cC hs).1 hr
  refine ⟨fun hno=>(by rw [hno] at hr;cases hr),fun i hi => ?_⟩
  by_cases e:i=p
  ·subst e;rw [hx];exact kF h1 h2
  obtain ⟨o,ho,hl,hdep⟩:=(cC hs).1 hi
  have hlt:=gD hs hi
  rw [ho]
  have h3:=h2.2 i (jB hs (by omega) hi e)
  rw [ho] at h3
  obtain ⟨s2,h4,h5⟩:=nX h3
  have hsw:∃ s3,Ex S ops st o s3∧Ex S ops s3 x s2:=by
   have hq:=hp
   unfold mS at hq
   rw [hx] at hq
   have hq:=List.all_eq_true.1 hq i (List.mem_range.2 hlt)
   rw [ho] at hq
   simp only [Bool.or_eq_true,Nat.beq_eq,Bool.and_eq_true] at hq
   rcases hq with ((q|q)|q)|q
   ·rw [q] at hl;cases hl
   ·exact absurd q e
   ·exact absurd hi (wW hm hs hed hcl (by have:=q.2;simp [Nat.blt] at this;omega) q.1 hpl)
   ·rcases q with (q|q)|q
    ·exact sm q h1 h4
    ·exact iY q hw h1 h4
    ·exact kQ q hw h1 h4
  obtain ⟨s3,h6,h7⟩:=hsw
  refine kF h6 ?_
  refine ih _ s3 (by simpa using hs) (lE hs hed hcl hi) (zQ (by omega) hp) (jB hs (by omega) hr (fun h=>e h.symm)) (ri h6 hw) ⟨s2,h7, ?_⟩
  rw [zP];exact h5
end
def Aq (rcv:Nat→Bool) (ops:Array Oper) (m:Nat→Nat) (listed:Array Bool):Tr→Bool
 | .leaf=>Region.ready .any ops listed == []
 | .nil=>false
 | .br i t r=>Region.ready .any ops listed == dG (.br i t r) || (dG r == [] && (Region.ready .any ops listed).contains i && mS rcv ops m listed i)
def En (rcv:Nat→Bool) (ops:Array Oper) (m:Nat→Nat):Array Bool→Tr→Bool
 | _, .leaf=>true
 | _, .nil=>true
 | listed, .br i t r=>Nat.blt i ops.size && Aq rcv ops m (listed.setIfInBounds i true) t && En rcv ops m (listed.setIfInBounds i true) t && En rcv ops m listed r
section
variable {S:Env} {l:List Oper} {m:Nat→Nat}
theorem uK {t:Tr} {listed:Array Bool} (hn:Aq S.rcv l.toArray m listed t=true):∀ i ∈ dG t,i ∈ Region.ready .any l.toArray listed:=by
 cases t with
 | leaf=>intro i hi;cases hi
 | nil=>cases hn
 | br k t r =>
  intro i hi
  simp only [Aq,Bool.or_eq_true,Bool.and_eq_true,beq_iff_eq] at hn
  rcases hn with hn|hn
  ·rw [hn];exact hi
  ·obtain ⟨⟨h1,h2⟩,_⟩:=hn
   rw [dG,h1,List.mem_singleton] at hi
   subst hi
   exact List.contains_iff_mem.1 h2
theorem uO (hm : cU l.toArray m = true) (hf : nH l.toArray = true) {t : Tr} {listed : Array Bool} {fuel : Nat} {st : St} {K : St → Prop} (hs : listed.size = l.toArray.size) (hcl : gO l.toArray listed) (hw : dW 0 st)
  (hn:Aq S.rcv l.toArray m listed t=true) (h:eK S l.toArray l t st K) (hd:gp t≤fuel)
  (hal : ∀ f, fuel = f + 1 → ∀ i ∈ dG t, match l.toArray[i]? with
    | some o=>fe S l.toArray st o fun st'=>iQ S l.toArray f (listed.setIfInBounds i true) st' K
    | none=>iQ S l.toArray f (listed.setIfInBounds i true) st K):iQ S l.toArray fuel listed st K:=by
 have hsub:=uK hn
 cases t with
 | leaf =>
  have hr:Region.ready .any l.toArray listed=[]:=by simpa [Aq] using hn
  cases fuel with
  | zero=>exact ⟨hr,h⟩
  | succ f=>exact ⟨fun _=>h,fun i hi=>by rw [hr] at hi;cases hi⟩
 | nil=>cases hn
 | br i t r =>
  cases fuel with
  | zero=>simp [gp] at hd
  | succ f =>
   have hi:i ∈ Region.ready .any l.toArray listed:=hsub i (by rw [dG];exact List.mem_cons_self ..)
   simp only [Aq,Bool.or_eq_true,Bool.and_eq_true,beq_iff_eq] at hn
   rcases hn with hn|hn
   ·exact ⟨fun h0=>by (rw [h0] at hi;cases hi),fun j hj=>hal f rfl j (by rw [← hn];exact hj)⟩
   ·have:=hal f rfl i (by rw [dG];exact List.mem_cons_self ..)
    obtain ⟨o,ho,_⟩:=(cC hs).1 hi
    rw [ho] at this
    exact zw hm (xP hf) ho f listed st hs hcl hn.2 hi hw (nX this)
theorem od (hm : cU l.toArray m = true) (hf : nH l.toArray = true) {K : St → Prop} : ∀ (t : Tr) (listed : Array Bool) (fuel : Nat) (st : St), listed.size = l.toArray.size → gO l.toArray listed → dW 0 st → (∀ i ∈ dG t, i ∈ Region.ready .any l.toArray listed) →
  En S.rcv l.toArray m listed t = true → eK S l.toArray l t st K → gp t ≤ fuel + 1 → ∀ i ∈ dG t, match l.toArray[i]? with
    | some o=>fe S l.toArray st o fun st'=>iQ S l.toArray fuel (listed.setIfInBounds i true) st' K
    | none=>iQ S l.toArray fuel (listed.setIfInBounds i true) st K
 | .leaf,_,_,_,_,_,_,_,_,_,_,i,hi=>by cases hi
 | .nil,_,_,_,_,_,_,_,_,_,_,i,hi=>by cases hi
 | .br k t r,listed,fuel,st,hs,hcl,hw,hsub,hok,h,hd,i,hi=>by
  have hkr:k ∈ Region.ready .any l.toArray listed:=hsub k (by rw [dG];exact List.mem_cons_self ..)
  simp only [En,Bool.and_eq_true] at hok
  obtain ⟨⟨⟨hk,hn⟩,ht⟩,hr⟩:=hok
  simp only [gp] at hd
  rcases List.mem_cons.1 hi with rfl|hi
  ·have hlt:i<l.toArray.size:=by simp [Nat.blt] at hk ⊢;omega
   have hget:l.toArray[i]?=some (l.getD i default):=by
    have hlt2:i<l.length:=by simpa using hlt
    rw [List.getElem?_toArray,List.getD_eq_getElem?_getD,List.getElem?_eq_getElem hlt2];rfl
   rw [hget]
   obtain ⟨s,h1,h2⟩:=nX h.1
   refine kF h1 ?_
   have hs2:(listed.setIfInBounds i true).size=l.toArray.size:=by simpa using hs
   have hcl2:=lE hs (xP hf) hcl hkr
   exact uO hm hf hs2 hcl2 (ri h1 hw) hn h2 (by omega) fun f hf2 j hj=>od hm hf t _ f s hs2 hcl2 (ri h1 hw) (uK hn) ht h2 (by omega) j hj
  ·exact od hm hf r listed fuel st hs hcl hw (fun j hj=>hsub j (by rw [dG];exact List.mem_cons_of_mem _ hj)) hr h.2 (by omega) i hi
theorem Bj {t : Tr} {st : St} {K : St → Prop} (hok : (nH l.toArray && cU l.toArray m && Aq S.rcv l.toArray m (Array.replicate l.toArray.size false) t && En S.rcv l.toArray m (Array.replicate l.toArray.size false) t && Nat.ble (gp t) l.toArray.size) = true) (hw : dW 0 st) (h : eK S l.toArray l t st K) :
  iQ S l.toArray l.toArray.size (Array.replicate l.toArray.size false) st K:=by
 simp only [Bool.and_eq_true] at hok
 obtain ⟨⟨⟨⟨hf,hm⟩,h1⟩,h2⟩,h3⟩:=hok
 have h3:=Nat.le_of_ble_eq_true h3
 have hs:(Array.replicate l.toArray.size false).size=l.toArray.size:=by simp
 have hcl:gO l.toArray (Array.replicate l.toArray.size false):=fun i o ho hi=>by
  exfalso
  have hlt:i<l.toArray.size:=by
   rcases Nat.lt_or_ge i l.toArray.size with h|h
   ·exact h
   ·rw [Array.getElem?_eq_none h] at ho;cases ho
  unfold jo at hi
  simp only [Array.getD_eq_getD_getElem?,Array.getElem?_replicate,if_pos hlt] at hi
  cases hi
 exact uO hm hf hs hcl hw h1 h h3 fun f hf2 i hi=>od hm hf t _ f st hs hcl hw (uK h1) h2 h (by omega) i hi
theorem dN {id : Nat} {y : Code} {Q : AExit → St → Prop} {st : St} (t : Tr)
  (hok:(nH l.toArray && cU l.toArray (fun i=>(Region.before l.toArray).getD i 0) && Aq S.rcv l.toArray (fun i=>(Region.before l.toArray).getD i 0) (Array.replicate l.toArray.size false) t && En S.rcv l.toArray (fun i=>(Region.before l.toArray).getD i 0) (Array.replicate l.toArray.size false) t && Nat.ble (gp t) l.toArray.size)=true)
  (hw:dW 0 st) (h:∀ K:St→Prop,(∀ s s',Le s s'→cw S y Q s'→K s)→eK S l.toArray l t st K):cw S (.seq (.region id l.toArray true) y) Q st:=by
 refine dC (S:=S) (.region id l.toArray true) (Q:=hC (fun st=>Wk (cw S y Q) st∨cw S y Q st) Q) (fun _ _ h=>h) ?_
 simp only [cw,if_pos]
 exact Bj hok hw (h _ fun s s' hl hs => .inl ⟨s',hl,hs⟩)
end
theorem bq {S:Env} {ops:Array Oper} {L:List Oper} {i:Nat} {t r:Tr} {st:St} {K:St→Prop} (h:∀ K':St→Prop,(∀ s,eK S ops L t s K→K' s)→aY S ops [L.getD i default] st K') (hr:eK S ops L r st K):eK S ops L (.br i t r) st K :=
 ⟨h _ (fun _ h=>h),hr⟩
theorem aV {S:Env} {ops:Array Oper} {L:List Oper} {st:St} {K:St→Prop} (h:K st):eK S ops L .leaf st K:=h
theorem ba {S:Env} {ops:Array Oper} {L:List Oper} {st:St} {K:St→Prop}:eK S ops L .nil st K:=trivial
end Go.SL
namespace Go.SL
open Go
def Fe (ok:Nat→Prop) (w w':World) (v:Value) (b:Nat):Prop:=FL ok w w' b∧mb v≠some b
def kR (S:Env) (f:FuncId) (args:List BV) (cs:List (Option PV)) (k e sz n:Nat) (g:Nat→Nat→PV):Prop :=
 AZ S f∧∀ (ok:Nat→Prop) (w:World) (vs:Array Value),(∀ b,ok b→b<w.heap.size)→lM S ok w →
  vs.size=args.length→(∀ j,bT bR ok w (args.getD j .any) (vs.getD j undef)) →
  Calls S.P f vs w fun ex w'=>∃ (us:Array Value) (xs:List Value),ex = .returned (.agg us)∧RowKit.Below w.heap.size w w'∧0<sz∧w'.ownsRow w.heap.size e sz (us.getD k undef) n xs∧(∀ x ∈ xs,x.oneCell'=true) ∧
   (∀ i,i<n→∀ j,j<sz→bp (Fe ok w w' (us.getD k undef)) w' (g i j) (xs.getD (i * sz+j) undef))∧us.size=cs.length∧(∀ j,j<us.size→(us.getD j undef).oneCell'=true) ∧
   ∀ j y,cs[j]?=some (some y)→bp (Fe ok w w' (us.getD k undef)) w' y (us.getD j undef)
def sP:List (Option PV)→Bool
 | []=>true
 | some _ :: l=>sP l
 | none :: _=>false
def qS:Nat→List (Option PV)→Bool
 | _,[]=>true
 | 0,_ :: l=>sP l
 | k+1,some _ :: l=>qS k l
 | _+1,none :: _=>false
theorem rC:∀ {l:List (Option PV)},sP l=true→∀ j:Nat,l[j]?≠some none
 | [],_,j=>by simp
 | some x :: l,h,0=>by simp
 | some x :: l,h,j+1=>by simpa using rC (l:=l) h j
 | none :: l,h,_=>by cases h
theorem wZ:∀ {k:Nat} {l:List (Option PV)},qS k l=true→∀ j:Nat,l[j]?=some none→j=k
 | _,[],_,j,h=>by simp at h
 | 0,x :: l,h,0,_=>rfl
 | 0,x :: l,h,j+1,h2=>absurd (by simpa using h2) (rC (l:=l) h j)
 | k+1,some x :: l,h,0,h2=>by simp at h2
 | k+1,some x :: l,h,j+1,h2=>by
  have:=wZ (k:=k) (l:=l) h j (by simpa using h2)
  omega
 | k+1,none :: l,h,_,_=>by cases h
def Dl (x:CV):Option PV→CV
 | some y => .p y
 | none=>x
def ig (x:CV) (cs:List (Option PV)):List CV:=cs.map (Dl x)
theorem DO {x:CV} {cs:List (Option PV)} {j:Nat} {y:Option PV} (h:cs[j]?=some y):(ig x cs).getD j .any=Dl x y:=by
 simp [ig,List.getD_eq_getElem?_getD,h]
theorem sN {ρ : fO} {ok : Nat → Prop} {w : World} {x : CV} {cs : List (Option PV)} {us : Array Value} {k : Nat} (ho : qS k cs = true) (hs : us.size = cs.length) (h1 : ∀ j, j < us.size → (us.getD j undef).oneCell' = true)
  (hx:cd ρ ok w x (us.getD k undef)) (hc:∀ j y,cs[j]?=some (some y)→bp ok w y (us.getD j undef)):bT ρ ok w (.agg (ig x cs)) (.agg us):=by
 refine ⟨us,rfl,by simp [ig,hs],h1,fun j => ?_⟩
 cases hj:cs[j]? with
 | none =>
  rw [List.getD_eq_getElem?_getD,show (ig x cs)[j]?=none by simp [ig,hj]]
  trivial
 | some y =>
  rw [DO hj]
  cases y with
  | none=>rw [wZ ho j hj];exact hx
  | some y=>exact hc j y hj
theorem HD {S : Env} {f : FuncId} {args : List BV} {cs : List (Option PV)} {k e sz n : Nat} {g : Nat → Nat → PV} (h : kR S f args cs k e sz n g) (hl : ∀ x ∈ args, BV.lt 0 x) (ho : qS k cs = true) (bx : Nat → Option Bx) (nx : Nat) :
  iV S bx nx f args (.b (.agg (ig (.own nx n) cs))) (aB nx (.arr e sz n g) bx) (nx+1):=by
 refine ⟨h.1,fun E st ρ a w vs hbx hnx G hsz hden => ?_⟩
 subst hbx
 subst hnx
 have hgl:lM S (bC E st.bx ρ w) w:=fun k n f hg=>G.glb k n f hg
 refine (h.2 (bC E st.bx ρ w) w vs (fun b hb=>hb.1) hgl hsz fun j => ?_).mono fun ex w' ⟨us,xs,he,hB,h0,hown,hone,hd,hs,h1,hc⟩ => ?_
 ·by_cases hj:j<args.length
  ·refine fh (hl _ ?_) (hden j)
   rw [List.getD_eq_getElem?_getD,List.getElem?_eq_getElem hj];exact List.getElem_mem hj
  ·rw [List.getD_eq_getElem?_getD,List.getElem?_eq_none (by omega)];trivial
 ·have hown0:w'.ownsRow 0 e sz (us.getD k undef) n xs:=⟨hown.1,by
   rcases hown.2 with h|⟨b,cap,cur,e1,e2,e3⟩
   ·exact .inl h
   ·exact .inr ⟨b,cap,cur,e1,Nat.zero_le _,e3⟩⟩
  have hge:∀ b,mb (us.getD k undef)=some b→w.heap.size≤b:=fun b hb=>by
   rcases hown.2 with ⟨e1,_⟩|⟨b2,cap,cur,e1,e2,_⟩
   ·rw [e1] at hb;cases hb
   ·rw [e1] at hb;simp only [mb,Option.some.injEq] at hb;omega
  have hkx:∀ ok',fF (bC E st.bx ρ w) ok' w w'→(∀ b,w.heap.size≤b→b<w'.heap.size→mb (us.getD k undef)≠some b→ok' b)→∀ b,Fe (bC E st.bx ρ w) w w' (us.getD k undef) b→ok' b:=fun ok' q1 q2 b hb=>by
   rcases Nat.lt_or_ge b w.heap.size with hlt|hge
   ·exact (q1 b (hb.1.2 hlt)).1
   ·exact q2 b hge hb.1.1 hb.2
  have g':=G.newBoxN hB (.arr e sz n g) (us.getD k undef) trivial (fun b hb=>⟨hge b hb,yd hown0 hb⟩)
   (fun ok' q1 q2=>⟨h0,xs,hown0,hone,fun i hi j hj=>bp.mono (fun b hb=>⟨hkx ok' q1 q2 b hb,fun _=>rfl⟩) (hd i hi j hj)⟩)
  have hkA:∀ b,Fe (bC E st.bx ρ w) w w' (us.getD k undef) b→bC E (st.newBox (.arr e sz n g)).bx (ρ.upd st.nx (us.getD k undef)) w' b:=fun b hb=>by
   refine ⟨hb.1.1,fun q => ?_,fun id hid => ?_⟩
   ·have:=G.frm.size
    exact (hb.1.2 (by omega)).2.1 q
   ·by_cases he:id=st.nx
    ·subst he
     simp only [fO.upd,if_true]
     exact hb.2
    ·simp only [St.newBox,he,if_false] at hid
     simp only [fO.upd,he,if_false]
     cases hq:st.bx id with
     | none=>exact absurd hq hid
     | some y =>
      intro hbk
      have hlt:=(G.new id y b hq hbk).1
      exact (hb.1.2 hlt).2.2 id hid hbk
  refine ⟨.agg us,ρ.upd st.nx (us.getD k undef),he, ?_, ?_,g'⟩
  ·refine sN ho hs h1 ?_ fun j y hj=>bp.mono (fun b hb=>⟨hkA b hb,fun _=>rfl⟩) (hc j y hj)
   exact sr hown0 st ρ (bC E (st.newBox (.arr e sz n g)).bx (ρ.upd st.nx (us.getD k undef)) w') w'
  ·intro c hc
   obtain ⟨y,_,rfl⟩:=List.mem_map.1 hc
   cases y with
   | none=>exact Nat.lt_succ_self _
   | some y=>trivial
theorem DR {S:Env} {f:FuncId} {args:List BV} {cs:List (Option PV)} {k e sz n:Nat} {g:Nat→Nat→PV} (h:kR S f args cs k e sz n g) (ho:qS k cs=true):aC S f args fun r=>r = .b (.agg (ig (.p (.lst sz n g)) cs)) :=
 ⟨h.1,fun ok w vs h1 h2 h3 h4=>(h.2 ok w vs h1 h2 h3 h4).mono fun ex w' ⟨us,xs,he,hB,h0,hown,hone,hd,hs,h1,hc⟩=>by
  refine ⟨.agg us,_,he,rfl, ?_,hB, ?_⟩
  ·intro c hc
   obtain ⟨y,_,rfl⟩:=List.mem_map.1 hc
   cases y <;> trivial
  ·refine sN ho hs h1 ?_ fun j y hj=>bp.mono (fun b hb=>⟨hb.1,fun _=>rfl⟩) (hc j y hj)
   rcases hown.2 with ⟨e1,e2⟩|⟨b,cap,cur,hv,hge,hh,hnc,_,hcs,htk⟩
   ·rw [e1]
    exact ⟨none,0,by rw [e2],by omega,fun h=>by omega⟩
   ·rw [hv]
    refine ⟨_,cap,rfl,hnc,fun _=>⟨b,0,rfl,⟨bY hh,fun q=>by omega⟩,fun i hi j hj => ?_⟩⟩
    have hlt:i * sz+j<n * sz:=dR hi hj
    have hlt2:i * sz+j<cur.size:=by rw [hcs];exact Nat.lt_of_lt_of_le hlt (Nat.mul_le_mul_right _ hnc)
    have hlx:i * sz+j<xs.length:=by rw [hown.1];exact hlt
    have hxe:xs.getD (i * sz+j) undef=cur.getD (i * sz+j) undef:=by
     rw [← htk];simp [List.getElem?_take,hlt]
    refine ⟨cur.getD (i * sz+j) undef,by rw [Nat.zero_add];exact bS hh hlt2, ?_, ?_⟩
    ·rw [← hxe,List.getD_eq_getElem?_getD,List.getElem?_eq_getElem hlx]
     exact hone _ (List.getElem_mem hlx)
    ·rw [← hxe]
     exact bp.mono (fun b hb=>⟨hb.1,fun _=>rfl⟩) (hd i hi j hj)⟩
def Cj (bx:Nat→Option Bx) (e sz n:Nat) (g:Nat→Nat→PV):CV→Prop
 | .own id n'=>∃ f,bx id=some (.arr e sz n f)∧n'=n∧0<sz∧∀ i,i<n→∀ j,j<sz→PV.le (f i j) (g i j)
 | .p x=>x = .val (.slice none 0 0)∧n=0∧0<sz
 | _=>False
def Aj:CV→Option Nat
 | .own id _=>some id
 | _=>none
def tN (d:Option Nat):CV→Prop
 | .own id _=>d≠some id
 | _=>True
def Rh:CV→PV→Prop
 | .p z,y=>z=y∨PV.le z y
 | _,_=>False
def pF (bx:Nat→Option Bx) (d:Option Nat):List CV→List (Option PV)→Prop
 | [],[]=>True
 | _ :: l,none :: r=>pF bx d l r
 | x :: l,some y :: r=>Rh (ef bx x) y∧tN d x∧pF bx d l r
 | _,_=>False
def ub (S:Env) (rs:List ResultVar) (cs:List (Option PV)) (k e sz n:Nat) (g:Nat→Nat→PV) (st:St):Prop :=
 match jj S st rs with
 | some (p,[.agg xs])=>p∧Cj st.bx e sz n g (xs.getD k .any)∧pF st.bx (Aj (xs.getD k .any)) xs cs
 | _=>False
def FK (S:Env) (rs:List ResultVar) (cs:List (Option PV)) (k e sz n:Nat) (g:Nat→Nat→PV):AExit→St→Prop
 | .ret,st=>ub S rs cs k e sz n g st
 | .normal,st=>ub S rs cs k e sz n g st
 | _,_=>False
theorem DE {S:Env} {rs:List ResultVar} {cs:List (Option PV)} {k e sz n:Nat} {g:Nat→Nat→PV} {st:St}:FK S rs cs k e sz n g .ret st=ub S rs cs k e sz n g st:=rfl
theorem yf {S:Env} {rs:List ResultVar} {cs:List (Option PV)} {k e sz n:Nat} {g:Nat→Nat→PV} {st:St}:FK S rs cs k e sz n g .normal st=ub S rs cs k e sz n g st:=rfl
theorem Qr {z y:PV}:Rh (.p z) y=(z=y∨PV.le z y):=rfl
theorem Ec {bx:Nat→Option Bx} {d:Option Nat}:pF bx d [] []=True:=rfl
theorem ue {bx:Nat→Option Bx} {d:Option Nat} {x:CV} {l:List CV} {r:List (Option PV)}:pF bx d (x :: l) (none :: r)=pF bx d l r:=by cases x <;> rfl
theorem vb {bx:Nat→Option Bx} {d:Option Nat} {x:CV} {l:List CV} {y:PV} {r:List (Option PV)}:pF bx d (x :: l) (some y :: r)=(Rh (ef bx x) y∧tN d x∧pF bx d l r):=by cases x <;> rfl
theorem sY {bx:Nat→Option Bx} {d:Option Nat}:∀ {l:List CV} {r:List (Option PV)},pF bx d l r→l.length=r.length∧∀ (j:Nat) y,r[j]?=some (some y)→Rh (ef bx (l.getD j .any)) y∧tN d (l.getD j .any)
 | [],[],_=>⟨rfl,fun j y h=>by simp at h⟩
 | x :: l,none :: r,h=>by
  rw [ue] at h
  obtain ⟨q1,q2⟩:=sY h
  refine ⟨by simp [q1],fun j y hj => ?_⟩
  cases j with
  | zero=>simp at hj
  | succ j=>exact q2 j y (by simpa using hj)
 | x :: l,some z :: r,h=>by
  rw [vb] at h
  obtain ⟨h1,h2,h3⟩:=h
  obtain ⟨q1,q2⟩:=sY h3
  refine ⟨by simp [q1],fun j y hj => ?_⟩
  cases j with
  | zero =>
   have:z=y:=by simpa using hj
   subst this
   exact ⟨h1,h2⟩
  | succ j=>exact q2 j y (by simpa using hj)
 | [],none :: r,h=>by cases h
 | [],some _ :: r,h=>by cases h
 | x :: l,[],h=>by cases x <;> cases h
section
variable {S:Env} {E:Ent} {st:St} {ρ:fO} {a:Act} {w:World}
theorem AL {x : CV} {u v : Value} {d : Option Nat} (g : Gam S E st ρ a w) (hrx : E.rx = none) (hd : ∀ id, d = some id → ρ id = v ∧ st.bx id ≠ none) (hdn : d = none → mb v = none) (hx : tN d x) (hw : E.w0.heap.size ≤ w.heap.size)
  (h:cd ρ (bC E st.bx ρ w) w x u) {y:PV} (hy:Rh (ef st.bx x) y):bp (Fe E.ok0 E.w0 w v) w y u:=by
 have hA:∀ b,bC E st.bx ρ w b→Fe E.ok0 E.w0 w v b:=fun b hb=>⟨⟨hb.1,hb.2.1⟩,fun hv=>by
  cases hq:d with
  | none=>rw [hdn hq] at hv;cases hv
  | some id =>
   obtain ⟨q1,q2⟩:=hd id hq
   exact hb.2.2 id q2 (by rw [q1];exact hv)⟩
 have hk:fF (bC E st.bx ρ w) (Fe E.ok0 E.w0 w v) w w:=fun b hb=>⟨hA b hb,fun _=>rfl⟩
 have fin:∀ z:PV,(z=y∨PV.le z y)→bp (Fe E.ok0 E.w0 w v) w z u→bp (Fe E.ok0 E.w0 w v) w y u:=fun z hz hu=>by
  rcases hz with rfl|hz
  ·exact hu
  ·exact hz _ _ _ hu
 cases x with
 | p x=>exact fin _ hy (bp.mono hk h)
 | ptr id off=>exact hy.elim
 | pel id sz i off=>exact hy.elim
 | ipt sz g off=>exact hy.elim
 | clo f ps=>exact hy.elim
 | sub id sz lo n=>exact hy.elim
 | own id n =>
  unfold ef at hy
  split at hy
  ·rename_i id n e
   cases e
   split at hy
   ·rename_i e sz n' f hb
    split at hy
    ·rename_i hn
     refine fin _ hy ?_
     obtain ⟨A,m,c,hr,h1,h2,h3,hu⟩:=h
     obtain ⟨h0,xs,hown,hone,hd2⟩:=g.bxs id _ hb
     refine ⟨A,c,hu,by omega,fun hpos => ?_⟩
     rcases hown.2 with ⟨e1,e2⟩|⟨gb,cap,cur,hv,_,hh,hnc,_,hcs,htk⟩
     ·omega
     ·rw [hr] at hv
      simp only [Value.slice.injEq] at hv
      obtain ⟨rfl,rfl,rfl⟩:=hv
      have hgb:mb (ρ id)=some gb:=by rw [hr];rfl
      have hge:E.w0.heap.size≤gb:=by
       rcases (g.new id _ gb hb hgb).2 with h|⟨_,_,_,h,_⟩
       ·exact h
       ·cases h
      refine ⟨gb,0,rfl,⟨⟨bY hh,fun q=>by omega⟩,fun hv => ?_⟩,fun i hi j hj => ?_⟩
      ·cases hq:d with
       | none=>rw [hdn hq] at hv;cases hv
       | some id2 =>
        obtain ⟨q1,q2⟩:=hd id2 hq
        have:=g.inj id id2 gb (by rw [hb];simp) q2 hgb (by rw [q1];exact hv)
        subst this
        exact hx hq
      have hlt:i * sz+j<m * sz:=dR (by omega) hj
      have hlt2:i * sz+j<cur.size:=by rw [hcs];exact Nat.lt_of_lt_of_le hlt (Nat.mul_le_mul_right _ hnc)
      have hlx:i * sz+j<xs.length:=by rw [hown.1];exact hlt
      have hxe:xs.getD (i * sz+j) undef=cur.getD (i * sz+j) undef:=by
       rw [← htk];simp [List.getElem?_take,hlt]
      refine ⟨cur.getD (i * sz+j) undef,by rw [Nat.zero_add];exact bS hh hlt2, ?_, ?_⟩
      ·rw [← hxe,List.getD_eq_getElem?_getD,List.getElem?_eq_getElem hlx]
       exact hone _ (List.getElem_mem hlx)
      ·rw [← hxe]
       exact bp.mono hk (hd2 i (by omega) j hj)
    ·exact hy.elim
   ·exact hy.elim
  ·rename_i h;exact absurd rfl (h id n)
end
theorem Cc {S : Env} {f : FuncId} {fn : Func} {c : Code} {rs : List ResultVar} {args : List BV} {cs : List (Option PV)} {k e sz n : Nat} {g : Nat → Nat → PV} (hf : S.P.funcs[f]? = some fn) (hb : fn.body = some c) (hrs : fn.results.toList = rs) (hname : (fn.name == "runtime.NumGoroutine") = false)
  (hm:S.P.follows .mixedOrders=true) (hN:cZ fn.ntmps c=true) (hlen:args.length≤fn.ntmps) (hl:∀ x ∈ args,BV.lt 0 x) (h:cw S c (FK S rs cs k e sz n g) (xE args)):kR S f args cs k e sz n g:=by
 subst hrs
 refine ⟨⟨fn,hf,hname,by rw [hb];rfl⟩,fun ok w vs hok hgl hsz hden => ?_⟩
 refine calls_of_wp hf hb ?_
 let E:Ent := { w0:=w,ok0:=ok,rx:=none,N:=fn.ntmps }
 have hokA:∀ b,ok b→bC E (fun _=>none) bR w b:=fun b hb=>⟨hok b hb,fun _=>hb,fun _ h=>absurd rfl h⟩
 have hk:fF ok (bC E (fun _=>none) bR w) w w:=fun b hb=>⟨hokA b hb,fun _=>rfl⟩
 have g0:Gam S E (xE args) bR { tmps:=vs ++ Array.replicate (fn.ntmps - vs.size) undef,defers:=[] } w:=by
  refine ⟨rfl,by simp [E];omega,⟨rfl,rfl,rfl,Nat.le_refl _,fun _ _ _=>rfl,fun _ _ _ h=>(by cases h)⟩,fun s => ?_,fun _ _ h=>(by cases h),fun _ _ h=>(by cases h),fun _ _ _ h=>(by cases h),fun _ _ _ h=>absurd rfl h,
   fun _ _ _ h=>(by cases h),fun s => ?_,fun gg n f hg => ?_,fun s=>⟨trivial,trivial⟩⟩
  ·simp only [xE,cD]
   split
   ·rename_i hs
    refine hl _ ?_
    rw [List.getD_eq_getElem?_getD,List.getElem?_eq_getElem (by omega)];exact List.getElem_mem _
   ·trivial
  ·simp only [xE,cD]
   split
   ·rename_i hs
    have e:(vs ++ Array.replicate (fn.ntmps - vs.size) undef).getD s undef=vs.getD s undef:=by
     have:s<vs.size:=by omega
     simp [this]
     rw [Array.getElem?_append_left this]
     simp [this]
    rw [e]
    exact bT.mono (nx:=0) hk (fun _ _=>rfl) (hl _ (by rw [List.getD_eq_getElem?_getD,List.getElem?_eq_getElem (by omega)];exact List.getElem_mem _)) (hden (s - 0))
   ·trivial
  ·obtain ⟨h1,h2⟩:=hgl gg n f hg
   refine ⟨hokA gg h1,fun j hj => ?_⟩
   obtain ⟨x,hx,h3,hd⟩:=h2 j hj
   exact ⟨x,hx,h3,bp.mono hk hd⟩
 have fin : ∀ {a' : Act} {w' : World}, kL S E (ub S fn.results.toList cs k e sz n g) a' w' → a'.defers = [] ∧ ∃ v, (results fn a'.tmps).run S.P w' = .ok v w' ∧
   ∃ (us:Array Value) (xs:List Value),Ending.returned v = .returned (.agg us)∧RowKit.Below w.heap.size w w'∧0<sz∧w'.ownsRow w.heap.size e sz (us.getD k undef) n xs∧(∀ x ∈ xs,x.oneCell'=true) ∧
   (∀ i,i<n→∀ j,j<sz→bp (Fe ok w w' (us.getD k undef)) w' (g i j) (xs.getD (i * sz+j) undef))∧us.size=cs.length∧(∀ j,j<us.size→(us.getD j undef).oneCell'=true) ∧
   ∀ j y,cs[j]?=some (some y)→bp (Fe ok w w' (us.getD k undef)) w' y (us.getD j undef):=fun {a' w'} ⟨st',ρ',g',hq⟩=>by
  unfold ub at hq
  split at hq
  ·rename_i p ys hr
   obtain ⟨hp,hcell,hrest⟩:=hq
   obtain ⟨vs2,hvs,hlv,hd⟩:=iF g' hr hp
   obtain ⟨v,hv1,hv2⟩:=oD (xs:=[.agg ys]) hvs hlv hd
   obtain ⟨us,rfl,hs,h1,hdu⟩:=hv2
   obtain ⟨q1,q2⟩:=sY hrest
   have hB:RowKit.Below w.heap.size w w':=⟨g'.frm.os,g'.frm.tape,g'.frm.output,g'.frm.size,fun k hk=>g'.frm.block k hk (fun _ _ h=>by cases h)⟩
   have hkd:=hdu k
   generalize hX:ys.getD k .any=X at hcell hrest q2 hkd
   have hmain : 0 < sz ∧ (∃ xs : List Value, w'.ownsRow w.heap.size e sz (us.getD k undef) n xs ∧ (∀ x ∈ xs, x.oneCell' = true) ∧ (∀ i, i < n → ∀ j, j < sz → bp (Fe ok w w' (us.getD k undef)) w' (g i j) (xs.getD (i * sz + j) undef))) ∧
     (∀ id,Aj X=some id→ρ' id=us.getD k undef∧st'.bx id≠none)∧(Aj X=none→mb (us.getD k undef)=none):=by
    cases X with
    | own id n' =>
     obtain ⟨f2,hbx,rfl,h0,hgf⟩:=hcell
     obtain ⟨A,m,cp,hr2,h2,h3,h4,hu⟩:=hkd
     obtain ⟨h0,xs,hown,hone,hd2⟩:=g'.bxs id _ hbx
     have hmn:m=n':=by
      rcases hown.2 with ⟨e1,e2⟩|⟨b,cap,cur,e1,_⟩
      ·rw [hr2] at e1;simp only [Value.slice.injEq] at e1;omega
      ·rw [hr2] at e1;simp only [Value.slice.injEq] at e1;omega
     subst hmn
     have hv:us.getD k undef=ρ' id:=by rw [hu,hr2]
     rw [hv]
     refine ⟨h0,⟨xs,⟨hown.1, ?_⟩,hone,fun i hi j hj => ?_⟩,fun id2 hid => ?_,fun h=>(by cases h)⟩
     ·rcases hown.2 with h|⟨b,cap,cur,e1,e2,e3⟩
      ·exact .inl h
      ·refine .inr ⟨b,cap,cur,e1, ?_,e3⟩
       rcases (g'.new id _ b hbx (by rw [e1];rfl)).2 with h|⟨_,_,_,h,_⟩
       ·exact h
       ·cases h
     ·refine hgf i hi j hj _ _ _ (bp.mono (fun b hb=>⟨⟨⟨hb.1,hb.2.1⟩,fun hb2 => ?_⟩,fun _=>rfl⟩) (hd2 i hi j hj))
      exact hb.2.2 id (by rw [hbx];simp) hb2
     ·simp only [Aj,Option.some.injEq] at hid
      subst hid
      exact ⟨rfl,by rw [hbx];simp⟩
    | p x =>
     obtain ⟨rfl,rfl,h0⟩:=hcell
     have hv:us.getD k undef = .slice none 0 0:=hkd
     rw [hv]
     exact ⟨h0,⟨[],⟨by simp, .inl ⟨rfl,rfl⟩⟩,by simp,fun i hi=>absurd hi (Nat.not_lt_zero i)⟩,fun id h=>(by cases h),fun _=>rfl⟩
    | ptr _ _=>exact hcell.elim
    | pel _ _ _ _=>exact hcell.elim
    | ipt _ _ _=>exact hcell.elim
    | clo _ _=>exact hcell.elim
    | sub _ _ _ _=>exact hcell.elim
   obtain ⟨h0,⟨xs,m1,m2,m3⟩,m4,m5⟩:=hmain
   refine ⟨g'.dfr, .agg us,hv1,us,xs,rfl,hB,h0,m1,m2,m3,by rw [hs,q1],h1,fun j y hj => ?_⟩
   obtain ⟨t1,t2⟩:=q2 j y hj
   exact AL g' rfl m4 m5 t2 g'.frm.size (hdu j) t1
  ·exact hq.elim
 refine wp_mono (eA hm c hN h g0) fun e a' w' hq => ?_
 cases e with
 | normal=>exact fin hq
 | ret=>exact fin hq
 | exit id=>obtain ⟨_,_,_,h⟩:=hq;exact h.elim
 | _=>exact hq.elim
attribute [go_sem] DE yf ub Cj Aj tN Qr Ec ue vb ig Dl
end Go.SL
namespace Go.SL
open Go
def LN (bx' bx:Nat→Option Bx):Prop:=∀ i y,bx' i=some y→bx i=some y
section
variable {S:Env} {E:Ent} {st:St} {ρ:fO} {a:Act} {w:World}
theorem tH {bx':Nat→Option Bx} (h:LN bx' st.bx):fF (bC E st.bx ρ w) (bC E bx' ρ w) w w:=fun b ⟨h1,h2,h3⟩=>⟨⟨h1,h2,fun i hi=>h3 i fun q=>hi (by
 cases hx:bx' i with
 | none=>rfl
 | some y=>rw [h i y hx] at q;cases q)⟩,fun _=>rfl⟩
theorem Gam.subBox (g:Gam S E st ρ a w) (bx':Nat→Option Bx) (h:LN bx' st.bx):Gam S E ⟨st.fr,bx',st.nx,st.kf⟩ ρ a w:=by
 have hsub':∀ i,bx' i≠none→st.bx i≠none:=fun i hi=>by
  cases hx:bx' i with
  | none=>exact absurd hx hi
  | some y=>rw [h i y hx];simp
 have hk:fF (bC E st.bx ρ w) (bC E bx' ρ w) w w:=tH h
 have hρ:∀ id,id<st.nx→ρ id=ρ id:=fun _ _=>rfl
 refine ⟨g.dfr,g.sz,g.frm,g.wfs,fun i b hb=>g.wfb i b (h i b hb),fun i b hb=>jO.mono hk hρ (g.wfb i b (h i b hb)).2 (fun _ _=>rfl) (g.bxs i b (h i b hb)),
  fun i y b h1 h2=>g.new i y b (h i y h1) h2,fun i j b h1 h2=>g.inj i j b (hsub' i h1) (hsub' j h2),g.rx0,fun s=>bn.mono hk hρ (g.wfs s) (g.slt s),fun gg n f hg => ?_,fun s=>⟨(g.kept s).1,bn.mono hk hρ (g.kept s).1 (g.kept s).2⟩⟩
 obtain ⟨h1,h2⟩:=g.glb gg n f hg
 refine ⟨(hk gg h1).1,fun j hj => ?_⟩
 obtain ⟨x,hx,h3,hd⟩:=h2 j hj
 exact ⟨x,hx,h3,bp.mono hk hd⟩
def mw (S:Env) (rs:List ResultVar) (X:SV) (bx':Nat→Option Bx) (nx':Nat) (kf:Nat→SV) (st:St):Prop :=
 match jj S st rs with
 | some (p,xs)=>p∧Fh xs=X∧LN bx' st.bx∧st.nx=nx'∧st.kf=kf∧X.lt nx'
 | none=>False
def De (S:Env) (rs:List ResultVar) (X:SV) (bx':Nat→Option Bx) (nx':Nat) (kf:Nat→SV):AExit→St→Prop
 | .ret,st=>mw S rs X bx' nx' kf st
 | .normal,st=>mw S rs X bx' nx' kf st
 | _,_=>False
theorem DF {S:Env} {rs:List ResultVar} {X:SV} {bx':Nat→Option Bx} {nx':Nat} {kf:Nat→SV} {st:St}:De S rs X bx' nx' kf .ret st=mw S rs X bx' nx' kf st:=rfl
theorem yl {S:Env} {rs:List ResultVar} {X:SV} {bx':Nat→Option Bx} {nx':Nat} {kf:Nat→SV} {st:St}:De S rs X bx' nx' kf .normal st=mw S rs X bx' nx' kf st:=rfl
attribute [go_sem] DF yl mw
theorem dO {f : FuncId} {fn : Func} {c : Code} {rs : List ResultVar} {args : List BV} {X : SV} {bx bx' : Nat → Option Bx} {nx nx' : Nat} (hf : S.P.funcs[f]? = some fn) (hb : fn.body = some c) (hrs : fn.results.toList = rs)
  (hname : (fn.name == "runtime.NumGoroutine") = false) (hm : S.P.follows .mixedOrders = true) (hN : cZ fn.ntmps c = true) (hlen : args.length ≤ fn.ntmps) (hl : ∀ x ∈ args, BV.lt nx x)
  (h:∀ kf,cw S c (De S rs X bx' nx' kf) (Ff args bx nx kf)):iV S bx nx f args X bx' nx':=by
 subst hrs
 refine ⟨⟨fn,hf,hname,by rw [hb];rfl⟩,fun E st ρ a w vs hbx hnx g hsz hden => ?_⟩
 refine calls_of_wp hf hb ?_
 subst hbx
 subst hnx
 let E2:Ent := { w0:=E.w0,ok0:=E.ok0,rx:=E.rx,N:=fn.ntmps,kp:=fun s=>if s % 2=0 then a.tmps.getD (s / 2) undef else E.kp (s / 2) }
 let kf:Nat→SV:=fun s=>if s % 2=0 then st.fr (s / 2) else st.kf (s / 2)
 have g2:Gam S E2 (Ff args st.bx st.nx kf) ρ { tmps:=vs ++ Array.replicate (fn.ntmps - vs.size) undef,defers:=[] } w:=by
  refine ⟨rfl,by simp [E2];omega,⟨g.frm.os,g.frm.tape,g.frm.output,g.frm.size,g.frm.block,g.frm.rxb⟩,fun s => ?_,g.wfb,g.bxs,g.new,g.inj,g.rx0,fun s => ?_,g.glb,fun s => ?_⟩
  ·simp only [Ff,cD]
   split
   ·rename_i hs
    refine hl _ ?_
    rw [List.getD_eq_getElem?_getD,List.getElem?_eq_getElem (by omega)];exact List.getElem_mem _
   ·trivial
  ·simp only [Ff,cD]
   split
   ·rename_i hs
    have e:(vs ++ Array.replicate (fn.ntmps - vs.size) undef).getD s undef=vs.getD s undef:=by
     have:s<vs.size:=by omega
     simp [this]
     rw [Array.getElem?_append_left this]
     simp [this]
    rw [e]
    exact hden (s - 0)
   ·trivial
  ·show (kf s).lt st.nx∧bn ρ (bC E st.bx ρ w) w (kf s) (E2.kp s)
   simp only [kf,E2]
   split
   ·exact ⟨g.wfs _,g.slt _⟩
   ·exact g.kept _
 have fin : ∀ {a' : Act} {w' : World}, kL S E2 (mw S fn.results.toList X bx' nx' kf) a' w' → a'.defers = [] ∧ ∃ v, (results fn a'.tmps).run S.P w' = .ok v w' ∧
   ∃ v2 ρ',Ending.returned v = .returned v2∧bn ρ' (bC E bx' ρ' w') w' X v2∧X.lt nx'∧Gam S E ⟨st.fr,bx',nx',st.kf⟩ ρ' a w':=fun {a' w'} ⟨st',ρ',g',hq⟩=>by
  unfold mw at hq
  split at hq
  ·rename_i p xs hr
   obtain ⟨hp,hX,hbx',hnx',hkf,hXl⟩:=hq
   obtain ⟨vs2,hvs,hl2,hd⟩:=iF g' hr hp
   obtain ⟨v,hv1,hv2⟩:=oD hvs hl2 hd
   subst hX
   subst hnx'
   have g'':=g'.subBox bx' hbx'
   have hkk:fF (bC E2 st'.bx ρ' w') (bC E2 bx' ρ' w') w' w':=tH hbx'
   have hv3:=bn.mono hkk (fun (_:Nat) (_:_<st'.nx)=>rfl) hXl hv2
   refine ⟨g'.dfr,v,hv1,v,ρ',rfl,hv3,hXl, ?_⟩
   have hk0:∀ s,(st.fr s).lt st'.nx∧bn ρ' (bC E bx' ρ' w') w' (st.fr s) (a.tmps.getD s undef):=fun s=>by
    have:=g''.kept (2 * s)
    dsimp only at this
    rw [hkf] at this
    have e1:2 * s % 2=0:=by omega
    have e2:2 * s / 2=s:=by omega
    simp only [kf,E2,e1,e2,if_true] at this
    exact this
   have hk1:∀ s,(st.kf s).lt st'.nx∧bn ρ' (bC E bx' ρ' w') w' (st.kf s) (E.kp s):=fun s=>by
    have:=g''.kept (2 * s+1)
    dsimp only at this
    rw [hkf] at this
    have e1:¬ (2 * s+1) % 2=0:=by omega
    have e2:(2 * s+1) / 2=s:=by omega
    simp only [kf,E2,e1,e2,if_false] at this
    exact this
   exact ⟨g.dfr,g.sz,⟨g''.frm.os,g''.frm.tape,g''.frm.output,g''.frm.size,g''.frm.block,g''.frm.rxb⟩,fun s=>(hk0 s).1,g''.wfb,g''.bxs,g''.new,g''.inj,g''.rx0,fun s=>(hk0 s).2,g''.glb,hk1⟩
  ·exact hq.elim
 refine wp_mono (eA hm c hN (h kf) g2) fun e a' w' hq => ?_
 cases e with
 | normal=>exact fin hq
 | ret=>exact fin hq
 | exit id=>obtain ⟨_,_,_,h⟩:=hq;exact h.elim
 | _=>exact hq.elim
end
def uY (o:Oper):Bool:=o.guard.isNone && match o.op with
 | .call c=>match c.callee,c.args.toList with
  | .builtin .append,[.const (.slice none 0 0),_]=>true
  | _,_=>false
 | _=>false
def xo (ops:Array Oper) (x y:Oper):Bool :=
 (match x.dst with|some d => !(ck ops y).contains d|none=>true) && (match y.dst with|some d => !(ck ops x).contains d|none=>true) &&
 (match x.dst,y.dst with|some d,some e=>d != e|_,_=>true) && xO x && uY y
section
variable {S:Env} {ops:Array Oper} {st s1 s2 s':St}
theorem Di {o:Oper} (ha:uY o=true) (h:Ex S ops st o s'):∀ i,i≠st.nx→s'.bx i=st.bx i:=by
 intro i hi
 simp only [uY,Bool.and_eq_true,Option.isNone_iff_eq_none] at ha
 obtain ⟨hg,ha⟩:=ha
 unfold Ex fe at h
 rw [hg] at h
 simp only [jE] at h
 split at ha
 ·rename_i c ho
  obtain ⟨cal,⟨al⟩,⟨tl⟩⟩:=c
  simp only at ha
  split at ha
  ·rename_i y
   rw [ho] at h
   have hro:ro S st.bx (st.ev S) (.call ⟨.builtin .append,⟨[.const (.slice none 0 0),y]⟩,⟨tl⟩⟩)=none:=by simp [ro,bc]
   rw [hro] at h
   have h2:=h.2
   have hev:(st.ev S (.const (.slice none 0 0))).strip = .b (.c (.p (.val (.slice none 0 0)))):=rfl
   unfold dt at h2
   simp only at h2
   split at h2
   ·rename_i e3
    simp only [List.cons.injEq,and_true] at e3
    obtain ⟨rfl,rfl⟩:=e3
    split at h2
    ·split at h2
     ·rw [← h2.2];simp [St.newBox,dX,hi]
     ·rename_i e4
      rw [hev] at e4;cases e4
     ·exact h2.elim
    ·exact h2.elim
   all_goals first|exact h2.elim|exact absurd (by assumption:Callee.builtin Builtin.append=Callee.builtin Builtin.copy) (by intro q;cases q)|(rename_i q;cases q)
  ·cases ha
 ·cases ha
theorem sH {lb:Nat} {x y:Oper} (hi:xo ops x y=true) (w:dW lb st) (h1:Ex S ops st x s1) (h2:Ex S ops s1 y s2):∃ s3,Ex S ops st y s3∧Ex S ops s3 x s2:=by
 simp only [xo,Bool.and_eq_true] at hi
 obtain ⟨⟨⟨⟨hxy,hyx⟩,hdd⟩,hl⟩,ha⟩:=hi
 have hab:=Di ha h2
 simp only [xO,Bool.and_eq_true,Option.isNone_iff_eq_none] at hl
 obtain ⟨hxg,hl⟩:=hl
 split at hl
 case h_2=>cases hl
 rename_i t q hxo
 obtain ⟨v1,b1,n1,e1,k1,p1,z1⟩:=gE h1
 have hc1:vj S.rcv x≤1:=by simp [vj,dF,hxo]
 obtain ⟨rfl,rfl⟩:=k1 hc1
 obtain ⟨v2,b2,n2,e2,k2,p2,z2⟩:=gE h2
 have hs1:s1.bx=st.bx∧s1.nx=st.nx:=by rw [e1];exact ⟨dX,fM⟩
 have ag1:∀ t ∈ ck ops y,s1.fr t=st.fr t:=by
  rw [e1];exact gX (nx':=0) (bx':=st.bx) hxy
 have q2:=p2 st ag1 hs1.1.symm hs1.2.symm
 refine ⟨_,q2, ?_⟩
 have comm:s2=St.set (St.set ⟨st.fr,b2,n2,st.kf⟩ y.dst v2) x.dst v1:=by
  rw [e2,e1]
  simp only [ec,St.mk.injEq,and_true]
  funext s
  by_cases c1:some s=x.dst
  ·by_cases c2:some s=y.dst
   ·rw [← c1,← c2] at hdd
    simp at hdd
   ·rw [if_neg c2,if_pos c1,if_pos c1]
  ·by_cases c2:some s=y.dst
   ·rw [if_pos c2,if_neg c1,if_pos c2]
   ·rw [if_neg c2,if_neg c1,if_neg c1,if_neg c2]
 have hbx:∀ i y',st.bx i=some y'→b2 i=some y':=fun i y' hi=>by
  have hne:i≠s1.nx:=by
   rw [hs1.2]
   intro e
   have:=w.1 i (by omega)
   rw [this] at hi;cases hi
  have:=hab i hne
  rw [e2,dX,hs1.1] at this
  exact this.trans hi
 have ag2:∀ t ∈ ck ops x,(St.set ⟨st.fr,b2,n2,st.kf⟩ y.dst v2).fr t=st.fr t:=gX (nx':=0) (bx':=st.bx) hyx
 have hevq:(St.set ⟨st.fr,b2,n2,st.kf⟩ y.dst v2).ev S q=st.ev S q :=
  (dv (S:=S) (ops:=ops) (o:=x) (fun t ht=>(ag2 t ht).symm) q (by rw [hxo];simp [Op.operands])).symm
 unfold Ex fe at h1 ⊢
 rw [hxg] at h1 ⊢
 simp only [jE,hxo,nA] at h1 ⊢
 rw [hevq,dX]
 cases hr:dp S t st.bx (st.ev S q).strip with
 | none=>rw [hr] at h1;simp only [rc,dt] at h1;exact h1.2.elim
 | some r =>
  rw [hr] at h1
  rw [Cd hr hbx]
  obtain ⟨r1,r2⟩:=r
  simp only [rc] at h1 ⊢
  refine ⟨h1.1, ?_⟩
  rw [comm]
  have hv:∀ d,x.dst=some d→r2=v1:=fun d hd=>by
   have:=congrArg (fun s:St=>s.fr d) (h1.2.trans e1)
   simpa [hd,St.set] using this
  cases hd:x.dst with
  | none=>rfl
  | some d=>rw [hv d hd]
end
def lh (rcv:Nat→Bool) (ops:Array Oper) (m:Nat→Nat) (listed:Array Bool) (p:Nat):Bool :=
 match ops[p]? with
 | none=>false
 | some x=>(List.range ops.size).all fun i=>listed.getD i true || Nat.beq i p || ((m i).testBit p && Nat.blt p i) || (match ops[i]? with
  | some o=>rv rcv ops x o || pc rcv ops x o || sA ops x o || xo ops x o
  | none=>false)
section
variable {S:Env} {ops:Array Oper} {st:St}
theorem xF {rcv:Nat→Bool} {m:Nat→Nat} {listed:Array Bool} {i p:Nat} (hi:i<listed.size) (h:lh rcv ops m listed p=true):lh rcv ops m (listed.setIfInBounds i true) p=true:=by
 unfold lh at h ⊢
 split at h
 ·cases h
 ·refine List.all_eq_true.2 fun k hk => ?_
  have:=List.all_eq_true.1 h k hk
  simp only [Bool.or_eq_true] at this ⊢
  rw [pk hi]
  rcases this with ((h1|h1)|h1)|h1
  ·refine .inl (.inl (.inl ?_));split
   ·rfl
   ·exact h1
  ·exact .inl (.inl (.inr h1))
  ·exact .inl (.inr h1)
  ·exact .inr h1
theorem xK {m : Nat → Nat} {x : Oper} {p : Nat} (hm : cU ops m = true) (hed : ∀ i o, ops[i]? = some o → ∀ e ∈ o.after, Region.binds .any e = true → e.on < i) (hx : ops[p]? = some x) {K : St → Prop} : ∀ (fuel : Nat) (listed : Array Bool) (st : St),
  listed.size=ops.size→gO ops listed→lh S.rcv ops m listed p=true→p ∈ Region.ready .any ops listed→dW 0 st→(∃ s,Ex S ops st x s∧iQ S ops fuel (listed.setIfInBounds p true) s K)→iQ S ops (fuel+1) listed st K:=by
 intro fuel
 induction fuel with
 | zero =>
  intro listed st hs hcl hp hr hw ⟨s,h1,h2⟩
  have hplt:=gD hs hr
  refine ⟨fun hno=>(by rw [hno] at hr;cases hr),fun i hi => ?_⟩
  by_cases e:i=p
  ·subst e;rw [hx];exact kF h1 h2
  ·have:=jB hs (by omega) hi e
   rw [h2.1] at this;cases this
 | succ f ih =>
  intro listed st hs hcl hp hr hw ⟨s,h1,h2⟩
  have hplt:=gD hs hr
  obtain ⟨_,_,hpl,_⟩:=(cC hs).1 hr
  refine ⟨fun hno=>(by rw [hno] at hr;cases hr),fun i hi => ?_⟩
  by_cases e:i=p
  ·subst e;rw [hx];exact kF h1 h2
  obtain ⟨o,ho,hl,hdep⟩:=(cC hs).1 hi
  have hlt:=gD hs hi
  rw [ho]
  have h3:=h2.2 i (jB hs (by omega) hi e)
  rw [ho] at h3
  obtain ⟨s2,h4,h5⟩:=nX h3
  have hsw:∃ s3,Ex S ops st o s3∧Ex S ops s3 x s2:=by
   have hq:=hp
   unfold lh at hq
   rw [hx] at hq
   have hq:=List.all_eq_true.1 hq i (List.mem_range.2 hlt)
   rw [ho] at hq
   simp only [Bool.or_eq_true,Nat.beq_eq,Bool.and_eq_true] at hq
   rcases hq with ((q|q)|q)|q
   ·rw [q] at hl;cases hl
   ·exact absurd q e
   ·exact absurd hi (wW hm hs hed hcl (by have:=q.2;simp [Nat.blt] at this;omega) q.1 hpl)
   ·rcases q with ((q|q)|q)|q
    ·exact sm q h1 h4
    ·exact iY q hw h1 h4
    ·exact kQ q hw h1 h4
    ·exact sH q hw h1 h4
  obtain ⟨s3,h6,h7⟩:=hsw
  refine kF h6 ?_
  refine ih _ s3 (by simpa using hs) (lE hs hed hcl hi) (xF (by omega) hp) (jB hs (by omega) hr (fun h=>e h.symm)) (ri h6 hw) ⟨s2,h7, ?_⟩
  rw [zP];exact h5
end
def xk (rcv:Nat→Bool) (ops:Array Oper) (m:Nat→Nat) (listed:Array Bool):Tr→Bool
 | .leaf=>Region.ready .any ops listed == []
 | .nil=>false
 | .br i t r=>Region.ready .any ops listed == dG (.br i t r) || (dG r == [] && (Region.ready .any ops listed).contains i && lh rcv ops m listed i)
def BS (rcv:Nat→Bool) (ops:Array Oper) (m:Nat→Nat):Array Bool→Tr→Bool
 | _, .leaf=>true
 | _, .nil=>true
 | listed, .br i t r=>Nat.blt i ops.size && xk rcv ops m (listed.setIfInBounds i true) t && BS rcv ops m (listed.setIfInBounds i true) t && BS rcv ops m listed r
section
variable {S:Env} {l:List Oper} {m:Nat→Nat}
theorem tI {t:Tr} {listed:Array Bool} (hn:xk S.rcv l.toArray m listed t=true):∀ i ∈ dG t,i ∈ Region.ready .any l.toArray listed:=by
 cases t with
 | leaf=>intro i hi;cases hi
 | nil=>cases hn
 | br k t r =>
  intro i hi
  simp only [xk,Bool.or_eq_true,Bool.and_eq_true,beq_iff_eq] at hn
  rcases hn with hn|hn
  ·rw [hn];exact hi
  ·obtain ⟨⟨h1,h2⟩,_⟩:=hn
   rw [dG,h1,List.mem_singleton] at hi
   subst hi
   exact List.contains_iff_mem.1 h2
theorem uv (hm : cU l.toArray m = true) (hf : nH l.toArray = true) {t : Tr} {listed : Array Bool} {fuel : Nat} {st : St} {K : St → Prop} (hs : listed.size = l.toArray.size) (hcl : gO l.toArray listed) (hw : dW 0 st)
  (hn:xk S.rcv l.toArray m listed t=true) (h:eK S l.toArray l t st K) (hd:gp t≤fuel)
  (hal : ∀ f, fuel = f + 1 → ∀ i ∈ dG t, match l.toArray[i]? with
    | some o=>fe S l.toArray st o fun st'=>iQ S l.toArray f (listed.setIfInBounds i true) st' K
    | none=>iQ S l.toArray f (listed.setIfInBounds i true) st K):iQ S l.toArray fuel listed st K:=by
 have hsub:=tI hn
 cases t with
 | leaf =>
  have hr:Region.ready .any l.toArray listed=[]:=by simpa [xk] using hn
  cases fuel with
  | zero=>exact ⟨hr,h⟩
  | succ f=>exact ⟨fun _=>h,fun i hi=>by rw [hr] at hi;cases hi⟩
 | nil=>cases hn
 | br i t r =>
  cases fuel with
  | zero=>simp [gp] at hd
  | succ f =>
   have hi:i ∈ Region.ready .any l.toArray listed:=hsub i (by rw [dG];exact List.mem_cons_self ..)
   simp only [xk,Bool.or_eq_true,Bool.and_eq_true,beq_iff_eq] at hn
   rcases hn with hn|hn
   ·exact ⟨fun h0=>by (rw [h0] at hi;cases hi),fun j hj=>hal f rfl j (by rw [← hn];exact hj)⟩
   ·have:=hal f rfl i (by rw [dG];exact List.mem_cons_self ..)
    obtain ⟨o,ho,_⟩:=(cC hs).1 hi
    rw [ho] at this
    exact xK hm (xP hf) ho f listed st hs hcl hn.2 hi hw (nX this)
theorem nU (hm : cU l.toArray m = true) (hf : nH l.toArray = true) {K : St → Prop} : ∀ (t : Tr) (listed : Array Bool) (fuel : Nat) (st : St), listed.size = l.toArray.size → gO l.toArray listed → dW 0 st → (∀ i ∈ dG t, i ∈ Region.ready .any l.toArray listed) →
  BS S.rcv l.toArray m listed t = true → eK S l.toArray l t st K → gp t ≤ fuel + 1 → ∀ i ∈ dG t, match l.toArray[i]? with
    | some o=>fe S l.toArray st o fun st'=>iQ S l.toArray fuel (listed.setIfInBounds i true) st' K
    | none=>iQ S l.toArray fuel (listed.setIfInBounds i true) st K
 | .leaf,_,_,_,_,_,_,_,_,_,_,i,hi=>by cases hi
 | .nil,_,_,_,_,_,_,_,_,_,_,i,hi=>by cases hi
 | .br k t r,listed,fuel,st,hs,hcl,hw,hsub,hok,h,hd,i,hi=>by
  have hkr:k ∈ Region.ready .any l.toArray listed:=hsub k (by rw [dG];exact List.mem_cons_self ..)
  simp only [BS,Bool.and_eq_true] at hok
  obtain ⟨⟨⟨hk,hn⟩,ht⟩,hr⟩:=hok
  simp only [gp] at hd
  rcases List.mem_cons.1 hi with rfl|hi
  ·have hlt:i<l.toArray.size:=by simp [Nat.blt] at hk ⊢;omega
   have hget:l.toArray[i]?=some (l.getD i default):=by
    have hlt2:i<l.length:=by simpa using hlt
    rw [List.getElem?_toArray,List.getD_eq_getElem?_getD,List.getElem?_eq_getElem hlt2];rfl
   rw [hget]
   obtain ⟨s,h1,h2⟩:=nX h.1
   refine kF h1 ?_
   have hs2:(listed.setIfInBounds i true).size=l.toArray.size:=by simpa using hs
   have hcl2:=lE hs (xP hf) hcl hkr
   exact uv hm hf hs2 hcl2 (ri h1 hw) hn h2 (by omega) fun f hf2 j hj=>nU hm hf t _ f s hs2 hcl2 (ri h1 hw) (tI hn) ht h2 (by omega) j hj
  ·exact nU hm hf r listed fuel st hs hcl hw (fun j hj=>hsub j (by rw [dG];exact List.mem_cons_of_mem _ hj)) hr h.2 (by omega) i hi
theorem sG {t : Tr} {st : St} {K : St → Prop} (hok : (nH l.toArray && cU l.toArray m && xk S.rcv l.toArray m (Array.replicate l.toArray.size false) t && BS S.rcv l.toArray m (Array.replicate l.toArray.size false) t && Nat.ble (gp t) l.toArray.size) = true) (hw : dW 0 st) (h : eK S l.toArray l t st K) :
  iQ S l.toArray l.toArray.size (Array.replicate l.toArray.size false) st K:=by
 simp only [Bool.and_eq_true] at hok
 obtain ⟨⟨⟨⟨hf,hm⟩,h1⟩,h2⟩,h3⟩:=hok
 have h3:=Nat.le_of_ble_eq_true h3
 have hs:(Array.replicate l.toArray.size false).size=l.toArray.size:=by simp
 have hcl:gO l.toArray (Array.replicate l.toArray.size false):=fun i o ho hi=>by
  exfalso
  have hlt:i<l.toArray.size:=by
   rcases Nat.lt_or_ge i l.toArray.size with h|h
   ·exact h
   ·rw [Array.getElem?_eq_none h] at ho;cases ho
  unfold jo at hi
  simp only [Array.getD_eq_getD_getElem?,Array.getElem?_replicate,if_pos hlt] at hi
  cases hi
 exact uv hm hf hs hcl hw h1 h h3 fun f hf2 i hi=>nU hm hf t _ f st hs hcl hw (tI h1) h2 h (by omega) i hi
end
section
variable {S:Env} {l:List Oper}
theorem fc {id : Nat} {y : Code} {Q : AExit → St → Prop} {st : St} (t : Tr)
  (hok:(nH l.toArray && cU l.toArray (fun i=>(Region.before l.toArray).getD i 0) && xk S.rcv l.toArray (fun i=>(Region.before l.toArray).getD i 0) (Array.replicate l.toArray.size false) t && BS S.rcv l.toArray (fun i=>(Region.before l.toArray).getD i 0) (Array.replicate l.toArray.size false) t && Nat.ble (gp t) l.toArray.size)=true)
  (hw:dW 0 st) (h:∀ K:St→Prop,(∀ s,cw S y Q s→K s)→eK S l.toArray l t st K):cw S (.seq (.region id l.toArray true) y) Q st:=by
 refine dC (S:=S) (.region id l.toArray true) (Q:=hC (fun st=>Wk (cw S y Q) st∨cw S y Q st) Q) (fun _ _ h=>h) ?_
 simp only [cw,if_pos]
 exact sG hok hw (h _ fun s hs => .inr hs)
theorem iP {id : Nat} {Q : AExit → St → Prop} {st : St} (t : Tr)
  (hok:(nH l.toArray && cU l.toArray (fun i=>(Region.before l.toArray).getD i 0) && xk S.rcv l.toArray (fun i=>(Region.before l.toArray).getD i 0) (Array.replicate l.toArray.size false) t && BS S.rcv l.toArray (fun i=>(Region.before l.toArray).getD i 0) (Array.replicate l.toArray.size false) t && Nat.ble (gp t) l.toArray.size)=true)
  (hw:dW 0 st) (h:∀ K:St→Prop,(∀ s,Q .normal s→K s)→eK S l.toArray l t st K):cw S (.region id l.toArray true) Q st:=by
 simp only [cw,if_pos]
 exact sG hok hw (h _ fun s hs=>hs)
end
structure Hold (p:Prop):Prop where
 out:p
theorem dg {p:Prop} (h:p):Hold p:=⟨h⟩
theorem ep {K:St→Prop} {P:St→Prop} (h:∀ s,P s→K s):∀ s,Hold (P s)→K s:=fun s q=>h s q.out
theorem cM {α:Type} {i j:Nat} {a b:α} (h:i≠j):(if i=j then a else b)=b:=if_neg h
theorem bg {bx:Nat→Option Bx} {n:Nat} {x:Bx} (h:bx n=some x):bx=aB n x bx:=by
 funext i
 unfold aB
 split
 ·rename_i e;rw [e,h]
 ·rfl
end Go.SL
