/- Part of the proof: SlFacts, SlT, SlU, SlV, SlX, SlY. -/
import Derived.Test.YtmfblbbemekkoaaGreatDoorProg
import Derived.KernelRfl
import Derived.Test.YtmfblbbemekkoaaGreatDoorK3
set_option maxRecDepth 100000
namespace Go.Proofs.YtmfblbbemekkoaaGreatDoor
open Go Go.SL
def g0:List PV:=[.val (.string ⟨#[]⟩), .val (.string ⟨#[110,111,114,109,97,108]⟩), .val (.string ⟨#[109,117,108,116,105,112,108,121]⟩), .val (.string ⟨#[115,99,114,101,101,110]⟩), .val (.string ⟨#[111,118,101,114,108,97,121]⟩), .val (.string ⟨#[100,97,114,107,101,110]⟩), .val (.string ⟨#[108,105,103,104,116,101,110]⟩), .val (.string ⟨#[99,111,108,111,114,45,100,111,100,103,101]⟩), .val (.string ⟨#[99,111,108,111,114,45,98,117,114,110]⟩), .val (.string ⟨#[104,97,114,100,45,108,105,103,104,116]⟩), .val (.string ⟨#[115,111,102,116,45,108,105,103,104,116]⟩), .val (.string ⟨#[100,105,102,102,101,114,101,110,99,101]⟩), .val (.string ⟨#[101,120,99,108,117,115,105,111,110]⟩)]
def g1:List PV:=[.val (.string ⟨#[]⟩), .val (.int .i64 0), .val (.int .i64 0), .val (.int .i64 0), .val (.string ⟨#[99,108,101,97,114]⟩), .val (.int .i64 0), .val (.int .i64 0), .val (.int .i64 0), .val (.string ⟨#[115,114,99]⟩), .val (.int .i64 1), .val (.int .i64 0), .val (.int .i64 1), .val (.string ⟨#[100,115,116]⟩), .val (.int .i64 0), .val (.int .i64 1), .val (.int .i64 2), .val (.string ⟨#[115,114,99,45,111,118,101,114]⟩), .val (.int .i64 1), .val (.int .i64 3), .val (.int .i64 3), .val (.string ⟨#[100,115,116,45,111,118,101,114]⟩), .val (.int .i64 3), .val (.int .i64 1), .val (.int .i64 3), .val (.string ⟨#[115,114,99,45,105,110]⟩), .val (.int .i64 2), .val (.int .i64 0), .val (.int .i64 4), .val (.string ⟨#[100,115,116,45,105,110]⟩), .val (.int .i64 0), .val (.int .i64 2), .val (.int .i64 4), .val (.string ⟨#[115,114,99,45,111,117,116]⟩), .val (.int .i64 3), .val (.int .i64 0), .val (.int .i64 1), .val (.string ⟨#[100,115,116,45,111,117,116]⟩), .val (.int .i64 0), .val (.int .i64 3), .val (.int .i64 2), .val (.string ⟨#[115,114,99,45,97,116,111,112]⟩), .val (.int .i64 2), .val (.int .i64 3), .val (.int .i64 2), .val (.string ⟨#[100,115,116,45,97,116,111,112]⟩), .val (.int .i64 3), .val (.int .i64 2), .val (.int .i64 1), .val (.string ⟨#[120,111,114]⟩), .val (.int .i64 3), .val (.int .i64 3), .val (.int .i64 3)]
def KQ (g:Nat):Option (Nat × (Nat→PV)):=if g=0 then some (13,fun j=>g0.getD j .any) else if g=1 then some (52,fun j=>g1.getD j .any) else none
abbrev dX:List PV:=g0
abbrev bF:List PV:=g1
def Pi (f:Nat):Bool:=Nat.beq f 15 || Nat.beq f 35 || Nat.beq f 62 || Nat.beq f 66 || Nat.beq f 76 || Nat.beq f 78 || Nat.beq f 91 || Nat.beq f 92 || Nat.beq f 95 || Nat.beq f 96 || Nat.beq f 100 || Nat.beq f 104 || Nat.beq f 105 || Nat.beq f 109 || Nat.beq f 111 || Nat.beq f 112 || Nat.beq f 128 || Nat.beq f 142 || Nat.beq f 151 || Nat.beq f 165 || Nat.beq f 166 || Nat.beq f 167 || Nat.beq f 190 || Nat.beq f 2000033 || Nat.beq f 2000034 || Nat.beq f 1000018 || Nat.beq f 1000025 || Nat.beq f 1000026 || Nat.beq f 1000067 || Nat.beq f 1000093 || Nat.beq f 1000099 || Nat.beq f 1000103 || Nat.beq f 1000107 || Nat.beq f 1000113 || Nat.beq f 1000117 || Nat.beq f 1000118 || Nat.beq f 1000119 || Nat.beq f 1000139 || Nat.beq f 1000140 || Nat.beq f 1000141 || Nat.beq f 1000143 || Nat.beq f 1000144 || Nat.beq f 1000145 || Nat.beq f 1000148 || Nat.beq f 1000149 || Nat.beq f 1000150 || Nat.beq f 1000176 || Nat.beq f 1000177 || Nat.beq f 1000178 || Nat.beq f 1000179 || Nat.beq f 1000180 || Nat.beq f 1000182 || Nat.beq f 1000183 || Nat.beq f 1000186 || Nat.beq f 1000192 || Nat.beq f 1000195 || Nat.beq f 1000201 || Nat.beq f 1000202 || Nat.beq f 1000203 || Nat.beq f 1000204 || Nat.beq f 1000205 || Nat.beq f 1000206 || Nat.beq f 1000207 || Nat.beq f 1000208 || Nat.beq f 1000209 || Nat.beq f 1000210 || Nat.beq f 1000211 || Nat.beq f 1000212 || Nat.beq f 1000213 || Nat.beq f 1000217 || Nat.beq f 1000218 || Nat.beq f 1000219 || Nat.beq f 1000220 || Nat.beq f 1000221 || Nat.beq f 1000222 || Nat.beq f 1000223 || Nat.beq f 1000224 || Nat.beq f 1000225 || Nat.beq f 1000226 || Nat.beq f 1000228 || Nat.beq f 1000229 || Nat.beq f 1000230 || Nat.beq f 1000231 || Nat.beq f 1000232 || Nat.beq f 1000233 || Nat.beq f 1000234 || Nat.beq f 1000237 || Nat.beq f 1000238 || Nat.beq f 1000239 || Nat.beq f 1000241 || Nat.beq f 1000244 || Nat.beq f 1000247 || Nat.beq f 1000248 || Nat.beq f 1000250 || Nat.beq f 1000251
noncomputable def Sg:Env := { P:=Tryz.prog,gl:=KQ,rcv:=Pi }
theorem PD:Sg.P=Tryz.prog:=rfl
theorem Rb:Sg.gl 0=some (13,fun j=>g0.getD j .any):=rfl
theorem Rd:Sg.gl 1=some (52,fun j=>g1.getD j .any):=rfl
theorem dZ:Sg.P.follows .mixedOrders=true:=by kernel_rfl
-- 2 int64
theorem QX:Sg.ti 3=some (1,false):=by kernel_rfl
theorem QY:Sg.P.underlying 3=some (.int .i64):=by kernel_rfl
theorem Rm:Sg.zero 3=some [.int .i64 0]:=by kernel_rfl
theorem QZ:Sg.byt 3=some 8:=by kernel_rfl
-- 4 bool
theorem Rn:Sg.ti 4=some (1,false):=by kernel_rfl
theorem Rf:Sg.P.underlying 4=some (.bool):=by kernel_rfl
theorem Rl:Sg.zero 4=some [.bool false]:=by kernel_rfl
theorem Ri:Sg.byt 4=some 1:=by kernel_rfl
-- 5 uint8
theorem QW:Sg.P.underlying 5=some (.int .u8):=by kernel_rfl
theorem Re:Sg.ti 9=some (1,false):=by kernel_rfl
theorem Rk:Sg.P.underlying 9=some (.string):=by kernel_rfl
theorem Ps:Sg.ti 22=some (1,false):=by kernel_rfl
theorem QI:Sg.P.underlying 22=some (.slice 3):=by kernel_rfl
theorem OY:Sg.el 22=some (none,3,1,false):=by kernel_rfl
theorem OX:Sg.ti 23=some (1,false):=by kernel_rfl
theorem Qt:Sg.P.underlying 23=some (.slice 80):=by kernel_rfl
theorem Pl:Sg.el 23=some (none,80,5,true):=by kernel_rfl
theorem PA:Sg.ti 24=some (1,false):=by kernel_rfl
theorem Qi:Sg.P.underlying 24=some (.slice 31):=by kernel_rfl
theorem PE:Sg.el 24=some (none,31,11,true):=by kernel_rfl
theorem Qj:Sg.ti 26=some (10,true):=by kernel_rfl
theorem Lt:Sg.fld 26 0=some (0,1,false):=by kernel_rfl
theorem JU:Sg.fld 26 1=some (1,1,false):=by kernel_rfl
theorem LZ:Sg.fld 26 2=some (2,1,false):=by kernel_rfl
theorem Ma:Sg.fld 26 3=some (3,1,false):=by kernel_rfl
theorem JQ:Sg.fld 26 4=some (4,1,false):=by kernel_rfl
theorem LM:Sg.fld 26 5=some (5,1,false):=by kernel_rfl
theorem JN:Sg.fld 26 6=some (6,1,false):=by kernel_rfl
theorem Mn:Sg.fld 26 7=some (7,1,false):=by kernel_rfl
theorem KR:Sg.fld 26 8=some (8,1,false):=by kernel_rfl
theorem LU:Sg.fld 26 9=some (9,1,false):=by kernel_rfl
theorem QH:Sg.ti 27=some (1,false):=by kernel_rfl
theorem PC:Sg.P.underlying 27=some (.int .u16):=by kernel_rfl
theorem Pq:Sg.zero 27=some [.int .u16 0]:=by kernel_rfl
theorem QG:Sg.byt 27=some 2:=by kernel_rfl
-- 28 struct { Kind int;Image int;X int;Y int;Mask int;MaskX
theorem Pv:Sg.ti 29=some (12,true):=by kernel_rfl
theorem PH:Sg.zero 29=some [.int .i64 0, .int .i64 0, .int .i64 0, .int .i64 0, .int .i64 0, .int .i64 0, .int .i64 0, .int .u16 0, .int .i64 0, .int .i64 0, .bool false, .bool false]:=by kernel_rfl
theorem Po:Sg.bld 29=some (some [(0,1),(1,1),(2,1),(3,1),(4,1),(5,1),(6,1),(7,1),(8,1),(9,1),(10,1),(11,1)],0):=by kernel_rfl
theorem Mx:Sg.fld 29 0=some (0,1,false):=by kernel_rfl
theorem Kz:Sg.fld 29 1=some (1,1,false):=by kernel_rfl
theorem Li:Sg.fld 29 2=some (2,1,false):=by kernel_rfl
theorem JY:Sg.fld 29 3=some (3,1,false):=by kernel_rfl
theorem KW:Sg.fld 29 4=some (4,1,false):=by kernel_rfl
theorem Lw:Sg.fld 29 5=some (5,1,false):=by kernel_rfl
theorem LS:Sg.fld 29 6=some (6,1,false):=by kernel_rfl
theorem KC:Sg.fld 29 7=some (7,1,false):=by kernel_rfl
theorem Kq:Sg.fld 29 8=some (8,1,false):=by kernel_rfl
theorem Mi:Sg.fld 29 9=some (9,1,false):=by kernel_rfl
theorem IW:Sg.fld 29 10=some (10,1,false):=by kernel_rfl
theorem Ie:Sg.fld 29 11=some (11,1,false):=by kernel_rfl
theorem PJ (a0 b0:Int) (a1 b1:Int) (a2 b2:Int) (a3 b3:Int) (a4 b4:Int) (a5 b5:Int) (a6 b6:Int) (a7 b7:Int) (a8 b8:Int) (a9 b9:Int) (a10 b10:Bool) (a11 b11:Bool):Sg.eqv 29 [.int .i64 a0, .int .i64 a1, .int .i64 a2, .int .i64 a3, .int .i64 a4, .int .i64 a5, .int .i64 a6, .int .u16 a7, .int .i64 a8, .int .i64 a9, .bool a10, .bool a11] [.int .i64 b0, .int .i64 b1, .int .i64 b2, .int .i64 b3, .int .i64 b4, .int .i64 b5, .int .i64 b6, .int .u16 b7, .int .i64 b8, .int .i64 b9, .bool b10, .bool b11]=some ((a0 == b0) && ((a1 == b1) && ((a2 == b2) && ((a3 == b3) && ((a4 == b4) && ((a5 == b5) && ((a6 == b6) && ((a7 == b7) && ((a8 == b8) && ((a9 == b9) && ((a10 == b10) && ((a11 == b11) && true)))))))))))):=by kernel_rfl
theorem PL:Sg.byt 29=some 88:=by kernel_rfl
-- 30 struct { Kind int;Image int;X int;Y int;Mask int;MaskX
theorem Qn:Sg.ti 31=some (11,true):=by kernel_rfl
theorem JE:Sg.fld 31 0=some (0,1,false):=by kernel_rfl
theorem Ko:Sg.fld 31 1=some (1,1,false):=by kernel_rfl
theorem Ml:Sg.fld 31 2=some (2,1,false):=by kernel_rfl
theorem LF:Sg.fld 31 3=some (3,1,false):=by kernel_rfl
theorem MD:Sg.fld 31 4=some (4,1,false):=by kernel_rfl
theorem MK:Sg.fld 31 5=some (5,1,false):=by kernel_rfl
theorem Mb:Sg.fld 31 6=some (6,1,false):=by kernel_rfl
theorem Kg:Sg.fld 31 7=some (7,1,false):=by kernel_rfl
theorem Ks:Sg.fld 31 8=some (8,1,false):=by kernel_rfl
theorem LG:Sg.fld 31 9=some (9,1,false):=by kernel_rfl
theorem HS:Sg.fld 31 10=some (10,1,false):=by kernel_rfl
theorem Pu:Sg.ti 33=some (4,true):=by kernel_rfl
theorem QL:Sg.zero 33=some [.int .i64 0, .int .i64 0, .int .i64 0, .int .i64 0]:=by kernel_rfl
theorem Qb:Sg.bld 33=some (some [(0,1),(1,1),(2,1),(3,1)],0):=by kernel_rfl
theorem Kr:Sg.fld 33 0=some (0,1,false):=by kernel_rfl
theorem JC:Sg.fld 33 1=some (1,1,false):=by kernel_rfl
theorem KH:Sg.fld 33 2=some (2,1,false):=by kernel_rfl
theorem Kv:Sg.fld 33 3=some (3,1,false):=by kernel_rfl
theorem OQ:Sg.ti 34=some (1,false):=by kernel_rfl
theorem Qv:Sg.P.underlying 34=some (.slice 47):=by kernel_rfl
theorem Pe:Sg.el 34=some (none,47,28,true):=by kernel_rfl
theorem Px:Sg.ti 35=some (1,false):=by kernel_rfl
theorem Qx:Sg.P.underlying 35=some (.slice 29):=by kernel_rfl
theorem Pd:Sg.el 35=some (none,29,12,true):=by kernel_rfl
theorem OS:Sg.ti 37=some (10,true):=by kernel_rfl
theorem QE:Sg.zero 37=some [.int .i64 0, .int .i64 0, .int .i64 0, .int .i64 0, .int .i64 0, .int .i64 0, .int .i64 0, .slice none 0 0, .slice none 0 0, .slice none 0 0]:=by kernel_rfl
theorem OV:Sg.bld 37=some (some [(0,1),(1,4),(5,1),(6,1),(7,1),(8,1),(9,1)],0):=by kernel_rfl
theorem LH:Sg.fld 37 0=some (0,1,false):=by kernel_rfl
theorem LB:Sg.fld 37 1=some (1,4,true):=by kernel_rfl
theorem Mw:Sg.fld 37 2=some (5,1,false):=by kernel_rfl
theorem Kd:Sg.fld 37 3=some (6,1,false):=by kernel_rfl
theorem JR:Sg.fld 37 4=some (7,1,false):=by kernel_rfl
theorem Lr:Sg.fld 37 5=some (8,1,false):=by kernel_rfl
theorem JH:Sg.fld 37 6=some (9,1,false):=by kernel_rfl
theorem QJ:Sg.ti 39=some (3,true):=by kernel_rfl
theorem PZ:Sg.el 39=some (some 3,27,1,false):=by kernel_rfl
theorem Pj:Sg.zero 39=some [.int .u16 0, .int .u16 0, .int .u16 0]:=by kernel_rfl
theorem QC:Sg.bld 39=some (none,1):=by kernel_rfl
theorem Qy:Sg.ti 41=some (5,true):=by kernel_rfl
theorem Pm:Sg.zero 41=some [.int .u16 0, .int .u16 0, .int .u16 0, .int .u16 0, .int .u16 0]:=by kernel_rfl
theorem Qh:Sg.bld 41=some (some [(0,3),(3,1),(4,1)],0):=by kernel_rfl
theorem Kc:Sg.fld 41 0=some (0,3,true):=by kernel_rfl
theorem Lh:Sg.fld 41 1=some (3,1,false):=by kernel_rfl
theorem LW:Sg.fld 41 2=some (4,1,false):=by kernel_rfl
theorem Qa (a0 b0:Int) (a1 b1:Int) (a2 b2:Int) (a3 b3:Int) (a4 b4:Int):Sg.eqv 41 [.int .u16 a0, .int .u16 a1, .int .u16 a2, .int .u16 a3, .int .u16 a4] [.int .u16 b0, .int .u16 b1, .int .u16 b2, .int .u16 b3, .int .u16 b4]=some (((a0 == b0) && ((a1 == b1) && ((a2 == b2) && true))) && ((a3 == b3) && ((a4 == b4) && true))):=by kernel_rfl
theorem Qr:Sg.byt 41=some 10:=by kernel_rfl
-- 42 []uint16
theorem QN:Sg.ti 42=some (1,false):=by kernel_rfl
theorem Ql:Sg.P.underlying 42=some (.slice 27):=by kernel_rfl
theorem Qp:Sg.el 42=some (none,27,1,false):=by kernel_rfl
theorem Pk:Sg.ti 44=some (4,true):=by kernel_rfl
theorem PM:Sg.zero 44=some [.int .i64 0, .int .i64 0, .int .i64 0, .slice none 0 0]:=by kernel_rfl
theorem OW:Sg.bld 44=some (some [(0,1),(1,1),(2,1),(3,1)],0):=by kernel_rfl
theorem Kf:Sg.fld 44 0=some (0,1,false):=by kernel_rfl
theorem My:Sg.fld 44 1=some (1,1,false):=by kernel_rfl
theorem LJ:Sg.fld 44 2=some (2,1,false):=by kernel_rfl
theorem JM:Sg.fld 44 3=some (3,1,false):=by kernel_rfl
theorem Pr:Sg.ti 45=some (20,true):=by kernel_rfl
theorem PO:Sg.el 45=some (some 5,44,4,true):=by kernel_rfl
theorem Qq:Sg.ti 47=some (28,true):=by kernel_rfl
theorem Py:Sg.zero 47=some [.int .i64 0, .int .i64 0, .bool false, .int .u16 0, .int .u16 0, .int .u16 0, .int .u16 0, .int .u16 0, .int .i64 0, .int .i64 0, .int .i64 0, .slice none 0 0, .int .i64 0, .int .i64 0, .int .i64 0, .slice none 0 0, .int .i64 0, .int .i64 0, .int .i64 0, .slice none 0 0, .int .i64 0, .int .i64 0, .int .i64 0, .slice none 0 0, .int .i64 0, .int .i64 0, .int .i64 0, .slice none 0 0]:=by kernel_rfl
theorem Qd:Sg.bld 47=some (some [(0,1),(1,1),(2,1),(3,5),(8,20)],0):=by kernel_rfl
theorem JX:Sg.fld 47 0=some (0,1,false):=by kernel_rfl
theorem Md:Sg.fld 47 1=some (1,1,false):=by kernel_rfl
theorem KD:Sg.fld 47 2=some (2,1,false):=by kernel_rfl
theorem Mm:Sg.fld 47 3=some (3,5,true):=by kernel_rfl
theorem KA:Sg.fld 47 4=some (8,20,true):=by kernel_rfl
theorem Pb:Sg.byt 47=some 272:=by kernel_rfl
-- 58 api.Errno
theorem Qc:Sg.ti 58=some (1,false):=by kernel_rfl
theorem PK:Sg.zero 58=some [.int .i64 0]:=by kernel_rfl
theorem PY:Sg.ti 65=some (1,false):=by kernel_rfl
theorem PT:Sg.P.underlying 65=some (.slice 120):=by kernel_rfl
theorem PR:Sg.el 65=some (none,120,18,true):=by kernel_rfl
theorem Qs:Sg.zero 65=some [.slice none 0 0]:=by kernel_rfl
theorem QM:Sg.P.underlying 74=some (.slice 41):=by kernel_rfl
theorem OT:Sg.el 74=some (none,41,5,true):=by kernel_rfl
theorem Qk:Sg.ti 76=some (1,false):=by kernel_rfl
theorem Pg:Sg.P.underlying 76=some (.slice 130):=by kernel_rfl
theorem Pa:Sg.el 76=some (none,130,5,true):=by kernel_rfl
theorem OZ:Sg.ti 78=some (2,true):=by kernel_rfl
theorem PG:Sg.zero 78=some [.int .i64 0, .slice none 0 0]:=by kernel_rfl
theorem LN:Sg.fld 78 0=some (0,1,false):=by kernel_rfl
theorem Ls:Sg.fld 78 1=some (1,1,false):=by kernel_rfl
theorem Pc:Sg.ti 80=some (5,true):=by kernel_rfl
theorem Lc:Sg.fld 80 0=some (0,1,false):=by kernel_rfl
theorem LQ:Sg.fld 80 1=some (1,1,false):=by kernel_rfl
theorem KI:Sg.fld 80 2=some (2,1,false):=by kernel_rfl
theorem KX:Sg.fld 80 3=some (3,2,true):=by kernel_rfl
theorem NK:Sg.ti 120=some (18,true):=by kernel_rfl
theorem MW:Sg.zero 120=some [.int .i64 0, .int .i64 0, .int .u16 0, .int .u16 0, .int .u16 0, .int .u16 0, .int .u16 0, .int .u16 0, .int .u16 0, .int .u16 0, .int .u16 0, .int .u16 0, .int .u16 0, .int .u16 0, .int .u16 0, .int .u16 0, .int .u16 0, .int .u16 0]:=by kernel_rfl
theorem Ow:Sg.bld 120=some (some [(0,1),(1,1),(2,5),(7,5),(12,1),(13,5)],0):=by kernel_rfl
theorem HR:Sg.fld 120 0=some (0,1,false):=by kernel_rfl
theorem HP:Sg.fld 120 1=some (1,1,false):=by kernel_rfl
theorem FO:Sg.fld 120 2=some (2,5,true):=by kernel_rfl
theorem IJ:Sg.fld 120 4=some (12,1,false):=by kernel_rfl
theorem GU:Sg.fld 120 5=some (13,5,true):=by kernel_rfl
theorem NC:Sg.byt 120=some 48:=by kernel_rfl
-- 130 [5]int
theorem Na:Sg.ti 130=some (5,true):=by kernel_rfl
theorem Nf:Sg.el 130=some (some 5,3,1,false):=by kernel_rfl
theorem OC:Sg.zero 130=some [.int .i64 0, .int .i64 0, .int .i64 0, .int .i64 0, .int .i64 0]:=by kernel_rfl
theorem MY:Sg.bld 130=some (none,1):=by kernel_rfl
theorem OB:Sg.el 142=some (none,4,1,false):=by kernel_rfl
theorem Nv:Sg.ti 149=some (1,false):=by kernel_rfl
theorem Og:Sg.P.underlying 149=some (.int .u64):=by kernel_rfl
theorem OJ:Sg.ti 156=some (6,true):=by kernel_rfl
theorem Ny:Sg.zero 156=some [.int .u16 0, .int .u16 0, .int .u16 0, .int .u16 0, .int .u16 0, .int .u16 0]:=by kernel_rfl
theorem NV:Sg.bld 156=some (some [(0,3),(3,1),(4,1),(5,1)],0):=by kernel_rfl
theorem Gc:Sg.fld 156 0=some (0,3,true):=by kernel_rfl
theorem Gj:Sg.fld 156 1=some (3,1,false):=by kernel_rfl
theorem Ii:Sg.fld 156 2=some (4,1,false):=by kernel_rfl
theorem HD:Sg.fld 156 3=some (5,1,false):=by kernel_rfl
theorem OL:Sg.zero 176=some [.pointer none, .pointer none, .pointer none, .pointer none, .pointer none]:=by kernel_rfl
theorem Nz:Sg.bld 176=some (none,1):=by kernel_rfl
theorem OG:Sg.P.underlying 177=some (.int .u32):=by kernel_rfl
theorem NH:Sg.el 188=some (some 5,27,1,false):=by kernel_rfl
theorem Ov:Sg.zero 188=some [.int .u16 0, .int .u16 0, .int .u16 0, .int .u16 0, .int .u16 0]:=by kernel_rfl
theorem Oa:Sg.ti 201=some (23,true):=by kernel_rfl
theorem Nb:Sg.zero 201=some [.int .i64 0, .int .i64 0, .int .i64 0, .int .i64 0, .int .i64 0, .int .i64 0, .int .i64 0, .int .u16 0, .int .i64 0, .int .i64 0, .bool false, .bool false, .int .u16 0, .int .u16 0, .int .u16 0, .int .u16 0, .int .u16 0, .int .u16 0, .int .u16 0, .int .u16 0, .int .u16 0, .int .u16 0, .int .u16 0]:=by kernel_rfl
theorem Nd:Sg.bld 201=some (some [(0,12),(12,6),(18,5)],0):=by kernel_rfl
theorem Iq:Sg.fld 201 0=some (0,12,true):=by kernel_rfl
theorem Im:Sg.fld 201 1=some (12,6,true):=by kernel_rfl
theorem Gr:Sg.fld 201 2=some (18,5,true):=by kernel_rfl
theorem NS:Sg.byt 201=some 112:=by kernel_rfl
-- 202 []frame.level
theorem Nm:Sg.ti 202=some (1,false):=by kernel_rfl
theorem Ob:Sg.P.underlying 202=some (.slice 201):=by kernel_rfl
theorem Oz:Sg.el 202=some (none,201,23,true):=by kernel_rfl
theorem NW:Sg.zero 204=some [.int .u16 0, .slice none 0 0]:=by kernel_rfl
theorem MS:Sg.bld 204=some (some [(0,1),(1,1)],0):=by kernel_rfl
theorem GB:Sg.fld 204 0=some (0,1,false):=by kernel_rfl
theorem GJ:Sg.fld 204 1=some (1,1,false):=by kernel_rfl
theorem NT:Sg.P.underlying 214=some (.int .u64):=by kernel_rfl
theorem Oh:Sg.ti 255=some (4,true):=by kernel_rfl
theorem MV:Sg.zero 255=some [.string ⟨#[]⟩, .int .i64 0, .int .i64 0, .int .i64 0]:=by kernel_rfl
theorem NF:Sg.bld 255=some (some [(0,1),(1,1),(2,1),(3,1)],0):=by kernel_rfl
theorem HN:Sg.fld 255 0=some (0,1,false):=by kernel_rfl
theorem Hm:Sg.fld 255 1=some (1,1,false):=by kernel_rfl
theorem Gv:Sg.fld 255 2=some (2,1,false):=by kernel_rfl
theorem Ip:Sg.fld 255 3=some (3,1,false):=by kernel_rfl
theorem NY:Sg.el 258=some (some 13,9,1,false):=by kernel_rfl
theorem Oe:Sg.ti 260=some (2,true):=by kernel_rfl
theorem NA:Sg.zero 260=some [.int .u64 0, .int .u64 0]:=by kernel_rfl
theorem Ox:Sg.bld 260=some (some [(0,1),(1,1)],0):=by kernel_rfl
theorem Hx:Sg.fld 260 0=some (0,1,false):=by kernel_rfl
theorem GK:Sg.fld 260 1=some (1,1,false):=by kernel_rfl
theorem Nu:Sg.ti 262=some (5,true):=by kernel_rfl
theorem NM:Sg.zero 262=some [.int .u64 0, .int .u64 0, .int .u64 0, .int .u64 0, .int .u64 0]:=by kernel_rfl
theorem Ni:Sg.bld 262=some (some [(0,2),(2,1),(3,1),(4,1)],0):=by kernel_rfl
theorem Gp:Sg.fld 262 0=some (0,2,true):=by kernel_rfl
theorem GV:Sg.fld 262 1=some (2,1,false):=by kernel_rfl
theorem GI:Sg.fld 262 2=some (3,1,false):=by kernel_rfl
theorem HQ:Sg.fld 262 3=some (4,1,false):=by kernel_rfl
theorem Om:Sg.el 275=some (some 13,255,4,true):=by kernel_rfl
theorem Ku (g:Nat→PV):cH 1 g=[.p (g 0)]:=rfl
theorem JO (g:Nat→PV):cH 2 g=[.p (g 0), .p (g 1)]:=rfl
theorem Jz (g:Nat→PV):cH 3 g=[.p (g 0), .p (g 1), .p (g 2)]:=rfl
theorem Ms (g:Nat→PV):cH 4 g=[.p (g 0), .p (g 1), .p (g 2), .p (g 3)]:=rfl
theorem JF (g:Nat→PV):cH 5 g=[.p (g 0), .p (g 1), .p (g 2), .p (g 3), .p (g 4)]:=rfl
theorem Lu (g:Nat→PV):cH 6 g=[.p (g 0), .p (g 1), .p (g 2), .p (g 3), .p (g 4), .p (g 5)]:=rfl
theorem GX (g:Nat→PV):cH 10 g=[.p (g 0), .p (g 1), .p (g 2), .p (g 3), .p (g 4), .p (g 5), .p (g 6), .p (g 7), .p (g 8), .p (g 9)]:=rfl
theorem Hh (g:Nat→PV):cH 11 g=[.p (g 0), .p (g 1), .p (g 2), .p (g 3), .p (g 4), .p (g 5), .p (g 6), .p (g 7), .p (g 8), .p (g 9), .p (g 10)]:=rfl
theorem Hq (g:Nat→PV):cH 12 g=[.p (g 0), .p (g 1), .p (g 2), .p (g 3), .p (g 4), .p (g 5), .p (g 6), .p (g 7), .p (g 8), .p (g 9), .p (g 10), .p (g 11)]:=rfl
theorem HC (g:Nat→PV):cH 13 g=[.p (g 0), .p (g 1), .p (g 2), .p (g 3), .p (g 4), .p (g 5), .p (g 6), .p (g 7), .p (g 8), .p (g 9), .p (g 10), .p (g 11), .p (g 12)]:=rfl
theorem Gi (g:Nat→PV):cH 14 g=[.p (g 0), .p (g 1), .p (g 2), .p (g 3), .p (g 4), .p (g 5), .p (g 6), .p (g 7), .p (g 8), .p (g 9), .p (g 10), .p (g 11), .p (g 12), .p (g 13)]:=rfl
theorem GC (g:Nat→PV):cH 18 g=[.p (g 0), .p (g 1), .p (g 2), .p (g 3), .p (g 4), .p (g 5), .p (g 6), .p (g 7), .p (g 8), .p (g 9), .p (g 10), .p (g 11), .p (g 12), .p (g 13), .p (g 14), .p (g 15), .p (g 16), .p (g 17)]:=rfl
theorem Jd (g:Nat→PV):cH 20 g=[.p (g 0), .p (g 1), .p (g 2), .p (g 3), .p (g 4), .p (g 5), .p (g 6), .p (g 7), .p (g 8), .p (g 9), .p (g 10), .p (g 11), .p (g 12), .p (g 13), .p (g 14), .p (g 15), .p (g 16), .p (g 17), .p (g 18), .p (g 19)]:=rfl
theorem HM (g:Nat→PV):cH 23 g=[.p (g 0), .p (g 1), .p (g 2), .p (g 3), .p (g 4), .p (g 5), .p (g 6), .p (g 7), .p (g 8), .p (g 9), .p (g 10), .p (g 11), .p (g 12), .p (g 13), .p (g 14), .p (g 15), .p (g 16), .p (g 17), .p (g 18), .p (g 19), .p (g 20), .p (g 21), .p (g 22)]:=rfl
theorem Gt (g:Nat→PV):cH 28 g=[.p (g 0), .p (g 1), .p (g 2), .p (g 3), .p (g 4), .p (g 5), .p (g 6), .p (g 7), .p (g 8), .p (g 9), .p (g 10), .p (g 11), .p (g 12), .p (g 13), .p (g 14), .p (g 15), .p (g 16), .p (g 17), .p (g 18), .p (g 19), .p (g 20), .p (g 21), .p (g 22), .p (g 23), .p (g 24), .p (g 25), .p (g 26), .p (g 27)]:=rfl
theorem FW (g:Nat→PV):cH 52 g=[.p (g 0), .p (g 1), .p (g 2), .p (g 3), .p (g 4), .p (g 5), .p (g 6), .p (g 7), .p (g 8), .p (g 9), .p (g 10), .p (g 11), .p (g 12), .p (g 13), .p (g 14), .p (g 15), .p (g 16), .p (g 17), .p (g 18), .p (g 19), .p (g 20), .p (g 21), .p (g 22), .p (g 23), .p (g 24), .p (g 25), .p (g 26), .p (g 27), .p (g 28), .p (g 29), .p (g 30), .p (g 31), .p (g 32), .p (g 33), .p (g 34), .p (g 35), .p (g 36), .p (g 37), .p (g 38), .p (g 39), .p (g 40), .p (g 41), .p (g 42), .p (g 43), .p (g 44), .p (g 45), .p (g 46), .p (g 47), .p (g 48), .p (g 49), .p (g 50), .p (g 51)]:=rfl
attribute [go_sem] Rb Rd QX QY Rm QZ Rn Rf Rl Ri QW Re Rk Ps QI OY OX Qt Pl PA Qi PE Qj Lt JU LZ Ma JQ LM JN Mn KR LU QH PC Pq QG Pv PH Po Mx Kz Li JY KW Lw LS KC Kq Mi IW Ie PJ PL Qn JE Ko Ml LF MD MK Mb Kg Ks LG HS Pu QL Qb Kr JC KH Kv OQ Qv Pe Px Qx Pd OS QE OV LH LB Mw Kd JR Lr JH QJ PZ Pj QC Qy Pm Qh Kc Lh LW Qa Qr QN Ql Qp Pk PM OW Kf My LJ JM Pr PO Qq Py Qd JX Md KD Mm KA Pb Qc PK PY PT PR Qs QM OT Qk Pg Pa OZ PG LN Ls Pc Lc LQ KI KX NK MW Ow HR HP FO IJ GU NC Na Nf OC MY OB Nv Og OJ Ny NV Gc Gj Ii HD OL Nz OG NH Ov Oa Nb Nd Iq Im Gr NS Nm Ob Oz NW MS GB GJ NT Oh MV NF HN Hm Gv Ip NY Oe NA Ox Hx GK Nu NM Ni Gp GV GI HQ Om Ku JO Jz Ms JF Lu GX Hh Hq HC Gi GC Jd HM Gt FW
end Go.Proofs.YtmfblbbemekkoaaGreatDoor
set_option linter.unusedSimpArgs false
set_option linter.unusedVariables false
namespace Go.SL
open Go
inductive Tr where
 | leaf
 | nil
 | br (i:Nat) (t r:Tr)
def di (S:Env) (ops:Array Oper) (L:List Oper):Tr→St→(St→Prop)→Prop
 | .leaf,st,K=>K st
 | .nil,_,_=>True
 | .br i t r,st,K=>aK S ops [L.getD i default] st (fun s=>di S ops L t s K)∧di S ops L r st K
def cI:Tr→List Nat
 | .br i _ r=>i :: cI r
 | _=>[]
def eB:Tr→Nat
 | .br _ t r=>max (eB t+1) (eB r)
 | _=>0
section
variable {S:Env} {l:List Oper}
theorem yk {ops:Array Oper} {L:List Oper} {st:St} {K:St→Prop}:di S ops L .leaf st K=K st:=rfl
theorem AO {ops:Array Oper} {L:List Oper} {st:St} {K:St→Prop}:di S ops L .nil st K=True:=rfl
theorem Ds {ops:Array Oper} {L:List Oper} {st:St} {K:St→Prop} {i:Nat} {t r:Tr}:di S ops L (.br i t r) st K=(aK S ops [L.getD i default] st (fun s=>di S ops L t s K)∧di S ops L r st K):=rfl
end
theorem Hv {x:Oper} {r:List Oper}:(x :: r).getD 0 default=x:=rfl
theorem Iv {x:Oper} {r:List Oper} {i:Nat}:(x :: r).getD (i+1) default=r.getD i default:=rfl
attribute [go_sem] yk AO Ds Hv Iv
end Go.SL
namespace Go.SL
open Go
def vG (f:FuncId) (l:List SV):Option (Prop × SV) :=
 match fD l with
 | some ps=>some (True, .b (.c (.clo f ps)))
 | none=>none
def BJ (S:Env) (st:St) (v:SV) (args:List BV) {K:SV→St→Prop} (_:Sl K):Prop :=
 match lC v with
 | some (f,xs)=>CallP S st f (args ++ xs) K
 | none=>False
section
variable {S:Env} {ops:Array Oper} {rest:List Oper} {st:St} {K:St→Prop} {d:Option Nat} {ty:TypeId} {pos:String} {af:Array Edge}
theorem GN {f : FuncId} {ps : List (Nat × Nat)} {args : List BV} {K : SV → St → Prop} :
  BJ S st (.b (.c (.clo f ps))) args (Sl.of K)=dj S st f (args ++ ps.map fun p => .c (.ptr p.1 p.2)) (Sl.of K):=rfl
theorem GP {f n : Nat} {sz : Nat → Nat} {g : Nat → Nat → PV} {args : List BV} {K : SV → St → Prop} :
  BJ S st (.b (.c (.p (.fn f n sz g)))) args (Sl.of K)=dj S st f (args ++ (List.range n).map fun i => .c (.ipt (sz i) (g i) 0)) (Sl.of K):=rfl
theorem DV {f : FuncId} {args : List BV} {K : SV → St → Prop} :
  BJ S st (.b (.c (.p (.val (.func (.func f) #[] #[]))))) args (Sl.of K)=dj S st f args (Sl.of K):=by
 unfold BJ lC
 simp only [and_self,if_true,List.append_nil]
 rfl
theorem yp {f : FuncId} {cap : Array Operand} : aK S ops (⟨d, .makeFunc (.func f) #[] cap, ty, pos, af, none⟩ :: rest) st K =
  rk (vG f (cap.toList.map fun x=>(st.ev S x).strip)) (aI (cap.toList.map (st.ev S))) (Sl.of fun r=>aK S ops rest (st.set d r) K):=by
 simp only [aK,dD]
 rw [ch (by simp) (by simp) (by simp) (fun _=>rfl)]
 have e:aP S st.bx (st.ev S) (.makeFunc (.func f) #[] cap)=vG f (cap.toList.map fun x=>(st.ev S x).strip):=by
  simp only [aP,vG]
  split
  ·rename_i h1 h2 h3;cases h1;rw [h3]
  ·rename_i h;split
   ·rename_i ps hp;exact absurd hp (h f ps rfl rfl)
   ·rfl
 rw [e]
 simp [Op.operands]
theorem Oq {t : Tmp} {args : Array Operand} {ts : Array TypeId} : aK S ops (⟨d, .call ⟨.value (.tmp t), args, ts⟩, ty, pos, af, none⟩ :: rest) st K =
  (((st.fr t).cond∧aI (args.toList.map (st.ev S)))∧BJ S st (st.fr t).strip (args.toList.map fun x=>cM (st.ev S x)) (Sl.of fun r st'=>aK S ops rest (st'.set d r) K)):=by
 simp only [aK,dD]
 rw [pD (by simp [ro,aP])]
 simp only [Op.operands,Call.operands,cu,BJ]
 have e:aI ((#[Operand.tmp t] ++ args).toList.map (st.ev S))=((st.fr t).cond∧aI (args.toList.map (st.ev S))):=by simp [aI,St.ev]
 rw [e]
 rfl
theorem DH:fD []=some []:=rfl
theorem BX {id off:Nat} {r:List SV}:fD (.b (.c (.ptr id off)) :: r)=(fD r).map fun l=>(id,off) :: l:=rfl
theorem KS {nx:Nat} {f:Nat} {ps:List (Nat × Nat)}:CV.lt nx (.clo f ps)=(ps.all fun p=>Nat.blt p.1 nx):=by
 simp [CV.lt]
end
def aA (n:Nat) (x:Bx) (b:Nat→Option Bx):Nat→Option Bx:=fun i=>if i=n then some x else b i
def dY (n:Nat) (b:Nat→Option Bx):Nat→Option Bx:=fun i=>if i=n then none else b i
theorem gE {st:St} {d:Option Nat} {v:SV}:(st.set d v).bx=st.bx:=by cases d <;> rfl
theorem dr {st:St} {x:Bx}:(st.newBox x).bx=aA st.nx x st.bx:=rfl
theorem dt {st:St} {id:Nat} {x:Bx}:(st.setBox id x).bx=aA id x st.bx:=rfl
theorem du {st:St} {id:Nat}:(st.delBox id).bx=dY id st.bx:=rfl
theorem Me {st:St} {d:Option Nat} {v:SV}:(st.set d v).kf=st.kf:=by cases d <;> rfl
theorem Cq {st:St} {x:Bx}:(st.newBox x).kf=st.kf:=rfl
theorem BO {st:St} {id:Nat} {x:Bx}:(st.setBox id x).kf=st.kf:=rfl
theorem Co {st:St} {id:Nat}:(st.delBox id).kf=st.kf:=rfl
theorem jW {n i:Nat} {x:Bx} {b:Nat→Option Bx}:aA n x b i=if i=n then some x else b i:=rfl
theorem jX {n i:Nat} {b:Nat→Option Bx}:dY n b i=if i=n then none else b i:=rfl
def Ce (args:List BV) (bx:Nat→Option Bx) (nx:Nat) (kf:Nat→SV):St:=⟨gp args 0,bx,nx,kf⟩
def St.turn (st:St) (bx:Nat→Option Bx) (nx:Nat):St:=⟨st.fr,bx,nx,st.kf⟩
theorem Kb {args:List BV} {bx:Nat→Option Bx} {nx:Nat} {kf:Nat→SV} {s:Nat}:(Ce args bx nx kf).fr s=gp args 0 s:=rfl
theorem jN {args:List BV} {bx:Nat→Option Bx} {nx:Nat} {kf:Nat→SV}:(Ce args bx nx kf).bx=bx:=rfl
theorem jJ {args:List BV} {bx:Nat→Option Bx} {nx:Nat} {kf:Nat→SV}:(Ce args bx nx kf).nx=nx:=rfl
theorem JZ {args:List BV} {bx:Nat→Option Bx} {nx:Nat} {kf:Nat→SV}:(Ce args bx nx kf).kf=kf:=rfl
theorem IS {st:St} {bx:Nat→Option Bx} {nx:Nat} {s:Nat}:(st.turn bx nx).fr s=st.fr s:=rfl
theorem gD {st:St} {bx:Nat→Option Bx} {nx:Nat}:(st.turn bx nx).bx=bx:=rfl
theorem gB {st:St} {bx:Nat→Option Bx} {nx:Nat}:(st.turn bx nx).nx=nx:=rfl
theorem Jb {st:St} {bx:Nat→Option Bx} {nx:Nat}:(st.turn bx nx).kf=st.kf:=rfl
def Ia (S:Env) (st:St):ResultVar→Option (Prop × BV)
 | .tmp t=>match st.fr t with
  | .b x=>some (True,x)
  | _=>none
 | .cell p t=>match ct S t st.bx (st.fr p) with
  | some (vc, .b x)=>some (vc,x)
  | _=>none
def gy (S:Env) (st:St):List ResultVar→Option (Prop × List BV)
 | []=>some (True,[])
 | r :: l=>match Ia S st r,gy S st l with
  | some (p,x),some (q,xs)=>some (p∧q,x :: xs)
  | _,_=>none
def CI:List BV→SV
 | [x] => .b x
 | l => .tup l
def EV (S:Env) (rs:List ResultVar) (X:SV) (bx':Nat→Option Bx) (nx':Nat) (kf:Nat→SV) (st:St):Prop :=
 match gy S st rs with
 | some (p,xs)=>p∧CI xs=X∧st.bx=bx'∧st.nx=nx'∧st.kf=kf∧X.lt nx'
 | none=>False
def MX (S:Env) (rs:List ResultVar) (X:SV) (bx':Nat→Option Bx) (nx':Nat) (kf:Nat→SV):AExit→St→Prop
 | .ret,st=>EV S rs X bx' nx' kf st
 | .normal,st=>EV S rs X bx' nx' kf st
 | _,_=>False
theorem Eb {S:Env} {rs:List ResultVar} {X:SV} {bx':Nat→Option Bx} {nx':Nat} {kf:Nat→SV} {st:St}:MX S rs X bx' nx' kf .ret st=EV S rs X bx' nx' kf st:=rfl
theorem xY {S:Env} {rs:List ResultVar} {X:SV} {bx':Nat→Option Bx} {nx':Nat} {kf:Nat→SV} {st:St}:MX S rs X bx' nx' kf .normal st=EV S rs X bx' nx' kf st:=rfl
section
variable {S:Env} {E:Ent} {st:St} {ρ:ey} {a:Act} {w:World}
theorem DB {r:ResultVar} {p:Prop} {x:BV} (h:Ia S st r=some (p,x)) (hp:p) (g:Gam S E st ρ a w):∃ v,oc S.P a.tmps w r v∧bu ρ (bj E st.bx ρ w) w x v:=by
 unfold Ia at h
 split at h
 ·rename_i t
  have hs:=g.slt t
  split at h
  ·rename_i y hy
   rw [hy] at hs
   simp only [Option.some.injEq,Prod.mk.injEq] at h
   obtain ⟨_,rfl⟩:=h
   exact ⟨_,rfl,hs⟩
  ·simp at h
 ·rename_i q t
  split at h
  ·rename_i vc y hl
   simp only [Option.some.injEq,Prod.mk.injEq] at h
   obtain ⟨rfl,rfl⟩:=h
   obtain ⟨v,hr,hv,_⟩:=rD hl hp g (g.slt q)
   refine ⟨v, ?_,hv⟩
   unfold oc nA
   simp only [Instr.loadAt,Sem.run_bind] at hr ⊢
   cases hq:a.tmps.getD q undef <;> simp only [hq,Instr.sureAddr,run_stuck,Result.andThen_halt,reduceCtorEq] at hr
   rename_i ad
   cases ad with
   | none=>simp [Instr.sureAddr] at hr
   | some ad=>simpa [asAddr,Instr.sureAddr] using hr
  ·simp at h
theorem fT (g : Gam S E st ρ a w) : ∀ {rs : List ResultVar} {p : Prop} {xs : List BV},
  gy S st rs=some (p,xs)→p→∃ vs:List Value,(rs.mapM (nA a.tmps)).run S.P w = .ok vs w∧vs.length=xs.length∧∀ j,bu ρ (bj E st.bx ρ w) w (xs.getD j .any) (vs.getD j undef)
 | [],p,xs,h,_=>by
  simp only [gy,Option.some.injEq,Prod.mk.injEq] at h
  obtain ⟨_,rfl⟩:=h
  exact ⟨[],by simp,rfl,fun j=>by simp [bu,bB,aV]⟩
 | r :: rs,p,xs,h,hp=>by
  simp only [gy] at h
  split at h
  ·rename_i p1 x1 p2 xs2 h1 h2
   simp only [Option.some.injEq,Prod.mk.injEq] at h
   obtain ⟨rfl,rfl⟩:=h
   obtain ⟨v,hv,hd⟩:=DB h1 hp.1 g
   obtain ⟨vs,hvs,hl,hds⟩:=fT g h2 hp.2
   refine ⟨v :: vs, ?_,by simp [hl],fun j => ?_⟩
   ·unfold oc at hv
    rw [List.mapM_cons]
    simp only [Sem.run_bind,hv,Result.andThen_ok,hvs,Sem.run_pure]
   ·cases j with
    | zero=>exact hd
    | succ j=>exact hds j
  ·simp at h
theorem mY {fn : Func} {xs : List BV} {vs : List Value} {ok : Nat → Prop} (hvs : (fn.results.toList.mapM (nA a.tmps)).run S.P w = .ok vs w) (hl : vs.length = xs.length)
  (hd:∀ j,bu ρ ok w (xs.getD j .any) (vs.getD j undef)):∃ v,(results fn a.tmps).run S.P w = .ok v w∧aU ρ ok w (CI xs) v:=by
 refine ⟨_,iC hvs, ?_⟩
 match vs,xs,hl with
 | [],[],_=>exact ⟨#[],rfl,rfl,fun j=>by simpa using hd j⟩
 | [v],[x],_=>exact hd 0
 | v :: v2 :: vs, x :: x2 :: xs, hl => exact ⟨(v :: v2 :: vs).toArray, rfl, by simpa using hl, fun j => by
   have e:(v :: v2 :: vs).toArray.getD j undef=(v :: v2 :: vs).getD j undef:=by simp [List.getD_eq_getElem?_getD]
   rw [e];exact hd j⟩
theorem dd {f : FuncId} {args : List BV} {K : SV → St → Prop} {X : SV} {bx' : Nat → Option Bx} {nx' : Nat} (h : kR S st.bx st.nx f args X bx' nx') (hr : S.rcv f = true) (hw : ∀ i, nx' ≤ i → bx' i = none) (hn : st.nx ≤ nx')
  (hk:K X (st.turn bx' nx')):dj S st f args (Sl.of K) := .inl X bx' nx' h hr hw hk hn
end
def yq (rs:List ResultVar) (e sz n:Nat) (g:Nat→Nat→PV) (st:St):Prop :=
 match rs with
 | [.tmp t]=>match st.fr t with
  | .b (.c (.own id n'))=>∃ f,st.bx id=some (.arr e sz n f)∧n'=n∧∀ i,i<n→∀ j,j<sz→∃ u,f i j = .val u∧g i j = .val u
  | _=>False
 | _=>False
def Lx (rs:List ResultVar) (e sz n:Nat) (g:Nat→Nat→PV):AExit→St→Prop
 | .ret,st=>yq rs e sz n g st
 | .normal,st=>yq rs e sz n g st
 | _,_=>False
theorem Dt {rs:List ResultVar} {e sz n:Nat} {g:Nat→Nat→PV} {st:St}:Lx rs e sz n g .ret st=yq rs e sz n g st:=rfl
theorem xN {rs:List ResultVar} {e sz n:Nat} {g:Nat→Nat→PV} {st:St}:Lx rs e sz n g .normal st=yq rs e sz n g st:=rfl
theorem EJ {S : Env} {f : FuncId} {fn : Func} {c : Code} {rs : List ResultVar} {args : List BV} {e sz n : Nat} {g : Nat → Nat → PV} (hf : S.P.funcs[f]? = some fn) (hb : fn.body = some c) (hrs : fn.results.toList = rs) (hname : (fn.name == "runtime.NumGoroutine") = false)
  (hm:S.P.follows .mixedOrders=true) (hN:cf fn.ntmps c=true) (hlen:args.length≤fn.ntmps) (hl:∀ x ∈ args,BV.lt 0 x) (h:cw S c (Lx rs e sz n g) (pZ args)):kj S f args e sz n g:=by
 subst hrs
 refine ⟨⟨fn,hf,hname,by rw [hb];rfl⟩,fun ok w vs hok hgl hsz hden => ?_⟩
 refine calls_of_wp hf hb ?_
 let E:Ent := { w0:=w,ok0:=ok,rx:=none,N:=fn.ntmps }
 have hokA:∀ b,ok b→bj E (fun _=>none) bo w b:=fun b hb=>⟨hok b hb,fun _=>hb,fun _ h=>absurd rfl h⟩
 have hk:dQ ok (bj E (fun _=>none) bo w) w w:=fun b hb=>⟨hokA b hb,fun _=>rfl⟩
 have g0:Gam S E (pZ args) bo { tmps:=vs ++ Array.replicate (fn.ntmps - vs.size) undef,defers:=[] } w:=by
  refine ⟨rfl,by simp [E];omega,⟨rfl,rfl,rfl,Nat.le_refl _,fun _ _ _=>rfl,fun _ _ _ h=>(by cases h)⟩,fun s => ?_,fun _ _ h=>(by cases h),fun _ _ h=>(by cases h),fun _ _ _ h=>(by cases h),fun _ _ _ h=>absurd rfl h,
   fun _ _ _ h=>(by cases h),fun s => ?_,fun gg n f hg => ?_,fun s=>⟨trivial,trivial⟩⟩
  ·simp only [pZ,bA]
   split
   ·rename_i hs
    refine hl _ ?_
    rw [List.getD_eq_getElem?_getD,List.getElem?_eq_getElem (by omega)];exact List.getElem_mem _
   ·trivial
  ·simp only [pZ,bA]
   split
   ·rename_i hs
    have e:(vs ++ Array.replicate (fn.ntmps - vs.size) undef).getD s undef=vs.getD s undef:=by
     have:s<vs.size:=by omega
     simp [this]
     rw [Array.getElem?_append_left this]
     simp [this]
    rw [e]
    exact bu.mono (nx:=0) hk (fun _ _=>rfl) (hl _ (by rw [List.getD_eq_getElem?_getD,List.getElem?_eq_getElem (by omega)];exact List.getElem_mem _)) (hden (s - 0))
   ·trivial
  ·obtain ⟨h1,h2⟩:=hgl gg n f hg
   refine ⟨hokA gg h1,fun j hj => ?_⟩
   obtain ⟨x,hx,h3,hd⟩:=h2 j hj
   exact ⟨x,hx,h3,aV.mono hk hd⟩
 have fin : ∀ {a' : Act} {w' : World}, iZ S E (yq fn.results.toList e sz n g) a' w' → a'.defers = [] ∧ ∃ v, (results fn a'.tmps).run S.P w' = .ok v w' ∧
   ∃ v2 xs,Ending.returned v = .returned v2∧RowKit.Below w.heap.size w w'∧0<sz∧w'.ownsRow w.heap.size e sz v2 n xs∧(∀ x ∈ xs,x.oneCell'=true) ∧
    ∀ i,i<n→∀ j,j<sz→aV (fun _=>False) w' (g i j) (xs.getD (i * sz+j) undef):=fun {a' w'} ⟨st',ρ',g',hq⟩=>by
  unfold yq at hq
  split at hq
  ·rename_i t hrs
   split at hq
   ·rename_i id n' hfr
    obtain ⟨f2,hbx,rfl,hgf⟩:=hq
    have hs:=g'.slt t
    rw [hfr] at hs
    obtain ⟨A,m,cp,hr,h1,h2,h3,hu⟩:=hs
    obtain ⟨h0,xs,hown,hone,hd⟩:=g'.bxs id _ hbx
    have hmn:m=n':=by
     rcases hown.2 with ⟨e1,e2⟩|⟨b,cap,cur,e1,_⟩
     ·rw [hr] at e1;simp only [Value.slice.injEq] at e1;omega
     ·rw [hr] at e1;simp only [Value.slice.injEq] at e1;omega
    subst hmn
    have hv:a'.tmps.getD t undef=ρ' id:=by rw [hu,hr]
    have hres:(fn.results.toList.mapM (nA a'.tmps)).run S.P w' = .ok [ρ' id] w':=by
     rw [hrs,← hv];rfl
    refine ⟨g'.dfr,ρ' id,iC hres,ρ' id,xs,rfl,⟨g'.frm.os,g'.frm.tape,g'.frm.output,g'.frm.size,fun k hk=>g'.frm.block k hk (fun _ _ h=>by cases h)⟩,h0,⟨hown.1, ?_⟩,hone,fun i hi j hj => ?_⟩
    ·rcases hown.2 with h|⟨b,cap,cur,e1,e2,e3⟩
     ·exact .inl h
     ·refine .inr ⟨b,cap,cur,e1, ?_,e3⟩
      rcases (g'.new id _ b hbx (by rw [e1];rfl)).2 with h|⟨_,_,_,h,_⟩
      ·exact h
      ·cases h
    ·obtain ⟨u,e1,e2⟩:=hgf i hi j hj
     have:=hd i hi j hj
     rw [e1] at this
     rw [e2]
     exact this
   ·exact hq.elim
  ·exact hq.elim
 refine wp_mono (cQ hm c hN h g0) fun e a' w' hq => ?_
 cases e with
 | normal=>exact fin hq
 | ret=>exact fin hq
 | exit id=>obtain ⟨_,_,_,h⟩:=hq;exact h.elim
 | _=>exact hq.elim
theorem Av {S : Env} {st : St} {f : FuncId} {args : List BV} {K : SV → St → Prop} {e sz n : Nat} {g : Nat → Nat → PV} (h : kj S f args e sz n g) (hk : K (.b (.c (.own st.nx n))) (st.newBox (.arr e sz n g)))
  (hr:S.rcv (f+2000000)=true:=by rfl) (hl:eA args:=by simp (maxSteps:=999999)(disch:=omega) only [go_sem]) (ha:args.map (dg st.bx)=args:=by simp (maxSteps:=999999)(disch:=omega) only [go_sem]):dj S st f args (Sl.of K) := .own args e sz n g h (by rw [ha];exact cG _) (bL hl) hr hk
def nO (bx:Nat→Option Bx) (id off:Nat):Option (Nat × (Nat→PV)) :=
 match bx id with
 | some (.fix cs)=>if off≤cs.length then some (cs.length - off,fun j=>(dH bx (cs.getD (off+j) .any)).toP) else none
 | _=>none
def sy (bx:Nat→Option Bx) (p:Nat × Nat):Nat × (Nat→PV):=(nO bx p.1 p.2).getD (0,fun _ => .any)
def yn (bx:Nat→Option Bx):CV→CV
 | .ptr id off=>match nO bx id off with
  | some (n,g) => .ipt n g 0
  | none => .ptr id off
 | .clo f ps=>if ps.all (fun p=>(nO bx p.1 p.2).isSome)=true then .p (.fn f ps.length (fun i=>(sy bx (ps.getD i (0,0))).1) (fun i=>(sy bx (ps.getD i (0,0))).2)) else .clo f ps
 | x=>dH bx x
def sS (bx:Nat→Option Bx):BV→BV
 | .c x => .c (yn bx x)
 | .agg cs => .agg (cs.map (yn bx))
def yv (S:Env) (rs:List ResultVar) (R:SV→Prop) (st:St):Prop :=
 match gy S st rs with
 | some (p,xs)=>p∧(∀ x ∈ xs.map (sS st.bx),BV.lt 0 x)∧R (CI (xs.map (sS st.bx)))
 | none=>False
def FE (S:Env) (rs:List ResultVar) (R:SV→Prop):AExit→St→Prop
 | .ret,st=>yv S rs R st
 | .normal,st=>yv S rs R st
 | _,_=>False
theorem Cf {S:Env} {rs:List ResultVar} {R:SV→Prop} {st:St}:FE S rs R .ret st=yv S rs R st:=rfl
theorem vb {S:Env} {rs:List ResultVar} {R:SV→Prop} {st:St}:FE S rs R .normal st=yv S rs R st:=rfl
section
variable {S:Env} {E:Ent} {st:St} {ρ:ey} {a:Act} {w:World}
theorem DO {x:CV} {u:Value} {ok:Nat→Prop} (h:bB ρ ok w x u):aV ok w x.toP u:=by
 cases x with
 | p x=>exact h
 | _=>trivial
theorem pX {id off n : Nat} {g : Nat → PV} {u : Value} {ok : Nat → Prop} (G : Gam S E st ρ a w) (hrx : E.rx = none) (hok : ∀ b, bj E st.bx ρ w b → ok b) (hnew : ∀ b, b < w.heap.size → E.w0.heap.size ≤ b → ok b)
  (ho:nO st.bx id off=some (n,g)) (h:∃ b o,ρ id = .pointer (some ⟨b,o,none⟩)∧u = .pointer (some ⟨b,o+off,none⟩)) :
  ∃ b o,u = .pointer (some ⟨b,o,none⟩)∧ok b∧∀ j,j<n→∃ x,w.cell? ⟨b,o+j,none⟩=some x∧x.oneCell'=true∧aV ok w (g j) x:=by
 unfold nO at ho
 split at ho
 ·rename_i cs hb
  split at ho
  ·rename_i hoff
   simp only [Option.some.injEq,Prod.mk.injEq] at ho
   obtain ⟨rfl,rfl⟩:=ho
   obtain ⟨b,o,hr,hu⟩:=h
   obtain ⟨b2,o2,cells,t,hv,hh,hs,h1,hd⟩:=G.bxs id _ hb
   rw [hr] at hv
   simp only [Value.pointer.injEq,Option.some.injEq,Addr.mk.injEq,and_true] at hv
   obtain ⟨rfl,rfl⟩:=hv
   have hge:E.w0.heap.size≤b:=by
    rcases (G.new id _ b hb (by rw [hr];rfl)).2 with h|⟨o3,cs3,_,_,e⟩
    ·exact h
    ·rw [hrx] at e;cases e
   refine ⟨b,o+off,hu,hnew b (bq hh) hge,fun j hj=>⟨cells.getD (o+off+j) undef,bn hh (by omega), ?_, ?_⟩⟩
   ·rw [Nat.add_assoc];exact h1 _ (by omega)
   ·have:=hd (off+j)
    rw [← Nat.add_assoc] at this
    exact DO (lH G hok hnew this)
  ·cases ho
 ·cases ho
theorem wE {x : CV} {u : Value} {ok : Nat → Prop} (G : Gam S E st ρ a w) (hrx : E.rx = none) (hok : ∀ b, bj E st.bx ρ w b → ok b) (hnew : ∀ b, b < w.heap.size → E.w0.heap.size ≤ b → ok b)
  (h:bB ρ (bj E st.bx ρ w) w x u):bB ρ ok w (yn st.bx x) u:=by
 unfold yn
 split
 ·split
  ·rename_i id off n g ho
   obtain ⟨b,o,h1,h2,h3⟩:=pX G hrx hok hnew ho h
   exact ⟨b,o,h1,h2,h3⟩
  ·exact h
 ·rename_i f ps
  split
  ·rename_i hall
   obtain ⟨vs,hu,hs,hc⟩:=h
   refine ⟨vs,hu,hs,fun i hi => ?_⟩
   have hm:ps.getD i (0,0) ∈ ps:=by rw [List.getD_eq_getElem?_getD,List.getElem?_eq_getElem hi];exact List.getElem_mem hi
   have hq:=List.all_eq_true.1 hall _ hm
   obtain ⟨q,hq⟩:=Option.isSome_iff_exists.1 hq
   have:=pX (n:=q.1) (g:=q.2) G hrx hok hnew hq (hc i hi)
   have e:sy st.bx (ps.getD i (0,0))=q:=by unfold sy;rw [hq];rfl
   dsimp only
   rw [e]
   exact this
  ·exact h
 ·exact lH G hok hnew h
theorem Er {x : BV} {u : Value} {ok : Nat → Prop} (G : Gam S E st ρ a w) (hrx : E.rx = none) (hok : ∀ b, bj E st.bx ρ w b → ok b) (hnew : ∀ b, b < w.heap.size → E.w0.heap.size ≤ b → ok b)
  (h:bu ρ (bj E st.bx ρ w) w x u):bu ρ ok w (sS st.bx x) u:=by
 cases x with
 | c x=>exact wE G hrx hok hnew h
 | agg cs =>
  obtain ⟨us,rfl,hs,h1,hd⟩:=h
  refine ⟨us,rfl,by simp [hs],h1,fun j => ?_⟩
  by_cases hj:j<cs.length
  ·have e:(cs.map (yn st.bx)).getD j .any=yn st.bx (cs.getD j .any):=by simp [List.getD_eq_getElem?_getD,hj]
   rw [e]
   exact wE G hrx hok hnew (hd j)
  ·rw [List.getD_eq_getElem?_getD,List.getElem?_eq_none (by simp;omega)];trivial
theorem xJ {f : FuncId} {fn : Func} {c : Code} {rs : List ResultVar} {args : List BV} {R : SV → Prop} (hf : S.P.funcs[f]? = some fn) (hb : fn.body = some c) (hrs : fn.results.toList = rs) (hname : (fn.name == "runtime.NumGoroutine") = false)
  (hm:S.P.follows .mixedOrders=true) (hN:cf fn.ntmps c=true) (hlen:args.length≤fn.ntmps) (hl:∀ x ∈ args,BV.lt 0 x) (h:cw S c (FE S rs R) (pZ args)):aD S f args R:=by
 subst hrs
 refine ⟨⟨fn,hf,hname,by rw [hb];rfl⟩,fun ok w vs hok hgl hsz hden => ?_⟩
 refine calls_of_wp hf hb ?_
 let E:Ent := { w0:=w,ok0:=ok,rx:=none,N:=fn.ntmps }
 have hokA:∀ b,ok b→bj E (fun _=>none) bo w b:=fun b hb=>⟨hok b hb,fun _=>hb,fun _ h=>absurd rfl h⟩
 have hk:dQ ok (bj E (fun _=>none) bo w) w w:=fun b hb=>⟨hokA b hb,fun _=>rfl⟩
 have g:Gam S E (pZ args) bo { tmps:=vs ++ Array.replicate (fn.ntmps - vs.size) undef,defers:=[] } w:=by
  refine ⟨rfl,by simp [E];omega,⟨rfl,rfl,rfl,Nat.le_refl _,fun _ _ _=>rfl,fun _ _ _ h=>(by cases h)⟩,fun s => ?_,fun _ _ h=>(by cases h),fun _ _ h=>(by cases h),fun _ _ _ h=>(by cases h),fun _ _ _ h=>absurd rfl h,
   fun _ _ _ h=>(by cases h),fun s => ?_,fun gg n f hg => ?_,fun s=>⟨trivial,trivial⟩⟩
  ·simp only [pZ,bA]
   split
   ·rename_i hs
    refine hl _ ?_
    rw [List.getD_eq_getElem?_getD,List.getElem?_eq_getElem (by omega)];exact List.getElem_mem _
   ·trivial
  ·simp only [pZ,bA]
   split
   ·rename_i hs
    have e:(vs ++ Array.replicate (fn.ntmps - vs.size) undef).getD s undef=vs.getD s undef:=by
     have:s<vs.size:=by omega
     simp [this]
     rw [Array.getElem?_append_left this]
     simp [this]
    rw [e]
    exact bu.mono (nx:=0) hk (fun _ _=>rfl) (hl _ (by rw [List.getD_eq_getElem?_getD,List.getElem?_eq_getElem (by omega)];exact List.getElem_mem _)) (hden (s - 0))
   ·trivial
  ·obtain ⟨h1,h2⟩:=hgl gg n f hg
   refine ⟨hokA gg h1,fun j hj => ?_⟩
   obtain ⟨x,hx,h3,hd⟩:=h2 j hj
   exact ⟨x,hx,h3,aV.mono hk hd⟩
 have fin : ∀ {a' : Act} {w' : World}, iZ S E (yv S fn.results.toList R) a' w' → a'.defers = [] ∧ ∃ v, (results fn a'.tmps).run S.P w' = .ok v w' ∧
   ∃ v2 r,Ending.returned v = .returned v2∧R r∧SV.lt 0 r∧RowKit.Below w.heap.size w w'∧aU bo (EO ok w w') w' r v2:=fun {a' w'} ⟨st',ρ',g',hq⟩=>by
  unfold yv at hq
  split at hq
  ·rename_i p xs hr
   obtain ⟨hp,hl2,hR⟩:=hq
   obtain ⟨vs2,hvs,hlv,hd⟩:=fT g' hr hp
   have hd2:∀ j,bu bo (EO ok w w') w' ((xs.map (sS st'.bx)).getD j .any) (vs2.getD j undef):=fun j=>by
    by_cases hj:j<xs.length
    ·have e:(xs.map (sS st'.bx)).getD j .any=sS st'.bx (xs.getD j .any):=by simp [List.getD_eq_getElem?_getD,hj]
     have hm:(xs.map (sS st'.bx)).getD j .any ∈ xs.map (sS st'.bx):=by rw [List.getD_eq_getElem?_getD,List.getElem?_eq_getElem (by simpa using hj)];exact List.getElem_mem _
     refine dP (ρ:=ρ') (hl2 _ hm) ?_
     rw [e]
     exact Er g' rfl (fun b hb=>⟨hb.1,hb.2.1⟩) (fun b h1 h2=>⟨h1,fun h3=>by have:w.heap.size≤b:=h2;omega⟩) (hd j)
    ·rw [List.getD_eq_getElem?_getD,List.getElem?_eq_none (by simpa using hj)];trivial
   obtain ⟨v,hv1,hv2⟩:=mY hvs (by simpa using hlv) hd2
   refine ⟨g'.dfr,v,hv1,v,_,rfl,hR, ?_,⟨g'.frm.os,g'.frm.tape,g'.frm.output,g'.frm.size,fun k hk=>g'.frm.block k hk (fun _ _ h=>by cases h)⟩,hv2⟩
   generalize xs.map (sS st'.bx)=l at hl2
   match l,hl2 with
   | [],_=>exact fun x hx=>by simp at hx
   | [x],hl2=>exact hl2 x (List.mem_cons_self ..)
   | x :: y :: l,hl2=>exact hl2
  ·exact hq.elim
 refine wp_mono (cQ hm c hN h g) fun e a' w' hq => ?_
 cases e with
 | normal=>exact fin hq
 | ret=>exact fin hq
 | exit id=>obtain ⟨_,_,_,h⟩:=hq;exact h.elim
 | _=>exact hq.elim
end
attribute [go_sem ↓] yp Oq
attribute [go_sem] GN GP DV vG DH BX KS List.all_cons List.all_nil jW jX Kb jN jJ IS gD gB Eb xY EV gy Ia CI Me Cq BO Co JZ Jb Cf vb yv Dt xN yq sS yn nO sy
end Go.SL
namespace Go.SL
open Go
def sv (o:Oper):Bool:=o.guard.isNone && match o.op with
 | .alloc _=>true
 | .box _ _=>true
 | .makeSlice _ _ _=>true
 | _=>false
def uZ (o:Oper):Bool:=o.guard.isNone && o.dst.isNone && match o.op with
 | .store _ _ _=>true
 | _=>false
def pM (ops:Array Oper) (x y:Oper):Bool:=(match y.dst with|some d => !(bD ops x).contains d|none=>true) && uZ x && sv y
section
variable {S:Env} {ops:Array Oper} {st s1 s2 s':St}
theorem Fw {o:Oper} (ha:sv o=true) (h:Ex S ops st o s'):∃ z r,s'=(st.newBox z).set o.dst r∧∀ st2:St,st2.fr=st.fr→st2.nx=st.nx→Ex S ops st2 o ((st2.newBox z).set o.dst r):=by
 simp only [sv,Bool.and_eq_true,Option.isNone_iff_eq_none] at ha
 obtain ⟨hg,ha⟩:=ha
 have hev:∀ st2:St,st2.fr=st.fr→st2.ev S=st.ev S:=fun st2 hf=>by
  funext x
  cases x <;> simp [St.ev,hf]
 unfold Ex dD at h
 rw [hg] at h
 simp only [gM] at h
 split at ha
 ·rename_i t ho
  rw [ho] at h
  simp only [show ro S st.bx (st.ev S) (.alloc t)=none from rfl,cu] at h
  split at h
  ·rename_i z hz
   refine ⟨_,_,h.2.symm,fun st2 hf hn => ?_⟩
   unfold Ex dD
   rw [hg]
   simp only [gM,ho,show ro S st2.bx (st2.ev S) (.alloc t)=none from rfl,cu,hev st2 hf,hn,hz]
   exact ⟨h.1,trivial⟩
  ·exact h.2.elim
 ·rename_i t x ho
  rw [ho] at h
  simp only [show ro S st.bx (st.ev S) (.box t x)=none from rfl,cu] at h
  split at h
  ·rename_i v hz
   refine ⟨_,_,h.2.2.symm,fun st2 hf hn => ?_⟩
   unfold Ex dD
   rw [hg]
   simp only [gM,ho,show ro S st2.bx (st2.ev S) (.box t x)=none from rfl,cu,hev st2 hf,hn,hz]
   exact ⟨h.1,h.2.1,trivial⟩
  ·exact h.2.elim
 ·rename_i t l c ho
  rw [ho] at h
  simp only [show ro S st.bx (st.ev S) (.makeSlice t l c)=none from rfl,cu] at h
  split at h
  ·rename_i q1 q2 q3
   split at h
   ·rename_i q4 q5
    refine ⟨_,_,h.2.2.symm,fun st2 hf hn => ?_⟩
    unfold Ex dD
    rw [hg]
    simp only [gM,ho,show ro S st2.bx (st2.ev S) (.makeSlice t l c)=none from rfl,cu,hev st2 hf,hn,q1,q2,q3,q4,q5]
    exact ⟨h.1,h.2.1,trivial⟩
   ·exact h.2.elim
  ·exact h.2.elim
 ·cases ha
theorem Fc {o:Oper} (ha:uZ o=true) (h:Ex S ops st o s'):∃ id b b',st.bx id=some b∧s'=st.setBox id b'∧∀ st2:St,(∀ t ∈ bD ops o,st.fr t=st2.fr t)→st2.bx id=some b→Ex S ops st2 o (st2.setBox id b'):=by
 simp only [uZ,Bool.and_eq_true,Option.isNone_iff_eq_none] at ha
 obtain ⟨⟨hg,hd⟩,ha⟩:=ha
 split at ha
 ·rename_i t p v ho
  have hev:∀ st2:St,(∀ t ∈ bD ops o,st.fr t=st2.fr t)→st2.ev S p=st.ev S p∧st2.ev S v=st.ev S v:=fun st2 hf=>by
   have:=cA (S:=S) hf
   rw [ho] at this
   exact ⟨(this p (by simp [Op.operands])).symm,(this v (by simp [Op.operands])).symm⟩
  unfold Ex dD at h
  rw [hg] at h
  simp only [gM,hd,ho,show ro S st.bx (st.ev S) (.store t p v)=none from rfl] at h
  obtain ⟨hcond,h⟩:=h
  simp only [cu] at h
  split at h
  ·rename_i id off w sz ag q1 q2 q3
   split at h
   ·rename_i cs hb
    refine ⟨id,_,_,hb,h.2.symm,fun st2 hf hb2 => ?_⟩
    obtain ⟨e1,e2⟩:=hev st2 hf
    unfold Ex dD
    rw [hg]
    simp only [gM,hd,ho,show ro S st2.bx (st2.ev S) (.store t p v)=none from rfl]
    refine ⟨?_, ?_⟩
    ·simpa only [Op.operands,List.map_cons,List.map_nil,e1,e2] using hcond
    ·simp only [cu,e1,e2,q1,q2,q3,hb2]
     exact ⟨h.1,rfl⟩
   ·exact h.elim
  ·rename_i id s i off w sz ag q1 q2 q3
   split at h
   ·rename_i e s' n f hb
    refine ⟨id,_,_,hb,h.2.symm,fun st2 hf hb2 => ?_⟩
    obtain ⟨e1,e2⟩:=hev st2 hf
    unfold Ex dD
    rw [hg]
    simp only [gM,hd,ho,show ro S st2.bx (st2.ev S) (.store t p v)=none from rfl]
    refine ⟨?_, ?_⟩
    ·simpa only [Op.operands,List.map_cons,List.map_nil,e1,e2] using hcond
    ·simp only [cu,e1,e2,q1,q2,q3,hb2]
     exact ⟨h.1,rfl⟩
   ·exact h.elim
  ·exact h.elim
 ·cases ha
theorem jv {lb:Nat} {x y:Oper} (hi:pM ops x y=true) (w:dB lb st) (h1:Ex S ops st x s1) (h2:Ex S ops s1 y s2):∃ s3,Ex S ops st y s3∧Ex S ops s3 x s2:=by
 simp only [pM,Bool.and_eq_true] at hi
 obtain ⟨⟨hyx,hx⟩,hy⟩:=hi
 obtain ⟨id,b,b',hb,rfl,k1⟩:=Fc hx h1
 obtain ⟨z,r,rfl,k2⟩:=Fw hy h2
 have hid:id≠st.nx:=fun e=>by
  have:=w.1 id (by omega)
  rw [this] at hb;cases hb
 refine ⟨_,k2 st rfl rfl, ?_⟩
 have:=k1 ((st.newBox z).set y.dst r) (fun t ht=>by
  have:=eV (fr:=(st.newBox z).fr) (kf:=st.kf) (nx':=0) (bx':=st.bx) (bx:=(st.newBox z).bx) (nx:=(st.newBox z).nx) (d:=y.dst) (v:=r) hyx t ht
  exact this.symm) (by rw [cR];simp only [St.newBox];rw [if_neg hid];exact hb)
 have e:(((st.newBox z).set y.dst r).setBox id b')=((st.setBox id b').newBox z).set y.dst r:=by
  rw [cV,cV]
  simp only [St.setBox,St.newBox,St.mk.injEq,true_and,and_true]
  funext j
  by_cases c1:j=id
  ·subst c1;simp [hid]
  ·by_cases c2:j=st.nx
   ·subst c2;simp [c1]
   ·simp [c1,c2]
 rw [e] at this
 exact this
end
def lz (rcv:Nat→Bool) (ops:Array Oper) (m:Nat→Nat) (listed:Array Bool) (p:Nat):Bool :=
 match ops[p]? with
 | none=>false
 | some x=>(List.range ops.size).all fun i=>listed.getD i true || Nat.beq i p || ((m i).testBit p && Nat.blt p i) || (match ops[i]? with
  | some o=>pa rcv ops x o || nb rcv ops x o || pM ops x o
  | none=>false)
def lV (ops:Array Oper):Bool:=(List.range ops.size).all fun i=>match ops[i]? with
 | none=>false
 | some o=>o.after.all fun e => !Region.binds .any e || Nat.blt e.on i
section
variable {S:Env} {ops:Array Oper} {st:St}
theorem mN {listed:Array Bool} {i:Nat} (hi:i<listed.size) (k:Nat) (b:Bool):(listed.setIfInBounds i true).getD k b=if k=i then true else listed.getD k b:=by
 simp only [Array.getD_eq_getD_getElem?,Array.getElem?_setIfInBounds]
 by_cases hk:k=i
 ·subst hk;simp [hi]
 ·rw [if_neg (fun h=>hk h.symm),if_neg hk]
theorem vJ (h:lV ops=true):∀ i o,ops[i]?=some o→∀ e ∈ o.after,Region.binds .any e=true→e.on<i:=fun i o ho e he hb=>by
 have hlt:i<ops.size:=by
  rcases Nat.lt_or_ge i ops.size with h|h
  ·exact h
  ·rw [Array.getElem?_eq_none h] at ho;cases ho
 have:=List.all_eq_true.1 h i (List.mem_range.2 hlt)
 rw [ho] at this
 obtain ⟨k,hk,rfl⟩:=Array.mem_iff_getElem.1 he
 have:=(Array.all_eq_true.1 this) k hk
 simp only [hb,Bool.not_true,Bool.false_or,Nat.blt] at this
 have:=Nat.le_of_ble_eq_true this
 omega
theorem eX {listed:Array Bool} {i:Nat} (hs:listed.size=ops.size) (h:i ∈ Region.ready .any ops listed):i<ops.size:=by
 obtain ⟨o,ho,_⟩:=(bP hs).1 h
 rcases Nat.lt_or_ge i ops.size with h|h
 ·exact h
 ·rw [Array.getElem?_eq_none h] at ho;cases ho
theorem uo {listed : Array Bool} {i : Nat} (hs : listed.size = ops.size) (hed : ∀ i o, ops[i]? = some o → ∀ e ∈ o.after, Region.binds .any e = true → e.on < i) (h : i ∈ Region.ready .any ops listed) {o : Oper} (ho : ops[i]? = some o) :
  ∀ e ∈ o.after,Region.binds .any e=true→gA listed e.on:=fun e he hb=>by
 have hlt:=eX hs h
 obtain ⟨o2,ho2,hl,hdep⟩:=(bP hs).1 h
 rw [ho] at ho2
 cases ho2
 have:=hdep e he hb
 have h2:=hed i o ho e he hb
 have hl2:e.on<listed.size:=by omega
 unfold gA
 rw [Array.getD,dif_pos hl2] at this ⊢
 exact this
theorem jV {listed:Array Bool} {i:Nat} (hs:listed.size=ops.size) (hed:∀ i o,ops[i]?=some o→∀ e ∈ o.after,Region.binds .any e=true→e.on<i) (hcl:eZ ops listed) (h:i ∈ Region.ready .any ops listed):eZ ops (listed.setIfInBounds i true):=fun k x hx hin e he hb=>by
 have hlt:=eX hs h
 unfold gA at hin ⊢
 rw [mN (by omega)] at hin ⊢
 by_cases hek:e.on=i
 ·rw [if_pos hek]
 ·rw [if_neg hek]
  by_cases hki:k=i
  ·subst hki
   exact uo hs hed h hx e he hb
  ·rw [if_neg hki] at hin
   exact hcl k x hx hin e he hb
theorem tr {m : Nat → Nat} {listed : Array Bool} {i p : Nat} (hm : cg ops m = true) (hs : listed.size = ops.size) (hed : ∀ i o, ops[i]? = some o → ∀ e ∈ o.after, Region.binds .any e = true → e.on < i) (hcl : eZ ops listed)
  (hpi:p<i) (hb:(m i).testBit p=true) (hp:listed.getD p true=false):¬ i ∈ Region.ready .any ops listed:=fun h=>by
 have hlt:=eX hs h
 obtain ⟨o,ho,_⟩:=(bP hs).1 h
 have hdep:=uo hs hed h ho
 have h3:=List.all_eq_true.1 hm i (List.mem_range.2 hlt)
 rw [ho] at h3
 have h4:=List.all_eq_true.1 h3 p (List.mem_range.2 hpi)
 simp only [hb,Bool.not_true,Bool.false_or] at h4
 obtain ⟨k,hk',hh⟩:=Array.any_eq_true.1 h4
 simp only [Bool.and_eq_true,Bool.or_eq_true,Nat.beq_eq] at hh
 have hin:=hdep _ (Array.getElem_mem hk') hh.1
 have hle:=hed i o ho _ (Array.getElem_mem hk') hh.1
 have:gA listed p:=by
  rcases hh.2 with q|q
  ·rw [← q];exact hin
  ·exact qI hm hcl hed (fun _ _ _=>trivial) (i+1) _ (by omega) hin (by omega) p (by have:=q.2;simp [Nat.blt] at this;omega) q.1
 unfold gA at this
 rw [this] at hp
 cases hp
theorem wb {rcv:Nat→Bool} {m:Nat→Nat} {listed:Array Bool} {i p:Nat} (hi:i<listed.size) (h:lz rcv ops m listed p=true):lz rcv ops m (listed.setIfInBounds i true) p=true:=by
 unfold lz at h ⊢
 split at h
 ·cases h
 ·refine List.all_eq_true.2 fun k hk => ?_
  have:=List.all_eq_true.1 h k hk
  simp only [Bool.or_eq_true] at this ⊢
  rw [mN hi]
  rcases this with ((h1|h1)|h1)|h1
  ·refine .inl (.inl (.inl ?_));split
   ·rfl
   ·exact h1
  ·exact .inl (.inl (.inr h1))
  ·exact .inl (.inr h1)
  ·exact .inr h1
theorem gJ {listed:Array Bool} {i k:Nat} (hs:listed.size=ops.size) (hi:i<listed.size) (hk:k ∈ Region.ready .any ops listed) (hne:k≠i):k ∈ Region.ready .any ops (listed.setIfInBounds i true):=by
 obtain ⟨o,ho,hl,hdep⟩:=(bP hs).1 hk
 refine (bP (by simpa using hs)).2 ⟨o,ho,by rw [mN hi,if_neg hne];exact hl,fun e he hb => ?_⟩
 rw [mN hi]
 split
 ·rfl
 ·exact hdep e he hb
theorem xI {listed:Array Bool} {i k:Nat}:(listed.setIfInBounds i true).setIfInBounds k true=(listed.setIfInBounds k true).setIfInBounds i true:=by
 apply Array.ext_getElem?
 intro j
 simp only [Array.getElem?_setIfInBounds,Array.size_setIfInBounds]
 repeat' split
 all_goals first|rfl|omega|(simp_all;done)
theorem yb {m : Nat → Nat} {x : Oper} {p : Nat} (hm : cg ops m = true) (hed : ∀ i o, ops[i]? = some o → ∀ e ∈ o.after, Region.binds .any e = true → e.on < i) (hx : ops[p]? = some x) {K : St → Prop} : ∀ (fuel : Nat) (listed : Array Bool) (st : St),
  listed.size=ops.size→eZ ops listed→lz S.rcv ops m listed p=true→p ∈ Region.ready .any ops listed→dB 0 st→(∃ s,Ex S ops st x s∧fN S ops fuel (listed.setIfInBounds p true) s K)→fN S ops (fuel+1) listed st K:=by
 intro fuel
 induction fuel with
 | zero =>
  intro listed st hs hcl hp hr hw ⟨s,h1,h2⟩
  have hplt:=eX hs hr
  refine ⟨fun hno=>(by rw [hno] at hr;cases hr),fun i hi => ?_⟩
  by_cases e:i=p
  ·subst e;rw [hx];exact ja h1 h2
  ·have:=gJ hs (by omega) hi e
   rw [h2.1] at this;cases this
 | succ f ih =>
  intro listed st hs hcl hp hr hw ⟨s,h1,h2⟩
  have hplt:=eX hs hr
  obtain ⟨_,_,hpl,_⟩:=(bP hs).1 hr
  refine ⟨fun hno=>(by rw [hno] at hr;cases hr),fun i hi => ?_⟩
  by_cases e:i=p
  ·subst e;rw [hx];exact ja h1 h2
  obtain ⟨o,ho,hl,hdep⟩:=(bP hs).1 hi
  have hlt:=eX hs hi
  rw [ho]
  have h3:=h2.2 i (gJ hs (by omega) hi e)
  rw [ho] at h3
  obtain ⟨s2,h4,h5⟩:=mB h3
  have hsw:∃ s3,Ex S ops st o s3∧Ex S ops s3 x s2:=by
   have hq:=hp
   unfold lz at hq
   rw [hx] at hq
   have hq:=List.all_eq_true.1 hq i (List.mem_range.2 hlt)
   rw [ho] at hq
   simp only [Bool.or_eq_true,Nat.beq_eq,Bool.and_eq_true] at hq
   rcases hq with ((q|q)|q)|q
   ·rw [q] at hl;cases hl
   ·exact absurd q e
   ·exact absurd hi (tr hm hs hed hcl (by have:=q.2;simp [Nat.blt] at this;omega) q.1 hpl)
   ·rcases q with (q|q)|q
    ·exact pO q h1 h4
    ·exact gm q hw h1 h4
    ·exact jv q hw h1 h4
  obtain ⟨s3,h6,h7⟩:=hsw
  refine ja h6 ?_
  refine ih _ s3 (by simpa using hs) (jV hs hed hcl hi) (wb (by omega) hp) (gJ hs (by omega) hr (fun h=>e h.symm)) (pc h6 hw) ⟨s2,h7, ?_⟩
  rw [xI];exact h5
end
def yd (rcv:Nat→Bool) (ops:Array Oper) (m:Nat→Nat) (listed:Array Bool):Tr→Bool
 | .leaf=>Region.ready .any ops listed == []
 | .nil=>false
 | .br i t r=>Region.ready .any ops listed == cI (.br i t r) || (cI r == [] && (Region.ready .any ops listed).contains i && lz rcv ops m listed i)
def Br (rcv:Nat→Bool) (ops:Array Oper) (m:Nat→Nat):Array Bool→Tr→Bool
 | _, .leaf=>true
 | _, .nil=>true
 | listed, .br i t r=>Nat.blt i ops.size && yd rcv ops m (listed.setIfInBounds i true) t && Br rcv ops m (listed.setIfInBounds i true) t && Br rcv ops m listed r
section
variable {S:Env} {l:List Oper} {m:Nat→Nat}
theorem sE {t:Tr} {listed:Array Bool} (hn:yd S.rcv l.toArray m listed t=true):∀ i ∈ cI t,i ∈ Region.ready .any l.toArray listed:=by
 cases t with
 | leaf=>intro i hi;cases hi
 | nil=>cases hn
 | br k t r =>
  intro i hi
  simp only [yd,Bool.or_eq_true,Bool.and_eq_true,beq_iff_eq] at hn
  rcases hn with hn|hn
  ·rw [hn];exact hi
  ·obtain ⟨⟨h1,h2⟩,_⟩:=hn
   rw [cI,h1,List.mem_singleton] at hi
   subst hi
   exact List.contains_iff_mem.1 h2
theorem sB (hm : cg l.toArray m = true) (hf : lV l.toArray = true) {t : Tr} {listed : Array Bool} {fuel : Nat} {st : St} {K : St → Prop} (hs : listed.size = l.toArray.size) (hcl : eZ l.toArray listed) (hw : dB 0 st)
  (hn:yd S.rcv l.toArray m listed t=true) (h:di S l.toArray l t st K) (hd:eB t≤fuel)
  (hal : ∀ f, fuel = f + 1 → ∀ i ∈ cI t, match l.toArray[i]? with
    | some o=>dD S l.toArray st o fun st'=>fN S l.toArray f (listed.setIfInBounds i true) st' K
    | none=>fN S l.toArray f (listed.setIfInBounds i true) st K):fN S l.toArray fuel listed st K:=by
 have hsub:=sE hn
 cases t with
 | leaf =>
  have hr:Region.ready .any l.toArray listed=[]:=by simpa [yd] using hn
  cases fuel with
  | zero=>exact ⟨hr,h⟩
  | succ f=>exact ⟨fun _=>h,fun i hi=>by rw [hr] at hi;cases hi⟩
 | nil=>cases hn
 | br i t r =>
  cases fuel with
  | zero=>simp [eB] at hd
  | succ f =>
   have hi:i ∈ Region.ready .any l.toArray listed:=hsub i (by rw [cI];exact List.mem_cons_self ..)
   simp only [yd,Bool.or_eq_true,Bool.and_eq_true,beq_iff_eq] at hn
   rcases hn with hn|hn
   ·exact ⟨fun h0=>by (rw [h0] at hi;cases hi),fun j hj=>hal f rfl j (by rw [← hn];exact hj)⟩
   ·have:=hal f rfl i (by rw [cI];exact List.mem_cons_self ..)
    obtain ⟨o,ho,_⟩:=(bP hs).1 hi
    rw [ho] at this
    exact yb hm (vJ hf) ho f listed st hs hcl hn.2 hi hw (mB this)
theorem mf (hm : cg l.toArray m = true) (hf : lV l.toArray = true) {K : St → Prop} : ∀ (t : Tr) (listed : Array Bool) (fuel : Nat) (st : St), listed.size = l.toArray.size → eZ l.toArray listed → dB 0 st → (∀ i ∈ cI t, i ∈ Region.ready .any l.toArray listed) →
  Br S.rcv l.toArray m listed t = true → di S l.toArray l t st K → eB t ≤ fuel + 1 → ∀ i ∈ cI t, match l.toArray[i]? with
    | some o=>dD S l.toArray st o fun st'=>fN S l.toArray fuel (listed.setIfInBounds i true) st' K
    | none=>fN S l.toArray fuel (listed.setIfInBounds i true) st K
 | .leaf,_,_,_,_,_,_,_,_,_,_,i,hi=>by cases hi
 | .nil,_,_,_,_,_,_,_,_,_,_,i,hi=>by cases hi
 | .br k t r,listed,fuel,st,hs,hcl,hw,hsub,hok,h,hd,i,hi=>by
  have hkr:k ∈ Region.ready .any l.toArray listed:=hsub k (by rw [cI];exact List.mem_cons_self ..)
  simp only [Br,Bool.and_eq_true] at hok
  obtain ⟨⟨⟨hk,hn⟩,ht⟩,hr⟩:=hok
  simp only [eB] at hd
  rcases List.mem_cons.1 hi with rfl|hi
  ·have hlt:i<l.toArray.size:=by simp [Nat.blt] at hk ⊢;omega
   have hget:l.toArray[i]?=some (l.getD i default):=by
    have hlt2:i<l.length:=by simpa using hlt
    rw [List.getElem?_toArray,List.getD_eq_getElem?_getD,List.getElem?_eq_getElem hlt2];rfl
   rw [hget]
   obtain ⟨s,h1,h2⟩:=mB h.1
   refine ja h1 ?_
   have hs2:(listed.setIfInBounds i true).size=l.toArray.size:=by simpa using hs
   have hcl2:=jV hs (vJ hf) hcl hkr
   exact sB hm hf hs2 hcl2 (pc h1 hw) hn h2 (by omega) fun f hf2 j hj=>mf hm hf t _ f s hs2 hcl2 (pc h1 hw) (sE hn) ht h2 (by omega) j hj
  ·exact mf hm hf r listed fuel st hs hcl hw (fun j hj=>hsub j (by rw [cI];exact List.mem_cons_of_mem _ hj)) hr h.2 (by omega) i hi
theorem yl {t : Tr} {st : St} {K : St → Prop} (hok : (lV l.toArray && cg l.toArray m && yd S.rcv l.toArray m (Array.replicate l.toArray.size false) t && Br S.rcv l.toArray m (Array.replicate l.toArray.size false) t && Nat.ble (eB t) l.toArray.size) = true) (hw : dB 0 st) (h : di S l.toArray l t st K) :
  fN S l.toArray l.toArray.size (Array.replicate l.toArray.size false) st K:=by
 simp only [Bool.and_eq_true] at hok
 obtain ⟨⟨⟨⟨hf,hm⟩,h1⟩,h2⟩,h3⟩:=hok
 have h3:=Nat.le_of_ble_eq_true h3
 have hs:(Array.replicate l.toArray.size false).size=l.toArray.size:=by simp
 have hcl:eZ l.toArray (Array.replicate l.toArray.size false):=fun i o ho hi=>by
  exfalso
  have hlt:i<l.toArray.size:=by
   rcases Nat.lt_or_ge i l.toArray.size with h|h
   ·exact h
   ·rw [Array.getElem?_eq_none h] at ho;cases ho
  unfold gA at hi
  simp only [Array.getD_eq_getD_getElem?,Array.getElem?_replicate,if_pos hlt] at hi
  cases hi
 exact sB hm hf hs hcl hw h1 h h3 fun f hf2 i hi=>mf hm hf t _ f st hs hcl hw (sE h1) h2 h (by omega) i hi
theorem jm {id : Nat} {y : Code} {Q : AExit → St → Prop} {st : St} (t : Tr)
  (hok:(lV l.toArray && cg l.toArray (fun i=>(Region.before l.toArray).getD i 0) && yd S.rcv l.toArray (fun i=>(Region.before l.toArray).getD i 0) (Array.replicate l.toArray.size false) t && Br S.rcv l.toArray (fun i=>(Region.before l.toArray).getD i 0) (Array.replicate l.toArray.size false) t && Nat.ble (eB t) l.toArray.size)=true)
  (hw:dB 0 st) (h:∀ K:St→Prop,(∀ s s',Le s s'→cw S y Q s'→K s)→di S l.toArray l t st K):cw S (.seq (.region id l.toArray true) y) Q st:=by
 refine cC (S:=S) (.region id l.toArray true) (Q:=fv (fun st=>Wk (cw S y Q) st∨cw S y Q st) Q) (fun _ _ h=>h) ?_
 simp only [cw,if_pos]
 exact yl hok hw (h _ fun s s' hl hs => .inl ⟨s',hl,hs⟩)
end
theorem cZ {S:Env} {ops:Array Oper} {L:List Oper} {i:Nat} {t r:Tr} {st:St} {K:St→Prop} (h:∀ K':St→Prop,(∀ s,di S ops L t s K→K' s)→aK S ops [L.getD i default] st K') (hr:di S ops L r st K):di S ops L (.br i t r) st K :=
 ⟨h _ (fun _ h=>h),hr⟩
theorem cj {S:Env} {ops:Array Oper} {L:List Oper} {st:St} {K:St→Prop} (h:K st):di S ops L .leaf st K:=h
theorem cz {S:Env} {ops:Array Oper} {L:List Oper} {st:St} {K:St→Prop}:di S ops L .nil st K:=trivial
end Go.SL
namespace Go.SL
open Go
def FN (ok:Nat→Prop) (w w':World) (v:Value) (b:Nat):Prop:=EO ok w w' b∧kT v≠some b
def rn (S:Env) (f:FuncId) (args:List BV) (cs:List (Option PV)) (k e sz n:Nat) (g:Nat→Nat→PV):Prop :=
 yR S f∧∀ (ok:Nat→Prop) (w:World) (vs:Array Value),(∀ b,ok b→b<w.heap.size)→mZ S ok w →
  vs.size=args.length→(∀ j,bu bo ok w (args.getD j .any) (vs.getD j undef)) →
  Calls S.P f vs w fun ex w'=>∃ (us:Array Value) (xs:List Value),ex = .returned (.agg us)∧RowKit.Below w.heap.size w w'∧0<sz∧w'.ownsRow w.heap.size e sz (us.getD k undef) n xs∧(∀ x ∈ xs,x.oneCell'=true) ∧
   (∀ i,i<n→∀ j,j<sz→aV (FN ok w w' (us.getD k undef)) w' (g i j) (xs.getD (i * sz+j) undef))∧us.size=cs.length∧(∀ j,j<us.size→(us.getD j undef).oneCell'=true) ∧
   ∀ j y,cs[j]?=some (some y)→aV (FN ok w w' (us.getD k undef)) w' y (us.getD j undef)
def rU:List (Option PV)→Bool
 | []=>true
 | some _ :: l=>rU l
 | none :: _=>false
def vz:Nat→List (Option PV)→Bool
 | _,[]=>true
 | 0,_ :: l=>rU l
 | k+1,some _ :: l=>vz k l
 | _+1,none :: _=>false
theorem oR:∀ {l:List (Option PV)},rU l=true→∀ j:Nat,l[j]?≠some none
 | [],_,j=>by simp
 | some x :: l,h,0=>by simp
 | some x :: l,h,j+1=>by simpa using oR (l:=l) h j
 | none :: l,h,_=>by cases h
theorem tG:∀ {k:Nat} {l:List (Option PV)},vz k l=true→∀ j:Nat,l[j]?=some none→j=k
 | _,[],_,j,h=>by simp at h
 | 0,x :: l,h,0,_=>rfl
 | 0,x :: l,h,j+1,h2=>absurd (by simpa using h2) (oR (l:=l) h j)
 | k+1,some x :: l,h,0,h2=>by simp at h2
 | k+1,some x :: l,h,j+1,h2=>by
  have:=tG (k:=k) (l:=l) h j (by simpa using h2)
  omega
 | k+1,none :: l,h,_,_=>by cases h
def MF (x:CV):Option PV→CV
 | some y => .p y
 | none=>x
def kH (x:CV) (cs:List (Option PV)):List CV:=cs.map (MF x)
theorem By {x:CV} {cs:List (Option PV)} {j:Nat} {y:Option PV} (h:cs[j]?=some y):(kH x cs).getD j .any=MF x y:=by
 simp [kH,List.getD_eq_getElem?_getD,h]
theorem zk {ρ : ey} {ok : Nat → Prop} {w : World} {x : CV} {cs : List (Option PV)} {us : Array Value} {k : Nat} (ho : vz k cs = true) (hs : us.size = cs.length) (h1 : ∀ j, j < us.size → (us.getD j undef).oneCell' = true)
  (hx:bB ρ ok w x (us.getD k undef)) (hc:∀ j y,cs[j]?=some (some y)→aV ok w y (us.getD j undef)):bu ρ ok w (.agg (kH x cs)) (.agg us):=by
 refine ⟨us,rfl,by simp [kH,hs],h1,fun j => ?_⟩
 cases hj:cs[j]? with
 | none =>
  rw [List.getD_eq_getElem?_getD,show (kH x cs)[j]?=none by simp [kH,hj]]
  trivial
 | some y =>
  rw [By hj]
  cases y with
  | none=>rw [tG ho j hj];exact hx
  | some y=>exact hc j y hj
theorem AK {S:Env} {f:FuncId} {args:List BV} {cs:List (Option PV)} {k e sz n:Nat} {g:Nat→Nat→PV} (h:rn S f args cs k e sz n g) (ho:vz k cs=true):aD S f args fun r=>r = .b (.agg (kH (.p (.lst sz n g)) cs)) :=
 ⟨h.1,fun ok w vs h1 h2 h3 h4=>(h.2 ok w vs h1 h2 h3 h4).mono fun ex w' ⟨us,xs,he,hB,h0,hown,hone,hd,hs,h1,hc⟩=>by
  refine ⟨.agg us,_,he,rfl, ?_,hB, ?_⟩
  ·intro c hc
   obtain ⟨y,_,rfl⟩:=List.mem_map.1 hc
   cases y <;> trivial
  ·refine zk ho hs h1 ?_ fun j y hj=>aV.mono (fun b hb=>⟨hb.1,fun _=>rfl⟩) (hc j y hj)
   rcases hown.2 with ⟨e1,e2⟩|⟨b,cap,cur,hv,hge,hh,hnc,_,hcs,htk⟩
   ·rw [e1]
    exact ⟨none,0,by rw [e2],by omega,fun h=>by omega⟩
   ·rw [hv]
    refine ⟨_,cap,rfl,hnc,fun _=>⟨b,0,rfl,⟨bq hh,fun q=>by omega⟩,fun i hi j hj => ?_⟩⟩
    have hlt:i * sz+j<n * sz:=cJ hi hj
    have hlt2:i * sz+j<cur.size:=by rw [hcs];exact Nat.lt_of_lt_of_le hlt (Nat.mul_le_mul_right _ hnc)
    have hlx:i * sz+j<xs.length:=by rw [hown.1];exact hlt
    have hxe:xs.getD (i * sz+j) undef=cur.getD (i * sz+j) undef:=by
     rw [← htk];simp [List.getElem?_take,hlt]
    refine ⟨cur.getD (i * sz+j) undef,by rw [Nat.zero_add];exact bn hh hlt2, ?_, ?_⟩
    ·rw [← hxe,List.getD_eq_getElem?_getD,List.getElem?_eq_getElem hlx]
     exact hone _ (List.getElem_mem hlx)
    ·rw [← hxe]
     exact aV.mono (fun b hb=>⟨hb.1,fun _=>rfl⟩) (hd i hi j hj)⟩
def zJ (bx:Nat→Option Bx) (e sz n:Nat) (g:Nat→Nat→PV):CV→Prop
 | .own id n'=>∃ f,bx id=some (.arr e sz n f)∧n'=n∧0<sz∧∀ i,i<n→∀ j,j<sz→PV.le (f i j) (g i j)
 | .p x=>x = .val (.slice none 0 0)∧n=0∧0<sz
 | _=>False
def wk:CV→Option Nat
 | .own id _=>some id
 | _=>none
def rZ (d:Option Nat):CV→Prop
 | .own id _=>d≠some id
 | _=>True
def NG:CV→PV→Prop
 | .p z,y=>z=y∨PV.le z y
 | _,_=>False
def nh (bx:Nat→Option Bx) (d:Option Nat):List CV→List (Option PV)→Prop
 | [],[]=>True
 | _ :: l,none :: r=>nh bx d l r
 | x :: l,some y :: r=>NG (dH bx x) y∧rZ d x∧nh bx d l r
 | _,_=>False
def rM (S:Env) (rs:List ResultVar) (cs:List (Option PV)) (k e sz n:Nat) (g:Nat→Nat→PV) (st:St):Prop :=
 match gy S st rs with
 | some (p,[.agg xs])=>p∧zJ st.bx e sz n g (xs.getD k .any)∧nh st.bx (wk (xs.getD k .any)) xs cs
 | _=>False
def Dy (S:Env) (rs:List ResultVar) (cs:List (Option PV)) (k e sz n:Nat) (g:Nat→Nat→PV):AExit→St→Prop
 | .ret,st=>rM S rs cs k e sz n g st
 | .normal,st=>rM S rs cs k e sz n g st
 | _,_=>False
theorem Bf {S:Env} {rs:List ResultVar} {cs:List (Option PV)} {k e sz n:Nat} {g:Nat→Nat→PV} {st:St}:Dy S rs cs k e sz n g .ret st=rM S rs cs k e sz n g st:=rfl
theorem va {S:Env} {rs:List ResultVar} {cs:List (Option PV)} {k e sz n:Nat} {g:Nat→Nat→PV} {st:St}:Dy S rs cs k e sz n g .normal st=rM S rs cs k e sz n g st:=rfl
theorem On {z y:PV}:NG (.p z) y=(z=y∨PV.le z y):=rfl
theorem AI {bx:Nat→Option Bx} {d:Option Nat}:nh bx d [] []=True:=rfl
theorem qo {bx:Nat→Option Bx} {d:Option Nat} {x:CV} {l:List CV} {r:List (Option PV)}:nh bx d (x :: l) (none :: r)=nh bx d l r:=by cases x <;> rfl
theorem rv {bx:Nat→Option Bx} {d:Option Nat} {x:CV} {l:List CV} {y:PV} {r:List (Option PV)}:nh bx d (x :: l) (some y :: r)=(NG (dH bx x) y∧rZ d x∧nh bx d l r):=by cases x <;> rfl
theorem rb {bx:Nat→Option Bx} {d:Option Nat}:∀ {l:List CV} {r:List (Option PV)},nh bx d l r→l.length=r.length∧∀ (j:Nat) y,r[j]?=some (some y)→NG (dH bx (l.getD j .any)) y∧rZ d (l.getD j .any)
 | [],[],_=>⟨rfl,fun j y h=>by simp at h⟩
 | x :: l,none :: r,h=>by
  rw [qo] at h
  obtain ⟨q1,q2⟩:=rb h
  refine ⟨by simp [q1],fun j y hj => ?_⟩
  cases j with
  | zero=>simp at hj
  | succ j=>exact q2 j y (by simpa using hj)
 | x :: l,some z :: r,h=>by
  rw [rv] at h
  obtain ⟨h1,h2,h3⟩:=h
  obtain ⟨q1,q2⟩:=rb h3
  refine ⟨by simp [q1],fun j y hj => ?_⟩
  cases j with
  | zero =>
   have:z=y:=by simpa using hj
   subst this
   exact ⟨h1,h2⟩
  | succ j=>exact q2 j y (by simpa using hj)
 | [],none :: r,h=>by cases h
 | [],some _ :: r,h=>by cases h
 | x :: l,[],h=>by cases x <;> cases h
section
variable {S:Env} {E:Ent} {st:St} {ρ:ey} {a:Act} {w:World}
theorem zr {x : CV} {u v : Value} {d : Option Nat} (g : Gam S E st ρ a w) (hrx : E.rx = none) (hd : ∀ id, d = some id → ρ id = v ∧ st.bx id ≠ none) (hdn : d = none → kT v = none) (hx : rZ d x) (hw : E.w0.heap.size ≤ w.heap.size)
  (h:bB ρ (bj E st.bx ρ w) w x u) {y:PV} (hy:NG (dH st.bx x) y):aV (FN E.ok0 E.w0 w v) w y u:=by
 have hA:∀ b,bj E st.bx ρ w b→FN E.ok0 E.w0 w v b:=fun b hb=>⟨⟨hb.1,hb.2.1⟩,fun hv=>by
  cases hq:d with
  | none=>rw [hdn hq] at hv;cases hv
  | some id =>
   obtain ⟨q1,q2⟩:=hd id hq
   exact hb.2.2 id q2 (by rw [q1];exact hv)⟩
 have hk:dQ (bj E st.bx ρ w) (FN E.ok0 E.w0 w v) w w:=fun b hb=>⟨hA b hb,fun _=>rfl⟩
 have fin:∀ z:PV,(z=y∨PV.le z y)→aV (FN E.ok0 E.w0 w v) w z u→aV (FN E.ok0 E.w0 w v) w y u:=fun z hz hu=>by
  rcases hz with rfl|hz
  ·exact hu
  ·exact hz _ _ _ hu
 cases x with
 | p x=>exact fin _ hy (aV.mono hk h)
 | ptr id off=>exact hy.elim
 | pel id sz i off=>exact hy.elim
 | ipt sz g off=>exact hy.elim
 | clo f ps=>exact hy.elim
 | sub id sz lo n=>exact hy.elim
 | own id n =>
  unfold dH at hy
  split at hy
  ·rename_i id n e
   cases e
   split at hy
   ·rename_i e sz n' f hb
    split at hy
    ·rename_i hn
     refine fin _ hy ?_
     obtain ⟨A,m,c,hr,h1,h2,h3,hu⟩:=h
     obtain ⟨h0,xs,hown,hone,hd2⟩:=g.bxs id _ hb
     refine ⟨A,c,hu,by omega,fun hpos => ?_⟩
     rcases hown.2 with ⟨e1,e2⟩|⟨gb,cap,cur,hv,_,hh,hnc,_,hcs,htk⟩
     ·omega
     ·rw [hr] at hv
      simp only [Value.slice.injEq] at hv
      obtain ⟨rfl,rfl,rfl⟩:=hv
      have hgb:kT (ρ id)=some gb:=by rw [hr];rfl
      have hge:E.w0.heap.size≤gb:=by
       rcases (g.new id _ gb hb hgb).2 with h|⟨_,_,_,h,_⟩
       ·exact h
       ·cases h
      refine ⟨gb,0,rfl,⟨⟨bq hh,fun q=>by omega⟩,fun hv => ?_⟩,fun i hi j hj => ?_⟩
      ·cases hq:d with
       | none=>rw [hdn hq] at hv;cases hv
       | some id2 =>
        obtain ⟨q1,q2⟩:=hd id2 hq
        have:=g.inj id id2 gb (by rw [hb];simp) q2 hgb (by rw [q1];exact hv)
        subst this
        exact hx hq
      have hlt:i * sz+j<m * sz:=cJ (by omega) hj
      have hlt2:i * sz+j<cur.size:=by rw [hcs];exact Nat.lt_of_lt_of_le hlt (Nat.mul_le_mul_right _ hnc)
      have hlx:i * sz+j<xs.length:=by rw [hown.1];exact hlt
      have hxe:xs.getD (i * sz+j) undef=cur.getD (i * sz+j) undef:=by
       rw [← htk];simp [List.getElem?_take,hlt]
      refine ⟨cur.getD (i * sz+j) undef,by rw [Nat.zero_add];exact bn hh hlt2, ?_, ?_⟩
      ·rw [← hxe,List.getD_eq_getElem?_getD,List.getElem?_eq_getElem hlx]
       exact hone _ (List.getElem_mem hlx)
      ·rw [← hxe]
       exact aV.mono hk (hd2 i (by omega) j hj)
    ·exact hy.elim
   ·exact hy.elim
  ·rename_i h;exact absurd rfl (h id n)
end
theorem IA {S : Env} {f : FuncId} {fn : Func} {c : Code} {rs : List ResultVar} {args : List BV} {cs : List (Option PV)} {k e sz n : Nat} {g : Nat → Nat → PV} (hf : S.P.funcs[f]? = some fn) (hb : fn.body = some c) (hrs : fn.results.toList = rs) (hname : (fn.name == "runtime.NumGoroutine") = false)
  (hm:S.P.follows .mixedOrders=true) (hN:cf fn.ntmps c=true) (hlen:args.length≤fn.ntmps) (hl:∀ x ∈ args,BV.lt 0 x) (h:cw S c (Dy S rs cs k e sz n g) (pZ args)):rn S f args cs k e sz n g:=by
 subst hrs
 refine ⟨⟨fn,hf,hname,by rw [hb];rfl⟩,fun ok w vs hok hgl hsz hden => ?_⟩
 refine calls_of_wp hf hb ?_
 let E:Ent := { w0:=w,ok0:=ok,rx:=none,N:=fn.ntmps }
 have hokA:∀ b,ok b→bj E (fun _=>none) bo w b:=fun b hb=>⟨hok b hb,fun _=>hb,fun _ h=>absurd rfl h⟩
 have hk:dQ ok (bj E (fun _=>none) bo w) w w:=fun b hb=>⟨hokA b hb,fun _=>rfl⟩
 have g0:Gam S E (pZ args) bo { tmps:=vs ++ Array.replicate (fn.ntmps - vs.size) undef,defers:=[] } w:=by
  refine ⟨rfl,by simp [E];omega,⟨rfl,rfl,rfl,Nat.le_refl _,fun _ _ _=>rfl,fun _ _ _ h=>(by cases h)⟩,fun s => ?_,fun _ _ h=>(by cases h),fun _ _ h=>(by cases h),fun _ _ _ h=>(by cases h),fun _ _ _ h=>absurd rfl h,
   fun _ _ _ h=>(by cases h),fun s => ?_,fun gg n f hg => ?_,fun s=>⟨trivial,trivial⟩⟩
  ·simp only [pZ,bA]
   split
   ·rename_i hs
    refine hl _ ?_
    rw [List.getD_eq_getElem?_getD,List.getElem?_eq_getElem (by omega)];exact List.getElem_mem _
   ·trivial
  ·simp only [pZ,bA]
   split
   ·rename_i hs
    have e:(vs ++ Array.replicate (fn.ntmps - vs.size) undef).getD s undef=vs.getD s undef:=by
     have:s<vs.size:=by omega
     simp [this]
     rw [Array.getElem?_append_left this]
     simp [this]
    rw [e]
    exact bu.mono (nx:=0) hk (fun _ _=>rfl) (hl _ (by rw [List.getD_eq_getElem?_getD,List.getElem?_eq_getElem (by omega)];exact List.getElem_mem _)) (hden (s - 0))
   ·trivial
  ·obtain ⟨h1,h2⟩:=hgl gg n f hg
   refine ⟨hokA gg h1,fun j hj => ?_⟩
   obtain ⟨x,hx,h3,hd⟩:=h2 j hj
   exact ⟨x,hx,h3,aV.mono hk hd⟩
 have fin : ∀ {a' : Act} {w' : World}, iZ S E (rM S fn.results.toList cs k e sz n g) a' w' → a'.defers = [] ∧ ∃ v, (results fn a'.tmps).run S.P w' = .ok v w' ∧
   ∃ (us:Array Value) (xs:List Value),Ending.returned v = .returned (.agg us)∧RowKit.Below w.heap.size w w'∧0<sz∧w'.ownsRow w.heap.size e sz (us.getD k undef) n xs∧(∀ x ∈ xs,x.oneCell'=true) ∧
   (∀ i,i<n→∀ j,j<sz→aV (FN ok w w' (us.getD k undef)) w' (g i j) (xs.getD (i * sz+j) undef))∧us.size=cs.length∧(∀ j,j<us.size→(us.getD j undef).oneCell'=true) ∧
   ∀ j y,cs[j]?=some (some y)→aV (FN ok w w' (us.getD k undef)) w' y (us.getD j undef):=fun {a' w'} ⟨st',ρ',g',hq⟩=>by
  unfold rM at hq
  split at hq
  ·rename_i p ys hr
   obtain ⟨hp,hcell,hrest⟩:=hq
   obtain ⟨vs2,hvs,hlv,hd⟩:=fT g' hr hp
   obtain ⟨v,hv1,hv2⟩:=mY (xs:=[.agg ys]) hvs hlv hd
   obtain ⟨us,rfl,hs,h1,hdu⟩:=hv2
   obtain ⟨q1,q2⟩:=rb hrest
   have hB:RowKit.Below w.heap.size w w':=⟨g'.frm.os,g'.frm.tape,g'.frm.output,g'.frm.size,fun k hk=>g'.frm.block k hk (fun _ _ h=>by cases h)⟩
   have hkd:=hdu k
   generalize hX:ys.getD k .any=X at hcell hrest q2 hkd
   have hmain : 0 < sz ∧ (∃ xs : List Value, w'.ownsRow w.heap.size e sz (us.getD k undef) n xs ∧ (∀ x ∈ xs, x.oneCell' = true) ∧ (∀ i, i < n → ∀ j, j < sz → aV (FN ok w w' (us.getD k undef)) w' (g i j) (xs.getD (i * sz + j) undef))) ∧
     (∀ id,wk X=some id→ρ' id=us.getD k undef∧st'.bx id≠none)∧(wk X=none→kT (us.getD k undef)=none):=by
    cases X with
    | own id n' =>
     obtain ⟨f2,hbx,rfl,h0,hgf⟩:=hcell
     obtain ⟨A,m,cp,hr2,h2,h3,h4,hu⟩:=hkd
     obtain ⟨h0,xs,hown,hone,hd2⟩:=g'.bxs id _ hbx
     have hmn:m=n':=by
      rcases hown.2 with ⟨e1,e2⟩|⟨b,cap,cur,e1,_⟩
      ·rw [hr2] at e1;simp only [Value.slice.injEq] at e1;omega
      ·rw [hr2] at e1;simp only [Value.slice.injEq] at e1;omega
     subst hmn
     have hv:us.getD k undef=ρ' id:=by rw [hu,hr2]
     rw [hv]
     refine ⟨h0,⟨xs,⟨hown.1, ?_⟩,hone,fun i hi j hj => ?_⟩,fun id2 hid => ?_,fun h=>(by cases h)⟩
     ·rcases hown.2 with h|⟨b,cap,cur,e1,e2,e3⟩
      ·exact .inl h
      ·refine .inr ⟨b,cap,cur,e1, ?_,e3⟩
       rcases (g'.new id _ b hbx (by rw [e1];rfl)).2 with h|⟨_,_,_,h,_⟩
       ·exact h
       ·cases h
     ·refine hgf i hi j hj _ _ _ (aV.mono (fun b hb=>⟨⟨⟨hb.1,hb.2.1⟩,fun hb2 => ?_⟩,fun _=>rfl⟩) (hd2 i hi j hj))
      exact hb.2.2 id (by rw [hbx];simp) hb2
     ·simp only [wk,Option.some.injEq] at hid
      subst hid
      exact ⟨rfl,by rw [hbx];simp⟩
    | p x =>
     obtain ⟨rfl,rfl,h0⟩:=hcell
     have hv:us.getD k undef = .slice none 0 0:=hkd
     rw [hv]
     exact ⟨h0,⟨[],⟨by simp, .inl ⟨rfl,rfl⟩⟩,by simp,fun i hi=>absurd hi (Nat.not_lt_zero i)⟩,fun id h=>(by cases h),fun _=>rfl⟩
    | ptr _ _=>exact hcell.elim
    | pel _ _ _ _=>exact hcell.elim
    | ipt _ _ _=>exact hcell.elim
    | clo _ _=>exact hcell.elim
    | sub _ _ _ _=>exact hcell.elim
   obtain ⟨h0,⟨xs,m1,m2,m3⟩,m4,m5⟩:=hmain
   refine ⟨g'.dfr, .agg us,hv1,us,xs,rfl,hB,h0,m1,m2,m3,by rw [hs,q1],h1,fun j y hj => ?_⟩
   obtain ⟨t1,t2⟩:=q2 j y hj
   exact zr g' rfl m4 m5 t2 g'.frm.size (hdu j) t1
  ·exact hq.elim
 refine wp_mono (cQ hm c hN h g0) fun e a' w' hq => ?_
 cases e with
 | normal=>exact fin hq
 | ret=>exact fin hq
 | exit id=>obtain ⟨_,_,_,h⟩:=hq;exact h.elim
 | _=>exact hq.elim
attribute [go_sem] Bf va rM zJ wk rZ On AI qo rv kH MF
end Go.SL
namespace Go.SL
open Go
def Jo (bx' bx:Nat→Option Bx):Prop:=∀ i y,bx' i=some y→bx i=some y
section
variable {S:Env} {E:Ent} {st:St} {ρ:ey} {a:Act} {w:World}
theorem qS {bx':Nat→Option Bx} (h:Jo bx' st.bx):dQ (bj E st.bx ρ w) (bj E bx' ρ w) w w:=fun b ⟨h1,h2,h3⟩=>⟨⟨h1,h2,fun i hi=>h3 i fun q=>hi (by
 cases hx:bx' i with
 | none=>rfl
 | some y=>rw [h i y hx] at q;cases q)⟩,fun _=>rfl⟩
theorem Gam.subBox (g:Gam S E st ρ a w) (bx':Nat→Option Bx) (h:Jo bx' st.bx):Gam S E ⟨st.fr,bx',st.nx,st.kf⟩ ρ a w:=by
 have hsub':∀ i,bx' i≠none→st.bx i≠none:=fun i hi=>by
  cases hx:bx' i with
  | none=>exact absurd hx hi
  | some y=>rw [h i y hx];simp
 have hk:dQ (bj E st.bx ρ w) (bj E bx' ρ w) w w:=qS h
 have hρ:∀ id,id<st.nx→ρ id=ρ id:=fun _ _=>rfl
 refine ⟨g.dfr,g.sz,g.frm,g.wfs,fun i b hb=>g.wfb i b (h i b hb),fun i b hb=>hP.mono hk hρ (g.wfb i b (h i b hb)).2 (fun _ _=>rfl) (g.bxs i b (h i b hb)),
  fun i y b h1 h2=>g.new i y b (h i y h1) h2,fun i j b h1 h2=>g.inj i j b (hsub' i h1) (hsub' j h2),g.rx0,fun s=>aU.mono hk hρ (g.wfs s) (g.slt s),fun gg n f hg => ?_,fun s=>⟨(g.kept s).1,aU.mono hk hρ (g.kept s).1 (g.kept s).2⟩⟩
 obtain ⟨h1,h2⟩:=g.glb gg n f hg
 refine ⟨(hk gg h1).1,fun j hj => ?_⟩
 obtain ⟨x,hx,h3,hd⟩:=h2 j hj
 exact ⟨x,hx,h3,aV.mono hk hd⟩
def kK (S:Env) (rs:List ResultVar) (X:SV) (bx':Nat→Option Bx) (nx':Nat) (kf:Nat→SV) (st:St):Prop :=
 match gy S st rs with
 | some (p,xs)=>p∧CI xs=X∧Jo bx' st.bx∧st.nx=nx'∧st.kf=kf∧X.lt nx'
 | none=>False
def zC (S:Env) (rs:List ResultVar) (X:SV) (bx':Nat→Option Bx) (nx':Nat) (kf:Nat→SV):AExit→St→Prop
 | .ret,st=>kK S rs X bx' nx' kf st
 | .normal,st=>kK S rs X bx' nx' kf st
 | _,_=>False
theorem AS {S:Env} {rs:List ResultVar} {X:SV} {bx':Nat→Option Bx} {nx':Nat} {kf:Nat→SV} {st:St}:zC S rs X bx' nx' kf .ret st=kK S rs X bx' nx' kf st:=rfl
theorem uF {S:Env} {rs:List ResultVar} {X:SV} {bx':Nat→Option Bx} {nx':Nat} {kf:Nat→SV} {st:St}:zC S rs X bx' nx' kf .normal st=kK S rs X bx' nx' kf st:=rfl
attribute [go_sem] AS uF kK
theorem gw {f : FuncId} {fn : Func} {c : Code} {rs : List ResultVar} {args : List BV} {X : SV} {bx bx' : Nat → Option Bx} {nx nx' : Nat} (hf : S.P.funcs[f]? = some fn) (hb : fn.body = some c) (hrs : fn.results.toList = rs)
  (hname : (fn.name == "runtime.NumGoroutine") = false) (hm : S.P.follows .mixedOrders = true) (hN : cf fn.ntmps c = true) (hlen : args.length ≤ fn.ntmps) (hl : ∀ x ∈ args, BV.lt nx x)
  (h:∀ kf,cw S c (zC S rs X bx' nx' kf) (Ce args bx nx kf)):kR S bx nx f args X bx' nx':=by
 subst hrs
 refine ⟨⟨fn,hf,hname,by rw [hb];rfl⟩,fun E st ρ a w vs hbx hnx g hsz hden => ?_⟩
 refine calls_of_wp hf hb ?_
 subst hbx
 subst hnx
 let E2:Ent := { w0:=E.w0,ok0:=E.ok0,rx:=E.rx,N:=fn.ntmps,kp:=fun s=>if s % 2=0 then a.tmps.getD (s / 2) undef else E.kp (s / 2) }
 let kf:Nat→SV:=fun s=>if s % 2=0 then st.fr (s / 2) else st.kf (s / 2)
 have g2:Gam S E2 (Ce args st.bx st.nx kf) ρ { tmps:=vs ++ Array.replicate (fn.ntmps - vs.size) undef,defers:=[] } w:=by
  refine ⟨rfl,by simp [E2];omega,⟨g.frm.os,g.frm.tape,g.frm.output,g.frm.size,g.frm.block,g.frm.rxb⟩,fun s => ?_,g.wfb,g.bxs,g.new,g.inj,g.rx0,fun s => ?_,g.glb,fun s => ?_⟩
  ·simp only [Ce,bA]
   split
   ·rename_i hs
    refine hl _ ?_
    rw [List.getD_eq_getElem?_getD,List.getElem?_eq_getElem (by omega)];exact List.getElem_mem _
   ·trivial
  ·simp only [Ce,bA]
   split
   ·rename_i hs
    have e:(vs ++ Array.replicate (fn.ntmps - vs.size) undef).getD s undef=vs.getD s undef:=by
     have:s<vs.size:=by omega
     simp [this]
     rw [Array.getElem?_append_left this]
     simp [this]
    rw [e]
    exact hden (s - 0)
   ·trivial
  ·show (kf s).lt st.nx∧aU ρ (bj E st.bx ρ w) w (kf s) (E2.kp s)
   simp only [kf,E2]
   split
   ·exact ⟨g.wfs _,g.slt _⟩
   ·exact g.kept _
 have fin : ∀ {a' : Act} {w' : World}, iZ S E2 (kK S fn.results.toList X bx' nx' kf) a' w' → a'.defers = [] ∧ ∃ v, (results fn a'.tmps).run S.P w' = .ok v w' ∧
   ∃ v2 ρ',Ending.returned v = .returned v2∧aU ρ' (bj E bx' ρ' w') w' X v2∧X.lt nx'∧Gam S E ⟨st.fr,bx',nx',st.kf⟩ ρ' a w':=fun {a' w'} ⟨st',ρ',g',hq⟩=>by
  unfold kK at hq
  split at hq
  ·rename_i p xs hr
   obtain ⟨hp,hX,hbx',hnx',hkf,hXl⟩:=hq
   obtain ⟨vs2,hvs,hl2,hd⟩:=fT g' hr hp
   obtain ⟨v,hv1,hv2⟩:=mY hvs hl2 hd
   subst hX
   subst hnx'
   have g'':=g'.subBox bx' hbx'
   have hkk:dQ (bj E2 st'.bx ρ' w') (bj E2 bx' ρ' w') w' w':=qS hbx'
   have hv3:=aU.mono hkk (fun (_:Nat) (_:_<st'.nx)=>rfl) hXl hv2
   refine ⟨g'.dfr,v,hv1,v,ρ',rfl,hv3,hXl, ?_⟩
   have hk0:∀ s,(st.fr s).lt st'.nx∧aU ρ' (bj E bx' ρ' w') w' (st.fr s) (a.tmps.getD s undef):=fun s=>by
    have:=g''.kept (2 * s)
    dsimp only at this
    rw [hkf] at this
    have e1:2 * s % 2=0:=by omega
    have e2:2 * s / 2=s:=by omega
    simp only [kf,E2,e1,e2,if_true] at this
    exact this
   have hk1:∀ s,(st.kf s).lt st'.nx∧aU ρ' (bj E bx' ρ' w') w' (st.kf s) (E.kp s):=fun s=>by
    have:=g''.kept (2 * s+1)
    dsimp only at this
    rw [hkf] at this
    have e1:¬ (2 * s+1) % 2=0:=by omega
    have e2:(2 * s+1) / 2=s:=by omega
    simp only [kf,E2,e1,e2,if_false] at this
    exact this
   exact ⟨g.dfr,g.sz,⟨g''.frm.os,g''.frm.tape,g''.frm.output,g''.frm.size,g''.frm.block,g''.frm.rxb⟩,fun s=>(hk0 s).1,g''.wfb,g''.bxs,g''.new,g''.inj,g''.rx0,fun s=>(hk0 s).2,g''.glb,hk1⟩
  ·exact hq.elim
 refine wp_mono (cQ hm c hN (h kf) g2) fun e a' w' hq => ?_
 cases e with
 | normal=>exact fin hq
 | ret=>exact fin hq
 | exit id=>obtain ⟨_,_,_,h⟩:=hq;exact h.elim
 | _=>exact hq.elim
end
def qt (o:Oper):Bool:=o.guard.isNone && match o.op with
 | .call c=>match c.callee,c.args.toList with
  | .builtin .append,[.const (.slice none 0 0),_]=>true
  | _,_=>false
 | _=>false
def vi (ops:Array Oper) (x y:Oper):Bool :=
 (match x.dst with|some d => !(bD ops y).contains d|none=>true) && (match y.dst with|some d => !(bD ops x).contains d|none=>true) &&
 (match x.dst,y.dst with|some d,some e=>d != e|_,_=>true) && uU x && qt y
section
variable {S:Env} {ops:Array Oper} {st s1 s2 s':St}
theorem AQ {o:Oper} (ha:qt o=true) (h:Ex S ops st o s'):∀ i,i≠st.nx→s'.bx i=st.bx i:=by
 intro i hi
 simp only [qt,Bool.and_eq_true,Option.isNone_iff_eq_none] at ha
 obtain ⟨hg,ha⟩:=ha
 unfold Ex dD at h
 rw [hg] at h
 simp only [gM] at h
 split at ha
 ·rename_i c ho
  obtain ⟨cal,⟨al⟩,⟨tl⟩⟩:=c
  simp only at ha
  split at ha
  ·rename_i y
   rw [ho] at h
   have hro:ro S st.bx (st.ev S) (.call ⟨.builtin .append,⟨[.const (.slice none 0 0),y]⟩,⟨tl⟩⟩)=none:=by simp [ro,aP]
   rw [hro] at h
   have h2:=h.2
   have hev:(st.ev S (.const (.slice none 0 0))).strip = .b (.c (.p (.val (.slice none 0 0)))):=rfl
   unfold cu at h2
   simp only at h2
   split at h2
   ·rename_i e3
    simp only [List.cons.injEq,and_true] at e3
    obtain ⟨rfl,rfl⟩:=e3
    split at h2
    ·split at h2
     ·rw [← h2.2];simp [St.newBox,cR,hi]
     ·rename_i e4
      rw [hev] at e4;cases e4
     ·exact h2.elim
    ·exact h2.elim
   all_goals first|exact h2.elim|exact absurd (by assumption:Callee.builtin Builtin.append=Callee.builtin Builtin.copy) (by intro q;cases q)|(rename_i q;cases q)
  ·cases ha
 ·cases ha
theorem sC {lb:Nat} {x y:Oper} (hi:vi ops x y=true) (w:dB lb st) (h1:Ex S ops st x s1) (h2:Ex S ops s1 y s2):∃ s3,Ex S ops st y s3∧Ex S ops s3 x s2:=by
 simp only [vi,Bool.and_eq_true] at hi
 obtain ⟨⟨⟨⟨hxy,hyx⟩,hdd⟩,hl⟩,ha⟩:=hi
 have hab:=AQ ha h2
 simp only [uU,Bool.and_eq_true,Option.isNone_iff_eq_none] at hl
 obtain ⟨hxg,hl⟩:=hl
 split at hl
 case h_2=>cases hl
 rename_i t q hxo
 obtain ⟨v1,b1,n1,e1,k1,p1,z1⟩:=ff h1
 have hc1:sH S.rcv x≤1:=by simp [sH,cF,hxo]
 obtain ⟨rfl,rfl⟩:=k1 hc1
 obtain ⟨v2,b2,n2,e2,k2,p2,z2⟩:=ff h2
 have hs1:s1.bx=st.bx∧s1.nx=st.nx:=by rw [e1];exact ⟨cR,ee⟩
 have ag1:∀ t ∈ bD ops y,s1.fr t=st.fr t:=by
  rw [e1];exact eV (nx':=0) (bx':=st.bx) hxy
 have q2:=p2 st ag1 hs1.1.symm hs1.2.symm
 refine ⟨_,q2, ?_⟩
 have comm:s2=St.set (St.set ⟨st.fr,b2,n2,st.kf⟩ y.dst v2) x.dst v1:=by
  rw [e2,e1]
  simp only [cV,St.mk.injEq,and_true]
  funext s
  by_cases c1:some s=x.dst
  ·by_cases c2:some s=y.dst
   ·rw [← c1,← c2] at hdd
    simp at hdd
   ·rw [if_neg c2,if_pos c1,if_pos c1]
  ·by_cases c2:some s=y.dst
   ·rw [if_pos c2,if_neg c1,if_pos c2]
   ·rw [if_neg c2,if_neg c1,if_neg c1,if_neg c2]
 have hbx:∀ i y',st.bx i=some y'→b2 i=some y':=fun i y' hi=>by
  have hne:i≠s1.nx:=by
   rw [hs1.2]
   intro e
   have:=w.1 i (by omega)
   rw [this] at hi;cases hi
  have:=hab i hne
  rw [e2,cR,hs1.1] at this
  exact this.trans hi
 have ag2:∀ t ∈ bD ops x,(St.set ⟨st.fr,b2,n2,st.kf⟩ y.dst v2).fr t=st.fr t:=eV (nx':=0) (bx':=st.bx) hyx
 have hevq:(St.set ⟨st.fr,b2,n2,st.kf⟩ y.dst v2).ev S q=st.ev S q :=
  (cA (S:=S) (ops:=ops) (o:=x) (fun t ht=>(ag2 t ht).symm) q (by rw [hxo];simp [Op.operands])).symm
 unfold Ex dD at h1 ⊢
 rw [hxg] at h1 ⊢
 simp only [gM,hxo,kZ] at h1 ⊢
 rw [hevq,cR]
 cases hr:ct S t st.bx (st.ev S q).strip with
 | none=>rw [hr] at h1;simp only [rc,cu] at h1;exact h1.2.elim
 | some r =>
  rw [hr] at h1
  rw [zM hr hbx]
  obtain ⟨r1,r2⟩:=r
  simp only [rc] at h1 ⊢
  refine ⟨h1.1, ?_⟩
  rw [comm]
  have hv:∀ d,x.dst=some d→r2=v1:=fun d hd=>by
   have:=congrArg (fun s:St=>s.fr d) (h1.2.trans e1)
   simpa [hd,St.set] using this
  cases hd:x.dst with
  | none=>rfl
  | some d=>rw [hv d hd]
end
def jo (rcv:Nat→Bool) (ops:Array Oper) (m:Nat→Nat) (listed:Array Bool) (p:Nat):Bool :=
 match ops[p]? with
 | none=>false
 | some x=>(List.range ops.size).all fun i=>listed.getD i true || Nat.beq i p || ((m i).testBit p && Nat.blt p i) || (match ops[i]? with
  | some o=>pa rcv ops x o || nb rcv ops x o || pM ops x o || vi ops x o
  | none=>false)
section
variable {S:Env} {ops:Array Oper} {st:St}
theorem vd {rcv:Nat→Bool} {m:Nat→Nat} {listed:Array Bool} {i p:Nat} (hi:i<listed.size) (h:jo rcv ops m listed p=true):jo rcv ops m (listed.setIfInBounds i true) p=true:=by
 unfold jo at h ⊢
 split at h
 ·cases h
 ·refine List.all_eq_true.2 fun k hk => ?_
  have:=List.all_eq_true.1 h k hk
  simp only [Bool.or_eq_true] at this ⊢
  rw [mN hi]
  rcases this with ((h1|h1)|h1)|h1
  ·refine .inl (.inl (.inl ?_));split
   ·rfl
   ·exact h1
  ·exact .inl (.inl (.inr h1))
  ·exact .inl (.inr h1)
  ·exact .inr h1
theorem vn {m : Nat → Nat} {x : Oper} {p : Nat} (hm : cg ops m = true) (hed : ∀ i o, ops[i]? = some o → ∀ e ∈ o.after, Region.binds .any e = true → e.on < i) (hx : ops[p]? = some x) {K : St → Prop} : ∀ (fuel : Nat) (listed : Array Bool) (st : St),
  listed.size=ops.size→eZ ops listed→jo S.rcv ops m listed p=true→p ∈ Region.ready .any ops listed→dB 0 st→(∃ s,Ex S ops st x s∧fN S ops fuel (listed.setIfInBounds p true) s K)→fN S ops (fuel+1) listed st K:=by
 intro fuel
 induction fuel with
 | zero =>
  intro listed st hs hcl hp hr hw ⟨s,h1,h2⟩
  have hplt:=eX hs hr
  refine ⟨fun hno=>(by rw [hno] at hr;cases hr),fun i hi => ?_⟩
  by_cases e:i=p
  ·subst e;rw [hx];exact ja h1 h2
  ·have:=gJ hs (by omega) hi e
   rw [h2.1] at this;cases this
 | succ f ih =>
  intro listed st hs hcl hp hr hw ⟨s,h1,h2⟩
  have hplt:=eX hs hr
  obtain ⟨_,_,hpl,_⟩:=(bP hs).1 hr
  refine ⟨fun hno=>(by rw [hno] at hr;cases hr),fun i hi => ?_⟩
  by_cases e:i=p
  ·subst e;rw [hx];exact ja h1 h2
  obtain ⟨o,ho,hl,hdep⟩:=(bP hs).1 hi
  have hlt:=eX hs hi
  rw [ho]
  have h3:=h2.2 i (gJ hs (by omega) hi e)
  rw [ho] at h3
  obtain ⟨s2,h4,h5⟩:=mB h3
  have hsw:∃ s3,Ex S ops st o s3∧Ex S ops s3 x s2:=by
   have hq:=hp
   unfold jo at hq
   rw [hx] at hq
   have hq:=List.all_eq_true.1 hq i (List.mem_range.2 hlt)
   rw [ho] at hq
   simp only [Bool.or_eq_true,Nat.beq_eq,Bool.and_eq_true] at hq
   rcases hq with ((q|q)|q)|q
   ·rw [q] at hl;cases hl
   ·exact absurd q e
   ·exact absurd hi (tr hm hs hed hcl (by have:=q.2;simp [Nat.blt] at this;omega) q.1 hpl)
   ·rcases q with ((q|q)|q)|q
    ·exact pO q h1 h4
    ·exact gm q hw h1 h4
    ·exact jv q hw h1 h4
    ·exact sC q hw h1 h4
  obtain ⟨s3,h6,h7⟩:=hsw
  refine ja h6 ?_
  refine ih _ s3 (by simpa using hs) (jV hs hed hcl hi) (vd (by omega) hp) (gJ hs (by omega) hr (fun h=>e h.symm)) (pc h6 hw) ⟨s2,h7, ?_⟩
  rw [xI];exact h5
end
def vK (rcv:Nat→Bool) (ops:Array Oper) (m:Nat→Nat) (listed:Array Bool):Tr→Bool
 | .leaf=>Region.ready .any ops listed == []
 | .nil=>false
 | .br i t r=>Region.ready .any ops listed == cI (.br i t r) || (cI r == [] && (Region.ready .any ops listed).contains i && jo rcv ops m listed i)
def yP (rcv:Nat→Bool) (ops:Array Oper) (m:Nat→Nat):Array Bool→Tr→Bool
 | _, .leaf=>true
 | _, .nil=>true
 | listed, .br i t r=>Nat.blt i ops.size && vK rcv ops m (listed.setIfInBounds i true) t && yP rcv ops m (listed.setIfInBounds i true) t && yP rcv ops m listed r
section
variable {S:Env} {l:List Oper} {m:Nat→Nat}
theorem qZ {t:Tr} {listed:Array Bool} (hn:vK S.rcv l.toArray m listed t=true):∀ i ∈ cI t,i ∈ Region.ready .any l.toArray listed:=by
 cases t with
 | leaf=>intro i hi;cases hi
 | nil=>cases hn
 | br k t r =>
  intro i hi
  simp only [vK,Bool.or_eq_true,Bool.and_eq_true,beq_iff_eq] at hn
  rcases hn with hn|hn
  ·rw [hn];exact hi
  ·obtain ⟨⟨h1,h2⟩,_⟩:=hn
   rw [cI,h1,List.mem_singleton] at hi
   subst hi
   exact List.contains_iff_mem.1 h2
theorem rE (hm : cg l.toArray m = true) (hf : lV l.toArray = true) {t : Tr} {listed : Array Bool} {fuel : Nat} {st : St} {K : St → Prop} (hs : listed.size = l.toArray.size) (hcl : eZ l.toArray listed) (hw : dB 0 st)
  (hn:vK S.rcv l.toArray m listed t=true) (h:di S l.toArray l t st K) (hd:eB t≤fuel)
  (hal : ∀ f, fuel = f + 1 → ∀ i ∈ cI t, match l.toArray[i]? with
    | some o=>dD S l.toArray st o fun st'=>fN S l.toArray f (listed.setIfInBounds i true) st' K
    | none=>fN S l.toArray f (listed.setIfInBounds i true) st K):fN S l.toArray fuel listed st K:=by
 have hsub:=qZ hn
 cases t with
 | leaf =>
  have hr:Region.ready .any l.toArray listed=[]:=by simpa [vK] using hn
  cases fuel with
  | zero=>exact ⟨hr,h⟩
  | succ f=>exact ⟨fun _=>h,fun i hi=>by rw [hr] at hi;cases hi⟩
 | nil=>cases hn
 | br i t r =>
  cases fuel with
  | zero=>simp [eB] at hd
  | succ f =>
   have hi:i ∈ Region.ready .any l.toArray listed:=hsub i (by rw [cI];exact List.mem_cons_self ..)
   simp only [vK,Bool.or_eq_true,Bool.and_eq_true,beq_iff_eq] at hn
   rcases hn with hn|hn
   ·exact ⟨fun h0=>by (rw [h0] at hi;cases hi),fun j hj=>hal f rfl j (by rw [← hn];exact hj)⟩
   ·have:=hal f rfl i (by rw [cI];exact List.mem_cons_self ..)
    obtain ⟨o,ho,_⟩:=(bP hs).1 hi
    rw [ho] at this
    exact vn hm (vJ hf) ho f listed st hs hcl hn.2 hi hw (mB this)
theorem mh (hm : cg l.toArray m = true) (hf : lV l.toArray = true) {K : St → Prop} : ∀ (t : Tr) (listed : Array Bool) (fuel : Nat) (st : St), listed.size = l.toArray.size → eZ l.toArray listed → dB 0 st → (∀ i ∈ cI t, i ∈ Region.ready .any l.toArray listed) →
  yP S.rcv l.toArray m listed t = true → di S l.toArray l t st K → eB t ≤ fuel + 1 → ∀ i ∈ cI t, match l.toArray[i]? with
    | some o=>dD S l.toArray st o fun st'=>fN S l.toArray fuel (listed.setIfInBounds i true) st' K
    | none=>fN S l.toArray fuel (listed.setIfInBounds i true) st K
 | .leaf,_,_,_,_,_,_,_,_,_,_,i,hi=>by cases hi
 | .nil,_,_,_,_,_,_,_,_,_,_,i,hi=>by cases hi
 | .br k t r,listed,fuel,st,hs,hcl,hw,hsub,hok,h,hd,i,hi=>by
  have hkr:k ∈ Region.ready .any l.toArray listed:=hsub k (by rw [cI];exact List.mem_cons_self ..)
  simp only [yP,Bool.and_eq_true] at hok
  obtain ⟨⟨⟨hk,hn⟩,ht⟩,hr⟩:=hok
  simp only [eB] at hd
  rcases List.mem_cons.1 hi with rfl|hi
  ·have hlt:i<l.toArray.size:=by simp [Nat.blt] at hk ⊢;omega
   have hget:l.toArray[i]?=some (l.getD i default):=by
    have hlt2:i<l.length:=by simpa using hlt
    rw [List.getElem?_toArray,List.getD_eq_getElem?_getD,List.getElem?_eq_getElem hlt2];rfl
   rw [hget]
   obtain ⟨s,h1,h2⟩:=mB h.1
   refine ja h1 ?_
   have hs2:(listed.setIfInBounds i true).size=l.toArray.size:=by simpa using hs
   have hcl2:=jV hs (vJ hf) hcl hkr
   exact rE hm hf hs2 hcl2 (pc h1 hw) hn h2 (by omega) fun f hf2 j hj=>mh hm hf t _ f s hs2 hcl2 (pc h1 hw) (qZ hn) ht h2 (by omega) j hj
  ·exact mh hm hf r listed fuel st hs hcl hw (fun j hj=>hsub j (by rw [cI];exact List.mem_cons_of_mem _ hj)) hr h.2 (by omega) i hi
theorem qR {t : Tr} {st : St} {K : St → Prop} (hok : (lV l.toArray && cg l.toArray m && vK S.rcv l.toArray m (Array.replicate l.toArray.size false) t && yP S.rcv l.toArray m (Array.replicate l.toArray.size false) t && Nat.ble (eB t) l.toArray.size) = true) (hw : dB 0 st) (h : di S l.toArray l t st K) :
  fN S l.toArray l.toArray.size (Array.replicate l.toArray.size false) st K:=by
 simp only [Bool.and_eq_true] at hok
 obtain ⟨⟨⟨⟨hf,hm⟩,h1⟩,h2⟩,h3⟩:=hok
 have h3:=Nat.le_of_ble_eq_true h3
 have hs:(Array.replicate l.toArray.size false).size=l.toArray.size:=by simp
 have hcl:eZ l.toArray (Array.replicate l.toArray.size false):=fun i o ho hi=>by
  exfalso
  have hlt:i<l.toArray.size:=by
   rcases Nat.lt_or_ge i l.toArray.size with h|h
   ·exact h
   ·rw [Array.getElem?_eq_none h] at ho;cases ho
  unfold gA at hi
  simp only [Array.getD_eq_getD_getElem?,Array.getElem?_replicate,if_pos hlt] at hi
  cases hi
 exact rE hm hf hs hcl hw h1 h h3 fun f hf2 i hi=>mh hm hf t _ f st hs hcl hw (qZ h1) h2 h (by omega) i hi
end
section
variable {S:Env} {l:List Oper}
theorem nB {id : Nat} {y : Code} {Q : AExit → St → Prop} {st : St} (t : Tr)
  (hok:(lV l.toArray && cg l.toArray (fun i=>(Region.before l.toArray).getD i 0) && vK S.rcv l.toArray (fun i=>(Region.before l.toArray).getD i 0) (Array.replicate l.toArray.size false) t && yP S.rcv l.toArray (fun i=>(Region.before l.toArray).getD i 0) (Array.replicate l.toArray.size false) t && Nat.ble (eB t) l.toArray.size)=true)
  (hw:dB 0 st) (h:∀ K:St→Prop,(∀ s,cw S y Q s→K s)→di S l.toArray l t st K):cw S (.seq (.region id l.toArray true) y) Q st:=by
 refine cC (S:=S) (.region id l.toArray true) (Q:=fv (fun st=>Wk (cw S y Q) st∨cw S y Q st) Q) (fun _ _ h=>h) ?_
 simp only [cw,if_pos]
 exact qR hok hw (h _ fun s hs => .inr hs)
theorem nd {id : Nat} {Q : AExit → St → Prop} {st : St} (t : Tr)
  (hok:(lV l.toArray && cg l.toArray (fun i=>(Region.before l.toArray).getD i 0) && vK S.rcv l.toArray (fun i=>(Region.before l.toArray).getD i 0) (Array.replicate l.toArray.size false) t && yP S.rcv l.toArray (fun i=>(Region.before l.toArray).getD i 0) (Array.replicate l.toArray.size false) t && Nat.ble (eB t) l.toArray.size)=true)
  (hw:dB 0 st) (h:∀ K:St→Prop,(∀ s,Q .normal s→K s)→di S l.toArray l t st K):cw S (.region id l.toArray true) Q st:=by
 simp only [cw,if_pos]
 exact qR hok hw (h _ fun s hs=>hs)
end
structure Hold (p:Prop):Prop where
 out:p
theorem iT {p:Prop} (h:p):Hold p:=⟨h⟩
theorem kD {K:St→Prop} {P:St→Prop} (h:∀ s,P s→K s):∀ s,Hold (P s)→K s:=fun s q=>h s q.out
theorem cU {α:Type} {i j:Nat} {a b:α} (h:i≠j):(if i=j then a else b)=b:=if_neg h
theorem bt {bx:Nat→Option Bx} {n:Nat} {x:Bx} (h:bx n=some x):bx=aA n x bx:=by
 funext i
 unfold aA
 split
 ·rename_i e;rw [e,h]
 ·rfl
end Go.SL
