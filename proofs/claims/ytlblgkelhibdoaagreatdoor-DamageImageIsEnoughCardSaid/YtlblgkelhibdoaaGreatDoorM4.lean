/- Part of the proof: SlFacts, SlS, SlT, SlU, SlV, F0. -/
import Derived.Test.YtlblgkelhibdoaaGreatDoorProg
import Derived.KernelRfl
import Derived.Test.YtlblgkelhibdoaaGreatDoorM3
set_option maxRecDepth 100000
namespace Go.Proofs.YtlblgkelhibdoaaGreatDoor
open Go Go.SL
def g0 : List PV := [.val (.string ⟨#[]⟩), .val (.string ⟨#[110, 111, 114, 109, 97, 108]⟩), .val (.string ⟨#[109, 117, 108, 116, 105, 112, 108, 121]⟩), .val (.string ⟨#[115, 99, 114, 101, 101, 110]⟩), .val (.string ⟨#[111, 118, 101, 114, 108, 97, 121]⟩), .val (.string ⟨#[100, 97, 114, 107, 101, 110]⟩), .val (.string ⟨#[108, 105, 103, 104, 116, 101, 110]⟩), .val (.string ⟨#[99, 111, 108, 111, 114, 45, 100, 111, 100, 103, 101]⟩), .val (.string ⟨#[99, 111, 108, 111, 114, 45, 98, 117, 114, 110]⟩), .val (.string ⟨#[104, 97, 114, 100, 45, 108, 105, 103, 104, 116]⟩), .val (.string ⟨#[115, 111, 102, 116, 45, 108, 105, 103, 104, 116]⟩), .val (.string ⟨#[100, 105, 102, 102, 101, 114, 101, 110, 99, 101]⟩), .val (.string ⟨#[101, 120, 99, 108, 117, 115, 105, 111, 110]⟩)]
def g1 : List PV := [.val (.string ⟨#[]⟩), .val (.int .i64 0), .val (.int .i64 0), .val (.int .i64 0), .val (.string ⟨#[99, 108, 101, 97, 114]⟩), .val (.int .i64 0), .val (.int .i64 0), .val (.int .i64 0), .val (.string ⟨#[115, 114, 99]⟩), .val (.int .i64 1), .val (.int .i64 0), .val (.int .i64 1), .val (.string ⟨#[100, 115, 116]⟩), .val (.int .i64 0), .val (.int .i64 1), .val (.int .i64 2), .val (.string ⟨#[115, 114, 99, 45, 111, 118, 101, 114]⟩), .val (.int .i64 1), .val (.int .i64 3), .val (.int .i64 3), .val (.string ⟨#[100, 115, 116, 45, 111, 118, 101, 114]⟩), .val (.int .i64 3), .val (.int .i64 1), .val (.int .i64 3), .val (.string ⟨#[115, 114, 99, 45, 105, 110]⟩), .val (.int .i64 2), .val (.int .i64 0), .val (.int .i64 4), .val (.string ⟨#[100, 115, 116, 45, 105, 110]⟩), .val (.int .i64 0), .val (.int .i64 2), .val (.int .i64 4), .val (.string ⟨#[115, 114, 99, 45, 111, 117, 116]⟩), .val (.int .i64 3), .val (.int .i64 0), .val (.int .i64 1), .val (.string ⟨#[100, 115, 116, 45, 111, 117, 116]⟩), .val (.int .i64 0), .val (.int .i64 3), .val (.int .i64 2), .val (.string ⟨#[115, 114, 99, 45, 97, 116, 111, 112]⟩), .val (.int .i64 2), .val (.int .i64 3), .val (.int .i64 2), .val (.string ⟨#[100, 115, 116, 45, 97, 116, 111, 112]⟩), .val (.int .i64 3), .val (.int .i64 2), .val (.int .i64 1), .val (.string ⟨#[120, 111, 114]⟩), .val (.int .i64 3), .val (.int .i64 3), .val (.int .i64 3)]
def glob (g : Nat) : Option (Nat × (Nat → PV)) := if g = 0 then some (13, fun j => g0.getD j .any) else if g = 1 then some (52, fun j => g1.getD j .any) else none
abbrev gv_compositor_blend_names : List PV := g0
abbrev gv_compositor_operator_rules : List PV := g1
def rcvs (f : Nat) : Bool := Nat.beq f 8 || Nat.beq f 18 || Nat.beq f 39 || Nat.beq f 78 || Nat.beq f 80 || Nat.beq f 83 || Nat.beq f 84 || Nat.beq f 88 || Nat.beq f 94 || Nat.beq f 98 || Nat.beq f 99 || Nat.beq f 101 || Nat.beq f 102 || Nat.beq f 103 || Nat.beq f 104 || Nat.beq f 105 || Nat.beq f 106 || Nat.beq f 107 || Nat.beq f 108 || Nat.beq f 109 || Nat.beq f 111 || Nat.beq f 134 || Nat.beq f 141 || Nat.beq f 144 || Nat.beq f 145 || Nat.beq f 161 || Nat.beq f 2000048 || Nat.beq f 2000068 || Nat.beq f 2000110 || Nat.beq f 2000111 || Nat.beq f 2000112 || Nat.beq f 2000116 || Nat.beq f 1000032 || Nat.beq f 1000077 || Nat.beq f 1000081 || Nat.beq f 1000087 || Nat.beq f 1000130 || Nat.beq f 1000132 || Nat.beq f 1000133 || Nat.beq f 1000135 || Nat.beq f 1000136 || Nat.beq f 1000137 || Nat.beq f 1000152 || Nat.beq f 1000157 || Nat.beq f 1000158 || Nat.beq f 1000164 || Nat.beq f 1000165 || Nat.beq f 1000166 || Nat.beq f 1000167 || Nat.beq f 1000168 || Nat.beq f 1000169 || Nat.beq f 1000170 || Nat.beq f 1000171 || Nat.beq f 1000173 || Nat.beq f 1000174 || Nat.beq f 1000175 || Nat.beq f 1000176 || Nat.beq f 1000177 || Nat.beq f 1000178 || Nat.beq f 1000179 || Nat.beq f 1000180 || Nat.beq f 1000181 || Nat.beq f 1000182 || Nat.beq f 1000183 || Nat.beq f 1000184 || Nat.beq f 1000185 || Nat.beq f 1000188 || Nat.beq f 1000189 || Nat.beq f 1000190 || Nat.beq f 1000191 || Nat.beq f 1000193 || Nat.beq f 1000194
noncomputable def Sg : Env := { P := Tryz.prog, gl := glob, rcv := rcvs }
theorem SgP : Sg.P = Tryz.prog := rfl
theorem gl0 : Sg.gl 0 = some (13, fun j => g0.getD j .any) := rfl
theorem gl1 : Sg.gl 1 = some (52, fun j => g1.getD j .any) := rfl
theorem mixed : Sg.P.follows .mixedOrders = true := by kernel_rfl
-- 2 int64
theorem ti3 : Sg.ti 3 = some (1, false) := by kernel_rfl
theorem un3 : Sg.P.underlying 3 = some (.int .i64) := by kernel_rfl
theorem ze3 : Sg.zero 3 = some [.int .i64 0] := by kernel_rfl
theorem by3 : Sg.byt 3 = some 8 := by kernel_rfl
-- 4 bool
theorem ti4 : Sg.ti 4 = some (1, false) := by kernel_rfl
theorem un4 : Sg.P.underlying 4 = some (.bool) := by kernel_rfl
theorem ze4 : Sg.zero 4 = some [.bool false] := by kernel_rfl
theorem by4 : Sg.byt 4 = some 1 := by kernel_rfl
-- 5 uint8
theorem ti9 : Sg.ti 9 = some (1, false) := by kernel_rfl
theorem ze9 : Sg.zero 9 = some [.string ⟨#[]⟩] := by kernel_rfl
theorem ti22 : Sg.ti 22 = some (1, false) := by kernel_rfl
theorem un22 : Sg.P.underlying 22 = some (.slice 3) := by kernel_rfl
theorem el22 : Sg.el 22 = some (none, 3, 1, false) := by kernel_rfl
theorem ti23 : Sg.ti 23 = some (1, false) := by kernel_rfl
theorem un23 : Sg.P.underlying 23 = some (.slice 84) := by kernel_rfl
theorem el23 : Sg.el 23 = some (none, 84, 5, true) := by kernel_rfl
theorem ti24 : Sg.ti 24 = some (1, false) := by kernel_rfl
theorem un24 : Sg.P.underlying 24 = some (.slice 87) := by kernel_rfl
theorem el24 : Sg.el 24 = some (none, 87, 11, true) := by kernel_rfl
theorem ti26 : Sg.ti 26 = some (10, true) := by kernel_rfl
theorem fl26_0 : Sg.fld 26 0 = some (0, 1, false) := by kernel_rfl
theorem fl26_1 : Sg.fld 26 1 = some (1, 1, false) := by kernel_rfl
theorem fl26_2 : Sg.fld 26 2 = some (2, 1, false) := by kernel_rfl
theorem fl26_3 : Sg.fld 26 3 = some (3, 1, false) := by kernel_rfl
theorem fl26_4 : Sg.fld 26 4 = some (4, 1, false) := by kernel_rfl
theorem fl26_5 : Sg.fld 26 5 = some (5, 1, false) := by kernel_rfl
theorem fl26_6 : Sg.fld 26 6 = some (6, 1, false) := by kernel_rfl
theorem fl26_7 : Sg.fld 26 7 = some (7, 1, false) := by kernel_rfl
theorem fl26_8 : Sg.fld 26 8 = some (8, 1, false) := by kernel_rfl
theorem fl26_9 : Sg.fld 26 9 = some (9, 1, false) := by kernel_rfl
theorem ti28 : Sg.ti 28 = some (1, false) := by kernel_rfl
theorem un28 : Sg.P.underlying 28 = some (.slice 136) := by kernel_rfl
theorem el28 : Sg.el 28 = some (none, 136, 5, true) := by kernel_rfl
theorem ti30 : Sg.ti 30 = some (2, true) := by kernel_rfl
theorem fl30_0 : Sg.fld 30 0 = some (0, 1, false) := by kernel_rfl
theorem fl30_1 : Sg.fld 30 1 = some (1, 1, false) := by kernel_rfl
theorem ti32 : Sg.ti 32 = some (4, true) := by kernel_rfl
theorem ze32 : Sg.zero 32 = some [.int .i64 0, .int .i64 0, .int .i64 0, .int .i64 0] := by kernel_rfl
theorem bl32 : Sg.bld 32 = some (some [(0, 1), (1, 1), (2, 1), (3, 1)], 0) := by kernel_rfl
theorem fl32_0 : Sg.fld 32 0 = some (0, 1, false) := by kernel_rfl
theorem fl32_1 : Sg.fld 32 1 = some (1, 1, false) := by kernel_rfl
theorem fl32_2 : Sg.fld 32 2 = some (2, 1, false) := by kernel_rfl
theorem fl32_3 : Sg.fld 32 3 = some (3, 1, false) := by kernel_rfl
theorem ti33 : Sg.ti 33 = some (1, false) := by kernel_rfl
theorem un33 : Sg.P.underlying 33 = some (.slice 71) := by kernel_rfl
theorem el33 : Sg.el 33 = some (none, 71, 28, true) := by kernel_rfl
theorem ti34 : Sg.ti 34 = some (1, false) := by kernel_rfl
theorem un34 : Sg.P.underlying 34 = some (.slice 89) := by kernel_rfl
theorem el34 : Sg.el 34 = some (none, 89, 12, true) := by kernel_rfl
theorem ti36 : Sg.ti 36 = some (10, true) := by kernel_rfl
theorem ze36 : Sg.zero 36 = some [.int .i64 0, .int .i64 0, .int .i64 0, .int .i64 0, .int .i64 0, .int .i64 0, .int .i64 0, .slice none 0 0, .slice none 0 0, .slice none 0 0] := by kernel_rfl
theorem bl36 : Sg.bld 36 = some (some [(0, 1), (1, 4), (5, 1), (6, 1), (7, 1), (8, 1), (9, 1)], 0) := by kernel_rfl
theorem fl36_0 : Sg.fld 36 0 = some (0, 1, false) := by kernel_rfl
theorem fl36_1 : Sg.fld 36 1 = some (1, 4, true) := by kernel_rfl
theorem fl36_2 : Sg.fld 36 2 = some (5, 1, false) := by kernel_rfl
theorem fl36_3 : Sg.fld 36 3 = some (6, 1, false) := by kernel_rfl
theorem fl36_4 : Sg.fld 36 4 = some (7, 1, false) := by kernel_rfl
theorem fl36_5 : Sg.fld 36 5 = some (8, 1, false) := by kernel_rfl
theorem fl36_6 : Sg.fld 36 6 = some (9, 1, false) := by kernel_rfl
theorem ti49 : Sg.ti 49 = some (1, false) := by kernel_rfl
theorem un49 : Sg.P.underlying 49 = some (.int .u16) := by kernel_rfl
theorem ze49 : Sg.zero 49 = some [.int .u16 0] := by kernel_rfl
theorem by49 : Sg.byt 49 = some 2 := by kernel_rfl
-- 50 [3]uint16
theorem ti50 : Sg.ti 50 = some (3, true) := by kernel_rfl
theorem el50 : Sg.el 50 = some (some 3, 49, 1, false) := by kernel_rfl
theorem ze50 : Sg.zero 50 = some [.int .u16 0, .int .u16 0, .int .u16 0] := by kernel_rfl
theorem bl50 : Sg.bld 50 = some (none, 1) := by kernel_rfl
theorem ti52 : Sg.ti 52 = some (5, true) := by kernel_rfl
theorem ze52 : Sg.zero 52 = some [.int .u16 0, .int .u16 0, .int .u16 0, .int .u16 0, .int .u16 0] := by kernel_rfl
theorem bl52 : Sg.bld 52 = some (some [(0, 3), (3, 1), (4, 1)], 0) := by kernel_rfl
theorem fl52_0 : Sg.fld 52 0 = some (0, 3, true) := by kernel_rfl
theorem fl52_1 : Sg.fld 52 1 = some (3, 1, false) := by kernel_rfl
theorem fl52_2 : Sg.fld 52 2 = some (4, 1, false) := by kernel_rfl
theorem eq52 (a0 b0 : Int) (a1 b1 : Int) (a2 b2 : Int) (a3 b3 : Int) (a4 b4 : Int) : Sg.eqv 52 [.int .u16 a0, .int .u16 a1, .int .u16 a2, .int .u16 a3, .int .u16 a4] [.int .u16 b0, .int .u16 b1, .int .u16 b2, .int .u16 b3, .int .u16 b4] = some (((a0 == b0) && ((a1 == b1) && ((a2 == b2) && true))) && ((a3 == b3) && ((a4 == b4) && true))) := by kernel_rfl
theorem by52 : Sg.byt 52 = some 10 := by kernel_rfl
-- 60 []api.Redex
theorem un60 : Sg.P.underlying 60 = some (.slice 65) := by kernel_rfl
theorem el60 : Sg.el 60 = some (none, 65, 2, true) := by kernel_rfl
theorem ti65 : Sg.ti 65 = some (2, true) := by kernel_rfl
theorem ze65 : Sg.zero 65 = some [.int .i64 0, .int .i64 0] := by kernel_rfl
theorem bl65 : Sg.bld 65 = some (some [(0, 1), (1, 1)], 0) := by kernel_rfl
theorem fl65_0 : Sg.fld 65 0 = some (0, 1, false) := by kernel_rfl
theorem fl65_1 : Sg.fld 65 1 = some (1, 1, false) := by kernel_rfl
theorem by65 : Sg.byt 65 = some 16 := by kernel_rfl
-- 66 []uint16
theorem ti66 : Sg.ti 66 = some (1, false) := by kernel_rfl
theorem un66 : Sg.P.underlying 66 = some (.slice 49) := by kernel_rfl
theorem el66 : Sg.el 66 = some (none, 49, 1, false) := by kernel_rfl
theorem ti68 : Sg.ti 68 = some (4, true) := by kernel_rfl
theorem ze68 : Sg.zero 68 = some [.int .i64 0, .int .i64 0, .int .i64 0, .slice none 0 0] := by kernel_rfl
theorem bl68 : Sg.bld 68 = some (some [(0, 1), (1, 1), (2, 1), (3, 1)], 0) := by kernel_rfl
theorem fl68_0 : Sg.fld 68 0 = some (0, 1, false) := by kernel_rfl
theorem fl68_1 : Sg.fld 68 1 = some (1, 1, false) := by kernel_rfl
theorem fl68_2 : Sg.fld 68 2 = some (2, 1, false) := by kernel_rfl
theorem fl68_3 : Sg.fld 68 3 = some (3, 1, false) := by kernel_rfl
theorem el69 : Sg.el 69 = some (some 5, 68, 4, true) := by kernel_rfl
theorem ti71 : Sg.ti 71 = some (28, true) := by kernel_rfl
theorem ze71 : Sg.zero 71 = some [.int .i64 0, .int .i64 0, .bool false, .int .u16 0, .int .u16 0, .int .u16 0, .int .u16 0, .int .u16 0, .int .i64 0, .int .i64 0, .int .i64 0, .slice none 0 0, .int .i64 0, .int .i64 0, .int .i64 0, .slice none 0 0, .int .i64 0, .int .i64 0, .int .i64 0, .slice none 0 0, .int .i64 0, .int .i64 0, .int .i64 0, .slice none 0 0, .int .i64 0, .int .i64 0, .int .i64 0, .slice none 0 0] := by kernel_rfl
theorem bl71 : Sg.bld 71 = some (some [(0, 1), (1, 1), (2, 1), (3, 5), (8, 20)], 0) := by kernel_rfl
theorem fl71_0 : Sg.fld 71 0 = some (0, 1, false) := by kernel_rfl
theorem fl71_1 : Sg.fld 71 1 = some (1, 1, false) := by kernel_rfl
theorem fl71_2 : Sg.fld 71 2 = some (2, 1, false) := by kernel_rfl
theorem fl71_3 : Sg.fld 71 3 = some (3, 5, true) := by kernel_rfl
theorem fl71_4 : Sg.fld 71 4 = some (8, 20, true) := by kernel_rfl
theorem by71 : Sg.byt 71 = some 272 := by kernel_rfl
-- 83 struct { W int; H int; Solid int; Row compositorgen.Row }
theorem ti84 : Sg.ti 84 = some (5, true) := by kernel_rfl
theorem fl84_0 : Sg.fld 84 0 = some (0, 1, false) := by kernel_rfl
theorem fl84_1 : Sg.fld 84 1 = some (1, 1, false) := by kernel_rfl
theorem fl84_2 : Sg.fld 84 2 = some (2, 1, false) := by kernel_rfl
theorem fl84_3 : Sg.fld 84 3 = some (3, 2, true) := by kernel_rfl
theorem ti87 : Sg.ti 87 = some (11, true) := by kernel_rfl
theorem fl87_0 : Sg.fld 87 0 = some (0, 1, false) := by kernel_rfl
theorem fl87_1 : Sg.fld 87 1 = some (1, 1, false) := by kernel_rfl
theorem fl87_2 : Sg.fld 87 2 = some (2, 1, false) := by kernel_rfl
theorem fl87_3 : Sg.fld 87 3 = some (3, 1, false) := by kernel_rfl
theorem fl87_4 : Sg.fld 87 4 = some (4, 1, false) := by kernel_rfl
theorem fl87_5 : Sg.fld 87 5 = some (5, 1, false) := by kernel_rfl
theorem fl87_6 : Sg.fld 87 6 = some (6, 1, false) := by kernel_rfl
theorem fl87_7 : Sg.fld 87 7 = some (7, 1, false) := by kernel_rfl
theorem fl87_8 : Sg.fld 87 8 = some (8, 1, false) := by kernel_rfl
theorem fl87_9 : Sg.fld 87 9 = some (9, 1, false) := by kernel_rfl
theorem fl87_10 : Sg.fld 87 10 = some (10, 1, false) := by kernel_rfl
theorem ti89 : Sg.ti 89 = some (12, true) := by kernel_rfl
theorem ze89 : Sg.zero 89 = some [.int .i64 0, .int .i64 0, .int .i64 0, .int .i64 0, .int .i64 0, .int .i64 0, .int .i64 0, .int .u16 0, .int .i64 0, .int .i64 0, .bool false, .bool false] := by kernel_rfl
theorem bl89 : Sg.bld 89 = some (some [(0, 1), (1, 1), (2, 1), (3, 1), (4, 1), (5, 1), (6, 1), (7, 1), (8, 1), (9, 1), (10, 1), (11, 1)], 0) := by kernel_rfl
theorem fl89_0 : Sg.fld 89 0 = some (0, 1, false) := by kernel_rfl
theorem fl89_1 : Sg.fld 89 1 = some (1, 1, false) := by kernel_rfl
theorem fl89_2 : Sg.fld 89 2 = some (2, 1, false) := by kernel_rfl
theorem fl89_3 : Sg.fld 89 3 = some (3, 1, false) := by kernel_rfl
theorem fl89_4 : Sg.fld 89 4 = some (4, 1, false) := by kernel_rfl
theorem fl89_5 : Sg.fld 89 5 = some (5, 1, false) := by kernel_rfl
theorem fl89_6 : Sg.fld 89 6 = some (6, 1, false) := by kernel_rfl
theorem fl89_7 : Sg.fld 89 7 = some (7, 1, false) := by kernel_rfl
theorem fl89_8 : Sg.fld 89 8 = some (8, 1, false) := by kernel_rfl
theorem fl89_9 : Sg.fld 89 9 = some (9, 1, false) := by kernel_rfl
theorem fl89_10 : Sg.fld 89 10 = some (10, 1, false) := by kernel_rfl
theorem fl89_11 : Sg.fld 89 11 = some (11, 1, false) := by kernel_rfl
theorem eq89 (a0 b0 : Int) (a1 b1 : Int) (a2 b2 : Int) (a3 b3 : Int) (a4 b4 : Int) (a5 b5 : Int) (a6 b6 : Int) (a7 b7 : Int) (a8 b8 : Int) (a9 b9 : Int) (a10 b10 : Bool) (a11 b11 : Bool) : Sg.eqv 89 [.int .i64 a0, .int .i64 a1, .int .i64 a2, .int .i64 a3, .int .i64 a4, .int .i64 a5, .int .i64 a6, .int .u16 a7, .int .i64 a8, .int .i64 a9, .bool a10, .bool a11] [.int .i64 b0, .int .i64 b1, .int .i64 b2, .int .i64 b3, .int .i64 b4, .int .i64 b5, .int .i64 b6, .int .u16 b7, .int .i64 b8, .int .i64 b9, .bool b10, .bool b11] = some ((a0 == b0) && ((a1 == b1) && ((a2 == b2) && ((a3 == b3) && ((a4 == b4) && ((a5 == b5) && ((a6 == b6) && ((a7 == b7) && ((a8 == b8) && ((a9 == b9) && ((a10 == b10) && ((a11 == b11) && true)))))))))))) := by kernel_rfl
theorem by89 : Sg.byt 89 = some 88 := by kernel_rfl
-- 94 []api.Pixel
theorem un94 : Sg.P.underlying 94 = some (.slice 52) := by kernel_rfl
theorem el94 : Sg.el 94 = some (none, 52, 5, true) := by kernel_rfl
theorem el105 : Sg.el 105 = some (none, 149, 18, true) := by kernel_rfl
theorem un117 : Sg.P.underlying 117 = some (.slice 180) := by kernel_rfl
theorem el117 : Sg.el 117 = some (none, 180, 2, true) := by kernel_rfl
theorem ti136 : Sg.ti 136 = some (5, true) := by kernel_rfl
theorem el136 : Sg.el 136 = some (some 5, 3, 1, false) := by kernel_rfl
theorem ze136 : Sg.zero 136 = some [.int .i64 0, .int .i64 0, .int .i64 0, .int .i64 0, .int .i64 0] := by kernel_rfl
theorem bl136 : Sg.bld 136 = some (none, 1) := by kernel_rfl
theorem ze149 : Sg.zero 149 = some [.int .i64 0, .int .i64 0, .int .u16 0, .int .u16 0, .int .u16 0, .int .u16 0, .int .u16 0, .int .u16 0, .int .u16 0, .int .u16 0, .int .u16 0, .int .u16 0, .int .u16 0, .int .u16 0, .int .u16 0, .int .u16 0, .int .u16 0, .int .u16 0] := by kernel_rfl
theorem bl149 : Sg.bld 149 = some (some [(0, 1), (1, 1), (2, 5), (7, 5), (12, 1), (13, 5)], 0) := by kernel_rfl
theorem by149 : Sg.byt 149 = some 48 := by kernel_rfl
-- 153 struct { C [3]uint16; A uint16; Own uint16; F uint16 }
theorem ti154 : Sg.ti 154 = some (6, true) := by kernel_rfl
theorem ze154 : Sg.zero 154 = some [.int .u16 0, .int .u16 0, .int .u16 0, .int .u16 0, .int .u16 0, .int .u16 0] := by kernel_rfl
theorem bl154 : Sg.bld 154 = some (some [(0, 3), (3, 1), (4, 1), (5, 1)], 0) := by kernel_rfl
theorem fl154_0 : Sg.fld 154 0 = some (0, 3, true) := by kernel_rfl
theorem fl154_1 : Sg.fld 154 1 = some (3, 1, false) := by kernel_rfl
theorem fl154_2 : Sg.fld 154 2 = some (4, 1, false) := by kernel_rfl
theorem fl154_3 : Sg.fld 154 3 = some (5, 1, false) := by kernel_rfl
theorem ti160 : Sg.ti 160 = some (23, true) := by kernel_rfl
theorem ze160 : Sg.zero 160 = some [.int .i64 0, .int .i64 0, .int .i64 0, .int .i64 0, .int .i64 0, .int .i64 0, .int .i64 0, .int .u16 0, .int .i64 0, .int .i64 0, .bool false, .bool false, .int .u16 0, .int .u16 0, .int .u16 0, .int .u16 0, .int .u16 0, .int .u16 0, .int .u16 0, .int .u16 0, .int .u16 0, .int .u16 0, .int .u16 0] := by kernel_rfl
theorem bl160 : Sg.bld 160 = some (some [(0, 12), (12, 6), (18, 5)], 0) := by kernel_rfl
theorem fl160_0 : Sg.fld 160 0 = some (0, 12, true) := by kernel_rfl
theorem fl160_1 : Sg.fld 160 1 = some (12, 6, true) := by kernel_rfl
theorem fl160_2 : Sg.fld 160 2 = some (18, 5, true) := by kernel_rfl
theorem by160 : Sg.byt 160 = some 112 := by kernel_rfl
-- 161 []compositorref22.level
theorem ti161 : Sg.ti 161 = some (1, false) := by kernel_rfl
theorem un161 : Sg.P.underlying 161 = some (.slice 160) := by kernel_rfl
theorem el161 : Sg.el 161 = some (none, 160, 23, true) := by kernel_rfl
theorem ze163 : Sg.zero 163 = some [.int .u16 0, .slice none 0 0] := by kernel_rfl
theorem bl163 : Sg.bld 163 = some (some [(0, 1), (1, 1)], 0) := by kernel_rfl
theorem fl163_0 : Sg.fld 163 0 = some (0, 1, false) := by kernel_rfl
theorem fl163_1 : Sg.fld 163 1 = some (1, 1, false) := by kernel_rfl
theorem ti171 : Sg.ti 171 = some (1, false) := by kernel_rfl
theorem el171 : Sg.el 171 = some (none, 4, 1, false) := by kernel_rfl
theorem ze173 : Sg.zero 173 = some [.int .i64 0, .int .i64 0, .int .i64 0, .int .i64 0, .int .i64 0, .int .i64 0, .int .i64 0, .slice none 0 0, .slice none 0 0, .slice none 0 0, .int .u16 0, .slice none 0 0, .slice none 0 0, .slice none 0 0, .slice none 0 0] := by kernel_rfl
theorem bl173 : Sg.bld 173 = some (some [(0, 10), (10, 1), (11, 1), (12, 1), (13, 1), (14, 1)], 0) := by kernel_rfl
theorem fl173_0 : Sg.fld 173 0 = some (0, 10, true) := by kernel_rfl
theorem fl173_1 : Sg.fld 173 1 = some (10, 1, false) := by kernel_rfl
theorem fl173_2 : Sg.fld 173 2 = some (11, 1, false) := by kernel_rfl
theorem fl173_3 : Sg.fld 173 3 = some (12, 1, false) := by kernel_rfl
theorem fl173_4 : Sg.fld 173 4 = some (13, 1, false) := by kernel_rfl
theorem fl173_5 : Sg.fld 173 5 = some (14, 1, false) := by kernel_rfl
theorem ze180 : Sg.zero 180 = some [.nilFunc, .nilFunc] := by kernel_rfl
theorem ti210 : Sg.ti 210 = some (1, false) := by kernel_rfl
theorem un210 : Sg.P.underlying 210 = some (.int .u64) := by kernel_rfl
theorem ti220 : Sg.ti 220 = some (4, true) := by kernel_rfl
theorem ze220 : Sg.zero 220 = some [.string ⟨#[]⟩, .int .i64 0, .int .i64 0, .int .i64 0] := by kernel_rfl
theorem bl220 : Sg.bld 220 = some (some [(0, 1), (1, 1), (2, 1), (3, 1)], 0) := by kernel_rfl
theorem fl220_0 : Sg.fld 220 0 = some (0, 1, false) := by kernel_rfl
theorem fl220_1 : Sg.fld 220 1 = some (1, 1, false) := by kernel_rfl
theorem fl220_2 : Sg.fld 220 2 = some (2, 1, false) := by kernel_rfl
theorem fl220_3 : Sg.fld 220 3 = some (3, 1, false) := by kernel_rfl
theorem el223 : Sg.el 223 = some (some 13, 9, 1, false) := by kernel_rfl
theorem el229 : Sg.el 229 = some (some 13, 220, 4, true) := by kernel_rfl
theorem ti236 : Sg.ti 236 = some (2, true) := by kernel_rfl
theorem ze236 : Sg.zero 236 = some [.int .u64 0, .int .u64 0] := by kernel_rfl
theorem bl236 : Sg.bld 236 = some (some [(0, 1), (1, 1)], 0) := by kernel_rfl
theorem fl236_0 : Sg.fld 236 0 = some (0, 1, false) := by kernel_rfl
theorem fl236_1 : Sg.fld 236 1 = some (1, 1, false) := by kernel_rfl
theorem eq236 (a0 b0 : Int) (a1 b1 : Int) : Sg.eqv 236 [.int .u64 a0, .int .u64 a1] [.int .u64 b0, .int .u64 b1] = some ((a0 == b0) && ((a1 == b1) && true)) := by kernel_rfl
theorem ti238 : Sg.ti 238 = some (5, true) := by kernel_rfl
theorem ze238 : Sg.zero 238 = some [.int .u64 0, .int .u64 0, .int .u64 0, .int .u64 0, .int .u64 0] := by kernel_rfl
theorem bl238 : Sg.bld 238 = some (some [(0, 2), (2, 1), (3, 1), (4, 1)], 0) := by kernel_rfl
theorem fl238_0 : Sg.fld 238 0 = some (0, 2, true) := by kernel_rfl
theorem fl238_1 : Sg.fld 238 1 = some (2, 1, false) := by kernel_rfl
theorem fl238_2 : Sg.fld 238 2 = some (3, 1, false) := by kernel_rfl
theorem fl238_3 : Sg.fld 238 3 = some (4, 1, false) := by kernel_rfl
theorem un249 : Sg.P.underlying 249 = some (.slice 9) := by kernel_rfl
theorem el249 : Sg.el 249 = some (none, 9, 1, false) := by kernel_rfl
theorem un260 : Sg.P.underlying 260 = some (.int .u64) := by kernel_rfl
theorem cells1 (g : Nat → PV) : cellsN 1 g = [.p (g 0)] := rfl
theorem cells2 (g : Nat → PV) : cellsN 2 g = [.p (g 0), .p (g 1)] := rfl
theorem cells3 (g : Nat → PV) : cellsN 3 g = [.p (g 0), .p (g 1), .p (g 2)] := rfl
theorem cells4 (g : Nat → PV) : cellsN 4 g = [.p (g 0), .p (g 1), .p (g 2), .p (g 3)] := rfl
theorem cells5 (g : Nat → PV) : cellsN 5 g = [.p (g 0), .p (g 1), .p (g 2), .p (g 3), .p (g 4)] := rfl
theorem cells6 (g : Nat → PV) : cellsN 6 g = [.p (g 0), .p (g 1), .p (g 2), .p (g 3), .p (g 4), .p (g 5)] := rfl
theorem cells10 (g : Nat → PV) : cellsN 10 g = [.p (g 0), .p (g 1), .p (g 2), .p (g 3), .p (g 4), .p (g 5), .p (g 6), .p (g 7), .p (g 8), .p (g 9)] := rfl
theorem cells11 (g : Nat → PV) : cellsN 11 g = [.p (g 0), .p (g 1), .p (g 2), .p (g 3), .p (g 4), .p (g 5), .p (g 6), .p (g 7), .p (g 8), .p (g 9), .p (g 10)] := rfl
theorem cells12 (g : Nat → PV) : cellsN 12 g = [.p (g 0), .p (g 1), .p (g 2), .p (g 3), .p (g 4), .p (g 5), .p (g 6), .p (g 7), .p (g 8), .p (g 9), .p (g 10), .p (g 11)] := rfl
theorem cells13 (g : Nat → PV) : cellsN 13 g = [.p (g 0), .p (g 1), .p (g 2), .p (g 3), .p (g 4), .p (g 5), .p (g 6), .p (g 7), .p (g 8), .p (g 9), .p (g 10), .p (g 11), .p (g 12)] := rfl
theorem cells15 (g : Nat → PV) : cellsN 15 g = [.p (g 0), .p (g 1), .p (g 2), .p (g 3), .p (g 4), .p (g 5), .p (g 6), .p (g 7), .p (g 8), .p (g 9), .p (g 10), .p (g 11), .p (g 12), .p (g 13), .p (g 14)] := rfl
theorem cells18 (g : Nat → PV) : cellsN 18 g = [.p (g 0), .p (g 1), .p (g 2), .p (g 3), .p (g 4), .p (g 5), .p (g 6), .p (g 7), .p (g 8), .p (g 9), .p (g 10), .p (g 11), .p (g 12), .p (g 13), .p (g 14), .p (g 15), .p (g 16), .p (g 17)] := rfl
theorem cells20 (g : Nat → PV) : cellsN 20 g = [.p (g 0), .p (g 1), .p (g 2), .p (g 3), .p (g 4), .p (g 5), .p (g 6), .p (g 7), .p (g 8), .p (g 9), .p (g 10), .p (g 11), .p (g 12), .p (g 13), .p (g 14), .p (g 15), .p (g 16), .p (g 17), .p (g 18), .p (g 19)] := rfl
theorem cells23 (g : Nat → PV) : cellsN 23 g = [.p (g 0), .p (g 1), .p (g 2), .p (g 3), .p (g 4), .p (g 5), .p (g 6), .p (g 7), .p (g 8), .p (g 9), .p (g 10), .p (g 11), .p (g 12), .p (g 13), .p (g 14), .p (g 15), .p (g 16), .p (g 17), .p (g 18), .p (g 19), .p (g 20), .p (g 21), .p (g 22)] := rfl
theorem cells28 (g : Nat → PV) : cellsN 28 g = [.p (g 0), .p (g 1), .p (g 2), .p (g 3), .p (g 4), .p (g 5), .p (g 6), .p (g 7), .p (g 8), .p (g 9), .p (g 10), .p (g 11), .p (g 12), .p (g 13), .p (g 14), .p (g 15), .p (g 16), .p (g 17), .p (g 18), .p (g 19), .p (g 20), .p (g 21), .p (g 22), .p (g 23), .p (g 24), .p (g 25), .p (g 26), .p (g 27)] := rfl
theorem cells52 (g : Nat → PV) : cellsN 52 g = [.p (g 0), .p (g 1), .p (g 2), .p (g 3), .p (g 4), .p (g 5), .p (g 6), .p (g 7), .p (g 8), .p (g 9), .p (g 10), .p (g 11), .p (g 12), .p (g 13), .p (g 14), .p (g 15), .p (g 16), .p (g 17), .p (g 18), .p (g 19), .p (g 20), .p (g 21), .p (g 22), .p (g 23), .p (g 24), .p (g 25), .p (g 26), .p (g 27), .p (g 28), .p (g 29), .p (g 30), .p (g 31), .p (g 32), .p (g 33), .p (g 34), .p (g 35), .p (g 36), .p (g 37), .p (g 38), .p (g 39), .p (g 40), .p (g 41), .p (g 42), .p (g 43), .p (g 44), .p (g 45), .p (g 46), .p (g 47), .p (g 48), .p (g 49), .p (g 50), .p (g 51)] := rfl
attribute [go_sem] gl0 gl1 ti3 un3 ze3 by3 ti4 un4 ze4 by4 ti9 ze9 ti22 un22 el22 ti23 un23 el23 ti24 un24 el24 ti26 fl26_0 fl26_1 fl26_2 fl26_3 fl26_4 fl26_5 fl26_6 fl26_7 fl26_8 fl26_9 ti28 un28 el28 ti30 fl30_0 fl30_1 ti32 ze32 bl32 fl32_0 fl32_1 fl32_2 fl32_3 ti33 un33 el33 ti34 un34 el34 ti36 ze36 bl36 fl36_0 fl36_1 fl36_2 fl36_3 fl36_4 fl36_5 fl36_6 ti49 un49 ze49 by49 ti50 el50 ze50 bl50 ti52 ze52 bl52 fl52_0 fl52_1 fl52_2 eq52 by52 un60 el60 ti65 ze65 bl65 fl65_0 fl65_1 by65 ti66 un66 el66 ti68 ze68 bl68 fl68_0 fl68_1 fl68_2 fl68_3 el69 ti71 ze71 bl71 fl71_0 fl71_1 fl71_2 fl71_3 fl71_4 by71 ti84 fl84_0 fl84_1 fl84_2 fl84_3 ti87 fl87_0 fl87_1 fl87_2 fl87_3 fl87_4 fl87_5 fl87_6 fl87_7 fl87_8 fl87_9 fl87_10 ti89 ze89 bl89 fl89_0 fl89_1 fl89_2 fl89_3 fl89_4 fl89_5 fl89_6 fl89_7 fl89_8 fl89_9 fl89_10 fl89_11 eq89 by89 un94 el94 el105 un117 el117 ti136 el136 ze136 bl136 ze149 bl149 by149 ti154 ze154 bl154 fl154_0 fl154_1 fl154_2 fl154_3 ti160 ze160 bl160 fl160_0 fl160_1 fl160_2 by160 ti161 un161 el161 ze163 bl163 fl163_0 fl163_1 ti171 el171 ze173 bl173 fl173_0 fl173_1 fl173_2 fl173_3 fl173_4 fl173_5 ze180 ti210 un210 ti220 ze220 bl220 fl220_0 fl220_1 fl220_2 fl220_3 el223 el229 ti236 ze236 bl236 fl236_0 fl236_1 eq236 ti238 ze238 bl238 fl238_0 fl238_1 fl238_2 fl238_3 un249 el249 un260 cells1 cells2 cells3 cells4 cells5 cells6 cells10 cells11 cells12 cells13 cells15 cells18 cells20 cells23 cells28 cells52
end Go.Proofs.YtlblgkelhibdoaaGreatDoor
set_option linter.unusedSimpArgs false
set_option linter.unusedVariables false
namespace Go.SL
open Go
def kOk (c : Nat) : SV → Prop
 | .b (.c (.ptr id _)) => c = 1 ∨ c = 4 + id
 | .b (.c (.pel _ _ _ _)) => c = 2
 | .b (.c (.ipt _ _ _)) => c = 3
 | _ => False
def kindsOk : List (Nat × Nat) → St → Prop
 | [], _ => True
 | (t, c) :: r, s => kOk c (s.fr t) ∧ kindsOk r s
def lbOf : List (Nat × Nat) → Nat
 | [] => 0
 | (_, c) :: r => max (c - 3) (lbOf r)
def kdOf : List (Nat × Nat) → Nat → Nat
 | [], _ => 0
 | (t, c) :: r, s => if s = t then c else kdOf r s
theorem kd_lb {t : Nat} : ∀ {l : List (Nat × Nat)}, kdOf l t - 3 ≤ lbOf l
 | [] => Nat.zero_le _
 | (k, c) :: r => by
  unfold kdOf lbOf
  split
  ·omega
  ·have := kd_lb (t := t) (l := r)
   omega
theorem kindsOk_of {s : St} {t : Nat} : ∀ {l : List (Nat × Nat)}, kindsOk l s → kdOf l t ≠ 0 → kOk (kdOf l t) (s.fr t)
 | [], _, h => absurd rfl h
 | (k, c) :: r, h, hn => by
  unfold kdOf at hn ⊢
  split
  ·rename_i e; subst e; exact h.1
  ·rename_i e
   rw [if_neg e] at hn
   exact kindsOk_of h.2 hn
section
variable {S : Env} {ops : Array Oper} {st s1 s2 s' : St}
theorem ex_fr {o : Oper} {t : Nat} (h : Ex S ops st o s') (hd : o.dst ≠ some t) : s'.fr t = st.fr t := by
 obtain ⟨v1, b1, n1, rfl, _⟩ := ex_step h
 rw [set_eq]
 simp only
 rw [if_neg fun e => hd e.symm]
theorem exL_fr {t : Nat} : ∀ {l : List Oper} {st s' : St}, ExL S ops l st s' → (∀ o ∈ l, o.dst ≠ some t) → s'.fr t = st.fr t
 | [], _, _, h, _ => by rw [show _ = _ from h]
 | o :: r, st, s', ⟨s, h1, h2⟩, hd => (exL_fr h2 fun x hx => hd x (List.mem_cons_of_mem _ hx)).trans (ex_fr h1 (hd o (List.mem_cons_self ..)))
theorem swap_load_store {x y : Oper} {d p q : Nat} {t t' : TypeId} {vop : Operand} (hx : x.op = .load t (.tmp q)) (hxd : x.dst = some d) (hxg : x.guard = none)
  (hy : y.op = .store t' (.tmp p) vop) (hyd : y.dst = none) (hyg : y.guard = none) (hdp : d ≠ p) (hdv : vop ≠ .tmp d) {c c' : Nat} (hp : kOk c (st.fr p)) (hq : kOk c' (st.fr q)) (hc : c = 2 ∧ (c' = 1 ∨ c' = 3))
  (h1 : Ex S ops st x s1) (h2 : Ex S ops s1 y s2) : ∃ s3, Ex S ops st y s3 ∧ Ex S ops s3 x s2 := by
 obtain ⟨rfl, hc⟩ := hc
 obtain ⟨idp, szp, ip, offp, hpv⟩ : ∃ id sz i off, st.fr p = .b (.c (.pel id sz i off)) := by
  unfold kOk at hp
  split at hp
  ·omega
  ·exact ⟨_, _, _, _, by assumption⟩
  ·cases hp
  ·cases hp
 have e1 : s1 = st.set (some d) (s1.fr d) ∧ s1.bx = st.bx ∧ s1.nx = st.nx := by
  obtain ⟨v, b, n, rfl, hb, _⟩ := ex_step h1
  have : cls S.rcv x ≤ 1 := by simp [cls, clsOp, hx]
  obtain ⟨rfl, rfl⟩ := hb this
  rw [hxd]
  refine ⟨?_, bx_set, nx_set⟩
  simp [St.set]
 have hev : ∀ z : Operand, z ≠ .tmp d → s1.ev S z = st.ev S z := fun z hz => by
  rw [e1.1]
  cases z with
  | tmp k => simp only [St.ev, St.set]; rw [if_neg (fun e => hz (by rw [e]))]
  | _ => rfl
 have hvp : s1.ev S (.tmp p) = st.ev S (.tmp p) := hev _ (fun e => hdp (by cases e; rfl))
 have hvv := hev vop hdv
 have hro : ∀ b ev, ro S b ev (.store t' (.tmp p) vop) = none := fun _ _ => rfl
 unfold Ex opG at h2
 rw [hyg] at h2
 simp only [opP, hy, hro, hyd] at h2
 obtain ⟨hcond, h2⟩ := h2
 simp only [Op.operands] at hcond
 have hev1 : (st.ev S (.tmp p)).strip = .b (.c (.pel idp szp ip offp)) := by simp [St.ev, hpv, SV.strip]
 simp only [opM, hvp, hvv, hev1, e1.2.1] at h2
 split at h2
 ·rename_i q1 _ _; cases q1
 ·rename_i id s i off v sz ag q1 q2 q3
  cases q1
  split at h2
  ·rename_i e s' n f hb
   obtain ⟨hvc, h2⟩ := h2
   refine ⟨st.setBox idp (.arr e s' n fun i' j => if i' = ip then (if offp ≤ j ∧ j < offp + sz then (v.cells.getD (j - offp) .any).toP else f ip j) else f i' j), ?_, ?_⟩
   ·unfold Ex opG
    rw [hyg]
    simp only [opP, hy, hro, hyd]
    refine ⟨?_, ?_⟩
    ·simp only [Op.operands]
     simpa only [Op.operands, List.map_cons, List.map_nil, hvp, hvv] using hcond
    ·simp only [opM, hev1, q2, q3, hb]
     exact ⟨hvc, rfl⟩
   ·subst h2
    unfold Ex opG at h1 ⊢
    rw [hxg] at h1 ⊢
    simp only [opP, hx, ro_load] at h1 ⊢
    have hload : ∀ r, rc (roLoad S t st.bx (st.ev S (.tmp q)).strip) (st.ev S (.tmp q)).cond = some r → rc (roLoad S t (st.setBox idp (.arr e s' n fun i' j => if i' = ip then (if offp ≤ j ∧ j < offp + sz then (v.cells.getD (j - offp) .any).toP else f ip j) else f i' j)).bx (st.ev S (.tmp q)).strip) (st.ev S (.tmp q)).cond = some r := fun r hr => by
     unfold kOk at hq
     simp only [St.ev] at hr ⊢
     split at hq
     ·rename_i id2 off2 hqv
      rw [hqv] at hr ⊢
      simp only [SV.strip, SV.cond, roLoad, St.setBox] at hr ⊢
      by_cases hid : id2 = idp
      ·subst hid
       rw [hb] at hr
       simp [rc] at hr
      ·rw [if_neg hid]; exact hr
     ·subst hq; omega
     ·rename_i hqv
      rw [hqv] at hr ⊢
      exact hr
     ·exact hq.elim
    cases hr : rc (roLoad S t st.bx (st.ev S (.tmp q)).strip) (st.ev S (.tmp q)).cond with
    | none => rw [hr] at h1; simp only [opM] at h1; exact h1.2.elim
    | some r =>
     rw [hr] at h1
     have := hload r hr
     rw [show (St.ev S (st.setBox idp (.arr e s' n fun i' j => if i' = ip then (if offp ≤ j ∧ j < offp + sz then (v.cells.getD (j - offp) .any).toP else f ip j) else f i' j)) (.tmp q)) = st.ev S (.tmp q) from rfl, this]
     refine ⟨h1.1, ?_⟩
     rw [← h1.2, hxd]
     rfl
  ·exact h2.elim
 ·exact h2.elim
theorem swap_load_store2 {x y : Oper} {d p q : Nat} {t t' : TypeId} {vop : Operand} (hx : x.op = .load t (.tmp q)) (hxd : x.dst = some d) (hxg : x.guard = none)
  (hy : y.op = .store t' (.tmp p) vop) (hyd : y.dst = none) (hyg : y.guard = none) (hdp : d ≠ p) (hdv : vop ≠ .tmp d) {c c' : Nat} (hp : kOk c (st.fr p)) (hq : kOk c' (st.fr q)) (hc : 4 ≤ c ∧ 4 ≤ c' ∧ c ≠ c')
  (h1 : Ex S ops st x s1) (h2 : Ex S ops s1 y s2) : ∃ s3, Ex S ops st y s3 ∧ Ex S ops s3 x s2 := by
 obtain ⟨hc1, hc2, hc3⟩ := hc
 obtain ⟨idp, offp, hpv, rfl⟩ : ∃ id off, st.fr p = .b (.c (.ptr id off)) ∧ c = 4 + id := by
  unfold kOk at hp
  split at hp
  ·exact ⟨_, _, by assumption, by omega⟩
  ·omega
  ·omega
  ·cases hp
 obtain ⟨idq, offq, hqv, rfl⟩ : ∃ id off, st.fr q = .b (.c (.ptr id off)) ∧ c' = 4 + id := by
  unfold kOk at hq
  split at hq
  ·exact ⟨_, _, by assumption, by omega⟩
  ·omega
  ·omega
  ·cases hq
 have e1 : s1 = st.set (some d) (s1.fr d) ∧ s1.bx = st.bx ∧ s1.nx = st.nx := by
  obtain ⟨v, b, n, rfl, hb, _⟩ := ex_step h1
  have : cls S.rcv x ≤ 1 := by simp [cls, clsOp, hx]
  obtain ⟨rfl, rfl⟩ := hb this
  rw [hxd]
  refine ⟨?_, bx_set, nx_set⟩
  simp [St.set]
 have hev : ∀ z : Operand, z ≠ .tmp d → s1.ev S z = st.ev S z := fun z hz => by
  rw [e1.1]
  cases z with
  | tmp k => simp only [St.ev, St.set]; rw [if_neg (fun e => hz (by rw [e]))]
  | _ => rfl
 have hvp : s1.ev S (.tmp p) = st.ev S (.tmp p) := hev _ (fun e => hdp (by cases e; rfl))
 have hvv := hev vop hdv
 have hro : ∀ b ev, ro S b ev (.store t' (.tmp p) vop) = none := fun _ _ => rfl
 unfold Ex opG at h2
 rw [hyg] at h2
 simp only [opP, hy, hro, hyd] at h2
 obtain ⟨hcond, h2⟩ := h2
 simp only [Op.operands] at hcond
 have hev1 : (st.ev S (.tmp p)).strip = .b (.c (.ptr idp offp)) := by simp [St.ev, hpv, SV.strip]
 simp only [opM, hvp, hvv, hev1, e1.2.1] at h2
 split at h2
 ·rename_i id off v sz ag q1 q2 q3
  cases q1
  split at h2
  ·rename_i cs hb
   obtain ⟨hvc, h2⟩ := h2
   refine ⟨st.setBox idp (.fix (putL cs offp v.cells)), ?_, ?_⟩
   ·unfold Ex opG
    rw [hyg]
    simp only [opP, hy, hro, hyd]
    refine ⟨?_, ?_⟩
    ·simp only [Op.operands]
     simpa only [Op.operands, List.map_cons, List.map_nil, hvp, hvv] using hcond
    ·simp only [opM, hev1, q2, q3, hb]
     exact ⟨hvc, rfl⟩
   ·subst h2
    unfold Ex opG at h1 ⊢
    rw [hxg] at h1 ⊢
    simp only [opP, hx, ro_load] at h1 ⊢
    have hload : ∀ r, rc (roLoad S t st.bx (st.ev S (.tmp q)).strip) (st.ev S (.tmp q)).cond = some r → rc (roLoad S t (st.setBox idp (.fix (putL cs offp v.cells))).bx (st.ev S (.tmp q)).strip) (st.ev S (.tmp q)).cond = some r := fun r hr => by
     simp only [St.ev] at hr ⊢
     rw [hqv] at hr ⊢
     simp only [SV.strip, SV.cond, roLoad, St.setBox] at hr ⊢
     rw [if_neg (by omega)]; exact hr
    cases hr : rc (roLoad S t st.bx (st.ev S (.tmp q)).strip) (st.ev S (.tmp q)).cond with
    | none => rw [hr] at h1; simp only [opM] at h1; exact h1.2.elim
    | some r =>
     rw [hr] at h1
     have := hload r hr
     rw [show (St.ev S (st.setBox idp (.fix (putL cs offp v.cells))) (.tmp q)) = st.ev S (.tmp q) from rfl, this]
     refine ⟨h1.1, ?_⟩
     rw [← h1.2, hxd]
     rfl
  ·exact h2.elim
 ·rename_i q1 _ _; cases q1
 ·exact h2.elim
def WfN (lb : Nat) (st : St) : Prop := (∀ i, st.nx ≤ i → st.bx i = none) ∧ lb ≤ st.nx
theorem WfN.set {lb : Nat} {st : St} (h : WfN lb st) (d : Option Nat) (v : SV) : WfN lb (st.set d v) :=
 ⟨fun i hi => by rw [bx_set]; rw [nx_set] at hi; exact h.1 i hi, by rw [nx_set]; exact h.2⟩
theorem WfN.newBox {lb : Nat} {st : St} (h : WfN lb st) (x : Bx) : WfN lb (st.newBox x) := ⟨fun i hi => by
 simp only [St.newBox] at hi ⊢
 rw [if_neg (by omega)]; exact h.1 i (by omega), Nat.le_succ_of_le h.2⟩
theorem WfN.delBox {lb : Nat} {st : St} (h : WfN lb st) (id : Nat) : WfN lb (st.delBox id) := ⟨fun i hi => by
 simp only [St.delBox] at hi ⊢
 split
 ·rfl
 ·exact h.1 i hi, h.2⟩
theorem WfN.setBox {lb : Nat} {st : St} (h : WfN lb st) {id : Nat} {y : Bx} (hb : st.bx id = some y) (x : Bx) : WfN lb (st.setBox id x) := ⟨fun i hi => by
 simp only [St.setBox] at hi ⊢
 split
 ·rename_i e
  subst e
  rw [h.1 i hi] at hb; cases hb
 ·exact h.1 i hi, h.2⟩
theorem callP_wf {lb : Nat} {f : FuncId} {args : List BV} {K : SV → St → Prop} (h : CallP S st f args K) (w : WfN lb st) : ∃ r s', K r s' ∧ WfN lb s' := by
 cases h with
 | pure args' X h ha hl hk => exact ⟨_, _, hk, w⟩
 | ext args' X h ha hl hk => exact ⟨_, _, hk, w⟩
 | lend args' X h ha hl hf hk => exact ⟨_, _, hk, w⟩
 | recv id off cs0 cs rest args' X Y h he hb hoff hcs ha hl hr hy hk => exact ⟨_, _, hk, w.setBox hb _⟩
 | recvEl id sz i e n g cs rest args' X Y h he hb hi hsz hcs ha hl hr hy hk => exact ⟨_, _, hk, w.setBox hb _⟩
 | inl X bx' nx' h hr hw hk hn => exact ⟨_, _, hk, hw, Nat.le_trans w.2 hn⟩
 | own args' e sz n g h ha hl hr hk => exact ⟨_, _, hk, w.newBox _⟩
theorem opM_wf {lb : Nat} {ev : Operand → SV} {op : Op} {K : SV → St → Prop} (h : opM S st ev op K) (w : WfN lb st) : ∃ r s', K r s' ∧ WfN lb s' := by
 cases op with
 | build t parts =>
  simp only [opM] at h
  split at h
  ·split at h
   ·exact ⟨_, _, h.2, w⟩
   ·exact h.elim
  ·exact h.elim
 | alloc t =>
  simp only [opM] at h
  split at h
  ·exact ⟨_, _, h, w.newBox _⟩
  ·exact h.elim
 | box t x =>
  simp only [opM] at h
  split at h
  ·exact ⟨_, _, h.2, w.newBox _⟩
  ·exact h.elim
 | buildSlice t len parts =>
  simp only [opM] at h
  split at h
  ·split at h
   ·split at h
    ·exact ⟨_, _, h.2, w.newBox _⟩
    ·exact h.elim
   ·exact h.elim
  ·exact h.elim
 | store t p x =>
  simp only [opM] at h
  split at h
  ·split at h
   ·rename_i hb
    exact ⟨_, _, h.2, w.setBox hb _⟩
   ·exact h.elim
  ·split at h
   ·rename_i hb
    exact ⟨_, _, h.2, w.setBox hb _⟩
   ·exact h.elim
  ·exact h.elim
 | makeSlice t l c =>
  simp only [opM] at h
  split at h
  ·split at h
   ·exact ⟨_, _, h.2, w.newBox _⟩
   ·exact h.elim
  ·exact h.elim
 | call c =>
  simp only [opM] at h
  split at h
  ·split at h
   ·split at h
    ·exact ⟨_, _, h.2, w.newBox _⟩
    ·split at h
     ·exact ⟨_, _, h.2, (w.delBox _).newBox _⟩
     ·exact h.elim
    ·exact h.elim
   ·exact h.elim
  ·exact callP_wf h w
  ·split at h
   ·exact callP_wf h w
   ·exact h.elim
  ·exact h.elim
 | _ => exact h.elim
theorem opP_wf {lb : Nat} {o : Oper} {K : St → Prop} (h : opP S st o K) (w : WfN lb st) : ∃ s', K s' ∧ WfN lb s' := by
 unfold opP at h
 split at h
 ·exact ⟨_, h.2, w.set _ _⟩
 ·obtain ⟨r, s', hk, hw⟩ := opM_wf h.2 w
  exact ⟨_, hk, hw.set _ _⟩
theorem ex_wf {lb : Nat} {o : Oper} (h : Ex S ops st o s') (w : WfN lb st) : WfN lb s' := by
 unfold Ex opG at h
 split at h
 ·obtain ⟨s, rfl, hw⟩ := opP_wf h w
  exact hw
 ·split at h
  ·rename_i g hg
   split at h
   ·rw [← h.2.2]; exact w.set _ _
   ·rw [← h.2.2]; exact w.set _ _
   ·rcases h with h | ⟨x, _, _, h⟩
    ·cases g with
     | true =>
      obtain ⟨s, rfl, hw⟩ := opP_wf (h.1 rfl) w
      exact hw
     | false => rw [← h.2 rfl]; exact w.set _ _
    ·rw [← h]; exact w.set _ _
  ·exact h.elim
def isAlloc (rcv : Nat → Bool) (o : Oper) : Bool := o.guard.isNone && match o.op with
 | .alloc _ => true
 | .box _ _ => true
 | .buildSlice _ _ _ => true
 | .makeSlice _ _ _ => true
 | .call c => match c.callee with
  | .value (.func f) => !rcv f && rcv (f + 2000000)
  | _ => false
 | _ => false
theorem alloc_bx {o : Oper} (ha : isAlloc S.rcv o = true) (h : Ex S ops st o s') : ∀ i, i ≠ st.nx → s'.bx i = st.bx i := by
 intro i hi
 simp only [isAlloc, Bool.and_eq_true, Option.isNone_iff_eq_none] at ha
 obtain ⟨hg, ha⟩ := ha
 unfold Ex opG at h
 rw [hg] at h
 simp only [opP] at h
 split at ha
 ·rename_i t ho
  rw [ho] at h
  simp only [show ro S st.bx (st.ev S) (.alloc t) = none from rfl, opM] at h
  split at h
  ·rw [← h.2]; simp [St.newBox, bx_set, hi]
  ·exact h.2.elim
 ·rename_i t x ho
  rw [ho] at h
  simp only [show ro S st.bx (st.ev S) (.box t x) = none from rfl, opM] at h
  split at h
  ·rw [← h.2.2]; simp [St.newBox, bx_set, hi]
  ·exact h.2.elim
 ·rename_i t l ps ho
  rw [ho] at h
  simp only [show ro S st.bx (st.ev S) (.buildSlice t l ps) = none from rfl, opM] at h
  split at h
  ·split at h
   ·split at h
    ·rw [← h.2.2]; simp [St.newBox, bx_set, hi]
    ·exact h.2.elim
   ·exact h.2.elim
  ·exact h.2.elim
 ·rename_i t l c ho
  rw [ho] at h
  simp only [show ro S st.bx (st.ev S) (.makeSlice t l c) = none from rfl, opM] at h
  split at h
  ·split at h
   ·rw [← h.2.2]; simp [St.newBox, bx_set, hi]
   ·exact h.2.elim
  ·exact h.2.elim
 ·rename_i c ho
  obtain ⟨cal, ⟨al⟩, ⟨tl⟩⟩ := c
  simp only at ha
  split at ha
  ·rename_i f
   rw [ho] at h
   simp only [Bool.and_eq_true, Bool.not_eq_true'] at ha
   have hro : ro S st.bx (st.ev S) (.call ⟨.value (.func f), ⟨al⟩, ⟨tl⟩⟩) = none := by simp [ro, roCore]
   rw [hro] at h
   have h2 := h.2
   unfold opM at h2
   simp only at h2
   cases h2 with
   | pure args' X h ha2 hl hk => rw [← hk, bx_set]
   | ext args' X h ha2 hl hk => rw [← hk, bx_set]
   | lend args' X h ha2 hl hf hk hp => rw [← hk, bx_set]
   | recv id off cs0 cs rest args' X Y h he hb hoff hcs ha2 hl hr hy hk => rw [ha.1] at hr; cases hr
   | recvEl id sz i e n g cs rest args' X Y h he hb hi hsz hcs ha2 hl hr hy hk => rw [ha.1] at hr; cases hr
   | inl X bx' nx' h hr hw hk hn => rw [ha.1] at hr; cases hr
   | own args' e sz n g h ha2 hl hr hk => rw [← hk, bx_set]; simp [St.newBox, hi]
  ·cases ha
 ·cases ha
def isLoad (o : Oper) : Bool := o.guard.isNone && match o.op with
 | .load _ _ => true
 | _ => false
def indepLA (rcv : Nat → Bool) (ops : Array Oper) (x y : Oper) : Bool :=
 (match x.dst with | some d => !(namesOf ops y).contains d | none => true) && (match y.dst with | some d => !(namesOf ops x).contains d | none => true) &&
 (match x.dst, y.dst with | some d, some e => d != e | _, _ => true) && isLoad x && isAlloc rcv y
theorem load_bx {t : TypeId} {b b' : Nat → Option Bx} {v : SV} {r : Prop × SV} (h : roLoad S t b v = some r) (hb : ∀ i y, b i = some y → b' i = some y) : roLoad S t b' v = some r := by
 unfold roLoad at h ⊢
 split
 ·rename_i id off
  simp only at h
  split at h
  ·rename_i h1 h2; rw [hb _ _ h1, h2]; exact h
  ·rename_i h1 h2; rw [hb _ _ h1, h2]; exact h
  ·cases h
 ·rename_i id sz i off
  simp only at h
  split at h
  ·rename_i h1 h2; rw [hb _ _ h1, h2]; exact h
  ·rename_i h1 h2; rw [hb _ _ h1, h2]; exact h
  ·cases h
 ·exact h
 ·simp_all
theorem swap_load_alloc {lb : Nat} {x y : Oper} (hi : indepLA S.rcv ops x y = true) (w : WfN lb st) (h1 : Ex S ops st x s1) (h2 : Ex S ops s1 y s2) : ∃ s3, Ex S ops st y s3 ∧ Ex S ops s3 x s2 := by
 simp only [indepLA, Bool.and_eq_true] at hi
 obtain ⟨⟨⟨⟨hxy, hyx⟩, hdd⟩, hl⟩, ha⟩ := hi
 have hab := alloc_bx ha h2
 simp only [isLoad, Bool.and_eq_true, Option.isNone_iff_eq_none] at hl
 obtain ⟨hxg, hl⟩ := hl
 split at hl
 case h_2 => cases hl
 rename_i t q hxo
 obtain ⟨v1, b1, n1, e1, k1, p1, z1⟩ := ex_step h1
 have hc1 : cls S.rcv x ≤ 1 := by simp [cls, clsOp, hxo]
 obtain ⟨rfl, rfl⟩ := k1 hc1
 obtain ⟨v2, b2, n2, e2, k2, p2, z2⟩ := ex_step h2
 have hs1 : s1.bx = st.bx ∧ s1.nx = st.nx := by rw [e1]; exact ⟨bx_set, nx_set⟩
 have ag1 : ∀ t ∈ namesOf ops y, s1.fr t = st.fr t := by
  rw [e1]; exact fr_agree (nx' := 0) (bx' := st.bx) hxy
 have q2 := p2 st ag1 hs1.1.symm hs1.2.symm
 refine ⟨_, q2, ?_⟩
 have comm : s2 = St.set (St.set ⟨st.fr, b2, n2, st.kf⟩ y.dst v2) x.dst v1 := by
  rw [e2, e1]
  simp only [set_eq, St.mk.injEq, and_true]
  funext s
  by_cases c1 : some s = x.dst
  ·by_cases c2 : some s = y.dst
   ·rw [← c1, ← c2] at hdd
    simp at hdd
   ·rw [if_neg c2, if_pos c1, if_pos c1]
  ·by_cases c2 : some s = y.dst
   ·rw [if_pos c2, if_neg c1, if_pos c2]
   ·rw [if_neg c2, if_neg c1, if_neg c1, if_neg c2]
 have hbx : ∀ i y', st.bx i = some y' → b2 i = some y' := fun i y' hi => by
  have hne : i ≠ s1.nx := by
   rw [hs1.2]
   intro e
   have := w.1 i (by omega)
   rw [this] at hi; cases hi
  have := hab i hne
  rw [e2, bx_set, hs1.1] at this
  exact this.trans hi
 have ag2 : ∀ t ∈ namesOf ops x, (St.set ⟨st.fr, b2, n2, st.kf⟩ y.dst v2).fr t = st.fr t := fr_agree (nx' := 0) (bx' := st.bx) hyx
 have hevq : (St.set ⟨st.fr, b2, n2, st.kf⟩ y.dst v2).ev S q = st.ev S q :=
  (ev_congr (S := S) (ops := ops) (o := x) (fun t ht => (ag2 t ht).symm) q (by rw [hxo]; simp [Op.operands])).symm
 unfold Ex opG at h1 ⊢
 rw [hxg] at h1 ⊢
 simp only [opP, hxo, ro_load] at h1 ⊢
 rw [hevq, bx_set]
 cases hr : roLoad S t st.bx (st.ev S q).strip with
 | none => rw [hr] at h1; simp only [rc, opM] at h1; exact h1.2.elim
 | some r =>
  rw [hr] at h1
  rw [load_bx hr hbx]
  obtain ⟨r1, r2⟩ := r
  simp only [rc] at h1 ⊢
  refine ⟨h1.1, ?_⟩
  rw [comm]
  have hv : ∀ d, x.dst = some d → r2 = v1 := fun d hd => by
   have := congrArg (fun s : St => s.fr d) (h1.2.trans e1)
   simpa [hd, St.set] using this
  cases hd : x.dst with
  | none => rfl
  | some d => rw [hv d hd]
def dynB (kl : List (Nat × Nat)) (ops : Array Oper) (mi : Nat) (j i : Nat) (x y : Oper) : Bool :=
 match x.op, y.op, x.dst with
 | .load _ (.tmp q), .store _ (.tmp p) vop, some d =>
  x.guard.isNone && y.guard.isNone && y.dst.isNone && d != p && d != q && (match vop with | .tmp e => e != d | _ => true) && ((Nat.beq (kdOf kl p) 2 && (Nat.beq (kdOf kl q) 1 || Nat.beq (kdOf kl q) 3)) || (Nat.ble 4 (kdOf kl p) && Nat.ble 4 (kdOf kl q) && kdOf kl p != kdOf kl q)) &&
   (List.range ops.size).all fun k => Nat.ble k j || (match ops[k]? with
    | some z => z.dst != some q && (z.dst != some p || (Nat.blt k i && mi.testBit k))
    | none => true)
 | _, _, _ => false
def dynC (rcv : Nat → Bool) (kl : List (Nat × Nat)) (ops : Array Oper) (x y : Oper) : Bool :=
 (match x.dst with | some d => !(namesOf ops y).contains d | none => true) && (match y.dst with | some d => !(namesOf ops x).contains d | none => true) &&
 (match x.dst, y.dst with | some d, some e => d != e | _, _ => true) && isAlloc rcv x && (match y.op with
 | .load _ (.tmp q) => y.guard.isNone && Nat.ble 4 (kdOf kl q) && (List.range ops.size).all fun k => match ops[k]? with
  | some z => z.dst != some q
  | none => true
 | _ => false)
theorem swap_alloc_load {kl : List (Nat × Nat)} {x y : Oper} {t : TypeId} {q id off : Nat} (hi : dynC S.rcv kl ops x y = true) (hyo : y.op = .load t (.tmp q)) (hyg : y.guard = none) (hq : st.fr q = .b (.c (.ptr id off))) (hid : id < st.nx)
  (h1 : Ex S ops st x s1) (h2 : Ex S ops s1 y s2) : ∃ s3, Ex S ops st y s3 ∧ Ex S ops s3 x s2 := by
 simp only [dynC, Bool.and_eq_true] at hi
 obtain ⟨⟨⟨⟨hxy, hyx⟩, hdd⟩, ha⟩, _⟩ := hi
 have hab := alloc_bx ha h1
 obtain ⟨v1, b1, n1, e1, k1, p1, z1⟩ := ex_step h1
 obtain ⟨v2, b2, n2, e2, k2, p2, z2⟩ := ex_step h2
 have hc2 : cls S.rcv y ≤ 1 := by simp [cls, clsOp, hyo, hyg]
 obtain ⟨rfl, rfl⟩ := k2 hc2
 have hfrq : s1.fr q = st.fr q := by
  rw [e1]
  refine fr_agree (nx' := 0) (bx' := st.bx) hxy q ?_
  simp [namesOf, hyo, Op.operands]
 have hload : rc (roLoad S t s1.bx (s1.ev S (.tmp q)).strip) (s1.ev S (.tmp q)).cond = rc (roLoad S t st.bx (st.ev S (.tmp q)).strip) (st.ev S (.tmp q)).cond := by
  simp only [St.ev, hfrq, hq, SV.strip, SV.cond, roLoad, hab id (by omega)]
 have hy : Ex S ops st y (st.set y.dst v2) := by
  unfold Ex opG at h2 ⊢
  rw [hyg] at h2 ⊢
  simp only [opP, hyo, ro_load] at h2 ⊢
  rw [hload] at h2
  cases hr : rc (roLoad S t st.bx (st.ev S (.tmp q)).strip) (st.ev S (.tmp q)).cond with
  | none => rw [hr] at h2; simp only [opM] at h2; exact h2.2.elim
  | some r =>
   rw [hr] at h2
   refine ⟨h2.1, ?_⟩
   have h3 : s1.set y.dst r.2 = St.set ⟨s1.fr, s1.bx, s1.nx, s1.kf⟩ y.dst v2 := h2.2.trans e2
   rw [set_eq, set_eq] at h3
   simp only [St.mk.injEq, and_true] at h3
   rw [set_eq, set_eq]
   simp only [St.mk.injEq, and_true]
   funext s
   have := congrFun h3 s
   by_cases c1 : some s = y.dst
   ·rw [if_pos c1, if_pos c1] at this
    rw [if_pos c1, if_pos c1, this]
   ·rw [if_neg c1, if_neg c1]
 refine ⟨_, hy, ?_⟩
 have ag : ∀ t ∈ namesOf ops x, st.fr t = (st.set y.dst v2).fr t := fun t ht => (fr_agree (fr := st.fr) (kf := st.kf) (nx' := 0) (bx' := st.bx) (bx := st.bx) (nx := st.nx) hyx t ht).symm
 have := p1 (st.set y.dst v2) ag bx_set nx_set
 have comm : s2 = St.set ⟨(st.set y.dst v2).fr, b1, n1, (st.set y.dst v2).kf⟩ x.dst v1 := by
  rw [e2, e1]
  simp only [set_eq, St.mk.injEq, and_true]
  funext s
  by_cases c1 : some s = x.dst
  ·by_cases c2 : some s = y.dst
   ·rw [← c1, ← c2] at hdd
    simp at hdd
   ·rw [if_neg c2, if_pos c1, if_pos c1]
  ·by_cases c2 : some s = y.dst
   ·rw [if_pos c2, if_neg c1, if_pos c2]
   ·rw [if_neg c2, if_neg c1, if_neg c1, if_neg c2]
 rw [comm]
 exact this
def drawOk2 (rcv : Nat → Bool) (ops : Array Oper) (m : Nat → Nat) (kl : List (Nat × Nat)) : Bool :=
 (List.range ops.size).all fun i => match ops[i]? with
  | none => false
  | some o => (o.after.all fun e => !Region.binds .any e || Nat.blt e.on i) &&
   (List.range i).all fun j => match ops[j]? with
    | none => false
    | some x => (indep rcv ops x o || indepLA rcv ops x o || dynB kl ops (m i) j i x o || dynC rcv kl ops x o) || ((m i).testBit j)
theorem exL_first2 {m : Nat → Nat} {kl : List (Nat × Nat)} {i : Nat} {o : Oper} {l2 : List Nat} (hd : drawOk2 S.rcv ops m kl = true) (ho : ops[i]? = some o) (hlt : i < ops.size) : ∀ (l1 : List Nat) {st s' : St}, (l1 ++ i :: l2).Pairwise (· < ·) →
  (∀ k ∈ l1 ++ i :: l2, k < ops.size) → (∀ j ∈ l1, (m i).testBit j = false) → ExL S ops (l1.map (fun i => ops.getD i default) ++ o :: l2.map (fun i => ops.getD i default)) st s' → kindsOk kl s' → WfN (lbOf kl) st →
  ∃ s, Ex S ops st o s ∧ ExL S ops (l1.map (fun i => ops.getD i default) ++ l2.map (fun i => ops.getD i default)) s s'
 | [], _, _, _, _, _, h, _, _ => h
 | j :: l1, st, s', hp, hall, ht, ⟨s, h1, h2⟩, hk, hwf => by
  have hpc := List.pairwise_cons.1 hp
  obtain ⟨s2, h3, h4⟩ := exL_first2 hd ho hlt l1 hpc.2 (fun k hk => hall k (List.mem_cons_of_mem _ hk)) (fun k hk => ht k (List.mem_cons_of_mem _ hk)) h2 hk (ex_wf h1 hwf)
  have hji : j < i := hpc.1 i (List.mem_append_right _ (List.mem_cons_self ..))
  have hjlt : j < ops.size := hall j (List.mem_cons_self ..)
  have hx : ops[j]? = some (ops.getD j default) := by rw [Array.getD_eq_getD_getElem?, Array.getElem?_eq_getElem hjlt]; rfl
  have d1 := List.all_eq_true.1 hd i (List.mem_range.2 hlt)
  rw [ho] at d1
  simp only [Bool.and_eq_true] at d1
  have d2 := List.all_eq_true.1 d1.2 j (List.mem_range.2 hji)
  rw [hx] at d2
  simp only [Bool.or_eq_true, ht j (List.mem_cons_self ..), Bool.false_eq_true, or_false] at d2
  have key : ∃ s3, Ex S ops st o s3 ∧ Ex S ops s3 (ops.getD j default) s2 := by
   rcases d2 with ((d2 | d2) | d2) | d2
   ·exact ex_swap d2 h1 h3
   ·exact swap_load_alloc d2 hwf h1 h3
   ·unfold dynB at d2
    split at d2
    ·rename_i _ t q t' p vop d hxo hyo hxd
     simp only [Bool.and_eq_true, Nat.beq_eq, Nat.ble_eq, Bool.or_eq_true, bne_iff_ne, Option.isNone_iff_eq_none] at d2
     obtain ⟨⟨⟨⟨⟨⟨⟨g1, g2⟩, g3⟩, g4⟩, g5⟩, g6⟩, g7⟩, g9⟩ := d2
     have hw : ∀ k, j < k → k < ops.size → (ops.getD k default).dst ≠ some q ∧ ((ops.getD k default).dst ≠ some p ∨ (k < i ∧ (m i).testBit k = true)) := fun k hk1 hk2 => by
      have := List.all_eq_true.1 g9 k (List.mem_range.2 hk2)
      rw [show ops[k]? = some (ops.getD k default) by rw [Array.getD_eq_getD_getElem?, Array.getElem?_eq_getElem hk2]; rfl] at this
      simp only [Bool.or_eq_true, Nat.ble_eq, Bool.and_eq_true, bne_iff_ne] at this
      rcases this with h | h
      ·omega
      ·refine ⟨h.1, h.2.imp id fun h => ⟨?_, h.2⟩⟩
       have := h.1
       simp [Nat.blt] at this
       omega
     have hq1 : s'.fr q = s.fr q := exL_fr h2 fun z hz => by
      rcases List.mem_append.1 hz with hz | hz
      ·obtain ⟨k, hk1, rfl⟩ := List.mem_map.1 hz
       exact (hw k (hpc.1 k (List.mem_append_left _ hk1)) (hall k (List.mem_cons_of_mem _ (List.mem_append_left _ hk1)))).1
      ·rcases List.mem_cons.1 hz with hz | hz
       ·subst hz; rw [g3]; simp
       ·obtain ⟨k, hk1, rfl⟩ := List.mem_map.1 hz
        exact (hw k (hpc.1 k (List.mem_append_right _ (List.mem_cons_of_mem _ hk1))) (hall k (List.mem_cons_of_mem _ (List.mem_append_right _ (List.mem_cons_of_mem _ hk1))))).1
     have hp1 : s'.fr p = s.fr p := exL_fr h2 fun z hz => by
      rcases List.mem_append.1 hz with hz | hz
      ·obtain ⟨k, hk1, rfl⟩ := List.mem_map.1 hz
       rcases (hw k (hpc.1 k (List.mem_append_left _ hk1)) (hall k (List.mem_cons_of_mem _ (List.mem_append_left _ hk1)))).2 with h | h
       ·exact h
       ·rw [ht k (List.mem_cons_of_mem _ hk1)] at h; cases h.2
      ·rcases List.mem_cons.1 hz with hz | hz
       ·subst hz; rw [g3]; simp
       ·obtain ⟨k, hk1, rfl⟩ := List.mem_map.1 hz
        rcases (hw k (hpc.1 k (List.mem_append_right _ (List.mem_cons_of_mem _ hk1))) (hall k (List.mem_cons_of_mem _ (List.mem_append_right _ (List.mem_cons_of_mem _ hk1))))).2 with h | h
        ·exact h
        ·have := (List.pairwise_cons.1 (List.pairwise_append.1 hpc.2).2.1).1 k hk1
         omega
     have hp2 : s.fr p = st.fr p := ex_fr h1 (by rw [hxd]; simpa using g4)
     have hq2 : s.fr q = st.fr q := ex_fr h1 (by rw [hxd]; simpa using g5)
     have hpk := kindsOk_of hk (t := p) (by omega)
     have hqk := kindsOk_of hk (t := q) (by omega)
     rw [hp1, hp2] at hpk
     rw [hq1, hq2] at hqk
     have g6' : vop ≠ .tmp d := fun e => by subst e; simp at g6
     rcases g7 with g7 | g7
     ·rw [g7.1] at hpk
      exact swap_load_store hxo hxd g1 hyo g3 g2 (by simpa using g4) g6' hpk hqk ⟨rfl, g7.2⟩ h1 h3
     ·exact swap_load_store2 hxo hxd g1 hyo g3 g2 (by simpa using g4) g6' hpk hqk ⟨g7.1.1, g7.1.2, g7.2⟩ h1 h3
    ·cases d2
   ·have d3 := d2
    simp only [dynC, Bool.and_eq_true] at d3
    obtain ⟨⟨⟨⟨_, _⟩, _⟩, _⟩, d3⟩ := d3
    split at d3
    ·rename_i t q hyo
     simp only [Bool.and_eq_true, Option.isNone_iff_eq_none, Nat.ble_eq] at d3
     obtain ⟨⟨hyg, hkd⟩, hall2⟩ := d3
     have hz : ∀ k, k < ops.size → (ops.getD k default).dst ≠ some q := fun k hk2 => by
      have := List.all_eq_true.1 hall2 k (List.mem_range.2 hk2)
      rw [show ops[k]? = some (ops.getD k default) by rw [Array.getD_eq_getD_getElem?, Array.getElem?_eq_getElem hk2]; rfl] at this
      simpa using this
     have hoi : o = ops.getD i default := by rw [Array.getD_eq_getD_getElem?, ho]; rfl
     have hq1 : s'.fr q = s.fr q := exL_fr h2 fun z hz2 => by
      rcases List.mem_append.1 hz2 with hz2 | hz2
      ·obtain ⟨k, hk1, rfl⟩ := List.mem_map.1 hz2
       exact hz k (hall k (List.mem_cons_of_mem _ (List.mem_append_left _ hk1)))
      ·rcases List.mem_cons.1 hz2 with hz2 | hz2
       ·subst hz2; rw [hoi]; exact hz i hlt
       ·obtain ⟨k, hk1, rfl⟩ := List.mem_map.1 hz2
        exact hz k (hall k (List.mem_cons_of_mem _ (List.mem_append_right _ (List.mem_cons_of_mem _ hk1))))
     have hq2 : s.fr q = st.fr q := ex_fr h1 (hz j hjlt)
     have hqk := kindsOk_of hk (t := q) (by omega)
     rw [hq1, hq2] at hqk
     unfold kOk at hqk
     split at hqk
     ·rename_i id off hfr
      have hlb := kd_lb (t := q) (l := kl)
      exact swap_alloc_load d2 hyo hyg hfr (by have := hwf.2; omega) h1 h3
     ·omega
     ·omega
     ·exact hqk.elim
    ·cases d3
  obtain ⟨s3, h5, h6⟩ := key
  exact ⟨s3, h5, s2, h6, h4⟩
theorem any_of2 {m : Nat → Nat} {kl : List (Nat × Nat)} (hd : drawOk2 S.rcv ops m kl = true) (hm : marksOk ops m = true) {K : St → Prop} : ∀ (fuel : Nat) (listed : Array Bool) (rest : List Nat) (st s' : St),
  listed.size = ops.size → rest.Pairwise (· < ·) → (∀ i, i ∈ rest ↔ i < ops.size ∧ listed.getD i true = false) → Closed ops listed → ExL S ops (rest.map fun i => ops.getD i default) st s' → K s' → kindsOk kl s' → WfN (lbOf kl) st → rest.length ≤ fuel →
  anyP S ops fuel listed st K := by
 have hed : ∀ i o, ops[i]? = some o → ∀ e ∈ o.after, Region.binds .any e = true → e.on < i := fun i o ho e he hb => by
  have hlt : i < ops.size := by
   rcases Nat.lt_or_ge i ops.size with h | h
   ·exact h
   ·rw [Array.getElem?_eq_none h] at ho; cases ho
  have := List.all_eq_true.1 hd i (List.mem_range.2 hlt)
  rw [ho] at this
  simp only [Bool.and_eq_true] at this
  have := this.1
  obtain ⟨k, hk, rfl⟩ := Array.mem_iff_getElem.1 he
  have := (Array.all_eq_true.1 this) k hk
  simp only [hb, Bool.not_true, Bool.false_or, Nat.blt] at this
  have := Nat.le_of_ble_eq_true this
  omega
 have noready : ∀ (listed : Array Bool) (rest : List Nat), listed.size = ops.size → rest.Pairwise (· < ·) → (∀ i, i ∈ rest ↔ i < ops.size ∧ listed.getD i true = false) → Region.ready .any ops listed = [] → rest = [] := by
  intro listed rest hs hp hr hno
  cases rest with
  | nil => rfl
  | cons i r =>
   exfalso
   obtain ⟨hlt, hl⟩ := (hr i).1 (List.mem_cons_self ..)
   have : i ∈ Region.ready .any ops listed := (ready_iff hs).2 ⟨_, Array.getElem?_eq_getElem hlt, hl, fun e he hb => by
    have hle := hed i _ (Array.getElem?_eq_getElem hlt) e he hb
    cases hq : listed.getD e.on false with
    | true => rfl
    | false =>
     exfalso
     have hq' : listed.getD e.on true = false := by
      have hl2 : e.on < listed.size := by omega
      rw [Array.getD, dif_pos hl2] at hq ⊢
      exact hq
     have hmem := (hr e.on).2 ⟨by omega, hq'⟩
     rcases List.mem_cons.1 hmem with h | h
     ·omega
     ·have := (List.pairwise_cons.1 hp).1 _ h; omega⟩
   rw [hno] at this
   cases this
 intro fuel
 induction fuel with
 | zero =>
  intro listed rest st s' hs hp hr hcl hx hk hkl hwf hlen
  have hnil : rest = [] := List.eq_nil_of_length_eq_zero (by omega)
  subst hnil
  have hst : st = s' := hx
  subst hst
  refine ⟨?_, hk⟩
  rw [List.eq_nil_iff_forall_not_mem]
  intro i hi
  obtain ⟨o, ho, hl, _⟩ := (ready_iff hs).1 hi
  have hlt : i < ops.size := by
   rcases Nat.lt_or_ge i ops.size with h | h
   ·exact h
   ·rw [Array.getElem?_eq_none h] at ho; cases ho
  exact absurd ((hr i).2 ⟨hlt, hl⟩) (by simp)
 | succ fuel ih =>
  intro listed rest st s' hs hp hr hcl hx hk hkl hwf hlen
  refine ⟨fun hno => ?_, fun i hi => ?_⟩
  ·have := noready listed rest hs hp hr hno
   subst this
   have hst : st = s' := hx
   rw [hst]; exact hk
  ·obtain ⟨o, ho, hl, hdep⟩ := (ready_iff hs).1 hi
   have hlt : i < ops.size := by
    rcases Nat.lt_or_ge i ops.size with h | h
    ·exact h
    ·rw [Array.getElem?_eq_none h] at ho; cases ho
   have hmem := (hr i).2 ⟨hlt, hl⟩
   rw [ho]
   obtain ⟨l1, l2, rfl⟩ := List.append_of_mem hmem
   have hpw := List.pairwise_append.1 hp
   have hoi : ops.getD i default = o := by rw [Array.getD_eq_getD_getElem?, ho]; rfl
   rw [List.map_append, List.map_cons, hoi] at hx
   have hdep' : ∀ e ∈ o.after, Region.binds .any e = true → isIn listed e.on := fun e he hb => by
    have := hdep e he hb
    have h2 := hed i o ho e he hb
    have hl2 : e.on < listed.size := by omega
    unfold isIn
    rw [Array.getD, dif_pos hl2] at this ⊢
    exact this
   have hind : ∀ j ∈ l1, (m i).testBit j = false := fun j hj => by
    have hji : j < i := hpw.2.2 j hj i (List.mem_cons_self ..)
    obtain ⟨hjlt, hjl⟩ := (hr j).1 (List.mem_append_left _ hj)
    cases h2 : (m i).testBit j with
    | false => rfl
    | true =>
     exfalso
     have h3 := List.all_eq_true.1 hm i (List.mem_range.2 hlt)
     rw [ho] at h3
     have h4 := List.all_eq_true.1 h3 j (List.mem_range.2 hji)
     simp only [h2, Bool.not_true, Bool.false_or] at h4
     obtain ⟨k, hk', hh⟩ := Array.any_eq_true.1 h4
     simp only [Bool.and_eq_true, Bool.or_eq_true, Nat.beq_eq] at hh
     have hin := hdep' _ (Array.getElem_mem hk') hh.1
     have hle := hed i o ho _ (Array.getElem_mem hk') hh.1
     have : isIn listed j := by
      rcases hh.2 with q | q
      ·rw [← q]; exact hin
      ·exact marks_in hm hcl hed (fun _ _ _ => trivial) (i + 1) _ (by omega) hin (by omega) j (by have := q.2; simp [Nat.blt] at this; omega) q.1
     unfold isIn at this
     rw [this] at hjl
     cases hjl
   have hall : ∀ k ∈ l1 ++ i :: l2, k < ops.size := fun k hk2 => ((hr k).1 hk2).1
   obtain ⟨s1, h1, h2⟩ := exL_first2 hd ho hlt l1 hp hall hind hx hkl hwf
   refine ex_opG h1 ?_
   have hget : ∀ k b, (listed.setIfInBounds i true).getD k b = if k = i then true else listed.getD k b := fun k b => by
    simp only [Array.getD_eq_getD_getElem?, Array.getElem?_setIfInBounds]
    by_cases hk : k = i
    ·subst hk; simp [hs, hlt]
    ·rw [if_neg (fun h => hk h.symm), if_neg hk]
   refine ih _ (l1 ++ l2) s1 s' (by simpa using hs) ?_ (fun k => ?_) (fun k x hx' hin e he hb => ?_) (by rw [List.map_append]; exact h2) hk hkl (ex_wf h1 hwf) (by simp at hlen ⊢; omega)
   ·refine List.pairwise_append.2 ⟨hpw.1, (List.pairwise_cons.1 hpw.2.1).2, fun a ha b hb => hpw.2.2 a ha b (List.mem_cons_of_mem _ hb)⟩
   ·have hk := hr k
    rw [hget]
    by_cases hki : k = i
    ·subst hki
     simp only [if_true]
     constructor
     ·intro hmm
      exfalso
      rcases List.mem_append.1 hmm with q | q
      ·have := hpw.2.2 k q k (List.mem_cons_self ..); omega
      ·have := (List.pairwise_cons.1 hpw.2.1).1 k q; omega
     ·rintro ⟨_, q⟩; cases q
    ·rw [if_neg hki, ← hk]
     simp [hki]
   ·unfold isIn at hin ⊢
    rw [hget] at hin ⊢
    by_cases hek : e.on = i
    ·rw [if_pos hek]
    ·rw [if_neg hek]
     by_cases hki : k = i
     ·subst hki
      rw [ho] at hx'
      cases hx'
      exact hdep' e he hb
     ·rw [if_neg hki] at hin
      exact hcl k x hx' hin e he hb
theorem anyP_of2 {l : List Oper} {m : Nat → Nat} {kl : List (Nat × Nat)} (hd : drawOk2 S.rcv l.toArray m kl = true) (hm : marksOk l.toArray m = true) {K : St → Prop} (hwf : WfN (lbOf kl) st) (h : opsP S l.toArray l st fun s => kindsOk kl s ∧ K s) : anyP S l.toArray l.toArray.size (Array.replicate l.toArray.size false) st K := by
 obtain ⟨s', h1, h2⟩ := opsP_exL h
 refine any_of2 hd hm _ _ (List.range l.length) st s' (by simp) List.pairwise_lt_range (fun i => ?_) (fun i o ho hi => ?_) ?_ h2.2 h2.1 hwf (by simp)
 ·rw [List.mem_range]
  simp only [List.size_toArray, Array.getD_eq_getD_getElem?, Array.getElem?_replicate]
  constructor
  ·intro h; exact ⟨h, by simp [h]⟩
  ·exact fun h => h.1
 ·exfalso
  have hlt : i < l.toArray.size := by
   rcases Nat.lt_or_ge i l.toArray.size with h | h
   ·exact h
   ·rw [Array.getElem?_eq_none h] at ho; cases ho
  unfold isIn at hi
  simp only [Array.getD_eq_getD_getElem?, Array.getElem?_replicate, if_pos hlt] at hi
  cases hi
 ·have : (List.range l.length).map (fun i => l.toArray.getD i default) = l := by
   apply List.ext_getElem
   ·simp
   ·intro i h1 h2; simp [h2]
  rw [this]; exact h1
theorem cw_stepDK {id : Nat} {l : List Oper} {y : Code} {Q : AExit → St → Prop} (kl : List (Nat × Nat)) (hd : drawOk2 S.rcv l.toArray (fun i => (Region.before l.toArray).getD i 0) kl = true) (hm : marksOk l.toArray (fun i => (Region.before l.toArray).getD i 0) = true)
  (hwf : WfN (lbOf kl) st) (h : ∀ K : St → Prop, (∀ s, kindsOk kl s → cw S y Q s → K s) → opsP S l.toArray l st K) : cw S (.seq (.region id l.toArray true) y) Q st := by
 refine cw_seq ?_
 simp only [cw, if_pos]
 exact anyP_of2 hd hm hwf (h _ fun s h1 h2 => ⟨h1, h2⟩)
theorem cw_lastDK {id : Nat} {l : List Oper} {Q : AExit → St → Prop} (kl : List (Nat × Nat)) (hd : drawOk2 S.rcv l.toArray (fun i => (Region.before l.toArray).getD i 0) kl = true) (hm : marksOk l.toArray (fun i => (Region.before l.toArray).getD i 0) = true)
  (hwf : WfN (lbOf kl) st) (h : ∀ K : St → Prop, (∀ s, kindsOk kl s → Q .normal s → K s) → opsP S l.toArray l st K) : cw S (.region id l.toArray true) Q st := by
 simp only [cw, if_pos]
 exact anyP_of2 hd hm hwf (h _ fun s h1 h2 => ⟨h1, h2⟩)
theorem cw_ifM {c : Operand} {x y z : Code} {t : Bool} {Q : AExit → St → Prop} (s0 : St) (hc : st.ev S c = .t t) (h1 : t = true → cw S x (thenQ (Wk fun s => s = s0) Q) st) (h2 : t = false → cw S y (thenQ (Wk fun s => s = s0) Q) st) (h : cw S z Q s0) : cw S (.seq (.cond c x y) z) Q st :=
 cw_cut (fun s => s = s0) (cw_cond hc h1 h2) (fun s hs => hs ▸ h)
theorem cw_blocksV {z x : Code} {id : Nat} {Q : AExit → St → Prop} (h : ∀ K : St → Prop, (∀ s s', Le s s' → cw S z Q s' → K s) → cw S x (blockQ id (thenQ K Q)) st) : cw S (.seq (.block id x) z) Q st := by
 refine cw_mono (S := S) (.block id x) (Q := thenQ (fun st => Wk (cw S z Q) st ∨ cw S z Q st) Q) (fun _ _ h => h) (cw_block ?_)
 exact h _ fun s s' hl hs => .inl ⟨s', hl, hs⟩
theorem kO_ptr {c i o : Nat} : kOk c (.b (.c (.ptr i o))) = (c = 1 ∨ c = 4 + i) := rfl
theorem kO_pel {c i s k o : Nat} : kOk c (.b (.c (.pel i s k o))) = (c = 2) := rfl
theorem kO_ipt {c s o : Nat} {g : Nat → PV} : kOk c (.b (.c (.ipt s g o))) = (c = 3) := rfl
theorem kO_nil {s : St} : kindsOk [] s = True := rfl
theorem kO_cons {s : St} {t c : Nat} {r : List (Nat × Nat)} : kindsOk ((t, c) :: r) s = (kOk c (s.fr t) ∧ kindsOk r s) := rfl
end
attribute [go_sem] lbOf kO_ptr kO_pel kO_ipt kO_nil kO_cons
end Go.SL
namespace Go.SL
open Go
inductive Tr where
 | leaf
 | nil
 | br (i : Nat) (t r : Tr)
def treeP (S : Env) (ops : Array Oper) (L : List Oper) : Tr → St → (St → Prop) → Prop
 | .leaf, st, K => K st
 | .nil, _, _ => True
 | .br i t r, st, K => opsP S ops [L.getD i default] st (fun s => treeP S ops L t s K) ∧ treeP S ops L r st K
def altsOf : Tr → List Nat
 | .br i _ r => i :: altsOf r
 | _ => []
def depthT : Tr → Nat
 | .br _ t r => max (depthT t + 1) (depthT r)
 | _ => 0
section
variable {S : Env} {l : List Oper}
theorem treeP_leaf {ops : Array Oper} {L : List Oper} {st : St} {K : St → Prop} : treeP S ops L .leaf st K = K st := rfl
theorem treeP_nil {ops : Array Oper} {L : List Oper} {st : St} {K : St → Prop} : treeP S ops L .nil st K = True := rfl
theorem treeP_br {ops : Array Oper} {L : List Oper} {st : St} {K : St → Prop} {i : Nat} {t r : Tr} : treeP S ops L (.br i t r) st K = (opsP S ops [L.getD i default] st (fun s => treeP S ops L t s K) ∧ treeP S ops L r st K) := rfl
end
theorem gd_zero {x : Oper} {r : List Oper} : (x :: r).getD 0 default = x := rfl
theorem gd_succ {x : Oper} {r : List Oper} {i : Nat} : (x :: r).getD (i + 1) default = r.getD i default := rfl
attribute [go_sem] treeP_leaf treeP_nil treeP_br gd_zero gd_succ
end Go.SL
namespace Go.SL
open Go
def roMake (f : FuncId) (l : List SV) : Option (Prop × SV) :=
 match ptrsOf l with
 | some ps => some (True, .b (.c (.clo f ps)))
 | none => none
def cloS (S : Env) (st : St) (v : SV) (args : List BV) {K : SV → St → Prop} (_ : Sl K) : Prop :=
 match cloArgs v with
 | some (f, xs) => CallP S st f (args ++ xs) K
 | none => False
section
variable {S : Env} {ops : Array Oper} {rest : List Oper} {st : St} {K : St → Prop} {d : Option Nat} {ty : TypeId} {pos : String} {af : Array Edge}
theorem cloS_eq {f : FuncId} {ps : List (Nat × Nat)} {args : List BV} {K : SV → St → Prop} :
  cloS S st (.b (.c (.clo f ps))) args (Sl.of K) = CallS S st f (args ++ ps.map fun p => .c (.ptr p.1 p.2)) (Sl.of K) := rfl
theorem cloS_fn {f n : Nat} {sz : Nat → Nat} {g : Nat → Nat → PV} {args : List BV} {K : SV → St → Prop} :
  cloS S st (.b (.c (.p (.fn f n sz g)))) args (Sl.of K) = CallS S st f (args ++ (List.range n).map fun i => .c (.ipt (sz i) (g i) 0)) (Sl.of K) := rfl
theorem cloS_val {f : FuncId} {args : List BV} {K : SV → St → Prop} :
  cloS S st (.b (.c (.p (.val (.func (.func f) #[] #[]))))) args (Sl.of K) = CallS S st f args (Sl.of K) := by
 unfold cloS cloArgs
 simp only [and_self, if_true, List.append_nil]
 rfl
theorem o_makeFunc {f : FuncId} {cap : Array Operand} : opsP S ops (⟨d, .makeFunc (.func f) #[] cap, ty, pos, af, none⟩ :: rest) st K =
  rk (roMake f (cap.toList.map fun x => (st.ev S x).strip)) (condAll (cap.toList.map (st.ev S))) (Sl.of fun r => opsP S ops rest (st.set d r) K) := by
 simp only [opsP, opG]
 rw [core_none (by simp) (by simp) (by simp) (fun _ => rfl)]
 have e : roCore S st.bx (st.ev S) (.makeFunc (.func f) #[] cap) = roMake f (cap.toList.map fun x => (st.ev S x).strip) := by
  simp only [roCore, roMake]
  split
  ·rename_i h1 h2 h3; cases h1; rw [h3]
  ·rename_i h; split
   ·rename_i ps hp; exact absurd hp (h f ps rfl rfl)
   ·rfl
 rw [e]
 simp [Op.operands]
theorem o_clo {t : Tmp} {args : Array Operand} {ts : Array TypeId} : opsP S ops (⟨d, .call ⟨.value (.tmp t), args, ts⟩, ty, pos, af, none⟩ :: rest) st K =
  (((st.fr t).cond ∧ condAll (args.toList.map (st.ev S))) ∧ cloS S st (st.fr t).strip (args.toList.map fun x => stripB (st.ev S x)) (Sl.of fun r st' => opsP S ops rest (st'.set d r) K)) := by
 simp only [opsP, opG]
 rw [m_op (by simp [ro, roCore])]
 simp only [Op.operands, Call.operands, opM, cloS]
 have e : condAll ((#[Operand.tmp t] ++ args).toList.map (st.ev S)) = ((st.fr t).cond ∧ condAll (args.toList.map (st.ev S))) := by simp [condAll, St.ev]
 rw [e]
 rfl
theorem ptrs_nil : ptrsOf [] = some [] := rfl
theorem ptrs_cons {id off : Nat} {r : List SV} : ptrsOf (.b (.c (.ptr id off)) :: r) = (ptrsOf r).map fun l => (id, off) :: l := rfl
theorem lt_clo {nx : Nat} {f : Nat} {ps : List (Nat × Nat)} : CV.lt nx (.clo f ps) = (ps.all fun p => Nat.blt p.1 nx) := by
 simp [CV.lt]
end
def bxIns (n : Nat) (x : Bx) (b : Nat → Option Bx) : Nat → Option Bx := fun i => if i = n then some x else b i
def bxDel (n : Nat) (b : Nat → Option Bx) : Nat → Option Bx := fun i => if i = n then none else b i
theorem bxf_set {st : St} {d : Option Nat} {v : SV} : (st.set d v).bx = st.bx := by cases d <;> rfl
theorem bxf_newBox {st : St} {x : Bx} : (st.newBox x).bx = bxIns st.nx x st.bx := rfl
theorem bxf_setBox {st : St} {id : Nat} {x : Bx} : (st.setBox id x).bx = bxIns id x st.bx := rfl
theorem bxf_delBox {st : St} {id : Nat} : (st.delBox id).bx = bxDel id st.bx := rfl
theorem kf_set {st : St} {d : Option Nat} {v : SV} : (st.set d v).kf = st.kf := by cases d <;> rfl
theorem kf_newBox {st : St} {x : Bx} : (st.newBox x).kf = st.kf := rfl
theorem kf_setBox {st : St} {id : Nat} {x : Bx} : (st.setBox id x).kf = st.kf := rfl
theorem kf_delBox {st : St} {id : Nat} : (st.delBox id).kf = st.kf := rfl
theorem bx_ins {n i : Nat} {x : Bx} {b : Nat → Option Bx} : bxIns n x b i = if i = n then some x else b i := rfl
theorem bx_del {n i : Nat} {b : Nat → Option Bx} : bxDel n b i = if i = n then none else b i := rfl
def stI (args : List BV) (bx : Nat → Option Bx) (nx : Nat) (kf : Nat → SV) : St := ⟨frArgs args 0, bx, nx, kf⟩
def St.turn (st : St) (bx : Nat → Option Bx) (nx : Nat) : St := ⟨st.fr, bx, nx, st.kf⟩
theorem fr_stI {args : List BV} {bx : Nat → Option Bx} {nx : Nat} {kf : Nat → SV} {s : Nat} : (stI args bx nx kf).fr s = frArgs args 0 s := rfl
theorem bx_stI {args : List BV} {bx : Nat → Option Bx} {nx : Nat} {kf : Nat → SV} : (stI args bx nx kf).bx = bx := rfl
theorem nx_stI {args : List BV} {bx : Nat → Option Bx} {nx : Nat} {kf : Nat → SV} : (stI args bx nx kf).nx = nx := rfl
theorem kf_stI {args : List BV} {bx : Nat → Option Bx} {nx : Nat} {kf : Nat → SV} : (stI args bx nx kf).kf = kf := rfl
theorem fr_turn {st : St} {bx : Nat → Option Bx} {nx : Nat} {s : Nat} : (st.turn bx nx).fr s = st.fr s := rfl
theorem bx_turn {st : St} {bx : Nat → Option Bx} {nx : Nat} : (st.turn bx nx).bx = bx := rfl
theorem nx_turn {st : St} {bx : Nat → Option Bx} {nx : Nat} : (st.turn bx nx).nx = nx := rfl
theorem kf_turn {st : St} {bx : Nat → Option Bx} {nx : Nat} : (st.turn bx nx).kf = st.kf := rfl
def resI (S : Env) (st : St) : ResultVar → Option (Prop × BV)
 | .tmp t => match st.fr t with
  | .b x => some (True, x)
  | _ => none
 | .cell p t => match roLoad S t st.bx (st.fr p) with
  | some (vc, .b x) => some (vc, x)
  | _ => none
def resIAll (S : Env) (st : St) : List ResultVar → Option (Prop × List BV)
 | [] => some (True, [])
 | r :: l => match resI S st r, resIAll S st l with
  | some (p, x), some (q, xs) => some (p ∧ q, x :: xs)
  | _, _ => none
def resX : List BV → SV
 | [x] => .b x
 | l => .tup l
def inlP (S : Env) (rs : List ResultVar) (X : SV) (bx' : Nat → Option Bx) (nx' : Nat) (kf : Nat → SV) (st : St) : Prop :=
 match resIAll S st rs with
 | some (p, xs) => p ∧ resX xs = X ∧ st.bx = bx' ∧ st.nx = nx' ∧ st.kf = kf ∧ X.lt nx'
 | none => False
def inlQ (S : Env) (rs : List ResultVar) (X : SV) (bx' : Nat → Option Bx) (nx' : Nat) (kf : Nat → SV) : AExit → St → Prop
 | .ret, st => inlP S rs X bx' nx' kf st
 | .normal, st => inlP S rs X bx' nx' kf st
 | _, _ => False
theorem inlQ_ret {S : Env} {rs : List ResultVar} {X : SV} {bx' : Nat → Option Bx} {nx' : Nat} {kf : Nat → SV} {st : St} : inlQ S rs X bx' nx' kf .ret st = inlP S rs X bx' nx' kf st := rfl
theorem inlQ_normal {S : Env} {rs : List ResultVar} {X : SV} {bx' : Nat → Option Bx} {nx' : Nat} {kf : Nat → SV} {st : St} : inlQ S rs X bx' nx' kf .normal st = inlP S rs X bx' nx' kf st := rfl
section
variable {S : Env} {E : Ent} {st : St} {ρ : Rho} {a : Act} {w : World}
theorem resI_den {r : ResultVar} {p : Prop} {x : BV} (h : resI S st r = some (p, x)) (hp : p) (g : Gam S E st ρ a w) : ∃ v, runRes S.P a.tmps w r v ∧ DenB ρ (okA E st.bx ρ w) w x v := by
 unfold resI at h
 split at h
 ·rename_i t
  have hs := g.slt t
  split at h
  ·rename_i y hy
   rw [hy] at hs
   simp only [Option.some.injEq, Prod.mk.injEq] at h
   obtain ⟨_, rfl⟩ := h
   exact ⟨_, rfl, hs⟩
  ·simp at h
 ·rename_i q t
  split at h
  ·rename_i vc y hl
   simp only [Option.some.injEq, Prod.mk.injEq] at h
   obtain ⟨rfl, rfl⟩ := h
   obtain ⟨v, hr, hv, _⟩ := yld_load hl hp g (g.slt q)
   refine ⟨v, ?_, hv⟩
   unfold runRes rvSem
   simp only [Instr.loadAt, Sem.run_bind] at hr ⊢
   cases hq : a.tmps.getD q undef <;> simp only [hq, Instr.sureAddr, run_stuck, Result.andThen_halt, reduceCtorEq] at hr
   rename_i ad
   cases ad with
   | none => simp [Instr.sureAddr] at hr
   | some ad => simpa [asAddr, Instr.sureAddr] using hr
  ·simp at h
theorem resIAll_den (g : Gam S E st ρ a w) : ∀ {rs : List ResultVar} {p : Prop} {xs : List BV},
  resIAll S st rs = some (p, xs) → p → ∃ vs : List Value, (rs.mapM (rvSem a.tmps)).run S.P w = .ok vs w ∧ vs.length = xs.length ∧ ∀ j, DenB ρ (okA E st.bx ρ w) w (xs.getD j .any) (vs.getD j undef)
 | [], p, xs, h, _ => by
  simp only [resIAll, Option.some.injEq, Prod.mk.injEq] at h
  obtain ⟨_, rfl⟩ := h
  exact ⟨[], by simp, rfl, fun j => by simp [DenB, DenC, DenP]⟩
 | r :: rs, p, xs, h, hp => by
  simp only [resIAll] at h
  split at h
  ·rename_i p1 x1 p2 xs2 h1 h2
   simp only [Option.some.injEq, Prod.mk.injEq] at h
   obtain ⟨rfl, rfl⟩ := h
   obtain ⟨v, hv, hd⟩ := resI_den h1 hp.1 g
   obtain ⟨vs, hvs, hl, hds⟩ := resIAll_den g h2 hp.2
   refine ⟨v :: vs, ?_, by simp [hl], fun j => ?_⟩
   ·unfold runRes at hv
    rw [List.mapM_cons]
    simp only [Sem.run_bind, hv, Result.andThen_ok, hvs, Sem.run_pure]
   ·cases j with
    | zero => exact hd
    | succ j => exact hds j
  ·simp at h
theorem resX_den {fn : Func} {xs : List BV} {vs : List Value} {ok : Nat → Prop} (hvs : (fn.results.toList.mapM (rvSem a.tmps)).run S.P w = .ok vs w) (hl : vs.length = xs.length)
  (hd : ∀ j, DenB ρ ok w (xs.getD j .any) (vs.getD j undef)) : ∃ v, (results fn a.tmps).run S.P w = .ok v w ∧ DenS ρ ok w (resX xs) v := by
 refine ⟨_, run_results hvs, ?_⟩
 match vs, xs, hl with
 | [], [], _ => exact ⟨#[], rfl, rfl, fun j => by simpa using hd j⟩
 | [v], [x], _ => exact hd 0
 | v :: v2 :: vs, x :: x2 :: xs, hl => exact ⟨(v :: v2 :: vs).toArray, rfl, by simpa using hl, fun j => by
   have e : (v :: v2 :: vs).toArray.getD j undef = (v :: v2 :: vs).getD j undef := by simp [List.getD_eq_getElem?_getD]
   rw [e]; exact hd j⟩
theorem inl_of {f : FuncId} {fn : Func} {c : Code} {rs : List ResultVar} {args : List BV} {X : SV} {bx bx' : Nat → Option Bx} {nx nx' : Nat} (hf : S.P.funcs[f]? = some fn) (hb : fn.body = some c) (hrs : fn.results.toList = rs)
  (hname : (fn.name == "runtime.NumGoroutine") = false) (hm : S.P.follows .mixedOrders = true) (hN : codeOk fn.ntmps c = true) (hlen : args.length ≤ fn.ntmps) (hl : ∀ x ∈ args, BV.lt nx x)
  (h : ∀ kf, cw S c (inlQ S rs X bx' nx' kf) (stI args bx nx kf)) : InlP S bx nx f args X bx' nx' := by
 subst hrs
 refine ⟨⟨fn, hf, hname, by rw [hb]; rfl⟩, fun E st ρ a w vs hbx hnx g hsz hden => ?_⟩
 refine calls_of_wp hf hb ?_
 subst hbx
 subst hnx
 let E2 : Ent := { w0 := E.w0, ok0 := E.ok0, rx := E.rx, N := fn.ntmps, kp := fun s => if s % 2 = 0 then a.tmps.getD (s / 2) undef else E.kp (s / 2) }
 let kf : Nat → SV := fun s => if s % 2 = 0 then st.fr (s / 2) else st.kf (s / 2)
 have g2 : Gam S E2 (stI args st.bx st.nx kf) ρ { tmps := vs ++ Array.replicate (fn.ntmps - vs.size) undef, defers := [] } w := by
  refine ⟨rfl, by simp [E2]; omega, ⟨g.frm.os, g.frm.tape, g.frm.output, g.frm.size, g.frm.block, g.frm.rxb⟩, fun s => ?_, g.wfb, g.bxs, g.new, g.inj, g.rx0, fun s => ?_, g.glb, fun s => ?_⟩
  ·simp only [stI, frArgs_spec]
   split
   ·rename_i hs
    refine hl _ ?_
    rw [List.getD_eq_getElem?_getD, List.getElem?_eq_getElem (by omega)]; exact List.getElem_mem _
   ·trivial
  ·simp only [stI, frArgs_spec]
   split
   ·rename_i hs
    have e : (vs ++ Array.replicate (fn.ntmps - vs.size) undef).getD s undef = vs.getD s undef := by
     have : s < vs.size := by omega
     simp [this]
     rw [Array.getElem?_append_left this]
     simp [this]
    rw [e]
    exact hden (s - 0)
   ·trivial
  ·show (kf s).lt st.nx ∧ DenS ρ (okA E st.bx ρ w) w (kf s) (E2.kp s)
   simp only [kf, E2]
   split
   ·exact ⟨g.wfs _, g.slt _⟩
   ·exact g.kept _
 have fin : ∀ {a' : Act} {w' : World}, Nxt S E2 (inlP S fn.results.toList X bx' nx' kf) a' w' → a'.defers = [] ∧ ∃ v, (results fn a'.tmps).run S.P w' = .ok v w' ∧
   ∃ v2 ρ', Ending.returned v = .returned v2 ∧ DenS ρ' (okA E bx' ρ' w') w' X v2 ∧ X.lt nx' ∧ Gam S E ⟨st.fr, bx', nx', st.kf⟩ ρ' a w' := fun {a' w'} ⟨st', ρ', g', hq⟩ => by
  unfold inlP at hq
  split at hq
  ·rename_i p xs hr
   obtain ⟨hp, hX, hbx', hnx', hkf, hXl⟩ := hq
   obtain ⟨vs2, hvs, hl2, hd⟩ := resIAll_den g' hr hp
   obtain ⟨v, hv1, hv2⟩ := resX_den hvs hl2 hd
   subst hX
   subst hbx'
   subst hnx'
   refine ⟨g'.dfr, v, hv1, v, ρ', rfl, hv2, hXl, ?_⟩
   have hk0 : ∀ s, (st.fr s).lt st'.nx ∧ DenS ρ' (okA E st'.bx ρ' w') w' (st.fr s) (a.tmps.getD s undef) := fun s => by
    have := g'.kept (2 * s)
    rw [hkf] at this
    have e1 : 2 * s % 2 = 0 := by omega
    have e2 : 2 * s / 2 = s := by omega
    simp only [kf, E2, e1, e2, if_true] at this
    exact this
   have hk1 : ∀ s, (st.kf s).lt st'.nx ∧ DenS ρ' (okA E st'.bx ρ' w') w' (st.kf s) (E.kp s) := fun s => by
    have := g'.kept (2 * s + 1)
    rw [hkf] at this
    have e1 : ¬ (2 * s + 1) % 2 = 0 := by omega
    have e2 : (2 * s + 1) / 2 = s := by omega
    simp only [kf, E2, e1, e2, if_false] at this
    exact this
   exact ⟨g.dfr, g.sz, ⟨g'.frm.os, g'.frm.tape, g'.frm.output, g'.frm.size, g'.frm.block, g'.frm.rxb⟩, fun s => (hk0 s).1, g'.wfb, g'.bxs, g'.new, g'.inj, g'.rx0, fun s => (hk0 s).2, g'.glb, hk1⟩
  ·exact hq.elim
 refine wp_mono (cw_sound hm c hN (h kf) g2) fun e a' w' hq => ?_
 cases e with
 | normal => exact fin hq
 | ret => exact fin hq
 | exit id => obtain ⟨_, _, _, h⟩ := hq; exact h.elim
 | _ => exact hq.elim
theorem call_inl {f : FuncId} {args : List BV} {K : SV → St → Prop} {X : SV} {bx' : Nat → Option Bx} {nx' : Nat} (h : InlP S st.bx st.nx f args X bx' nx') (hr : S.rcv f = true) (hw : ∀ i, nx' ≤ i → bx' i = none) (hn : st.nx ≤ nx')
  (hk : K X (st.turn bx' nx')) : CallS S st f args (Sl.of K) := .inl X bx' nx' h hr hw hk hn
end
def ownP (rs : List ResultVar) (e sz n : Nat) (g : Nat → Nat → PV) (st : St) : Prop :=
 match rs with
 | [.tmp t] => match st.fr t with
  | .b (.c (.own id n')) => ∃ f, st.bx id = some (.arr e sz n f) ∧ n' = n ∧ ∀ i, i < n → ∀ j, j < sz → ∃ u, f i j = .val u ∧ g i j = .val u
  | _ => False
 | _ => False
def ownQ (rs : List ResultVar) (e sz n : Nat) (g : Nat → Nat → PV) : AExit → St → Prop
 | .ret, st => ownP rs e sz n g st
 | .normal, st => ownP rs e sz n g st
 | _, _ => False
theorem ownQ_ret {rs : List ResultVar} {e sz n : Nat} {g : Nat → Nat → PV} {st : St} : ownQ rs e sz n g .ret st = ownP rs e sz n g st := rfl
theorem ownQ_normal {rs : List ResultVar} {e sz n : Nat} {g : Nat → Nat → PV} {st : St} : ownQ rs e sz n g .normal st = ownP rs e sz n g st := rfl
theorem own_of {S : Env} {f : FuncId} {fn : Func} {c : Code} {rs : List ResultVar} {args : List BV} {e sz n : Nat} {g : Nat → Nat → PV} (hf : S.P.funcs[f]? = some fn) (hb : fn.body = some c) (hrs : fn.results.toList = rs) (hname : (fn.name == "runtime.NumGoroutine") = false)
  (hm : S.P.follows .mixedOrders = true) (hN : codeOk fn.ntmps c = true) (hlen : args.length ≤ fn.ntmps) (hl : ∀ x ∈ args, BV.lt 0 x) (h : cw S c (ownQ rs e sz n g) (st0 args)) : PureOwn S f args e sz n g := by
 subst hrs
 refine ⟨⟨fn, hf, hname, by rw [hb]; rfl⟩, fun ok w vs hok hgl hsz hden => ?_⟩
 refine calls_of_wp hf hb ?_
 let E : Ent := { w0 := w, ok0 := ok, rx := none, N := fn.ntmps }
 have hokA : ∀ b, ok b → okA E (fun _ => none) noRho w b := fun b hb => ⟨hok b hb, fun _ => hb, fun _ h => absurd rfl h⟩
 have hk : Keep ok (okA E (fun _ => none) noRho w) w w := fun b hb => ⟨hokA b hb, fun _ => rfl⟩
 have g0 : Gam S E (st0 args) noRho { tmps := vs ++ Array.replicate (fn.ntmps - vs.size) undef, defers := [] } w := by
  refine ⟨rfl, by simp [E]; omega, ⟨rfl, rfl, rfl, Nat.le_refl _, fun _ _ _ => rfl, fun _ _ _ h => (by cases h)⟩, fun s => ?_, fun _ _ h => (by cases h), fun _ _ h => (by cases h), fun _ _ _ h => (by cases h), fun _ _ _ h => absurd rfl h,
   fun _ _ _ h => (by cases h), fun s => ?_, fun gg n f hg => ?_, fun s => ⟨trivial, trivial⟩⟩
  ·simp only [st0, frArgs_spec]
   split
   ·rename_i hs
    refine hl _ ?_
    rw [List.getD_eq_getElem?_getD, List.getElem?_eq_getElem (by omega)]; exact List.getElem_mem _
   ·trivial
  ·simp only [st0, frArgs_spec]
   split
   ·rename_i hs
    have e : (vs ++ Array.replicate (fn.ntmps - vs.size) undef).getD s undef = vs.getD s undef := by
     have : s < vs.size := by omega
     simp [this]
     rw [Array.getElem?_append_left this]
     simp [this]
    rw [e]
    exact DenB.mono (nx := 0) hk (fun _ _ => rfl) (hl _ (by rw [List.getD_eq_getElem?_getD, List.getElem?_eq_getElem (by omega)]; exact List.getElem_mem _)) (hden (s - 0))
   ·trivial
  ·obtain ⟨h1, h2⟩ := hgl gg n f hg
   refine ⟨hokA gg h1, fun j hj => ?_⟩
   obtain ⟨x, hx, h3, hd⟩ := h2 j hj
   exact ⟨x, hx, h3, DenP.mono hk hd⟩
 have fin : ∀ {a' : Act} {w' : World}, Nxt S E (ownP fn.results.toList e sz n g) a' w' → a'.defers = [] ∧ ∃ v, (results fn a'.tmps).run S.P w' = .ok v w' ∧
   ∃ v2 xs, Ending.returned v = .returned v2 ∧ RowKit.Below w.heap.size w w' ∧ 0 < sz ∧ w'.ownsRow w.heap.size e sz v2 n xs ∧ (∀ x ∈ xs, x.oneCell' = true) ∧
    ∀ i, i < n → ∀ j, j < sz → DenP (fun _ => False) w' (g i j) (xs.getD (i * sz + j) undef) := fun {a' w'} ⟨st', ρ', g', hq⟩ => by
  unfold ownP at hq
  split at hq
  ·rename_i t hrs
   split at hq
   ·rename_i id n' hfr
    obtain ⟨f2, hbx, rfl, hgf⟩ := hq
    have hs := g'.slt t
    rw [hfr] at hs
    obtain ⟨A, m, cp, hr, h1, h2, h3, hu⟩ := hs
    obtain ⟨h0, xs, hown, hone, hd⟩ := g'.bxs id _ hbx
    have hmn : m = n' := by
     rcases hown.2 with ⟨e1, e2⟩ | ⟨b, cap, cur, e1, _⟩
     ·rw [hr] at e1; simp only [Value.slice.injEq] at e1; omega
     ·rw [hr] at e1; simp only [Value.slice.injEq] at e1; omega
    subst hmn
    have hv : a'.tmps.getD t undef = ρ' id := by rw [hu, hr]
    have hres : (fn.results.toList.mapM (rvSem a'.tmps)).run S.P w' = .ok [ρ' id] w' := by
     rw [hrs, ← hv]; rfl
    refine ⟨g'.dfr, ρ' id, run_results hres, ρ' id, xs, rfl, ⟨g'.frm.os, g'.frm.tape, g'.frm.output, g'.frm.size, fun k hk => g'.frm.block k hk (fun _ _ h => by cases h)⟩, h0, ⟨hown.1, ?_⟩, hone, fun i hi j hj => ?_⟩
    ·rcases hown.2 with h | ⟨b, cap, cur, e1, e2, e3⟩
     ·exact .inl h
     ·refine .inr ⟨b, cap, cur, e1, ?_, e3⟩
      rcases (g'.new id _ b hbx (by rw [e1]; rfl)).2 with h | ⟨_, _, _, h, _⟩
      ·exact h
      ·cases h
    ·obtain ⟨u, e1, e2⟩ := hgf i hi j hj
     have := hd i hi j hj
     rw [e1] at this
     rw [e2]
     exact this
   ·exact hq.elim
  ·exact hq.elim
 refine wp_mono (cw_sound hm c hN h g0) fun e a' w' hq => ?_
 cases e with
 | normal => exact fin hq
 | ret => exact fin hq
 | exit id => obtain ⟨_, _, _, h⟩ := hq; exact h.elim
 | _ => exact hq.elim
theorem call_ownE {S : Env} {st : St} {f : FuncId} {args : List BV} {K : SV → St → Prop} {e sz n : Nat} {g : Nat → Nat → PV} (h : PureOwn S f args e sz n g) (hk : K (.b (.c (.own st.nx n))) (st.newBox (.arr e sz n g)))
  (hr : S.rcv (f + 2000000) = true := by rfl) (hl : argsLt args := by simp (maxSteps := 1000000) (disch := omega) only [go_sem]) (ha : args.map (lendAB st.bx) = args := by simp (maxSteps := 1000000) (disch := omega) only [go_sem]) : CallS S st f args (Sl.of K) := .own args e sz n g h (by rw [ha]; exact argsLe_refl _) (argsLt_mem hl) hr hk
def outPtr (bx : Nat → Option Bx) (id off : Nat) : Option (Nat × (Nat → PV)) :=
 match bx id with
 | some (.fix cs) => if off ≤ cs.length then some (cs.length - off, fun j => (lendC bx (cs.getD (off + j) .any)).toP) else none
 | _ => none
def outCap (bx : Nat → Option Bx) (p : Nat × Nat) : Nat × (Nat → PV) := (outPtr bx p.1 p.2).getD (0, fun _ => .any)
def outC (bx : Nat → Option Bx) : CV → CV
 | .ptr id off => match outPtr bx id off with
  | some (n, g) => .ipt n g 0
  | none => .ptr id off
 | .clo f ps => if ps.all (fun p => (outPtr bx p.1 p.2).isSome) = true then .p (.fn f ps.length (fun i => (outCap bx (ps.getD i (0, 0))).1) (fun i => (outCap bx (ps.getD i (0, 0))).2)) else .clo f ps
 | x => lendC bx x
def outB (bx : Nat → Option Bx) : BV → BV
 | .c x => .c (outC bx x)
 | .agg cs => .agg (cs.map (outC bx))
def retO (S : Env) (rs : List ResultVar) (R : SV → Prop) (st : St) : Prop :=
 match resIAll S st rs with
 | some (p, xs) => p ∧ (∀ x ∈ xs.map (outB st.bx), BV.lt 0 x) ∧ R (resX (xs.map (outB st.bx)))
 | none => False
def retOQ (S : Env) (rs : List ResultVar) (R : SV → Prop) : AExit → St → Prop
 | .ret, st => retO S rs R st
 | .normal, st => retO S rs R st
 | _, _ => False
theorem retOQ_ret {S : Env} {rs : List ResultVar} {R : SV → Prop} {st : St} : retOQ S rs R .ret st = retO S rs R st := rfl
theorem retOQ_normal {S : Env} {rs : List ResultVar} {R : SV → Prop} {st : St} : retOQ S rs R .normal st = retO S rs R st := rfl
section
variable {S : Env} {E : Ent} {st : St} {ρ : Rho} {a : Act} {w : World}
theorem toP_denO {x : CV} {u : Value} {ok : Nat → Prop} (h : DenC ρ ok w x u) : DenP ok w x.toP u := by
 cases x with
 | p x => exact h
 | _ => trivial
theorem outPtr_den {id off n : Nat} {g : Nat → PV} {u : Value} {ok : Nat → Prop} (G : Gam S E st ρ a w) (hrx : E.rx = none) (hok : ∀ b, okA E st.bx ρ w b → ok b) (hnew : ∀ b, b < w.heap.size → E.w0.heap.size ≤ b → ok b)
  (ho : outPtr st.bx id off = some (n, g)) (h : ∃ b o, ρ id = .pointer (some ⟨b, o, none⟩) ∧ u = .pointer (some ⟨b, o + off, none⟩)) :
  ∃ b o, u = .pointer (some ⟨b, o, none⟩) ∧ ok b ∧ ∀ j, j < n → ∃ x, w.cell? ⟨b, o + j, none⟩ = some x ∧ x.oneCell' = true ∧ DenP ok w (g j) x := by
 unfold outPtr at ho
 split at ho
 ·rename_i cs hb
  split at ho
  ·rename_i hoff
   simp only [Option.some.injEq, Prod.mk.injEq] at ho
   obtain ⟨rfl, rfl⟩ := ho
   obtain ⟨b, o, hr, hu⟩ := h
   obtain ⟨b2, o2, cells, t, hv, hh, hs, h1, hd⟩ := G.bxs id _ hb
   rw [hr] at hv
   simp only [Value.pointer.injEq, Option.some.injEq, Addr.mk.injEq, and_true] at hv
   obtain ⟨rfl, rfl⟩ := hv
   have hge : E.w0.heap.size ≤ b := by
    rcases (G.new id _ b hb (by rw [hr]; rfl)).2 with h | ⟨o3, cs3, _, _, e⟩
    ·exact h
    ·rw [hrx] at e; cases e
   refine ⟨b, o + off, hu, hnew b (lt_of_some hh) hge, fun j hj => ⟨cells.getD (o + off + j) undef, cell_of_heap hh (by omega), ?_, ?_⟩⟩
   ·rw [Nat.add_assoc]; exact h1 _ (by omega)
   ·have := hd (off + j)
    rw [← Nat.add_assoc] at this
    exact toP_denO (lendC_out G hok hnew this)
  ·cases ho
 ·cases ho
theorem outC_den {x : CV} {u : Value} {ok : Nat → Prop} (G : Gam S E st ρ a w) (hrx : E.rx = none) (hok : ∀ b, okA E st.bx ρ w b → ok b) (hnew : ∀ b, b < w.heap.size → E.w0.heap.size ≤ b → ok b)
  (h : DenC ρ (okA E st.bx ρ w) w x u) : DenC ρ ok w (outC st.bx x) u := by
 unfold outC
 split
 ·split
  ·rename_i id off n g ho
   obtain ⟨b, o, h1, h2, h3⟩ := outPtr_den G hrx hok hnew ho h
   exact ⟨b, o, h1, h2, h3⟩
  ·exact h
 ·rename_i f ps
  split
  ·rename_i hall
   obtain ⟨vs, hu, hs, hc⟩ := h
   refine ⟨vs, hu, hs, fun i hi => ?_⟩
   have hm : ps.getD i (0, 0) ∈ ps := by rw [List.getD_eq_getElem?_getD, List.getElem?_eq_getElem hi]; exact List.getElem_mem hi
   have hq := List.all_eq_true.1 hall _ hm
   obtain ⟨q, hq⟩ := Option.isSome_iff_exists.1 hq
   have := outPtr_den (n := q.1) (g := q.2) G hrx hok hnew hq (hc i hi)
   have e : outCap st.bx (ps.getD i (0, 0)) = q := by unfold outCap; rw [hq]; rfl
   dsimp only
   rw [e]
   exact this
  ·exact h
 ·exact lendC_out G hok hnew h
theorem outB_den {x : BV} {u : Value} {ok : Nat → Prop} (G : Gam S E st ρ a w) (hrx : E.rx = none) (hok : ∀ b, okA E st.bx ρ w b → ok b) (hnew : ∀ b, b < w.heap.size → E.w0.heap.size ≤ b → ok b)
  (h : DenB ρ (okA E st.bx ρ w) w x u) : DenB ρ ok w (outB st.bx x) u := by
 cases x with
 | c x => exact outC_den G hrx hok hnew h
 | agg cs =>
  obtain ⟨us, rfl, hs, h1, hd⟩ := h
  refine ⟨us, rfl, by simp [hs], h1, fun j => ?_⟩
  by_cases hj : j < cs.length
  ·have e : (cs.map (outC st.bx)).getD j .any = outC st.bx (cs.getD j .any) := by simp [List.getD_eq_getElem?_getD, hj]
   rw [e]
   exact outC_den G hrx hok hnew (hd j)
  ·rw [List.getD_eq_getElem?_getD, List.getElem?_eq_none (by simp; omega)]; trivial
theorem pure_ofO {f : FuncId} {fn : Func} {c : Code} {rs : List ResultVar} {args : List BV} {R : SV → Prop} (hf : S.P.funcs[f]? = some fn) (hb : fn.body = some c) (hrs : fn.results.toList = rs) (hname : (fn.name == "runtime.NumGoroutine") = false)
  (hm : S.P.follows .mixedOrders = true) (hN : codeOk fn.ntmps c = true) (hlen : args.length ≤ fn.ntmps) (hl : ∀ x ∈ args, BV.lt 0 x) (h : cw S c (retOQ S rs R) (st0 args)) : Pure S f args R := by
 subst hrs
 refine ⟨⟨fn, hf, hname, by rw [hb]; rfl⟩, fun ok w vs hok hgl hsz hden => ?_⟩
 refine calls_of_wp hf hb ?_
 let E : Ent := { w0 := w, ok0 := ok, rx := none, N := fn.ntmps }
 have hokA : ∀ b, ok b → okA E (fun _ => none) noRho w b := fun b hb => ⟨hok b hb, fun _ => hb, fun _ h => absurd rfl h⟩
 have hk : Keep ok (okA E (fun _ => none) noRho w) w w := fun b hb => ⟨hokA b hb, fun _ => rfl⟩
 have g : Gam S E (st0 args) noRho { tmps := vs ++ Array.replicate (fn.ntmps - vs.size) undef, defers := [] } w := by
  refine ⟨rfl, by simp [E]; omega, ⟨rfl, rfl, rfl, Nat.le_refl _, fun _ _ _ => rfl, fun _ _ _ h => (by cases h)⟩, fun s => ?_, fun _ _ h => (by cases h), fun _ _ h => (by cases h), fun _ _ _ h => (by cases h), fun _ _ _ h => absurd rfl h,
   fun _ _ _ h => (by cases h), fun s => ?_, fun gg n f hg => ?_, fun s => ⟨trivial, trivial⟩⟩
  ·simp only [st0, frArgs_spec]
   split
   ·rename_i hs
    refine hl _ ?_
    rw [List.getD_eq_getElem?_getD, List.getElem?_eq_getElem (by omega)]; exact List.getElem_mem _
   ·trivial
  ·simp only [st0, frArgs_spec]
   split
   ·rename_i hs
    have e : (vs ++ Array.replicate (fn.ntmps - vs.size) undef).getD s undef = vs.getD s undef := by
     have : s < vs.size := by omega
     simp [this]
     rw [Array.getElem?_append_left this]
     simp [this]
    rw [e]
    exact DenB.mono (nx := 0) hk (fun _ _ => rfl) (hl _ (by rw [List.getD_eq_getElem?_getD, List.getElem?_eq_getElem (by omega)]; exact List.getElem_mem _)) (hden (s - 0))
   ·trivial
  ·obtain ⟨h1, h2⟩ := hgl gg n f hg
   refine ⟨hokA gg h1, fun j hj => ?_⟩
   obtain ⟨x, hx, h3, hd⟩ := h2 j hj
   exact ⟨x, hx, h3, DenP.mono hk hd⟩
 have fin : ∀ {a' : Act} {w' : World}, Nxt S E (retO S fn.results.toList R) a' w' → a'.defers = [] ∧ ∃ v, (results fn a'.tmps).run S.P w' = .ok v w' ∧
   ∃ v2 r, Ending.returned v = .returned v2 ∧ R r ∧ SV.lt 0 r ∧ RowKit.Below w.heap.size w w' ∧ DenS noRho (okR ok w w') w' r v2 := fun {a' w'} ⟨st', ρ', g', hq⟩ => by
  unfold retO at hq
  split at hq
  ·rename_i p xs hr
   obtain ⟨hp, hl2, hR⟩ := hq
   obtain ⟨vs2, hvs, hlv, hd⟩ := resIAll_den g' hr hp
   have hd2 : ∀ j, DenB noRho (okR ok w w') w' ((xs.map (outB st'.bx)).getD j .any) (vs2.getD j undef) := fun j => by
    by_cases hj : j < xs.length
    ·have e : (xs.map (outB st'.bx)).getD j .any = outB st'.bx (xs.getD j .any) := by simp [List.getD_eq_getElem?_getD, hj]
     have hm : (xs.map (outB st'.bx)).getD j .any ∈ xs.map (outB st'.bx) := by rw [List.getD_eq_getElem?_getD, List.getElem?_eq_getElem (by simpa using hj)]; exact List.getElem_mem _
     refine den_noRho (ρ := ρ') (hl2 _ hm) ?_
     rw [e]
     exact outB_den g' rfl (fun b hb => ⟨hb.1, hb.2.1⟩) (fun b h1 h2 => ⟨h1, fun h3 => by have : w.heap.size ≤ b := h2; omega⟩) (hd j)
    ·rw [List.getD_eq_getElem?_getD, List.getElem?_eq_none (by simpa using hj)]; trivial
   obtain ⟨v, hv1, hv2⟩ := resX_den hvs (by simpa using hlv) hd2
   refine ⟨g'.dfr, v, hv1, v, _, rfl, hR, ?_, ⟨g'.frm.os, g'.frm.tape, g'.frm.output, g'.frm.size, fun k hk => g'.frm.block k hk (fun _ _ h => by cases h)⟩, hv2⟩
   generalize xs.map (outB st'.bx) = l at hl2
   match l, hl2 with
   | [], _ => exact fun x hx => by simp at hx
   | [x], hl2 => exact hl2 x (List.mem_cons_self ..)
   | x :: y :: l, hl2 => exact hl2
  ·exact hq.elim
 refine wp_mono (cw_sound hm c hN h g) fun e a' w' hq => ?_
 cases e with
 | normal => exact fin hq
 | ret => exact fin hq
 | exit id => obtain ⟨_, _, _, h⟩ := hq; exact h.elim
 | _ => exact hq.elim
end
attribute [go_sem ↓] o_makeFunc o_clo
attribute [go_sem] cloS_eq cloS_fn cloS_val roMake ptrs_nil ptrs_cons lt_clo List.all_cons List.all_nil bx_ins bx_del fr_stI bx_stI nx_stI fr_turn bx_turn nx_turn inlQ_ret inlQ_normal inlP resIAll resI resX kf_set kf_newBox kf_setBox kf_delBox kf_stI kf_turn retOQ_ret retOQ_normal retO ownQ_ret ownQ_normal ownP outB outC outPtr outCap
end Go.SL
namespace Go.SL
open Go
def isAllocS (o : Oper) : Bool := o.guard.isNone && match o.op with
 | .alloc _ => true
 | .box _ _ => true
 | .makeSlice _ _ _ => true
 | _ => false
def isStore (o : Oper) : Bool := o.guard.isNone && o.dst.isNone && match o.op with
 | .store _ _ _ => true
 | _ => false
def indepSA (ops : Array Oper) (x y : Oper) : Bool := (match y.dst with | some d => !(namesOf ops x).contains d | none => true) && isStore x && isAllocS y
section
variable {S : Env} {ops : Array Oper} {st s1 s2 s' : St}
theorem alloc_ex {o : Oper} (ha : isAllocS o = true) (h : Ex S ops st o s') : ∃ z r, s' = (st.newBox z).set o.dst r ∧ ∀ st2 : St, st2.fr = st.fr → st2.nx = st.nx → Ex S ops st2 o ((st2.newBox z).set o.dst r) := by
 simp only [isAllocS, Bool.and_eq_true, Option.isNone_iff_eq_none] at ha
 obtain ⟨hg, ha⟩ := ha
 have hev : ∀ st2 : St, st2.fr = st.fr → st2.ev S = st.ev S := fun st2 hf => by
  funext x
  cases x <;> simp [St.ev, hf]
 unfold Ex opG at h
 rw [hg] at h
 simp only [opP] at h
 split at ha
 ·rename_i t ho
  rw [ho] at h
  simp only [show ro S st.bx (st.ev S) (.alloc t) = none from rfl, opM] at h
  split at h
  ·rename_i z hz
   refine ⟨_, _, h.2.symm, fun st2 hf hn => ?_⟩
   unfold Ex opG
   rw [hg]
   simp only [opP, ho, show ro S st2.bx (st2.ev S) (.alloc t) = none from rfl, opM, hev st2 hf, hn, hz]
   exact ⟨h.1, trivial⟩
  ·exact h.2.elim
 ·rename_i t x ho
  rw [ho] at h
  simp only [show ro S st.bx (st.ev S) (.box t x) = none from rfl, opM] at h
  split at h
  ·rename_i v hz
   refine ⟨_, _, h.2.2.symm, fun st2 hf hn => ?_⟩
   unfold Ex opG
   rw [hg]
   simp only [opP, ho, show ro S st2.bx (st2.ev S) (.box t x) = none from rfl, opM, hev st2 hf, hn, hz]
   exact ⟨h.1, h.2.1, trivial⟩
  ·exact h.2.elim
 ·rename_i t l c ho
  rw [ho] at h
  simp only [show ro S st.bx (st.ev S) (.makeSlice t l c) = none from rfl, opM] at h
  split at h
  ·rename_i q1 q2 q3
   split at h
   ·rename_i q4 q5
    refine ⟨_, _, h.2.2.symm, fun st2 hf hn => ?_⟩
    unfold Ex opG
    rw [hg]
    simp only [opP, ho, show ro S st2.bx (st2.ev S) (.makeSlice t l c) = none from rfl, opM, hev st2 hf, hn, q1, q2, q3, q4, q5]
    exact ⟨h.1, h.2.1, trivial⟩
   ·exact h.2.elim
  ·exact h.2.elim
 ·cases ha
theorem store_ex {o : Oper} (ha : isStore o = true) (h : Ex S ops st o s') : ∃ id b b', st.bx id = some b ∧ s' = st.setBox id b' ∧ ∀ st2 : St, (∀ t ∈ namesOf ops o, st.fr t = st2.fr t) → st2.bx id = some b → Ex S ops st2 o (st2.setBox id b') := by
 simp only [isStore, Bool.and_eq_true, Option.isNone_iff_eq_none] at ha
 obtain ⟨⟨hg, hd⟩, ha⟩ := ha
 split at ha
 ·rename_i t p v ho
  have hev : ∀ st2 : St, (∀ t ∈ namesOf ops o, st.fr t = st2.fr t) → st2.ev S p = st.ev S p ∧ st2.ev S v = st.ev S v := fun st2 hf => by
   have := ev_congr (S := S) hf
   rw [ho] at this
   exact ⟨(this p (by simp [Op.operands])).symm, (this v (by simp [Op.operands])).symm⟩
  unfold Ex opG at h
  rw [hg] at h
  simp only [opP, hd, ho, show ro S st.bx (st.ev S) (.store t p v) = none from rfl] at h
  obtain ⟨hcond, h⟩ := h
  simp only [opM] at h
  split at h
  ·rename_i id off w sz ag q1 q2 q3
   split at h
   ·rename_i cs hb
    refine ⟨id, _, _, hb, h.2.symm, fun st2 hf hb2 => ?_⟩
    obtain ⟨e1, e2⟩ := hev st2 hf
    unfold Ex opG
    rw [hg]
    simp only [opP, hd, ho, show ro S st2.bx (st2.ev S) (.store t p v) = none from rfl]
    refine ⟨?_, ?_⟩
    ·simpa only [Op.operands, List.map_cons, List.map_nil, e1, e2] using hcond
    ·simp only [opM, e1, e2, q1, q2, q3, hb2]
     exact ⟨h.1, rfl⟩
   ·exact h.elim
  ·rename_i id s i off w sz ag q1 q2 q3
   split at h
   ·rename_i e s' n f hb
    refine ⟨id, _, _, hb, h.2.symm, fun st2 hf hb2 => ?_⟩
    obtain ⟨e1, e2⟩ := hev st2 hf
    unfold Ex opG
    rw [hg]
    simp only [opP, hd, ho, show ro S st2.bx (st2.ev S) (.store t p v) = none from rfl]
    refine ⟨?_, ?_⟩
    ·simpa only [Op.operands, List.map_cons, List.map_nil, e1, e2] using hcond
    ·simp only [opM, e1, e2, q1, q2, q3, hb2]
     exact ⟨h.1, rfl⟩
   ·exact h.elim
  ·exact h.elim
 ·cases ha
theorem swap_store_alloc {lb : Nat} {x y : Oper} (hi : indepSA ops x y = true) (w : WfN lb st) (h1 : Ex S ops st x s1) (h2 : Ex S ops s1 y s2) : ∃ s3, Ex S ops st y s3 ∧ Ex S ops s3 x s2 := by
 simp only [indepSA, Bool.and_eq_true] at hi
 obtain ⟨⟨hyx, hx⟩, hy⟩ := hi
 obtain ⟨id, b, b', hb, rfl, k1⟩ := store_ex hx h1
 obtain ⟨z, r, rfl, k2⟩ := alloc_ex hy h2
 have hid : id ≠ st.nx := fun e => by
  have := w.1 id (by omega)
  rw [this] at hb; cases hb
 refine ⟨_, k2 st rfl rfl, ?_⟩
 have := k1 ((st.newBox z).set y.dst r) (fun t ht => by
  have := fr_agree (fr := (st.newBox z).fr) (kf := st.kf) (nx' := 0) (bx' := st.bx) (bx := (st.newBox z).bx) (nx := (st.newBox z).nx) (d := y.dst) (v := r) hyx t ht
  exact this.symm) (by rw [bx_set]; simp only [St.newBox]; rw [if_neg hid]; exact hb)
 have e : (((st.newBox z).set y.dst r).setBox id b') = ((st.setBox id b').newBox z).set y.dst r := by
  rw [set_eq, set_eq]
  simp only [St.setBox, St.newBox, St.mk.injEq, true_and, and_true]
  funext j
  by_cases c1 : j = id
  ·subst c1; simp [hid]
  ·by_cases c2 : j = st.nx
   ·subst c2; simp [c1]
   ·simp [c1, c2]
 rw [e] at this
 exact this
end
def persist (rcv : Nat → Bool) (ops : Array Oper) (m : Nat → Nat) (listed : Array Bool) (p : Nat) : Bool :=
 match ops[p]? with
 | none => false
 | some x => (List.range ops.size).all fun i => listed.getD i true || Nat.beq i p || ((m i).testBit p && Nat.blt p i) || (match ops[i]? with
  | some o => indep rcv ops x o || indepLA rcv ops x o || indepSA ops x o
  | none => false)
def fwdOk (ops : Array Oper) : Bool := (List.range ops.size).all fun i => match ops[i]? with
 | none => false
 | some o => o.after.all fun e => !Region.binds .any e || Nat.blt e.on i
section
variable {S : Env} {ops : Array Oper} {st : St}
theorem get_set {listed : Array Bool} {i : Nat} (hi : i < listed.size) (k : Nat) (b : Bool) : (listed.setIfInBounds i true).getD k b = if k = i then true else listed.getD k b := by
 simp only [Array.getD_eq_getD_getElem?, Array.getElem?_setIfInBounds]
 by_cases hk : k = i
 ·subst hk; simp [hi]
 ·rw [if_neg (fun h => hk h.symm), if_neg hk]
theorem fwd_of (h : fwdOk ops = true) : ∀ i o, ops[i]? = some o → ∀ e ∈ o.after, Region.binds .any e = true → e.on < i := fun i o ho e he hb => by
 have hlt : i < ops.size := by
  rcases Nat.lt_or_ge i ops.size with h | h
  ·exact h
  ·rw [Array.getElem?_eq_none h] at ho; cases ho
 have := List.all_eq_true.1 h i (List.mem_range.2 hlt)
 rw [ho] at this
 obtain ⟨k, hk, rfl⟩ := Array.mem_iff_getElem.1 he
 have := (Array.all_eq_true.1 this) k hk
 simp only [hb, Bool.not_true, Bool.false_or, Nat.blt] at this
 have := Nat.le_of_ble_eq_true this
 omega
theorem ready_lt {listed : Array Bool} {i : Nat} (hs : listed.size = ops.size) (h : i ∈ Region.ready .any ops listed) : i < ops.size := by
 obtain ⟨o, ho, _⟩ := (ready_iff hs).1 h
 rcases Nat.lt_or_ge i ops.size with h | h
 ·exact h
 ·rw [Array.getElem?_eq_none h] at ho; cases ho
theorem ready_dep {listed : Array Bool} {i : Nat} (hs : listed.size = ops.size) (hed : ∀ i o, ops[i]? = some o → ∀ e ∈ o.after, Region.binds .any e = true → e.on < i) (h : i ∈ Region.ready .any ops listed) {o : Oper} (ho : ops[i]? = some o) :
  ∀ e ∈ o.after, Region.binds .any e = true → isIn listed e.on := fun e he hb => by
 have hlt := ready_lt hs h
 obtain ⟨o2, ho2, hl, hdep⟩ := (ready_iff hs).1 h
 rw [ho] at ho2
 cases ho2
 have := hdep e he hb
 have h2 := hed i o ho e he hb
 have hl2 : e.on < listed.size := by omega
 unfold isIn
 rw [Array.getD, dif_pos hl2] at this ⊢
 exact this
theorem closed_set {listed : Array Bool} {i : Nat} (hs : listed.size = ops.size) (hed : ∀ i o, ops[i]? = some o → ∀ e ∈ o.after, Region.binds .any e = true → e.on < i) (hcl : Closed ops listed) (h : i ∈ Region.ready .any ops listed) : Closed ops (listed.setIfInBounds i true) := fun k x hx hin e he hb => by
 have hlt := ready_lt hs h
 unfold isIn at hin ⊢
 rw [get_set (by omega)] at hin ⊢
 by_cases hek : e.on = i
 ·rw [if_pos hek]
 ·rw [if_neg hek]
  by_cases hki : k = i
  ·subst hki
   exact ready_dep hs hed h hx e he hb
  ·rw [if_neg hki] at hin
   exact hcl k x hx hin e he hb
theorem not_ready {m : Nat → Nat} {listed : Array Bool} {i p : Nat} (hm : marksOk ops m = true) (hs : listed.size = ops.size) (hed : ∀ i o, ops[i]? = some o → ∀ e ∈ o.after, Region.binds .any e = true → e.on < i) (hcl : Closed ops listed)
  (hpi : p < i) (hb : (m i).testBit p = true) (hp : listed.getD p true = false) : ¬ i ∈ Region.ready .any ops listed := fun h => by
 have hlt := ready_lt hs h
 obtain ⟨o, ho, _⟩ := (ready_iff hs).1 h
 have hdep := ready_dep hs hed h ho
 have h3 := List.all_eq_true.1 hm i (List.mem_range.2 hlt)
 rw [ho] at h3
 have h4 := List.all_eq_true.1 h3 p (List.mem_range.2 hpi)
 simp only [hb, Bool.not_true, Bool.false_or] at h4
 obtain ⟨k, hk', hh⟩ := Array.any_eq_true.1 h4
 simp only [Bool.and_eq_true, Bool.or_eq_true, Nat.beq_eq] at hh
 have hin := hdep _ (Array.getElem_mem hk') hh.1
 have hle := hed i o ho _ (Array.getElem_mem hk') hh.1
 have : isIn listed p := by
  rcases hh.2 with q | q
  ·rw [← q]; exact hin
  ·exact marks_in hm hcl hed (fun _ _ _ => trivial) (i + 1) _ (by omega) hin (by omega) p (by have := q.2; simp [Nat.blt] at this; omega) q.1
 unfold isIn at this
 rw [this] at hp
 cases hp
theorem persist_set {rcv : Nat → Bool} {m : Nat → Nat} {listed : Array Bool} {i p : Nat} (hi : i < listed.size) (h : persist rcv ops m listed p = true) : persist rcv ops m (listed.setIfInBounds i true) p = true := by
 unfold persist at h ⊢
 split at h
 ·cases h
 ·refine List.all_eq_true.2 fun k hk => ?_
  have := List.all_eq_true.1 h k hk
  simp only [Bool.or_eq_true] at this ⊢
  rw [get_set hi]
  rcases this with ((h1 | h1) | h1) | h1
  ·refine .inl (.inl (.inl ?_)); split
   ·rfl
   ·exact h1
  ·exact .inl (.inl (.inr h1))
  ·exact .inl (.inr h1)
  ·exact .inr h1
theorem ready_set {listed : Array Bool} {i k : Nat} (hs : listed.size = ops.size) (hi : i < listed.size) (hk : k ∈ Region.ready .any ops listed) (hne : k ≠ i) : k ∈ Region.ready .any ops (listed.setIfInBounds i true) := by
 obtain ⟨o, ho, hl, hdep⟩ := (ready_iff hs).1 hk
 refine (ready_iff (by simpa using hs)).2 ⟨o, ho, by rw [get_set hi, if_neg hne]; exact hl, fun e he hb => ?_⟩
 rw [get_set hi]
 split
 ·rfl
 ·exact hdep e he hb
theorem set_comm {listed : Array Bool} {i k : Nat} : (listed.setIfInBounds i true).setIfInBounds k true = (listed.setIfInBounds k true).setIfInBounds i true := by
 apply Array.ext_getElem?
 intro j
 simp only [Array.getElem?_setIfInBounds, Array.size_setIfInBounds]
 repeat' split
 all_goals first | rfl | omega | (simp_all; done)
theorem any_persist {m : Nat → Nat} {x : Oper} {p : Nat} (hm : marksOk ops m = true) (hed : ∀ i o, ops[i]? = some o → ∀ e ∈ o.after, Region.binds .any e = true → e.on < i) (hx : ops[p]? = some x) {K : St → Prop} : ∀ (fuel : Nat) (listed : Array Bool) (st : St),
  listed.size = ops.size → Closed ops listed → persist S.rcv ops m listed p = true → p ∈ Region.ready .any ops listed → WfN 0 st → (∃ s, Ex S ops st x s ∧ anyP S ops fuel (listed.setIfInBounds p true) s K) → anyP S ops (fuel + 1) listed st K := by
 intro fuel
 induction fuel with
 | zero =>
  intro listed st hs hcl hp hr hw ⟨s, h1, h2⟩
  have hplt := ready_lt hs hr
  refine ⟨fun hno => (by rw [hno] at hr; cases hr), fun i hi => ?_⟩
  by_cases e : i = p
  ·subst e; rw [hx]; exact ex_opG h1 h2
  ·have := ready_set hs (by omega) hi e
   rw [h2.1] at this; cases this
 | succ f ih =>
  intro listed st hs hcl hp hr hw ⟨s, h1, h2⟩
  have hplt := ready_lt hs hr
  obtain ⟨_, _, hpl, _⟩ := (ready_iff hs).1 hr
  refine ⟨fun hno => (by rw [hno] at hr; cases hr), fun i hi => ?_⟩
  by_cases e : i = p
  ·subst e; rw [hx]; exact ex_opG h1 h2
  obtain ⟨o, ho, hl, hdep⟩ := (ready_iff hs).1 hi
  have hlt := ready_lt hs hi
  rw [ho]
  have h3 := h2.2 i (ready_set hs (by omega) hi e)
  rw [ho] at h3
  obtain ⟨s2, h4, h5⟩ := opG_ex h3
  have hsw : ∃ s3, Ex S ops st o s3 ∧ Ex S ops s3 x s2 := by
   have hq := hp
   unfold persist at hq
   rw [hx] at hq
   have hq := List.all_eq_true.1 hq i (List.mem_range.2 hlt)
   rw [ho] at hq
   simp only [Bool.or_eq_true, Nat.beq_eq, Bool.and_eq_true] at hq
   rcases hq with ((q | q) | q) | q
   ·rw [q] at hl; cases hl
   ·exact absurd q e
   ·exact absurd hi (not_ready hm hs hed hcl (by have := q.2; simp [Nat.blt] at this; omega) q.1 hpl)
   ·rcases q with (q | q) | q
    ·exact ex_swap q h1 h4
    ·exact swap_load_alloc q hw h1 h4
    ·exact swap_store_alloc q hw h1 h4
  obtain ⟨s3, h6, h7⟩ := hsw
  refine ex_opG h6 ?_
  refine ih _ s3 (by simpa using hs) (closed_set hs hed hcl hi) (persist_set (by omega) hp) (ready_set hs (by omega) hr (fun h => e h.symm)) (ex_wf h6 hw) ⟨s2, h7, ?_⟩
  rw [set_comm]; exact h5
end
def okN2 (rcv : Nat → Bool) (ops : Array Oper) (m : Nat → Nat) (listed : Array Bool) : Tr → Bool
 | .leaf => Region.ready .any ops listed == []
 | .nil => false
 | .br i t r => Region.ready .any ops listed == altsOf (.br i t r) || (altsOf r == [] && (Region.ready .any ops listed).contains i && persist rcv ops m listed i)
def okT2 (rcv : Nat → Bool) (ops : Array Oper) (m : Nat → Nat) : Array Bool → Tr → Bool
 | _, .leaf => true
 | _, .nil => true
 | listed, .br i t r => Nat.blt i ops.size && okN2 rcv ops m (listed.setIfInBounds i true) t && okT2 rcv ops m (listed.setIfInBounds i true) t && okT2 rcv ops m listed r
section
variable {S : Env} {l : List Oper} {m : Nat → Nat}
theorem okN2_sub {t : Tr} {listed : Array Bool} (hn : okN2 S.rcv l.toArray m listed t = true) : ∀ i ∈ altsOf t, i ∈ Region.ready .any l.toArray listed := by
 cases t with
 | leaf => intro i hi; cases hi
 | nil => cases hn
 | br k t r =>
  intro i hi
  simp only [okN2, Bool.or_eq_true, Bool.and_eq_true, beq_iff_eq] at hn
  rcases hn with hn | hn
  ·rw [hn]; exact hi
  ·obtain ⟨⟨h1, h2⟩, _⟩ := hn
   rw [altsOf, h1, List.mem_singleton] at hi
   subst hi
   exact List.contains_iff_mem.1 h2
theorem tree_node2 (hm : marksOk l.toArray m = true) (hf : fwdOk l.toArray = true) {t : Tr} {listed : Array Bool} {fuel : Nat} {st : St} {K : St → Prop} (hs : listed.size = l.toArray.size) (hcl : Closed l.toArray listed) (hw : WfN 0 st)
  (hn : okN2 S.rcv l.toArray m listed t = true) (h : treeP S l.toArray l t st K) (hd : depthT t ≤ fuel)
  (hal : ∀ f, fuel = f + 1 → ∀ i ∈ altsOf t, match l.toArray[i]? with
    | some o => opG S l.toArray st o fun st' => anyP S l.toArray f (listed.setIfInBounds i true) st' K
    | none => anyP S l.toArray f (listed.setIfInBounds i true) st K) : anyP S l.toArray fuel listed st K := by
 have hsub := okN2_sub hn
 cases t with
 | leaf =>
  have hr : Region.ready .any l.toArray listed = [] := by simpa [okN2] using hn
  cases fuel with
  | zero => exact ⟨hr, h⟩
  | succ f => exact ⟨fun _ => h, fun i hi => by rw [hr] at hi; cases hi⟩
 | nil => cases hn
 | br i t r =>
  cases fuel with
  | zero => simp [depthT] at hd
  | succ f =>
   have hi : i ∈ Region.ready .any l.toArray listed := hsub i (by rw [altsOf]; exact List.mem_cons_self ..)
   simp only [okN2, Bool.or_eq_true, Bool.and_eq_true, beq_iff_eq] at hn
   rcases hn with hn | hn
   ·exact ⟨fun h0 => by (rw [h0] at hi; cases hi), fun j hj => hal f rfl j (by rw [← hn]; exact hj)⟩
   ·have := hal f rfl i (by rw [altsOf]; exact List.mem_cons_self ..)
    obtain ⟨o, ho, _⟩ := (ready_iff hs).1 hi
    rw [ho] at this
    exact any_persist hm (fwd_of hf) ho f listed st hs hcl hn.2 hi hw (opG_ex this)
theorem tree_alts2 (hm : marksOk l.toArray m = true) (hf : fwdOk l.toArray = true) {K : St → Prop} : ∀ (t : Tr) (listed : Array Bool) (fuel : Nat) (st : St), listed.size = l.toArray.size → Closed l.toArray listed → WfN 0 st → (∀ i ∈ altsOf t, i ∈ Region.ready .any l.toArray listed) →
  okT2 S.rcv l.toArray m listed t = true → treeP S l.toArray l t st K → depthT t ≤ fuel + 1 → ∀ i ∈ altsOf t, match l.toArray[i]? with
    | some o => opG S l.toArray st o fun st' => anyP S l.toArray fuel (listed.setIfInBounds i true) st' K
    | none => anyP S l.toArray fuel (listed.setIfInBounds i true) st K
 | .leaf, _, _, _, _, _, _, _, _, _, _, i, hi => by cases hi
 | .nil, _, _, _, _, _, _, _, _, _, _, i, hi => by cases hi
 | .br k t r, listed, fuel, st, hs, hcl, hw, hsub, hok, h, hd, i, hi => by
  have hkr : k ∈ Region.ready .any l.toArray listed := hsub k (by rw [altsOf]; exact List.mem_cons_self ..)
  simp only [okT2, Bool.and_eq_true] at hok
  obtain ⟨⟨⟨hk, hn⟩, ht⟩, hr⟩ := hok
  simp only [depthT] at hd
  rcases List.mem_cons.1 hi with rfl | hi
  ·have hlt : i < l.toArray.size := by simp [Nat.blt] at hk ⊢; omega
   have hget : l.toArray[i]? = some (l.getD i default) := by
    have hlt2 : i < l.length := by simpa using hlt
    rw [List.getElem?_toArray, List.getD_eq_getElem?_getD, List.getElem?_eq_getElem hlt2]; rfl
   rw [hget]
   obtain ⟨s, h1, h2⟩ := opG_ex h.1
   refine ex_opG h1 ?_
   have hs2 : (listed.setIfInBounds i true).size = l.toArray.size := by simpa using hs
   have hcl2 := closed_set hs (fwd_of hf) hcl hkr
   exact tree_node2 hm hf hs2 hcl2 (ex_wf h1 hw) hn h2 (by omega) fun f hf2 j hj => tree_alts2 hm hf t _ f s hs2 hcl2 (ex_wf h1 hw) (okN2_sub hn) ht h2 (by omega) j hj
  ·exact tree_alts2 hm hf r listed fuel st hs hcl hw (fun j hj => hsub j (by rw [altsOf]; exact List.mem_cons_of_mem _ hj)) hr h.2 (by omega) i hi
theorem anyP_tree2 {t : Tr} {st : St} {K : St → Prop} (hok : (fwdOk l.toArray && marksOk l.toArray m && okN2 S.rcv l.toArray m (Array.replicate l.toArray.size false) t && okT2 S.rcv l.toArray m (Array.replicate l.toArray.size false) t && Nat.ble (depthT t) l.toArray.size) = true) (hw : WfN 0 st) (h : treeP S l.toArray l t st K) :
  anyP S l.toArray l.toArray.size (Array.replicate l.toArray.size false) st K := by
 simp only [Bool.and_eq_true] at hok
 obtain ⟨⟨⟨⟨hf, hm⟩, h1⟩, h2⟩, h3⟩ := hok
 have h3 := Nat.le_of_ble_eq_true h3
 have hs : (Array.replicate l.toArray.size false).size = l.toArray.size := by simp
 have hcl : Closed l.toArray (Array.replicate l.toArray.size false) := fun i o ho hi => by
  exfalso
  have hlt : i < l.toArray.size := by
   rcases Nat.lt_or_ge i l.toArray.size with h | h
   ·exact h
   ·rw [Array.getElem?_eq_none h] at ho; cases ho
  unfold isIn at hi
  simp only [Array.getD_eq_getD_getElem?, Array.getElem?_replicate, if_pos hlt] at hi
  cases hi
 exact tree_node2 hm hf hs hcl hw h1 h h3 fun f hf2 i hi => tree_alts2 hm hf t _ f st hs hcl hw (okN2_sub h1) h2 h (by omega) i hi
theorem cw_stepR {id : Nat} {y : Code} {Q : AExit → St → Prop} {st : St} (t : Tr)
  (hok : (fwdOk l.toArray && marksOk l.toArray (fun i => (Region.before l.toArray).getD i 0) && okN2 S.rcv l.toArray (fun i => (Region.before l.toArray).getD i 0) (Array.replicate l.toArray.size false) t && okT2 S.rcv l.toArray (fun i => (Region.before l.toArray).getD i 0) (Array.replicate l.toArray.size false) t && Nat.ble (depthT t) l.toArray.size) = true)
  (hw : WfN 0 st) (h : ∀ K : St → Prop, (∀ s s', Le s s' → cw S y Q s' → K s) → treeP S l.toArray l t st K) : cw S (.seq (.region id l.toArray true) y) Q st := by
 refine cw_mono (S := S) (.region id l.toArray true) (Q := thenQ (fun st => Wk (cw S y Q) st ∨ cw S y Q st) Q) (fun _ _ h => h) ?_
 simp only [cw, if_pos]
 exact anyP_tree2 hok hw (h _ fun s s' hl hs => .inl ⟨s', hl, hs⟩)
end
theorem tree_br {S : Env} {ops : Array Oper} {L : List Oper} {i : Nat} {t r : Tr} {st : St} {K : St → Prop} (h : ∀ K' : St → Prop, (∀ s, treeP S ops L t s K → K' s) → opsP S ops [L.getD i default] st K') (hr : treeP S ops L r st K) : treeP S ops L (.br i t r) st K :=
 ⟨h _ (fun _ h => h), hr⟩
theorem tree_leaf {S : Env} {ops : Array Oper} {L : List Oper} {st : St} {K : St → Prop} (h : K st) : treeP S ops L .leaf st K := h
theorem tree_nil {S : Env} {ops : Array Oper} {L : List Oper} {st : St} {K : St → Prop} : treeP S ops L .nil st K := trivial
end Go.SL
namespace Go.Proofs.YtlblgkelhibdoaaGreatDoor
open Go Go.SL
open Go.RowKit (wrap64)
attribute [go_sem ↓] reduceIte
attribute [go_sem] Nat.reduceEqDiff Nat.reduceAdd Nat.reduceMul Nat.reduceSub Nat.reduceMod Nat.reduceLeDiff Nat.reduceLT Nat.reduceBEq reduceCtorEq Int.reduceLT Int.reduceLE Int.reduceToNat Int.reduceEq Int.reduceAdd
attribute [go_sem] decide_true decide_false implies_true beq_true beq_false Bool.not_eq_true' decide_eq_true_eq decide_eq_false_iff_not Bool.and_eq_true not_false_eq_true forall_const imp_self and_self beq_iff_eq bne_iff_ne true_or or_true false_or or_false Nat.le_refl ne_eq Option.some.injEq w64 w64' wu16 wu64 wtdiv tdivP tmodP
theorem auto_cl {p : Prop} (h : p := by first | assumption | omega | trivial | exact (fun h => h) | exact (fun hg => And.intro hg (fun h2 => And.intro hg h2)) | (intro hg; refine And.intro hg ?_; (try simp only [Bool.or_eq_false_iff, Bool.not_eq_false', Bool.not_eq_true', Bool.and_eq_true, decide_eq_true_eq, decide_eq_false_iff_not] at hg); omega)) : p := h
theorem call_a {S : Env} {st : St} {f : FuncId} {args : List BV} {K : SV → St → Prop} {X : SV} (h : Pure S f args (fun r => r = X)) (hk : K X st) (hl : argsLt args := by simp (maxSteps := 1000000) (disch := omega) only [go_sem]) : CallS S st f args (Sl.of K) := call_eq h hl hk
theorem hbs : (∀ (p : Prop) [Decidable p], (decide p = true) = p) ∧ (∀ (p : Prop) [Decidable p], (decide p = false) ↔ ¬p) ∧ (∀ (α : Type) [BEq α] [LawfulBEq α] (a b : α), ((a == b) = true) ↔ a = b) ∧ (∀ (α : Type) [BEq α] [LawfulBEq α] (a b : α), ((a == b) = false) ↔ a ≠ b) ∧
 (∀ (α : Type) [BEq α] [LawfulBEq α] (a b : α), ((a != b) = true) ↔ a ≠ b) ∧ (∀ (α : Type) [BEq α] [LawfulBEq α] (a b : α), ((a != b) = false) ↔ a = b) ∧ (∀ (α : Type) (a b : α), (a ≠ b) = ¬(a = b)) ∧ (∀ b : Bool, (¬(b = true)) = (b = false)) ∧ (∀ b : Bool, (¬(b = false)) = (b = true)) ∧
 ((!true) = false) ∧ ((!false) = true) ∧ (∀ a b : Bool, ((!a) = b) ↔ (a = !b)) ∧ (∀ a b : Int, (¬ a < b) ↔ b ≤ a) ∧ (∀ a b : Int, (¬ a ≤ b) ↔ b < a) ∧ (∀ a b : Int, a > b ↔ b < a) ∧ (∀ a b : Int, a ≥ b ↔ b ≤ a) ∧ (∀ (α : Type) (b : Bool) (t e : α), (bif b then t else e) = if b = true then t else e) ∧
 (∀ (p : Prop) [Decidable p] (x : Bool), (if p then x else false) = (decide p && x)) ∧ (∀ (p : Prop) [Decidable p] (x : Bool), (if p then true else x) = (decide p || x)) ∧ (∀ a b : Bool, ((a && b) = true) = (a = true ∧ b = true)) ∧ (∀ a b : Bool, ((a || b) = true) = (a = true ∨ b = true)) ∧
 (∀ a b : Bool, ((a && b) = false) ↔ (a = true → b = false)) ∧ (∀ a b : Bool, ((a || b) = false) ↔ (a = false ∧ b = false)) ∧ (∀ (p : Prop), [Decidable p] → ((¬¬p) ↔ p)) ∧ (∀ b : Bool, (b == true) = b) ∧ (∀ b : Bool, (b == false) = !b) ∧
 (∀ (p : Prop) [Decidable p] (a b : Bool), ((if p then a else b) = true) = ((p → a = true) ∧ (¬p → b = true))) ∧ (∀ (p : Prop) [Decidable p] (a b : Bool), ((if p then a else b) = false) = ((p → a = false) ∧ (¬p → b = false))) ∧ (∀ (α : Type) (a b : α), (bif true then a else b) = a) ∧ (∀ (α : Type) (a b : α), (bif false then a else b) = b) :=
 ⟨fun _ _ => decide_eq_true_eq, fun _ _ => decide_eq_false_iff_not, fun _ _ _ _ _ => beq_iff_eq, fun _ _ _ _ _ => beq_eq_false_iff_ne, fun _ _ _ _ _ => bne_iff_ne, fun _ _ _ _ _ => bne_eq_false_iff_eq, fun _ _ _ => ne_eq _ _, fun _ => Bool.not_eq_true _, fun _ => Bool.not_eq_false _,
 rfl, rfl, fun _ _ => Bool.not_eq_eq_eq_not, fun _ _ => Int.not_lt, fun _ _ => Int.not_le, fun _ _ => Iff.rfl, fun _ _ => Iff.rfl, fun _ b t e => Bool.cond_eq_ite b t e,
 fun _ _ _ => Bool.if_false_right _ _, fun _ _ _ => Bool.if_true_left _ _, fun _ _ => Bool.and_eq_true _ _, fun _ _ => Bool.or_eq_true _ _,
 fun _ _ => Bool.and_eq_false_imp, fun _ _ => Bool.or_eq_false_iff, fun _ _ => Decidable.not_not, fun b => by cases b <;> rfl, fun b => by cases b <;> rfl,
 fun _ _ _ _ => iteT, fun _ _ _ _ => iteF, fun _ _ _ => rfl, fun _ _ _ => rfl⟩
theorem tr_a : True := True.intro
theorem ev_a {α : Type} {a b : α} (h : a = b := by (first | (simp (maxSteps := 1000000) (disch := omega) only [go_sem]; rfl) | fail)) : a = b := h
theorem un_a {p q : Prop} (h : q) (w : q → p := by (first | (intro h; first | exact cw_assoc h | exact cw_skips h | exact cw_labels h | exact cw_block h | ((first | refine cw_exits ?_ | refine cw_exit ?_ | refine cw_skip ?_); first | (simp (maxSteps := 1000000) (disch := omega) only [go_sem]; exact h) | (have h0 : True := h; simp (maxSteps := 1000000) (disch := omega) only [go_sem]))) | fail)) : p := w h
theorem ret_a {p q : Prop} (h : q) (w : q → p := by (first | (intro h; (first | refine cw_rets ?_ | refine cw_ret ?_); first | (simp (maxSteps := 1000000) (disch := omega) only [go_sem]; exact h) | (have h0 : True := h; simp (maxSteps := 1000000) (disch := omega) only [go_sem])) | fail)) : p := w h
theorem st_a {p : Prop} {c : St → Prop} {q : (St → Prop) → Prop} (h : ∀ K : St → Prop, (∀ s, c s → K s) → q K)
  (w : (∀ K : St → Prop, (∀ s, c s → K s) → q K) → p := by (first | (intro h; (first | refine cw_step (fun K hK => ?_) | refine cw_last (fun K hK => ?_) | refine cw_stepD (by decide +kernel) (by decide +kernel) (fun K hK => ?_) | refine cw_lastD (by decide +kernel) (by decide +kernel) (fun K hK => ?_)); have h := h K hK; (try simp (maxSteps := 1000000) (disch := omega) only [go_sem]); exact h) | fail)) : p := w h
theorem rg_a {vc c : Prop} {r : BV} {K : SV → Prop} {g : Bool} {nx : Nat} {p q' : Prop} {q : Sl p} {s : St} (h : q') (w : q' → (r.lt nx ∧ (g = true → c ∧ vc) ∧ K (.grd g r)) := by (first | (intro h; first | (simp (maxSteps := 1000000) (disch := omega) only [go_sem]; exact h) | exact h) | fail)) : rgB (some g) nx (some (vc, .b r, s)) c (Sl.of K) q := rgB_some (w h)
theorem call_c {S : Env} {st : St} {f : FuncId} {args : List BV} {K : SV → St → Prop} {X : SV} {q : Prop} (h : Pure S f args (fun r => r = X)) (hk : q) (hl : argsLt args := by simp (maxSteps := 1000000) (disch := omega) only [go_sem]) (w : q → K X st := by (first | (intro h; first | (simp (maxSteps := 1000000) (disch := omega) only [go_sem]; exact h) | exact h) | fail)) : CallS S st f args (Sl.of K) := call_eq h hl (w hk)
theorem gcall_c {S : Env} {st : St} {f : FuncId} {args : List BV} {X : BV} {g : Bool} {c : Prop} {d : Option Nat} {K : St → Prop} {q : Prop} (h : g = true → Pure S f args (fun r => r = .b X)) (hk : q) (hl : argsLt args := by simp (maxSteps := 1000000) (disch := omega) only [go_sem]) (hx : X.lt st.nx := by simp (maxSteps := 1000000) (disch := omega) only [go_sem]) (hc : g = true → c := by simp (maxSteps := 1000000) (disch := omega) only [go_sem]; try omega)
  (w : q → K (st.set d (.grd g X)) := by (first | (intro h; first | (simp (maxSteps := 1000000) (disch := omega) only [go_sem]; exact h) | exact h) | fail)) : rgm (some g) c S st f args d (Sl.of K) := gcall_eq h hl hx hc (w hk)
theorem call_o {S : Env} {st : St} {f : FuncId} {args : List BV} {K : SV → St → Prop} {e sz n : Nat} {g : Nat → Nat → PV} {q : Prop} (h : PureOwn S f args e sz n g) (hk : q)
  (hr : S.rcv (f + 2000000) = true := by rfl) (hl : argsLt args := by simp (maxSteps := 1000000) (disch := omega) only [go_sem]) (ha : args.map (lendAB st.bx) = args := by simp (maxSteps := 1000000) (disch := omega) only [go_sem]) (w : q → K (.b (.c (.own st.nx n))) (st.newBox (.arr e sz n g)) := by (first | (intro h; first | (simp (maxSteps := 1000000) (disch := omega) only [go_sem]; exact h) | exact h) | fail)) : CallS S st f args (Sl.of K) := call_ownE h (w hk) hr hl ha
theorem if_a {t1 t2 q1 q2 p : Prop} (h1 : t1 → q1) (h2 : t2 → q2) (w : (t1 → q1) → (t2 → q2) → p := by (first | (intro k1 k2; (first | apply cw_if | apply cw_cond); (case hc => simp (maxSteps := 1000000) (disch := omega) only [go_sem]; rfl); (case h1 => first | (intro hb; simp only [hbs] at hb; exact k1 hb) | (have k0 : True → True := k1; intro hb; simp only [hbs] at hb; done) | (intro hb; exact k1 hb)); (case h2 => first | (intro hb; simp only [hbs] at hb; exact k2 hb) | (have k0 : True → True := k2; intro hb; simp only [hbs] at hb; done) | (intro hb; exact k2 hb))) | fail)) : p := w h1 h2
theorem bad_a {p : Prop} (h : p := by (first | (first | with_reducible exact True.intro | (exfalso; omega)) | fail)) : p := h
theorem call_x {S : Env} {st : St} {f : FuncId} {args : List BV} {K : SV → St → Prop} {X : SV} {q : Prop} (h : PureX S f args X) (hk : q) (hl : argsLt args := by simp (maxSteps := 1000000) (disch := omega) only [go_sem]) (w : q → K X st := by (first | (intro h; first | (simp (maxSteps := 1000000) (disch := omega) only [go_sem]; exact h) | exact h) | fail)) : CallS S st f args (Sl.of K) := call_ext h hl (w hk)
theorem dcs : (∀ n : Nat, ((n : Int)).toNat = n) ∧ ((!true) = false) ∧ ((!false) = true) ∧ (∀ b : Bool, (b && true) = b) ∧ (∀ b : Bool, (true && b) = b) ∧ (∀ b : Bool, (b && false) = false) ∧ (∀ b : Bool, (false && b) = false) ∧
  (∀ b : Bool, (b || true) = true) ∧ (∀ b : Bool, (true || b) = true) ∧ (∀ b : Bool, (b || false) = b) ∧ (∀ b : Bool, (false || b) = b) :=
 ⟨Int.toNat_natCast, rfl, rfl, Bool.and_true, Bool.true_and, Bool.and_false, Bool.false_and, Bool.or_true, Bool.true_or, Bool.or_false, Bool.false_or⟩
theorem dec_a {E p q : Prop} (e : E) (h : q) (w : E → q → p := by (first | (intro e h; first
  | ((first | apply cw_ifT | apply cw_condT); (case hc => simp (maxSteps := 1000000) (disch := omega) only [go_sem]; rfl); (case ht => (simp only [dcs, decide_true, decide_false, Int.reduceBEq, Int.reduceBNe, Int.reduceLT, Int.reduceLE, e]; done)); exact h)
  | ((first | apply cw_ifF | apply cw_condF); (case hc => simp (maxSteps := 1000000) (disch := omega) only [go_sem]; rfl); (case ht => (simp only [dcs, decide_true, decide_false, Int.reduceBEq, Int.reduceBNe, Int.reduceLT, Int.reduceLE, e]; done)); exact h)) | fail)) : p := w e h
theorem fn_a {f : FuncId} {fn : Func} {c : Code} {args : List BV} {R : SV → Prop} (hf : Sg.P.funcs[f]? = some fn) (rs : List ResultVar) (h : cw Sg c (retQ Sg rs R) (st0 args)) (hb : fn.body = some c := by rfl) (hrs : fn.results.toList = rs := by rfl)
  (hname : (fn.name == "runtime.NumGoroutine") = false := by rfl) (hN : codeOk fn.ntmps c = true := by decide +kernel) (hlen : args.length ≤ fn.ntmps := by exact Nat.le_of_ble_eq_true rfl) (hl : argsLt args := by simp (maxSteps := 1000000) (disch := omega) only [go_sem]) : Pure Sg f args R := pure_of hf hb hrs hname mixed hN hlen (argsLt_mem hl) h
theorem wf_a {n : Nat} {st : St} (h : WfN n st := by (first | (refine And.intro (fun iw hiw => by ((try simp (maxSteps := 1000000) (disch := omega) only [go_sem] at hiw ⊢); (repeat (first | rfl | exact if_neg (by omega) | rw [if_neg (by omega)])); done)) (by first | exact Nat.zero_le _ | (simp (maxSteps := 1000000) (disch := omega) only [go_sem]; done) | (simp (maxSteps := 1000000) (disch := omega) only [go_sem]; omega) | decide)) | fail)) : WfN n st := h
theorem le_a {st : St} {l : List (Nat × SV)} {b : List (Nat × Bx)} {nx : Nat} (r : List (Nat × Option Nat)) {q1 q2 : Prop} (h1 : q1) (h2 : q2) (h0 : rOf r 0 = some 0 := by rfl) (hnx : 0 < nx := by decide) (hinj : injR (rOf r) (b.map (·.1)) = true := by rfl)
  (w1 : q1 → leFr (rOf r) st (bxOf b) nx l := by (first | (intro h; first | (simp (maxSteps := 1000000) (disch := omega) only [go_sem]; exact h) | (have h0 : True := h; simp (maxSteps := 1000000) (disch := omega) only [go_sem])) | fail)) (w2 : q2 → leBs (rOf r) st (bxOf b) nx b := by (first | (intro h; first | (simp (maxSteps := 1000000) (disch := omega) only [go_sem]; exact h) | (have h0 : True := h; simp (maxSteps := 1000000) (disch := omega) only [go_sem])) | fail)) : Le st (mkSt l b nx) := le_of r h0 hnx hinj (w1 h1) (w2 h2)
theorem le_cl {p : Prop} (h : p := by first | rfl | omega | exact .inl rfl | trivial) : p := h
abbrev PI (x : Int) : PV := .val (.int .i64 x)
abbrev PU (x : Int) : PV := .val (.int .u16 x)
abbrev PB (x : Bool) : PV := .val (.bool x)
abbrev I (x : Int) : BV := .c (.p (.val (.int .i64 x)))
abbrev U (x : Int) : BV := .c (.p (.val (.int .u16 x)))
abbrev B (x : Bool) : BV := .c (.p (.val (.bool x)))
abbrev Nil : PV := .val (.slice none 0 0)
abbrev ag (l : List PV) : BV := .agg (l.map CV.p)
structure Rect where
 x0 : Int
 y0 : Int
 x1 : Int
 y1 : Int
 deriving DecidableEq, Inhabited
structure Op where
 kind : Int
 image : Int
 x : Int
 y : Int
 mask : Int
 maskX : Int
 maskY : Int
 opacity : Int
 operator : Int
 mode : Int
 isolated : Bool
 knockout : Bool
 deriving DecidableEq, Inhabited
structure Pixel where
 c0 : Int
 c1 : Int
 c2 : Int
 a : Int
 f : Int
 deriving DecidableEq, Inhabited
structure Plane where
 w : Int
 h : Int
 stride : Int
 s : List Int
 deriving DecidableEq, Inhabited
structure Image where
 w : Int
 h : Int
 solid : Bool
 color : Pixel
 p0 : Plane
 p1 : Plane
 p2 : Plane
 p3 : Plane
 p4 : Plane
 deriving DecidableEq, Inhabited
structure Script where
 bits : Int
 canvas : Rect
 tileW : Int
 tileH : Int
 order : List Int
 images : List Image
 ops : List Op
 deriving DecidableEq, Inhabited
structure Raw where
 kind : Int
 image : Int
 x : Int
 y : Int
 mask : Int
 maskX : Int
 maskY : Int
 opacity : Int
 operator : Int
 mode : Int
 flags : Int
 deriving DecidableEq, Inhabited
structure N5 where
 a : Int
 b : Int
 c : Int
 d : Int
 e : Int
 deriving DecidableEq, Inhabited
structure Row where
 mood : Int
 l : List N5
 deriving DecidableEq, Inhabited
structure Pic where
 w : Int
 h : Int
 solid : Int
 row : Row
 deriving DecidableEq, Inhabited
structure Scene where
 bits : Int
 x : Int
 y : Int
 w : Int
 h : Int
 tileW : Int
 tileH : Int
 order : List Int
 pics : List Pic
 ops : List Raw
 deriving DecidableEq, Inhabited
def intE (n : Int) : List PV := [PI n]
def u16E (n : Int) : List PV := [PU n]
def rectE (r : Rect) : List PV := [PI r.x0, PI r.y0, PI r.x1, PI r.y1]
def opE (o : Op) : List PV := [PI o.kind, PI o.image, PI o.x, PI o.y, PI o.mask, PI o.maskX, PI o.maskY, PU o.opacity, PI o.operator, PI o.mode, PB o.isolated, PB o.knockout]
def pixE (p : Pixel) : List PV := [PU p.c0, PU p.c1, PU p.c2, PU p.a, PU p.f]
def ints (l : List Int) : PV := .lst 1 l.length (fnOf intE l)
def u16s (l : List Int) : PV := .lst 1 l.length (fnOf u16E l)
def planeE (p : Plane) : List PV := [PI p.w, PI p.h, PI p.stride, u16s p.s]
def imageE (m : Image) : List PV := [PI m.w, PI m.h, PB m.solid, PU m.color.c0, PU m.color.c1, PU m.color.c2, PU m.color.a, PU m.color.f,
 PI m.p0.w, PI m.p0.h, PI m.p0.stride, u16s m.p0.s, PI m.p1.w, PI m.p1.h, PI m.p1.stride, u16s m.p1.s, PI m.p2.w, PI m.p2.h, PI m.p2.stride, u16s m.p2.s,
 PI m.p3.w, PI m.p3.h, PI m.p3.stride, u16s m.p3.s, PI m.p4.w, PI m.p4.h, PI m.p4.stride, u16s m.p4.s]
def opL (l : List Op) : PV := .lst 12 l.length (fnOf opE l)
def imgL (l : List Image) : PV := .lst 28 l.length (fnOf imageE l)
def pixL (l : List Pixel) : PV := .lst 5 l.length (fnOf pixE l)
def scriptE (s : Script) : List PV := [PI s.bits, PI s.canvas.x0, PI s.canvas.y0, PI s.canvas.x1, PI s.canvas.y1, PI s.tileW, PI s.tileH, ints s.order, imgL s.images, opL s.ops]
def rawE (r : Raw) : List PV := [PI r.kind, PI r.image, PI r.x, PI r.y, PI r.mask, PI r.maskX, PI r.maskY, PI r.opacity, PI r.operator, PI r.mode, PI r.flags]
def n5E (n : N5) : List PV := [PI n.a, PI n.b, PI n.c, PI n.d, PI n.e]
def n5L (l : List N5) : PV := .lst 5 l.length (fnOf n5E l)
def rowE (r : Row) : List PV := [PI r.mood, n5L r.l]
def picE (p : Pic) : List PV := [PI p.w, PI p.h, PI p.solid, PI p.row.mood, n5L p.row.l]
def picL (l : List Pic) : PV := .lst 5 l.length (fnOf picE l)
def rawL (l : List Raw) : PV := .lst 11 l.length (fnOf rawE l)
def sceneE (s : Scene) : List PV := [PI s.bits, PI s.x, PI s.y, PI s.w, PI s.h, PI s.tileW, PI s.tileH, ints s.order, picL s.pics, rawL s.ops]
attribute [go_sem] intE u16E rectE opE pixE ints u16s planeE imageE opL imgL pixL scriptE rawE n5E n5L rowE picE picL rawL sceneE
def i64 (n : Int) : Prop := -9223372036854775808 ≤ n ∧ n ≤ 9223372036854775807
def u16 (n : Int) : Prop := 0 ≤ n ∧ n ≤ 65535
end Go.Proofs.YtlblgkelhibdoaaGreatDoor
