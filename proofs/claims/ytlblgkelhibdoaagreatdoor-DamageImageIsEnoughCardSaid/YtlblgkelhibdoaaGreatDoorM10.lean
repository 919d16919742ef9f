/- Part of the proof: SlFacts, D1, D2. -/
import Derived.Test.YtlblgkelhibdoaaGreatDoorProg
import Derived.KernelRfl
import Derived.Test.YtlblgkelhibdoaaGreatDoorM9
set_option maxRecDepth 100000
namespace Go.Proofs.YtlblgkelhibdoaaGreatDoor
open Go Go.SL
theorem ti2 : Sg.ti 2 = some (1, false) := by kernel_rfl
theorem un2 : Sg.P.underlying 2 = some (.int .i64) := by kernel_rfl
theorem ze2 : Sg.zero 2 = some [.int .i64 0] := by kernel_rfl
theorem by2 : Sg.byt 2 = some 8 := by kernel_rfl
-- 3 int
theorem ti5 : Sg.ti 5 = some (1, false) := by kernel_rfl
theorem un5 : Sg.P.underlying 5 = some (.int .u8) := by kernel_rfl
theorem ze5 : Sg.zero 5 = some [.int .u8 0] := by kernel_rfl
theorem by5 : Sg.byt 5 = some 1 := by kernel_rfl
-- 9 string
theorem un9 : Sg.P.underlying 9 = some (.string) := by kernel_rfl
theorem by9 : Sg.byt 9 = some 16 := by kernel_rfl
-- 12 uintptr
theorem ti12 : Sg.ti 12 = some (1, false) := by kernel_rfl
theorem un12 : Sg.P.underlying 12 = some (.int .u64) := by kernel_rfl
theorem ze12 : Sg.zero 12 = some [.int .u64 0] := by kernel_rfl
theorem by12 : Sg.byt 12 = some 8 := by kernel_rfl
-- 13 struct { msg string; addr uintptr }
theorem ti13 : Sg.ti 13 = some (2, true) := by kernel_rfl
theorem ze13 : Sg.zero 13 = some [.string ⟨#[]⟩, .int .u64 0] := by kernel_rfl
theorem bl13 : Sg.bld 13 = some (some [(0, 1), (1, 1)], 0) := by kernel_rfl
theorem fl13_0 : Sg.fld 13 0 = some (0, 1, false) := by kernel_rfl
theorem fl13_1 : Sg.fld 13 1 = some (1, 1, false) := by kernel_rfl
theorem by13 : Sg.byt 13 = some 24 := by kernel_rfl
-- 21 int32
theorem ti21 : Sg.ti 21 = some (1, false) := by kernel_rfl
theorem un21 : Sg.P.underlying 21 = some (.int .i32) := by kernel_rfl
theorem ze21 : Sg.zero 21 = some [.int .i32 0] := by kernel_rfl
theorem by21 : Sg.byt 21 = some 4 := by kernel_rfl
-- 22 []int
theorem ze22 : Sg.zero 22 = some [.slice none 0 0] := by kernel_rfl
theorem by22 : Sg.byt 22 = some 24 := by kernel_rfl
-- 23 []compositorgen.Pic
theorem ze23 : Sg.zero 23 = some [.slice none 0 0] := by kernel_rfl
theorem by23 : Sg.byt 23 = some 24 := by kernel_rfl
-- 24 []compositorgen.Raw
theorem ze24 : Sg.zero 24 = some [.slice none 0 0] := by kernel_rfl
theorem by24 : Sg.byt 24 = some 24 := by kernel_rfl
-- 25 struct { Bits int; X int; Y int; W int; H int; TileW int; Ti
theorem ti25 : Sg.ti 25 = some (10, true) := by kernel_rfl
theorem ze25 : Sg.zero 25 = some [.int .i64 0, .int .i64 0, .int .i64 0, .int .i64 0, .int .i64 0, .int .i64 0, .int .i64 0, .slice none 0 0, .slice none 0 0, .slice none 0 0] := by kernel_rfl
theorem bl25 : Sg.bld 25 = some (some [(0, 1), (1, 1), (2, 1), (3, 1), (4, 1), (5, 1), (6, 1), (7, 1), (8, 1), (9, 1)], 0) := by kernel_rfl
theorem fl25_0 : Sg.fld 25 0 = some (0, 1, false) := by kernel_rfl
theorem fl25_1 : Sg.fld 25 1 = some (1, 1, false) := by kernel_rfl
theorem fl25_2 : Sg.fld 25 2 = some (2, 1, false) := by kernel_rfl
theorem fl25_3 : Sg.fld 25 3 = some (3, 1, false) := by kernel_rfl
theorem fl25_4 : Sg.fld 25 4 = some (4, 1, false) := by kernel_rfl
theorem fl25_5 : Sg.fld 25 5 = some (5, 1, false) := by kernel_rfl
theorem fl25_6 : Sg.fld 25 6 = some (6, 1, false) := by kernel_rfl
theorem fl25_7 : Sg.fld 25 7 = some (7, 1, false) := by kernel_rfl
theorem fl25_8 : Sg.fld 25 8 = some (8, 1, false) := by kernel_rfl
theorem fl25_9 : Sg.fld 25 9 = some (9, 1, false) := by kernel_rfl
theorem by25 : Sg.byt 25 = some 128 := by kernel_rfl
-- 26 compositorgen.Scene
theorem ze26 : Sg.zero 26 = some [.int .i64 0, .int .i64 0, .int .i64 0, .int .i64 0, .int .i64 0, .int .i64 0, .int .i64 0, .slice none 0 0, .slice none 0 0, .slice none 0 0] := by kernel_rfl
theorem bl26 : Sg.bld 26 = some (some [(0, 1), (1, 1), (2, 1), (3, 1), (4, 1), (5, 1), (6, 1), (7, 1), (8, 1), (9, 1)], 0) := by kernel_rfl
theorem by26 : Sg.byt 26 = some 128 := by kernel_rfl
-- 27 [4]int
theorem ti27 : Sg.ti 27 = some (4, true) := by kernel_rfl
theorem un27 : Sg.P.underlying 27 = some (.array 4 3) := by kernel_rfl
theorem el27 : Sg.el 27 = some (some 4, 3, 1, false) := by kernel_rfl
theorem ze27 : Sg.zero 27 = some [.int .i64 0, .int .i64 0, .int .i64 0, .int .i64 0] := by kernel_rfl
theorem bl27 : Sg.bld 27 = some (none, 1) := by kernel_rfl
theorem eq27 (a0 b0 : Int) (a1 b1 : Int) (a2 b2 : Int) (a3 b3 : Int) : Sg.eqv 27 [.int .i64 a0, .int .i64 a1, .int .i64 a2, .int .i64 a3] [.int .i64 b0, .int .i64 b1, .int .i64 b2, .int .i64 b3] = some ((a0 == b0) && ((a1 == b1) && ((a2 == b2) && ((a3 == b3) && true)))) := by kernel_rfl
theorem by27 : Sg.byt 27 = some 32 := by kernel_rfl
-- 28 [][5]int
theorem ze28 : Sg.zero 28 = some [.slice none 0 0] := by kernel_rfl
theorem by28 : Sg.byt 28 = some 24 := by kernel_rfl
-- 29 struct { Mood int; L [][5]int }
theorem ti29 : Sg.ti 29 = some (2, true) := by kernel_rfl
theorem ze29 : Sg.zero 29 = some [.int .i64 0, .slice none 0 0] := by kernel_rfl
theorem bl29 : Sg.bld 29 = some (some [(0, 1), (1, 1)], 0) := by kernel_rfl
theorem fl29_0 : Sg.fld 29 0 = some (0, 1, false) := by kernel_rfl
theorem fl29_1 : Sg.fld 29 1 = some (1, 1, false) := by kernel_rfl
theorem by29 : Sg.byt 29 = some 32 := by kernel_rfl
-- 30 compositorgen.Row
theorem ze30 : Sg.zero 30 = some [.int .i64 0, .slice none 0 0] := by kernel_rfl
theorem bl30 : Sg.bld 30 = some (some [(0, 1), (1, 1)], 0) := by kernel_rfl
theorem by30 : Sg.byt 30 = some 32 := by kernel_rfl
-- 31 struct { X0 int; Y0 int; X1 int; Y1 int }
theorem ti31 : Sg.ti 31 = some (4, true) := by kernel_rfl
theorem ze31 : Sg.zero 31 = some [.int .i64 0, .int .i64 0, .int .i64 0, .int .i64 0] := by kernel_rfl
theorem bl31 : Sg.bld 31 = some (some [(0, 1), (1, 1), (2, 1), (3, 1)], 0) := by kernel_rfl
theorem fl31_0 : Sg.fld 31 0 = some (0, 1, false) := by kernel_rfl
theorem fl31_1 : Sg.fld 31 1 = some (1, 1, false) := by kernel_rfl
theorem fl31_2 : Sg.fld 31 2 = some (2, 1, false) := by kernel_rfl
theorem fl31_3 : Sg.fld 31 3 = some (3, 1, false) := by kernel_rfl
theorem by31 : Sg.byt 31 = some 32 := by kernel_rfl
-- 32 api.Rect
theorem eq32 (a0 b0 : Int) (a1 b1 : Int) (a2 b2 : Int) (a3 b3 : Int) : Sg.eqv 32 [.int .i64 a0, .int .i64 a1, .int .i64 a2, .int .i64 a3] [.int .i64 b0, .int .i64 b1, .int .i64 b2, .int .i64 b3] = some ((a0 == b0) && ((a1 == b1) && ((a2 == b2) && ((a3 == b3) && true)))) := by kernel_rfl
theorem by32 : Sg.byt 32 = some 32 := by kernel_rfl
-- 33 []api.Image
theorem ze33 : Sg.zero 33 = some [.slice none 0 0] := by kernel_rfl
theorem by33 : Sg.byt 33 = some 24 := by kernel_rfl
-- 34 []api.Op
theorem ze34 : Sg.zero 34 = some [.slice none 0 0] := by kernel_rfl
theorem by34 : Sg.byt 34 = some 24 := by kernel_rfl
-- 35 struct { Bits int; Canvas api.Rect; TileW int; TileH int; Or
theorem ti35 : Sg.ti 35 = some (10, true) := by kernel_rfl
theorem ze35 : Sg.zero 35 = some [.int .i64 0, .int .i64 0, .int .i64 0, .int .i64 0, .int .i64 0, .int .i64 0, .int .i64 0, .slice none 0 0, .slice none 0 0, .slice none 0 0] := by kernel_rfl
theorem bl35 : Sg.bld 35 = some (some [(0, 1), (1, 4), (5, 1), (6, 1), (7, 1), (8, 1), (9, 1)], 0) := by kernel_rfl
theorem fl35_0 : Sg.fld 35 0 = some (0, 1, false) := by kernel_rfl
theorem fl35_1 : Sg.fld 35 1 = some (1, 4, true) := by kernel_rfl
theorem fl35_2 : Sg.fld 35 2 = some (5, 1, false) := by kernel_rfl
theorem fl35_3 : Sg.fld 35 3 = some (6, 1, false) := by kernel_rfl
theorem fl35_4 : Sg.fld 35 4 = some (7, 1, false) := by kernel_rfl
theorem fl35_5 : Sg.fld 35 5 = some (8, 1, false) := by kernel_rfl
theorem fl35_6 : Sg.fld 35 6 = some (9, 1, false) := by kernel_rfl
theorem by35 : Sg.byt 35 = some 128 := by kernel_rfl
-- 36 api.Script
theorem by36 : Sg.byt 36 = some 128 := by kernel_rfl
-- 41 api.Errno
theorem ti41 : Sg.ti 41 = some (1, false) := by kernel_rfl
theorem un41 : Sg.P.underlying 41 = some (.int .i64) := by kernel_rfl
theorem ze41 : Sg.zero 41 = some [.int .i64 0] := by kernel_rfl
theorem by41 : Sg.byt 41 = some 8 := by kernel_rfl
-- 49 uint16
theorem un50 : Sg.P.underlying 50 = some (.array 3 49) := by kernel_rfl
theorem eq50 (a0 b0 : Int) (a1 b1 : Int) (a2 b2 : Int) : Sg.eqv 50 [.int .u16 a0, .int .u16 a1, .int .u16 a2] [.int .u16 b0, .int .u16 b1, .int .u16 b2] = some ((a0 == b0) && ((a1 == b1) && ((a2 == b2) && true))) := by kernel_rfl
theorem by50 : Sg.byt 50 = some 6 := by kernel_rfl
-- 51 struct { C [3]uint16; A uint16; F uint16 }
theorem ti51 : Sg.ti 51 = some (5, true) := by kernel_rfl
theorem ze51 : Sg.zero 51 = some [.int .u16 0, .int .u16 0, .int .u16 0, .int .u16 0, .int .u16 0] := by kernel_rfl
theorem bl51 : Sg.bld 51 = some (some [(0, 3), (3, 1), (4, 1)], 0) := by kernel_rfl
theorem fl51_0 : Sg.fld 51 0 = some (0, 3, true) := by kernel_rfl
theorem fl51_1 : Sg.fld 51 1 = some (3, 1, false) := by kernel_rfl
theorem fl51_2 : Sg.fld 51 2 = some (4, 1, false) := by kernel_rfl
theorem by51 : Sg.byt 51 = some 10 := by kernel_rfl
-- 52 api.Pixel
theorem ti60 : Sg.ti 60 = some (1, false) := by kernel_rfl
theorem ze60 : Sg.zero 60 = some [.slice none 0 0] := by kernel_rfl
theorem by60 : Sg.byt 60 = some 24 := by kernel_rfl
-- 64 struct { Rule int; Op int }
theorem ti64 : Sg.ti 64 = some (2, true) := by kernel_rfl
theorem ze64 : Sg.zero 64 = some [.int .i64 0, .int .i64 0] := by kernel_rfl
theorem bl64 : Sg.bld 64 = some (some [(0, 1), (1, 1)], 0) := by kernel_rfl
theorem fl64_0 : Sg.fld 64 0 = some (0, 1, false) := by kernel_rfl
theorem fl64_1 : Sg.fld 64 1 = some (1, 1, false) := by kernel_rfl
theorem by64 : Sg.byt 64 = some 16 := by kernel_rfl
-- 65 api.Redex
theorem eq65 (a0 b0 : Int) (a1 b1 : Int) : Sg.eqv 65 [.int .i64 a0, .int .i64 a1] [.int .i64 b0, .int .i64 b1] = some ((a0 == b0) && ((a1 == b1) && true)) := by kernel_rfl
theorem ze66 : Sg.zero 66 = some [.slice none 0 0] := by kernel_rfl
theorem by66 : Sg.byt 66 = some 24 := by kernel_rfl
-- 67 struct { W int; H int; Stride int; S []uint16 }
theorem ti67 : Sg.ti 67 = some (4, true) := by kernel_rfl
theorem ze67 : Sg.zero 67 = some [.int .i64 0, .int .i64 0, .int .i64 0, .slice none 0 0] := by kernel_rfl
theorem bl67 : Sg.bld 67 = some (some [(0, 1), (1, 1), (2, 1), (3, 1)], 0) := by kernel_rfl
theorem fl67_0 : Sg.fld 67 0 = some (0, 1, false) := by kernel_rfl
theorem fl67_1 : Sg.fld 67 1 = some (1, 1, false) := by kernel_rfl
theorem fl67_2 : Sg.fld 67 2 = some (2, 1, false) := by kernel_rfl
theorem fl67_3 : Sg.fld 67 3 = some (3, 1, false) := by kernel_rfl
theorem by67 : Sg.byt 67 = some 48 := by kernel_rfl
-- 68 api.Plane
theorem by68 : Sg.byt 68 = some 48 := by kernel_rfl
-- 69 [5]api.Plane
theorem ti69 : Sg.ti 69 = some (20, true) := by kernel_rfl
theorem un69 : Sg.P.underlying 69 = some (.array 5 68) := by kernel_rfl
theorem ze69 : Sg.zero 69 = some [.int .i64 0, .int .i64 0, .int .i64 0, .slice none 0 0, .int .i64 0, .int .i64 0, .int .i64 0, .slice none 0 0, .int .i64 0, .int .i64 0, .int .i64 0, .slice none 0 0, .int .i64 0, .int .i64 0, .int .i64 0, .slice none 0 0, .int .i64 0, .int .i64 0, .int .i64 0, .slice none 0 0] := by kernel_rfl
theorem bl69 : Sg.bld 69 = some (none, 4) := by kernel_rfl
theorem by69 : Sg.byt 69 = some 240 := by kernel_rfl
-- 70 struct { W int; H int; Solid bool; Color api.Pixel; Planes [
theorem ti70 : Sg.ti 70 = some (28, true) := by kernel_rfl
theorem ze70 : Sg.zero 70 = some [.int .i64 0, .int .i64 0, .bool false, .int .u16 0, .int .u16 0, .int .u16 0, .int .u16 0, .int .u16 0, .int .i64 0, .int .i64 0, .int .i64 0, .slice none 0 0, .int .i64 0, .int .i64 0, .int .i64 0, .slice none 0 0, .int .i64 0, .int .i64 0, .int .i64 0, .slice none 0 0, .int .i64 0, .int .i64 0, .int .i64 0, .slice none 0 0, .int .i64 0, .int .i64 0, .int .i64 0, .slice none 0 0] := by kernel_rfl
theorem bl70 : Sg.bld 70 = some (some [(0, 1), (1, 1), (2, 1), (3, 5), (8, 20)], 0) := by kernel_rfl
theorem fl70_0 : Sg.fld 70 0 = some (0, 1, false) := by kernel_rfl
theorem fl70_1 : Sg.fld 70 1 = some (1, 1, false) := by kernel_rfl
theorem fl70_2 : Sg.fld 70 2 = some (2, 1, false) := by kernel_rfl
theorem fl70_3 : Sg.fld 70 3 = some (3, 5, true) := by kernel_rfl
theorem fl70_4 : Sg.fld 70 4 = some (8, 20, true) := by kernel_rfl
theorem by70 : Sg.byt 70 = some 272 := by kernel_rfl
-- 71 api.Image
theorem ti83 : Sg.ti 83 = some (5, true) := by kernel_rfl
theorem ze83 : Sg.zero 83 = some [.int .i64 0, .int .i64 0, .int .i64 0, .int .i64 0, .slice none 0 0] := by kernel_rfl
theorem bl83 : Sg.bld 83 = some (some [(0, 1), (1, 1), (2, 1), (3, 2)], 0) := by kernel_rfl
theorem fl83_0 : Sg.fld 83 0 = some (0, 1, false) := by kernel_rfl
theorem fl83_1 : Sg.fld 83 1 = some (1, 1, false) := by kernel_rfl
theorem fl83_2 : Sg.fld 83 2 = some (2, 1, false) := by kernel_rfl
theorem fl83_3 : Sg.fld 83 3 = some (3, 2, true) := by kernel_rfl
theorem by83 : Sg.byt 83 = some 56 := by kernel_rfl
-- 84 compositorgen.Pic
theorem ze84 : Sg.zero 84 = some [.int .i64 0, .int .i64 0, .int .i64 0, .int .i64 0, .slice none 0 0] := by kernel_rfl
theorem bl84 : Sg.bld 84 = some (some [(0, 1), (1, 1), (2, 1), (3, 2)], 0) := by kernel_rfl
theorem by84 : Sg.byt 84 = some 56 := by kernel_rfl
-- 86 struct { Kind int; Image int; X int; Y int; Mask int; MaskX
theorem ti86 : Sg.ti 86 = some (11, true) := by kernel_rfl
theorem ze86 : Sg.zero 86 = some [.int .i64 0, .int .i64 0, .int .i64 0, .int .i64 0, .int .i64 0, .int .i64 0, .int .i64 0, .int .i64 0, .int .i64 0, .int .i64 0, .int .i64 0] := by kernel_rfl
theorem bl86 : Sg.bld 86 = some (some [(0, 1), (1, 1), (2, 1), (3, 1), (4, 1), (5, 1), (6, 1), (7, 1), (8, 1), (9, 1), (10, 1)], 0) := by kernel_rfl
theorem fl86_0 : Sg.fld 86 0 = some (0, 1, false) := by kernel_rfl
theorem fl86_1 : Sg.fld 86 1 = some (1, 1, false) := by kernel_rfl
theorem fl86_2 : Sg.fld 86 2 = some (2, 1, false) := by kernel_rfl
theorem fl86_3 : Sg.fld 86 3 = some (3, 1, false) := by kernel_rfl
theorem fl86_4 : Sg.fld 86 4 = some (4, 1, false) := by kernel_rfl
theorem fl86_5 : Sg.fld 86 5 = some (5, 1, false) := by kernel_rfl
theorem fl86_6 : Sg.fld 86 6 = some (6, 1, false) := by kernel_rfl
theorem fl86_7 : Sg.fld 86 7 = some (7, 1, false) := by kernel_rfl
theorem fl86_8 : Sg.fld 86 8 = some (8, 1, false) := by kernel_rfl
theorem fl86_9 : Sg.fld 86 9 = some (9, 1, false) := by kernel_rfl
theorem fl86_10 : Sg.fld 86 10 = some (10, 1, false) := by kernel_rfl
theorem by86 : Sg.byt 86 = some 88 := by kernel_rfl
-- 87 compositorgen.Raw
theorem ze87 : Sg.zero 87 = some [.int .i64 0, .int .i64 0, .int .i64 0, .int .i64 0, .int .i64 0, .int .i64 0, .int .i64 0, .int .i64 0, .int .i64 0, .int .i64 0, .int .i64 0] := by kernel_rfl
theorem bl87 : Sg.bld 87 = some (some [(0, 1), (1, 1), (2, 1), (3, 1), (4, 1), (5, 1), (6, 1), (7, 1), (8, 1), (9, 1), (10, 1)], 0) := by kernel_rfl
theorem eq87 (a0 b0 : Int) (a1 b1 : Int) (a2 b2 : Int) (a3 b3 : Int) (a4 b4 : Int) (a5 b5 : Int) (a6 b6 : Int) (a7 b7 : Int) (a8 b8 : Int) (a9 b9 : Int) (a10 b10 : Int) : Sg.eqv 87 [.int .i64 a0, .int .i64 a1, .int .i64 a2, .int .i64 a3, .int .i64 a4, .int .i64 a5, .int .i64 a6, .int .i64 a7, .int .i64 a8, .int .i64 a9, .int .i64 a10] [.int .i64 b0, .int .i64 b1, .int .i64 b2, .int .i64 b3, .int .i64 b4, .int .i64 b5, .int .i64 b6, .int .i64 b7, .int .i64 b8, .int .i64 b9, .int .i64 b10] = some ((a0 == b0) && ((a1 == b1) && ((a2 == b2) && ((a3 == b3) && ((a4 == b4) && ((a5 == b5) && ((a6 == b6) && ((a7 == b7) && ((a8 == b8) && ((a9 == b9) && ((a10 == b10) && true))))))))))) := by kernel_rfl
theorem by87 : Sg.byt 87 = some 88 := by kernel_rfl
-- 88 struct { Kind int; Image int; X int; Y int; Mask int; MaskX
theorem ti88 : Sg.ti 88 = some (12, true) := by kernel_rfl
theorem ze88 : Sg.zero 88 = some [.int .i64 0, .int .i64 0, .int .i64 0, .int .i64 0, .int .i64 0, .int .i64 0, .int .i64 0, .int .u16 0, .int .i64 0, .int .i64 0, .bool false, .bool false] := by kernel_rfl
theorem bl88 : Sg.bld 88 = some (some [(0, 1), (1, 1), (2, 1), (3, 1), (4, 1), (5, 1), (6, 1), (7, 1), (8, 1), (9, 1), (10, 1), (11, 1)], 0) := by kernel_rfl
theorem fl88_0 : Sg.fld 88 0 = some (0, 1, false) := by kernel_rfl
theorem fl88_1 : Sg.fld 88 1 = some (1, 1, false) := by kernel_rfl
theorem fl88_2 : Sg.fld 88 2 = some (2, 1, false) := by kernel_rfl
theorem fl88_3 : Sg.fld 88 3 = some (3, 1, false) := by kernel_rfl
theorem fl88_4 : Sg.fld 88 4 = some (4, 1, false) := by kernel_rfl
theorem fl88_5 : Sg.fld 88 5 = some (5, 1, false) := by kernel_rfl
theorem fl88_6 : Sg.fld 88 6 = some (6, 1, false) := by kernel_rfl
theorem fl88_7 : Sg.fld 88 7 = some (7, 1, false) := by kernel_rfl
theorem fl88_8 : Sg.fld 88 8 = some (8, 1, false) := by kernel_rfl
theorem fl88_9 : Sg.fld 88 9 = some (9, 1, false) := by kernel_rfl
theorem fl88_10 : Sg.fld 88 10 = some (10, 1, false) := by kernel_rfl
theorem fl88_11 : Sg.fld 88 11 = some (11, 1, false) := by kernel_rfl
theorem by88 : Sg.byt 88 = some 88 := by kernel_rfl
-- 89 api.Op
theorem ti94 : Sg.ti 94 = some (1, false) := by kernel_rfl
theorem ze94 : Sg.zero 94 = some [.slice none 0 0] := by kernel_rfl
theorem by94 : Sg.byt 94 = some 24 := by kernel_rfl
-- 100 []api.Rect
theorem ti100 : Sg.ti 100 = some (1, false) := by kernel_rfl
theorem un100 : Sg.P.underlying 100 = some (.slice 32) := by kernel_rfl
theorem el100 : Sg.el 100 = some (none, 32, 4, true) := by kernel_rfl
theorem ze100 : Sg.zero 100 = some [.slice none 0 0] := by kernel_rfl
theorem by100 : Sg.byt 100 = some 24 := by kernel_rfl
-- 105 []api.Micro
theorem ti105 : Sg.ti 105 = some (1, false) := by kernel_rfl
theorem un105 : Sg.P.underlying 105 = some (.slice 149) := by kernel_rfl
theorem ze105 : Sg.zero 105 = some [.slice none 0 0] := by kernel_rfl
theorem by105 : Sg.byt 105 = some 24 := by kernel_rfl
-- 117 []rules.rule
theorem ti117 : Sg.ti 117 = some (1, false) := by kernel_rfl
theorem ze117 : Sg.zero 117 = some [.slice none 0 0] := by kernel_rfl
theorem by117 : Sg.byt 117 = some 24 := by kernel_rfl
-- 136 [5]int
theorem un136 : Sg.P.underlying 136 = some (.array 5 3) := by kernel_rfl
theorem eq136 (a0 b0 : Int) (a1 b1 : Int) (a2 b2 : Int) (a3 b3 : Int) (a4 b4 : Int) : Sg.eqv 136 [.int .i64 a0, .int .i64 a1, .int .i64 a2, .int .i64 a3, .int .i64 a4] [.int .i64 b0, .int .i64 b1, .int .i64 b2, .int .i64 b3, .int .i64 b4] = some ((a0 == b0) && ((a1 == b1) && ((a2 == b2) && ((a3 == b3) && ((a4 == b4) && true))))) := by kernel_rfl
theorem by136 : Sg.byt 136 = some 40 := by kernel_rfl
-- 148 struct { Op int; Kind int; In api.Pixel; Back api.Pixel; K u
theorem ti148 : Sg.ti 148 = some (18, true) := by kernel_rfl
theorem ze148 : Sg.zero 148 = some [.int .i64 0, .int .i64 0, .int .u16 0, .int .u16 0, .int .u16 0, .int .u16 0, .int .u16 0, .int .u16 0, .int .u16 0, .int .u16 0, .int .u16 0, .int .u16 0, .int .u16 0, .int .u16 0, .int .u16 0, .int .u16 0, .int .u16 0, .int .u16 0] := by kernel_rfl
theorem bl148 : Sg.bld 148 = some (some [(0, 1), (1, 1), (2, 5), (7, 5), (12, 1), (13, 5)], 0) := by kernel_rfl
theorem fl148_0 : Sg.fld 148 0 = some (0, 1, false) := by kernel_rfl
theorem fl148_1 : Sg.fld 148 1 = some (1, 1, false) := by kernel_rfl
theorem fl148_2 : Sg.fld 148 2 = some (2, 5, true) := by kernel_rfl
theorem fl148_3 : Sg.fld 148 3 = some (7, 5, true) := by kernel_rfl
theorem fl148_4 : Sg.fld 148 4 = some (12, 1, false) := by kernel_rfl
theorem fl148_5 : Sg.fld 148 5 = some (13, 5, true) := by kernel_rfl
theorem by148 : Sg.byt 148 = some 48 := by kernel_rfl
-- 149 api.Micro
theorem ti149 : Sg.ti 149 = some (18, true) := by kernel_rfl
theorem fl149_0 : Sg.fld 149 0 = some (0, 1, false) := by kernel_rfl
theorem fl149_1 : Sg.fld 149 1 = some (1, 1, false) := by kernel_rfl
theorem fl149_2 : Sg.fld 149 2 = some (2, 5, true) := by kernel_rfl
theorem fl149_3 : Sg.fld 149 3 = some (7, 5, true) := by kernel_rfl
theorem fl149_4 : Sg.fld 149 4 = some (12, 1, false) := by kernel_rfl
theorem fl149_5 : Sg.fld 149 5 = some (13, 5, true) := by kernel_rfl
theorem eq149 (a0 b0 : Int) (a1 b1 : Int) (a2 b2 : Int) (a3 b3 : Int) (a4 b4 : Int) (a5 b5 : Int) (a6 b6 : Int) (a7 b7 : Int) (a8 b8 : Int) (a9 b9 : Int) (a10 b10 : Int) (a11 b11 : Int) (a12 b12 : Int) (a13 b13 : Int) (a14 b14 : Int) (a15 b15 : Int) (a16 b16 : Int) (a17 b17 : Int) : Sg.eqv 149 [.int .i64 a0, .int .i64 a1, .int .u16 a2, .int .u16 a3, .int .u16 a4, .int .u16 a5, .int .u16 a6, .int .u16 a7, .int .u16 a8, .int .u16 a9, .int .u16 a10, .int .u16 a11, .int .u16 a12, .int .u16 a13, .int .u16 a14, .int .u16 a15, .int .u16 a16, .int .u16 a17] [.int .i64 b0, .int .i64 b1, .int .u16 b2, .int .u16 b3, .int .u16 b4, .int .u16 b5, .int .u16 b6, .int .u16 b7, .int .u16 b8, .int .u16 b9, .int .u16 b10, .int .u16 b11, .int .u16 b12, .int .u16 b13, .int .u16 b14, .int .u16 b15, .int .u16 b16, .int .u16 b17] = some ((a0 == b0) && ((a1 == b1) && ((((a2 == b2) && ((a3 == b3) && ((a4 == b4) && true))) && ((a5 == b5) && ((a6 == b6) && true))) && ((((a7 == b7) && ((a8 == b8) && ((a9 == b9) && true))) && ((a10 == b10) && ((a11 == b11) && true))) && ((a12 == b12) && ((((a13 == b13) && ((a14 == b14) && ((a15 == b15) && true))) && ((a16 == b16) && ((a17 == b17) && true))) && true)))))) := by kernel_rfl
theorem ti153 : Sg.ti 153 = some (6, true) := by kernel_rfl
theorem ze153 : Sg.zero 153 = some [.int .u16 0, .int .u16 0, .int .u16 0, .int .u16 0, .int .u16 0, .int .u16 0] := by kernel_rfl
theorem bl153 : Sg.bld 153 = some (some [(0, 3), (3, 1), (4, 1), (5, 1)], 0) := by kernel_rfl
theorem fl153_0 : Sg.fld 153 0 = some (0, 3, true) := by kernel_rfl
theorem fl153_1 : Sg.fld 153 1 = some (3, 1, false) := by kernel_rfl
theorem fl153_2 : Sg.fld 153 2 = some (4, 1, false) := by kernel_rfl
theorem fl153_3 : Sg.fld 153 3 = some (5, 1, false) := by kernel_rfl
theorem by153 : Sg.byt 153 = some 12 := by kernel_rfl
-- 154 api.Accum
theorem eq154 (a0 b0 : Int) (a1 b1 : Int) (a2 b2 : Int) (a3 b3 : Int) (a4 b4 : Int) (a5 b5 : Int) : Sg.eqv 154 [.int .u16 a0, .int .u16 a1, .int .u16 a2, .int .u16 a3, .int .u16 a4, .int .u16 a5] [.int .u16 b0, .int .u16 b1, .int .u16 b2, .int .u16 b3, .int .u16 b4, .int .u16 b5] = some (((a0 == b0) && ((a1 == b1) && ((a2 == b2) && true))) && ((a3 == b3) && ((a4 == b4) && ((a5 == b5) && true)))) := by kernel_rfl
theorem by154 : Sg.byt 154 = some 12 := by kernel_rfl
-- 159 struct { Op api.Op; Acc api.Accum; Back api.Pixel }
theorem ti159 : Sg.ti 159 = some (23, true) := by kernel_rfl
theorem ze159 : Sg.zero 159 = some [.int .i64 0, .int .i64 0, .int .i64 0, .int .i64 0, .int .i64 0, .int .i64 0, .int .i64 0, .int .u16 0, .int .i64 0, .int .i64 0, .bool false, .bool false, .int .u16 0, .int .u16 0, .int .u16 0, .int .u16 0, .int .u16 0, .int .u16 0, .int .u16 0, .int .u16 0, .int .u16 0, .int .u16 0, .int .u16 0] := by kernel_rfl
theorem bl159 : Sg.bld 159 = some (some [(0, 12), (12, 6), (18, 5)], 0) := by kernel_rfl
theorem fl159_0 : Sg.fld 159 0 = some (0, 12, true) := by kernel_rfl
theorem fl159_1 : Sg.fld 159 1 = some (12, 6, true) := by kernel_rfl
theorem fl159_2 : Sg.fld 159 2 = some (18, 5, true) := by kernel_rfl
theorem by159 : Sg.byt 159 = some 112 := by kernel_rfl
-- 160 compositorref22.level
theorem eq160 (a0 b0 : Int) (a1 b1 : Int) (a2 b2 : Int) (a3 b3 : Int) (a4 b4 : Int) (a5 b5 : Int) (a6 b6 : Int) (a7 b7 : Int) (a8 b8 : Int) (a9 b9 : Int) (a10 b10 : Bool) (a11 b11 : Bool) (a12 b12 : Int) (a13 b13 : Int) (a14 b14 : Int) (a15 b15 : Int) (a16 b16 : Int) (a17 b17 : Int) (a18 b18 : Int) (a19 b19 : Int) (a20 b20 : Int) (a21 b21 : Int) (a22 b22 : Int) : Sg.eqv 160 [.int .i64 a0, .int .i64 a1, .int .i64 a2, .int .i64 a3, .int .i64 a4, .int .i64 a5, .int .i64 a6, .int .u16 a7, .int .i64 a8, .int .i64 a9, .bool a10, .bool a11, .int .u16 a12, .int .u16 a13, .int .u16 a14, .int .u16 a15, .int .u16 a16, .int .u16 a17, .int .u16 a18, .int .u16 a19, .int .u16 a20, .int .u16 a21, .int .u16 a22] [.int .i64 b0, .int .i64 b1, .int .i64 b2, .int .i64 b3, .int .i64 b4, .int .i64 b5, .int .i64 b6, .int .u16 b7, .int .i64 b8, .int .i64 b9, .bool b10, .bool b11, .int .u16 b12, .int .u16 b13, .int .u16 b14, .int .u16 b15, .int .u16 b16, .int .u16 b17, .int .u16 b18, .int .u16 b19, .int .u16 b20, .int .u16 b21, .int .u16 b22] = some (((a0 == b0) && ((a1 == b1) && ((a2 == b2) && ((a3 == b3) && ((a4 == b4) && ((a5 == b5) && ((a6 == b6) && ((a7 == b7) && ((a8 == b8) && ((a9 == b9) && ((a10 == b10) && ((a11 == b11) && true)))))))))))) && ((((a12 == b12) && ((a13 == b13) && ((a14 == b14) && true))) && ((a15 == b15) && ((a16 == b16) && ((a17 == b17) && true)))) && ((((a18 == b18) && ((a19 == b19) && ((a20 == b20) && true))) && ((a21 == b21) && ((a22 == b22) && true))) && true))) := by kernel_rfl
theorem ze161 : Sg.zero 161 = some [.slice none 0 0] := by kernel_rfl
theorem by161 : Sg.byt 161 = some 24 := by kernel_rfl
-- 162 struct { Max uint16; L []compositorref22.level }
theorem ti162 : Sg.ti 162 = some (2, true) := by kernel_rfl
theorem ze162 : Sg.zero 162 = some [.int .u16 0, .slice none 0 0] := by kernel_rfl
theorem bl162 : Sg.bld 162 = some (some [(0, 1), (1, 1)], 0) := by kernel_rfl
theorem fl162_0 : Sg.fld 162 0 = some (0, 1, false) := by kernel_rfl
theorem fl162_1 : Sg.fld 162 1 = some (1, 1, false) := by kernel_rfl
theorem by162 : Sg.byt 162 = some 32 := by kernel_rfl
-- 163 compositorref22.Machine
theorem ti163 : Sg.ti 163 = some (2, true) := by kernel_rfl
theorem by163 : Sg.byt 163 = some 32 := by kernel_rfl
-- 171 []bool
theorem un171 : Sg.P.underlying 171 = some (.slice 4) := by kernel_rfl
theorem ze171 : Sg.zero 171 = some [.slice none 0 0] := by kernel_rfl
theorem by171 : Sg.byt 171 = some 24 := by kernel_rfl
-- 172 struct { s api.Script; max uint16; ends []int; groups []int;
theorem ti172 : Sg.ti 172 = some (15, true) := by kernel_rfl
theorem ze172 : Sg.zero 172 = some [.int .i64 0, .int .i64 0, .int .i64 0, .int .i64 0, .int .i64 0, .int .i64 0, .int .i64 0, .slice none 0 0, .slice none 0 0, .slice none 0 0, .int .u16 0, .slice none 0 0, .slice none 0 0, .slice none 0 0, .slice none 0 0] := by kernel_rfl
theorem bl172 : Sg.bld 172 = some (some [(0, 10), (10, 1), (11, 1), (12, 1), (13, 1), (14, 1)], 0) := by kernel_rfl
theorem fl172_0 : Sg.fld 172 0 = some (0, 10, true) := by kernel_rfl
theorem fl172_1 : Sg.fld 172 1 = some (10, 1, false) := by kernel_rfl
theorem fl172_2 : Sg.fld 172 2 = some (11, 1, false) := by kernel_rfl
theorem fl172_3 : Sg.fld 172 3 = some (12, 1, false) := by kernel_rfl
theorem fl172_4 : Sg.fld 172 4 = some (13, 1, false) := by kernel_rfl
theorem fl172_5 : Sg.fld 172 5 = some (14, 1, false) := by kernel_rfl
theorem by172 : Sg.byt 172 = some 232 := by kernel_rfl
-- 173 rules.view
theorem ti173 : Sg.ti 173 = some (15, true) := by kernel_rfl
theorem by173 : Sg.byt 173 = some 232 := by kernel_rfl
-- 179 struct { applies func(*rules.view, int) bool; apply func(*ru
theorem ti179 : Sg.ti 179 = some (2, true) := by kernel_rfl
theorem ze179 : Sg.zero 179 = some [.nilFunc, .nilFunc] := by kernel_rfl
theorem by179 : Sg.byt 179 = some 16 := by kernel_rfl
-- 180 rules.rule
theorem ti180 : Sg.ti 180 = some (2, true) := by kernel_rfl
theorem by180 : Sg.byt 180 = some 16 := by kernel_rfl
-- 210 uint64
theorem ze210 : Sg.zero 210 = some [.int .u64 0] := by kernel_rfl
theorem by210 : Sg.byt 210 = some 8 := by kernel_rfl
-- 219 struct { name string; fa int; fb int; shape int }
theorem ti219 : Sg.ti 219 = some (4, true) := by kernel_rfl
theorem ze219 : Sg.zero 219 = some [.string ⟨#[]⟩, .int .i64 0, .int .i64 0, .int .i64 0] := by kernel_rfl
theorem bl219 : Sg.bld 219 = some (some [(0, 1), (1, 1), (2, 1), (3, 1)], 0) := by kernel_rfl
theorem fl219_0 : Sg.fld 219 0 = some (0, 1, false) := by kernel_rfl
theorem fl219_1 : Sg.fld 219 1 = some (1, 1, false) := by kernel_rfl
theorem fl219_2 : Sg.fld 219 2 = some (2, 1, false) := by kernel_rfl
theorem fl219_3 : Sg.fld 219 3 = some (3, 1, false) := by kernel_rfl
theorem by219 : Sg.byt 219 = some 40 := by kernel_rfl
-- 220 operator.rule
theorem eq220 (a0 b0 : ByteArray) (a1 b1 : Int) (a2 b2 : Int) (a3 b3 : Int) : Sg.eqv 220 [.string a0, .int .i64 a1, .int .i64 a2, .int .i64 a3] [.string b0, .int .i64 b1, .int .i64 b2, .int .i64 b3] = some ((a0.toList == b0.toList) && ((a1 == b1) && ((a2 == b2) && ((a3 == b3) && true)))) := by kernel_rfl
theorem by220 : Sg.byt 220 = some 40 := by kernel_rfl
-- 223 [13]string
theorem ti223 : Sg.ti 223 = some (13, true) := by kernel_rfl
theorem un223 : Sg.P.underlying 223 = some (.array 13 9) := by kernel_rfl
theorem ze223 : Sg.zero 223 = some [.string ⟨#[]⟩, .string ⟨#[]⟩, .string ⟨#[]⟩, .string ⟨#[]⟩, .string ⟨#[]⟩, .string ⟨#[]⟩, .string ⟨#[]⟩, .string ⟨#[]⟩, .string ⟨#[]⟩, .string ⟨#[]⟩, .string ⟨#[]⟩, .string ⟨#[]⟩, .string ⟨#[]⟩] := by kernel_rfl
theorem bl223 : Sg.bld 223 = some (none, 1) := by kernel_rfl
theorem by223 : Sg.byt 223 = some 208 := by kernel_rfl
-- 229 [13]operator.rule
theorem ti229 : Sg.ti 229 = some (52, true) := by kernel_rfl
theorem un229 : Sg.P.underlying 229 = some (.array 13 220) := by kernel_rfl
theorem ze229 : Sg.zero 229 = some [.string ⟨#[]⟩, .int .i64 0, .int .i64 0, .int .i64 0, .string ⟨#[]⟩, .int .i64 0, .int .i64 0, .int .i64 0, .string ⟨#[]⟩, .int .i64 0, .int .i64 0, .int .i64 0, .string ⟨#[]⟩, .int .i64 0, .int .i64 0, .int .i64 0, .string ⟨#[]⟩, .int .i64 0, .int .i64 0, .int .i64 0, .string ⟨#[]⟩, .int .i64 0, .int .i64 0, .int .i64 0, .string ⟨#[]⟩, .int .i64 0, .int .i64 0, .int .i64 0, .string ⟨#[]⟩, .int .i64 0, .int .i64 0, .int .i64 0, .string ⟨#[]⟩, .int .i64 0, .int .i64 0, .int .i64 0, .string ⟨#[]⟩, .int .i64 0, .int .i64 0, .int .i64 0, .string ⟨#[]⟩, .int .i64 0, .int .i64 0, .int .i64 0, .string ⟨#[]⟩, .int .i64 0, .int .i64 0, .int .i64 0, .string ⟨#[]⟩, .int .i64 0, .int .i64 0, .int .i64 0] := by kernel_rfl
theorem bl229 : Sg.bld 229 = some (none, 4) := by kernel_rfl
theorem by229 : Sg.byt 229 = some 520 := by kernel_rfl
-- 235 struct { Hi uint64; Lo uint64 }
theorem ti235 : Sg.ti 235 = some (2, true) := by kernel_rfl
theorem ze235 : Sg.zero 235 = some [.int .u64 0, .int .u64 0] := by kernel_rfl
theorem bl235 : Sg.bld 235 = some (some [(0, 1), (1, 1)], 0) := by kernel_rfl
theorem fl235_0 : Sg.fld 235 0 = some (0, 1, false) := by kernel_rfl
theorem fl235_1 : Sg.fld 235 1 = some (1, 1, false) := by kernel_rfl
theorem by235 : Sg.byt 235 = some 16 := by kernel_rfl
-- 236 api.U128
theorem by236 : Sg.byt 236 = some 16 := by kernel_rfl
-- 237 struct { P api.U128; Q uint64; R uint64; Den uint64 }
theorem ti237 : Sg.ti 237 = some (5, true) := by kernel_rfl
theorem ze237 : Sg.zero 237 = some [.int .u64 0, .int .u64 0, .int .u64 0, .int .u64 0, .int .u64 0] := by kernel_rfl
theorem bl237 : Sg.bld 237 = some (some [(0, 2), (2, 1), (3, 1), (4, 1)], 0) := by kernel_rfl
theorem fl237_0 : Sg.fld 237 0 = some (0, 2, true) := by kernel_rfl
theorem fl237_1 : Sg.fld 237 1 = some (2, 1, false) := by kernel_rfl
theorem fl237_2 : Sg.fld 237 2 = some (3, 1, false) := by kernel_rfl
theorem fl237_3 : Sg.fld 237 3 = some (4, 1, false) := by kernel_rfl
theorem by237 : Sg.byt 237 = some 40 := by kernel_rfl
-- 238 api.Exact
theorem eq238 (a0 b0 : Int) (a1 b1 : Int) (a2 b2 : Int) (a3 b3 : Int) (a4 b4 : Int) : Sg.eqv 238 [.int .u64 a0, .int .u64 a1, .int .u64 a2, .int .u64 a3, .int .u64 a4] [.int .u64 b0, .int .u64 b1, .int .u64 b2, .int .u64 b3, .int .u64 b4] = some (((a0 == b0) && ((a1 == b1) && true)) && ((a2 == b2) && ((a3 == b3) && ((a4 == b4) && true)))) := by kernel_rfl
theorem by238 : Sg.byt 238 = some 40 := by kernel_rfl
-- 249 []string
theorem ti249 : Sg.ti 249 = some (1, false) := by kernel_rfl
theorem ze249 : Sg.zero 249 = some [.slice none 0 0] := by kernel_rfl
theorem by249 : Sg.byt 249 = some 24 := by kernel_rfl
-- 260 uint
theorem ti260 : Sg.ti 260 = some (1, false) := by kernel_rfl
theorem ze260 : Sg.zero 260 = some [.int .u64 0] := by kernel_rfl
theorem by260 : Sg.byt 260 = some 8 := by kernel_rfl
-- 269 uint32
theorem ti269 : Sg.ti 269 = some (1, false) := by kernel_rfl
theorem un269 : Sg.P.underlying 269 = some (.int .u32) := by kernel_rfl
theorem ze269 : Sg.zero 269 = some [.int .u32 0] := by kernel_rfl
theorem by269 : Sg.byt 269 = some 4 := by kernel_rfl
attribute [go_sem] ti2 un2 ze2 by2 ti5 un5 ze5 by5 un9 by9 ti12 un12 ze12 by12 ti13 ze13 bl13 fl13_0 fl13_1 by13 ti21 un21 ze21 by21 ze22 by22 ze23 by23 ze24 by24 ti25 ze25 bl25 fl25_0 fl25_1 fl25_2 fl25_3 fl25_4 fl25_5 fl25_6 fl25_7 fl25_8 fl25_9 by25 ze26 bl26 by26 ti27 un27 el27 ze27 bl27 eq27 by27 ze28 by28 ti29 ze29 bl29 fl29_0 fl29_1 by29 ze30 bl30 by30 ti31 ze31 bl31 fl31_0 fl31_1 fl31_2 fl31_3 by31 eq32 by32 ze33 by33 ze34 by34 ti35 ze35 bl35 fl35_0 fl35_1 fl35_2 fl35_3 fl35_4 fl35_5 fl35_6 by35 by36 ti41 un41 ze41 by41 un50 eq50 by50 ti51 ze51 bl51 fl51_0 fl51_1 fl51_2 by51 ti60 ze60 by60 ti64 ze64 bl64 fl64_0 fl64_1 by64 eq65 ze66 by66 ti67 ze67 bl67 fl67_0 fl67_1 fl67_2 fl67_3 by67 by68 ti69 un69 ze69 bl69 by69 ti70 ze70 bl70 fl70_0 fl70_1 fl70_2 fl70_3 fl70_4 by70 ti83 ze83 bl83 fl83_0 fl83_1 fl83_2 fl83_3 by83 ze84 bl84 by84 ti86 ze86 bl86 fl86_0 fl86_1 fl86_2 fl86_3 fl86_4 fl86_5 fl86_6 fl86_7 fl86_8 fl86_9 fl86_10 by86 ze87 bl87 eq87 by87 ti88 ze88 bl88 fl88_0 fl88_1 fl88_2 fl88_3 fl88_4 fl88_5 fl88_6 fl88_7 fl88_8 fl88_9 fl88_10 fl88_11 by88 ti94 ze94 by94 ti100 un100 el100 ze100 by100 ti105 un105 ze105 by105 ti117 ze117 by117 un136 eq136 by136 ti148 ze148 bl148 fl148_0 fl148_1 fl148_2 fl148_3 fl148_4 fl148_5 by148 ti149 fl149_0 fl149_1 fl149_2 fl149_3 fl149_4 fl149_5 eq149 ti153 ze153 bl153 fl153_0 fl153_1 fl153_2 fl153_3 by153 eq154 by154 ti159 ze159 bl159 fl159_0 fl159_1 fl159_2 by159 eq160 ze161 by161 ti162 ze162 bl162 fl162_0 fl162_1 by162 ti163 by163 un171 ze171 by171 ti172 ze172 bl172 fl172_0 fl172_1 fl172_2 fl172_3 fl172_4 fl172_5 by172 ti173 by173 ti179 ze179 by179 ti180 by180 ze210 by210 ti219 ze219 bl219 fl219_0 fl219_1 fl219_2 fl219_3 by219 eq220 by220 ti223 un223 ze223 bl223 by223 ti229 un229 ze229 bl229 by229 ti235 ze235 bl235 fl235_0 fl235_1 by235 by236 ti237 ze237 bl237 fl237_0 fl237_1 fl237_2 fl237_3 by237 eq238 by238 ti249 ze249 by249 ti260 ze260 by260 ti269 un269 ze269 by269
end Go.Proofs.YtlblgkelhibdoaaGreatDoor
set_option linter.unusedSimpArgs false
set_option linter.unusedVariables false
set_option maxRecDepth 8000
namespace Go.Proofs.YtlblgkelhibdoaaGreatDoor
open Go Go.SL
def moveR (r : Rect) (dx dy : Int) : Rect := if emptyR r = true ∨ ¬ (-2147483648 ≤ dx ∧ dx ≤ 2147483648 ∧ -2147483648 ≤ dy ∧ dy ≤ 2147483648) then zeroR else cleanR ⟨r.x0 + dx, r.y0 + dy, r.x1 + dx, r.y1 + dy⟩
theorem empty_zero : emptyR zeroR = true := by decide
theorem hull_snoc (l : List Rect) (x : Rect) : hullM (l ++ [x]) = hull1 (hullM l) x := by
 unfold hullM; rw [List.foldl_append]; rfl
def InL (l : List Rect) (r : Rect) : Prop := r ∈ l ∧ emptyR r = false
structure HullIs (l : List Rect) (h : Rect) : Prop where
 none : (∀ r, ¬ InL l r) → h = zeroR
 ne : (∃ r, InL l r) → emptyR h = false
 x0 : (∃ r, InL l r) → (∀ r, InL l r → h.x0 ≤ r.x0) ∧ ∃ r, InL l r ∧ h.x0 = r.x0
 y0 : (∃ r, InL l r) → (∀ r, InL l r → h.y0 ≤ r.y0) ∧ ∃ r, InL l r ∧ h.y0 = r.y0
 x1 : (∃ r, InL l r) → (∀ r, InL l r → r.x1 ≤ h.x1) ∧ ∃ r, InL l r ∧ h.x1 = r.x1
 y1 : (∃ r, InL l r) → (∀ r, InL l r → r.y1 ≤ h.y1) ∧ ∃ r, InL l r ∧ h.y1 = r.y1
theorem inl_snoc {l : List Rect} {x r : Rect} : InL (l ++ [x]) r ↔ InL l r ∨ (r = x ∧ emptyR x = false) := by
 unfold InL
 rw [List.mem_append, List.mem_singleton]
 refine ⟨fun ⟨h1, h2⟩ => ?_, fun h => ?_⟩
 ·rcases h1 with h1 | rfl
  ·exact .inl ⟨h1, h2⟩
  ·exact .inr ⟨rfl, h2⟩
 ·rcases h with ⟨h1, h2⟩ | ⟨rfl, h2⟩
  ·exact ⟨.inl h1, h2⟩
  ·exact ⟨.inr rfl, h2⟩
theorem hull_step {l : List Rect} {h x : Rect} (H : HullIs l h) : HullIs (l ++ [x]) (hull1 h x) := by
 by_cases hx : emptyR x = true
 ·have e : ∀ r, InL (l ++ [x]) r ↔ InL l r := fun r => by rw [inl_snoc]; simp [hx]
  have e2 : (∃ r, InL (l ++ [x]) r) ↔ ∃ r, InL l r := exists_congr e
  have eh : hull1 h x = h := by rw [hull1, if_pos hx]
  rw [eh]
  refine ⟨fun q => H.none fun r hr => q r ((e r).2 hr), fun q => H.ne (e2.1 q), fun q => ?_, fun q => ?_, fun q => ?_, fun q => ?_⟩
  ·obtain ⟨a, b, c, d⟩ := H.x0 (e2.1 q); exact ⟨fun r hr => a r ((e r).1 hr), b, (e b).2 c, d⟩
  ·obtain ⟨a, b, c, d⟩ := H.y0 (e2.1 q); exact ⟨fun r hr => a r ((e r).1 hr), b, (e b).2 c, d⟩
  ·obtain ⟨a, b, c, d⟩ := H.x1 (e2.1 q); exact ⟨fun r hr => a r ((e r).1 hr), b, (e b).2 c, d⟩
  ·obtain ⟨a, b, c, d⟩ := H.y1 (e2.1 q); exact ⟨fun r hr => a r ((e r).1 hr), b, (e b).2 c, d⟩
 ·have hx' : emptyR x = false := by simpa using hx
  have hin : InL (l ++ [x]) x := inl_snoc.2 (.inr ⟨rfl, hx'⟩)
  by_cases hl : ∃ r, InL l r
  ·have hne := H.ne hl
   have eh : hull1 h x = ⟨min h.x0 x.x0, min h.y0 x.y0, max h.x1 x.x1, max h.y1 x.y1⟩ := by rw [hull1, if_neg hx, if_neg (by rw [hne]; simp)]
   rw [eh]
   obtain ⟨a0, b0, c0, d0⟩ := H.x0 hl
   obtain ⟨a1, b1, c1, d1⟩ := H.y0 hl
   obtain ⟨a2, b2, c2, d2⟩ := H.x1 hl
   obtain ⟨a3, b3, c3, d3⟩ := H.y1 hl
   refine ⟨fun q => absurd hin (q x), fun _ => ?_, fun _ => ⟨fun r hr => ?_, ?_⟩, fun _ => ⟨fun r hr => ?_, ?_⟩, fun _ => ⟨fun r hr => ?_, ?_⟩, fun _ => ⟨fun r hr => ?_, ?_⟩⟩
   ·rw [empty_iff] at hne hx' ⊢
    dsimp only
    omega
   ·rcases inl_snoc.1 hr with hr | ⟨rfl, _⟩
    ·have := a0 r hr; dsimp only; omega
    ·dsimp only; omega
   ·rcases Int.le_total h.x0 x.x0 with q | q
    ·exact ⟨b0, inl_snoc.2 (.inl c0), by dsimp only; omega⟩
    ·exact ⟨x, hin, by dsimp only; omega⟩
   ·rcases inl_snoc.1 hr with hr | ⟨rfl, _⟩
    ·have := a1 r hr; dsimp only; omega
    ·dsimp only; omega
   ·rcases Int.le_total h.y0 x.y0 with q | q
    ·exact ⟨b1, inl_snoc.2 (.inl c1), by dsimp only; omega⟩
    ·exact ⟨x, hin, by dsimp only; omega⟩
   ·rcases inl_snoc.1 hr with hr | ⟨rfl, _⟩
    ·have := a2 r hr; dsimp only; omega
    ·dsimp only; omega
   ·rcases Int.le_total h.x1 x.x1 with q | q
    ·exact ⟨x, hin, by dsimp only; omega⟩
    ·exact ⟨b2, inl_snoc.2 (.inl c2), by dsimp only; omega⟩
   ·rcases inl_snoc.1 hr with hr | ⟨rfl, _⟩
    ·have := a3 r hr; dsimp only; omega
    ·dsimp only; omega
   ·rcases Int.le_total h.y1 x.y1 with q | q
    ·exact ⟨x, hin, by dsimp only; omega⟩
    ·exact ⟨b3, inl_snoc.2 (.inl c3), by dsimp only; omega⟩
  ·have hz : h = zeroR := H.none fun r hr => hl ⟨r, hr⟩
   have eh : hull1 h x = x := by rw [hull1, if_neg hx, hz, if_pos empty_zero]
   rw [eh]
   have only : ∀ r, InL (l ++ [x]) r → r = x := fun r hr => by
    rcases inl_snoc.1 hr with hr | ⟨rfl, _⟩
    ·exact absurd ⟨r, hr⟩ hl
    ·rfl
   exact ⟨fun q => absurd hin (q x), fun _ => hx', fun _ => ⟨fun r hr => by rw [only r hr]; exact Int.le_refl _, x, hin, rfl⟩, fun _ => ⟨fun r hr => by rw [only r hr]; exact Int.le_refl _, x, hin, rfl⟩,
    fun _ => ⟨fun r hr => by rw [only r hr]; exact Int.le_refl _, x, hin, rfl⟩, fun _ => ⟨fun r hr => by rw [only r hr]; exact Int.le_refl _, x, hin, rfl⟩⟩
theorem hullIs_go : ∀ (l l0 : List Rect) (h : Rect), HullIs l0 h → HullIs (l0 ++ l) (l.foldl hull1 h)
 | [], l0, h, H => by simpa using H
 | x :: l, l0, h, H => by
  have := hullIs_go l (l0 ++ [x]) (hull1 h x) (hull_step H)
  rw [List.append_assoc] at this
  exact this
theorem hullIs (l : List Rect) : HullIs l (hullM l) := by
 have := hullIs_go l [] zeroR ⟨fun _ => rfl, fun ⟨r, hr, _⟩ => by simp at hr, fun ⟨r, hr, _⟩ => by simp at hr, fun ⟨r, hr, _⟩ => by simp at hr, fun ⟨r, hr, _⟩ => by simp at hr, fun ⟨r, hr, _⟩ => by simp at hr⟩
 exact this
theorem rect_ext {a b : Rect} (h0 : a.x0 = b.x0) (h1 : a.y0 = b.y0) (h2 : a.x1 = b.x1) (h3 : a.y1 = b.y1) : a = b := by
 cases a; cases b; simp only at h0 h1 h2 h3; subst h0 h1 h2 h3; rfl
theorem hull_in {l : List Rect} {r : Rect} (h : r ∈ l) (hr : emptyR r = false) : emptyR (hullM l) = false ∧ (hullM l).x0 ≤ r.x0 ∧ (hullM l).y0 ≤ r.y0 ∧ r.x1 ≤ (hullM l).x1 ∧ r.y1 ≤ (hullM l).y1 := by
 have A := hullIs l
 have hi : InL l r := ⟨h, hr⟩
 exact ⟨A.ne ⟨r, hi⟩, (A.x0 ⟨r, hi⟩).1 r hi, (A.y0 ⟨r, hi⟩).1 r hi, (A.x1 ⟨r, hi⟩).1 r hi, (A.y1 ⟨r, hi⟩).1 r hi⟩
theorem hull_coords (l : List Rect) : (hullM l = zeroR) ∨ emptyR (hullM l) = false := by
 by_cases hl : ∃ r, InL l r
 ·exact .inr ((hullIs l).ne hl)
 ·exact .inl ((hullIs l).none fun r hr => hl ⟨r, hr⟩)
end Go.Proofs.YtlblgkelhibdoaaGreatDoor
set_option maxRecDepth 8000
namespace Go.Proofs.YtlblgkelhibdoaaGreatDoor
open Go Go.SL
section
variable {ops : List Op}
theorem stk_sorted : ∀ i, (stk ops i).Pairwise (fun a b => b < a)
 | 0 => by simp [stk]
 | i + 1 => by
  rw [stk]
  split
  ·exact List.pairwise_cons.2 ⟨fun q hq => stk_lt hq, stk_sorted i⟩
  split
  ·exact (stk_sorted i).sublist (List.tail_sublist _)
  ·exact stk_sorted i
theorem stk_tail_lt {i p : Nat} {t : List Nat} (hs : stk ops i = p :: t) : ∀ q ∈ t, q < p := by
 have := stk_sorted (ops := ops) i
 rw [hs] at this
 exact (List.pairwise_cons.1 this).1
end
theorem hull_two (l : List Rect) (x : Rect) : hullM [hullM l, x] = hullM (l ++ [x]) := by
 rw [hull_snoc]
 show hull1 (hull1 zeroR (hullM l)) x = _
 congr 1
 unfold hull1
 split
 ·rcases hull_coords l with h | h
  ·exact h.symm
  ·rename_i q; rw [h] at q; cases q
 ·rw [if_pos empty_zero]
def Wlk (e : Nat → Nat) : Nat → Nat → List Nat → Prop
 | a, b, [] => a = b
 | a, b, k :: l => a = k ∧ Wlk e (e k + 1) b l
theorem wlk_snoc {e : Nat → Nat} {b : Nat} : ∀ {l : List Nat} {a : Nat}, Wlk e a b l → Wlk e a (e b + 1) (l ++ [b])
 | [], a, h => ⟨h, rfl⟩
 | k :: l, a, ⟨h1, h2⟩ => ⟨h1, wlk_snoc h2⟩
section
variable {s : Script}
theorem bx_keep (W : Wf s.ops) {i p : Nat} (hp : p < i) (hn : p ∉ stk s.ops i) : ∀ m, i ≤ m → m ≤ s.ops.length → (bxAt s m).1 p = (bxAt s i).1 p := by
 intro m hm hl
 induction m with
 | zero => omega
 | succ m ih =>
  by_cases he : i = m + 1
  ·rw [← he]
  ·have ih := ih (by omega) (by omega)
   have hk := stk_keep W hp hn m (by omega)
   rw [bxAt]
   split
   ·exact ih
   split
   ·dsimp only; rw [upd_ne _ _ (by omega), ih]
   ·rename_i h2 h1
    have h3 : (opAt s.ops m).kind = 3 := by rcases W.kinds m (by omega) with k | k | k <;> omega
    have := head_mem (W.pops m (by omega) h3)
    dsimp only
    rw [upd_ne _ _ (fun e => hk (by rw [e]; exact this)), upd_ne _ _ (by omega), ih]
theorem box_draw (W : Wf s.ops) {i : Nat} (hi : i < s.ops.length) (hk : (opAt s.ops i).kind = 1) : boxesM s i = boxM s (opAt s.ops i) (imageRectM s (opAt s.ops i)) := by
 rw [boxesM, bx_keep W (Nat.lt_succ_self i) (by rw [stk_draw hk]; exact fun h => Nat.lt_irrefl _ (stk_lt h)) _ hi (Nat.le_refl _), bxAt, if_neg (by omega), if_pos hk]
 exact upd_self _ _ _
theorem box_pop0 (W : Wf s.ops) {i p : Nat} {t : List Nat} (hi : i < s.ops.length) (hk : (opAt s.ops i).kind = 3) (hs : stk s.ops i = p :: t) :
  boxesM s i = boxM s (opAt s.ops p) ((bxAt s i).2.headD zeroR) ∧ boxesM s p = boxM s (opAt s.ops p) ((bxAt s i).2.headD zeroR) := by
 have hn := stk_nodup (ops := s.ops) i
 rw [hs] at hn
 have hp : p < i := stk_lt (ops := s.ops) (by rw [hs]; exact List.mem_cons_self ..)
 refine ⟨?_, ?_⟩
 ·rw [boxesM, bx_keep W (Nat.lt_succ_self i) (by rw [stk_pop hk]; exact fun h => Nat.lt_irrefl _ (stk_lt (List.mem_of_mem_tail h))) _ hi (Nat.le_refl _), bxAt, if_neg (by omega), if_neg (by omega), hs]
  dsimp only [List.headD]
  rw [upd_ne _ _ (by omega), upd_self]
 ·rw [boxesM, bx_keep W (i := i + 1) (by omega) (by rw [stk_pop hk, hs]; exact (List.nodup_cons.1 hn).1) _ hi (Nat.le_refl _), bxAt, if_neg (by omega), if_neg (by omega), hs]
  dsimp only [List.headD]
  rw [upd_self]
def HInv (s : Script) : Nat → List Nat → List Rect → Prop
 | i, [], h :: [] => ∃ l, Wlk (endsM s.ops) 0 i l ∧ (∀ k ∈ l, k < i ∧ (opAt s.ops k).kind ≠ 3) ∧ h = hullM (l.map (boxesM s))
 | i, p :: st, h :: hs => (∃ l, Wlk (endsM s.ops) (p + 1) i l ∧ (∀ k ∈ l, (p < k ∧ k < i) ∧ (opAt s.ops k).kind ≠ 3) ∧ h = hullM (l.map (boxesM s))) ∧ HInv s p st hs
 | _, _, _ => False
theorem hinv_add {i : Nat} {st : List Nat} {h : List Rect} (hk : (opAt s.ops i).kind ≠ 3) (hl : ∀ p ∈ st, p < i) (hle : i ≤ endsM s.ops i) (H : HInv s i st h) :
  HInv s (endsM s.ops i + 1) st (push1 h (boxesM s i)) := by
 have hm : ∀ l : List Nat, hullM [hullM (l.map (boxesM s)), boxesM s i] = hullM ((l ++ [i]).map (boxesM s)) := fun l => by rw [hull_two, List.map_append]; rfl
 cases st with
 | nil =>
  cases h with
  | nil => exact H.elim
  | cons a h =>
   cases h with
   | cons => exact H.elim
   | nil =>
    obtain ⟨l, h1, h2, rfl⟩ := H
    refine ⟨l ++ [i], wlk_snoc h1, fun k hkm => ?_, hm l⟩
    rcases List.mem_append.1 hkm with q | q
    ·exact ⟨by have := (h2 k q).1; omega, (h2 k q).2⟩
    ·rw [List.mem_singleton] at q; subst q; exact ⟨by omega, hk⟩
 | cons p st =>
  cases h with
  | nil => exact H.elim
  | cons a h =>
   obtain ⟨⟨l, h1, h2, rfl⟩, H2⟩ := H
   refine ⟨⟨l ++ [i], wlk_snoc h1, fun k hkm => ?_, hm l⟩, H2⟩
   have hp := hl p (List.mem_cons_self ..)
   rcases List.mem_append.1 hkm with q | q
   ·exact ⟨by have := (h2 k q).1; omega, (h2 k q).2⟩
   ·rw [List.mem_singleton] at q; subst q; exact ⟨by omega, hk⟩
theorem hinv (W : Wf s.ops) : ∀ i, i ≤ s.ops.length → HInv s i (stk s.ops i) (bxAt s i).2
 | 0, _ => ⟨[], rfl, fun k hk => by simp at hk, rfl⟩
 | i + 1, hi => by
  have ih := hinv W i (by omega)
  have hlt : ∀ p ∈ stk s.ops i, p < i := fun p hp => stk_lt hp
  rcases W.kinds i (by omega) with k | k | k
  ·have e := ends_draw W (by omega) k
   have := hinv_add (by omega) hlt (by omega) ih
   rw [e] at this
   rw [stk_draw k, bxAt, if_neg (by omega), if_pos k]
   rw [box_draw W (by omega) k] at this
   exact this
  ·rw [stk_push k, bxAt, if_pos k]
   exact ⟨⟨[], rfl, fun k hk => by simp at hk, rfl⟩, ih⟩
  ·rw [stk_pop k, bxAt, if_neg (by omega), if_neg (by omega)]
   cases hs : stk s.ops i with
   | nil => exact absurd hs (W.pops i (by omega) k)
   | cons p t =>
    have hb := (box_pop0 W (by omega) k hs).2
    have e := ends_pop W (by omega) k hs
    have hp : (opAt s.ops p).kind = 2 := stk_kind (i := i) (by rw [hs]; exact List.mem_cons_self ..)
    rw [hs] at ih hlt
    cases hh : (bxAt s i).2 with
    | nil => rw [hh] at ih; exact ih.elim
    | cons a h =>
     rw [hh] at ih hb
     have hn := stk_nodup (ops := s.ops) i
     have hlt2 : ∀ q ∈ t, q < p := fun q hq => by
      exact stk_tail_lt hs q hq
     have hpi : p < i := hlt p (List.mem_cons_self ..)
     have := hinv_add (by omega) hlt2 (by omega) ih.2
     rw [e, hb] at this
     exact this
theorem box_push (W : Wf s.ops) {p : Nat} (hp : p < s.ops.length) (hk : (opAt s.ops p).kind = 2) :
  ∃ l, Wlk (endsM s.ops) (p + 1) (endsM s.ops p) l ∧ (∀ k ∈ l, (p < k ∧ k < endsM s.ops p) ∧ (opAt s.ops k).kind ≠ 3) ∧ boxesM s p = boxM s (opAt s.ops p) (hullM (l.map (boxesM s))) := by
 obtain ⟨j, t, h1, h2, h3, h4⟩ := pop_of W (s.ops.length - (p + 1)) (p + 1) (by omega) (by rw [stk_push hk]; exact List.mem_cons_self ..)
 have e := ends_pop W h2 h3 h4
 have H := hinv W j (by omega)
 have hb := (box_pop0 W h2 h3 h4).2
 rw [h4] at H
 rw [e]
 cases hh : (bxAt s j).2 with
 | nil => rw [hh] at H; exact H.elim
 | cons a h =>
  rw [hh] at H hb
  obtain ⟨⟨l, q1, q2, rfl⟩, _⟩ := H
  exact ⟨l, q1, q2, hb⟩
theorem box_pop (W : Wf s.ops) {i : Nat} (hi : i < s.ops.length) (hk : (opAt s.ops i).kind = 3) : boxesM s i = boxesM s ((stk s.ops i).headD 0) := by
 cases hs : stk s.ops i with
 | nil => exact absurd hs (W.pops i hi hk)
 | cons p t =>
  obtain ⟨h1, h2⟩ := box_pop0 W hi hk hs
  exact h1.trans h2.symm
end
end Go.Proofs.YtlblgkelhibdoaaGreatDoor
