/- Closed facts on the program: offsets, sizes, kinds. No condition. -/
import Derived.Test.YtnhipfnbnilleaaTanE
import Derived.Test.YtnhipfnbnilleaaRows
import Derived.KernelRfl
import Derived.Test.YtnhipfnbnilleaaPickO
namespace Go.Proofs.Ytnhipfnbnilleaa
open Go.Tan
namespace Fx
theorem ag25 : aggN Try.prog 25 = some (some 7) := by kernel_rfl
theorem ag3 : aggN Try.prog 3 = some none := by kernel_rfl
theorem ag30 : aggN Try.prog 30 = some none := by kernel_rfl
theorem ag31 : aggN Try.prog 31 = some (some 5) := by kernel_rfl
theorem ag32 : aggN Try.prog 32 = some none := by kernel_rfl
theorem ag35 : aggN Try.prog 35 = some (some 14) := by kernel_rfl
theorem ag37 : aggN Try.prog 37 = some none := by kernel_rfl
theorem ag39 : aggN Try.prog 39 = some (some 5) := by kernel_rfl
theorem ag49 : aggN Try.prog 49 = some (some 40) := by kernel_rfl
theorem ag5 : aggN Try.prog 5 = some none := by kernel_rfl
theorem ag57 : aggN Try.prog 57 = some none := by kernel_rfl
theorem ag9 : aggN Try.prog 9 = some none := by kernel_rfl
theorem ar31 : arE Try.prog 31 = some (5, 30, 1) := by kernel_rfl
theorem ar33 : arE Try.prog 33 = some (5, 32, 1) := by kernel_rfl
theorem bp23_0_1_2 : bPl Try.prog 23 [0, 1, 2] = some ([.int .i64 0, .int .i64 0, .int .i64 0], [(0, 1), (1, 1), (2, 1)]) := by kernel_rfl
theorem bp25_0_1_2_3_4 : bPl Try.prog 25 [0, 1, 2, 3, 4] = some ([.int .i64 0, .int .i64 0, .int .i64 0, .int .i64 0, .int .i64 0, .int .i64 0, .int .i64 0], [(0, 1), (1, 1), (2, 1), (3, 1), (4, 3)]) := by kernel_rfl
theorem bp39_ : bPl Try.prog 39 [] = some ([.int .u8 0, .int .i64 0, .int .i64 0, .slice none 0 0, .slice none 0 0], []) := by kernel_rfl
theorem bp39_0_1_2_3 : bPl Try.prog 39 [0, 1, 2, 3] = some ([.int .u8 0, .int .i64 0, .int .i64 0, .slice none 0 0, .slice none 0 0], [(0, 1), (1, 1), (2, 1), (3, 1)]) := by kernel_rfl
theorem bp39_0_1_2_3_4 : bPl Try.prog 39 [0, 1, 2, 3, 4] = some ([.int .u8 0, .int .i64 0, .int .i64 0, .slice none 0 0, .slice none 0 0], [(0, 1), (1, 1), (2, 1), (3, 1), (4, 1)]) := by kernel_rfl
theorem bp49_3_4_5 : bPl Try.prog 49 [3, 4, 5] = some (Meta.zero.cells, [(3, 1), (4, 1), (5, 1)]) := by kernel_rfl
theorem bt4 : boolT Try.prog 4 = true := by kernel_rfl
theorem by49 : Try.prog.bytesOf 49 = 112 := by kernel_rfl
theorem co23 : Try.prog.cellsOf 23 = 3 := by kernel_rfl
theorem co25 : Try.prog.cellsOf 25 = 7 := by kernel_rfl
theorem co3 : Try.prog.cellsOf 3 = 1 := by kernel_rfl
theorem co30 : Try.prog.cellsOf 30 = 1 := by kernel_rfl
theorem co31 : Try.prog.cellsOf 31 = 5 := by kernel_rfl
theorem co32 : Try.prog.cellsOf 32 = 1 := by kernel_rfl
theorem co33 : Try.prog.cellsOf 33 = 5 := by kernel_rfl
theorem co35 : Try.prog.cellsOf 35 = 14 := by kernel_rfl
theorem co4 : Try.prog.cellsOf 4 = 1 := by kernel_rfl
theorem co47 : Try.prog.cellsOf 47 = 32 := by kernel_rfl
theorem co49 : Try.prog.cellsOf 49 = 40 := by kernel_rfl
theorem co5 : Try.prog.cellsOf 5 = 1 := by kernel_rfl
theorem co9 : Try.prog.cellsOf 9 = 1 := by kernel_rfl
theorem cv32_3 : cvK Try.prog 32 3 = some .i64 := by kernel_rfl
theorem cv3_32 : cvK Try.prog 3 32 = some .u64 := by kernel_rfl
theorem cv5_3 : cvK Try.prog 5 3 = some .i64 := by kernel_rfl
theorem eg49 : Try.prog.eqGuardType Try.prog.depth 49 = false := by kernel_rfl
theorem fo23_0 : fOff Try.prog 23 0 = some 0 := by kernel_rfl
theorem fo23_1 : fOff Try.prog 23 1 = some 1 := by kernel_rfl
theorem fo23_2 : fOff Try.prog 23 2 = some 2 := by kernel_rfl
theorem fo25_0 : fOff Try.prog 25 0 = some 0 := by kernel_rfl
theorem fo25_1 : fOff Try.prog 25 1 = some 1 := by kernel_rfl
theorem fo25_2 : fOff Try.prog 25 2 = some 2 := by kernel_rfl
theorem fo25_3 : fOff Try.prog 25 3 = some 3 := by kernel_rfl
theorem fo25_4 : fOff Try.prog 25 4 = some 4 := by kernel_rfl
theorem fo35_0 : fOff Try.prog 35 0 = some 0 := by kernel_rfl
theorem fo35_1 : fOff Try.prog 35 1 = some 5 := by kernel_rfl
theorem fo35_2 : fOff Try.prog 35 2 = some 6 := by kernel_rfl
theorem fo35_3 : fOff Try.prog 35 3 = some 7 := by kernel_rfl
theorem fo35_4 : fOff Try.prog 35 4 = some 8 := by kernel_rfl
theorem fo35_5 : fOff Try.prog 35 5 = some 9 := by kernel_rfl
theorem fo39_0 : fOff Try.prog 39 0 = some 0 := by kernel_rfl
theorem fo39_1 : fOff Try.prog 39 1 = some 1 := by kernel_rfl
theorem fo39_2 : fOff Try.prog 39 2 = some 2 := by kernel_rfl
theorem fo39_3 : fOff Try.prog 39 3 = some 3 := by kernel_rfl
theorem fo39_4 : fOff Try.prog 39 4 = some 4 := by kernel_rfl
theorem fo49_0 : fOff Try.prog 49 0 = some 0 := by kernel_rfl
theorem fo49_1 : fOff Try.prog 49 1 = some 1 := by kernel_rfl
theorem fo49_3 : fOff Try.prog 49 3 = some 3 := by kernel_rfl
theorem fo49_4 : fOff Try.prog 49 4 = some 4 := by kernel_rfl
theorem fo49_5 : fOff Try.prog 49 5 = some 5 := by kernel_rfl
theorem fo49_6 : fOff Try.prog 49 6 = some 6 := by kernel_rfl
theorem fo49_7 : fOff Try.prog 49 7 = some 7 := by kernel_rfl
theorem go10 : goFn Try.prog 10 = true := by kernel_rfl
theorem go11 : goFn Try.prog 11 = true := by kernel_rfl
theorem go12 : goFn Try.prog 12 = true := by kernel_rfl
theorem go13 : goFn Try.prog 13 = true := by kernel_rfl
theorem go14 : goFn Try.prog 14 = true := by kernel_rfl
theorem go15 : goFn Try.prog 15 = true := by kernel_rfl
theorem go16 : goFn Try.prog 16 = true := by kernel_rfl
theorem go17 : goFn Try.prog 17 = true := by kernel_rfl
theorem go18 : goFn Try.prog 18 = true := by kernel_rfl
theorem go19 : goFn Try.prog 19 = true := by kernel_rfl
theorem go20 : goFn Try.prog 20 = true := by kernel_rfl
theorem go21 : goFn Try.prog 21 = true := by kernel_rfl
theorem go22 : goFn Try.prog 22 = true := by kernel_rfl
theorem go23 : goFn Try.prog 23 = true := by kernel_rfl
theorem go24 : goFn Try.prog 24 = true := by kernel_rfl
theorem go25 : goFn Try.prog 25 = true := by kernel_rfl
theorem go26 : goFn Try.prog 26 = true := by kernel_rfl
theorem go27 : goFn Try.prog 27 = true := by kernel_rfl
theorem go28 : goFn Try.prog 28 = true := by kernel_rfl
theorem go29 : goFn Try.prog 29 = true := by kernel_rfl
theorem go30 : goFn Try.prog 30 = true := by kernel_rfl
theorem go31 : goFn Try.prog 31 = true := by kernel_rfl
theorem go32 : goFn Try.prog 32 = true := by kernel_rfl
theorem go33 : goFn Try.prog 33 = true := by kernel_rfl
theorem go34 : goFn Try.prog 34 = true := by kernel_rfl
theorem go35 : goFn Try.prog 35 = true := by kernel_rfl
theorem go36 : goFn Try.prog 36 = true := by kernel_rfl
theorem go37 : goFn Try.prog 37 = true := by kernel_rfl
theorem go38 : goFn Try.prog 38 = true := by kernel_rfl
theorem go39 : goFn Try.prog 39 = true := by kernel_rfl
theorem go40 : goFn Try.prog 40 = true := by kernel_rfl
theorem go41 : goFn Try.prog 41 = true := by kernel_rfl
theorem go42 : goFn Try.prog 42 = true := by kernel_rfl
theorem go43 : goFn Try.prog 43 = true := by kernel_rfl
theorem go8 : goFn Try.prog 8 = true := by kernel_rfl
theorem go9 : goFn Try.prog 9 = true := by kernel_rfl
theorem kt49 : Try.prog.keyTypeAt 4 49 = true := by kernel_rfl
theorem mix : Try.prog.follows .mixedOrders = true := by kernel_rfl
theorem mp62 : mpE Try.prog 62 = some (.u64, 3) := by kernel_rfl
theorem se30 : slE Try.prog 30 = some (49, 40, 112) := by kernel_rfl
theorem se37 : slE Try.prog 37 = some (32, 1, 8) := by kernel_rfl
theorem sn30 : (slE Try.prog 30).isSome = true := by kernel_rfl
theorem sn37 : (slE Try.prog 37).isSome = true := by kernel_rfl
theorem st9 : strT Try.prog 9 = true := by kernel_rfl
theorem sz25 : szT Try.prog 25 = some 7 := by kernel_rfl
theorem sz30 : szT Try.prog 30 = some 1 := by kernel_rfl
theorem sz32 : szT Try.prog 32 = some 1 := by kernel_rfl
theorem sz39 : szT Try.prog 39 = some 5 := by kernel_rfl
theorem sz49 : szT Try.prog 49 = some 40 := by kernel_rfl
theorem zr25 : zrL Try.prog 25 = some ([.int .i64 0, .int .i64 0, .int .i64 0, .int .i64 0, .int .i64 0, .int .i64 0, .int .i64 0]) := by kernel_rfl
theorem zr35 : zrL Try.prog 35 = some ([.slice none 0 0, .slice none 0 0, .slice none 0 0, .slice none 0 0, .slice none 0 0, .int .u64 0, .int .u64 0, .int .u64 0, .int .u64 0, .int .u64 0, .int .u64 0, .int .u64 0, .int .u64 0, .int .u64 0]) := by kernel_rfl
theorem zr39 : zrL Try.prog 39 = some ([.int .u8 0, .int .i64 0, .int .i64 0, .slice none 0 0, .slice none 0 0]) := by kernel_rfl
theorem zr49 : zrL Try.prog 49 = some (Meta.zero.cells) := by kernel_rfl
theorem zv3 : (Try.prog.info? 3).bind (·.zero) = some (.int .i64 0) := by kernel_rfl
theorem zv32 : (Try.prog.info? 32).bind (·.zero) = some (.int .u64 0) := by kernel_rfl
theorem zv49 : (Try.prog.info? 49).bind (·.zero) = some (.agg (Meta.zero.cells).toArray) := by kernel_rfl
end Fx
end Go.Proofs.Ytnhipfnbnilleaa
