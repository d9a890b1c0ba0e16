/- Part 3 of the proof that a law of this seat (the one that GOCLAIM.json names) returns true for every argument; nothing is assumed. -/
import Derived.Test.YtgcchccjgpiekaaGreatDoorProg
import Derived.Lib.ParseIntB
import Derived.Shelf.Small.Strs
import Derived.Test.YtgcchccjgpiekaaGreatDoorA2
set_option linter.unusedSimpArgs false
set_option linter.unusedVariables false
set_option linter.all false
namespace Go.Ev
open Go
def l0_engramtop_TopCopies : IC :=
  .seq (.seq (.reg [⟨some 15, .mov (.t 8), none⟩, ⟨some 16, .bin .lss (.t 15) (.c (.int .u64 64)), none⟩])
   (.cond (.t 16) (.skip) (.exit 0)))
  (.seq (.block 1 (.reg [⟨some 19, .mov (.t 7), none⟩, ⟨some 20, .mov (.t 0), none⟩, ⟨some 21, .cint .u64 (.t 20), none⟩, ⟨some 22, .mov (.t 8), none⟩, ⟨some 23, .bin .shr (.t 21) (.t 22), none⟩, ⟨some 24, .bin .and (.t 23) (.c (.int .u64 255)), none⟩, ⟨some 25, .cint .i64 (.t 24), none⟩, ⟨some 26, .bin .add (.t 19) (.t 25), none⟩, ⟨some 27, .mov (.t 1), none⟩, ⟨some 28, .cint .u64 (.t 27), none⟩, ⟨some 29, .mov (.t 8), none⟩, ⟨some 30, .bin .shr (.t 28) (.t 29), none⟩, ⟨some 31, .bin .and (.t 30) (.c (.int .u64 255)), none⟩, ⟨some 32, .cint .i64 (.t 31), none⟩, ⟨some 33, .bin .add (.t 26) (.t 32), none⟩, ⟨some 7, .mov (.t 33), none⟩]))
   (.reg [⟨some 17, .mov (.t 8), none⟩, ⟨some 18, .bin .add (.t 17) (.c (.int .u64 8)), none⟩, ⟨some 8, .mov (.t 18), none⟩]))
def f_engramtop_TopCopies : IFun where
  nargs := 2
  results := [.tmp 4]
  pure := true
  frz := true
  drop := []
  body :=
   .seq (.reg [⟨some 4, .mov (.c (.bool false)), none⟩])
   (.seq (.reg [⟨some 10, .mov (.t 0), none⟩, ⟨some 11, .mov (.t 1), none⟩, ⟨some 12, .call (.c (.fn n_engramtop_says [])) [.c (.str ⟨#[48, 97, 36, 56, 98, 36, 48, 67, 91, 99, 32, 49, 54, 61, 63, 126, 59, 99, 32, 50, 48, 43, 99, 194, 169, 194, 174, 99, 32, 49, 43, 67, 93, 48, 68, 48, 67, 91, 99, 32, 49, 54, 61, 63, 126, 59, 100, 99, 32, 50, 48, 43, 194, 169, 43, 68, 99, 32, 49, 43, 67, 93, 100]⟩), .t 10, .t 11], none⟩, ⟨some 9, .mov (.t 12), none⟩, ⟨some 13, .ext (.t 9) 0, none⟩, ⟨some 14, .ext (.t 9) 1, none⟩, ⟨some 5, .mov (.t 13), none⟩, ⟨some 6, .mov (.t 14), none⟩]) (.seq (.reg [⟨some 7, .mov (.c (.int .i64 0)), none⟩]) (.seq (.seq (.reg [⟨some 8, .mov (.c (.int .u64 0)), none⟩]) (.block 0 (.loopK [0, 1, 5, 6, 7, 8] l0_engramtop_TopCopies))) (.keep [5, 6, 7] (.seq (.reg [⟨some 34, .mov (.t 6), none⟩, ⟨some 35, .mov (.t 34), none⟩, ⟨some 36, .mov (.t 5), some (35, true)⟩, ⟨some 37, .mov (.t 7), some (35, true)⟩, ⟨some 38, .bin .eql (.t 36) (.t 37), some (35, true)⟩, ⟨some 39, .pick (.t 35) (.t 38) (.c (.bool false)), none⟩, ⟨some 40, .mov (.t 39), none⟩, ⟨some 41, .call (.c (.fn n_engramtop_awake [])) [], some (40, true)⟩, ⟨some 42, .pick (.t 40) (.t 41) (.c (.bool false)), none⟩, ⟨some 4, .mov (.t 42), none⟩]) (.ret))))))
def l0_engramtop_TopSorts : IC :=
  .seq (.seq (.reg [⟨some 20, .mov (.t 6), none⟩, ⟨some 21, .bin .lss (.t 20) (.c (.int .i64 6)), none⟩])
   (.cond (.t 21) (.skip) (.exit 0)))
  (.seq (.block 1 (.seq (.seq (.reg [⟨some 24, .mov (.t 6), none⟩, ⟨some 25, .mov (.t 0), none⟩, ⟨some 26, .len (.t 25), none⟩, ⟨some 27, .bin .lss (.t 24) (.t 26), none⟩]) (.cond (.t 27) (.reg [⟨some 28, .mov (.t 6), none⟩, ⟨some 29, .mov (.t 0), none⟩, ⟨some 30, .mov (.t 6), none⟩, ⟨some 31, .iadr 1 (.t 29) (.t 30), none⟩, ⟨some 32, .ld false 1 (.t 31), none⟩, ⟨some 33, .iadrA 6 1 (.t 5) (.t 28), none⟩, ⟨none, .st 1 (.t 33) (.t 32), none⟩]) (.skip))) (.reg [⟨some 34, .mov (.t 4), none⟩, ⟨some 35, .mov (.t 6), none⟩, ⟨some 36, .bin .mul (.c (.int .i64 8)) (.t 35), none⟩, ⟨some 37, .mov (.t 6), none⟩, ⟨some 38, .iadrA 6 1 (.t 5) (.t 37), none⟩, ⟨some 39, .ld false 1 (.t 38), none⟩, ⟨some 40, .call (.c (.fn n_cells_Memory_Store [])) [.t 34, .t 36, .t 39, .c (.bool true)], none⟩])))
   (.reg [⟨some 22, .mov (.t 6), none⟩, ⟨some 23, .bin .add (.t 22) (.c (.int .i64 1)), none⟩, ⟨some 6, .mov (.t 23), none⟩]))
def l1_engramtop_TopSorts : IC :=
  .seq (.seq (.reg [⟨some 46, .mov (.t 8), none⟩, ⟨some 47, .bin .gtr (.t 46) (.c (.int .i64 0)), none⟩, ⟨some 48, .mov (.t 47), none⟩, ⟨some 49, .mov (.t 8), some (48, true)⟩, ⟨some 50, .bin .sub (.t 49) (.c (.int .i64 1)), some (48, true)⟩, ⟨some 51, .iadrA 6 1 (.t 5) (.t 50), some (48, true)⟩, ⟨some 52, .ld false 1 (.t 51), some (48, true)⟩, ⟨some 53, .mov (.t 8), some (48, true)⟩, ⟨some 54, .iadrA 6 1 (.t 5) (.t 53), some (48, true)⟩, ⟨some 55, .ld false 1 (.t 54), some (48, true)⟩, ⟨some 56, .bin .gtr (.t 52) (.t 55), some (48, true)⟩, ⟨some 57, .pick (.t 48) (.t 56) (.c (.bool false)), none⟩])
   (.cond (.t 57) (.skip) (.exit 4)))
  (.seq (.block 5 (.reg [⟨some 60, .mov (.t 8), none⟩, ⟨some 61, .bin .sub (.t 60) (.c (.int .i64 1)), none⟩, ⟨some 62, .mov (.t 8), none⟩, ⟨some 63, .mov (.t 8), none⟩, ⟨some 64, .iadrA 6 1 (.t 5) (.t 63), none⟩, ⟨some 65, .ld false 1 (.t 64), none⟩, ⟨some 66, .mov (.t 8), none⟩, ⟨some 67, .bin .sub (.t 66) (.c (.int .i64 1)), none⟩, ⟨some 68, .iadrA 6 1 (.t 5) (.t 67), none⟩, ⟨some 69, .ld false 1 (.t 68), none⟩, ⟨some 70, .iadrA 6 1 (.t 5) (.t 61), none⟩, ⟨none, .st 1 (.t 70) (.t 65), none⟩, ⟨some 71, .iadrA 6 1 (.t 5) (.t 62), none⟩, ⟨none, .st 1 (.t 71) (.t 69), none⟩]))
   (.reg [⟨some 58, .mov (.t 8), none⟩, ⟨some 59, .bin .sub (.t 58) (.c (.int .i64 1)), none⟩, ⟨some 8, .mov (.t 59), none⟩]))
def l2_engramtop_TopSorts : IC :=
  .seq (.seq (.reg [⟨some 41, .mov (.t 7), none⟩, ⟨some 42, .bin .lss (.t 41) (.c (.int .i64 6)), none⟩])
   (.cond (.t 42) (.skip) (.exit 2)))
  (.seq (.block 3 (.seq (.reg [⟨some 45, .mov (.t 7), none⟩, ⟨some 8, .mov (.t 45), none⟩]) (.block 4 (.loopK [3, 4, 5, 7, 8] l1_engramtop_TopSorts))))
   (.keep [3, 4, 5, 7] (.reg [⟨some 43, .mov (.t 7), none⟩, ⟨some 44, .bin .add (.t 43) (.c (.int .i64 1)), none⟩, ⟨some 7, .mov (.t 44), none⟩])))
def l3_engramtop_TopSorts : IC :=
  .seq (.seq (.reg [⟨some 86, .mov (.t 11), none⟩, ⟨some 87, .bin .lss (.t 86) (.c (.int .i64 6)), none⟩])
   (.cond (.t 87) (.skip) (.exit 6)))
  (.seq (.block 7 (.seq (.reg [⟨some 91, .mov (.t 4), none⟩, ⟨some 92, .mov (.t 11), none⟩, ⟨some 93, .bin .mul (.c (.int .i64 8)) (.t 92), none⟩, ⟨some 94, .call (.c (.fn n_cells_Memory_Load [])) [.t 91, .t 93, .c (.bool true)], none⟩, ⟨some 90, .mov (.t 94), none⟩, ⟨some 95, .ext (.t 90) 0, none⟩, ⟨some 96, .ext (.t 90) 1, none⟩, ⟨some 12, .mov (.t 95), none⟩, ⟨some 13, .mov (.t 96), none⟩]) (.seq (.reg [⟨some 97, .mov (.t 13), none⟩, ⟨some 98, .un .not (.t 97), none⟩, ⟨some 99, .mov (.t 98), none⟩, ⟨some 100, .mov (.t 12), some (99, false)⟩, ⟨some 101, .mov (.t 11), some (99, false)⟩, ⟨some 102, .iadrA 6 1 (.t 5) (.t 101), some (99, false)⟩, ⟨some 103, .ld false 1 (.t 102), some (99, false)⟩, ⟨some 104, .bin .neq (.t 100) (.t 103), some (99, false)⟩, ⟨some 105, .pick (.t 99) (.c (.bool true)) (.t 104), none⟩]) (.cond (.t 105) (.seq (.reg [⟨some 2, .mov (.c (.bool false)), none⟩]) (.ret)) (.skip)))))
   (.reg [⟨some 88, .mov (.t 11), none⟩, ⟨some 89, .bin .add (.t 88) (.c (.int .i64 1)), none⟩, ⟨some 11, .mov (.t 89), none⟩]))
def f_engramtop_TopSorts : IFun where
  nargs := 1
  results := [.tmp 2]
  pure := true
  frz := true
  drop := []
  body :=
   .seq (.reg [⟨some 2, .mov (.c (.bool false)), none⟩])
   (.seq (.reg [⟨some 14, .build [.int .i32 0, .int .i64 0, .str ⟨#[]⟩] [(0, 1, (.c (.int .i32 115))), (2, 1, (.c (.str ⟨#[54, 67, 91, 99, 33, 63, 126, 59, 48, 68, 91, 100, 32, 53, 61, 63, 126, 59, 100, 56, 42, 69, 101, 64, 70, 101, 56, 43, 64, 71, 103, 102, 60, 63, 101, 103, 36, 101, 56, 43, 102, 36, 59, 100, 32, 49, 43, 68, 93, 99, 32, 49, 45, 67, 93, 48]⟩)))], none⟩, ⟨some 15, .bslice 3 [.int .i32 0, .int .i64 0, .str ⟨#[]⟩] 1 [(0, 3, (.t 14))], none⟩, ⟨some 16, .build [.int .i64 0, .int .i64 0, .nilsl] [(0, 1, (.c (.int .i64 1))), (1, 1, (.c (.int .i64 1))), (2, 1, (.t 15))], none⟩, ⟨some 3, .alloc [.int .i64 0, .int .i64 0, .nilsl], none⟩, ⟨none, .st 3 (.t 3) (.t 16), none⟩]) (.seq (.reg [⟨some 17, .call (.c (.fn n_cells_New [])) [.c (.int .i64 1), .c (.int .i64 1)], none⟩, ⟨some 4, .mov (.t 17), none⟩]) (.seq (.seq (.reg [⟨some 18, .mov (.t 4), none⟩, ⟨some 19, .eqn 0 false (.t 18), none⟩]) (.cond (.t 19) (.seq (.reg [⟨some 2, .mov (.c (.bool false)), none⟩]) (.ret)) (.skip))) (.seq (.reg [⟨some 5, .alloc [.int .i64 0, .int .i64 0, .int .i64 0, .int .i64 0, .int .i64 0, .int .i64 0], none⟩]) (.seq (.seq (.reg [⟨some 6, .mov (.c (.int .i64 0)), none⟩]) (.block 0 (.loopK [0, 3, 4, 5, 6] l0_engramtop_TopSorts))) (.keep [3, 4, 5] (.seq (.seq (.reg [⟨some 7, .mov (.c (.int .i64 1)), none⟩]) (.block 2 (.loopK [3, 4, 5, 7] l2_engramtop_TopSorts))) (.keep [3, 4, 5] (.seq (.regW [⟨some 73, .ld true 3 (.t 3), none⟩, ⟨some 74, .mov (.t 4), none⟩, ⟨some 75, .call (.c (.fn n_reply_New [])) [.c (.nilsl)], none⟩, ⟨some 76, .call (.c (.fn n_engine_Run [])) [.t 73, .t 74, .t 75, .c (.int .i32 115), .c (.int .i64 20000), .c (.nilsl)], none⟩, ⟨some 72, .mov (.t 76), none⟩, ⟨some 77, .ext (.t 72) 0, none⟩, ⟨some 78, .ext (.t 72) 1, none⟩, ⟨some 9, .alloc [.int .i64 0, .int .i64 0, .int .i64 0, .nilsl], none⟩, ⟨none, .st 4 (.t 9) (.t 77), none⟩, ⟨some 10, .mov (.t 78), none⟩] [(0, 3)]) (.seq (.seq (.reg [⟨some 79, .mov (.t 10), none⟩, ⟨some 80, .bin .neq (.t 79) (.c (.int .i64 0)), none⟩, ⟨some 81, .mov (.t 80), none⟩, ⟨some 82, .fadr 1 (.t 9), some (81, false)⟩, ⟨some 83, .ld false 1 (.t 82), some (81, false)⟩, ⟨some 84, .bin .neq (.t 83) (.c (.int .i64 0)), some (81, false)⟩, ⟨some 85, .pick (.t 81) (.c (.bool true)) (.t 84), none⟩]) (.cond (.t 85) (.seq (.reg [⟨some 2, .mov (.c (.bool false)), none⟩]) (.ret)) (.skip))) (.seq (.seq (.reg [⟨some 11, .mov (.c (.int .i64 0)), none⟩]) (.block 6 (.loopK [4, 5, 11] l3_engramtop_TopSorts))) (.keep [] (.seq (.reg [⟨some 106, .call (.c (.fn n_engramtop_awake [])) [], none⟩, ⟨some 2, .mov (.t 106), none⟩]) (.ret))))))))))))))
def f_engramtop_TopParts : IFun where
  nargs := 2
  results := [.tmp 4]
  pure := true
  frz := true
  drop := []
  body :=
   .seq (.reg [⟨some 4, .mov (.c (.bool false)), none⟩])
   (.seq (.reg [⟨some 10, .build [.int .i32 0, .int .i64 0, .str ⟨#[]⟩] [(0, 1, (.c (.int .i32 103))), (1, 1, (.c (.int .i64 2))), (2, 1, (.c (.str ⟨#[97, 49, 43, 65, 98, 50, 42, 66, 97, 98, 43]⟩)))], none⟩, ⟨some 11, .build [.int .i32 0, .int .i64 0, .str ⟨#[]⟩] [(0, 1, (.c (.int .i32 102))), (1, 1, (.c (.int .i64 2))), (2, 1, (.c (.str ⟨#[97, 98, 206, 187, 103, 44, 97, 98, 45]⟩)))], none⟩, ⟨some 12, .build [.int .i32 0, .int .i64 0, .str ⟨#[]⟩] [(0, 1, (.c (.int .i32 104))), (1, 1, (.c (.int .i64 2))), (2, 1, (.c (.str ⟨#[98, 97, 206, 187, 103, 97, 98, 206, 187, 102, 43]⟩)))], none⟩, ⟨some 13, .bslice 3 [.int .i32 0, .int .i64 0, .str ⟨#[]⟩, .int .i32 0, .int .i64 0, .str ⟨#[]⟩, .int .i32 0, .int .i64 0, .str ⟨#[]⟩] 3 [(0, 3, (.t 10)), (3, 3, (.t 11)), (6, 3, (.t 12))], none⟩, ⟨some 14, .build [.int .i64 0, .int .i64 0, .nilsl] [(2, 1, (.t 13))], none⟩, ⟨some 5, .alloc [.int .i64 0, .int .i64 0, .nilsl], none⟩, ⟨none, .st 3 (.t 5) (.t 14), none⟩]) (.seq (.regW [⟨some 16, .ld true 3 (.t 5), none⟩, ⟨some 17, .call (.c (.fn n_cells_New [])) [.c (.int .i64 0), .c (.int .i64 0)], none⟩, ⟨some 18, .call (.c (.fn n_reply_New [])) [.c (.nilsl)], none⟩, ⟨some 19, .mov (.t 0), none⟩, ⟨some 20, .mov (.t 1), none⟩, ⟨some 21, .bslice 1 [.int .i64 0, .int .i64 0] 2 [(0, 1, (.t 19)), (1, 1, (.t 20))], none⟩, ⟨some 22, .call (.c (.fn n_engine_Run [])) [.t 16, .t 17, .t 18, .c (.int .i32 102), .c (.int .i64 99), .t 21], none⟩, ⟨some 15, .mov (.t 22), none⟩, ⟨some 23, .ext (.t 15) 0, none⟩, ⟨some 24, .ext (.t 15) 1, none⟩, ⟨some 6, .alloc [.int .i64 0, .int .i64 0, .int .i64 0, .nilsl], none⟩, ⟨none, .st 4 (.t 6) (.t 23), none⟩, ⟨some 7, .mov (.t 24), none⟩] [(0, 2), (0, 5), (0, 6), (5, 5)]) (.seq (.regW [⟨some 26, .ld true 3 (.t 5), none⟩, ⟨some 27, .call (.c (.fn n_cells_New [])) [.c (.int .i64 0), .c (.int .i64 0)], none⟩, ⟨some 28, .call (.c (.fn n_reply_New [])) [.c (.nilsl)], none⟩, ⟨some 29, .mov (.t 0), none⟩, ⟨some 30, .mov (.t 1), none⟩, ⟨some 31, .bslice 1 [.int .i64 0, .int .i64 0] 2 [(0, 1, (.t 29)), (1, 1, (.t 30))], none⟩, ⟨some 32, .call (.c (.fn n_engine_Run [])) [.t 26, .t 27, .t 28, .c (.int .i32 104), .c (.int .i64 99), .t 31], none⟩, ⟨some 25, .mov (.t 32), none⟩, ⟨some 33, .ext (.t 25) 0, none⟩, ⟨some 34, .ext (.t 25) 1, none⟩, ⟨some 8, .alloc [.int .i64 0, .int .i64 0, .int .i64 0, .nilsl], none⟩, ⟨none, .st 4 (.t 8) (.t 33), none⟩, ⟨some 9, .mov (.t 34), none⟩] [(0, 2), (0, 5), (0, 6), (5, 5)]) (.seq (.reg [⟨some 35, .mov (.t 7), none⟩, ⟨some 36, .bin .eql (.t 35) (.c (.int .i64 0)), none⟩, ⟨some 37, .mov (.t 36), none⟩, ⟨some 38, .mov (.t 9), some (37, true)⟩, ⟨some 39, .bin .eql (.t 38) (.c (.int .i64 0)), some (37, true)⟩, ⟨some 40, .pick (.t 37) (.t 39) (.c (.bool false)), none⟩, ⟨some 41, .mov (.t 40), none⟩, ⟨some 42, .fadr 0 (.t 6), some (41, true)⟩, ⟨some 43, .ld false 1 (.t 42), some (41, true)⟩, ⟨some 44, .mov (.t 0), some (41, true)⟩, ⟨some 45, .mov (.t 1), some (41, true)⟩, ⟨some 46, .bin .sub (.t 44) (.t 45), some (41, true)⟩, ⟨some 47, .bin .eql (.t 43) (.t 46), some (41, true)⟩, ⟨some 48, .pick (.t 41) (.t 47) (.c (.bool false)), none⟩, ⟨some 49, .mov (.t 48), none⟩, ⟨some 50, .fadr 0 (.t 8), some (49, true)⟩, ⟨some 51, .ld false 1 (.t 50), some (49, true)⟩, ⟨some 52, .mov (.t 1), some (49, true)⟩, ⟨some 53, .bin .add (.t 52) (.c (.int .i64 1)), some (49, true)⟩, ⟨some 54, .mov (.t 0), some (49, true)⟩, ⟨some 55, .bin .mul (.c (.int .i64 2)) (.t 54), some (49, true)⟩, ⟨some 56, .bin .add (.t 53) (.t 55), some (49, true)⟩, ⟨some 57, .mov (.t 0), some (49, true)⟩, ⟨some 58, .bin .add (.t 56) (.t 57), some (49, true)⟩, ⟨some 59, .mov (.t 1), some (49, true)⟩, ⟨some 60, .bin .sub (.t 58) (.t 59), some (49, true)⟩, ⟨some 61, .bin .eql (.t 51) (.t 60), some (49, true)⟩, ⟨some 62, .pick (.t 49) (.t 61) (.c (.bool false)), none⟩, ⟨some 63, .mov (.t 62), none⟩, ⟨some 64, .call (.c (.fn n_engramtop_awake [])) [], some (63, true)⟩, ⟨some 65, .pick (.t 63) (.t 64) (.c (.bool false)), none⟩, ⟨some 4, .mov (.t 65), none⟩]) (.ret)))))
def f_engramtop_TopNested : IFun where
  nargs := 2
  results := [.tmp 4]
  pure := true
  frz := true
  drop := []
  body :=
   .seq (.reg [⟨some 4, .mov (.c (.bool false)), none⟩])
   (.seq (.reg [⟨some 9, .mov (.t 0), none⟩, ⟨some 10, .bin .and (.t 9) (.c (.int .i64 31)), none⟩, ⟨some 11, .mov (.t 1), none⟩, ⟨some 12, .bin .and (.t 11) (.c (.int .i64 31)), none⟩, ⟨some 5, .mov (.t 10), none⟩, ⟨some 6, .mov (.t 12), none⟩]) (.seq (.reg [⟨some 14, .mov (.t 5), none⟩, ⟨some 15, .mov (.t 6), none⟩, ⟨some 16, .call (.c (.fn n_engramtop_says [])) [.c (.str ⟨#[48, 67, 91, 97, 33, 63, 126, 59, 98, 68, 91, 100, 33, 63, 126, 59, 99, 32, 49, 43, 67, 100, 32, 49, 45, 68, 93, 97, 32, 49, 45, 65, 93, 99]⟩), .t 14, .t 15], none⟩, ⟨some 13, .mov (.t 16), none⟩, ⟨some 17, .ext (.t 13) 0, none⟩, ⟨some 18, .ext (.t 13) 1, none⟩, ⟨some 7, .mov (.t 17), none⟩, ⟨some 8, .mov (.t 18), none⟩]) (.seq (.reg [⟨some 19, .mov (.t 8), none⟩, ⟨some 20, .mov (.t 19), none⟩, ⟨some 21, .mov (.t 7), some (20, true)⟩, ⟨some 22, .mov (.t 5), some (20, true)⟩, ⟨some 23, .mov (.t 6), some (20, true)⟩, ⟨some 24, .bin .mul (.t 22) (.t 23), some (20, true)⟩, ⟨some 25, .bin .eql (.t 21) (.t 24), some (20, true)⟩, ⟨some 26, .pick (.t 20) (.t 25) (.c (.bool false)), none⟩, ⟨some 27, .mov (.t 26), none⟩, ⟨some 28, .call (.c (.fn n_engramtop_awake [])) [], some (27, true)⟩, ⟨some 29, .pick (.t 27) (.t 28) (.c (.bool false)), none⟩, ⟨some 4, .mov (.t 29), none⟩]) (.ret))))
def f_engramtop_TopEvens : IFun where
  nargs := 1
  results := [.tmp 2]
  pure := true
  frz := true
  drop := []
  body :=
   .seq (.reg [⟨some 2, .mov (.c (.bool false)), none⟩])
   (.seq (.reg [⟨some 7, .mov (.t 0), none⟩, ⟨some 8, .bin .and (.t 7) (.c (.int .i64 15)), none⟩, ⟨some 3, .mov (.t 8), none⟩]) (.seq (.reg [⟨some 9, .build [.int .i32 0, .int .i64 0, .str ⟨#[]⟩] [(0, 1, (.c (.int .i32 111))), (1, 1, (.c (.int .i64 1))), (2, 1, (.c (.str ⟨#[97, 63, 97, 32, 49, 45, 63, 97, 32, 50, 45, 206, 187, 111, 58, 49, 59, 58, 48, 59]⟩)))], none⟩, ⟨some 10, .bslice 3 [.int .i32 0, .int .i64 0, .str ⟨#[]⟩] 1 [(0, 3, (.t 9))], none⟩, ⟨some 11, .build [.int .i64 0, .int .i64 0, .nilsl] [(2, 1, (.t 10))], none⟩, ⟨some 4, .alloc [.int .i64 0, .int .i64 0, .nilsl], none⟩, ⟨none, .st 3 (.t 4) (.t 11), none⟩]) (.seq (.regW [⟨some 13, .ld true 3 (.t 4), none⟩, ⟨some 14, .call (.c (.fn n_cells_New [])) [.c (.int .i64 0), .c (.int .i64 0)], none⟩, ⟨some 15, .call (.c (.fn n_reply_New [])) [.c (.nilsl)], none⟩, ⟨some 16, .mov (.t 3), none⟩, ⟨some 17, .bslice 1 [.int .i64 0] 1 [(0, 1, (.t 16))], none⟩, ⟨some 18, .call (.c (.fn n_engine_Run [])) [.t 13, .t 14, .t 15, .c (.int .i32 111), .c (.int .i64 999), .t 17], none⟩, ⟨some 12, .mov (.t 18), none⟩, ⟨some 19, .ext (.t 12) 0, none⟩, ⟨some 20, .ext (.t 12) 1, none⟩, ⟨some 5, .alloc [.int .i64 0, .int .i64 0, .int .i64 0, .nilsl], none⟩, ⟨none, .st 4 (.t 5) (.t 19), none⟩, ⟨some 6, .mov (.t 20), none⟩] [(0, 2), (0, 4), (0, 5), (4, 4)]) (.seq (.reg [⟨some 21, .mov (.t 6), none⟩, ⟨some 22, .bin .eql (.t 21) (.c (.int .i64 0)), none⟩, ⟨some 23, .mov (.t 22), none⟩, ⟨some 24, .fadr 1 (.t 5), some (23, true)⟩, ⟨some 25, .ld false 1 (.t 24), some (23, true)⟩, ⟨some 26, .bin .eql (.t 25) (.c (.int .i64 0)), some (23, true)⟩, ⟨some 27, .pick (.t 23) (.t 26) (.c (.bool false)), none⟩, ⟨some 28, .mov (.t 27), none⟩, ⟨some 29, .fadr 0 (.t 5), some (28, true)⟩, ⟨some 30, .ld false 1 (.t 29), some (28, true)⟩, ⟨some 31, .mov (.t 3), some (28, true)⟩, ⟨some 32, .bin .rem (.t 31) (.c (.int .i64 2)), some (28, true)⟩, ⟨some 33, .bin .eql (.t 30) (.t 32), some (28, true)⟩, ⟨some 34, .pick (.t 28) (.t 33) (.c (.bool false)), none⟩, ⟨some 35, .mov (.t 34), none⟩, ⟨some 36, .call (.c (.fn n_engramtop_awake [])) [], some (35, true)⟩, ⟨some 37, .pick (.t 35) (.t 36) (.c (.bool false)), none⟩, ⟨some 2, .mov (.t 37), none⟩]) (.ret)))))
def l0_engramtop_TopReplies : IC :=
  .seq (.seq (.reg [⟨some 17, .mov (.t 7), none⟩, ⟨some 18, .mov (.t 6), none⟩, ⟨some 19, .bin .lss (.t 17) (.t 18), none⟩])
   (.cond (.t 19) (.skip) (.exit 0)))
  (.seq (.block 1 (.seq (.reg [⟨some 22, .mov (.t 4), none⟩, ⟨some 23, .mov (.t 0), none⟩, ⟨some 24, .mov (.t 7), none⟩, ⟨some 25, .iadr 1 (.t 23) (.t 24), none⟩, ⟨some 26, .ld false 1 (.t 25), none⟩, ⟨some 27, .mkif t_int64 (.t 26), none⟩, ⟨some 28, .bslice 1 [.nilifc] 1 [(0, 1, (.t 27))], none⟩, ⟨some 29, .app 1 16 (.t 22) (.t 28), none⟩, ⟨some 4, .mov (.t 29), none⟩]) (.reg [⟨some 30, .mov (.t 5), none⟩, ⟨some 31, .bin .mul (.t 30) (.c (.int .i64 10)), none⟩, ⟨some 32, .mov (.t 0), none⟩, ⟨some 33, .mov (.t 7), none⟩, ⟨some 34, .iadr 1 (.t 32) (.t 33), none⟩, ⟨some 35, .ld false 1 (.t 34), none⟩, ⟨some 36, .bin .add (.t 31) (.t 35), none⟩, ⟨some 5, .mov (.t 36), none⟩])))
   (.reg [⟨some 20, .mov (.t 7), none⟩, ⟨some 21, .bin .add (.t 20) (.c (.int .i64 1)), none⟩, ⟨some 7, .mov (.t 21), none⟩]))
def l1_engramtop_TopReplies : IC :=
  .seq (.reg [⟨some 71, .bin .lss (.t 70) (.t 69), none⟩])
  (.seq (.cond (.t 71) (.skip) (.exit 2))
   (.seq (.block 3 (.seq (.reg [⟨some 72, .mov (.t 70), none⟩, ⟨some 10, .mov (.t 72), none⟩]) (.seq (.reg [⟨some 73, .fadr 3 (.t 8), none⟩, ⟨some 74, .ld false 1 (.t 73), none⟩, ⟨some 75, .mov (.t 10), none⟩, ⟨some 76, .iadr 2 (.t 74) (.t 75), none⟩, ⟨some 77, .ld true 2 (.t 76), none⟩, ⟨some 78, .mov (.t 6), none⟩, ⟨some 79, .mov (.t 10), none⟩, ⟨some 80, .bin .sub (.t 78) (.t 79), none⟩, ⟨some 81, .build [.int .i32 0, .int .i64 0] [(0, 1, (.c (.int .i32 113))), (1, 1, (.t 80))], none⟩, ⟨some 82, .eqa [0, 0] true (.t 77) (.t 81), none⟩]) (.cond (.t 82) (.seq (.reg [⟨some 2, .mov (.c (.bool false)), none⟩]) (.ret)) (.skip))))) (.reg [⟨some 83, .bin .add (.t 70) (.c (.int .i64 1)), none⟩, ⟨some 70, .mov (.t 83), none⟩])))
def f_engramtop_TopReplies : IFun where
  nargs := 1
  results := [.tmp 2]
  pure := true
  frz := true
  drop := []
  body :=
   .seq (.reg [⟨some 2, .mov (.c (.bool false)), none⟩])
   (.seq (.reg [⟨some 11, .build [.int .i32 0, .int .i64 0, .str ⟨#[]⟩] [(0, 1, (.c (.int .i32 102))), (1, 1, (.c (.int .i64 1))), (2, 1, (.c (.str ⟨#[48, 67, 91, 97, 33, 63, 126, 59, 99, 32, 49, 48, 42, 97, 207, 128, 113, 43, 67, 97, 32, 49, 45, 65, 93, 99]⟩)))], none⟩, ⟨some 12, .bslice 3 [.int .i32 0, .int .i64 0, .str ⟨#[]⟩] 1 [(0, 3, (.t 11))], none⟩, ⟨some 13, .build [.int .i64 0, .int .i64 0, .nilsl] [(2, 1, (.t 12))], none⟩, ⟨some 3, .alloc [.int .i64 0, .int .i64 0, .nilsl], none⟩, ⟨none, .st 3 (.t 3) (.t 13), none⟩]) (.seq (.reg [⟨some 4, .mov (.c (.nilsl)), none⟩]) (.seq (.reg [⟨some 5, .mov (.c (.int .i64 0)), none⟩]) (.seq (.reg [⟨some 14, .mov (.t 0), none⟩, ⟨some 15, .len (.t 14), none⟩, ⟨some 16, .mm false (.t 15) (.c (.int .i64 20)), none⟩, ⟨some 6, .mov (.t 16), none⟩]) (.seq (.seq (.reg [⟨some 7, .mov (.c (.int .i64 0)), none⟩]) (.block 0 (.loopK [0, 3, 4, 5, 6, 7] l0_engramtop_TopReplies))) (.keep [3, 4, 5, 6] (.seq (.regW [⟨some 38, .ld true 3 (.t 3), none⟩, ⟨some 39, .call (.c (.fn n_cells_New [])) [.c (.int .i64 0), .c (.int .i64 0)], none⟩, ⟨some 40, .mov (.t 4), none⟩, ⟨some 41, .call (.c (.fn n_reply_New [])) [.t 40], none⟩, ⟨some 42, .mov (.t 6), none⟩, ⟨some 43, .bslice 1 [.int .i64 0] 1 [(0, 1, (.t 42))], none⟩, ⟨some 44, .call (.c (.fn n_engine_Run [])) [.t 38, .t 39, .t 41, .c (.int .i32 102), .c (.int .i64 9999), .t 43], none⟩, ⟨some 37, .mov (.t 44), none⟩, ⟨some 45, .ext (.t 37) 0, none⟩, ⟨some 46, .ext (.t 37) 1, none⟩, ⟨some 8, .alloc [.int .i64 0, .int .i64 0, .int .i64 0, .nilsl], none⟩, ⟨none, .st 4 (.t 8) (.t 45), none⟩, ⟨some 9, .mov (.t 46), none⟩] [(0, 3), (0, 5), (0, 6), (5, 5)]) (.seq (.seq (.reg [⟨some 47, .mov (.t 9), none⟩, ⟨some 48, .bin .neq (.t 47) (.c (.int .i64 0)), none⟩, ⟨some 49, .mov (.t 48), none⟩, ⟨some 50, .fadr 1 (.t 8), some (49, false)⟩, ⟨some 51, .ld false 1 (.t 50), some (49, false)⟩, ⟨some 52, .bin .neq (.t 51) (.c (.int .i64 0)), some (49, false)⟩, ⟨some 53, .pick (.t 49) (.c (.bool true)) (.t 52), none⟩, ⟨some 54, .mov (.t 53), none⟩, ⟨some 55, .fadr 0 (.t 8), some (54, false)⟩, ⟨some 56, .ld false 1 (.t 55), some (54, false)⟩, ⟨some 57, .mov (.t 5), some (54, false)⟩, ⟨some 58, .bin .neq (.t 56) (.t 57), some (54, false)⟩, ⟨some 59, .pick (.t 54) (.c (.bool true)) (.t 58), none⟩, ⟨some 60, .mov (.t 59), none⟩, ⟨some 61, .fadr 3 (.t 8), some (60, false)⟩, ⟨some 62, .ld false 1 (.t 61), some (60, false)⟩, ⟨some 63, .len (.t 62), some (60, false)⟩, ⟨some 64, .mov (.t 6), some (60, false)⟩, ⟨some 65, .bin .neq (.t 63) (.t 64), some (60, false)⟩, ⟨some 66, .pick (.t 60) (.c (.bool true)) (.t 65), none⟩]) (.cond (.t 66) (.seq (.reg [⟨some 2, .mov (.c (.bool false)), none⟩]) (.ret)) (.skip))) (.seq (.seq (.reg [⟨some 67, .fadr 3 (.t 8), none⟩, ⟨some 68, .ld false 1 (.t 67), none⟩, ⟨some 69, .len (.t 68), none⟩, ⟨some 70, .mov (.c (.int .i64 0)), none⟩]) (.block 2 (.loopK [6, 8, 69, 70] l1_engramtop_TopReplies))) (.keep [] (.seq (.reg [⟨some 84, .call (.c (.fn n_engramtop_awake [])) [], none⟩, ⟨some 2, .mov (.t 84), none⟩]) (.ret))))))))))))
def l0_engramtop_TopDoubles : IC :=
  .seq (.seq (.reg [⟨some 19, .mov (.t 9), none⟩, ⟨some 20, .mov (.t 5), none⟩, ⟨some 21, .bin .lss (.t 19) (.t 20), none⟩])
   (.cond (.t 21) (.skip) (.exit 0)))
  (.seq (.block 1 (.reg [⟨some 24, .mov (.t 8), none⟩, ⟨some 25, .mov (.t 8), none⟩, ⟨some 26, .bin .add (.t 24) (.t 25), none⟩, ⟨some 8, .mov (.t 26), none⟩]))
   (.reg [⟨some 22, .mov (.t 9), none⟩, ⟨some 23, .bin .add (.t 22) (.c (.int .i64 1)), none⟩, ⟨some 9, .mov (.t 23), none⟩]))
def f_engramtop_TopDoubles : IFun where
  nargs := 2
  results := [.tmp 4]
  pure := true
  frz := true
  drop := []
  body :=
   .seq (.reg [⟨some 4, .mov (.c (.bool false)), none⟩])
   (.seq (.reg [⟨some 10, .mov (.t 1), none⟩, ⟨some 11, .bin .and (.t 10) (.c (.int .i64 127)), none⟩, ⟨some 5, .mov (.t 11), none⟩]) (.seq (.reg [⟨some 13, .mov (.t 0), none⟩, ⟨some 14, .mov (.t 5), none⟩, ⟨some 15, .call (.c (.fn n_engramtop_says [])) [.c (.str ⟨#[91, 98, 33, 63, 126, 59, 97, 46, 43, 65, 98, 32, 49, 45, 66, 93, 97]⟩), .t 13, .t 14], none⟩, ⟨some 12, .mov (.t 15), none⟩, ⟨some 16, .ext (.t 12) 0, none⟩, ⟨some 17, .ext (.t 12) 1, none⟩, ⟨some 6, .mov (.t 16), none⟩, ⟨some 7, .mov (.t 17), none⟩]) (.seq (.reg [⟨some 18, .mov (.t 0), none⟩, ⟨some 8, .mov (.t 18), none⟩]) (.seq (.seq (.reg [⟨some 9, .mov (.c (.int .i64 0)), none⟩]) (.block 0 (.loopK [5, 6, 7, 8, 9] l0_engramtop_TopDoubles))) (.keep [6, 7, 8] (.seq (.reg [⟨some 27, .mov (.t 7), none⟩, ⟨some 28, .mov (.t 27), none⟩, ⟨some 29, .mov (.t 6), some (28, true)⟩, ⟨some 30, .mov (.t 8), some (28, true)⟩, ⟨some 31, .bin .eql (.t 29) (.t 30), some (28, true)⟩, ⟨some 32, .pick (.t 28) (.t 31) (.c (.bool false)), none⟩, ⟨some 33, .mov (.t 32), none⟩, ⟨some 34, .call (.c (.fn n_engramtop_awake [])) [], some (33, true)⟩, ⟨some 35, .pick (.t 33) (.t 34) (.c (.bool false)), none⟩, ⟨some 4, .mov (.t 35), none⟩]) (.ret)))))))
def l0_engramtop_TopFactorials : IC :=
  .seq (.seq (.reg [⟨some 25, .mov (.t 8), none⟩, ⟨some 26, .mov (.t 3), none⟩, ⟨some 27, .bin .leq (.t 25) (.t 26), none⟩])
   (.cond (.t 27) (.skip) (.exit 0)))
  (.seq (.block 1 (.reg [⟨some 30, .mov (.t 7), none⟩, ⟨some 31, .mov (.t 8), none⟩, ⟨some 32, .bin .mul (.t 30) (.t 31), none⟩, ⟨some 7, .mov (.t 32), none⟩]))
   (.reg [⟨some 28, .mov (.t 8), none⟩, ⟨some 29, .bin .add (.t 28) (.c (.int .i64 1)), none⟩, ⟨some 8, .mov (.t 29), none⟩]))
def f_engramtop_TopFactorials : IFun where
  nargs := 1
  results := [.tmp 2]
  pure := true
  frz := true
  drop := []
  body :=
   .seq (.reg [⟨some 2, .mov (.c (.bool false)), none⟩])
   (.seq (.reg [⟨some 9, .mov (.t 0), none⟩, ⟨some 10, .bin .and (.t 9) (.c (.int .i64 31)), none⟩, ⟨some 3, .mov (.t 10), none⟩]) (.seq (.seq (.reg [⟨some 11, .mov (.t 3), none⟩, ⟨some 12, .bin .gtr (.t 11) (.c (.int .i64 29)), none⟩]) (.cond (.t 12) (.reg [⟨some 3, .mov (.c (.int .i64 7)), none⟩]) (.skip))) (.seq (.reg [⟨some 13, .build [.int .i32 0, .int .i64 0, .str ⟨#[]⟩] [(0, 1, (.c (.int .i32 102))), (1, 1, (.c (.int .i64 1))), (2, 1, (.c (.str ⟨#[97, 63, 97, 97, 32, 49, 45, 206, 187, 102, 42, 58, 49, 59]⟩)))], none⟩, ⟨some 14, .bslice 3 [.int .i32 0, .int .i64 0, .str ⟨#[]⟩] 1 [(0, 3, (.t 13))], none⟩, ⟨some 15, .build [.int .i64 0, .int .i64 0, .nilsl] [(2, 1, (.t 14))], none⟩, ⟨some 4, .alloc [.int .i64 0, .int .i64 0, .nilsl], none⟩, ⟨none, .st 3 (.t 4) (.t 15), none⟩]) (.seq (.regW [⟨some 17, .ld true 3 (.t 4), none⟩, ⟨some 18, .call (.c (.fn n_cells_New [])) [.c (.int .i64 0), .c (.int .i64 0)], none⟩, ⟨some 19, .call (.c (.fn n_reply_New [])) [.c (.nilsl)], none⟩, ⟨some 20, .mov (.t 3), none⟩, ⟨some 21, .bslice 1 [.int .i64 0] 1 [(0, 1, (.t 20))], none⟩, ⟨some 22, .call (.c (.fn n_engine_Run [])) [.t 17, .t 18, .t 19, .c (.int .i32 102), .c (.int .i64 999), .t 21], none⟩, ⟨some 16, .mov (.t 22), none⟩, ⟨some 23, .ext (.t 16) 0, none⟩, ⟨some 24, .ext (.t 16) 1, none⟩, ⟨some 5, .alloc [.int .i64 0, .int .i64 0, .int .i64 0, .nilsl], none⟩, ⟨none, .st 4 (.t 5) (.t 23), none⟩, ⟨some 6, .mov (.t 24), none⟩] [(0, 2), (0, 4), (0, 5), (4, 4)]) (.seq (.reg [⟨some 7, .mov (.c (.int .i64 1)), none⟩]) (.seq (.seq (.reg [⟨some 8, .mov (.c (.int .i64 2)), none⟩]) (.block 0 (.loopK [3, 5, 6, 7, 8] l0_engramtop_TopFactorials))) (.keep [5, 6, 7] (.seq (.reg [⟨some 33, .mov (.t 6), none⟩, ⟨some 34, .bin .eql (.t 33) (.c (.int .i64 0)), none⟩, ⟨some 35, .mov (.t 34), none⟩, ⟨some 36, .fadr 1 (.t 5), some (35, true)⟩, ⟨some 37, .ld false 1 (.t 36), some (35, true)⟩, ⟨some 38, .bin .eql (.t 37) (.c (.int .i64 0)), some (35, true)⟩, ⟨some 39, .pick (.t 35) (.t 38) (.c (.bool false)), none⟩, ⟨some 40, .mov (.t 39), none⟩, ⟨some 41, .fadr 0 (.t 5), some (40, true)⟩, ⟨some 42, .ld false 1 (.t 41), some (40, true)⟩, ⟨some 43, .mov (.t 7), some (40, true)⟩, ⟨some 44, .bin .eql (.t 42) (.t 43), some (40, true)⟩, ⟨some 45, .pick (.t 40) (.t 44) (.c (.bool false)), none⟩, ⟨some 46, .mov (.t 45), none⟩, ⟨some 47, .call (.c (.fn n_engramtop_awake [])) [], some (46, true)⟩, ⟨some 48, .pick (.t 46) (.t 47) (.c (.bool false)), none⟩, ⟨some 2, .mov (.t 48), none⟩]) (.ret)))))))))
def l0_engramtop_TopDigits : IC :=
  .seq (.seq (.reg [⟨some 16, .mov (.t 7), none⟩, ⟨some 17, .bin .gtr (.t 16) (.c (.int .i64 0)), none⟩])
   (.cond (.t 17) (.skip) (.exit 0)))
  (.seq (.block 1 (.reg [⟨some 20, .mov (.t 6), none⟩, ⟨some 21, .bin .mul (.t 20) (.c (.int .i64 10)), none⟩, ⟨some 22, .mov (.t 7), none⟩, ⟨some 23, .bin .rem (.t 22) (.c (.int .i64 10)), none⟩, ⟨some 24, .bin .add (.t 21) (.t 23), none⟩, ⟨some 6, .mov (.t 24), none⟩]))
   (.reg [⟨some 18, .mov (.t 7), none⟩, ⟨some 19, .bin .quo (.t 18) (.c (.int .i64 10)), none⟩, ⟨some 7, .mov (.t 19), none⟩]))
def f_engramtop_TopDigits : IFun where
  nargs := 1
  results := [.tmp 2]
  pure := true
  frz := true
  drop := []
  body :=
   .seq (.reg [⟨some 2, .mov (.c (.bool false)), none⟩])
   (.seq (.reg [⟨some 8, .mov (.t 0), none⟩, ⟨some 9, .bin .and (.t 8) (.c (.int .i64 1099511627775)), none⟩, ⟨some 3, .mov (.t 9), none⟩]) (.seq (.reg [⟨some 11, .mov (.t 3), none⟩, ⟨some 12, .call (.c (.fn n_engramtop_says [])) [.c (.str ⟨#[48, 67, 91, 97, 33, 63, 126, 59, 99, 32, 49, 48, 42, 97, 32, 49, 48, 37, 43, 67, 97, 32, 49, 48, 47, 65, 93, 99]⟩), .t 11, .c (.int .i64 0)], none⟩, ⟨some 10, .mov (.t 12), none⟩, ⟨some 13, .ext (.t 10) 0, none⟩, ⟨some 14, .ext (.t 10) 1, none⟩, ⟨some 4, .mov (.t 13), none⟩, ⟨some 5, .mov (.t 14), none⟩]) (.seq (.reg [⟨some 6, .mov (.c (.int .i64 0)), none⟩]) (.seq (.seq (.reg [⟨some 15, .mov (.t 3), none⟩, ⟨some 7, .mov (.t 15), none⟩]) (.block 0 (.loopK [4, 5, 6, 7] l0_engramtop_TopDigits))) (.keep [4, 5, 6] (.seq (.reg [⟨some 25, .mov (.t 5), none⟩, ⟨some 26, .mov (.t 25), none⟩, ⟨some 27, .mov (.t 4), some (26, true)⟩, ⟨some 28, .mov (.t 6), some (26, true)⟩, ⟨some 29, .bin .eql (.t 27) (.t 28), some (26, true)⟩, ⟨some 30, .pick (.t 26) (.t 29) (.c (.bool false)), none⟩, ⟨some 31, .mov (.t 30), none⟩, ⟨some 32, .call (.c (.fn n_engramtop_awake [])) [], some (31, true)⟩, ⟨some 33, .pick (.t 31) (.t 32) (.c (.bool false)), none⟩, ⟨some 2, .mov (.t 33), none⟩]) (.ret)))))))
def f_engramtop_TopRoots : IFun where
  nargs := 1
  results := [.tmp 2]
  pure := true
  frz := true
  drop := []
  body :=
   .seq (.reg [⟨some 2, .mov (.c (.bool false)), none⟩])
   (.seq (.reg [⟨some 6, .mov (.t 0), none⟩, ⟨some 7, .bin .and (.t 6) (.c (.int .i64 1099511627775)), none⟩, ⟨some 3, .mov (.t 7), none⟩]) (.seq (.reg [⟨some 9, .mov (.t 3), none⟩, ⟨some 10, .call (.c (.fn n_engramtop_says [])) [.c (.str ⟨#[48, 67, 49, 32, 50, 49, 194, 171, 68, 91, 100, 32, 99, 45, 49, 61, 63, 126, 59, 99, 100, 43, 50, 47, 66, 98, 98, 42, 97, 60, 98, 98, 42, 97, 61, 124, 63, 98, 67, 58, 98, 68, 59, 93, 99]⟩), .t 9, .c (.int .i64 0)], none⟩, ⟨some 8, .mov (.t 10), none⟩, ⟨some 11, .ext (.t 8) 0, none⟩, ⟨some 12, .ext (.t 8) 1, none⟩, ⟨some 4, .mov (.t 11), none⟩, ⟨some 5, .mov (.t 12), none⟩]) (.seq (.reg [⟨some 13, .mov (.t 5), none⟩, ⟨some 14, .mov (.t 13), none⟩, ⟨some 15, .mov (.t 4), some (14, true)⟩, ⟨some 16, .bin .geq (.t 15) (.c (.int .i64 0)), some (14, true)⟩, ⟨some 17, .pick (.t 14) (.t 16) (.c (.bool false)), none⟩, ⟨some 18, .mov (.t 17), none⟩, ⟨some 19, .mov (.t 4), some (18, true)⟩, ⟨some 20, .mov (.t 4), some (18, true)⟩, ⟨some 21, .bin .mul (.t 19) (.t 20), some (18, true)⟩, ⟨some 22, .mov (.t 3), some (18, true)⟩, ⟨some 23, .bin .leq (.t 21) (.t 22), some (18, true)⟩, ⟨some 24, .pick (.t 18) (.t 23) (.c (.bool false)), none⟩, ⟨some 25, .mov (.t 24), none⟩, ⟨some 26, .mov (.t 4), some (25, true)⟩, ⟨some 27, .bin .add (.t 26) (.c (.int .i64 1)), some (25, true)⟩, ⟨some 28, .mov (.t 4), some (25, true)⟩, ⟨some 29, .bin .add (.t 28) (.c (.int .i64 1)), some (25, true)⟩, ⟨some 30, .bin .mul (.t 27) (.t 29), some (25, true)⟩, ⟨some 31, .mov (.t 3), some (25, true)⟩, ⟨some 32, .bin .gtr (.t 30) (.t 31), some (25, true)⟩, ⟨some 33, .pick (.t 25) (.t 32) (.c (.bool false)), none⟩, ⟨some 34, .mov (.t 33), none⟩, ⟨some 35, .call (.c (.fn n_engramtop_awake [])) [], some (34, true)⟩, ⟨some 36, .pick (.t 34) (.t 35) (.c (.bool false)), none⟩, ⟨some 2, .mov (.t 36), none⟩]) (.ret))))
def l0_engramtop_TopBytes : IC :=
  .seq (.seq (.reg [⟨some 16, .mov (.t 8), none⟩, ⟨some 17, .bin .lss (.t 16) (.c (.int .u64 8)), none⟩])
   (.cond (.t 17) (.skip) (.exit 0)))
  (.seq (.block 1 (.seq (.reg [⟨some 20, .mov (.t 0), none⟩, ⟨some 21, .cint .u64 (.t 20), none⟩, ⟨some 9, .mov (.t 21), none⟩]) (.seq (.seq (.reg [⟨some 22, .mov (.t 8), none⟩, ⟨some 23, .bin .and (.t 22) (.c (.int .u64 1)), none⟩, ⟨some 24, .bin .eql (.t 23) (.c (.int .u64 1)), none⟩]) (.cond (.t 24) (.reg [⟨some 25, .mov (.t 1), none⟩, ⟨some 26, .cint .u64 (.t 25), none⟩, ⟨some 9, .mov (.t 26), none⟩]) (.skip))) (.reg [⟨some 27, .mov (.t 7), none⟩, ⟨some 28, .mov (.t 9), none⟩, ⟨some 29, .mov (.t 8), none⟩, ⟨some 30, .bin .mul (.c (.int .u64 8)) (.t 29), none⟩, ⟨some 31, .bin .shr (.t 28) (.t 30), none⟩, ⟨some 32, .bin .and (.t 31) (.c (.int .u64 255)), none⟩, ⟨some 33, .mov (.t 8), none⟩, ⟨some 34, .bin .mul (.c (.int .u64 8)) (.t 33), none⟩, ⟨some 35, .bin .shl (.t 32) (.t 34), none⟩, ⟨some 36, .bin .or (.t 27) (.t 35), none⟩, ⟨some 7, .mov (.t 36), none⟩]))))
   (.reg [⟨some 18, .mov (.t 8), none⟩, ⟨some 19, .bin .add (.t 18) (.c (.int .u64 1)), none⟩, ⟨some 8, .mov (.t 19), none⟩]))
def f_engramtop_TopBytes : IFun where
  nargs := 2
  results := [.tmp 4]
  pure := true
  frz := true
  drop := []
  body :=
   .seq (.reg [⟨some 4, .mov (.c (.bool false)), none⟩])
   (.seq (.reg [⟨some 11, .mov (.t 0), none⟩, ⟨some 12, .mov (.t 1), none⟩, ⟨some 13, .call (.c (.fn n_engramtop_says [])) [.c (.str ⟨#[48, 97, 36, 56, 98, 36, 48, 67, 91, 99, 32, 56, 61, 63, 126, 59, 99, 32, 49, 54, 43, 99, 32, 49, 38, 63, 99, 32, 56, 43, 58, 99, 59, 194, 169, 194, 174, 99, 32, 49, 43, 67, 93, 49, 54, 64]⟩), .t 11, .t 12], none⟩, ⟨some 10, .mov (.t 13), none⟩, ⟨some 14, .ext (.t 10) 0, none⟩, ⟨some 15, .ext (.t 10) 1, none⟩, ⟨some 5, .mov (.t 14), none⟩, ⟨some 6, .mov (.t 15), none⟩]) (.seq (.reg [⟨some 7, .mov (.c (.int .u64 0)), none⟩]) (.seq (.seq (.reg [⟨some 8, .mov (.c (.int .u64 0)), none⟩]) (.block 0 (.loopK [0, 1, 5, 6, 7, 8] l0_engramtop_TopBytes))) (.keep [5, 6, 7] (.seq (.reg [⟨some 37, .mov (.t 6), none⟩, ⟨some 38, .mov (.t 37), none⟩, ⟨some 39, .mov (.t 5), some (38, true)⟩, ⟨some 40, .cint .u64 (.t 39), some (38, true)⟩, ⟨some 41, .mov (.t 7), some (38, true)⟩, ⟨some 42, .bin .eql (.t 40) (.t 41), some (38, true)⟩, ⟨some 43, .pick (.t 38) (.t 42) (.c (.bool false)), none⟩, ⟨some 44, .mov (.t 43), none⟩, ⟨some 45, .call (.c (.fn n_engramtop_awake [])) [], some (44, true)⟩, ⟨some 46, .pick (.t 44) (.t 45) (.c (.bool false)), none⟩, ⟨some 4, .mov (.t 46), none⟩]) (.ret))))))
def f_engramtop_says : IFun where
  nargs := 3
  results := [.tmp 6, .tmp 7]
  pure := true
  frz := true
  drop := []
  body :=
   .seq (.reg [⟨some 6, .mov (.c (.int .i64 0)), none⟩, ⟨some 7, .mov (.c (.bool false)), none⟩])
   (.seq (.reg [⟨some 12, .mov (.t 0), none⟩, ⟨some 13, .mov (.t 1), none⟩, ⟨some 14, .mov (.t 2), none⟩, ⟨some 15, .call (.c (.fn n_engramtop_ends [])) [.t 12, .t 13, .t 14], none⟩, ⟨some 11, .mov (.t 15), none⟩, ⟨some 16, .ext (.t 11) 0, none⟩, ⟨some 17, .ext (.t 11) 1, none⟩, ⟨some 18, .ext (.t 11) 2, none⟩, ⟨some 8, .mov (.t 16), none⟩, ⟨some 9, .mov (.t 17), none⟩, ⟨some 10, .mov (.t 18), none⟩]) (.seq (.reg [⟨some 19, .mov (.t 8), none⟩, ⟨some 20, .mov (.t 10), none⟩, ⟨some 21, .mov (.t 20), none⟩, ⟨some 22, .mov (.t 9), some (21, true)⟩, ⟨some 23, .bin .eql (.t 22) (.c (.int .i64 0)), some (21, true)⟩, ⟨some 24, .pick (.t 21) (.t 23) (.c (.bool false)), none⟩, ⟨some 6, .mov (.t 19), none⟩, ⟨some 7, .mov (.t 24), none⟩]) (.ret)))
def f_engramtop_awake : IFun where
  nargs := 0
  results := [.tmp 0]
  pure := true
  frz := true
  drop := []
  body :=
   .seq (.reg [⟨some 0, .mov (.c (.bool false)), none⟩])
   (.seq (.reg [⟨some 4, .call (.c (.fn n_engramtop_says [])) [.c (.str ⟨#[49, 32, 50, 43]⟩), .c (.int .i64 0), .c (.int .i64 0)], none⟩, ⟨some 3, .mov (.t 4), none⟩, ⟨some 5, .ext (.t 3) 0, none⟩, ⟨some 6, .ext (.t 3) 1, none⟩, ⟨some 1, .mov (.t 5), none⟩, ⟨some 2, .mov (.t 6), none⟩]) (.seq (.reg [⟨some 7, .mov (.t 2), none⟩, ⟨some 8, .mov (.t 7), none⟩, ⟨some 9, .mov (.t 1), some (8, true)⟩, ⟨some 10, .bin .eql (.t 9) (.c (.int .i64 3)), some (8, true)⟩, ⟨some 11, .pick (.t 8) (.t 10) (.c (.bool false)), none⟩, ⟨some 0, .mov (.t 11), none⟩]) (.ret)))
def f_cells_New : IFun where
  nargs := 2
  results := [.tmp 4]
  pure := false
  frz := false
  drop := []
  body :=
   .seq (.reg [⟨some 4, .mov (.c (.nilptr)), none⟩])
   (.seq (.seq (.reg [⟨some 5, .mov (.t 0), none⟩, ⟨some 6, .mov (.t 1), none⟩, ⟨some 7, .call (.c (.fn n_cells_may [])) [.t 5, .t 6], none⟩, ⟨some 8, .un .not (.t 7), none⟩]) (.cond (.t 8) (.seq (.reg [⟨some 4, .mov (.c (.nilptr)), none⟩]) (.ret)) (.skip))) (.seq (.reg [⟨some 9, .mov (.t 0), none⟩, ⟨some 10, .bin .mul (.t 9) (.c (.int .i64 64)), none⟩, ⟨some 11, .mksl 1 1 [.int .u8 0] (.t 10) (.t 10), none⟩, ⟨some 12, .mov (.t 1), none⟩, ⟨some 13, .call (.c (.fn n_cells_Of [])) [.t 11, .t 12], none⟩, ⟨some 4, .mov (.t 13), none⟩]) (.ret)))
def l0_cells_Memory_Store : IC :=
  .seq (.reg [⟨some 24, .bin .lss (.t 23) (.t 22), none⟩])
  (.seq (.cond (.t 24) (.skip) (.exit 0))
   (.seq (.block 1 (.seq (.reg [⟨some 25, .mov (.t 23), none⟩, ⟨some 11, .mov (.t 25), none⟩]) (.seq (.reg [⟨some 26, .mov (.t 1), none⟩, ⟨some 27, .mov (.t 11), none⟩, ⟨some 28, .bin .add (.t 26) (.t 27), none⟩, ⟨some 12, .mov (.t 28), none⟩]) (.seq (.reg [⟨some 29, .mov (.t 0), none⟩, ⟨some 30, .nilc (.t 29), none⟩, ⟨some 31, .fadr 0 (.t 30), none⟩, ⟨some 32, .ld false 1 (.t 31), none⟩, ⟨some 33, .mov (.t 12), none⟩, ⟨some 34, .mov (.t 2), none⟩, ⟨some 35, .mov (.t 11), none⟩, ⟨some 36, .bin .mul (.c (.int .i64 8)) (.t 35), none⟩, ⟨some 37, .bin .shr (.t 34) (.t 36), none⟩, ⟨some 38, .cint .u8 (.t 37), none⟩, ⟨some 39, .iadr 1 (.t 32) (.t 33), none⟩, ⟨none, .st 1 (.t 39) (.t 38), none⟩]) (.reg [⟨some 40, .mov (.t 0), none⟩, ⟨some 41, .nilc (.t 40), none⟩, ⟨some 42, .fadr 2 (.t 41), none⟩, ⟨some 43, .ld false 1 (.t 42), none⟩, ⟨some 44, .mov (.t 12), none⟩, ⟨some 45, .bin .quo (.t 44) (.c (.int .i64 64)), none⟩, ⟨some 46, .iadr 1 (.t 43) (.t 45), none⟩, ⟨none, .st 1 (.t 46) (.c (.bool true)), none⟩]))))) (.reg [⟨some 47, .bin .add (.t 23) (.c (.int .i64 1)), none⟩, ⟨some 23, .mov (.t 47), none⟩])))
def f_cells_Memory_Store : IFun where
  nargs := 4
  results := [.tmp 8]
  pure := false
  frz := false
  drop := []
  body :=
   .seq (.reg [⟨some 8, .mov (.c (.bool false)), none⟩])
   (.seq (.reg [⟨some 14, .mov (.t 0), none⟩, ⟨some 15, .mov (.t 1), none⟩, ⟨some 16, .mov (.t 3), none⟩, ⟨some 17, .call (.c (.fn n_cells_Memory_within [])) [.t 14, .t 15, .t 16], none⟩, ⟨some 13, .mov (.t 17), none⟩, ⟨some 18, .ext (.t 13) 0, none⟩, ⟨some 19, .ext (.t 13) 1, none⟩, ⟨some 9, .mov (.t 18), none⟩, ⟨some 10, .mov (.t 19), none⟩]) (.seq (.seq (.reg [⟨some 20, .mov (.t 10), none⟩, ⟨some 21, .un .not (.t 20), none⟩]) (.cond (.t 21) (.seq (.reg [⟨some 8, .mov (.c (.bool false)), none⟩]) (.ret)) (.skip))) (.seq (.seq (.reg [⟨some 22, .mov (.t 9), none⟩, ⟨some 23, .mov (.c (.int .i64 0)), none⟩]) (.block 0 (.loopK [0, 1, 2, 22, 23] l0_cells_Memory_Store))) (.keep [] (.seq (.reg [⟨some 8, .mov (.c (.bool true)), none⟩]) (.ret))))))
def l0_engine_Run : IC :=
  .seq (.seq (.reg [⟨some 69, .mov (.t 17), none⟩, ⟨some 70, .nilc (.t 69), none⟩, ⟨some 71, .fadr 7 (.t 70), none⟩, ⟨some 72, .ld false 1 (.t 71), none⟩, ⟨some 73, .bin .eql (.t 72) (.c (.int .i64 0)), none⟩, ⟨some 74, .mov (.t 73), none⟩, ⟨some 75, .mov (.t 17), some (74, true)⟩, ⟨some 76, .call (.c (.fn n_engine_runner_ends [])) [.t 75], some (74, true)⟩, ⟨some 77, .pick (.t 74) (.t 76) (.c (.bool false)), none⟩])
   (.cond (.t 77) (.skip) (.exit 0)))
  (.block 1 (.seq (.seq (.reg [⟨some 78, .mov (.t 4), none⟩, ⟨some 79, .bin .eql (.t 78) (.c (.int .i64 0)), none⟩]) (.cond (.t 79) (.seq (.reg [⟨some 80, .mov (.t 17), none⟩, ⟨some 81, .nilc (.t 80), none⟩, ⟨some 82, .fadr 7 (.t 81), none⟩, ⟨none, .st 1 (.t 82) (.c (.int .i64 1)), none⟩]) (.exit 0)) (.skip))) (.seq (.reg [⟨some 83, .mov (.t 4), none⟩, ⟨some 84, .bin .sub (.t 83) (.c (.int .i64 1)), none⟩, ⟨some 4, .mov (.t 84), none⟩]) (.reg [⟨some 85, .mov (.t 17), none⟩, ⟨some 86, .mov (.t 17), none⟩, ⟨some 87, .nilc (.t 86), none⟩, ⟨some 88, .fadr 6 (.t 87), none⟩, ⟨some 89, .ld false 1 (.t 88), none⟩, ⟨some 90, .mov (.t 17), none⟩, ⟨some 91, .nilc (.t 90), none⟩, ⟨some 92, .fadr 6 (.t 91), none⟩, ⟨some 93, .ld false 1 (.t 92), none⟩, ⟨some 94, .len (.t 93), none⟩, ⟨some 95, .bin .sub (.t 94) (.c (.int .i64 1)), none⟩, ⟨some 96, .iadr 1 (.t 89) (.t 95), none⟩, ⟨some 97, .ld false 1 (.t 96), none⟩, ⟨some 98, .call (.c (.fn n_engine_runner_step [])) [.t 85, .t 97], none⟩]))))
def f_engine_Run : IFun where
  nargs := 6
  results := [.cell 12 true 4, .tmp 13]
  pure := false
  frz := true
  drop := []
  body :=
   .seq (.reg [⟨some 6, .box (.t 0), none⟩, ⟨some 12, .alloc [.int .i64 0, .int .i64 0, .int .i64 0, .nilsl], none⟩, ⟨some 13, .mov (.c (.int .i64 0)), none⟩])
   (.seq (.seq (.reg [⟨some 18, .mov (.t 1), none⟩, ⟨some 19, .eqn 0 false (.t 18), none⟩, ⟨some 20, .mov (.t 19), none⟩, ⟨some 21, .mov (.t 2), some (20, false)⟩, ⟨some 22, .eqn 0 false (.t 21), some (20, false)⟩, ⟨some 23, .pick (.t 20) (.c (.bool true)) (.t 22), none⟩, ⟨some 24, .mov (.t 23), none⟩, ⟨some 25, .mov (.t 4), some (24, false)⟩, ⟨some 26, .bin .lss (.t 25) (.c (.int .i64 0)), some (24, false)⟩, ⟨some 27, .pick (.t 24) (.c (.bool true)) (.t 26), none⟩, ⟨some 28, .mov (.t 27), none⟩, ⟨some 29, .mov (.t 4), some (28, false)⟩, ⟨some 30, .bin .gtr (.t 29) (.c (.int .i64 1048576)), some (28, false)⟩, ⟨some 31, .pick (.t 28) (.c (.bool true)) (.t 30), none⟩]) (.cond (.t 31) (.seq (.reg [⟨some 32, .build [.int .i64 0, .int .i64 0, .int .i64 0, .nilsl] [], none⟩, ⟨none, .st 4 (.t 12) (.t 32), none⟩, ⟨some 13, .mov (.c (.int .i64 1)), none⟩]) (.ret)) (.skip))) (.seq (.seq (.reg [⟨some 33, .ld true 3 (.t 6), none⟩, ⟨some 34, .call (.c (.fn n_unit_Right [])) [.t 33], none⟩, ⟨some 14, .mov (.t 34), none⟩]) (.seq (.reg [⟨some 35, .mov (.t 14), none⟩, ⟨some 36, .bin .neq (.t 35) (.c (.int .i64 0)), none⟩]) (.cond (.t 36) (.seq (.reg [⟨some 37, .build [.int .i64 0, .int .i64 0, .int .i64 0, .nilsl] [], none⟩, ⟨some 38, .mov (.t 14), none⟩, ⟨none, .st 4 (.t 12) (.t 37), none⟩, ⟨some 13, .mov (.t 38), none⟩]) (.ret)) (.skip)))) (.seq (.reg [⟨some 39, .ld true 3 (.t 6), none⟩, ⟨some 40, .mov (.t 3), none⟩, ⟨some 41, .call (.c (.fn n_check_Find [])) [.t 39, .t 40], none⟩, ⟨some 15, .mov (.t 41), none⟩]) (.seq (.seq (.reg [⟨some 42, .mov (.t 15), none⟩, ⟨some 43, .bin .lss (.t 42) (.c (.int .i64 0)), none⟩]) (.cond (.t 43) (.seq (.reg [⟨some 44, .build [.int .i64 0, .int .i64 0, .int .i64 0, .nilsl] [], none⟩, ⟨none, .st 4 (.t 12) (.t 44), none⟩, ⟨some 13, .mov (.c (.int .i64 22)), none⟩]) (.ret)) (.skip))) (.seq (.seq (.reg [⟨some 45, .mov (.t 5), none⟩, ⟨some 46, .len (.t 45), none⟩, ⟨some 47, .fadr 2 (.t 6), none⟩, ⟨some 48, .ld false 1 (.t 47), none⟩, ⟨some 49, .mov (.t 15), none⟩, ⟨some 50, .iadr 3 (.t 48) (.t 49), none⟩, ⟨some 51, .fadr 1 (.t 50), none⟩, ⟨some 52, .ld false 1 (.t 51), none⟩, ⟨some 53, .bin .neq (.t 46) (.t 52), none⟩]) (.cond (.t 53) (.seq (.reg [⟨some 54, .build [.int .i64 0, .int .i64 0, .int .i64 0, .nilsl] [], none⟩, ⟨none, .st 4 (.t 12) (.t 54), none⟩, ⟨some 13, .mov (.c (.int .i64 1)), none⟩]) (.ret)) (.skip))) (.seq (.reg [⟨some 55, .mov (.t 2), none⟩, ⟨some 56, .call (.c (.fn n_reply_Row_Asks [])) [.t 55], none⟩, ⟨some 57, .len (.t 56), none⟩, ⟨some 16, .mov (.t 57), none⟩]) (.seq (.reg [⟨some 58, .ld true 3 (.t 6), none⟩, ⟨some 59, .ld true 3 (.t 6), none⟩, ⟨some 60, .call (.c (.fn n_engine_codes [])) [.t 59], none⟩, ⟨some 61, .mov (.t 1), none⟩, ⟨some 62, .mov (.t 2), none⟩, ⟨some 63, .build [.int .i64 0, .int .i64 0, .nilsl, .nilsl, .nilptr, .nilptr, .nilsl, .int .i64 0, .int .i64 0] [(0, 3, (.t 58)), (3, 1, (.t 60)), (4, 1, (.t 61)), (5, 1, (.t 62))], none⟩, ⟨some 64, .box (.t 63), none⟩, ⟨some 17, .mov (.t 64), none⟩]) (.seq (.reg [⟨some 65, .mov (.t 17), none⟩, ⟨some 66, .mov (.t 15), none⟩, ⟨some 67, .mov (.t 5), none⟩, ⟨some 68, .call (.c (.fn n_engine_runner_call [])) [.t 65, .t 66, .t 67], none⟩]) (.seq (.block 0 (.loopK [2, 4, 12, 16, 17] l0_engine_Run)) (.keep [2, 4, 12, 16, 17] (.seq (.reg [⟨some 99, .mov (.t 17), none⟩, ⟨some 100, .nilc (.t 99), none⟩, ⟨some 101, .fadr 8 (.t 100), none⟩, ⟨some 102, .ld false 1 (.t 101), none⟩, ⟨some 103, .mov (.t 17), none⟩, ⟨some 104, .nilc (.t 103), none⟩, ⟨some 105, .fadr 7 (.t 104), none⟩, ⟨some 106, .ld false 1 (.t 105), none⟩, ⟨some 107, .mov (.t 4), none⟩, ⟨some 108, .mov (.t 2), none⟩, ⟨some 109, .call (.c (.fn n_reply_Row_Asks [])) [.t 108], none⟩, ⟨some 110, .mov (.t 16), none⟩, ⟨some 111, .slc 2 (.t 109) (some (.t 110)) none none, none⟩, ⟨some 112, .build [.int .i64 0, .int .i64 0, .int .i64 0, .nilsl] [(0, 1, (.t 102)), (1, 1, (.t 106)), (2, 1, (.t 107)), (3, 1, (.t 111))], none⟩, ⟨none, .st 4 (.t 12) (.t 112), none⟩, ⟨some 13, .mov (.c (.int .i64 0)), none⟩]) (.ret))))))))))))
def l0_reply_New : IC :=
  .seq (.reg [⟨some 17, .bin .lss (.t 16) (.t 15), none⟩])
  (.seq (.cond (.t 17) (.skip) (.exit 0))
   (.seq (.block 1 (.seq (.reg [⟨some 18, .iadr 1 (.t 14) (.t 16), none⟩, ⟨some 19, .ld false 1 (.t 18), none⟩, ⟨some 5, .mov (.t 19), none⟩]) (.seq (.reg [⟨some 21, .mov (.t 5), none⟩, ⟨some 22, .call (.c (.fn n_reply_Of [])) [.t 21], none⟩, ⟨some 20, .mov (.t 22), none⟩, ⟨some 23, .ext (.t 20) 0, none⟩, ⟨some 24, .ext (.t 20) 1, none⟩, ⟨some 6, .mov (.t 23), none⟩, ⟨some 7, .mov (.t 24), none⟩]) (.reg [⟨some 25, .mov (.t 3), none⟩, ⟨some 26, .mov (.t 3), none⟩, ⟨some 27, .nilc (.t 26), none⟩, ⟨some 28, .fadr 0 (.t 27), none⟩, ⟨some 29, .ld false 1 (.t 28), none⟩, ⟨some 30, .mov (.t 6), none⟩, ⟨some 31, .mov (.t 7), none⟩, ⟨some 32, .build [.int .i64 0, .bool false] [(0, 1, (.t 30)), (1, 1, (.t 31))], none⟩, ⟨some 33, .bslice 2 [.int .i64 0, .bool false] 1 [(0, 2, (.t 32))], none⟩, ⟨some 34, .app 2 16 (.t 29) (.t 33), none⟩, ⟨some 35, .nilc (.t 25), none⟩, ⟨some 36, .fadr 0 (.t 35), none⟩, ⟨none, .st 1 (.t 36) (.t 34), none⟩])))) (.reg [⟨some 37, .bin .add (.t 16) (.c (.int .i64 1)), none⟩, ⟨some 16, .mov (.t 37), none⟩])))
def f_reply_New : IFun where
  nargs := 1
  results := [.tmp 2]
  pure := false
  frz := false
  drop := []
  body :=
   .seq (.reg [⟨some 2, .mov (.c (.nilptr)), none⟩])
   (.seq (.reg [⟨some 8, .build [.nilsl, .nilsl] [], none⟩, ⟨some 9, .box (.t 8), none⟩, ⟨some 3, .mov (.t 9), none⟩]) (.seq (.seq (.reg [⟨some 10, .mov (.t 0), none⟩, ⟨some 11, .mov (.t 0), none⟩, ⟨some 12, .len (.t 11), none⟩, ⟨some 13, .mm false (.t 12) (.c (.int .i64 64)), none⟩, ⟨some 14, .slc 1 (.t 10) none (some (.t 13)) none, none⟩, ⟨some 15, .len (.t 14), none⟩, ⟨some 16, .mov (.c (.int .i64 0)), none⟩]) (.block 0 (.loopK [3, 14, 15, 16] l0_reply_New))) (.keep [3] (.seq (.reg [⟨some 38, .mov (.t 3), none⟩, ⟨some 2, .mov (.t 38), none⟩]) (.ret)))))
def l0_cells_Memory_Load : IC :=
  .seq (.seq (.reg [⟨some 23, .mov (.t 11), none⟩, ⟨some 24, .bin .geq (.t 23) (.c (.int .i64 0)), none⟩])
   (.cond (.t 24) (.skip) (.exit 0)))
  (.seq (.block 1 (.reg [⟨some 27, .mov (.t 10), none⟩, ⟨some 28, .bin .shl (.t 27) (.c (.int .u64 8)), none⟩, ⟨some 29, .mov (.t 0), none⟩, ⟨some 30, .nilc (.t 29), none⟩, ⟨some 31, .fadr 0 (.t 30), none⟩, ⟨some 32, .ld false 1 (.t 31), none⟩, ⟨some 33, .mov (.t 1), none⟩, ⟨some 34, .mov (.t 11), none⟩, ⟨some 35, .bin .add (.t 33) (.t 34), none⟩, ⟨some 36, .iadr 1 (.t 32) (.t 35), none⟩, ⟨some 37, .ld false 1 (.t 36), none⟩, ⟨some 38, .cint .u64 (.t 37), none⟩, ⟨some 39, .bin .or (.t 28) (.t 38), none⟩, ⟨some 10, .mov (.t 39), none⟩]))
   (.reg [⟨some 25, .mov (.t 11), none⟩, ⟨some 26, .bin .sub (.t 25) (.c (.int .i64 1)), none⟩, ⟨some 11, .mov (.t 26), none⟩]))
def f_cells_Memory_Load : IFun where
  nargs := 3
  results := [.tmp 6, .tmp 7]
  pure := true
  frz := true
  drop := []
  body :=
   .seq (.reg [⟨some 6, .mov (.c (.int .i64 0)), none⟩, ⟨some 7, .mov (.c (.bool false)), none⟩])
   (.seq (.reg [⟨some 13, .mov (.t 0), none⟩, ⟨some 14, .mov (.t 1), none⟩, ⟨some 15, .mov (.t 2), none⟩, ⟨some 16, .call (.c (.fn n_cells_Memory_within [])) [.t 13, .t 14, .t 15], none⟩, ⟨some 12, .mov (.t 16), none⟩, ⟨some 17, .ext (.t 12) 0, none⟩, ⟨some 18, .ext (.t 12) 1, none⟩, ⟨some 8, .mov (.t 17), none⟩, ⟨some 9, .mov (.t 18), none⟩]) (.seq (.seq (.reg [⟨some 19, .mov (.t 9), none⟩, ⟨some 20, .un .not (.t 19), none⟩]) (.cond (.t 20) (.seq (.reg [⟨some 6, .mov (.c (.int .i64 0)), none⟩, ⟨some 7, .mov (.c (.bool false)), none⟩]) (.ret)) (.skip))) (.seq (.reg [⟨some 10, .mov (.c (.int .u64 0)), none⟩]) (.seq (.seq (.reg [⟨some 21, .mov (.t 8), none⟩, ⟨some 22, .bin .sub (.t 21) (.c (.int .i64 1)), none⟩, ⟨some 11, .mov (.t 22), none⟩]) (.block 0 (.loopK [0, 1, 10, 11] l0_cells_Memory_Load))) (.keep [10] (.seq (.reg [⟨some 40, .mov (.t 10), none⟩, ⟨some 41, .cint .i64 (.t 40), none⟩, ⟨some 6, .mov (.t 41), none⟩, ⟨some 7, .mov (.c (.bool true)), none⟩]) (.ret)))))))
def f_engramtop_ends : IFun where
  nargs := 3
  results := [.tmp 6, .tmp 7, .tmp 8]
  pure := true
  frz := true
  drop := []
  body :=
   .seq (.reg [⟨some 6, .mov (.c (.int .i64 0)), none⟩, ⟨some 7, .mov (.c (.int .i64 0)), none⟩, ⟨some 8, .mov (.c (.bool false)), none⟩])
   (.seq (.reg [⟨some 12, .mov (.t 0), none⟩, ⟨some 13, .call (.c (.fn n_engramtop_one [])) [.t 12], none⟩, ⟨some 14, .call (.c (.fn n_cells_New [])) [.c (.int .i64 1), .c (.int .i64 8)], none⟩, ⟨some 15, .call (.c (.fn n_reply_New [])) [.c (.nilsl)], none⟩, ⟨some 16, .mov (.t 1), none⟩, ⟨some 17, .mov (.t 2), none⟩, ⟨some 18, .bslice 1 [.int .i64 0, .int .i64 0] 2 [(0, 1, (.t 16)), (1, 1, (.t 17))], none⟩, ⟨some 19, .call (.c (.fn n_engine_Run [])) [.t 13, .t 14, .t 15, .c (.int .i32 102), .c (.int .i64 100000), .t 18], none⟩, ⟨some 11, .mov (.t 19), none⟩, ⟨some 20, .ext (.t 11) 0, none⟩, ⟨some 21, .ext (.t 11) 1, none⟩, ⟨some 9, .alloc [.int .i64 0, .int .i64 0, .int .i64 0, .nilsl], none⟩, ⟨none, .st 4 (.t 9) (.t 20), none⟩, ⟨some 10, .mov (.t 21), none⟩]) (.seq (.reg [⟨some 22, .fadr 0 (.t 9), none⟩, ⟨some 23, .ld false 1 (.t 22), none⟩, ⟨some 24, .fadr 1 (.t 9), none⟩, ⟨some 25, .ld false 1 (.t 24), none⟩, ⟨some 26, .mov (.t 10), none⟩, ⟨some 27, .bin .eql (.t 26) (.c (.int .i64 0)), none⟩, ⟨some 6, .mov (.t 23), none⟩, ⟨some 7, .mov (.t 25), none⟩, ⟨some 8, .mov (.t 27), none⟩]) (.ret)))
def f_cells_may : IFun where
  nargs := 2
  results := [.tmp 4]
  pure := true
  frz := true
  drop := []
  body :=
   .seq (.reg [⟨some 4, .mov (.c (.bool false)), none⟩])
   (.seq (.reg [⟨some 5, .mov (.t 0), none⟩, ⟨some 6, .bin .geq (.t 5) (.c (.int .i64 0)), none⟩, ⟨some 7, .mov (.t 6), none⟩, ⟨some 8, .mov (.t 0), some (7, true)⟩, ⟨some 9, .mov (.t 1), some (7, true)⟩, ⟨some 10, .bin .leq (.t 8) (.t 9), some (7, true)⟩, ⟨some 11, .pick (.t 7) (.t 10) (.c (.bool false)), none⟩, ⟨some 12, .mov (.t 11), none⟩, ⟨some 13, .mov (.t 1), some (12, true)⟩, ⟨some 14, .bin .leq (.t 13) (.c (.int .i64 64)), some (12, true)⟩, ⟨some 15, .pick (.t 12) (.t 14) (.c (.bool false)), none⟩, ⟨some 4, .mov (.t 15), none⟩]) (.ret))
def f_cells_Of : IFun where
  nargs := 2
  results := [.tmp 4]
  pure := false
  frz := false
  drop := []
  body :=
   .seq (.reg [⟨some 4, .mov (.c (.nilptr)), none⟩])
   (.seq (.seq (.reg [⟨some 5, .mov (.t 0), none⟩, ⟨some 6, .len (.t 5), none⟩, ⟨some 7, .bin .rem (.t 6) (.c (.int .i64 64)), none⟩, ⟨some 8, .bin .neq (.t 7) (.c (.int .i64 0)), none⟩, ⟨some 9, .mov (.t 8), none⟩, ⟨some 10, .mov (.t 0), some (9, false)⟩, ⟨some 11, .len (.t 10), some (9, false)⟩, ⟨some 12, .bin .quo (.t 11) (.c (.int .i64 64)), some (9, false)⟩, ⟨some 13, .mov (.t 1), some (9, false)⟩, ⟨some 14, .call (.c (.fn n_cells_may [])) [.t 12, .t 13], some (9, false)⟩, ⟨some 15, .un .not (.t 14), some (9, false)⟩, ⟨some 16, .pick (.t 9) (.c (.bool true)) (.t 15), none⟩]) (.cond (.t 16) (.seq (.reg [⟨some 4, .mov (.c (.nilptr)), none⟩]) (.ret)) (.skip))) (.seq (.reg [⟨some 17, .mov (.t 0), none⟩, ⟨some 18, .call (.c (.fn n_slices_Clone_byte_byte [])) [.t 17], none⟩, ⟨some 19, .mov (.t 1), none⟩, ⟨some 20, .mov (.t 0), none⟩, ⟨some 21, .len (.t 20), none⟩, ⟨some 22, .bin .quo (.t 21) (.c (.int .i64 64)), none⟩, ⟨some 23, .mksl 1 1 [.bool false] (.t 22) (.t 22), none⟩, ⟨some 24, .build [.nilsl, .int .i64 0, .nilsl] [(0, 1, (.t 18)), (1, 1, (.t 19)), (2, 1, (.t 23))], none⟩, ⟨some 25, .box (.t 24), none⟩, ⟨some 4, .mov (.t 25), none⟩]) (.ret)))
def f_cells_Memory_within : IFun where
  nargs := 3
  results := [.tmp 6, .tmp 7]
  pure := true
  frz := true
  drop := []
  body :=
   .seq (.reg [⟨some 6, .mov (.c (.int .i64 0)), none⟩, ⟨some 7, .mov (.c (.bool false)), none⟩])
   (.seq (.reg [⟨some 8, .mov (.c (.int .i64 1)), none⟩]) (.seq (.seq (.reg [⟨some 9, .mov (.t 2), none⟩]) (.cond (.t 9) (.reg [⟨some 8, .mov (.c (.int .i64 8)), none⟩]) (.skip))) (.seq (.reg [⟨some 10, .mov (.t 8), none⟩, ⟨some 11, .mov (.t 1), none⟩, ⟨some 12, .bin .geq (.t 11) (.c (.int .i64 0)), none⟩, ⟨some 13, .mov (.t 12), none⟩, ⟨some 14, .mov (.t 1), some (13, true)⟩, ⟨some 15, .mov (.t 0), some (13, true)⟩, ⟨some 16, .nilc (.t 15), some (13, true)⟩, ⟨some 17, .fadr 0 (.t 16), some (13, true)⟩, ⟨some 18, .ld false 1 (.t 17), some (13, true)⟩, ⟨some 19, .len (.t 18), some (13, true)⟩, ⟨some 20, .mov (.t 8), some (13, true)⟩, ⟨some 21, .bin .sub (.t 19) (.t 20), some (13, true)⟩, ⟨some 22, .bin .leq (.t 14) (.t 21), some (13, true)⟩, ⟨some 23, .pick (.t 13) (.t 22) (.c (.bool false)), none⟩, ⟨some 6, .mov (.t 10), none⟩, ⟨some 7, .mov (.t 23), none⟩]) (.ret))))
def l0_unit_Right : IC :=
  .seq (.reg [⟨some 35, .bin .lss (.t 34) (.t 33), none⟩])
  (.seq (.cond (.t 35) (.skip) (.exit 1))
   (.seq (.block 2 (.seq (.reg [⟨some 36, .mov (.t 34), none⟩, ⟨some 3, .mov (.t 36), none⟩]) (.seq (.reg [⟨some 38, .ld true 3 (.t 1), none⟩, ⟨some 39, .mov (.t 3), none⟩, ⟨some 40, .call (.c (.fn n_check_Func [])) [.t 38, .t 39], none⟩, ⟨some 37, .mov (.t 40), none⟩, ⟨some 41, .ext (.t 37) 0, none⟩, ⟨some 42, .ext (.t 37) 1, none⟩, ⟨some 4, .mov (.t 41), none⟩, ⟨some 5, .mov (.t 42), none⟩]) (.seq (.reg [⟨some 43, .mov (.t 5), none⟩, ⟨some 44, .bin .neq (.t 43) (.c (.int .i64 0)), none⟩]) (.cond (.t 44) (.seq (.reg [⟨some 45, .mov (.t 5), none⟩, ⟨some 2, .mov (.t 45), none⟩]) (.ret)) (.skip)))))) (.reg [⟨some 46, .bin .add (.t 34) (.c (.int .i64 1)), none⟩, ⟨some 34, .mov (.t 46), none⟩])))
def f_unit_Right : IFun where
  nargs := 1
  results := [.tmp 2]
  pure := true
  frz := true
  drop := []
  body :=
   .seq (.reg [⟨some 1, .box (.t 0), none⟩, ⟨some 2, .mov (.c (.int .i64 0)), none⟩])
   (.seq (.block 0 (.seq (.reg [⟨some 7, .fadr 0 (.t 1), none⟩, ⟨some 8, .ld false 1 (.t 7), none⟩, ⟨some 9, .bin .lss (.t 8) (.c (.int .i64 0)), none⟩, ⟨some 10, .mov (.t 9), none⟩, ⟨some 11, .fadr 0 (.t 1), some (10, false)⟩, ⟨some 12, .ld false 1 (.t 11), some (10, false)⟩, ⟨some 13, .fadr 1 (.t 1), some (10, false)⟩, ⟨some 14, .ld false 1 (.t 13), some (10, false)⟩, ⟨some 15, .bin .gtr (.t 12) (.t 14), some (10, false)⟩, ⟨some 16, .pick (.t 10) (.c (.bool true)) (.t 15), none⟩, ⟨some 17, .mov (.t 16), none⟩, ⟨some 18, .fadr 1 (.t 1), some (17, false)⟩, ⟨some 19, .ld false 1 (.t 18), some (17, false)⟩, ⟨some 20, .bin .gtr (.t 19) (.c (.int .i64 64)), some (17, false)⟩, ⟨some 21, .pick (.t 17) (.c (.bool true)) (.t 20), none⟩, ⟨some 6, .mov (.t 21), none⟩]) (.cond (.t 6) (.seq (.reg [⟨some 2, .mov (.c (.int .i64 25)), none⟩]) (.ret)) (.seq (.reg [⟨some 23, .fadr 2 (.t 1), none⟩, ⟨some 24, .ld false 1 (.t 23), none⟩, ⟨some 25, .len (.t 24), none⟩, ⟨some 26, .bin .gtr (.t 25) (.c (.int .i64 32)), none⟩, ⟨some 22, .mov (.t 26), none⟩]) (.cond (.t 22) (.seq (.reg [⟨some 2, .mov (.c (.int .i64 3)), none⟩]) (.ret)) (.seq (.reg [⟨some 28, .ld true 3 (.t 1), none⟩, ⟨some 29, .call (.c (.fn n_unit_named [])) [.t 28], none⟩, ⟨some 30, .un .not (.t 29), none⟩, ⟨some 27, .mov (.t 30), none⟩]) (.cond (.t 27) (.seq (.reg [⟨some 2, .mov (.c (.int .i64 12)), none⟩]) (.ret)) (.skip)))))))) (.seq (.seq (.reg [⟨some 31, .fadr 2 (.t 1), none⟩, ⟨some 32, .ld false 1 (.t 31), none⟩, ⟨some 33, .len (.t 32), none⟩, ⟨some 34, .mov (.c (.int .i64 0)), none⟩]) (.block 1 (.loopK [1, 33, 34] l0_unit_Right))) (.keep [] (.seq (.reg [⟨some 2, .mov (.c (.int .i64 0)), none⟩]) (.ret)))))
def f_check_Find : IFun where
  nargs := 2
  results := [.tmp 4]
  pure := true
  frz := true
  drop := []
  body :=
   .seq (.reg [⟨some 2, .box (.t 0), none⟩, ⟨some 3, .box (.t 1), none⟩, ⟨some 4, .mov (.c (.int .i64 0)), none⟩])
   (.seq (.reg [⟨some 5, .fadr 2 (.t 2), none⟩, ⟨some 6, .ld false 1 (.t 5), none⟩, ⟨some 7, .mkfn n_check_Find_1 [.t 3], none⟩, ⟨some 8, .call (.c (.fn n_slices_IndexFunc_api_Func_api_Func [])) [.t 6, .t 7], none⟩, ⟨some 4, .mov (.t 8), none⟩]) (.ret))
def f_reply_Row_Asks : IFun where
  nargs := 1
  results := [.tmp 2]
  pure := true
  frz := true
  drop := []
  body :=
   .seq (.reg [⟨some 2, .mov (.c (.nilsl)), none⟩])
   (.seq (.reg [⟨some 3, .mov (.t 0), none⟩, ⟨some 4, .nilc (.t 3), none⟩, ⟨some 5, .fadr 1 (.t 4), none⟩, ⟨some 6, .ld false 1 (.t 5), none⟩, ⟨some 7, .call (.c (.fn n_slices_Clone_api_Ask_api_Ask [])) [.t 6], none⟩, ⟨some 2, .mov (.t 7), none⟩]) (.ret))
def l0_engine_codes : IC :=
  .seq (.reg [⟨some 14, .bin .lss (.t 13) (.t 12), none⟩])
  (.seq (.cond (.t 14) (.skip) (.exit 0))
   (.seq (.block 1 (.seq (.reg [⟨some 15, .iadr 3 (.t 11) (.t 13), none⟩, ⟨some 16, .ld true 3 (.t 15), none⟩, ⟨some 5, .alloc [.int .i32 0, .int .i64 0, .str ⟨#[]⟩], none⟩, ⟨none, .st 3 (.t 5) (.t 16), none⟩]) (.seq (.reg [⟨some 18, .fadr 2 (.t 5), none⟩, ⟨some 19, .ld false 1 (.t 18), none⟩, ⟨some 20, .call (.c (.fn n_glyph_Tokens [])) [.t 19], none⟩, ⟨some 17, .mov (.t 20), none⟩, ⟨some 21, .ext (.t 17) 0, none⟩, ⟨some 22, .ext (.t 17) 1, none⟩, ⟨some 6, .mov (.t 21), none⟩, ⟨some 7, .mov (.t 22), none⟩]) (.seq (.reg [⟨some 24, .mov (.t 6), none⟩, ⟨some 25, .call (.c (.fn n_nest_Of [])) [.t 24], none⟩, ⟨some 23, .mov (.t 25), none⟩, ⟨some 26, .ext (.t 23) 0, none⟩, ⟨some 27, .ext (.t 23) 1, none⟩, ⟨some 8, .mov (.t 26), none⟩, ⟨some 9, .mov (.t 27), none⟩]) (.reg [⟨some 28, .mov (.t 3), none⟩, ⟨some 29, .mov (.t 6), none⟩, ⟨some 30, .mov (.t 8), none⟩, ⟨some 31, .fadr 1 (.t 5), none⟩, ⟨some 32, .ld false 1 (.t 31), none⟩, ⟨some 33, .build [.nilsl, .nilsl, .int .i64 0] [(0, 1, (.t 29)), (1, 1, (.t 30)), (2, 1, (.t 32))], none⟩, ⟨some 34, .bslice 3 [.nilsl, .nilsl, .int .i64 0] 1 [(0, 3, (.t 33))], none⟩, ⟨some 35, .app 3 56 (.t 28) (.t 34), none⟩, ⟨some 3, .mov (.t 35), none⟩]))))) (.reg [⟨some 36, .bin .add (.t 13) (.c (.int .i64 1)), none⟩, ⟨some 13, .mov (.t 36), none⟩])))
def f_engine_codes : IFun where
  nargs := 1
  results := [.tmp 2]
  pure := true
  frz := true
  drop := []
  body :=
   .seq (.reg [⟨some 1, .box (.t 0), none⟩, ⟨some 2, .mov (.c (.nilsl)), none⟩])
   (.seq (.reg [⟨some 3, .mov (.c (.nilsl)), none⟩]) (.seq (.seq (.reg [⟨some 10, .fadr 2 (.t 1), none⟩, ⟨some 11, .ld false 1 (.t 10), none⟩, ⟨some 12, .len (.t 11), none⟩, ⟨some 13, .mov (.c (.int .i64 0)), none⟩]) (.block 0 (.loopK [3, 11, 12, 13] l0_engine_codes))) (.keep [3] (.seq (.reg [⟨some 37, .mov (.t 3), none⟩, ⟨some 2, .mov (.t 37), none⟩]) (.ret)))))
def f_engine_runner_call : IFun where
  nargs := 3
  results := []
  pure := false
  frz := false
  drop := []
  body :=
   .seq (.reg [⟨some 7, .mov (.t 0), none⟩, ⟨some 8, .nilc (.t 7), none⟩, ⟨some 9, .fadr 3 (.t 8), none⟩, ⟨some 10, .ld false 1 (.t 9), none⟩, ⟨some 11, .mov (.t 1), none⟩, ⟨some 12, .iadr 3 (.t 10) (.t 11), none⟩, ⟨some 13, .ld true 3 (.t 12), none⟩, ⟨some 14, .build [.nilsl, .nilsl, .int .i64 0, .int .i64 0, .int .i64 0, .int .i64 0, .int .i64 0, .int .i64 0, .int .i64 0, .int .i64 0, .int .i64 0, .int .i64 0, .int .i64 0, .int .i64 0, .int .i64 0, .int .i64 0, .int .i64 0, .int .i64 0, .int .i64 0, .int .i64 0, .int .i64 0, .int .i64 0, .int .i64 0, .int .i64 0, .int .i64 0, .int .i64 0, .int .i64 0, .int .i64 0, .int .i64 0, .int .i64 0, .nilsl] [(0, 3, (.t 13))], none⟩, ⟨some 15, .box (.t 14), none⟩, ⟨some 6, .mov (.t 15), none⟩])
   (.seq (.reg [⟨some 16, .mov (.t 6), none⟩, ⟨some 17, .nilc (.t 16), none⟩, ⟨some 18, .fadr 4 (.t 17), none⟩, ⟨some 19, .slarr 26 1 (.t 18) none none, none⟩, ⟨some 20, .mov (.t 2), none⟩, ⟨some 21, .cpy 1 (.t 19) (.t 20), none⟩]) (.reg [⟨some 22, .mov (.t 0), none⟩, ⟨some 23, .mov (.t 0), none⟩, ⟨some 24, .nilc (.t 23), none⟩, ⟨some 25, .fadr 6 (.t 24), none⟩, ⟨some 26, .ld false 1 (.t 25), none⟩, ⟨some 27, .mov (.t 6), none⟩, ⟨some 28, .bslice 1 [.nilptr] 1 [(0, 1, (.t 27))], none⟩, ⟨some 29, .app 1 8 (.t 26) (.t 28), none⟩, ⟨some 30, .nilc (.t 22), none⟩, ⟨some 31, .fadr 6 (.t 30), none⟩, ⟨none, .st 1 (.t 31) (.t 29), none⟩]))
def l0_engine_runner_ends : IC :=
  .seq (.seq (.reg [⟨some 5, .mov (.t 0), none⟩, ⟨some 6, .nilc (.t 5), none⟩, ⟨some 7, .fadr 6 (.t 6), none⟩, ⟨some 8, .ld false 1 (.t 7), none⟩, ⟨some 9, .len (.t 8), none⟩, ⟨some 10, .bin .gtr (.t 9) (.c (.int .i64 0)), none⟩])
   (.cond (.t 10) (.skip) (.exit 0)))
  (.block 1 (.seq (.reg [⟨some 11, .mov (.t 0), none⟩, ⟨some 12, .nilc (.t 11), none⟩, ⟨some 13, .fadr 6 (.t 12), none⟩, ⟨some 14, .ld false 1 (.t 13), none⟩, ⟨some 15, .mov (.t 0), none⟩, ⟨some 16, .nilc (.t 15), none⟩, ⟨some 17, .fadr 6 (.t 16), none⟩, ⟨some 18, .ld false 1 (.t 17), none⟩, ⟨some 19, .len (.t 18), none⟩, ⟨some 20, .bin .sub (.t 19) (.c (.int .i64 1)), none⟩, ⟨some 21, .iadr 1 (.t 14) (.t 20), none⟩, ⟨some 22, .ld false 1 (.t 21), none⟩, ⟨some 3, .mov (.t 22), none⟩]) (.seq (.seq (.reg [⟨some 23, .mov (.t 3), none⟩, ⟨some 24, .nilc (.t 23), none⟩, ⟨some 25, .fadr 3 (.t 24), none⟩, ⟨some 26, .ld false 1 (.t 25), none⟩, ⟨some 27, .mov (.t 3), none⟩, ⟨some 28, .nilc (.t 27), none⟩, ⟨some 29, .fadr 0 (.t 28), none⟩, ⟨some 30, .fadr 0 (.t 29), none⟩, ⟨some 31, .ld false 1 (.t 30), none⟩, ⟨some 32, .len (.t 31), none⟩, ⟨some 33, .bin .lss (.t 26) (.t 32), none⟩]) (.cond (.t 33) (.seq (.reg [⟨some 2, .mov (.c (.bool true)), none⟩]) (.ret)) (.skip))) (.seq (.reg [⟨some 34, .mov (.t 3), none⟩, ⟨some 35, .call (.c (.fn n_engine_frame_pop [])) [.t 34], none⟩, ⟨some 4, .mov (.t 35), none⟩]) (.seq (.seq (.reg [⟨some 36, .mov (.t 0), none⟩, ⟨some 37, .mov (.t 0), none⟩, ⟨some 38, .nilc (.t 37), none⟩, ⟨some 39, .fadr 6 (.t 38), none⟩, ⟨some 40, .ld false 1 (.t 39), none⟩, ⟨some 41, .mov (.t 0), none⟩, ⟨some 42, .nilc (.t 41), none⟩, ⟨some 43, .fadr 6 (.t 42), none⟩, ⟨some 44, .ld false 1 (.t 43), none⟩, ⟨some 45, .len (.t 44), none⟩, ⟨some 46, .bin .sub (.t 45) (.c (.int .i64 1)), none⟩, ⟨some 47, .slc 1 (.t 40) none (some (.t 46)) none, none⟩, ⟨some 48, .nilc (.t 36), none⟩, ⟨some 49, .fadr 6 (.t 48), none⟩, ⟨none, .st 1 (.t 49) (.t 47), none⟩]) (.seq (.reg [⟨some 50, .mov (.t 0), none⟩, ⟨some 51, .nilc (.t 50), none⟩, ⟨some 52, .fadr 6 (.t 51), none⟩, ⟨some 53, .ld false 1 (.t 52), none⟩, ⟨some 54, .len (.t 53), none⟩, ⟨some 55, .bin .eql (.t 54) (.c (.int .i64 0)), none⟩]) (.cond (.t 55) (.seq (.reg [⟨some 56, .mov (.t 0), none⟩, ⟨some 57, .mov (.t 4), none⟩, ⟨some 58, .nilc (.t 56), none⟩, ⟨some 59, .fadr 8 (.t 58), none⟩, ⟨none, .st 1 (.t 59) (.t 57), none⟩]) (.exit 0)) (.skip)))) (.reg [⟨some 60, .mov (.t 0), none⟩, ⟨some 61, .nilc (.t 60), none⟩, ⟨some 62, .fadr 6 (.t 61), none⟩, ⟨some 63, .ld false 1 (.t 62), none⟩, ⟨some 64, .mov (.t 0), none⟩, ⟨some 65, .nilc (.t 64), none⟩, ⟨some 66, .fadr 6 (.t 65), none⟩, ⟨some 67, .ld false 1 (.t 66), none⟩, ⟨some 68, .len (.t 67), none⟩, ⟨some 69, .bin .sub (.t 68) (.c (.int .i64 1)), none⟩, ⟨some 70, .iadr 1 (.t 63) (.t 69), none⟩, ⟨some 71, .ld false 1 (.t 70), none⟩, ⟨some 72, .mov (.t 4), none⟩, ⟨some 73, .call (.c (.fn n_engine_frame_push [])) [.t 71, .t 72], none⟩]))))))
def f_engine_runner_ends : IFun where
  nargs := 1
  results := [.tmp 2]
  pure := false
  frz := false
  drop := []
  body :=
   .seq (.reg [⟨some 2, .mov (.c (.bool false)), none⟩])
   (.seq (.block 0 (.loopK [0] l0_engine_runner_ends)) (.keep [] (.seq (.reg [⟨some 2, .mov (.c (.bool false)), none⟩]) (.ret))))
def f_engine_runner_step : IFun where
  nargs := 2
  results := []
  pure := false
  frz := false
  drop := []
  body :=
   .seq (.regW [⟨some 6, .mov (.t 1), none⟩, ⟨some 7, .nilc (.t 6), none⟩, ⟨some 8, .fadr 0 (.t 7), none⟩, ⟨some 9, .fadr 0 (.t 8), none⟩, ⟨some 10, .ld false 1 (.t 9), none⟩, ⟨some 11, .mov (.t 1), none⟩, ⟨some 12, .nilc (.t 11), none⟩, ⟨some 13, .fadr 3 (.t 12), none⟩, ⟨some 14, .ld false 1 (.t 13), none⟩, ⟨some 15, .iadr 3 (.t 10) (.t 14), none⟩, ⟨some 16, .ld true 3 (.t 15), none⟩, ⟨some 4, .alloc [.int .i32 0, .int .i64 0, .int .i32 0], none⟩, ⟨none, .st 3 (.t 4) (.t 16), none⟩] [(4, 12), (8, 12), (10, 12)])
   (.seq (.reg [⟨some 17, .fadr 0 (.t 4), none⟩, ⟨some 18, .ld false 1 (.t 17), none⟩, ⟨some 5, .mov (.t 18), none⟩]) (.seq (.block 0 (.seq (.reg [⟨some 24, .mov (.t 5), none⟩, ⟨some 25, .bin .eql (.t 24) (.c (.int .i32 48)), none⟩, ⟨some 23, .mov (.t 25), none⟩]) (.cond (.t 23) (.reg [⟨some 26, .mov (.t 1), none⟩, ⟨some 27, .fadr 1 (.t 4), none⟩, ⟨some 28, .ld false 1 (.t 27), none⟩, ⟨some 29, .call (.c (.fn n_engine_frame_push [])) [.t 26, .t 28], none⟩]) (.seq (.reg [⟨some 31, .mov (.t 5), none⟩, ⟨some 32, .bin .geq (.t 31) (.c (.int .i32 97)), none⟩, ⟨some 33, .mov (.t 32), none⟩, ⟨some 34, .mov (.t 5), some (33, true)⟩, ⟨some 35, .bin .leq (.t 34) (.c (.int .i32 122)), some (33, true)⟩, ⟨some 36, .pick (.t 33) (.t 35) (.c (.bool false)), none⟩, ⟨some 30, .mov (.t 36), none⟩]) (.cond (.t 30) (.reg [⟨some 37, .mov (.t 1), none⟩, ⟨some 38, .mov (.t 1), none⟩, ⟨some 39, .mov (.t 5), none⟩, ⟨some 40, .bin .sub (.t 39) (.c (.int .i32 97)), none⟩, ⟨some 41, .nilc (.t 38), none⟩, ⟨some 42, .fadr 4 (.t 41), none⟩, ⟨some 43, .iadrA 26 1 (.t 42) (.t 40), none⟩, ⟨some 44, .ld false 1 (.t 43), none⟩, ⟨some 45, .call (.c (.fn n_engine_frame_push [])) [.t 37, .t 44], none⟩]) (.seq (.reg [⟨some 47, .mov (.t 5), none⟩, ⟨some 48, .bin .geq (.t 47) (.c (.int .i32 65)), none⟩, ⟨some 49, .mov (.t 48), none⟩, ⟨some 50, .mov (.t 5), some (49, true)⟩, ⟨some 51, .bin .leq (.t 50) (.c (.int .i32 90)), some (49, true)⟩, ⟨some 52, .pick (.t 49) (.t 51) (.c (.bool false)), none⟩, ⟨some 46, .mov (.t 52), none⟩]) (.cond (.t 46) (.reg [⟨some 53, .mov (.t 1), none⟩, ⟨some 54, .mov (.t 5), none⟩, ⟨some 55, .bin .sub (.t 54) (.c (.int .i32 65)), none⟩, ⟨some 56, .mov (.t 1), none⟩, ⟨some 57, .call (.c (.fn n_engine_frame_pop [])) [.t 56], none⟩, ⟨some 58, .nilc (.t 53), none⟩, ⟨some 59, .fadr 4 (.t 58), none⟩, ⟨some 60, .iadrA 26 1 (.t 59) (.t 55), none⟩, ⟨none, .st 1 (.t 60) (.t 57), none⟩]) (.seq (.reg [⟨some 62, .mov (.t 5), none⟩, ⟨some 63, .bin .eql (.t 62) (.c (.int .i32 955)), none⟩, ⟨some 61, .mov (.t 63), none⟩]) (.cond (.t 61) (.seq (.reg [⟨some 64, .mov (.t 1), none⟩, ⟨some 65, .nilc (.t 64), none⟩, ⟨some 66, .fadr 3 (.t 65), none⟩, ⟨some 67, .ld false 1 (.t 66), none⟩, ⟨some 68, .bin .add (.t 67) (.c (.int .i64 1)), none⟩, ⟨some 69, .nilc (.t 64), none⟩, ⟨some 70, .fadr 3 (.t 69), none⟩, ⟨none, .st 1 (.t 70) (.t 68), none⟩]) (.seq (.reg [⟨some 71, .mov (.t 0), none⟩, ⟨some 72, .mov (.t 1), none⟩, ⟨some 73, .fadr 2 (.t 4), none⟩, ⟨some 74, .ld false 1 (.t 73), none⟩, ⟨some 75, .call (.c (.fn n_engine_runner_calls [])) [.t 71, .t 72, .t 74], none⟩]) (.ret))) (.seq (.reg [⟨some 77, .mov (.t 5), none⟩, ⟨some 78, .call (.c (.fn n_strings_ContainsRune [])) [.c (.str ⟨#[63, 58, 93, 126]⟩), .t 77], none⟩, ⟨some 76, .mov (.t 78), none⟩]) (.cond (.t 76) (.seq (.reg [⟨some 79, .mov (.t 0), none⟩, ⟨some 80, .mov (.t 1), none⟩, ⟨some 81, .mov (.t 5), none⟩, ⟨some 82, .call (.c (.fn n_engine_runner_goes [])) [.t 79, .t 80, .t 81], none⟩]) (.ret)) (.seq (.reg [⟨some 84, .mov (.t 5), none⟩, ⟨some 85, .call (.c (.fn n_strings_ContainsRune [])) [.c (.str ⟨#[64, 194, 169, 36, 194, 174, 35, 194, 164]⟩), .t 84], none⟩, ⟨some 83, .mov (.t 85), none⟩]) (.cond (.t 83) (.reg [⟨some 86, .mov (.t 0), none⟩, ⟨some 87, .mov (.t 1), none⟩, ⟨some 88, .mov (.t 5), none⟩, ⟨some 89, .call (.c (.fn n_engine_runner_memory [])) [.t 86, .t 87, .t 88], none⟩]) (.reg [⟨some 19, .mov (.t 0), none⟩, ⟨some 20, .mov (.t 1), none⟩, ⟨some 21, .ld true 3 (.t 4), none⟩, ⟨some 22, .call (.c (.fn n_engine_runner_plain [])) [.t 19, .t 20, .t 21], none⟩])))))))))))))) (.reg [⟨some 90, .mov (.t 1), none⟩, ⟨some 91, .nilc (.t 90), none⟩, ⟨some 92, .fadr 3 (.t 91), none⟩, ⟨some 93, .ld false 1 (.t 92), none⟩, ⟨some 94, .bin .add (.t 93) (.c (.int .i64 1)), none⟩, ⟨some 95, .nilc (.t 90), none⟩, ⟨some 96, .fadr 3 (.t 95), none⟩, ⟨none, .st 1 (.t 96) (.t 94), none⟩])))
def f_reply_Of : IFun where
  nargs := 1
  results := [.tmp 2, .tmp 3]
  pure := true
  frz := true
  drop := []
  body :=
   .seq (.reg [⟨some 2, .mov (.c (.int .i64 0)), none⟩, ⟨some 3, .mov (.c (.bool false)), none⟩])
   (.seq (.seq (.reg [⟨some 17, .mov (.t 0), none⟩, ⟨some 18, .tas t_int (.int .i64 0) (.t 17), none⟩, ⟨some 16, .mov (.t 18), none⟩, ⟨some 19, .ext (.t 16) 0, none⟩, ⟨some 20, .ext (.t 16) 1, none⟩, ⟨some 4, .mov (.t 19), none⟩, ⟨some 5, .mov (.t 20), none⟩]) (.seq (.reg [⟨some 21, .mov (.t 5), none⟩]) (.cond (.t 21) (.seq (.reg [⟨some 22, .mov (.t 4), none⟩, ⟨some 2, .mov (.t 22), none⟩, ⟨some 3, .mov (.c (.bool true)), none⟩]) (.ret)) (.skip)))) (.seq (.seq (.reg [⟨some 24, .mov (.t 0), none⟩, ⟨some 25, .tas t_int64 (.int .i64 0) (.t 24), none⟩, ⟨some 23, .mov (.t 25), none⟩, ⟨some 26, .ext (.t 23) 0, none⟩, ⟨some 27, .ext (.t 23) 1, none⟩, ⟨some 6, .mov (.t 26), none⟩, ⟨some 7, .mov (.t 27), none⟩]) (.seq (.reg [⟨some 28, .mov (.t 7), none⟩]) (.cond (.t 28) (.seq (.reg [⟨some 29, .mov (.t 6), none⟩, ⟨some 2, .mov (.t 29), none⟩, ⟨some 3, .mov (.c (.bool true)), none⟩]) (.ret)) (.skip)))) (.seq (.seq (.reg [⟨some 31, .mov (.t 0), none⟩, ⟨some 32, .tas t_bool (.bool false) (.t 31), none⟩, ⟨some 30, .mov (.t 32), none⟩, ⟨some 33, .ext (.t 30) 0, none⟩, ⟨some 34, .ext (.t 30) 1, none⟩, ⟨some 8, .mov (.t 33), none⟩, ⟨some 9, .mov (.t 34), none⟩]) (.seq (.reg [⟨some 35, .mov (.t 9), none⟩]) (.cond (.t 35) (.seq (.seq (.reg [⟨some 36, .mov (.t 8), none⟩]) (.cond (.t 36) (.seq (.reg [⟨some 2, .mov (.c (.int .i64 1)), none⟩, ⟨some 3, .mov (.c (.bool true)), none⟩]) (.ret)) (.skip))) (.seq (.reg [⟨some 2, .mov (.c (.int .i64 0)), none⟩, ⟨some 3, .mov (.c (.bool true)), none⟩]) (.ret))) (.skip)))) (.seq (.seq (.reg [⟨some 38, .mov (.t 0), none⟩, ⟨some 39, .tas t_int32 (.int .i32 0) (.t 38), none⟩, ⟨some 37, .mov (.t 39), none⟩, ⟨some 40, .ext (.t 37) 0, none⟩, ⟨some 41, .ext (.t 37) 1, none⟩, ⟨some 10, .mov (.t 40), none⟩, ⟨some 11, .mov (.t 41), none⟩]) (.seq (.reg [⟨some 42, .mov (.t 11), none⟩]) (.cond (.t 42) (.seq (.reg [⟨some 43, .mov (.t 10), none⟩, ⟨some 44, .cint .i64 (.t 43), none⟩, ⟨some 2, .mov (.t 44), none⟩, ⟨some 3, .mov (.c (.bool true)), none⟩]) (.ret)) (.skip)))) (.seq (.seq (.reg [⟨some 46, .mov (.t 0), none⟩, ⟨some 47, .tas t_string (.str ⟨#[]⟩) (.t 46), none⟩, ⟨some 45, .mov (.t 47), none⟩, ⟨some 48, .ext (.t 45) 0, none⟩, ⟨some 49, .ext (.t 45) 1, none⟩, ⟨some 12, .mov (.t 48), none⟩, ⟨some 13, .mov (.t 49), none⟩]) (.seq (.reg [⟨some 50, .mov (.t 13), none⟩]) (.cond (.t 50) (.seq (.reg [⟨some 51, .mov (.t 12), none⟩, ⟨some 52, .call (.c (.fn n_reply_runes [])) [.t 51], none⟩, ⟨some 2, .mov (.t 52), none⟩, ⟨some 3, .mov (.c (.bool true)), none⟩]) (.ret)) (.skip)))) (.seq (.seq (.reg [⟨some 54, .mov (.t 0), none⟩, ⟨some 55, .tas t_interface_49 (.nilsl) (.t 54), none⟩, ⟨some 53, .mov (.t 55), none⟩, ⟨some 56, .ext (.t 53) 0, none⟩, ⟨some 57, .ext (.t 53) 1, none⟩, ⟨some 14, .mov (.t 56), none⟩, ⟨some 15, .mov (.t 57), none⟩]) (.seq (.reg [⟨some 58, .mov (.t 15), none⟩]) (.cond (.t 58) (.seq (.reg [⟨some 59, .mov (.t 14), none⟩, ⟨some 60, .len (.t 59), none⟩, ⟨some 2, .mov (.t 60), none⟩, ⟨some 3, .mov (.c (.bool true)), none⟩]) (.ret)) (.skip)))) (.seq (.reg [⟨some 2, .mov (.c (.int .i64 0)), none⟩, ⟨some 3, .mov (.c (.bool false)), none⟩]) (.ret))))))))
def f_engramtop_one : IFun where
  nargs := 1
  results := [.cell 2 true 3]
  pure := true
  frz := true
  drop := []
  body :=
   .seq (.reg [⟨some 2, .alloc [.int .i64 0, .int .i64 0, .nilsl], none⟩])
   (.seq (.reg [⟨some 3, .mov (.t 0), none⟩, ⟨some 4, .build [.int .i32 0, .int .i64 0, .str ⟨#[]⟩] [(0, 1, (.c (.int .i32 102))), (1, 1, (.c (.int .i64 2))), (2, 1, (.t 3))], none⟩, ⟨some 5, .bslice 3 [.int .i32 0, .int .i64 0, .str ⟨#[]⟩] 1 [(0, 3, (.t 4))], none⟩, ⟨some 6, .build [.int .i64 0, .int .i64 0, .nilsl] [(0, 1, (.c (.int .i64 1))), (1, 1, (.c (.int .i64 8))), (2, 1, (.t 5))], none⟩, ⟨none, .st 3 (.t 2) (.t 6), none⟩]) (.ret))
def f_slices_Clone_byte_byte : IFun where
  nargs := 1
  results := [.tmp 2]
  pure := false
  frz := false
  drop := []
  body :=
   .seq (.reg [⟨some 2, .mov (.c (.nilsl)), none⟩])
   (.seq (.seq (.reg [⟨some 3, .mov (.t 0), none⟩, ⟨some 4, .eqn 1 false (.t 3), none⟩]) (.cond (.t 4) (.seq (.reg [⟨some 2, .mov (.c (.nilsl)), none⟩]) (.ret)) (.skip))) (.seq (.reg [⟨some 5, .bslice 1 [] 0 [], none⟩, ⟨some 6, .mov (.t 0), none⟩, ⟨some 7, .app 1 1 (.t 5) (.t 6), none⟩, ⟨some 2, .mov (.t 7), none⟩]) (.ret)))
def l0_unit_named : IC :=
  .seq (.reg [⟨some 9, .bin .lss (.t 8) (.t 7), none⟩])
  (.seq (.cond (.t 9) (.skip) (.exit 0))
   (.seq (.block 1 (.seq (.reg [⟨some 10, .mov (.t 8), none⟩, ⟨some 11, .iadr 3 (.t 6) (.t 8), none⟩, ⟨some 12, .ld true 3 (.t 11), none⟩, ⟨some 4, .alloc [.int .i32 0, .int .i64 0, .str ⟨#[]⟩], none⟩, ⟨some 3, .mov (.t 10), none⟩, ⟨none, .st 3 (.t 4) (.t 12), none⟩]) (.seq (.reg [⟨some 13, .fadr 0 (.t 4), none⟩, ⟨some 14, .ld false 1 (.t 13), none⟩, ⟨some 15, .call (.c (.fn n_glyph_Name [])) [.t 14], none⟩, ⟨some 16, .un .not (.t 15), none⟩, ⟨some 17, .mov (.t 16), none⟩, ⟨some 18, .ld true 3 (.t 1), some (17, false)⟩, ⟨some 19, .fadr 0 (.t 4), some (17, false)⟩, ⟨some 20, .ld false 1 (.t 19), some (17, false)⟩, ⟨some 21, .call (.c (.fn n_check_Find [])) [.t 18, .t 20], some (17, false)⟩, ⟨some 22, .mov (.t 3), some (17, false)⟩, ⟨some 23, .bin .neq (.t 21) (.t 22), some (17, false)⟩, ⟨some 24, .pick (.t 17) (.c (.bool true)) (.t 23), none⟩, ⟨some 25, .mov (.t 24), none⟩, ⟨some 26, .fadr 1 (.t 4), some (25, false)⟩, ⟨some 27, .ld false 1 (.t 26), some (25, false)⟩, ⟨some 28, .bin .lss (.t 27) (.c (.int .i64 0)), some (25, false)⟩, ⟨some 29, .pick (.t 25) (.c (.bool true)) (.t 28), none⟩, ⟨some 30, .mov (.t 29), none⟩, ⟨some 31, .fadr 1 (.t 4), some (30, false)⟩, ⟨some 32, .ld false 1 (.t 31), some (30, false)⟩, ⟨some 33, .bin .gtr (.t 32) (.c (.int .i64 4)), some (30, false)⟩, ⟨some 34, .pick (.t 30) (.c (.bool true)) (.t 33), none⟩]) (.cond (.t 34) (.seq (.reg [⟨some 2, .mov (.c (.bool false)), none⟩]) (.ret)) (.skip))))) (.reg [⟨some 35, .bin .add (.t 8) (.c (.int .i64 1)), none⟩, ⟨some 8, .mov (.t 35), none⟩])))
def f_unit_named : IFun where
  nargs := 1
  results := [.tmp 2]
  pure := true
  frz := true
  drop := []
  body :=
   .seq (.reg [⟨some 1, .box (.t 0), none⟩, ⟨some 2, .mov (.c (.bool false)), none⟩])
   (.seq (.seq (.reg [⟨some 5, .fadr 2 (.t 1), none⟩, ⟨some 6, .ld false 1 (.t 5), none⟩, ⟨some 7, .len (.t 6), none⟩, ⟨some 8, .mov (.c (.int .i64 0)), none⟩]) (.block 0 (.loopK [1, 6, 7, 8] l0_unit_named))) (.keep [] (.seq (.reg [⟨some 2, .mov (.c (.bool true)), none⟩]) (.ret))))
def l0_check_Func : IC :=
  .seq (.reg [⟨some 50, .bin .lss (.t 49) (.t 48), none⟩])
  (.seq (.cond (.t 50) (.skip) (.exit 0))
   (.seq (.block 1 (.seq (.reg [⟨some 51, .iadr 3 (.t 47) (.t 49), none⟩, ⟨some 52, .ld true 3 (.t 51), none⟩, ⟨some 12, .alloc [.int .i32 0, .int .i64 0, .int .i32 0], none⟩, ⟨none, .st 3 (.t 12) (.t 52), none⟩]) (.seq (.reg [⟨some 53, .mov (.t 10), none⟩, ⟨some 54, .ld true 3 (.t 12), none⟩, ⟨some 55, .call (.c (.fn n_check_judge_token [])) [.t 53, .t 54], none⟩, ⟨some 13, .mov (.t 55), none⟩]) (.seq (.reg [⟨some 56, .mov (.t 13), none⟩, ⟨some 57, .bin .neq (.t 56) (.c (.int .i64 0)), none⟩]) (.cond (.t 57) (.seq (.reg [⟨some 58, .mov (.t 13), none⟩, ⟨some 4, .mov (.c (.nilsl)), none⟩, ⟨some 5, .mov (.t 58), none⟩]) (.ret)) (.skip)))))) (.reg [⟨some 59, .bin .add (.t 49) (.c (.int .i64 1)), none⟩, ⟨some 49, .mov (.t 59), none⟩])))
def f_check_Func : IFun where
  nargs := 2
  results := [.tmp 4, .tmp 5]
  pure := true
  frz := true
  drop := []
  body :=
   .seq (.reg [⟨some 2, .box (.t 0), none⟩, ⟨some 4, .mov (.c (.nilsl)), none⟩, ⟨some 5, .mov (.c (.int .i64 0)), none⟩])
   (.seq (.seq (.reg [⟨some 14, .mov (.t 1), none⟩, ⟨some 15, .bin .lss (.t 14) (.c (.int .i64 0)), none⟩, ⟨some 16, .mov (.t 15), none⟩, ⟨some 17, .mov (.t 1), some (16, false)⟩, ⟨some 18, .fadr 2 (.t 2), some (16, false)⟩, ⟨some 19, .ld false 1 (.t 18), some (16, false)⟩, ⟨some 20, .len (.t 19), some (16, false)⟩, ⟨some 21, .bin .geq (.t 17) (.t 20), some (16, false)⟩, ⟨some 22, .pick (.t 16) (.c (.bool true)) (.t 21), none⟩]) (.cond (.t 22) (.seq (.reg [⟨some 4, .mov (.c (.nilsl)), none⟩, ⟨some 5, .mov (.c (.int .i64 23)), none⟩]) (.ret)) (.skip))) (.seq (.reg [⟨some 24, .fadr 2 (.t 2), none⟩, ⟨some 25, .ld false 1 (.t 24), none⟩, ⟨some 26, .mov (.t 1), none⟩, ⟨some 27, .iadr 3 (.t 25) (.t 26), none⟩, ⟨some 28, .fadr 2 (.t 27), none⟩, ⟨some 29, .ld false 1 (.t 28), none⟩, ⟨some 30, .call (.c (.fn n_glyph_Tokens [])) [.t 29], none⟩, ⟨some 23, .mov (.t 30), none⟩, ⟨some 31, .ext (.t 23) 0, none⟩, ⟨some 32, .ext (.t 23) 1, none⟩, ⟨some 6, .mov (.t 31), none⟩, ⟨some 7, .mov (.t 32), none⟩]) (.seq (.seq (.reg [⟨some 33, .mov (.t 7), none⟩, ⟨some 34, .bin .neq (.t 33) (.c (.int .i64 0)), none⟩]) (.cond (.t 34) (.seq (.reg [⟨some 35, .mov (.t 7), none⟩, ⟨some 4, .mov (.c (.nilsl)), none⟩, ⟨some 5, .mov (.t 35), none⟩]) (.ret)) (.skip))) (.seq (.seq (.reg [⟨some 37, .mov (.t 6), none⟩, ⟨some 38, .call (.c (.fn n_nest_Of [])) [.t 37], none⟩, ⟨some 36, .mov (.t 38), none⟩, ⟨some 39, .ext (.t 36) 0, none⟩, ⟨some 40, .ext (.t 36) 1, none⟩, ⟨some 8, .mov (.t 39), none⟩, ⟨some 9, .mov (.t 40), none⟩]) (.seq (.reg [⟨some 41, .mov (.t 9), none⟩, ⟨some 42, .bin .neq (.t 41) (.c (.int .i64 0)), none⟩]) (.cond (.t 42) (.seq (.reg [⟨some 43, .mov (.t 9), none⟩, ⟨some 4, .mov (.c (.nilsl)), none⟩, ⟨some 5, .mov (.t 43), none⟩]) (.ret)) (.skip)))) (.seq (.reg [⟨some 44, .ld true 3 (.t 2), none⟩, ⟨some 45, .build [.int .i64 0, .int .i64 0, .nilsl, .int .i64 0, .nilsl, .nilsl] [(0, 3, (.t 44))], none⟩, ⟨some 46, .box (.t 45), none⟩, ⟨some 10, .mov (.t 46), none⟩]) (.seq (.seq (.reg [⟨some 47, .mov (.t 6), none⟩, ⟨some 48, .len (.t 47), none⟩, ⟨some 49, .mov (.c (.int .i64 0)), none⟩]) (.block 0 (.loopK [10, 47, 48, 49] l0_check_Func))) (.keep [10] (.seq (.seq (.reg [⟨some 60, .mov (.t 10), none⟩, ⟨some 61, .nilc (.t 60), none⟩, ⟨some 62, .fadr 3 (.t 61), none⟩, ⟨some 63, .ld false 1 (.t 62), none⟩, ⟨some 64, .bin .neq (.t 63) (.c (.int .i64 (-1))), none⟩, ⟨some 65, .mov (.t 64), none⟩, ⟨some 66, .mov (.t 10), some (65, true)⟩, ⟨some 67, .nilc (.t 66), some (65, true)⟩, ⟨some 68, .fadr 3 (.t 67), some (65, true)⟩, ⟨some 69, .ld false 1 (.t 68), some (65, true)⟩, ⟨some 70, .bin .neq (.t 69) (.c (.int .i64 1)), some (65, true)⟩, ⟨some 71, .pick (.t 65) (.t 70) (.c (.bool false)), none⟩]) (.cond (.t 71) (.seq (.reg [⟨some 4, .mov (.c (.nilsl)), none⟩, ⟨some 5, .mov (.c (.int .i64 14)), none⟩]) (.ret)) (.skip))) (.seq (.reg [⟨some 72, .mov (.t 10), none⟩, ⟨some 73, .nilc (.t 72), none⟩, ⟨some 74, .fadr 5 (.t 73), none⟩, ⟨some 75, .ld false 1 (.t 74), none⟩, ⟨some 4, .mov (.t 75), none⟩, ⟨some 5, .mov (.c (.int .i64 0)), none⟩]) (.ret))))))))))
def l0_slices_IndexFunc_api_Func_api_Func : IC :=
  .seq (.reg [⟨some 9, .bin .lss (.t 8) (.t 7), none⟩])
  (.seq (.cond (.t 9) (.skip) (.exit 0))
   (.seq (.block 1 (.seq (.reg [⟨some 10, .mov (.t 8), none⟩, ⟨some 5, .mov (.t 10), none⟩]) (.seq (.reg [⟨some 11, .mov (.t 1), none⟩, ⟨some 12, .mov (.t 0), none⟩, ⟨some 13, .mov (.t 5), none⟩, ⟨some 14, .iadr 3 (.t 12) (.t 13), none⟩, ⟨some 15, .ld true 3 (.t 14), none⟩, ⟨some 16, .call (.t 11) [.t 15], none⟩]) (.cond (.t 16) (.seq (.reg [⟨some 17, .mov (.t 5), none⟩, ⟨some 4, .mov (.t 17), none⟩]) (.ret)) (.skip))))) (.reg [⟨some 18, .bin .add (.t 8) (.c (.int .i64 1)), none⟩, ⟨some 8, .mov (.t 18), none⟩])))
def f_slices_IndexFunc_api_Func_api_Func : IFun where
  nargs := 2
  results := [.tmp 4]
  pure := false
  frz := false
  drop := []
  body :=
   .seq (.reg [⟨some 4, .mov (.c (.int .i64 0)), none⟩])
   (.seq (.seq (.reg [⟨some 6, .mov (.t 0), none⟩, ⟨some 7, .len (.t 6), none⟩, ⟨some 8, .mov (.c (.int .i64 0)), none⟩]) (.block 0 (.loopK [0, 1, 7, 8] l0_slices_IndexFunc_api_Func_api_Func))) (.keep [] (.seq (.reg [⟨some 4, .mov (.c (.int .i64 (-1))), none⟩]) (.ret))))
def f_check_Find_1 : IFun where
  nargs := 2
  results := [.tmp 3]
  pure := false
  frz := false
  drop := []
  body :=
   .seq (.reg [⟨some 2, .box (.t 0), none⟩, ⟨some 3, .mov (.c (.bool false)), none⟩])
   (.seq (.reg [⟨some 4, .fadr 0 (.t 2), none⟩, ⟨some 5, .ld false 1 (.t 4), none⟩, ⟨some 6, .ld false 1 (.t 1), none⟩, ⟨some 7, .bin .eql (.t 5) (.t 6), none⟩, ⟨some 3, .mov (.t 7), none⟩]) (.ret))
def f_slices_Clone_api_Ask_api_Ask : IFun where
  nargs := 1
  results := [.tmp 2]
  pure := true
  frz := true
  drop := []
  body :=
   .seq (.reg [⟨some 2, .mov (.c (.nilsl)), none⟩])
   (.seq (.seq (.reg [⟨some 3, .mov (.t 0), none⟩, ⟨some 4, .eqn 1 false (.t 3), none⟩]) (.cond (.t 4) (.seq (.reg [⟨some 2, .mov (.c (.nilsl)), none⟩]) (.ret)) (.skip))) (.seq (.reg [⟨some 5, .bslice 2 [] 0 [], none⟩, ⟨some 6, .mov (.t 0), none⟩, ⟨some 7, .app 2 16 (.t 5) (.t 6), none⟩, ⟨some 2, .mov (.t 7), none⟩]) (.ret)))
def l0_glyph_Tokens : IC :=
  .seq (.reg [⟨some 14, .next (.t 13), none⟩, ⟨some 15, .ext (.t 14) 0, none⟩])
  (.seq (.cond (.t 15) (.skip) (.exit 0))
   (.block 1 (.seq (.reg [⟨some 16, .ext (.t 14) 2, none⟩, ⟨some 6, .mov (.t 16), none⟩]) (.seq (.reg [⟨some 17, .mov (.t 4), none⟩, ⟨some 18, .mov (.t 6), none⟩, ⟨some 19, .call (.c (.fn n_glyph_reader_rune [])) [.t 17, .t 18], none⟩]) (.seq (.reg [⟨some 20, .mov (.t 4), none⟩, ⟨some 21, .nilc (.t 20), none⟩, ⟨some 22, .fadr 2 (.t 21), none⟩, ⟨some 23, .ld false 1 (.t 22), none⟩]) (.cond (.t 23) (.seq (.reg [⟨some 2, .mov (.c (.nilsl)), none⟩, ⟨some 3, .mov (.c (.int .i64 12)), none⟩]) (.ret)) (.skip)))))))
def f_glyph_Tokens : IFun where
  nargs := 1
  results := [.tmp 2, .tmp 3]
  pure := true
  frz := true
  drop := []
  body :=
   .seq (.reg [⟨some 2, .mov (.c (.nilsl)), none⟩, ⟨some 3, .mov (.c (.int .i64 0)), none⟩])
   (.seq (.seq (.reg [⟨some 7, .mov (.t 0), none⟩, ⟨some 8, .lens (.t 7), none⟩, ⟨some 9, .bin .gtr (.t 8) (.c (.int .i64 512)), none⟩]) (.cond (.t 9) (.seq (.reg [⟨some 2, .mov (.c (.nilsl)), none⟩, ⟨some 3, .mov (.c (.int .i64 3)), none⟩]) (.ret)) (.skip))) (.seq (.reg [⟨some 10, .build [.nilsl, .str ⟨#[]⟩, .bool false] [], none⟩, ⟨some 11, .box (.t 10), none⟩, ⟨some 4, .mov (.t 11), none⟩]) (.seq (.seq (.reg [⟨some 12, .mov (.t 0), none⟩, ⟨some 13, .rng (.t 12), none⟩]) (.block 0 (.loopK [4, 13] l0_glyph_Tokens))) (.keep [4] (.seq (.seq (.reg [⟨some 24, .mov (.t 4), none⟩, ⟨some 25, .call (.c (.fn n_glyph_reader_number [])) [.t 24], none⟩]) (.seq (.reg [⟨some 26, .mov (.t 4), none⟩, ⟨some 27, .nilc (.t 26), none⟩, ⟨some 28, .fadr 2 (.t 27), none⟩, ⟨some 29, .ld false 1 (.t 28), none⟩, ⟨some 30, .mov (.t 29), none⟩, ⟨some 31, .mov (.t 4), some (30, false)⟩, ⟨some 32, .call (.c (.fn n_glyph_reader_waits [])) [.t 31], some (30, false)⟩, ⟨some 33, .pick (.t 30) (.c (.bool true)) (.t 32), none⟩]) (.cond (.t 33) (.seq (.reg [⟨some 2, .mov (.c (.nilsl)), none⟩, ⟨some 3, .mov (.c (.int .i64 12)), none⟩]) (.ret)) (.skip)))) (.seq (.reg [⟨some 34, .mov (.t 4), none⟩, ⟨some 35, .nilc (.t 34), none⟩, ⟨some 36, .fadr 0 (.t 35), none⟩, ⟨some 37, .ld false 1 (.t 36), none⟩, ⟨some 2, .mov (.t 37), none⟩, ⟨some 3, .mov (.c (.int .i64 0)), none⟩]) (.ret)))))))
def f_nest_Of : IFun where
  nargs := 1
  results := [.tmp 2, .tmp 3]
  pure := true
  frz := true
  drop := []
  body :=
   .seq (.reg [⟨some 2, .mov (.c (.nilsl)), none⟩, ⟨some 3, .mov (.c (.int .i64 0)), none⟩])
   (.seq (.reg [⟨some 7, .mov (.t 0), none⟩, ⟨some 8, .call (.c (.fn n_nest_match [])) [.t 7], none⟩, ⟨some 6, .mov (.t 8), none⟩, ⟨some 9, .ext (.t 6) 0, none⟩, ⟨some 10, .ext (.t 6) 1, none⟩, ⟨some 4, .mov (.t 9), none⟩, ⟨some 5, .mov (.t 10), none⟩]) (.seq (.seq (.reg [⟨some 11, .mov (.t 5), none⟩, ⟨some 12, .un .not (.t 11), none⟩]) (.cond (.t 12) (.seq (.reg [⟨some 2, .mov (.c (.nilsl)), none⟩, ⟨some 3, .mov (.c (.int .i64 13)), none⟩]) (.ret)) (.skip))) (.seq (.reg [⟨some 13, .mov (.t 4), none⟩, ⟨some 14, .nilc (.t 13), none⟩, ⟨some 15, .fadr 0 (.t 14), none⟩, ⟨some 16, .ld false 1 (.t 15), none⟩, ⟨some 2, .mov (.t 16), none⟩, ⟨some 3, .mov (.c (.int .i64 0)), none⟩]) (.ret))))
def f_engine_frame_pop : IFun where
  nargs := 1
  results := [.tmp 2]
  pure := false
  frz := false
  drop := []
  body :=
   .seq (.reg [⟨some 2, .mov (.c (.int .i64 0)), none⟩])
   (.seq (.reg [⟨some 4, .mov (.t 0), none⟩, ⟨some 5, .nilc (.t 4), none⟩, ⟨some 6, .fadr 30 (.t 5), none⟩, ⟨some 7, .ld false 1 (.t 6), none⟩, ⟨some 8, .mov (.t 0), none⟩, ⟨some 9, .nilc (.t 8), none⟩, ⟨some 10, .fadr 30 (.t 9), none⟩, ⟨some 11, .ld false 1 (.t 10), none⟩, ⟨some 12, .len (.t 11), none⟩, ⟨some 13, .bin .sub (.t 12) (.c (.int .i64 1)), none⟩, ⟨some 14, .iadr 1 (.t 7) (.t 13), none⟩, ⟨some 15, .ld false 1 (.t 14), none⟩, ⟨some 3, .mov (.t 15), none⟩]) (.seq (.reg [⟨some 16, .mov (.t 0), none⟩, ⟨some 17, .mov (.t 0), none⟩, ⟨some 18, .nilc (.t 17), none⟩, ⟨some 19, .fadr 30 (.t 18), none⟩, ⟨some 20, .ld false 1 (.t 19), none⟩, ⟨some 21, .mov (.t 0), none⟩, ⟨some 22, .nilc (.t 21), none⟩, ⟨some 23, .fadr 30 (.t 22), none⟩, ⟨some 24, .ld false 1 (.t 23), none⟩, ⟨some 25, .len (.t 24), none⟩, ⟨some 26, .bin .sub (.t 25) (.c (.int .i64 1)), none⟩, ⟨some 27, .slc 1 (.t 20) none (some (.t 26)) none, none⟩, ⟨some 28, .nilc (.t 16), none⟩, ⟨some 29, .fadr 30 (.t 28), none⟩, ⟨none, .st 1 (.t 29) (.t 27), none⟩]) (.seq (.reg [⟨some 30, .mov (.t 3), none⟩, ⟨some 2, .mov (.t 30), none⟩]) (.ret))))
def f_engine_frame_push : IFun where
  nargs := 2
  results := []
  pure := false
  frz := false
  drop := []
  body :=
   .reg [⟨some 4, .mov (.t 0), none⟩, ⟨some 5, .mov (.t 0), none⟩, ⟨some 6, .nilc (.t 5), none⟩, ⟨some 7, .fadr 30 (.t 6), none⟩, ⟨some 8, .ld false 1 (.t 7), none⟩, ⟨some 9, .mov (.t 1), none⟩, ⟨some 10, .bslice 1 [.int .i64 0] 1 [(0, 1, (.t 9))], none⟩, ⟨some 11, .app 1 8 (.t 8) (.t 10), none⟩, ⟨some 12, .nilc (.t 4), none⟩, ⟨some 13, .fadr 30 (.t 12), none⟩, ⟨none, .st 1 (.t 13) (.t 11), none⟩]
def f_engine_runner_calls : IFun where
  nargs := 3
  results := []
  pure := false
  frz := false
  drop := []
  body :=
   .seq (.reg [⟨some 9, .mov (.t 0), none⟩, ⟨some 10, .nilc (.t 9), none⟩, ⟨some 11, .fadr 0 (.t 10), none⟩, ⟨some 12, .ld true 3 (.t 11), none⟩, ⟨some 13, .mov (.t 2), none⟩, ⟨some 14, .call (.c (.fn n_check_Find [])) [.t 12, .t 13], none⟩, ⟨some 6, .mov (.t 14), none⟩])
   (.seq (.reg [⟨some 15, .mov (.t 1), none⟩, ⟨some 16, .nilc (.t 15), none⟩, ⟨some 17, .fadr 30 (.t 16), none⟩, ⟨some 18, .ld false 1 (.t 17), none⟩, ⟨some 19, .len (.t 18), none⟩, ⟨some 20, .mov (.t 0), none⟩, ⟨some 21, .nilc (.t 20), none⟩, ⟨some 22, .fadr 3 (.t 21), none⟩, ⟨some 23, .ld false 1 (.t 22), none⟩, ⟨some 24, .mov (.t 6), none⟩, ⟨some 25, .iadr 3 (.t 23) (.t 24), none⟩, ⟨some 26, .fadr 2 (.t 25), none⟩, ⟨some 27, .ld false 1 (.t 26), none⟩, ⟨some 28, .bin .sub (.t 19) (.t 27), none⟩, ⟨some 7, .mov (.t 28), none⟩]) (.seq (.reg [⟨some 29, .mov (.t 1), none⟩, ⟨some 30, .nilc (.t 29), none⟩, ⟨some 31, .fadr 30 (.t 30), none⟩, ⟨some 32, .ld false 1 (.t 31), none⟩, ⟨some 33, .mov (.t 7), none⟩, ⟨some 34, .slc 1 (.t 32) (some (.t 33)) none none, none⟩, ⟨some 8, .mov (.t 34), none⟩]) (.seq (.reg [⟨some 35, .mov (.t 1), none⟩, ⟨some 36, .mov (.t 1), none⟩, ⟨some 37, .nilc (.t 36), none⟩, ⟨some 38, .fadr 30 (.t 37), none⟩, ⟨some 39, .ld false 1 (.t 38), none⟩, ⟨some 40, .mov (.t 7), none⟩, ⟨some 41, .slc 1 (.t 39) none (some (.t 40)) none, none⟩, ⟨some 42, .nilc (.t 35), none⟩, ⟨some 43, .fadr 30 (.t 42), none⟩, ⟨none, .st 1 (.t 43) (.t 41), none⟩]) (.seq (.seq (.reg [⟨some 44, .mov (.t 0), none⟩, ⟨some 45, .nilc (.t 44), none⟩, ⟨some 46, .fadr 6 (.t 45), none⟩, ⟨some 47, .ld false 1 (.t 46), none⟩, ⟨some 48, .len (.t 47), none⟩, ⟨some 49, .bin .geq (.t 48) (.c (.int .i64 32)), none⟩]) (.cond (.t 49) (.seq (.reg [⟨some 50, .mov (.t 0), none⟩, ⟨some 51, .nilc (.t 50), none⟩, ⟨some 52, .fadr 7 (.t 51), none⟩, ⟨none, .st 1 (.t 52) (.c (.int .i64 6)), none⟩]) (.ret)) (.skip))) (.reg [⟨some 53, .mov (.t 0), none⟩, ⟨some 54, .mov (.t 6), none⟩, ⟨some 55, .mov (.t 8), none⟩, ⟨some 56, .call (.c (.fn n_engine_runner_call [])) [.t 53, .t 54, .t 55], none⟩])))))
def f_strings_ContainsRune : IFun where
  nargs := 2
  results := [.tmp 4]
  pure := true
  frz := true
  drop := []
  body :=
   .seq (.reg [⟨some 4, .mov (.c (.bool false)), none⟩])
   (.seq (.reg [⟨some 5, .mov (.t 0), none⟩, ⟨some 6, .mov (.t 1), none⟩, ⟨some 7, .call (.c (.fn n_strings_IndexRune [])) [.t 5, .t 6], none⟩, ⟨some 8, .bin .geq (.t 7) (.c (.int .i64 0)), none⟩, ⟨some 4, .mov (.t 8), none⟩]) (.ret))
def f_engine_runner_goes : IFun where
  nargs := 3
  results := []
  pure := false
  frz := false
  drop := []
  body :=
   .seq (.seq (.reg [⟨some 6, .mov (.t 2), none⟩, ⟨some 7, .bin .eql (.t 6) (.c (.int .i32 63)), none⟩, ⟨some 8, .mov (.t 7), none⟩, ⟨some 9, .mov (.t 1), some (8, true)⟩, ⟨some 10, .call (.c (.fn n_engine_frame_pop [])) [.t 9], some (8, true)⟩, ⟨some 11, .bin .neq (.t 10) (.c (.int .i64 0)), some (8, true)⟩, ⟨some 12, .pick (.t 8) (.t 11) (.c (.bool false)), none⟩]) (.cond (.t 12) (.seq (.reg [⟨some 13, .mov (.t 1), none⟩, ⟨some 14, .nilc (.t 13), none⟩, ⟨some 15, .fadr 3 (.t 14), none⟩, ⟨some 16, .ld false 1 (.t 15), none⟩, ⟨some 17, .bin .add (.t 16) (.c (.int .i64 1)), none⟩, ⟨some 18, .nilc (.t 13), none⟩, ⟨some 19, .fadr 3 (.t 18), none⟩, ⟨none, .st 1 (.t 19) (.t 17), none⟩]) (.ret)) (.skip)))
   (.reg [⟨some 20, .mov (.t 1), none⟩, ⟨some 21, .mov (.t 1), none⟩, ⟨some 22, .nilc (.t 21), none⟩, ⟨some 23, .fadr 0 (.t 22), none⟩, ⟨some 24, .fadr 1 (.t 23), none⟩, ⟨some 25, .ld false 1 (.t 24), none⟩, ⟨some 26, .mov (.t 1), none⟩, ⟨some 27, .nilc (.t 26), none⟩, ⟨some 28, .fadr 3 (.t 27), none⟩, ⟨some 29, .ld false 1 (.t 28), none⟩, ⟨some 30, .iadr 1 (.t 25) (.t 29), none⟩, ⟨some 31, .ld false 1 (.t 30), none⟩, ⟨some 32, .nilc (.t 20), none⟩, ⟨some 33, .fadr 3 (.t 32), none⟩, ⟨none, .st 1 (.t 33) (.t 31), none⟩])
def f_engine_runner_memory : IFun where
  nargs := 3
  results := []
  pure := false
  frz := false
  drop := []
  body :=
   .seq (.reg [⟨some 9, .mov (.t 2), none⟩])
   (.block 0 (.seq (.seq (.reg [⟨some 20, .bin .eql (.t 9) (.c (.int .i32 64)), none⟩, ⟨some 19, .mov (.t 20), none⟩]) (.cond (.t 19) (.skip) (.reg [⟨some 21, .bin .eql (.t 9) (.c (.int .i32 169)), none⟩, ⟨some 19, .mov (.t 21), none⟩]))) (.cond (.t 19) (.seq (.regW [⟨some 23, .mov (.t 0), none⟩, ⟨some 24, .nilc (.t 23), none⟩, ⟨some 25, .fadr 4 (.t 24), none⟩, ⟨some 26, .ld false 1 (.t 25), none⟩, ⟨some 27, .mov (.t 1), none⟩, ⟨some 28, .call (.c (.fn n_engine_frame_pop [])) [.t 27], none⟩, ⟨some 29, .mov (.t 2), none⟩, ⟨some 30, .bin .eql (.t 29) (.c (.int .i32 64)), none⟩, ⟨some 31, .call (.c (.fn n_cells_Memory_Load [])) [.t 26, .t 28, .t 30], none⟩, ⟨some 22, .mov (.t 31), none⟩, ⟨some 32, .ext (.t 22) 0, none⟩, ⟨some 33, .ext (.t 22) 1, none⟩, ⟨some 6, .mov (.t 32), none⟩, ⟨some 7, .mov (.t 33), none⟩] [(3, 14)]) (.seq (.reg [⟨some 34, .mov (.t 0), none⟩, ⟨some 35, .mov (.t 7), none⟩, ⟨some 36, .call (.c (.fn n_engine_runner_stop [])) [.t 34, .t 35, .c (.int .i64 5)], none⟩]) (.reg [⟨some 37, .mov (.t 1), none⟩, ⟨some 38, .mov (.t 6), none⟩, ⟨some 39, .call (.c (.fn n_engine_frame_push [])) [.t 37, .t 38], none⟩]))) (.seq (.seq (.reg [⟨some 41, .bin .eql (.t 9) (.c (.int .i32 36)), none⟩, ⟨some 40, .mov (.t 41), none⟩]) (.cond (.t 40) (.skip) (.reg [⟨some 42, .bin .eql (.t 9) (.c (.int .i32 174)), none⟩, ⟨some 40, .mov (.t 42), none⟩]))) (.cond (.t 40) (.seq (.reg [⟨some 43, .mov (.t 1), none⟩, ⟨some 44, .call (.c (.fn n_engine_frame_pop [])) [.t 43], none⟩, ⟨some 8, .mov (.t 44), none⟩]) (.regW [⟨some 45, .mov (.t 0), none⟩, ⟨some 46, .mov (.t 0), none⟩, ⟨some 47, .nilc (.t 46), none⟩, ⟨some 48, .fadr 4 (.t 47), none⟩, ⟨some 49, .ld false 1 (.t 48), none⟩, ⟨some 50, .mov (.t 1), none⟩, ⟨some 51, .call (.c (.fn n_engine_frame_pop [])) [.t 50], none⟩, ⟨some 52, .mov (.t 8), none⟩, ⟨some 53, .mov (.t 2), none⟩, ⟨some 54, .bin .eql (.t 53) (.c (.int .i32 36)), none⟩, ⟨some 55, .call (.c (.fn n_cells_Memory_Store [])) [.t 49, .t 51, .t 52, .t 54], none⟩, ⟨some 56, .call (.c (.fn n_engine_runner_stop [])) [.t 45, .t 55, .c (.int .i64 5)], none⟩] [(4, 10)])) (.seq (.reg [⟨some 58, .bin .eql (.t 9) (.c (.int .i32 35)), none⟩, ⟨some 57, .mov (.t 58), none⟩]) (.cond (.t 57) (.reg [⟨some 59, .mov (.t 1), none⟩, ⟨some 60, .mov (.t 0), none⟩, ⟨some 61, .nilc (.t 60), none⟩, ⟨some 62, .fadr 4 (.t 61), none⟩, ⟨some 63, .ld false 1 (.t 62), none⟩, ⟨some 64, .call (.c (.fn n_cells_Memory_Pages [])) [.t 63], none⟩, ⟨some 65, .call (.c (.fn n_engine_frame_push [])) [.t 59, .t 64], none⟩]) (.regW [⟨some 10, .mov (.t 1), none⟩, ⟨some 11, .mov (.t 0), none⟩, ⟨some 12, .nilc (.t 11), none⟩, ⟨some 13, .fadr 4 (.t 12), none⟩, ⟨some 14, .ld false 1 (.t 13), none⟩, ⟨some 15, .mov (.t 1), none⟩, ⟨some 16, .call (.c (.fn n_engine_frame_pop [])) [.t 15], none⟩, ⟨some 17, .call (.c (.fn n_cells_Memory_Grow [])) [.t 14, .t 16], none⟩, ⟨some 18, .call (.c (.fn n_engine_frame_push [])) [.t 10, .t 17], none⟩] [(4, 7)]))))))))
def f_engine_runner_plain : IFun where
  nargs := 3
  results := []
  pure := false
  frz := false
  drop := []
  body :=
   .seq (.reg [⟨some 5, .box (.t 2), none⟩])
   (.seq (.reg [⟨some 13, .fadr 0 (.t 5), none⟩, ⟨some 14, .ld false 1 (.t 13), none⟩]) (.block 0 (.seq (.reg [⟨some 35, .bin .eql (.t 14) (.c (.int .i32 46)), none⟩, ⟨some 34, .mov (.t 35), none⟩]) (.cond (.t 34) (.reg [⟨some 36, .mov (.t 1), none⟩, ⟨some 37, .mov (.t 1), none⟩, ⟨some 38, .nilc (.t 37), none⟩, ⟨some 39, .fadr 30 (.t 38), none⟩, ⟨some 40, .ld false 1 (.t 39), none⟩, ⟨some 41, .mov (.t 1), none⟩, ⟨some 42, .nilc (.t 41), none⟩, ⟨some 43, .fadr 30 (.t 42), none⟩, ⟨some 44, .ld false 1 (.t 43), none⟩, ⟨some 45, .len (.t 44), none⟩, ⟨some 46, .bin .sub (.t 45) (.c (.int .i64 1)), none⟩, ⟨some 47, .iadr 1 (.t 40) (.t 46), none⟩, ⟨some 48, .ld false 1 (.t 47), none⟩, ⟨some 49, .call (.c (.fn n_engine_frame_push [])) [.t 36, .t 48], none⟩]) (.seq (.reg [⟨some 51, .bin .eql (.t 14) (.c (.int .i32 44)), none⟩, ⟨some 50, .mov (.t 51), none⟩]) (.cond (.t 50) (.reg [⟨some 52, .mov (.t 1), none⟩, ⟨some 53, .call (.c (.fn n_engine_frame_pop [])) [.t 52], none⟩]) (.seq (.seq (.reg [⟨some 55, .bin .eql (.t 14) (.c (.int .i32 59)), none⟩, ⟨some 54, .mov (.t 55), none⟩]) (.cond (.t 54) (.skip) (.reg [⟨some 56, .bin .eql (.t 14) (.c (.int .i32 91)), none⟩, ⟨some 54, .mov (.t 56), none⟩]))) (.cond (.t 54) (.skip) (.seq (.reg [⟨some 58, .bin .eql (.t 14) (.c (.int .i32 161)), none⟩, ⟨some 57, .mov (.t 58), none⟩]) (.cond (.t 57) (.reg [⟨some 59, .mov (.t 0), none⟩, ⟨some 60, .nilc (.t 59), none⟩, ⟨some 61, .fadr 7 (.t 60), none⟩, ⟨none, .st 1 (.t 61) (.c (.int .i64 2)), none⟩]) (.seq (.reg [⟨some 63, .bin .eql (.t 14) (.c (.int .i32 960)), none⟩, ⟨some 62, .mov (.t 63), none⟩]) (.cond (.t 62) (.seq (.regW [⟨some 65, .mov (.t 0), none⟩, ⟨some 66, .nilc (.t 65), none⟩, ⟨some 67, .fadr 5 (.t 66), none⟩, ⟨some 68, .ld false 1 (.t 67), none⟩, ⟨some 69, .fadr 2 (.t 5), none⟩, ⟨some 70, .ld false 1 (.t 69), none⟩, ⟨some 71, .mov (.t 1), none⟩, ⟨some 72, .call (.c (.fn n_engine_frame_pop [])) [.t 71], none⟩, ⟨some 73, .call (.c (.fn n_reply_Row_Ask [])) [.t 68, .t 70, .t 72], none⟩, ⟨some 64, .mov (.t 73), none⟩, ⟨some 74, .ext (.t 64) 0, none⟩, ⟨some 75, .ext (.t 64) 1, none⟩, ⟨some 6, .mov (.t 74), none⟩, ⟨some 7, .mov (.t 75), none⟩] [(3, 8), (5, 8)]) (.seq (.reg [⟨some 76, .mov (.t 0), none⟩, ⟨some 77, .mov (.t 7), none⟩, ⟨some 78, .call (.c (.fn n_engine_runner_stop [])) [.t 76, .t 77, .c (.int .i64 7)], none⟩]) (.reg [⟨some 79, .mov (.t 1), none⟩, ⟨some 80, .mov (.t 6), none⟩, ⟨some 81, .call (.c (.fn n_engine_frame_push [])) [.t 79, .t 80], none⟩]))) (.seq (.reg [⟨some 83, .bin .eql (.t 14) (.c (.int .i32 33)), none⟩, ⟨some 82, .mov (.t 83), none⟩]) (.cond (.t 82) (.seq (.regW [⟨some 85, .fadr 0 (.t 5), none⟩, ⟨some 86, .ld false 1 (.t 85), none⟩, ⟨some 87, .mov (.t 1), none⟩, ⟨some 88, .call (.c (.fn n_engine_frame_pop [])) [.t 87], none⟩, ⟨some 89, .call (.c (.fn n_word_Do [])) [.t 86, .t 88, .c (.int .i64 0)], none⟩, ⟨some 84, .mov (.t 89), none⟩, ⟨some 90, .ext (.t 84) 0, none⟩, ⟨some 91, .ext (.t 84) 1, none⟩, ⟨some 8, .mov (.t 90), none⟩, ⟨some 9, .mov (.t 91), none⟩] [(1, 10)]) (.seq (.reg [⟨some 92, .mov (.t 0), none⟩, ⟨some 93, .mov (.t 9), none⟩, ⟨some 94, .bin .eql (.t 93) (.c (.int .i64 0)), none⟩, ⟨some 95, .mov (.t 9), none⟩, ⟨some 96, .call (.c (.fn n_engine_runner_stop [])) [.t 92, .t 94, .t 95], none⟩]) (.reg [⟨some 97, .mov (.t 1), none⟩, ⟨some 98, .mov (.t 8), none⟩, ⟨some 99, .call (.c (.fn n_engine_frame_push [])) [.t 97, .t 98], none⟩]))) (.seq (.reg [⟨some 15, .mov (.t 1), none⟩, ⟨some 16, .call (.c (.fn n_engine_frame_pop [])) [.t 15], none⟩, ⟨some 10, .mov (.t 16), none⟩]) (.seq (.regW [⟨some 18, .fadr 0 (.t 5), none⟩, ⟨some 19, .ld false 1 (.t 18), none⟩, ⟨some 20, .mov (.t 1), none⟩, ⟨some 21, .call (.c (.fn n_engine_frame_pop [])) [.t 20], none⟩, ⟨some 22, .mov (.t 10), none⟩, ⟨some 23, .call (.c (.fn n_word_Do [])) [.t 19, .t 21, .t 22], none⟩, ⟨some 17, .mov (.t 23), none⟩, ⟨some 24, .ext (.t 17) 0, none⟩, ⟨some 25, .ext (.t 17) 1, none⟩, ⟨some 11, .mov (.t 24), none⟩, ⟨some 12, .mov (.t 25), none⟩] [(1, 11)]) (.seq (.reg [⟨some 26, .mov (.t 0), none⟩, ⟨some 27, .mov (.t 12), none⟩, ⟨some 28, .bin .eql (.t 27) (.c (.int .i64 0)), none⟩, ⟨some 29, .mov (.t 12), none⟩, ⟨some 30, .call (.c (.fn n_engine_runner_stop [])) [.t 26, .t 28, .t 29], none⟩]) (.reg [⟨some 31, .mov (.t 1), none⟩, ⟨some 32, .mov (.t 11), none⟩, ⟨some 33, .call (.c (.fn n_engine_frame_push [])) [.t 31, .t 32], none⟩]))))))))))))))))))
def l0_reply_runes : IC :=
  .seq (.reg [⟨some 6, .next (.t 5), none⟩, ⟨some 7, .ext (.t 6) 0, none⟩])
  (.seq (.cond (.t 7) (.skip) (.exit 0))
   (.block 1 (.reg [⟨some 8, .mov (.t 3), none⟩, ⟨some 9, .bin .add (.t 8) (.c (.int .i64 1)), none⟩, ⟨some 3, .mov (.t 9), none⟩])))
def f_reply_runes : IFun where
  nargs := 1
  results := [.tmp 2]
  pure := true
  frz := true
  drop := []
  body :=
   .seq (.reg [⟨some 2, .mov (.c (.int .i64 0)), none⟩])
   (.seq (.reg [⟨some 3, .mov (.c (.int .i64 0)), none⟩]) (.seq (.seq (.reg [⟨some 4, .mov (.t 0), none⟩, ⟨some 5, .rng (.t 4), none⟩]) (.block 0 (.loopK [3, 5] l0_reply_runes))) (.keep [3] (.seq (.reg [⟨some 10, .mov (.t 3), none⟩, ⟨some 2, .mov (.t 10), none⟩]) (.ret)))))
def f_glyph_Name : IFun where
  nargs := 1
  results := [.tmp 2]
  pure := true
  frz := true
  drop := []
  body :=
   .seq (.reg [⟨some 2, .mov (.c (.bool false)), none⟩])
   (.seq (.reg [⟨some 3, .mov (.t 0), none⟩, ⟨some 4, .call (.c (.fn n_glyph_within [])) [.t 3, .c (.int .i32 97), .c (.int .i32 122)], none⟩, ⟨some 5, .mov (.t 4), none⟩, ⟨some 6, .mov (.t 0), some (5, false)⟩, ⟨some 7, .bin .gtr (.t 6) (.c (.int .i32 255)), some (5, false)⟩, ⟨some 8, .mov (.t 7), some (5, false)⟩, ⟨some 9, .mov (.t 0), some (8, true)⟩, ⟨some 10, .call (.c (.fn n_utf8_ValidRune [])) [.t 9], some (8, true)⟩, ⟨some 11, .pick (.t 8) (.t 10) (.c (.bool false)), some (5, false)⟩, ⟨some 12, .mov (.t 11), some (5, false)⟩, ⟨some 13, .mov (.t 0), some (12, true)⟩, ⟨some 14, .bin .neq (.t 13) (.c (.int .i32 65533)), some (12, true)⟩, ⟨some 15, .pick (.t 12) (.t 14) (.c (.bool false)), some (5, false)⟩, ⟨some 16, .pick (.t 5) (.c (.bool true)) (.t 15), none⟩, ⟨some 2, .mov (.t 16), none⟩]) (.ret))
def f_check_judge_token : IFun where
  nargs := 2
  results := [.tmp 4]
  pure := false
  frz := false
  drop := []
  body :=
   .seq (.reg [⟨some 3, .box (.t 1), none⟩, ⟨some 4, .mov (.c (.int .i64 0)), none⟩])
   (.seq (.regW [⟨some 8, .mov (.t 0), none⟩, ⟨some 9, .mov (.t 0), none⟩, ⟨some 10, .nilc (.t 9), none⟩, ⟨some 11, .fadr 5 (.t 10), none⟩, ⟨some 12, .ld false 1 (.t 11), none⟩, ⟨some 13, .mov (.t 0), none⟩, ⟨some 14, .nilc (.t 13), none⟩, ⟨some 15, .fadr 3 (.t 14), none⟩, ⟨some 16, .ld false 1 (.t 15), none⟩, ⟨some 17, .bslice 1 [.int .i64 0] 1 [(0, 1, (.t 16))], none⟩, ⟨some 18, .app 1 8 (.t 12) (.t 17), none⟩, ⟨some 19, .nilc (.t 8), none⟩, ⟨some 20, .fadr 5 (.t 19), none⟩, ⟨none, .st 1 (.t 20) (.t 18), none⟩] [(4, 10)]) (.seq (.seq (.reg [⟨some 21, .mov (.t 0), none⟩, ⟨some 22, .nilc (.t 21), none⟩, ⟨some 23, .fadr 3 (.t 22), none⟩, ⟨some 24, .ld false 1 (.t 23), none⟩, ⟨some 25, .bin .eql (.t 24) (.c (.int .i64 (-1))), none⟩, ⟨some 26, .mov (.t 25), none⟩, ⟨some 27, .fadr 0 (.t 3), some (26, true)⟩, ⟨some 28, .ld false 1 (.t 27), some (26, true)⟩, ⟨some 29, .bin .neq (.t 28) (.c (.int .i32 58)), some (26, true)⟩, ⟨some 30, .pick (.t 26) (.t 29) (.c (.bool false)), none⟩, ⟨some 31, .mov (.t 30), none⟩, ⟨some 32, .fadr 0 (.t 3), some (31, true)⟩, ⟨some 33, .ld false 1 (.t 32), some (31, true)⟩, ⟨some 34, .bin .neq (.t 33) (.c (.int .i32 59)), some (31, true)⟩, ⟨some 35, .pick (.t 31) (.t 34) (.c (.bool false)), none⟩, ⟨some 36, .mov (.t 35), none⟩, ⟨some 37, .fadr 0 (.t 3), some (36, true)⟩, ⟨some 38, .ld false 1 (.t 37), some (36, true)⟩, ⟨some 39, .bin .neq (.t 38) (.c (.int .i32 93)), some (36, true)⟩, ⟨some 40, .pick (.t 36) (.t 39) (.c (.bool false)), none⟩]) (.cond (.t 40) (.seq (.reg [⟨some 4, .mov (.c (.int .i64 15)), none⟩]) (.ret)) (.skip))) (.seq (.reg [⟨some 42, .mov (.t 0), none⟩, ⟨some 43, .nilc (.t 42), none⟩, ⟨some 44, .fadr 0 (.t 43), none⟩, ⟨some 45, .ld true 3 (.t 44), none⟩, ⟨some 46, .ld true 3 (.t 3), none⟩, ⟨some 47, .call (.c (.fn n_check_Takes [])) [.t 45, .t 46], none⟩, ⟨some 41, .mov (.t 47), none⟩, ⟨some 48, .ext (.t 41) 0, none⟩, ⟨some 49, .ext (.t 41) 1, none⟩, ⟨some 50, .ext (.t 41) 2, none⟩, ⟨some 5, .mov (.t 48), none⟩, ⟨some 6, .mov (.t 49), none⟩, ⟨some 7, .mov (.t 50), none⟩]) (.seq (.seq (.reg [⟨some 51, .mov (.t 7), none⟩, ⟨some 52, .un .not (.t 51), none⟩]) (.cond (.t 52) (.seq (.reg [⟨some 4, .mov (.c (.int .i64 22)), none⟩]) (.ret)) (.skip))) (.seq (.seq (.reg [⟨some 53, .mov (.t 0), none⟩, ⟨some 54, .nilc (.t 53), none⟩, ⟨some 55, .fadr 3 (.t 54), none⟩, ⟨some 56, .ld false 1 (.t 55), none⟩, ⟨some 57, .bin .neq (.t 56) (.c (.int .i64 (-1))), none⟩]) (.cond (.t 57) (.seq (.seq (.reg [⟨some 58, .mov (.t 0), none⟩, ⟨some 59, .nilc (.t 58), none⟩, ⟨some 60, .fadr 3 (.t 59), none⟩, ⟨some 61, .ld false 1 (.t 60), none⟩, ⟨some 62, .mov (.t 0), none⟩, ⟨some 63, .call (.c (.fn n_check_judge_base [])) [.t 62], none⟩, ⟨some 64, .bin .sub (.t 61) (.t 63), none⟩, ⟨some 65, .mov (.t 5), none⟩, ⟨some 66, .bin .lss (.t 64) (.t 65), none⟩, ⟨some 67, .mov (.t 66), none⟩, ⟨some 68, .mov (.t 0), some (67, false)⟩, ⟨some 69, .nilc (.t 68), some (67, false)⟩, ⟨some 70, .fadr 3 (.t 69), some (67, false)⟩, ⟨some 71, .ld false 1 (.t 70), some (67, false)⟩, ⟨some 72, .mov (.t 5), some (67, false)⟩, ⟨some 73, .bin .sub (.t 71) (.t 72), some (67, false)⟩, ⟨some 74, .mov (.t 6), some (67, false)⟩, ⟨some 75, .bin .add (.t 73) (.t 74), some (67, false)⟩, ⟨some 76, .bin .gtr (.t 75) (.c (.int .i64 64)), some (67, false)⟩, ⟨some 77, .pick (.t 67) (.c (.bool true)) (.t 76), none⟩]) (.cond (.t 77) (.seq (.reg [⟨some 4, .mov (.c (.int .i64 14)), none⟩]) (.ret)) (.skip))) (.reg [⟨some 78, .mov (.t 0), none⟩, ⟨some 79, .nilc (.t 78), none⟩, ⟨some 80, .fadr 3 (.t 79), none⟩, ⟨some 81, .ld false 1 (.t 80), none⟩, ⟨some 82, .mov (.t 6), none⟩, ⟨some 83, .mov (.t 5), none⟩, ⟨some 84, .bin .sub (.t 82) (.t 83), none⟩, ⟨some 85, .bin .add (.t 81) (.t 84), none⟩, ⟨some 86, .nilc (.t 78), none⟩, ⟨some 87, .fadr 3 (.t 86), none⟩, ⟨none, .st 1 (.t 87) (.t 85), none⟩])) (.skip))) (.seq (.reg [⟨some 88, .mov (.t 0), none⟩, ⟨some 89, .fadr 0 (.t 3), none⟩, ⟨some 90, .ld false 1 (.t 89), none⟩, ⟨some 91, .call (.c (.fn n_check_judge_turn [])) [.t 88, .t 90], none⟩, ⟨some 4, .mov (.t 91), none⟩]) (.ret)))))))
def f_glyph_reader_rune : IFun where
  nargs := 2
  results := []
  pure := false
  frz := false
  drop := []
  body :=
   .block 0 (.seq (.reg [⟨some 36, .mov (.t 0), none⟩, ⟨some 37, .call (.c (.fn n_glyph_reader_waits [])) [.t 36], none⟩, ⟨some 35, .mov (.t 37), none⟩]) (.cond (.t 35) (.seq (.reg [⟨some 38, .mov (.t 0), none⟩, ⟨some 39, .mov (.t 0), none⟩, ⟨some 40, .nilc (.t 39), none⟩, ⟨some 41, .fadr 2 (.t 40), none⟩, ⟨some 42, .ld false 1 (.t 41), none⟩, ⟨some 43, .mov (.t 42), none⟩, ⟨some 44, .mov (.t 1), some (43, false)⟩, ⟨some 45, .call (.c (.fn n_glyph_Name [])) [.t 44], some (43, false)⟩, ⟨some 46, .un .not (.t 45), some (43, false)⟩, ⟨some 47, .pick (.t 43) (.c (.bool true)) (.t 46), none⟩, ⟨some 48, .nilc (.t 38), none⟩, ⟨some 49, .fadr 2 (.t 48), none⟩, ⟨none, .st 1 (.t 49) (.t 47), none⟩]) (.reg [⟨some 50, .mov (.t 0), none⟩, ⟨some 51, .nilc (.t 50), none⟩, ⟨some 52, .fadr 0 (.t 51), none⟩, ⟨some 53, .ld false 1 (.t 52), none⟩, ⟨some 54, .mov (.t 0), none⟩, ⟨some 55, .nilc (.t 54), none⟩, ⟨some 56, .fadr 0 (.t 55), none⟩, ⟨some 57, .ld false 1 (.t 56), none⟩, ⟨some 58, .len (.t 57), none⟩, ⟨some 59, .bin .sub (.t 58) (.c (.int .i64 1)), none⟩, ⟨some 60, .mov (.t 1), none⟩, ⟨some 61, .iadr 3 (.t 53) (.t 59), none⟩, ⟨some 62, .fadr 2 (.t 61), none⟩, ⟨none, .st 1 (.t 62) (.t 60), none⟩])) (.seq (.reg [⟨some 64, .mov (.t 1), none⟩, ⟨some 65, .call (.c (.fn n_glyph_within [])) [.t 64, .c (.int .i32 48), .c (.int .i32 57)], none⟩, ⟨some 63, .mov (.t 65), none⟩]) (.cond (.t 63) (.reg [⟨some 66, .mov (.t 0), none⟩, ⟨some 67, .nilc (.t 66), none⟩, ⟨some 68, .fadr 1 (.t 67), none⟩, ⟨some 69, .ld false 1 (.t 68), none⟩, ⟨some 70, .mov (.t 1), none⟩, ⟨some 71, .cstr (.t 70), none⟩, ⟨some 72, .bin .add (.t 69) (.t 71), none⟩, ⟨some 73, .nilc (.t 66), none⟩, ⟨some 74, .fadr 1 (.t 73), none⟩, ⟨none, .st 1 (.t 74) (.t 72), none⟩]) (.seq (.reg [⟨some 4, .mov (.t 0), none⟩, ⟨some 5, .call (.c (.fn n_glyph_reader_number [])) [.t 4], none⟩]) (.seq (.reg [⟨some 6, .mov (.t 0), none⟩, ⟨some 7, .mov (.t 0), none⟩, ⟨some 8, .nilc (.t 7), none⟩, ⟨some 9, .fadr 2 (.t 8), none⟩, ⟨some 10, .ld false 1 (.t 9), none⟩, ⟨some 11, .mov (.t 10), none⟩, ⟨some 12, .mov (.t 1), some (11, false)⟩, ⟨some 13, .bin .neq (.t 12) (.c (.int .i32 32)), some (11, false)⟩, ⟨some 14, .mov (.t 13), some (11, false)⟩, ⟨some 15, .mov (.t 1), some (14, true)⟩, ⟨some 16, .call (.c (.fn n_glyph_Known [])) [.t 15], some (14, true)⟩, ⟨some 17, .un .not (.t 16), some (14, true)⟩, ⟨some 18, .pick (.t 14) (.t 17) (.c (.bool false)), some (11, false)⟩, ⟨some 19, .pick (.t 11) (.c (.bool true)) (.t 18), none⟩, ⟨some 20, .nilc (.t 6), none⟩, ⟨some 21, .fadr 2 (.t 20), none⟩, ⟨none, .st 1 (.t 21) (.t 19), none⟩]) (.seq (.reg [⟨some 22, .mov (.t 1), none⟩, ⟨some 23, .bin .neq (.t 22) (.c (.int .i32 32)), none⟩]) (.cond (.t 23) (.reg [⟨some 24, .mov (.t 0), none⟩, ⟨some 25, .mov (.t 0), none⟩, ⟨some 26, .nilc (.t 25), none⟩, ⟨some 27, .fadr 0 (.t 26), none⟩, ⟨some 28, .ld false 1 (.t 27), none⟩, ⟨some 29, .mov (.t 1), none⟩, ⟨some 30, .build [.int .i32 0, .int .i64 0, .int .i32 0] [(0, 1, (.t 29))], none⟩, ⟨some 31, .bslice 3 [.int .i32 0, .int .i64 0, .int .i32 0] 1 [(0, 3, (.t 30))], none⟩, ⟨some 32, .app 3 24 (.t 28) (.t 31), none⟩, ⟨some 33, .nilc (.t 24), none⟩, ⟨some 34, .fadr 0 (.t 33), none⟩, ⟨none, .st 1 (.t 34) (.t 32), none⟩]) (.skip)))))))))
def f_glyph_reader_number : IFun where
  nargs := 1
  results := []
  pure := false
  frz := false
  drop := []
  body :=
   .seq (.seq (.reg [⟨some 4, .mov (.t 0), none⟩, ⟨some 5, .nilc (.t 4), none⟩, ⟨some 6, .fadr 1 (.t 5), none⟩, ⟨some 7, .ld false 1 (.t 6), none⟩, ⟨some 8, .bin .eql (.t 7) (.c (.str ⟨#[]⟩)), none⟩]) (.cond (.t 8) (.ret) (.skip)))
   (.seq (.reg [⟨some 10, .mov (.t 0), none⟩, ⟨some 11, .nilc (.t 10), none⟩, ⟨some 12, .fadr 1 (.t 11), none⟩, ⟨some 13, .ld false 1 (.t 12), none⟩, ⟨some 14, .call (.c (.fn n_strconv_ParseInt [])) [.t 13, .c (.int .i64 10), .c (.int .i64 64)], none⟩, ⟨some 9, .mov (.t 14), none⟩, ⟨some 15, .ext (.t 9) 0, none⟩, ⟨some 16, .ext (.t 9) 1, none⟩, ⟨some 2, .mov (.t 15), none⟩, ⟨some 3, .mov (.t 16), none⟩]) (.seq (.reg [⟨some 17, .mov (.t 0), none⟩, ⟨some 18, .mov (.t 0), none⟩, ⟨some 19, .nilc (.t 18), none⟩, ⟨some 20, .fadr 2 (.t 19), none⟩, ⟨some 21, .ld false 1 (.t 20), none⟩, ⟨some 22, .mov (.t 21), none⟩, ⟨some 23, .mov (.t 3), some (22, false)⟩, ⟨some 24, .eqn 2 true (.t 23), some (22, false)⟩, ⟨some 25, .pick (.t 22) (.c (.bool true)) (.t 24), none⟩, ⟨some 26, .nilc (.t 17), none⟩, ⟨some 27, .fadr 2 (.t 26), none⟩, ⟨none, .st 1 (.t 27) (.t 25), none⟩]) (.seq (.reg [⟨some 28, .mov (.t 0), none⟩, ⟨some 29, .mov (.t 0), none⟩, ⟨some 30, .nilc (.t 29), none⟩, ⟨some 31, .fadr 0 (.t 30), none⟩, ⟨some 32, .ld false 1 (.t 31), none⟩, ⟨some 33, .mov (.t 2), none⟩, ⟨some 34, .build [.int .i32 0, .int .i64 0, .int .i32 0] [(0, 1, (.c (.int .i32 48))), (1, 1, (.t 33))], none⟩, ⟨some 35, .bslice 3 [.int .i32 0, .int .i64 0, .int .i32 0] 1 [(0, 3, (.t 34))], none⟩, ⟨some 36, .app 3 24 (.t 32) (.t 35), none⟩, ⟨some 37, .nilc (.t 28), none⟩, ⟨some 38, .fadr 0 (.t 37), none⟩, ⟨none, .st 1 (.t 38) (.t 36), none⟩]) (.reg [⟨some 39, .mov (.t 0), none⟩, ⟨some 40, .nilc (.t 39), none⟩, ⟨some 41, .fadr 1 (.t 40), none⟩, ⟨none, .st 1 (.t 41) (.c (.str ⟨#[]⟩)), none⟩]))))
def f_glyph_reader_waits : IFun where
  nargs := 1
  results := [.tmp 2]
  pure := true
  frz := true
  drop := []
  body :=
   .seq (.reg [⟨some 2, .mov (.c (.bool false)), none⟩])
   (.seq (.reg [⟨some 4, .mov (.t 0), none⟩, ⟨some 5, .nilc (.t 4), none⟩, ⟨some 6, .fadr 0 (.t 5), none⟩, ⟨some 7, .ld false 1 (.t 6), none⟩, ⟨some 8, .len (.t 7), none⟩, ⟨some 3, .mov (.t 8), none⟩]) (.seq (.reg [⟨some 9, .mov (.t 0), none⟩, ⟨some 10, .nilc (.t 9), none⟩, ⟨some 11, .fadr 1 (.t 10), none⟩, ⟨some 12, .ld false 1 (.t 11), none⟩, ⟨some 13, .bin .eql (.t 12) (.c (.str ⟨#[]⟩)), none⟩, ⟨some 14, .mov (.t 13), none⟩, ⟨some 15, .mov (.t 3), some (14, true)⟩, ⟨some 16, .bin .gtr (.t 15) (.c (.int .i64 0)), some (14, true)⟩, ⟨some 17, .pick (.t 14) (.t 16) (.c (.bool false)), none⟩, ⟨some 18, .mov (.t 17), none⟩, ⟨some 19, .mov (.t 0), some (18, true)⟩, ⟨some 20, .nilc (.t 19), some (18, true)⟩, ⟨some 21, .fadr 0 (.t 20), some (18, true)⟩, ⟨some 22, .ld false 1 (.t 21), some (18, true)⟩, ⟨some 23, .mov (.t 3), some (18, true)⟩, ⟨some 24, .bin .sub (.t 23) (.c (.int .i64 1)), some (18, true)⟩, ⟨some 25, .iadr 3 (.t 22) (.t 24), some (18, true)⟩, ⟨some 26, .fadr 0 (.t 25), some (18, true)⟩, ⟨some 27, .ld false 1 (.t 26), some (18, true)⟩, ⟨some 28, .call (.c (.fn n_glyph_named [])) [.t 27], some (18, true)⟩, ⟨some 29, .pick (.t 18) (.t 28) (.c (.bool false)), none⟩, ⟨some 30, .mov (.t 29), none⟩, ⟨some 31, .mov (.t 0), some (30, true)⟩, ⟨some 32, .nilc (.t 31), some (30, true)⟩, ⟨some 33, .fadr 0 (.t 32), some (30, true)⟩, ⟨some 34, .ld false 1 (.t 33), some (30, true)⟩, ⟨some 35, .mov (.t 3), some (30, true)⟩, ⟨some 36, .bin .sub (.t 35) (.c (.int .i64 1)), some (30, true)⟩, ⟨some 37, .iadr 3 (.t 34) (.t 36), some (30, true)⟩, ⟨some 38, .fadr 2 (.t 37), some (30, true)⟩, ⟨some 39, .ld false 1 (.t 38), some (30, true)⟩, ⟨some 40, .bin .eql (.t 39) (.c (.int .i32 0)), some (30, true)⟩, ⟨some 41, .pick (.t 30) (.t 40) (.c (.bool false)), none⟩, ⟨some 2, .mov (.t 41), none⟩]) (.ret)))
def l0_nest_match : IC :=
  .seq (.reg [⟨some 16, .bin .lss (.t 15) (.t 14), none⟩])
  (.seq (.cond (.t 16) (.skip) (.exit 0))
   (.seq (.block 1 (.seq (.reg [⟨some 17, .mov (.t 15), none⟩, ⟨some 5, .mov (.t 17), none⟩]) (.reg [⟨some 18, .mov (.t 4), none⟩, ⟨some 19, .nilc (.t 18), none⟩, ⟨some 20, .fadr 0 (.t 19), none⟩, ⟨some 21, .ld false 1 (.t 20), none⟩, ⟨some 22, .mov (.t 5), none⟩, ⟨some 23, .iadr 1 (.t 21) (.t 22), none⟩, ⟨none, .st 1 (.t 23) (.c (.int .i64 (-1))), none⟩]))) (.reg [⟨some 24, .bin .add (.t 15) (.c (.int .i64 1)), none⟩, ⟨some 15, .mov (.t 24), none⟩])))
def l1_nest_match : IC :=
  .seq (.reg [⟨some 28, .bin .lss (.t 27) (.t 26), none⟩])
  (.seq (.cond (.t 28) (.skip) (.exit 2))
   (.seq (.block 3 (.seq (.reg [⟨some 29, .mov (.t 27), none⟩, ⟨some 30, .iadr 3 (.t 25) (.t 27), none⟩, ⟨some 31, .ld true 3 (.t 30), none⟩, ⟨some 7, .alloc [.int .i32 0, .int .i64 0, .int .i32 0], none⟩, ⟨some 6, .mov (.t 29), none⟩, ⟨none, .st 3 (.t 7) (.t 31), none⟩]) (.seq (.reg [⟨some 32, .mov (.t 4), none⟩, ⟨some 33, .mov (.t 6), none⟩, ⟨some 34, .fadr 0 (.t 7), none⟩, ⟨some 35, .ld false 1 (.t 34), none⟩, ⟨some 36, .call (.c (.fn n_nest_matcher_token [])) [.t 32, .t 33, .t 35], none⟩, ⟨some 37, .un .not (.t 36), none⟩]) (.cond (.t 37) (.seq (.reg [⟨some 38, .mov (.t 4), none⟩, ⟨some 2, .mov (.t 38), none⟩, ⟨some 3, .mov (.c (.bool false)), none⟩]) (.ret)) (.skip))))) (.reg [⟨some 39, .bin .add (.t 27) (.c (.int .i64 1)), none⟩, ⟨some 27, .mov (.t 39), none⟩])))
def f_nest_match : IFun where
  nargs := 1
  results := [.tmp 2, .tmp 3]
  pure := false
  frz := false
  drop := []
  body :=
   .seq (.reg [⟨some 2, .mov (.c (.nilptr)), none⟩, ⟨some 3, .mov (.c (.bool false)), none⟩])
   (.seq (.reg [⟨some 8, .mov (.t 0), none⟩, ⟨some 9, .len (.t 8), none⟩, ⟨some 10, .mksl 1 8 [.int .i64 0] (.t 9) (.t 9), none⟩, ⟨some 11, .build [.nilsl, .nilsl, .int .i64 0] [(0, 1, (.t 10))], none⟩, ⟨some 12, .box (.t 11), none⟩, ⟨some 4, .mov (.t 12), none⟩]) (.seq (.seq (.reg [⟨some 13, .mov (.t 0), none⟩, ⟨some 14, .len (.t 13), none⟩, ⟨some 15, .mov (.c (.int .i64 0)), none⟩]) (.block 0 (.loopK [0, 4, 14, 15] l0_nest_match))) (.keep [0, 4] (.seq (.seq (.reg [⟨some 25, .mov (.t 0), none⟩, ⟨some 26, .len (.t 25), none⟩, ⟨some 27, .mov (.c (.int .i64 0)), none⟩]) (.block 2 (.loopK [4, 25, 26, 27] l1_nest_match))) (.keep [4] (.seq (.reg [⟨some 40, .mov (.t 4), none⟩, ⟨some 41, .mov (.t 4), none⟩, ⟨some 42, .nilc (.t 41), none⟩, ⟨some 43, .fadr 1 (.t 42), none⟩, ⟨some 44, .ld false 1 (.t 43), none⟩, ⟨some 45, .len (.t 44), none⟩, ⟨some 46, .bin .eql (.t 45) (.c (.int .i64 0)), none⟩, ⟨some 2, .mov (.t 40), none⟩, ⟨some 3, .mov (.t 46), none⟩]) (.ret)))))))
def l0_strings_IndexRune : IC :=
  .seq (.reg [⟨some 176, .next (.t 175), none⟩, ⟨some 177, .ext (.t 176) 0, none⟩])
  (.seq (.cond (.t 177) (.skip) (.exit 9))
   (.block 10 (.seq (.reg [⟨some 178, .ext (.t 176) 1, none⟩, ⟨some 179, .ext (.t 176) 2, none⟩, ⟨some 5, .mov (.t 178), none⟩, ⟨some 6, .mov (.t 179), none⟩]) (.seq (.reg [⟨some 180, .mov (.t 6), none⟩, ⟨some 181, .bin .eql (.t 180) (.c (.int .i32 65533)), none⟩]) (.cond (.t 181) (.seq (.reg [⟨some 182, .mov (.t 5), none⟩, ⟨some 4, .mov (.t 182), none⟩]) (.ret)) (.skip))))))
def l1_strings_IndexRune : IC :=
  .seq (.seq (.reg [⟨some 48, .mov (.t 12), none⟩, ⟨some 49, .mov (.t 7), none⟩, ⟨some 50, .lens (.t 49), none⟩, ⟨some 51, .bin .lss (.t 48) (.t 50), none⟩])
   (.cond (.t 51) (.skip) (.exit 3)))
  (.seq (.block 4 (.seq (.reg [⟨some 54, .mov (.t 0), none⟩, ⟨some 55, .mov (.t 9), none⟩, ⟨some 56, .mov (.t 12), none⟩, ⟨some 57, .bin .sub (.t 55) (.t 56), none⟩, ⟨some 58, .idxs (.t 54) (.t 57), none⟩, ⟨some 59, .mov (.t 7), none⟩, ⟨some 60, .mov (.t 8), none⟩, ⟨some 61, .mov (.t 12), none⟩, ⟨some 62, .bin .sub (.t 60) (.t 61), none⟩, ⟨some 63, .idxs (.t 59) (.t 62), none⟩, ⟨some 64, .bin .neq (.t 58) (.t 63), none⟩]) (.cond (.t 64) (.bad) (.skip))))
   (.reg [⟨some 52, .mov (.t 12), none⟩, ⟨some 53, .bin .add (.t 52) (.c (.int .i64 1)), none⟩, ⟨some 12, .mov (.t 53), none⟩]))
def l2_strings_IndexRune : IC :=
  .seq (.seq (.reg [⟨some 23, .mov (.t 9), none⟩, ⟨some 24, .mov (.t 0), none⟩, ⟨some 25, .lens (.t 24), none⟩, ⟨some 26, .bin .lss (.t 23) (.t 25), none⟩])
   (.cond (.t 26) (.skip) (.exit 1)))
  (.block 2 (.scope (.seq (.seq (.reg [⟨some 27, .mov (.t 0), none⟩, ⟨some 28, .mov (.t 9), none⟩, ⟨some 29, .idxs (.t 27) (.t 28), none⟩, ⟨some 30, .mov (.t 7), none⟩, ⟨some 31, .mov (.t 8), none⟩, ⟨some 32, .idxs (.t 30) (.t 31), none⟩, ⟨some 33, .bin .neq (.t 29) (.t 32), none⟩]) (.cond (.t 33) (.seq (.reg [⟨some 34, .mov (.t 0), none⟩, ⟨some 35, .mov (.t 9), none⟩, ⟨some 36, .bin .add (.t 35) (.c (.int .i64 1)), none⟩, ⟨some 37, .slcs (.t 34) (some (.t 36)) none, none⟩, ⟨some 38, .mov (.t 7), none⟩, ⟨some 39, .mov (.t 8), none⟩, ⟨some 40, .idxs (.t 38) (.t 39), none⟩, ⟨some 41, .call (.c (.fn n_strings_IndexByte [])) [.t 37, .t 40], none⟩, ⟨some 11, .mov (.t 41), none⟩]) (.seq (.seq (.reg [⟨some 42, .mov (.t 11), none⟩, ⟨some 43, .bin .lss (.t 42) (.c (.int .i64 0)), none⟩]) (.cond (.t 43) (.seq (.reg [⟨some 4, .mov (.c (.int .i64 (-1))), none⟩]) (.ret)) (.skip))) (.reg [⟨some 44, .mov (.t 9), none⟩, ⟨some 45, .mov (.t 11), none⟩, ⟨some 46, .bin .add (.t 45) (.c (.int .i64 1)), none⟩, ⟨some 47, .bin .add (.t 44) (.t 46), none⟩, ⟨some 9, .mov (.t 47), none⟩]))) (.skip))) (.seq (.seq (.reg [⟨some 12, .mov (.c (.int .i64 1)), none⟩]) (.block 3 (.loopK [0, 7, 8, 9, 12] l1_strings_IndexRune))) (.keep [8, 9] (.seq (.seq (.reg [⟨some 65, .mov (.t 9), none⟩, ⟨some 66, .mov (.t 8), none⟩, ⟨some 67, .bin .sub (.t 65) (.t 66), none⟩, ⟨some 4, .mov (.t 67), none⟩]) (.ret)) (.seq (.skip) (.seq (.reg [⟨some 68, .mov (.t 10), none⟩, ⟨some 69, .bin .add (.t 68) (.c (.int .i64 1)), none⟩, ⟨some 10, .mov (.t 69), none⟩]) (.seq (.reg [⟨some 70, .mov (.t 9), none⟩, ⟨some 71, .bin .add (.t 70) (.c (.int .i64 1)), none⟩, ⟨some 9, .mov (.t 71), none⟩]) (.seq (.reg [⟨some 72, .mov (.c (.bool true)), none⟩, ⟨some 73, .mov (.t 10), some (72, true)⟩, ⟨some 74, .mov (.t 9), some (72, true)⟩, ⟨some 75, .call (.c (.fn n_ibytealg_Cutover [])) [.t 74], some (72, true)⟩, ⟨some 76, .bin .gtr (.t 73) (.t 75), some (72, true)⟩, ⟨some 77, .pick (.t 72) (.t 76) (.c (.bool false)), none⟩, ⟨some 78, .mov (.t 77), none⟩, ⟨some 79, .mov (.t 9), some (78, true)⟩, ⟨some 80, .mov (.t 0), some (78, true)⟩, ⟨some 81, .lens (.t 80), some (78, true)⟩, ⟨some 82, .bin .lss (.t 79) (.t 81), some (78, true)⟩, ⟨some 83, .pick (.t 78) (.t 82) (.c (.bool false)), none⟩, ⟨some 84, .mov (.t 83), none⟩, ⟨some 85, .mov (.c (.bool false)), some (84, false)⟩, ⟨some 86, .mov (.t 10), some (85, true)⟩, ⟨some 87, .mov (.t 9), some (85, true)⟩, ⟨some 88, .bin .shr (.t 87) (.c (.int .u64 4)), some (85, true)⟩, ⟨some 89, .bin .add (.c (.int .i64 4)) (.t 88), some (85, true)⟩, ⟨some 90, .bin .geq (.t 86) (.t 89), some (85, true)⟩, ⟨some 91, .pick (.t 85) (.t 90) (.c (.bool false)), some (84, false)⟩, ⟨some 92, .mov (.t 91), some (84, false)⟩, ⟨some 93, .mov (.t 9), some (92, true)⟩, ⟨some 94, .mov (.t 0), some (92, true)⟩, ⟨some 95, .lens (.t 94), some (92, true)⟩, ⟨some 96, .bin .lss (.t 93) (.t 95), some (92, true)⟩, ⟨some 97, .pick (.t 92) (.t 96) (.c (.bool false)), some (84, false)⟩, ⟨some 98, .pick (.t 84) (.c (.bool true)) (.t 97), none⟩]) (.cond (.t 98) (.bad) (.skip))))))))))))
def l3_strings_IndexRune : IC :=
  .seq (.seq (.reg [⟨some 140, .mov (.t 16), none⟩, ⟨some 141, .mov (.t 7), none⟩, ⟨some 142, .lens (.t 141), none⟩, ⟨some 143, .bin .lss (.t 140) (.t 142), none⟩])
   (.cond (.t 143) (.skip) (.exit 7)))
  (.seq (.block 8 (.seq (.reg [⟨some 146, .mov (.t 0), none⟩, ⟨some 147, .mov (.t 9), none⟩, ⟨some 148, .mov (.t 16), none⟩, ⟨some 149, .bin .sub (.t 147) (.t 148), none⟩, ⟨some 150, .idxs (.t 146) (.t 149), none⟩, ⟨some 151, .mov (.t 7), none⟩, ⟨some 152, .mov (.t 8), none⟩, ⟨some 153, .mov (.t 16), none⟩, ⟨some 154, .bin .sub (.t 152) (.t 153), none⟩, ⟨some 155, .idxs (.t 151) (.t 154), none⟩, ⟨some 156, .bin .neq (.t 150) (.t 155), none⟩]) (.cond (.t 156) (.exit 6) (.skip))))
   (.reg [⟨some 144, .mov (.t 16), none⟩, ⟨some 145, .bin .add (.t 144) (.c (.int .i64 1)), none⟩, ⟨some 16, .mov (.t 145), none⟩]))
def l4_strings_IndexRune : IC :=
  .seq (.seq (.reg [⟨some 121, .mov (.t 9), none⟩, ⟨some 122, .mov (.t 0), none⟩, ⟨some 123, .lens (.t 122), none⟩, ⟨some 124, .bin .lss (.t 121) (.t 123), none⟩])
   (.cond (.t 124) (.skip) (.exit 5)))
  (.seq (.block 6 (.seq (.reg [⟨some 127, .mov (.t 0), none⟩, ⟨some 128, .mov (.t 9), none⟩, ⟨some 129, .idxs (.t 127) (.t 128), none⟩, ⟨some 130, .mov (.t 14), none⟩, ⟨some 131, .bin .eql (.t 129) (.t 130), none⟩, ⟨some 132, .mov (.t 131), none⟩, ⟨some 133, .mov (.t 0), some (132, true)⟩, ⟨some 134, .mov (.t 9), some (132, true)⟩, ⟨some 135, .bin .sub (.t 134) (.c (.int .i64 1)), some (132, true)⟩, ⟨some 136, .idxs (.t 133) (.t 135), some (132, true)⟩, ⟨some 137, .mov (.t 15), some (132, true)⟩, ⟨some 138, .bin .eql (.t 136) (.t 137), some (132, true)⟩, ⟨some 139, .pick (.t 132) (.t 138) (.c (.bool false)), none⟩]) (.cond (.t 139) (.seq (.seq (.reg [⟨some 16, .mov (.c (.int .i64 2)), none⟩]) (.block 7 (.loopK [0, 7, 8, 9, 14, 15, 16] l3_strings_IndexRune))) (.keep [8, 9] (.seq (.reg [⟨some 157, .mov (.t 9), none⟩, ⟨some 158, .mov (.t 8), none⟩, ⟨some 159, .bin .sub (.t 157) (.t 158), none⟩, ⟨some 4, .mov (.t 159), none⟩]) (.ret)))) (.skip))))
   (.keep [0, 7, 8, 9, 14, 15] (.reg [⟨some 125, .mov (.t 9), none⟩, ⟨some 126, .bin .add (.t 125) (.c (.int .i64 1)), none⟩, ⟨some 9, .mov (.t 126), none⟩])))
def f_strings_IndexRune : IFun where
  nargs := 2
  results := [.tmp 4]
  pure := true
  frz := true
  drop := []
  body :=
   .seq (.reg [⟨some 4, .mov (.c (.int .i64 0)), none⟩])
   (.block 0 (.seq (.reg [⟨some 161, .mov (.t 1), none⟩, ⟨some 162, .bin .leq (.c (.int .i32 0)) (.t 161), none⟩, ⟨some 163, .mov (.t 162), none⟩, ⟨some 164, .mov (.t 1), some (163, true)⟩, ⟨some 165, .bin .lss (.t 164) (.c (.int .i32 128)), some (163, true)⟩, ⟨some 166, .pick (.t 163) (.t 165) (.c (.bool false)), none⟩, ⟨some 160, .mov (.t 166), none⟩]) (.cond (.t 160) (.seq (.reg [⟨some 167, .mov (.t 0), none⟩, ⟨some 168, .mov (.t 1), none⟩, ⟨some 169, .cint .u8 (.t 168), none⟩, ⟨some 170, .call (.c (.fn n_strings_IndexByte [])) [.t 167, .t 169], none⟩, ⟨some 4, .mov (.t 170), none⟩]) (.ret)) (.seq (.reg [⟨some 172, .mov (.t 1), none⟩, ⟨some 173, .bin .eql (.t 172) (.c (.int .i32 65533)), none⟩, ⟨some 171, .mov (.t 173), none⟩]) (.cond (.t 171) (.seq (.seq (.reg [⟨some 174, .mov (.t 0), none⟩, ⟨some 175, .rng (.t 174), none⟩]) (.block 9 (.loopK [175] l0_strings_IndexRune))) (.keep [] (.seq (.reg [⟨some 4, .mov (.c (.int .i64 (-1))), none⟩]) (.ret)))) (.seq (.reg [⟨some 184, .mov (.t 1), none⟩, ⟨some 185, .call (.c (.fn n_utf8_ValidRune [])) [.t 184], none⟩, ⟨some 186, .un .not (.t 185), none⟩, ⟨some 183, .mov (.t 186), none⟩]) (.cond (.t 183) (.seq (.reg [⟨some 4, .mov (.c (.int .i64 (-1))), none⟩]) (.ret)) (.scope (.seq (.reg [⟨some 17, .mov (.t 1), none⟩, ⟨some 18, .cstr (.t 17), none⟩, ⟨some 7, .mov (.t 18), none⟩]) (.seq (.reg [⟨some 19, .mov (.t 7), none⟩, ⟨some 20, .lens (.t 19), none⟩, ⟨some 21, .bin .sub (.t 20) (.c (.int .i64 1)), none⟩, ⟨some 8, .mov (.t 21), none⟩]) (.seq (.reg [⟨some 22, .mov (.t 8), none⟩, ⟨some 9, .mov (.t 22), none⟩]) (.seq (.reg [⟨some 10, .mov (.c (.int .i64 0)), none⟩]) (.seq (.block 1 (.loopK [0, 7, 8, 9] l2_strings_IndexRune)) (.keep [] (.seq (.seq (.reg [⟨some 4, .mov (.c (.int .i64 (-1))), none⟩]) (.ret)) (.seq (.skip) (.seq (.cond (.c (.bool true)) (.seq (.reg [⟨some 99, .mov (.t 0), none⟩, ⟨some 100, .mov (.t 9), none⟩, ⟨some 101, .mov (.t 8), none⟩, ⟨some 102, .bin .sub (.t 100) (.t 101), none⟩, ⟨some 103, .slcs (.t 99) (some (.t 102)) none, none⟩, ⟨some 104, .mov (.t 1), none⟩, ⟨some 105, .cstr (.t 104), none⟩, ⟨some 106, .call (.c (.fn n_ibytealg_IndexString [])) [.t 103, .t 105], none⟩, ⟨some 13, .mov (.t 106), none⟩]) (.seq (.reg [⟨some 107, .mov (.t 13), none⟩, ⟨some 108, .bin .geq (.t 107) (.c (.int .i64 0)), none⟩]) (.cond (.t 108) (.seq (.reg [⟨some 109, .mov (.t 9), none⟩, ⟨some 110, .mov (.t 13), none⟩, ⟨some 111, .bin .add (.t 109) (.t 110), none⟩, ⟨some 112, .mov (.t 8), none⟩, ⟨some 113, .bin .sub (.t 111) (.t 112), none⟩, ⟨some 4, .mov (.t 113), none⟩]) (.ret)) (.skip)))) (.scope (.seq (.reg [⟨some 114, .mov (.t 7), none⟩, ⟨some 115, .mov (.t 8), none⟩, ⟨some 116, .idxs (.t 114) (.t 115), none⟩, ⟨some 14, .mov (.t 116), none⟩]) (.seq (.reg [⟨some 117, .mov (.t 7), none⟩, ⟨some 118, .mov (.t 8), none⟩, ⟨some 119, .bin .sub (.t 118) (.c (.int .i64 1)), none⟩, ⟨some 120, .idxs (.t 117) (.t 119), none⟩, ⟨some 15, .mov (.t 120), none⟩]) (.seq (.skip) (.block 5 (.loopK [0, 7, 8, 9, 14, 15] l4_strings_IndexRune))))))) (.keep [] (.seq (.reg [⟨some 4, .mov (.c (.int .i64 (-1))), none⟩]) (.ret))))))))))))))))))))
def f_engine_runner_stop : IFun where
  nargs := 3
  results := []
  pure := false
  frz := false
  drop := []
  body :=
   .seq (.reg [⟨some 6, .mov (.t 1), none⟩, ⟨some 7, .un .not (.t 6), none⟩])
   (.cond (.t 7) (.reg [⟨some 8, .mov (.t 0), none⟩, ⟨some 9, .mov (.t 2), none⟩, ⟨some 10, .nilc (.t 8), none⟩, ⟨some 11, .fadr 7 (.t 10), none⟩, ⟨none, .st 1 (.t 11) (.t 9), none⟩]) (.skip))
def f_cells_Memory_Pages : IFun where
  nargs := 1
  results := [.tmp 2]
  pure := true
  frz := true
  drop := []
  body :=
   .seq (.reg [⟨some 2, .mov (.c (.int .i64 0)), none⟩])
   (.seq (.reg [⟨some 3, .mov (.t 0), none⟩, ⟨some 4, .nilc (.t 3), none⟩, ⟨some 5, .fadr 2 (.t 4), none⟩, ⟨some 6, .ld false 1 (.t 5), none⟩, ⟨some 7, .len (.t 6), none⟩, ⟨some 2, .mov (.t 7), none⟩]) (.ret))
def l0_cells_Memory_Grow : IC :=
  .seq (.reg [⟨some 22, .bin .lss (.t 21) (.t 20), none⟩])
  (.seq (.cond (.t 22) (.skip) (.exit 0))
   (.seq (.block 1 (.seq (.reg [⟨some 23, .mov (.t 0), none⟩, ⟨some 24, .mov (.t 0), none⟩, ⟨some 25, .nilc (.t 24), none⟩, ⟨some 26, .fadr 0 (.t 25), none⟩, ⟨some 27, .ld false 1 (.t 26), none⟩, ⟨some 28, .appz 1 1 [.int .u8 0] (.t 27) (.c (.int .i64 64)), none⟩, ⟨some 29, .nilc (.t 23), none⟩, ⟨some 30, .fadr 0 (.t 29), none⟩, ⟨none, .st 1 (.t 30) (.t 28), none⟩]) (.reg [⟨some 31, .mov (.t 0), none⟩, ⟨some 32, .mov (.t 0), none⟩, ⟨some 33, .nilc (.t 32), none⟩, ⟨some 34, .fadr 2 (.t 33), none⟩, ⟨some 35, .ld false 1 (.t 34), none⟩, ⟨some 36, .bslice 1 [.bool false] 1 [(0, 1, (.c (.bool true)))], none⟩, ⟨some 37, .app 1 1 (.t 35) (.t 36), none⟩, ⟨some 38, .nilc (.t 31), none⟩, ⟨some 39, .fadr 2 (.t 38), none⟩, ⟨none, .st 1 (.t 39) (.t 37), none⟩]))) (.reg [⟨some 40, .bin .add (.t 21) (.c (.int .i64 1)), none⟩, ⟨some 21, .mov (.t 40), none⟩])))
def f_cells_Memory_Grow : IFun where
  nargs := 2
  results := [.tmp 4]
  pure := false
  frz := false
  drop := []
  body :=
   .seq (.reg [⟨some 4, .mov (.c (.int .i64 0)), none⟩])
   (.seq (.reg [⟨some 6, .mov (.t 0), none⟩, ⟨some 7, .call (.c (.fn n_cells_Memory_Pages [])) [.t 6], none⟩, ⟨some 5, .mov (.t 7), none⟩]) (.seq (.seq (.reg [⟨some 8, .mov (.t 1), none⟩, ⟨some 9, .bin .lss (.t 8) (.c (.int .i64 0)), none⟩, ⟨some 10, .mov (.t 9), none⟩, ⟨some 11, .mov (.t 1), some (10, false)⟩, ⟨some 12, .mov (.t 0), some (10, false)⟩, ⟨some 13, .nilc (.t 12), some (10, false)⟩, ⟨some 14, .fadr 1 (.t 13), some (10, false)⟩, ⟨some 15, .ld false 1 (.t 14), some (10, false)⟩, ⟨some 16, .mov (.t 5), some (10, false)⟩, ⟨some 17, .bin .sub (.t 15) (.t 16), some (10, false)⟩, ⟨some 18, .bin .gtr (.t 11) (.t 17), some (10, false)⟩, ⟨some 19, .pick (.t 10) (.c (.bool true)) (.t 18), none⟩]) (.cond (.t 19) (.seq (.reg [⟨some 4, .mov (.c (.int .i64 (-1))), none⟩]) (.ret)) (.skip))) (.seq (.seq (.reg [⟨some 20, .mov (.t 1), none⟩, ⟨some 21, .mov (.c (.int .i64 0)), none⟩]) (.block 0 (.loopK [0, 5, 20, 21] l0_cells_Memory_Grow))) (.keep [5] (.seq (.reg [⟨some 41, .mov (.t 5), none⟩, ⟨some 4, .mov (.t 41), none⟩]) (.ret))))))
def f_reply_Row_Ask : IFun where
  nargs := 3
  results := [.tmp 6, .tmp 7]
  pure := false
  frz := false
  drop := []
  body :=
   .seq (.reg [⟨some 6, .mov (.c (.int .i64 0)), none⟩, ⟨some 7, .mov (.c (.bool false)), none⟩])
   (.seq (.reg [⟨some 9, .mov (.t 0), none⟩, ⟨some 10, .mov (.t 0), none⟩, ⟨some 11, .nilc (.t 10), none⟩, ⟨some 12, .fadr 1 (.t 11), none⟩, ⟨some 13, .ld false 1 (.t 12), none⟩, ⟨some 14, .mov (.t 1), none⟩, ⟨some 15, .mov (.t 2), none⟩, ⟨some 16, .build [.int .i32 0, .int .i64 0] [(0, 1, (.t 14)), (1, 1, (.t 15))], none⟩, ⟨some 17, .bslice 2 [.int .i32 0, .int .i64 0] 1 [(0, 2, (.t 16))], none⟩, ⟨some 18, .app 2 16 (.t 13) (.t 17), none⟩, ⟨some 19, .nilc (.t 9), none⟩, ⟨some 20, .fadr 1 (.t 19), none⟩, ⟨none, .st 1 (.t 20) (.t 18), none⟩]) (.seq (.seq (.reg [⟨some 21, .mov (.t 0), none⟩, ⟨some 22, .nilc (.t 21), none⟩, ⟨some 23, .fadr 0 (.t 22), none⟩, ⟨some 24, .ld false 1 (.t 23), none⟩, ⟨some 25, .len (.t 24), none⟩, ⟨some 26, .bin .eql (.t 25) (.c (.int .i64 0)), none⟩]) (.cond (.t 26) (.seq (.reg [⟨some 6, .mov (.c (.int .i64 0)), none⟩, ⟨some 7, .mov (.c (.bool true)), none⟩]) (.ret)) (.skip))) (.seq (.reg [⟨some 27, .mov (.t 0), none⟩, ⟨some 28, .nilc (.t 27), none⟩, ⟨some 29, .fadr 0 (.t 28), none⟩, ⟨some 30, .ld false 1 (.t 29), none⟩, ⟨some 31, .iadr 2 (.t 30) (.c (.int .i64 0)), none⟩, ⟨some 32, .ld true 2 (.t 31), none⟩, ⟨some 8, .alloc [.int .i64 0, .bool false], none⟩, ⟨none, .st 2 (.t 8) (.t 32), none⟩]) (.seq (.reg [⟨some 33, .mov (.t 0), none⟩, ⟨some 34, .mov (.t 0), none⟩, ⟨some 35, .nilc (.t 34), none⟩, ⟨some 36, .fadr 0 (.t 35), none⟩, ⟨some 37, .ld false 1 (.t 36), none⟩, ⟨some 38, .slc 2 (.t 37) (some (.c (.int .i64 1))) none none, none⟩, ⟨some 39, .nilc (.t 33), none⟩, ⟨some 40, .fadr 0 (.t 39), none⟩, ⟨none, .st 1 (.t 40) (.t 38), none⟩]) (.seq (.reg [⟨some 41, .fadr 0 (.t 8), none⟩, ⟨some 42, .ld false 1 (.t 41), none⟩, ⟨some 43, .fadr 1 (.t 8), none⟩, ⟨some 44, .ld false 1 (.t 43), none⟩, ⟨some 6, .mov (.t 42), none⟩, ⟨some 7, .mov (.t 44), none⟩]) (.ret))))))
def f_word_Do : IFun where
  nargs := 3
  results := [.tmp 6, .tmp 7]
  pure := true
  frz := true
  drop := []
  body :=
   .seq (.reg [⟨some 6, .mov (.c (.int .i64 0)), none⟩, ⟨some 7, .mov (.c (.int .i64 0)), none⟩])
   (.seq (.seq (.reg [⟨some 8, .mov (.t 0), none⟩]) (.block 0 (.seq (.reg [⟨some 10, .bin .eql (.t 8) (.c (.int .i32 43)), none⟩, ⟨some 9, .mov (.t 10), none⟩]) (.cond (.t 9) (.seq (.reg [⟨some 11, .mov (.t 1), none⟩, ⟨some 12, .mov (.t 2), none⟩, ⟨some 13, .bin .add (.t 11) (.t 12), none⟩, ⟨some 6, .mov (.t 13), none⟩, ⟨some 7, .mov (.c (.int .i64 0)), none⟩]) (.ret)) (.seq (.reg [⟨some 15, .bin .eql (.t 8) (.c (.int .i32 45)), none⟩, ⟨some 14, .mov (.t 15), none⟩]) (.cond (.t 14) (.seq (.reg [⟨some 16, .mov (.t 1), none⟩, ⟨some 17, .mov (.t 2), none⟩, ⟨some 18, .bin .sub (.t 16) (.t 17), none⟩, ⟨some 6, .mov (.t 18), none⟩, ⟨some 7, .mov (.c (.int .i64 0)), none⟩]) (.ret)) (.seq (.reg [⟨some 20, .bin .eql (.t 8) (.c (.int .i32 42)), none⟩, ⟨some 19, .mov (.t 20), none⟩]) (.cond (.t 19) (.seq (.reg [⟨some 21, .mov (.t 1), none⟩, ⟨some 22, .mov (.t 2), none⟩, ⟨some 23, .bin .mul (.t 21) (.t 22), none⟩, ⟨some 6, .mov (.t 23), none⟩, ⟨some 7, .mov (.c (.int .i64 0)), none⟩]) (.ret)) (.seq (.seq (.reg [⟨some 25, .bin .eql (.t 8) (.c (.int .i32 47)), none⟩, ⟨some 24, .mov (.t 25), none⟩]) (.cond (.t 24) (.skip) (.reg [⟨some 26, .bin .eql (.t 8) (.c (.int .i32 37)), none⟩, ⟨some 24, .mov (.t 26), none⟩]))) (.cond (.t 24) (.seq (.reg [⟨some 27, .mov (.t 0), none⟩, ⟨some 28, .mov (.t 1), none⟩, ⟨some 29, .mov (.t 2), none⟩, ⟨some 30, .call (.c (.fn n_word_parted [])) [.t 27, .t 28, .t 29], none⟩, ⟨some 31, .ext (.t 30) 0, none⟩, ⟨some 32, .ext (.t 30) 1, none⟩, ⟨some 6, .mov (.t 31), none⟩, ⟨some 7, .mov (.t 32), none⟩]) (.ret)) (.seq (.reg [⟨some 34, .bin .eql (.t 8) (.c (.int .i32 38)), none⟩, ⟨some 33, .mov (.t 34), none⟩]) (.cond (.t 33) (.seq (.reg [⟨some 35, .mov (.t 1), none⟩, ⟨some 36, .mov (.t 2), none⟩, ⟨some 37, .bin .and (.t 35) (.t 36), none⟩, ⟨some 6, .mov (.t 37), none⟩, ⟨some 7, .mov (.c (.int .i64 0)), none⟩]) (.ret)) (.seq (.reg [⟨some 39, .bin .eql (.t 8) (.c (.int .i32 124)), none⟩, ⟨some 38, .mov (.t 39), none⟩]) (.cond (.t 38) (.seq (.reg [⟨some 40, .mov (.t 1), none⟩, ⟨some 41, .mov (.t 2), none⟩, ⟨some 42, .bin .or (.t 40) (.t 41), none⟩, ⟨some 6, .mov (.t 42), none⟩, ⟨some 7, .mov (.c (.int .i64 0)), none⟩]) (.ret)) (.seq (.reg [⟨some 44, .bin .eql (.t 8) (.c (.int .i32 94)), none⟩, ⟨some 43, .mov (.t 44), none⟩]) (.cond (.t 43) (.seq (.reg [⟨some 45, .mov (.t 1), none⟩, ⟨some 46, .mov (.t 2), none⟩, ⟨some 47, .bin .xor (.t 45) (.t 46), none⟩, ⟨some 6, .mov (.t 47), none⟩, ⟨some 7, .mov (.c (.int .i64 0)), none⟩]) (.ret)) (.seq (.reg [⟨some 49, .bin .eql (.t 8) (.c (.int .i32 60)), none⟩, ⟨some 48, .mov (.t 49), none⟩]) (.cond (.t 48) (.seq (.reg [⟨some 50, .mov (.t 1), none⟩, ⟨some 51, .mov (.t 2), none⟩, ⟨some 52, .bin .lss (.t 50) (.t 51), none⟩, ⟨some 53, .call (.c (.fn n_word_bit [])) [.t 52], none⟩, ⟨some 6, .mov (.t 53), none⟩, ⟨some 7, .mov (.c (.int .i64 0)), none⟩]) (.ret)) (.seq (.reg [⟨some 55, .bin .eql (.t 8) (.c (.int .i32 61)), none⟩, ⟨some 54, .mov (.t 55), none⟩]) (.cond (.t 54) (.seq (.reg [⟨some 56, .mov (.t 1), none⟩, ⟨some 57, .mov (.t 2), none⟩, ⟨some 58, .bin .eql (.t 56) (.t 57), none⟩, ⟨some 59, .call (.c (.fn n_word_bit [])) [.t 58], none⟩, ⟨some 6, .mov (.t 59), none⟩, ⟨some 7, .mov (.c (.int .i64 0)), none⟩]) (.ret)) (.seq (.reg [⟨some 61, .bin .eql (.t 8) (.c (.int .i32 33)), none⟩, ⟨some 60, .mov (.t 61), none⟩]) (.cond (.t 60) (.seq (.reg [⟨some 62, .mov (.t 1), none⟩, ⟨some 63, .bin .eql (.t 62) (.c (.int .i64 0)), none⟩, ⟨some 64, .call (.c (.fn n_word_bit [])) [.t 63], none⟩, ⟨some 6, .mov (.t 64), none⟩, ⟨some 7, .mov (.c (.int .i64 0)), none⟩]) (.ret)) (.seq (.reg [⟨some 66, .bin .eql (.t 8) (.c (.int .i32 171)), none⟩, ⟨some 65, .mov (.t 66), none⟩]) (.cond (.t 65) (.seq (.reg [⟨some 67, .mov (.t 1), none⟩, ⟨some 68, .mov (.t 2), none⟩, ⟨some 69, .bin .and (.t 68) (.c (.int .i64 63)), none⟩, ⟨some 70, .bin .shl (.t 67) (.t 69), none⟩, ⟨some 6, .mov (.t 70), none⟩, ⟨some 7, .mov (.c (.int .i64 0)), none⟩]) (.ret)) (.seq (.reg [⟨some 72, .bin .eql (.t 8) (.c (.int .i32 187)), none⟩, ⟨some 71, .mov (.t 72), none⟩]) (.cond (.t 71) (.seq (.reg [⟨some 73, .mov (.t 1), none⟩, ⟨some 74, .mov (.t 2), none⟩, ⟨some 75, .bin .and (.t 74) (.c (.int .i64 63)), none⟩, ⟨some 76, .bin .shr (.t 73) (.t 75), none⟩, ⟨some 6, .mov (.t 76), none⟩, ⟨some 7, .mov (.c (.int .i64 0)), none⟩]) (.ret)) (.skip))))))))))))))))))))))))))) (.seq (.reg [⟨some 6, .mov (.c (.int .i64 0)), none⟩, ⟨some 7, .mov (.c (.int .i64 2)), none⟩]) (.ret)))
def f_glyph_within : IFun where
  nargs := 3
  results := [.tmp 6]
  pure := true
  frz := true
  drop := []
  body :=
   .seq (.reg [⟨some 6, .mov (.c (.bool false)), none⟩])
   (.seq (.reg [⟨some 7, .mov (.t 0), none⟩, ⟨some 8, .mov (.t 1), none⟩, ⟨some 9, .bin .geq (.t 7) (.t 8), none⟩, ⟨some 10, .mov (.t 9), none⟩, ⟨some 11, .mov (.t 0), some (10, true)⟩, ⟨some 12, .mov (.t 2), some (10, true)⟩, ⟨some 13, .bin .leq (.t 11) (.t 12), some (10, true)⟩, ⟨some 14, .pick (.t 10) (.t 13) (.c (.bool false)), none⟩, ⟨some 6, .mov (.t 14), none⟩]) (.ret))
def f_utf8_ValidRune : IFun where
  nargs := 1
  results := [.tmp 2]
  pure := true
  frz := true
  drop := []
  body :=
   .seq (.reg [⟨some 2, .mov (.c (.bool false)), none⟩])
   (.seq (.block 0 (.seq (.reg [⟨some 4, .mov (.t 0), none⟩, ⟨some 5, .bin .leq (.c (.int .i32 0)) (.t 4), none⟩, ⟨some 6, .mov (.t 5), none⟩, ⟨some 7, .mov (.t 0), some (6, true)⟩, ⟨some 8, .bin .lss (.t 7) (.c (.int .i32 55296)), some (6, true)⟩, ⟨some 9, .pick (.t 6) (.t 8) (.c (.bool false)), none⟩, ⟨some 3, .mov (.t 9), none⟩]) (.cond (.t 3) (.seq (.reg [⟨some 2, .mov (.c (.bool true)), none⟩]) (.ret)) (.seq (.reg [⟨some 11, .mov (.t 0), none⟩, ⟨some 12, .bin .lss (.c (.int .i32 57343)) (.t 11), none⟩, ⟨some 13, .mov (.t 12), none⟩, ⟨some 14, .mov (.t 0), some (13, true)⟩, ⟨some 15, .bin .leq (.t 14) (.c (.int .i32 1114111)), some (13, true)⟩, ⟨some 16, .pick (.t 13) (.t 15) (.c (.bool false)), none⟩, ⟨some 10, .mov (.t 16), none⟩]) (.cond (.t 10) (.seq (.reg [⟨some 2, .mov (.c (.bool true)), none⟩]) (.ret)) (.skip)))))) (.seq (.reg [⟨some 2, .mov (.c (.bool false)), none⟩]) (.ret)))
def f_check_Takes : IFun where
  nargs := 2
  results := [.tmp 4, .tmp 5, .tmp 6]
  pure := true
  frz := true
  drop := []
  body :=
   .seq (.reg [⟨some 2, .box (.t 0), none⟩, ⟨some 3, .box (.t 1), none⟩, ⟨some 4, .mov (.c (.int .i64 0)), none⟩, ⟨some 5, .mov (.c (.int .i64 0)), none⟩, ⟨some 6, .mov (.c (.bool false)), none⟩])
   (.seq (.reg [⟨some 10, .fadr 0 (.t 3), none⟩, ⟨some 11, .ld false 1 (.t 10), none⟩, ⟨some 7, .alloc [.int .i32 0], none⟩, ⟨none, .st 1 (.t 7) (.t 11), none⟩]) (.seq (.reg [⟨some 12, .mkfn n_check_Takes_1 [.t 7], none⟩, ⟨some 8, .mov (.t 12), none⟩]) (.seq (.block 0 (.seq (.reg [⟨some 14, .ld false 1 (.t 7), none⟩, ⟨some 15, .bin .eql (.t 14) (.c (.int .i32 955)), none⟩, ⟨some 13, .mov (.t 15), none⟩]) (.cond (.t 13) (.seq (.reg [⟨some 16, .ld true 3 (.t 2), none⟩, ⟨some 17, .fadr 2 (.t 3), none⟩, ⟨some 18, .ld false 1 (.t 17), none⟩, ⟨some 19, .call (.c (.fn n_check_Find [])) [.t 16, .t 18], none⟩, ⟨some 9, .mov (.t 19), none⟩]) (.seq (.seq (.reg [⟨some 20, .mov (.t 9), none⟩, ⟨some 21, .bin .lss (.t 20) (.c (.int .i64 0)), none⟩, ⟨some 22, .mov (.t 21), none⟩, ⟨some 23, .fadr 2 (.t 2), some (22, false)⟩, ⟨some 24, .ld false 1 (.t 23), some (22, false)⟩, ⟨some 25, .mov (.t 9), some (22, false)⟩, ⟨some 26, .iadr 3 (.t 24) (.t 25), some (22, false)⟩, ⟨some 27, .fadr 1 (.t 26), some (22, false)⟩, ⟨some 28, .ld false 1 (.t 27), some (22, false)⟩, ⟨some 29, .bin .lss (.t 28) (.c (.int .i64 0)), some (22, false)⟩, ⟨some 30, .pick (.t 22) (.c (.bool true)) (.t 29), none⟩, ⟨some 31, .mov (.t 30), none⟩, ⟨some 32, .fadr 2 (.t 2), some (31, false)⟩, ⟨some 33, .ld false 1 (.t 32), some (31, false)⟩, ⟨some 34, .mov (.t 9), some (31, false)⟩, ⟨some 35, .iadr 3 (.t 33) (.t 34), some (31, false)⟩, ⟨some 36, .fadr 1 (.t 35), some (31, false)⟩, ⟨some 37, .ld false 1 (.t 36), some (31, false)⟩, ⟨some 38, .bin .gtr (.t 37) (.c (.int .i64 4)), some (31, false)⟩, ⟨some 39, .pick (.t 31) (.c (.bool true)) (.t 38), none⟩]) (.cond (.t 39) (.seq (.reg [⟨some 4, .mov (.c (.int .i64 0)), none⟩, ⟨some 5, .mov (.c (.int .i64 0)), none⟩, ⟨some 6, .mov (.c (.bool false)), none⟩]) (.ret)) (.skip))) (.seq (.reg [⟨some 40, .fadr 2 (.t 2), none⟩, ⟨some 41, .ld false 1 (.t 40), none⟩, ⟨some 42, .mov (.t 9), none⟩, ⟨some 43, .iadr 3 (.t 41) (.t 42), none⟩, ⟨some 44, .fadr 1 (.t 43), none⟩, ⟨some 45, .ld false 1 (.t 44), none⟩, ⟨some 4, .mov (.t 45), none⟩, ⟨some 5, .mov (.c (.int .i64 1)), none⟩, ⟨some 6, .mov (.c (.bool true)), none⟩]) (.ret)))) (.seq (.reg [⟨some 47, .ld false 1 (.t 7), none⟩, ⟨some 48, .bin .eql (.t 47) (.c (.int .i32 48)), none⟩, ⟨some 49, .mov (.t 48), none⟩, ⟨some 50, .ld false 1 (.t 7), some (49, false)⟩, ⟨some 51, .bin .geq (.t 50) (.c (.int .i32 97)), some (49, false)⟩, ⟨some 52, .mov (.t 51), some (49, false)⟩, ⟨some 53, .ld false 1 (.t 7), some (52, true)⟩, ⟨some 54, .bin .leq (.t 53) (.c (.int .i32 122)), some (52, true)⟩, ⟨some 55, .pick (.t 52) (.t 54) (.c (.bool false)), some (49, false)⟩, ⟨some 56, .pick (.t 49) (.c (.bool true)) (.t 55), none⟩, ⟨some 57, .mov (.t 56), none⟩, ⟨some 58, .ld false 1 (.t 7), some (57, false)⟩, ⟨some 59, .bin .eql (.t 58) (.c (.int .i32 35)), some (57, false)⟩, ⟨some 60, .pick (.t 57) (.c (.bool true)) (.t 59), none⟩, ⟨some 46, .mov (.t 60), none⟩]) (.cond (.t 46) (.seq (.reg [⟨some 4, .mov (.c (.int .i64 0)), none⟩, ⟨some 5, .mov (.c (.int .i64 1)), none⟩, ⟨some 6, .mov (.c (.bool true)), none⟩]) (.ret)) (.seq (.reg [⟨some 62, .ld false 1 (.t 7), none⟩, ⟨some 63, .bin .geq (.t 62) (.c (.int .i32 65)), none⟩, ⟨some 64, .mov (.t 63), none⟩, ⟨some 65, .ld false 1 (.t 7), some (64, true)⟩, ⟨some 66, .bin .leq (.t 65) (.c (.int .i32 90)), some (64, true)⟩, ⟨some 67, .pick (.t 64) (.t 66) (.c (.bool false)), none⟩, ⟨some 68, .mov (.t 67), none⟩, ⟨some 69, .ld false 1 (.t 7), some (68, false)⟩, ⟨some 70, .bin .eql (.t 69) (.c (.int .i32 44)), some (68, false)⟩, ⟨some 71, .pick (.t 68) (.c (.bool true)) (.t 70), none⟩, ⟨some 72, .mov (.t 71), none⟩, ⟨some 73, .ld false 1 (.t 7), some (72, false)⟩, ⟨some 74, .bin .eql (.t 73) (.c (.int .i32 63)), some (72, false)⟩, ⟨some 75, .pick (.t 72) (.c (.bool true)) (.t 74), none⟩, ⟨some 61, .mov (.t 75), none⟩]) (.cond (.t 61) (.seq (.reg [⟨some 4, .mov (.c (.int .i64 1)), none⟩, ⟨some 5, .mov (.c (.int .i64 0)), none⟩, ⟨some 6, .mov (.c (.bool true)), none⟩]) (.ret)) (.seq (.reg [⟨some 77, .ld false 1 (.t 7), none⟩, ⟨some 78, .bin .eql (.t 77) (.c (.int .i32 46)), none⟩, ⟨some 76, .mov (.t 78), none⟩]) (.cond (.t 76) (.seq (.reg [⟨some 4, .mov (.c (.int .i64 1)), none⟩, ⟨some 5, .mov (.c (.int .i64 2)), none⟩, ⟨some 6, .mov (.c (.bool true)), none⟩]) (.ret)) (.seq (.reg [⟨some 80, .mov (.t 8), none⟩, ⟨some 81, .call (.t 80) [.c (.str ⟨#[43, 45, 42, 47, 37, 38, 124, 94, 60, 61, 194, 171, 194, 187]⟩)], none⟩, ⟨some 79, .mov (.t 81), none⟩]) (.cond (.t 79) (.seq (.reg [⟨some 4, .mov (.c (.int .i64 2)), none⟩, ⟨some 5, .mov (.c (.int .i64 1)), none⟩, ⟨some 6, .mov (.c (.bool true)), none⟩]) (.ret)) (.seq (.reg [⟨some 83, .mov (.t 8), none⟩, ⟨some 84, .call (.t 83) [.c (.str ⟨#[33, 64, 194, 169, 194, 164, 207, 128]⟩)], none⟩, ⟨some 82, .mov (.t 84), none⟩]) (.cond (.t 82) (.seq (.reg [⟨some 4, .mov (.c (.int .i64 1)), none⟩, ⟨some 5, .mov (.c (.int .i64 1)), none⟩, ⟨some 6, .mov (.c (.bool true)), none⟩]) (.ret)) (.seq (.reg [⟨some 86, .mov (.t 8), none⟩, ⟨some 87, .call (.t 86) [.c (.str ⟨#[36, 194, 174]⟩)], none⟩, ⟨some 85, .mov (.t 87), none⟩]) (.cond (.t 85) (.seq (.reg [⟨some 4, .mov (.c (.int .i64 2)), none⟩, ⟨some 5, .mov (.c (.int .i64 0)), none⟩, ⟨some 6, .mov (.c (.bool true)), none⟩]) (.ret)) (.seq (.reg [⟨some 89, .mov (.t 8), none⟩, ⟨some 90, .call (.t 89) [.c (.str ⟨#[58, 59, 91, 93, 126, 194, 161]⟩)], none⟩, ⟨some 88, .mov (.t 90), none⟩]) (.cond (.t 88) (.seq (.reg [⟨some 4, .mov (.c (.int .i64 0)), none⟩, ⟨some 5, .mov (.c (.int .i64 0)), none⟩, ⟨some 6, .mov (.c (.bool true)), none⟩]) (.ret)) (.skip)))))))))))))))))) (.seq (.reg [⟨some 4, .mov (.c (.int .i64 0)), none⟩, ⟨some 5, .mov (.c (.int .i64 0)), none⟩, ⟨some 6, .mov (.c (.bool false)), none⟩]) (.ret)))))
def f_check_judge_base : IFun where
  nargs := 1
  results := [.tmp 2]
  pure := true
  frz := true
  drop := []
  body :=
   .seq (.reg [⟨some 2, .mov (.c (.int .i64 0)), none⟩])
   (.seq (.seq (.reg [⟨some 3, .mov (.t 0), none⟩, ⟨some 4, .nilc (.t 3), none⟩, ⟨some 5, .fadr 4 (.t 4), none⟩, ⟨some 6, .ld false 1 (.t 5), none⟩, ⟨some 7, .len (.t 6), none⟩, ⟨some 8, .bin .eql (.t 7) (.c (.int .i64 0)), none⟩]) (.cond (.t 8) (.seq (.reg [⟨some 2, .mov (.c (.int .i64 0)), none⟩]) (.ret)) (.skip))) (.seq (.reg [⟨some 9, .mov (.t 0), none⟩, ⟨some 10, .nilc (.t 9), none⟩, ⟨some 11, .fadr 4 (.t 10), none⟩, ⟨some 12, .ld false 1 (.t 11), none⟩, ⟨some 13, .mov (.t 0), none⟩, ⟨some 14, .nilc (.t 13), none⟩, ⟨some 15, .fadr 4 (.t 14), none⟩, ⟨some 16, .ld false 1 (.t 15), none⟩, ⟨some 17, .len (.t 16), none⟩, ⟨some 18, .bin .sub (.t 17) (.c (.int .i64 1)), none⟩, ⟨some 19, .iadr 5 (.t 12) (.t 18), none⟩, ⟨some 20, .fadr 3 (.t 19), none⟩, ⟨some 21, .ld false 1 (.t 20), none⟩, ⟨some 2, .mov (.t 21), none⟩]) (.ret)))
def f_check_judge_turn : IFun where
  nargs := 2
  results := [.tmp 4]
  pure := false
  frz := false
  drop := []
  body :=
   .seq (.reg [⟨some 4, .mov (.c (.int .i64 0)), none⟩])
   (.seq (.seq (.reg [⟨some 6, .mov (.t 1), none⟩]) (.block 0 (.seq (.seq (.reg [⟨some 8, .bin .eql (.t 6) (.c (.int .i32 63)), none⟩, ⟨some 7, .mov (.t 8), none⟩]) (.cond (.t 7) (.skip) (.reg [⟨some 9, .bin .eql (.t 6) (.c (.int .i32 91)), none⟩, ⟨some 7, .mov (.t 9), none⟩]))) (.cond (.t 7) (.regW [⟨some 10, .mov (.t 0), none⟩, ⟨some 11, .mov (.t 0), none⟩, ⟨some 12, .nilc (.t 11), none⟩, ⟨some 13, .fadr 4 (.t 12), none⟩, ⟨some 14, .ld false 1 (.t 13), none⟩, ⟨some 15, .mov (.t 1), none⟩, ⟨some 16, .bin .eql (.t 15) (.c (.int .i32 91)), none⟩, ⟨some 17, .mov (.t 0), none⟩, ⟨some 18, .nilc (.t 17), none⟩, ⟨some 19, .fadr 3 (.t 18), none⟩, ⟨some 20, .ld false 1 (.t 19), none⟩, ⟨some 21, .build [.bool false, .bool false, .bool false, .int .i64 0, .int .i64 0] [(0, 1, (.t 16)), (3, 1, (.t 20))], none⟩, ⟨some 22, .bslice 5 [.bool false, .bool false, .bool false, .int .i64 0, .int .i64 0] 1 [(0, 5, (.t 21))], none⟩, ⟨some 23, .app 5 24 (.t 14) (.t 22), none⟩, ⟨some 24, .nilc (.t 10), none⟩, ⟨some 25, .fadr 4 (.t 24), none⟩, ⟨none, .st 1 (.t 25) (.t 23), none⟩] [(4, 13)]) (.seq (.reg [⟨some 27, .bin .eql (.t 6) (.c (.int .i32 58)), none⟩, ⟨some 26, .mov (.t 27), none⟩]) (.cond (.t 26) (.seq (.reg [⟨some 28, .mov (.t 0), none⟩, ⟨some 29, .nilc (.t 28), none⟩, ⟨some 30, .fadr 4 (.t 29), none⟩, ⟨some 31, .ld false 1 (.t 30), none⟩, ⟨some 32, .mov (.t 0), none⟩, ⟨some 33, .nilc (.t 32), none⟩, ⟨some 34, .fadr 4 (.t 33), none⟩, ⟨some 35, .ld false 1 (.t 34), none⟩, ⟨some 36, .len (.t 35), none⟩, ⟨some 37, .bin .sub (.t 36) (.c (.int .i64 1)), none⟩, ⟨some 38, .iadr 5 (.t 31) (.t 37), none⟩, ⟨some 5, .mov (.t 38), none⟩]) (.seq (.reg [⟨some 39, .mov (.t 5), none⟩, ⟨some 40, .mov (.t 5), none⟩, ⟨some 41, .mov (.t 0), none⟩, ⟨some 42, .nilc (.t 41), none⟩, ⟨some 43, .fadr 3 (.t 42), none⟩, ⟨some 44, .ld false 1 (.t 43), none⟩, ⟨some 45, .nilc (.t 39), none⟩, ⟨some 46, .fadr 1 (.t 45), none⟩, ⟨none, .st 1 (.t 46) (.c (.bool true)), none⟩, ⟨some 47, .nilc (.t 40), none⟩, ⟨some 48, .fadr 4 (.t 47), none⟩, ⟨none, .st 1 (.t 48) (.t 44), none⟩]) (.reg [⟨some 49, .mov (.t 0), none⟩, ⟨some 50, .mov (.t 5), none⟩, ⟨some 51, .nilc (.t 50), none⟩, ⟨some 52, .fadr 3 (.t 51), none⟩, ⟨some 53, .ld false 1 (.t 52), none⟩, ⟨some 54, .nilc (.t 49), none⟩, ⟨some 55, .fadr 3 (.t 54), none⟩, ⟨none, .st 1 (.t 55) (.t 53), none⟩]))) (.seq (.reg [⟨some 57, .bin .eql (.t 6) (.c (.int .i32 59)), none⟩, ⟨some 56, .mov (.t 57), none⟩]) (.cond (.t 56) (.seq (.reg [⟨some 58, .mov (.t 0), none⟩, ⟨some 59, .call (.c (.fn n_check_judge_endIf [])) [.t 58], none⟩, ⟨some 4, .mov (.t 59), none⟩]) (.ret)) (.seq (.reg [⟨some 61, .bin .eql (.t 6) (.c (.int .i32 93)), none⟩, ⟨some 60, .mov (.t 61), none⟩]) (.cond (.t 60) (.seq (.reg [⟨some 62, .mov (.t 0), none⟩, ⟨some 63, .call (.c (.fn n_check_judge_endLoop [])) [.t 62], none⟩, ⟨some 4, .mov (.t 63), none⟩]) (.ret)) (.seq (.reg [⟨some 65, .bin .eql (.t 6) (.c (.int .i32 126)), none⟩, ⟨some 64, .mov (.t 65), none⟩]) (.cond (.t 64) (.seq (.reg [⟨some 66, .mov (.t 0), none⟩, ⟨some 67, .call (.c (.fn n_check_judge_leave [])) [.t 66], none⟩, ⟨some 4, .mov (.t 67), none⟩]) (.ret)) (.seq (.reg [⟨some 69, .bin .eql (.t 6) (.c (.int .i32 161)), none⟩, ⟨some 68, .mov (.t 69), none⟩]) (.cond (.t 68) (.reg [⟨some 70, .mov (.t 0), none⟩, ⟨some 71, .nilc (.t 70), none⟩, ⟨some 72, .fadr 3 (.t 71), none⟩, ⟨none, .st 1 (.t 72) (.c (.int .i64 (-1))), none⟩]) (.skip))))))))))))))) (.seq (.reg [⟨some 4, .mov (.c (.int .i64 0)), none⟩]) (.ret)))
def l0_glyph_Known : IC :=
  .seq (.reg [⟨some 12, .next (.t 11), none⟩, ⟨some 13, .ext (.t 12) 0, none⟩])
  (.seq (.cond (.t 13) (.skip) (.exit 0))
   (.block 1 (.seq (.reg [⟨some 14, .ext (.t 12) 2, none⟩, ⟨some 4, .mov (.t 14), none⟩]) (.seq (.reg [⟨some 15, .mov (.t 4), none⟩, ⟨some 16, .mov (.t 0), none⟩, ⟨some 17, .bin .eql (.t 15) (.t 16), none⟩]) (.cond (.t 17) (.seq (.reg [⟨some 2, .mov (.c (.bool true)), none⟩]) (.ret)) (.skip))))))
def f_glyph_Known : IFun where
  nargs := 1
  results := [.tmp 2]
  pure := true
  frz := true
  drop := []
  body :=
   .seq (.reg [⟨some 2, .mov (.c (.bool false)), none⟩])
   (.seq (.seq (.reg [⟨some 5, .mov (.t 0), none⟩, ⟨some 6, .call (.c (.fn n_glyph_within [])) [.t 5, .c (.int .i32 97), .c (.int .i32 122)], none⟩, ⟨some 7, .mov (.t 6), none⟩, ⟨some 8, .mov (.t 0), some (7, false)⟩, ⟨some 9, .call (.c (.fn n_glyph_within [])) [.t 8, .c (.int .i32 65), .c (.int .i32 90)], some (7, false)⟩, ⟨some 10, .pick (.t 7) (.c (.bool true)) (.t 9), none⟩]) (.cond (.t 10) (.seq (.reg [⟨some 2, .mov (.c (.bool true)), none⟩]) (.ret)) (.skip))) (.seq (.seq (.reg [⟨some 11, .rng (.c (.str ⟨#[43, 45, 42, 47, 37, 38, 124, 94, 60, 61, 33, 46, 44, 64, 36, 35, 63, 58, 59, 91, 93, 126, 194, 171, 194, 187, 194, 169, 194, 174, 194, 164, 194, 161, 206, 187, 207, 128]⟩)), none⟩]) (.block 0 (.loopK [0, 11] l0_glyph_Known))) (.keep [] (.seq (.reg [⟨some 2, .mov (.c (.bool false)), none⟩]) (.ret)))))
def f_glyph_named : IFun where
  nargs := 1
  results := [.tmp 2]
  pure := true
  frz := true
  drop := []
  body :=
   .seq (.reg [⟨some 2, .mov (.c (.bool false)), none⟩])
   (.seq (.reg [⟨some 3, .mov (.t 0), none⟩, ⟨some 4, .bin .eql (.t 3) (.c (.int .i32 955)), none⟩, ⟨some 5, .mov (.t 4), none⟩, ⟨some 6, .mov (.t 0), some (5, false)⟩, ⟨some 7, .bin .eql (.t 6) (.c (.int .i32 960)), some (5, false)⟩, ⟨some 8, .pick (.t 5) (.c (.bool true)) (.t 7), none⟩, ⟨some 2, .mov (.t 8), none⟩]) (.ret))
def f_nest_matcher_token : IFun where
  nargs := 3
  results := [.tmp 6]
  pure := false
  frz := false
  drop := []
  body :=
   .seq (.reg [⟨some 6, .mov (.c (.bool false)), none⟩])
   (.seq (.seq (.reg [⟨some 7, .mov (.t 2), none⟩]) (.block 0 (.seq (.reg [⟨some 9, .bin .eql (.t 7) (.c (.int .i32 63)), none⟩, ⟨some 8, .mov (.t 9), none⟩]) (.cond (.t 8) (.seq (.reg [⟨some 10, .mov (.t 0), none⟩, ⟨some 11, .mov (.t 1), none⟩, ⟨some 12, .call (.c (.fn n_nest_matcher_begin [])) [.t 10, .t 11, .c (.bool false)], none⟩, ⟨some 6, .mov (.t 12), none⟩]) (.ret)) (.seq (.reg [⟨some 14, .bin .eql (.t 7) (.c (.int .i32 91)), none⟩, ⟨some 13, .mov (.t 14), none⟩]) (.cond (.t 13) (.seq (.reg [⟨some 15, .mov (.t 0), none⟩, ⟨some 16, .mov (.t 1), none⟩, ⟨some 17, .call (.c (.fn n_nest_matcher_begin [])) [.t 15, .t 16, .c (.bool true)], none⟩, ⟨some 6, .mov (.t 17), none⟩]) (.ret)) (.seq (.reg [⟨some 19, .bin .eql (.t 7) (.c (.int .i32 58)), none⟩, ⟨some 18, .mov (.t 19), none⟩]) (.cond (.t 18) (.seq (.reg [⟨some 20, .mov (.t 0), none⟩, ⟨some 21, .mov (.t 1), none⟩, ⟨some 22, .call (.c (.fn n_nest_matcher_other [])) [.t 20, .t 21], none⟩, ⟨some 6, .mov (.t 22), none⟩]) (.ret)) (.seq (.reg [⟨some 24, .bin .eql (.t 7) (.c (.int .i32 59)), none⟩, ⟨some 23, .mov (.t 24), none⟩]) (.cond (.t 23) (.seq (.reg [⟨some 25, .mov (.t 0), none⟩, ⟨some 26, .mov (.t 1), none⟩, ⟨some 27, .call (.c (.fn n_nest_matcher_endIf [])) [.t 25, .t 26], none⟩, ⟨some 6, .mov (.t 27), none⟩]) (.ret)) (.seq (.reg [⟨some 29, .bin .eql (.t 7) (.c (.int .i32 93)), none⟩, ⟨some 28, .mov (.t 29), none⟩]) (.cond (.t 28) (.seq (.reg [⟨some 30, .mov (.t 0), none⟩, ⟨some 31, .mov (.t 1), none⟩, ⟨some 32, .call (.c (.fn n_nest_matcher_endLoop [])) [.t 30, .t 31], none⟩, ⟨some 6, .mov (.t 32), none⟩]) (.ret)) (.seq (.reg [⟨some 34, .bin .eql (.t 7) (.c (.int .i32 126)), none⟩, ⟨some 33, .mov (.t 34), none⟩]) (.cond (.t 33) (.seq (.reg [⟨some 35, .mov (.t 0), none⟩, ⟨some 36, .mov (.t 1), none⟩, ⟨some 37, .call (.c (.fn n_nest_matcher_leave [])) [.t 35, .t 36], none⟩, ⟨some 6, .mov (.t 37), none⟩]) (.ret)) (.skip))))))))))))))) (.seq (.reg [⟨some 6, .mov (.c (.bool true)), none⟩]) (.ret)))
def f_ibytealg_Cutover : IFun where
  nargs := 1
  results := [.tmp 2]
  pure := true
  frz := true
  drop := []
  body :=
   .seq (.reg [⟨some 2, .mov (.c (.int .i64 0)), none⟩])
   (.seq (.reg [⟨some 3, .mov (.t 0), none⟩, ⟨some 4, .bin .add (.t 3) (.c (.int .i64 16)), none⟩, ⟨some 5, .bin .quo (.t 4) (.c (.int .i64 8)), none⟩, ⟨some 2, .mov (.t 5), none⟩]) (.ret))
def f_word_parted : IFun where
  nargs := 3
  results := [.tmp 6, .tmp 7]
  pure := true
  frz := true
  drop := []
  body :=
   .seq (.reg [⟨some 6, .mov (.c (.int .i64 0)), none⟩, ⟨some 7, .mov (.c (.int .i64 0)), none⟩])
   (.seq (.block 0 (.seq (.reg [⟨some 9, .mov (.t 2), none⟩, ⟨some 10, .bin .eql (.t 9) (.c (.int .i64 0)), none⟩, ⟨some 8, .mov (.t 10), none⟩]) (.cond (.t 8) (.seq (.reg [⟨some 6, .mov (.c (.int .i64 0)), none⟩, ⟨some 7, .mov (.c (.int .i64 3)), none⟩]) (.ret)) (.seq (.reg [⟨some 12, .mov (.t 0), none⟩, ⟨some 13, .bin .eql (.t 12) (.c (.int .i32 37)), none⟩, ⟨some 14, .mov (.t 13), none⟩, ⟨some 15, .mov (.t 2), some (14, true)⟩, ⟨some 16, .bin .eql (.t 15) (.c (.int .i64 (-1))), some (14, true)⟩, ⟨some 17, .pick (.t 14) (.t 16) (.c (.bool false)), none⟩, ⟨some 11, .mov (.t 17), none⟩]) (.cond (.t 11) (.seq (.reg [⟨some 6, .mov (.c (.int .i64 0)), none⟩, ⟨some 7, .mov (.c (.int .i64 0)), none⟩]) (.ret)) (.seq (.reg [⟨some 19, .mov (.t 0), none⟩, ⟨some 20, .bin .eql (.t 19) (.c (.int .i32 37)), none⟩, ⟨some 18, .mov (.t 20), none⟩]) (.cond (.t 18) (.seq (.reg [⟨some 21, .mov (.t 1), none⟩, ⟨some 22, .mov (.t 2), none⟩, ⟨some 23, .bin .rem (.t 21) (.t 22), none⟩, ⟨some 6, .mov (.t 23), none⟩, ⟨some 7, .mov (.c (.int .i64 0)), none⟩]) (.ret)) (.seq (.reg [⟨some 25, .mov (.t 1), none⟩, ⟨some 26, .bin .eql (.t 25) (.c (.int .i64 (-9223372036854775808))), none⟩, ⟨some 27, .mov (.t 26), none⟩, ⟨some 28, .mov (.t 2), some (27, true)⟩, ⟨some 29, .bin .eql (.t 28) (.c (.int .i64 (-1))), some (27, true)⟩, ⟨some 30, .pick (.t 27) (.t 29) (.c (.bool false)), none⟩, ⟨some 24, .mov (.t 30), none⟩]) (.cond (.t 24) (.seq (.reg [⟨some 6, .mov (.c (.int .i64 0)), none⟩, ⟨some 7, .mov (.c (.int .i64 4)), none⟩]) (.ret)) (.skip)))))))))) (.seq (.reg [⟨some 31, .mov (.t 1), none⟩, ⟨some 32, .mov (.t 2), none⟩, ⟨some 33, .bin .quo (.t 31) (.t 32), none⟩, ⟨some 6, .mov (.t 33), none⟩, ⟨some 7, .mov (.c (.int .i64 0)), none⟩]) (.ret)))
def f_word_bit : IFun where
  nargs := 1
  results := [.tmp 2]
  pure := true
  frz := true
  drop := []
  body :=
   .seq (.reg [⟨some 2, .mov (.c (.int .i64 0)), none⟩])
   (.seq (.seq (.reg [⟨some 3, .mov (.t 0), none⟩]) (.cond (.t 3) (.seq (.reg [⟨some 2, .mov (.c (.int .i64 1)), none⟩]) (.ret)) (.skip))) (.seq (.reg [⟨some 2, .mov (.c (.int .i64 0)), none⟩]) (.ret)))
def f_check_Takes_1 : IFun where
  nargs := 2
  results := [.tmp 3]
  pure := false
  frz := false
  drop := []
  body :=
   .seq (.reg [⟨some 3, .mov (.c (.bool false)), none⟩])
   (.seq (.reg [⟨some 4, .mov (.t 0), none⟩, ⟨some 5, .ld false 1 (.t 1), none⟩, ⟨some 6, .call (.c (.fn n_check_hasRune [])) [.t 4, .t 5], none⟩, ⟨some 3, .mov (.t 6), none⟩]) (.ret))
def l0_check_hasRune : IC :=
  .seq (.reg [⟨some 9, .next (.t 8), none⟩, ⟨some 10, .ext (.t 9) 0, none⟩])
  (.seq (.cond (.t 10) (.skip) (.exit 0))
   (.block 1 (.seq (.reg [⟨some 11, .ext (.t 9) 2, none⟩, ⟨some 6, .mov (.t 11), none⟩]) (.seq (.reg [⟨some 12, .mov (.t 6), none⟩, ⟨some 13, .mov (.t 1), none⟩, ⟨some 14, .bin .eql (.t 12) (.t 13), none⟩]) (.cond (.t 14) (.seq (.reg [⟨some 4, .mov (.c (.bool true)), none⟩]) (.ret)) (.skip))))))
def f_check_hasRune : IFun where
  nargs := 2
  results := [.tmp 4]
  pure := true
  frz := true
  drop := []
  body :=
   .seq (.reg [⟨some 4, .mov (.c (.bool false)), none⟩])
   (.seq (.seq (.reg [⟨some 7, .mov (.t 0), none⟩, ⟨some 8, .rng (.t 7), none⟩]) (.block 0 (.loopK [1, 8] l0_check_hasRune))) (.keep [] (.seq (.reg [⟨some 4, .mov (.c (.bool false)), none⟩]) (.ret))))
def f_check_judge_endIf : IFun where
  nargs := 1
  results := [.tmp 2]
  pure := false
  frz := false
  drop := []
  body :=
   .seq (.reg [⟨some 2, .mov (.c (.int .i64 0)), none⟩])
   (.seq (.reg [⟨some 4, .mov (.t 0), none⟩, ⟨some 5, .call (.c (.fn n_check_judge_pop [])) [.t 4], none⟩, ⟨some 3, .alloc [.bool false, .bool false, .bool false, .int .i64 0, .int .i64 0], none⟩, ⟨none, .st 5 (.t 3) (.t 5), none⟩]) (.seq (.seq (.reg [⟨some 6, .fadr 1 (.t 3), none⟩, ⟨some 7, .ld false 1 (.t 6), none⟩, ⟨some 8, .un .not (.t 7), none⟩]) (.cond (.t 8) (.seq (.seq (.reg [⟨some 9, .mov (.t 0), none⟩, ⟨some 10, .nilc (.t 9), none⟩, ⟨some 11, .fadr 3 (.t 10), none⟩, ⟨some 12, .ld false 1 (.t 11), none⟩, ⟨some 13, .bin .neq (.t 12) (.c (.int .i64 (-1))), none⟩, ⟨some 14, .mov (.t 13), none⟩, ⟨some 15, .mov (.t 0), some (14, true)⟩, ⟨some 16, .nilc (.t 15), some (14, true)⟩, ⟨some 17, .fadr 3 (.t 16), some (14, true)⟩, ⟨some 18, .ld false 1 (.t 17), some (14, true)⟩, ⟨some 19, .fadr 3 (.t 3), some (14, true)⟩, ⟨some 20, .ld false 1 (.t 19), some (14, true)⟩, ⟨some 21, .bin .neq (.t 18) (.t 20), some (14, true)⟩, ⟨some 22, .pick (.t 14) (.t 21) (.c (.bool false)), none⟩]) (.cond (.t 22) (.seq (.reg [⟨some 2, .mov (.c (.int .i64 14)), none⟩]) (.ret)) (.skip))) (.seq (.reg [⟨some 23, .mov (.t 0), none⟩, ⟨some 24, .fadr 3 (.t 3), none⟩, ⟨some 25, .ld false 1 (.t 24), none⟩, ⟨some 26, .nilc (.t 23), none⟩, ⟨some 27, .fadr 3 (.t 26), none⟩, ⟨none, .st 1 (.t 27) (.t 25), none⟩]) (.seq (.reg [⟨some 2, .mov (.c (.int .i64 0)), none⟩]) (.ret)))) (.skip))) (.seq (.seq (.reg [⟨some 28, .mov (.t 0), none⟩, ⟨some 29, .nilc (.t 28), none⟩, ⟨some 30, .fadr 3 (.t 29), none⟩, ⟨some 31, .ld false 1 (.t 30), none⟩, ⟨some 32, .bin .neq (.t 31) (.c (.int .i64 (-1))), none⟩, ⟨some 33, .mov (.t 32), none⟩, ⟨some 34, .fadr 4 (.t 3), some (33, true)⟩, ⟨some 35, .ld false 1 (.t 34), some (33, true)⟩, ⟨some 36, .bin .neq (.t 35) (.c (.int .i64 (-1))), some (33, true)⟩, ⟨some 37, .pick (.t 33) (.t 36) (.c (.bool false)), none⟩, ⟨some 38, .mov (.t 37), none⟩, ⟨some 39, .mov (.t 0), some (38, true)⟩, ⟨some 40, .nilc (.t 39), some (38, true)⟩, ⟨some 41, .fadr 3 (.t 40), some (38, true)⟩, ⟨some 42, .ld false 1 (.t 41), some (38, true)⟩, ⟨some 43, .fadr 4 (.t 3), some (38, true)⟩, ⟨some 44, .ld false 1 (.t 43), some (38, true)⟩, ⟨some 45, .bin .neq (.t 42) (.t 44), some (38, true)⟩, ⟨some 46, .pick (.t 38) (.t 45) (.c (.bool false)), none⟩]) (.cond (.t 46) (.seq (.reg [⟨some 2, .mov (.c (.int .i64 14)), none⟩]) (.ret)) (.skip))) (.seq (.reg [⟨some 47, .mov (.t 0), none⟩, ⟨some 48, .mov (.t 0), none⟩, ⟨some 49, .nilc (.t 48), none⟩, ⟨some 50, .fadr 3 (.t 49), none⟩, ⟨some 51, .ld false 1 (.t 50), none⟩, ⟨some 52, .fadr 4 (.t 3), none⟩, ⟨some 53, .ld false 1 (.t 52), none⟩, ⟨some 54, .mm true (.t 51) (.t 53), none⟩, ⟨some 55, .nilc (.t 47), none⟩, ⟨some 56, .fadr 3 (.t 55), none⟩, ⟨none, .st 1 (.t 56) (.t 54), none⟩]) (.seq (.reg [⟨some 2, .mov (.c (.int .i64 0)), none⟩]) (.ret))))))
def f_check_judge_endLoop : IFun where
  nargs := 1
  results := [.tmp 2]
  pure := false
  frz := false
  drop := []
  body :=
   .seq (.reg [⟨some 2, .mov (.c (.int .i64 0)), none⟩])
   (.seq (.reg [⟨some 4, .mov (.t 0), none⟩, ⟨some 5, .call (.c (.fn n_check_judge_pop [])) [.t 4], none⟩, ⟨some 3, .alloc [.bool false, .bool false, .bool false, .int .i64 0, .int .i64 0], none⟩, ⟨none, .st 5 (.t 3) (.t 5), none⟩]) (.seq (.seq (.reg [⟨some 6, .mov (.t 0), none⟩, ⟨some 7, .nilc (.t 6), none⟩, ⟨some 8, .fadr 3 (.t 7), none⟩, ⟨some 9, .ld false 1 (.t 8), none⟩, ⟨some 10, .bin .neq (.t 9) (.c (.int .i64 (-1))), none⟩, ⟨some 11, .mov (.t 10), none⟩, ⟨some 12, .mov (.t 0), some (11, true)⟩, ⟨some 13, .nilc (.t 12), some (11, true)⟩, ⟨some 14, .fadr 3 (.t 13), some (11, true)⟩, ⟨some 15, .ld false 1 (.t 14), some (11, true)⟩, ⟨some 16, .fadr 3 (.t 3), some (11, true)⟩, ⟨some 17, .ld false 1 (.t 16), some (11, true)⟩, ⟨some 18, .bin .neq (.t 15) (.t 17), some (11, true)⟩, ⟨some 19, .pick (.t 11) (.t 18) (.c (.bool false)), none⟩]) (.cond (.t 19) (.seq (.reg [⟨some 2, .mov (.c (.int .i64 14)), none⟩]) (.ret)) (.skip))) (.seq (.reg [⟨some 20, .mov (.t 0), none⟩, ⟨some 21, .nilc (.t 20), none⟩, ⟨some 22, .fadr 3 (.t 21), none⟩, ⟨none, .st 1 (.t 22) (.c (.int .i64 (-1))), none⟩]) (.seq (.seq (.reg [⟨some 23, .fadr 2 (.t 3), none⟩, ⟨some 24, .ld false 1 (.t 23), none⟩]) (.cond (.t 24) (.reg [⟨some 25, .mov (.t 0), none⟩, ⟨some 26, .fadr 3 (.t 3), none⟩, ⟨some 27, .ld false 1 (.t 26), none⟩, ⟨some 28, .nilc (.t 25), none⟩, ⟨some 29, .fadr 3 (.t 28), none⟩, ⟨none, .st 1 (.t 29) (.t 27), none⟩]) (.skip))) (.seq (.reg [⟨some 2, .mov (.c (.int .i64 0)), none⟩]) (.ret))))))
def l0_check_judge_leave : IC :=
  .seq (.seq (.reg [⟨some 10, .mov (.t 0), none⟩, ⟨some 11, .nilc (.t 10), none⟩, ⟨some 12, .fadr 4 (.t 11), none⟩, ⟨some 13, .ld false 1 (.t 12), none⟩, ⟨some 14, .mov (.t 3), none⟩, ⟨some 15, .iadr 5 (.t 13) (.t 14), none⟩, ⟨some 16, .fadr 0 (.t 15), none⟩, ⟨some 17, .ld false 1 (.t 16), none⟩, ⟨some 18, .un .not (.t 17), none⟩])
   (.cond (.t 18) (.skip) (.exit 0)))
  (.block 1 (.reg [⟨some 19, .mov (.t 3), none⟩, ⟨some 20, .bin .sub (.t 19) (.c (.int .i64 1)), none⟩, ⟨some 3, .mov (.t 20), none⟩]))
def f_check_judge_leave : IFun where
  nargs := 1
  results := [.tmp 2]
  pure := false
  frz := false
  drop := []
  body :=
   .seq (.reg [⟨some 2, .mov (.c (.int .i64 0)), none⟩])
   (.seq (.reg [⟨some 4, .mov (.t 0), none⟩, ⟨some 5, .nilc (.t 4), none⟩, ⟨some 6, .fadr 4 (.t 5), none⟩, ⟨some 7, .ld false 1 (.t 6), none⟩, ⟨some 8, .len (.t 7), none⟩, ⟨some 9, .bin .sub (.t 8) (.c (.int .i64 1)), none⟩, ⟨some 3, .mov (.t 9), none⟩]) (.seq (.block 0 (.loopK [0, 3] l0_check_judge_leave)) (.keep [0, 3] (.seq (.seq (.reg [⟨some 21, .mov (.t 0), none⟩, ⟨some 22, .nilc (.t 21), none⟩, ⟨some 23, .fadr 3 (.t 22), none⟩, ⟨some 24, .ld false 1 (.t 23), none⟩, ⟨some 25, .mov (.t 0), none⟩, ⟨some 26, .nilc (.t 25), none⟩, ⟨some 27, .fadr 4 (.t 26), none⟩, ⟨some 28, .ld false 1 (.t 27), none⟩, ⟨some 29, .mov (.t 3), none⟩, ⟨some 30, .iadr 5 (.t 28) (.t 29), none⟩, ⟨some 31, .fadr 3 (.t 30), none⟩, ⟨some 32, .ld false 1 (.t 31), none⟩, ⟨some 33, .bin .neq (.t 24) (.t 32), none⟩]) (.cond (.t 33) (.seq (.reg [⟨some 2, .mov (.c (.int .i64 14)), none⟩]) (.ret)) (.skip))) (.seq (.reg [⟨some 34, .mov (.t 0), none⟩, ⟨some 35, .nilc (.t 34), none⟩, ⟨some 36, .fadr 4 (.t 35), none⟩, ⟨some 37, .ld false 1 (.t 36), none⟩, ⟨some 38, .mov (.t 3), none⟩, ⟨some 39, .iadr 5 (.t 37) (.t 38), none⟩, ⟨some 40, .fadr 2 (.t 39), none⟩, ⟨none, .st 1 (.t 40) (.c (.bool true)), none⟩]) (.seq (.reg [⟨some 41, .mov (.t 0), none⟩, ⟨some 42, .nilc (.t 41), none⟩, ⟨some 43, .fadr 3 (.t 42), none⟩, ⟨none, .st 1 (.t 43) (.c (.int .i64 (-1))), none⟩]) (.seq (.reg [⟨some 2, .mov (.c (.int .i64 0)), none⟩]) (.ret))))))))
def f_nest_matcher_begin : IFun where
  nargs := 3
  results := [.tmp 6]
  pure := false
  frz := false
  drop := []
  body :=
   .seq (.reg [⟨some 6, .mov (.c (.bool false)), none⟩])
   (.seq (.reg [⟨some 7, .mov (.t 0), none⟩, ⟨some 8, .mov (.t 0), none⟩, ⟨some 9, .nilc (.t 8), none⟩, ⟨some 10, .fadr 1 (.t 9), none⟩, ⟨some 11, .ld false 1 (.t 10), none⟩, ⟨some 12, .mov (.t 2), none⟩, ⟨some 13, .mov (.t 1), none⟩, ⟨some 14, .build [.bool false, .int .i64 0, .int .i64 0, .nilsl] [(0, 1, (.t 12)), (1, 1, (.t 13))], none⟩, ⟨some 15, .bslice 4 [.bool false, .int .i64 0, .int .i64 0, .nilsl] 1 [(0, 4, (.t 14))], none⟩, ⟨some 16, .app 4 48 (.t 11) (.t 15), none⟩, ⟨some 17, .nilc (.t 7), none⟩, ⟨some 18, .fadr 1 (.t 17), none⟩, ⟨none, .st 1 (.t 18) (.t 16), none⟩]) (.seq (.reg [⟨some 19, .mov (.t 0), none⟩, ⟨some 20, .mov (.t 0), none⟩, ⟨some 21, .nilc (.t 20), none⟩, ⟨some 22, .fadr 2 (.t 21), none⟩, ⟨some 23, .ld false 1 (.t 22), none⟩, ⟨some 24, .mov (.t 0), none⟩, ⟨some 25, .nilc (.t 24), none⟩, ⟨some 26, .fadr 1 (.t 25), none⟩, ⟨some 27, .ld false 1 (.t 26), none⟩, ⟨some 28, .len (.t 27), none⟩, ⟨some 29, .mm true (.t 23) (.t 28), none⟩, ⟨some 30, .nilc (.t 19), none⟩, ⟨some 31, .fadr 2 (.t 30), none⟩, ⟨none, .st 1 (.t 31) (.t 29), none⟩]) (.seq (.reg [⟨some 32, .mov (.t 0), none⟩, ⟨some 33, .nilc (.t 32), none⟩, ⟨some 34, .fadr 1 (.t 33), none⟩, ⟨some 35, .ld false 1 (.t 34), none⟩, ⟨some 36, .len (.t 35), none⟩, ⟨some 37, .bin .leq (.t 36) (.c (.int .i64 16)), none⟩, ⟨some 6, .mov (.t 37), none⟩]) (.ret))))
def f_nest_matcher_other : IFun where
  nargs := 2
  results := [.tmp 4]
  pure := false
  frz := false
  drop := []
  body :=
   .seq (.reg [⟨some 4, .mov (.c (.bool false)), none⟩])
   (.seq (.reg [⟨some 6, .mov (.t 0), none⟩, ⟨some 7, .call (.c (.fn n_nest_matcher_top [])) [.t 6], none⟩, ⟨some 5, .mov (.t 7), none⟩]) (.seq (.seq (.reg [⟨some 8, .mov (.t 5), none⟩, ⟨some 9, .eqn 0 false (.t 8), none⟩, ⟨some 10, .mov (.t 9), none⟩, ⟨some 11, .mov (.t 5), some (10, false)⟩, ⟨some 12, .nilc (.t 11), some (10, false)⟩, ⟨some 13, .fadr 0 (.t 12), some (10, false)⟩, ⟨some 14, .ld false 1 (.t 13), some (10, false)⟩, ⟨some 15, .pick (.t 10) (.c (.bool true)) (.t 14), none⟩, ⟨some 16, .mov (.t 15), none⟩, ⟨some 17, .mov (.t 5), some (16, false)⟩, ⟨some 18, .nilc (.t 17), some (16, false)⟩, ⟨some 19, .fadr 2 (.t 18), some (16, false)⟩, ⟨some 20, .ld false 1 (.t 19), some (16, false)⟩, ⟨some 21, .bin .gtr (.t 20) (.c (.int .i64 0)), some (16, false)⟩, ⟨some 22, .pick (.t 16) (.c (.bool true)) (.t 21), none⟩]) (.cond (.t 22) (.seq (.reg [⟨some 4, .mov (.c (.bool false)), none⟩]) (.ret)) (.skip))) (.seq (.reg [⟨some 23, .mov (.t 5), none⟩, ⟨some 24, .mov (.t 1), none⟩, ⟨some 25, .nilc (.t 23), none⟩, ⟨some 26, .fadr 2 (.t 25), none⟩, ⟨none, .st 1 (.t 26) (.t 24), none⟩]) (.seq (.reg [⟨some 27, .mov (.t 0), none⟩, ⟨some 28, .nilc (.t 27), none⟩, ⟨some 29, .fadr 0 (.t 28), none⟩, ⟨some 30, .ld false 1 (.t 29), none⟩, ⟨some 31, .mov (.t 5), none⟩, ⟨some 32, .nilc (.t 31), none⟩, ⟨some 33, .fadr 1 (.t 32), none⟩, ⟨some 34, .ld false 1 (.t 33), none⟩, ⟨some 35, .mov (.t 1), none⟩, ⟨some 36, .bin .add (.t 35) (.c (.int .i64 1)), none⟩, ⟨some 37, .iadr 1 (.t 30) (.t 34), none⟩, ⟨none, .st 1 (.t 37) (.t 36), none⟩]) (.seq (.reg [⟨some 4, .mov (.c (.bool true)), none⟩]) (.ret))))))
def f_nest_matcher_endIf : IFun where
  nargs := 2
  results := [.tmp 4]
  pure := false
  frz := false
  drop := []
  body :=
   .seq (.reg [⟨some 4, .mov (.c (.bool false)), none⟩])
   (.seq (.reg [⟨some 6, .mov (.t 0), none⟩, ⟨some 7, .call (.c (.fn n_nest_matcher_top [])) [.t 6], none⟩, ⟨some 5, .mov (.t 7), none⟩]) (.seq (.seq (.reg [⟨some 8, .mov (.t 5), none⟩, ⟨some 9, .eqn 0 false (.t 8), none⟩, ⟨some 10, .mov (.t 9), none⟩, ⟨some 11, .mov (.t 5), some (10, false)⟩, ⟨some 12, .nilc (.t 11), some (10, false)⟩, ⟨some 13, .fadr 0 (.t 12), some (10, false)⟩, ⟨some 14, .ld false 1 (.t 13), some (10, false)⟩, ⟨some 15, .pick (.t 10) (.c (.bool true)) (.t 14), none⟩]) (.cond (.t 15) (.seq (.reg [⟨some 4, .mov (.c (.bool false)), none⟩]) (.ret)) (.skip))) (.seq (.seq (.reg [⟨some 16, .mov (.t 5), none⟩, ⟨some 17, .nilc (.t 16), none⟩, ⟨some 18, .fadr 2 (.t 17), none⟩, ⟨some 19, .ld false 1 (.t 18), none⟩, ⟨some 20, .bin .gtr (.t 19) (.c (.int .i64 0)), none⟩]) (.cond (.t 20) (.reg [⟨some 21, .mov (.t 0), none⟩, ⟨some 22, .nilc (.t 21), none⟩, ⟨some 23, .fadr 0 (.t 22), none⟩, ⟨some 24, .ld false 1 (.t 23), none⟩, ⟨some 25, .mov (.t 5), none⟩, ⟨some 26, .nilc (.t 25), none⟩, ⟨some 27, .fadr 2 (.t 26), none⟩, ⟨some 28, .ld false 1 (.t 27), none⟩, ⟨some 29, .mov (.t 1), none⟩, ⟨some 30, .iadr 1 (.t 24) (.t 28), none⟩, ⟨none, .st 1 (.t 30) (.t 29), none⟩]) (.reg [⟨some 31, .mov (.t 0), none⟩, ⟨some 32, .nilc (.t 31), none⟩, ⟨some 33, .fadr 0 (.t 32), none⟩, ⟨some 34, .ld false 1 (.t 33), none⟩, ⟨some 35, .mov (.t 5), none⟩, ⟨some 36, .nilc (.t 35), none⟩, ⟨some 37, .fadr 1 (.t 36), none⟩, ⟨some 38, .ld false 1 (.t 37), none⟩, ⟨some 39, .mov (.t 1), none⟩, ⟨some 40, .iadr 1 (.t 34) (.t 38), none⟩, ⟨none, .st 1 (.t 40) (.t 39), none⟩]))) (.seq (.reg [⟨some 41, .mov (.t 0), none⟩, ⟨some 42, .mov (.t 0), none⟩, ⟨some 43, .nilc (.t 42), none⟩, ⟨some 44, .fadr 1 (.t 43), none⟩, ⟨some 45, .ld false 1 (.t 44), none⟩, ⟨some 46, .mov (.t 0), none⟩, ⟨some 47, .nilc (.t 46), none⟩, ⟨some 48, .fadr 1 (.t 47), none⟩, ⟨some 49, .ld false 1 (.t 48), none⟩, ⟨some 50, .len (.t 49), none⟩, ⟨some 51, .bin .sub (.t 50) (.c (.int .i64 1)), none⟩, ⟨some 52, .slc 4 (.t 45) none (some (.t 51)) none, none⟩, ⟨some 53, .nilc (.t 41), none⟩, ⟨some 54, .fadr 1 (.t 53), none⟩, ⟨none, .st 1 (.t 54) (.t 52), none⟩]) (.seq (.reg [⟨some 4, .mov (.c (.bool true)), none⟩]) (.ret))))))
def l0_nest_matcher_endLoop : IC :=
  .seq (.reg [⟨some 35, .bin .lss (.t 34) (.t 33), none⟩])
  (.seq (.cond (.t 35) (.skip) (.exit 0))
   (.seq (.block 1 (.seq (.reg [⟨some 36, .iadr 1 (.t 32) (.t 34), none⟩, ⟨some 37, .ld false 1 (.t 36), none⟩, ⟨some 7, .mov (.t 37), none⟩]) (.reg [⟨some 38, .mov (.t 0), none⟩, ⟨some 39, .nilc (.t 38), none⟩, ⟨some 40, .fadr 0 (.t 39), none⟩, ⟨some 41, .ld false 1 (.t 40), none⟩, ⟨some 42, .mov (.t 7), none⟩, ⟨some 43, .mov (.t 1), none⟩, ⟨some 44, .bin .add (.t 43) (.c (.int .i64 1)), none⟩, ⟨some 45, .iadr 1 (.t 41) (.t 42), none⟩, ⟨none, .st 1 (.t 45) (.t 44), none⟩]))) (.reg [⟨some 46, .bin .add (.t 34) (.c (.int .i64 1)), none⟩, ⟨some 34, .mov (.t 46), none⟩])))
def f_nest_matcher_endLoop : IFun where
  nargs := 2
  results := [.tmp 4]
  pure := false
  frz := false
  drop := []
  body :=
   .seq (.reg [⟨some 4, .mov (.c (.bool false)), none⟩])
   (.seq (.reg [⟨some 8, .mov (.t 0), none⟩, ⟨some 9, .call (.c (.fn n_nest_matcher_top [])) [.t 8], none⟩, ⟨some 5, .mov (.t 9), none⟩]) (.seq (.seq (.reg [⟨some 10, .mov (.t 5), none⟩, ⟨some 11, .eqn 0 false (.t 10), none⟩, ⟨some 12, .mov (.t 11), none⟩, ⟨some 13, .mov (.t 5), some (12, false)⟩, ⟨some 14, .nilc (.t 13), some (12, false)⟩, ⟨some 15, .fadr 0 (.t 14), some (12, false)⟩, ⟨some 16, .ld false 1 (.t 15), some (12, false)⟩, ⟨some 17, .un .not (.t 16), some (12, false)⟩, ⟨some 18, .pick (.t 12) (.c (.bool true)) (.t 17), none⟩]) (.cond (.t 18) (.seq (.reg [⟨some 4, .mov (.c (.bool false)), none⟩]) (.ret)) (.skip))) (.seq (.reg [⟨some 19, .mov (.t 0), none⟩, ⟨some 20, .nilc (.t 19), none⟩, ⟨some 21, .fadr 0 (.t 20), none⟩, ⟨some 22, .ld false 1 (.t 21), none⟩, ⟨some 23, .mov (.t 1), none⟩, ⟨some 24, .mov (.t 5), none⟩, ⟨some 25, .nilc (.t 24), none⟩, ⟨some 26, .fadr 1 (.t 25), none⟩, ⟨some 27, .ld false 1 (.t 26), none⟩, ⟨some 28, .iadr 1 (.t 22) (.t 23), none⟩, ⟨none, .st 1 (.t 28) (.t 27), none⟩]) (.seq (.seq (.reg [⟨some 29, .mov (.t 5), none⟩, ⟨some 30, .nilc (.t 29), none⟩, ⟨some 31, .fadr 3 (.t 30), none⟩, ⟨some 32, .ld false 1 (.t 31), none⟩, ⟨some 33, .len (.t 32), none⟩, ⟨some 34, .mov (.c (.int .i64 0)), none⟩]) (.block 0 (.loopK [0, 1, 32, 33, 34] l0_nest_matcher_endLoop))) (.keep [0] (.seq (.reg [⟨some 47, .mov (.t 0), none⟩, ⟨some 48, .mov (.t 0), none⟩, ⟨some 49, .nilc (.t 48), none⟩, ⟨some 50, .fadr 1 (.t 49), none⟩, ⟨some 51, .ld false 1 (.t 50), none⟩, ⟨some 52, .mov (.t 0), none⟩, ⟨some 53, .nilc (.t 52), none⟩, ⟨some 54, .fadr 1 (.t 53), none⟩, ⟨some 55, .ld false 1 (.t 54), none⟩, ⟨some 56, .len (.t 55), none⟩, ⟨some 57, .bin .sub (.t 56) (.c (.int .i64 1)), none⟩, ⟨some 58, .slc 4 (.t 51) none (some (.t 57)) none, none⟩, ⟨some 59, .nilc (.t 47), none⟩, ⟨some 60, .fadr 1 (.t 59), none⟩, ⟨none, .st 1 (.t 60) (.t 58), none⟩]) (.seq (.reg [⟨some 4, .mov (.c (.bool true)), none⟩]) (.ret))))))))
def l0_nest_matcher_leave : IC :=
  .seq (.seq (.reg [⟨some 12, .mov (.t 5), none⟩, ⟨some 13, .bin .geq (.t 12) (.c (.int .i64 0)), none⟩])
   (.cond (.t 13) (.skip) (.exit 0)))
  (.seq (.block 1 (.seq (.reg [⟨some 16, .mov (.t 0), none⟩, ⟨some 17, .nilc (.t 16), none⟩, ⟨some 18, .fadr 1 (.t 17), none⟩, ⟨some 19, .ld false 1 (.t 18), none⟩, ⟨some 20, .mov (.t 5), none⟩, ⟨some 21, .iadr 4 (.t 19) (.t 20), none⟩, ⟨some 22, .fadr 0 (.t 21), none⟩, ⟨some 23, .ld false 1 (.t 22), none⟩]) (.cond (.t 23) (.seq (.regW [⟨some 24, .mov (.t 0), none⟩, ⟨some 25, .nilc (.t 24), none⟩, ⟨some 26, .fadr 1 (.t 25), none⟩, ⟨some 27, .ld false 1 (.t 26), none⟩, ⟨some 28, .mov (.t 5), none⟩, ⟨some 29, .mov (.t 0), none⟩, ⟨some 30, .nilc (.t 29), none⟩, ⟨some 31, .fadr 1 (.t 30), none⟩, ⟨some 32, .ld false 1 (.t 31), none⟩, ⟨some 33, .mov (.t 5), none⟩, ⟨some 34, .iadr 4 (.t 32) (.t 33), none⟩, ⟨some 35, .fadr 3 (.t 34), none⟩, ⟨some 36, .ld false 1 (.t 35), none⟩, ⟨some 37, .mov (.t 1), none⟩, ⟨some 38, .bslice 1 [.int .i64 0] 1 [(0, 1, (.t 37))], none⟩, ⟨some 39, .app 1 8 (.t 36) (.t 38), none⟩, ⟨some 40, .iadr 4 (.t 27) (.t 28), none⟩, ⟨some 41, .fadr 3 (.t 40), none⟩, ⟨none, .st 1 (.t 41) (.t 39), none⟩] [(3, 15), (3, 18), (8, 15), (12, 15)]) (.seq (.reg [⟨some 4, .mov (.c (.bool true)), none⟩]) (.ret))) (.skip))))
   (.reg [⟨some 14, .mov (.t 5), none⟩, ⟨some 15, .bin .sub (.t 14) (.c (.int .i64 1)), none⟩, ⟨some 5, .mov (.t 15), none⟩]))
def f_nest_matcher_leave : IFun where
  nargs := 2
  results := [.tmp 4]
  pure := false
  frz := false
  drop := []
  body :=
   .seq (.reg [⟨some 4, .mov (.c (.bool false)), none⟩])
   (.seq (.seq (.reg [⟨some 6, .mov (.t 0), none⟩, ⟨some 7, .nilc (.t 6), none⟩, ⟨some 8, .fadr 1 (.t 7), none⟩, ⟨some 9, .ld false 1 (.t 8), none⟩, ⟨some 10, .len (.t 9), none⟩, ⟨some 11, .bin .sub (.t 10) (.c (.int .i64 1)), none⟩, ⟨some 5, .mov (.t 11), none⟩]) (.block 0 (.loopK [0, 1, 5] l0_nest_matcher_leave))) (.keep [] (.seq (.reg [⟨some 4, .mov (.c (.bool false)), none⟩]) (.ret))))
def f_check_judge_pop : IFun where
  nargs := 1
  results := [.cell 2 true 5]
  pure := false
  frz := false
  drop := []
  body :=
   .seq (.reg [⟨some 2, .alloc [.bool false, .bool false, .bool false, .int .i64 0, .int .i64 0], none⟩])
   (.seq (.regW [⟨some 4, .mov (.t 0), none⟩, ⟨some 5, .nilc (.t 4), none⟩, ⟨some 6, .fadr 4 (.t 5), none⟩, ⟨some 7, .ld false 1 (.t 6), none⟩, ⟨some 8, .mov (.t 0), none⟩, ⟨some 9, .nilc (.t 8), none⟩, ⟨some 10, .fadr 4 (.t 9), none⟩, ⟨some 11, .ld false 1 (.t 10), none⟩, ⟨some 12, .len (.t 11), none⟩, ⟨some 13, .bin .sub (.t 12) (.c (.int .i64 1)), none⟩, ⟨some 14, .iadr 5 (.t 7) (.t 13), none⟩, ⟨some 15, .ld true 5 (.t 14), none⟩, ⟨some 3, .alloc [.bool false, .bool false, .bool false, .int .i64 0, .int .i64 0], none⟩, ⟨none, .st 5 (.t 3) (.t 15), none⟩] [(3, 13), (7, 13), (11, 13)]) (.seq (.reg [⟨some 16, .mov (.t 0), none⟩, ⟨some 17, .mov (.t 0), none⟩, ⟨some 18, .nilc (.t 17), none⟩, ⟨some 19, .fadr 4 (.t 18), none⟩, ⟨some 20, .ld false 1 (.t 19), none⟩, ⟨some 21, .mov (.t 0), none⟩, ⟨some 22, .nilc (.t 21), none⟩, ⟨some 23, .fadr 4 (.t 22), none⟩, ⟨some 24, .ld false 1 (.t 23), none⟩, ⟨some 25, .len (.t 24), none⟩, ⟨some 26, .bin .sub (.t 25) (.c (.int .i64 1)), none⟩, ⟨some 27, .slc 5 (.t 20) none (some (.t 26)) none, none⟩, ⟨some 28, .nilc (.t 16), none⟩, ⟨some 29, .fadr 4 (.t 28), none⟩, ⟨none, .st 1 (.t 29) (.t 27), none⟩]) (.seq (.reg [⟨some 30, .ld true 5 (.t 3), none⟩, ⟨none, .st 5 (.t 2) (.t 30), none⟩]) (.ret))))
def f_nest_matcher_top : IFun where
  nargs := 1
  results := [.tmp 2]
  pure := false
  frz := false
  drop := []
  body :=
   .seq (.reg [⟨some 2, .mov (.c (.nilptr)), none⟩])
   (.seq (.seq (.reg [⟨some 3, .mov (.t 0), none⟩, ⟨some 4, .nilc (.t 3), none⟩, ⟨some 5, .fadr 1 (.t 4), none⟩, ⟨some 6, .ld false 1 (.t 5), none⟩, ⟨some 7, .len (.t 6), none⟩, ⟨some 8, .bin .eql (.t 7) (.c (.int .i64 0)), none⟩]) (.cond (.t 8) (.seq (.reg [⟨some 2, .mov (.c (.nilptr)), none⟩]) (.ret)) (.skip))) (.seq (.reg [⟨some 9, .mov (.t 0), none⟩, ⟨some 10, .nilc (.t 9), none⟩, ⟨some 11, .fadr 1 (.t 10), none⟩, ⟨some 12, .ld false 1 (.t 11), none⟩, ⟨some 13, .mov (.t 0), none⟩, ⟨some 14, .nilc (.t 13), none⟩, ⟨some 15, .fadr 1 (.t 14), none⟩, ⟨some 16, .ld false 1 (.t 15), none⟩, ⟨some 17, .len (.t 16), none⟩, ⟨some 18, .bin .sub (.t 17) (.c (.int .i64 1)), none⟩, ⟨some 19, .iadr 4 (.t 12) (.t 18), none⟩, ⟨some 2, .mov (.t 19), none⟩]) (.ret)))
end Go.Ev
namespace Go.Ev
open Go
def tbl : List (Nat × IFun) := [
  (n_engramtop_TopCopies, f_engramtop_TopCopies),
  (n_engramtop_TopSorts, f_engramtop_TopSorts),
  (n_engramtop_TopParts, f_engramtop_TopParts),
  (n_engramtop_TopNested, f_engramtop_TopNested),
  (n_engramtop_TopEvens, f_engramtop_TopEvens),
  (n_engramtop_TopReplies, f_engramtop_TopReplies),
  (n_engramtop_TopDoubles, f_engramtop_TopDoubles),
  (n_engramtop_TopFactorials, f_engramtop_TopFactorials),
  (n_engramtop_TopDigits, f_engramtop_TopDigits),
  (n_engramtop_TopRoots, f_engramtop_TopRoots),
  (n_engramtop_TopBytes, f_engramtop_TopBytes),
  (n_engramtop_says, f_engramtop_says),
  (n_engramtop_awake, f_engramtop_awake),
  (n_cells_New, f_cells_New),
  (n_cells_Memory_Store, f_cells_Memory_Store),
  (n_engine_Run, f_engine_Run),
  (n_reply_New, f_reply_New),
  (n_cells_Memory_Load, f_cells_Memory_Load),
  (n_engramtop_ends, f_engramtop_ends),
  (n_cells_may, f_cells_may),
  (n_cells_Of, f_cells_Of),
  (n_cells_Memory_within, f_cells_Memory_within),
  (n_unit_Right, f_unit_Right),
  (n_check_Find, f_check_Find),
  (n_reply_Row_Asks, f_reply_Row_Asks),
  (n_engine_codes, f_engine_codes),
  (n_engine_runner_call, f_engine_runner_call),
  (n_engine_runner_ends, f_engine_runner_ends),
  (n_engine_runner_step, f_engine_runner_step),
  (n_reply_Of, f_reply_Of),
  (n_engramtop_one, f_engramtop_one),
  (n_slices_Clone_byte_byte, f_slices_Clone_byte_byte),
  (n_unit_named, f_unit_named),
  (n_check_Func, f_check_Func),
  (n_slices_IndexFunc_api_Func_api_Func, f_slices_IndexFunc_api_Func_api_Func),
  (n_check_Find_1, f_check_Find_1),
  (n_slices_Clone_api_Ask_api_Ask, f_slices_Clone_api_Ask_api_Ask),
  (n_glyph_Tokens, f_glyph_Tokens),
  (n_nest_Of, f_nest_Of),
  (n_engine_frame_pop, f_engine_frame_pop),
  (n_engine_frame_push, f_engine_frame_push),
  (n_engine_runner_calls, f_engine_runner_calls),
  (n_strings_ContainsRune, f_strings_ContainsRune),
  (n_engine_runner_goes, f_engine_runner_goes),
  (n_engine_runner_memory, f_engine_runner_memory),
  (n_engine_runner_plain, f_engine_runner_plain),
  (n_reply_runes, f_reply_runes),
  (n_glyph_Name, f_glyph_Name),
  (n_check_judge_token, f_check_judge_token),
  (n_glyph_reader_rune, f_glyph_reader_rune),
  (n_glyph_reader_number, f_glyph_reader_number),
  (n_glyph_reader_waits, f_glyph_reader_waits),
  (n_nest_match, f_nest_match),
  (n_strings_IndexRune, f_strings_IndexRune),
  (n_engine_runner_stop, f_engine_runner_stop),
  (n_cells_Memory_Pages, f_cells_Memory_Pages),
  (n_cells_Memory_Grow, f_cells_Memory_Grow),
  (n_reply_Row_Ask, f_reply_Row_Ask),
  (n_word_Do, f_word_Do),
  (n_glyph_within, f_glyph_within),
  (n_utf8_ValidRune, f_utf8_ValidRune),
  (n_check_Takes, f_check_Takes),
  (n_check_judge_base, f_check_judge_base),
  (n_check_judge_turn, f_check_judge_turn),
  (n_glyph_Known, f_glyph_Known),
  (n_glyph_named, f_glyph_named),
  (n_nest_matcher_token, f_nest_matcher_token),
  (n_ibytealg_Cutover, f_ibytealg_Cutover),
  (n_word_parted, f_word_parted),
  (n_word_bit, f_word_bit),
  (n_check_Takes_1, f_check_Takes_1),
  (n_check_hasRune, f_check_hasRune),
  (n_check_judge_endIf, f_check_judge_endIf),
  (n_check_judge_endLoop, f_check_judge_endLoop),
  (n_check_judge_leave, f_check_judge_leave),
  (n_nest_matcher_begin, f_nest_matcher_begin),
  (n_nest_matcher_other, f_nest_matcher_other),
  (n_nest_matcher_endIf, f_nest_matcher_endIf),
  (n_nest_matcher_endLoop, f_nest_matcher_endLoop),
  (n_nest_matcher_leave, f_nest_matcher_leave),
  (n_check_judge_pop, f_check_judge_pop),
  (n_nest_matcher_top, f_nest_matcher_top)]
def Gl : Glob := fun g => if g == g_strconv_ErrRange || g == g_strconv_ErrSyntax then some [.ifc t_Perrors_errorString (.fptr [] 0)] else none
def tb (f : Nat) : Option IFun := match tbl.find? (fun x => x.1 == f) with | some x => some x.2 | none => none
def puP (f : Nat) : Bool := f == n_strconv_ParseInt || f == n_strings_IndexByte
def pu (f : Nat) : Bool := match tb f with | some F => F.pure | none => puP f
theorem tb_engramtop_TopCopies : tb n_engramtop_TopCopies = some f_engramtop_TopCopies := rfl
theorem tb_engramtop_TopSorts : tb n_engramtop_TopSorts = some f_engramtop_TopSorts := rfl
theorem tb_engramtop_TopParts : tb n_engramtop_TopParts = some f_engramtop_TopParts := rfl
theorem tb_engramtop_TopNested : tb n_engramtop_TopNested = some f_engramtop_TopNested := rfl
theorem tb_engramtop_TopEvens : tb n_engramtop_TopEvens = some f_engramtop_TopEvens := rfl
theorem tb_engramtop_TopReplies : tb n_engramtop_TopReplies = some f_engramtop_TopReplies := rfl
theorem tb_engramtop_TopDoubles : tb n_engramtop_TopDoubles = some f_engramtop_TopDoubles := rfl
theorem tb_engramtop_TopFactorials : tb n_engramtop_TopFactorials = some f_engramtop_TopFactorials := rfl
theorem tb_engramtop_TopDigits : tb n_engramtop_TopDigits = some f_engramtop_TopDigits := rfl
theorem tb_engramtop_TopRoots : tb n_engramtop_TopRoots = some f_engramtop_TopRoots := rfl
theorem tb_engramtop_TopBytes : tb n_engramtop_TopBytes = some f_engramtop_TopBytes := rfl
theorem tb_engramtop_says : tb n_engramtop_says = some f_engramtop_says := rfl
theorem tb_engramtop_awake : tb n_engramtop_awake = some f_engramtop_awake := rfl
theorem tb_cells_New : tb n_cells_New = some f_cells_New := rfl
theorem tb_cells_Memory_Store : tb n_cells_Memory_Store = some f_cells_Memory_Store := rfl
theorem tb_engine_Run : tb n_engine_Run = some f_engine_Run := rfl
theorem tb_reply_New : tb n_reply_New = some f_reply_New := rfl
theorem tb_cells_Memory_Load : tb n_cells_Memory_Load = some f_cells_Memory_Load := rfl
theorem tb_engramtop_ends : tb n_engramtop_ends = some f_engramtop_ends := rfl
theorem tb_cells_may : tb n_cells_may = some f_cells_may := rfl
theorem tb_cells_Of : tb n_cells_Of = some f_cells_Of := rfl
theorem tb_cells_Memory_within : tb n_cells_Memory_within = some f_cells_Memory_within := rfl
theorem tb_unit_Right : tb n_unit_Right = some f_unit_Right := rfl
theorem tb_check_Find : tb n_check_Find = some f_check_Find := rfl
theorem tb_reply_Row_Asks : tb n_reply_Row_Asks = some f_reply_Row_Asks := rfl
theorem tb_engine_codes : tb n_engine_codes = some f_engine_codes := rfl
theorem tb_engine_runner_call : tb n_engine_runner_call = some f_engine_runner_call := rfl
theorem tb_engine_runner_ends : tb n_engine_runner_ends = some f_engine_runner_ends := rfl
theorem tb_engine_runner_step : tb n_engine_runner_step = some f_engine_runner_step := rfl
theorem tb_reply_Of : tb n_reply_Of = some f_reply_Of := rfl
theorem tb_engramtop_one : tb n_engramtop_one = some f_engramtop_one := rfl
theorem tb_slices_Clone_byte_byte : tb n_slices_Clone_byte_byte = some f_slices_Clone_byte_byte := rfl
theorem tb_unit_named : tb n_unit_named = some f_unit_named := rfl
theorem tb_check_Func : tb n_check_Func = some f_check_Func := rfl
theorem tb_slices_IndexFunc_api_Func_api_Func : tb n_slices_IndexFunc_api_Func_api_Func = some f_slices_IndexFunc_api_Func_api_Func := rfl
theorem tb_check_Find_1 : tb n_check_Find_1 = some f_check_Find_1 := rfl
theorem tb_slices_Clone_api_Ask_api_Ask : tb n_slices_Clone_api_Ask_api_Ask = some f_slices_Clone_api_Ask_api_Ask := rfl
theorem tb_glyph_Tokens : tb n_glyph_Tokens = some f_glyph_Tokens := rfl
theorem tb_nest_Of : tb n_nest_Of = some f_nest_Of := rfl
theorem tb_engine_frame_pop : tb n_engine_frame_pop = some f_engine_frame_pop := rfl
theorem tb_engine_frame_push : tb n_engine_frame_push = some f_engine_frame_push := rfl
theorem tb_engine_runner_calls : tb n_engine_runner_calls = some f_engine_runner_calls := rfl
theorem tb_strings_ContainsRune : tb n_strings_ContainsRune = some f_strings_ContainsRune := rfl
theorem tb_engine_runner_goes : tb n_engine_runner_goes = some f_engine_runner_goes := rfl
theorem tb_engine_runner_memory : tb n_engine_runner_memory = some f_engine_runner_memory := rfl
theorem tb_engine_runner_plain : tb n_engine_runner_plain = some f_engine_runner_plain := rfl
theorem tb_glyph_Name : tb n_glyph_Name = some f_glyph_Name := rfl
theorem tb_check_judge_token : tb n_check_judge_token = some f_check_judge_token := rfl
theorem tb_glyph_reader_rune : tb n_glyph_reader_rune = some f_glyph_reader_rune := rfl
theorem tb_glyph_reader_number : tb n_glyph_reader_number = some f_glyph_reader_number := rfl
theorem tb_glyph_reader_waits : tb n_glyph_reader_waits = some f_glyph_reader_waits := rfl
theorem tb_nest_match : tb n_nest_match = some f_nest_match := rfl
theorem tb_strings_IndexRune : tb n_strings_IndexRune = some f_strings_IndexRune := rfl
theorem tb_engine_runner_stop : tb n_engine_runner_stop = some f_engine_runner_stop := rfl
theorem tb_cells_Memory_Pages : tb n_cells_Memory_Pages = some f_cells_Memory_Pages := rfl
theorem tb_cells_Memory_Grow : tb n_cells_Memory_Grow = some f_cells_Memory_Grow := rfl
theorem tb_reply_Row_Ask : tb n_reply_Row_Ask = some f_reply_Row_Ask := rfl
theorem tb_word_Do : tb n_word_Do = some f_word_Do := rfl
theorem tb_glyph_within : tb n_glyph_within = some f_glyph_within := rfl
theorem tb_utf8_ValidRune : tb n_utf8_ValidRune = some f_utf8_ValidRune := rfl
theorem tb_check_Takes : tb n_check_Takes = some f_check_Takes := rfl
theorem tb_check_judge_base : tb n_check_judge_base = some f_check_judge_base := rfl
theorem tb_check_judge_turn : tb n_check_judge_turn = some f_check_judge_turn := rfl
theorem tb_glyph_Known : tb n_glyph_Known = some f_glyph_Known := rfl
theorem tb_glyph_named : tb n_glyph_named = some f_glyph_named := rfl
theorem tb_nest_matcher_token : tb n_nest_matcher_token = some f_nest_matcher_token := rfl
theorem tb_word_parted : tb n_word_parted = some f_word_parted := rfl
theorem tb_word_bit : tb n_word_bit = some f_word_bit := rfl
theorem tb_check_Takes_1 : tb n_check_Takes_1 = some f_check_Takes_1 := rfl
theorem tb_check_hasRune : tb n_check_hasRune = some f_check_hasRune := rfl
theorem tb_check_judge_endIf : tb n_check_judge_endIf = some f_check_judge_endIf := rfl
theorem tb_check_judge_endLoop : tb n_check_judge_endLoop = some f_check_judge_endLoop := rfl
theorem tb_check_judge_leave : tb n_check_judge_leave = some f_check_judge_leave := rfl
theorem tb_nest_matcher_begin : tb n_nest_matcher_begin = some f_nest_matcher_begin := rfl
theorem tb_nest_matcher_other : tb n_nest_matcher_other = some f_nest_matcher_other := rfl
theorem tb_nest_matcher_endIf : tb n_nest_matcher_endIf = some f_nest_matcher_endIf := rfl
theorem tb_nest_matcher_endLoop : tb n_nest_matcher_endLoop = some f_nest_matcher_endLoop := rfl
theorem tb_nest_matcher_leave : tb n_nest_matcher_leave = some f_nest_matcher_leave := rfl
theorem tb_check_judge_pop : tb n_check_judge_pop = some f_check_judge_pop := rfl
theorem tb_nest_matcher_top : tb n_nest_matcher_top = some f_nest_matcher_top := rfl
theorem tb_strconv_ParseInt : tb n_strconv_ParseInt = none := rfl
theorem tb_strings_IndexByte : tb n_strings_IndexByte = none := rfl
end Go.Ev
namespace Go.Ev
open Go Go.Proofs
theorem ok_engramtop_TopCopies : FunOk Tryz.prog Gl pu n_engramtop_TopCopies f_engramtop_TopCopies := .of Tryz.func3 (by kernel_rfl) (by kernel_rfl) (by kernel_rfl) (by kernel_rfl)
theorem ok_engramtop_TopSorts : FunOk Tryz.prog Gl pu n_engramtop_TopSorts f_engramtop_TopSorts := .of Tryz.func4 (by kernel_rfl) (by kernel_rfl) (by kernel_rfl) (by kernel_rfl)
theorem ok_engramtop_TopParts : FunOk Tryz.prog Gl pu n_engramtop_TopParts f_engramtop_TopParts := .of Tryz.func5 (by kernel_rfl) (by kernel_rfl) (by kernel_rfl) (by kernel_rfl)
theorem ok_engramtop_TopNested : FunOk Tryz.prog Gl pu n_engramtop_TopNested f_engramtop_TopNested := .of Tryz.func6 (by kernel_rfl) (by kernel_rfl) (by kernel_rfl) (by kernel_rfl)
theorem ok_engramtop_TopEvens : FunOk Tryz.prog Gl pu n_engramtop_TopEvens f_engramtop_TopEvens := .of Tryz.func7 (by kernel_rfl) (by kernel_rfl) (by kernel_rfl) (by kernel_rfl)
theorem ok_engramtop_TopReplies : FunOk Tryz.prog Gl pu n_engramtop_TopReplies f_engramtop_TopReplies := .of Tryz.func8 (by kernel_rfl) (by kernel_rfl) (by kernel_rfl) (by kernel_rfl)
theorem ok_engramtop_TopDoubles : FunOk Tryz.prog Gl pu n_engramtop_TopDoubles f_engramtop_TopDoubles := .of Tryz.func9 (by kernel_rfl) (by kernel_rfl) (by kernel_rfl) (by kernel_rfl)
theorem ok_engramtop_TopFactorials : FunOk Tryz.prog Gl pu n_engramtop_TopFactorials f_engramtop_TopFactorials := .of Tryz.func10 (by kernel_rfl) (by kernel_rfl) (by kernel_rfl) (by kernel_rfl)
theorem ok_engramtop_TopDigits : FunOk Tryz.prog Gl pu n_engramtop_TopDigits f_engramtop_TopDigits := .of Tryz.func11 (by kernel_rfl) (by kernel_rfl) (by kernel_rfl) (by kernel_rfl)
theorem ok_engramtop_TopRoots : FunOk Tryz.prog Gl pu n_engramtop_TopRoots f_engramtop_TopRoots := .of Tryz.func12 (by kernel_rfl) (by kernel_rfl) (by kernel_rfl) (by kernel_rfl)
theorem ok_engramtop_TopBytes : FunOk Tryz.prog Gl pu n_engramtop_TopBytes f_engramtop_TopBytes := .of Tryz.func13 (by kernel_rfl) (by kernel_rfl) (by kernel_rfl) (by kernel_rfl)
theorem ok_engramtop_says : FunOk Tryz.prog Gl pu n_engramtop_says f_engramtop_says := .of Tryz.func14 (by kernel_rfl) (by kernel_rfl) (by kernel_rfl) (by kernel_rfl)
theorem ok_engramtop_awake : FunOk Tryz.prog Gl pu n_engramtop_awake f_engramtop_awake := .of Tryz.func15 (by kernel_rfl) (by kernel_rfl) (by kernel_rfl) (by kernel_rfl)
theorem ok_cells_New : FunOk Tryz.prog Gl pu n_cells_New f_cells_New := .of Tryz.func16 (by kernel_rfl) (by kernel_rfl) (by kernel_rfl) (by kernel_rfl)
theorem ok_cells_Memory_Store : FunOk Tryz.prog Gl pu n_cells_Memory_Store f_cells_Memory_Store := .of Tryz.func17 (by kernel_rfl) (by kernel_rfl) (by kernel_rfl) (by kernel_rfl)
theorem ok_engine_Run : FunOk Tryz.prog Gl pu n_engine_Run f_engine_Run := .of Tryz.func18 (by kernel_rfl) (by kernel_rfl) (by kernel_rfl) (by kernel_rfl)
theorem ok_reply_New : FunOk Tryz.prog Gl pu n_reply_New f_reply_New := .of Tryz.func19 (by kernel_rfl) (by kernel_rfl) (by kernel_rfl) (by kernel_rfl)
theorem ok_cells_Memory_Load : FunOk Tryz.prog Gl pu n_cells_Memory_Load f_cells_Memory_Load := .of Tryz.func20 (by kernel_rfl) (by kernel_rfl) (by kernel_rfl) (by kernel_rfl)
theorem ok_engramtop_ends : FunOk Tryz.prog Gl pu n_engramtop_ends f_engramtop_ends := .of Tryz.func21 (by kernel_rfl) (by kernel_rfl) (by kernel_rfl) (by kernel_rfl)
theorem ok_cells_may : FunOk Tryz.prog Gl pu n_cells_may f_cells_may := .of Tryz.func22 (by kernel_rfl) (by kernel_rfl) (by kernel_rfl) (by kernel_rfl)
theorem ok_cells_Of : FunOk Tryz.prog Gl pu n_cells_Of f_cells_Of := .of Tryz.func23 (by kernel_rfl) (by kernel_rfl) (by kernel_rfl) (by kernel_rfl)
theorem ok_cells_Memory_within : FunOk Tryz.prog Gl pu n_cells_Memory_within f_cells_Memory_within := .of Tryz.func24 (by kernel_rfl) (by kernel_rfl) (by kernel_rfl) (by kernel_rfl)
theorem ok_unit_Right : FunOk Tryz.prog Gl pu n_unit_Right f_unit_Right := .of Tryz.func25 (by kernel_rfl) (by kernel_rfl) (by kernel_rfl) (by kernel_rfl)
theorem ok_check_Find : FunOk Tryz.prog Gl pu n_check_Find f_check_Find := .of Tryz.func26 (by kernel_rfl) (by kernel_rfl) (by kernel_rfl) (by kernel_rfl)
theorem ok_reply_Row_Asks : FunOk Tryz.prog Gl pu n_reply_Row_Asks f_reply_Row_Asks := .of Tryz.func27 (by kernel_rfl) (by kernel_rfl) (by kernel_rfl) (by kernel_rfl)
theorem ok_engine_codes : FunOk Tryz.prog Gl pu n_engine_codes f_engine_codes := .of Tryz.func28 (by kernel_rfl) (by kernel_rfl) (by kernel_rfl) (by kernel_rfl)
theorem ok_engine_runner_call : FunOk Tryz.prog Gl pu n_engine_runner_call f_engine_runner_call := .of Tryz.func29 (by kernel_rfl) (by kernel_rfl) (by kernel_rfl) (by kernel_rfl)
theorem ok_engine_runner_ends : FunOk Tryz.prog Gl pu n_engine_runner_ends f_engine_runner_ends := .of Tryz.func30 (by kernel_rfl) (by kernel_rfl) (by kernel_rfl) (by kernel_rfl)
theorem ok_engine_runner_step : FunOk Tryz.prog Gl pu n_engine_runner_step f_engine_runner_step := .of Tryz.func31 (by kernel_rfl) (by kernel_rfl) (by kernel_rfl) (by kernel_rfl)
theorem ok_reply_Of : FunOk Tryz.prog Gl pu n_reply_Of f_reply_Of := .of Tryz.func32 (by kernel_rfl) (by kernel_rfl) (by kernel_rfl) (by kernel_rfl)
theorem ok_engramtop_one : FunOk Tryz.prog Gl pu n_engramtop_one f_engramtop_one := .of Tryz.func33 (by kernel_rfl) (by kernel_rfl) (by kernel_rfl) (by kernel_rfl)
theorem ok_slices_Clone_byte_byte : FunOk Tryz.prog Gl pu n_slices_Clone_byte_byte f_slices_Clone_byte_byte := .of Tryz.func34 (by kernel_rfl) (by kernel_rfl) (by kernel_rfl) (by kernel_rfl)
theorem ok_unit_named : FunOk Tryz.prog Gl pu n_unit_named f_unit_named := .of Tryz.func35 (by kernel_rfl) (by kernel_rfl) (by kernel_rfl) (by kernel_rfl)
theorem ok_check_Func : FunOk Tryz.prog Gl pu n_check_Func f_check_Func := .of Tryz.func36 (by kernel_rfl) (by kernel_rfl) (by kernel_rfl) (by kernel_rfl)
theorem ok_slices_IndexFunc_api_Func_api_Func : FunOk Tryz.prog Gl pu n_slices_IndexFunc_api_Func_api_Func f_slices_IndexFunc_api_Func_api_Func := .of Tryz.func37 (by kernel_rfl) (by kernel_rfl) (by kernel_rfl) (by kernel_rfl)
theorem ok_check_Find_1 : FunOk Tryz.prog Gl pu n_check_Find_1 f_check_Find_1 := .of Tryz.func38 (by kernel_rfl) (by kernel_rfl) (by kernel_rfl) (by kernel_rfl)
theorem ok_slices_Clone_api_Ask_api_Ask : FunOk Tryz.prog Gl pu n_slices_Clone_api_Ask_api_Ask f_slices_Clone_api_Ask_api_Ask := .of Tryz.func39 (by kernel_rfl) (by kernel_rfl) (by kernel_rfl) (by kernel_rfl)
theorem ok_glyph_Tokens : FunOk Tryz.prog Gl pu n_glyph_Tokens f_glyph_Tokens := .of Tryz.func40 (by kernel_rfl) (by kernel_rfl) (by kernel_rfl) (by kernel_rfl)
theorem ok_nest_Of : FunOk Tryz.prog Gl pu n_nest_Of f_nest_Of := .of Tryz.func41 (by kernel_rfl) (by kernel_rfl) (by kernel_rfl) (by kernel_rfl)
theorem ok_engine_frame_pop : FunOk Tryz.prog Gl pu n_engine_frame_pop f_engine_frame_pop := .of Tryz.func42 (by kernel_rfl) (by kernel_rfl) (by kernel_rfl) (by kernel_rfl)
theorem ok_engine_frame_push : FunOk Tryz.prog Gl pu n_engine_frame_push f_engine_frame_push := .of Tryz.func43 (by kernel_rfl) (by kernel_rfl) (by kernel_rfl) (by kernel_rfl)
theorem ok_engine_runner_calls : FunOk Tryz.prog Gl pu n_engine_runner_calls f_engine_runner_calls := .of Tryz.func44 (by kernel_rfl) (by kernel_rfl) (by kernel_rfl) (by kernel_rfl)
theorem ok_strings_ContainsRune : FunOk Tryz.prog Gl pu n_strings_ContainsRune f_strings_ContainsRune := .of Tryz.func45 (by kernel_rfl) (by kernel_rfl) (by kernel_rfl) (by kernel_rfl)
theorem ok_engine_runner_goes : FunOk Tryz.prog Gl pu n_engine_runner_goes f_engine_runner_goes := .of Tryz.func46 (by kernel_rfl) (by kernel_rfl) (by kernel_rfl) (by kernel_rfl)
theorem ok_engine_runner_memory : FunOk Tryz.prog Gl pu n_engine_runner_memory f_engine_runner_memory := .of Tryz.func47 (by kernel_rfl) (by kernel_rfl) (by kernel_rfl) (by kernel_rfl)
theorem ok_engine_runner_plain : FunOk Tryz.prog Gl pu n_engine_runner_plain f_engine_runner_plain := .of Tryz.func48 (by kernel_rfl) (by kernel_rfl) (by kernel_rfl) (by kernel_rfl)
theorem ok_reply_runes : FunOk Tryz.prog Gl pu n_reply_runes f_reply_runes := .of Tryz.func49 (by kernel_rfl) (by kernel_rfl) (by kernel_rfl) (by kernel_rfl)
theorem ok_glyph_Name : FunOk Tryz.prog Gl pu n_glyph_Name f_glyph_Name := .of Tryz.func50 (by kernel_rfl) (by kernel_rfl) (by kernel_rfl) (by kernel_rfl)
theorem ok_check_judge_token : FunOk Tryz.prog Gl pu n_check_judge_token f_check_judge_token := .of Tryz.func51 (by kernel_rfl) (by kernel_rfl) (by kernel_rfl) (by kernel_rfl)
theorem ok_glyph_reader_rune : FunOk Tryz.prog Gl pu n_glyph_reader_rune f_glyph_reader_rune := .of Tryz.func52 (by kernel_rfl) (by kernel_rfl) (by kernel_rfl) (by kernel_rfl)
theorem ok_glyph_reader_number : FunOk Tryz.prog Gl pu n_glyph_reader_number f_glyph_reader_number := .of Tryz.func53 (by kernel_rfl) (by kernel_rfl) (by kernel_rfl) (by kernel_rfl)
theorem ok_glyph_reader_waits : FunOk Tryz.prog Gl pu n_glyph_reader_waits f_glyph_reader_waits := .of Tryz.func54 (by kernel_rfl) (by kernel_rfl) (by kernel_rfl) (by kernel_rfl)
theorem ok_nest_match : FunOk Tryz.prog Gl pu n_nest_match f_nest_match := .of Tryz.func55 (by kernel_rfl) (by kernel_rfl) (by kernel_rfl) (by kernel_rfl)
theorem ok_strings_IndexRune : FunOk Tryz.prog Gl pu n_strings_IndexRune f_strings_IndexRune := .of Tryz.func56 (by kernel_rfl) (by kernel_rfl) (by kernel_rfl) (by kernel_rfl)
theorem ok_engine_runner_stop : FunOk Tryz.prog Gl pu n_engine_runner_stop f_engine_runner_stop := .of Tryz.func57 (by kernel_rfl) (by kernel_rfl) (by kernel_rfl) (by kernel_rfl)
theorem ok_cells_Memory_Pages : FunOk Tryz.prog Gl pu n_cells_Memory_Pages f_cells_Memory_Pages := .of Tryz.func58 (by kernel_rfl) (by kernel_rfl) (by kernel_rfl) (by kernel_rfl)
theorem ok_cells_Memory_Grow : FunOk Tryz.prog Gl pu n_cells_Memory_Grow f_cells_Memory_Grow := .of Tryz.func59 (by kernel_rfl) (by kernel_rfl) (by kernel_rfl) (by kernel_rfl)
theorem ok_reply_Row_Ask : FunOk Tryz.prog Gl pu n_reply_Row_Ask f_reply_Row_Ask := .of Tryz.func60 (by kernel_rfl) (by kernel_rfl) (by kernel_rfl) (by kernel_rfl)
theorem ok_word_Do : FunOk Tryz.prog Gl pu n_word_Do f_word_Do := .of Tryz.func61 (by kernel_rfl) (by kernel_rfl) (by kernel_rfl) (by kernel_rfl)
theorem ok_glyph_within : FunOk Tryz.prog Gl pu n_glyph_within f_glyph_within := .of Tryz.func62 (by kernel_rfl) (by kernel_rfl) (by kernel_rfl) (by kernel_rfl)
theorem ok_utf8_ValidRune : FunOk Tryz.prog Gl pu n_utf8_ValidRune f_utf8_ValidRune := .of Tryz.func63 (by kernel_rfl) (by kernel_rfl) (by kernel_rfl) (by kernel_rfl)
theorem ok_check_Takes : FunOk Tryz.prog Gl pu n_check_Takes f_check_Takes := .of Tryz.func64 (by kernel_rfl) (by kernel_rfl) (by kernel_rfl) (by kernel_rfl)
theorem ok_check_judge_base : FunOk Tryz.prog Gl pu n_check_judge_base f_check_judge_base := .of Tryz.func65 (by kernel_rfl) (by kernel_rfl) (by kernel_rfl) (by kernel_rfl)
theorem ok_check_judge_turn : FunOk Tryz.prog Gl pu n_check_judge_turn f_check_judge_turn := .of Tryz.func66 (by kernel_rfl) (by kernel_rfl) (by kernel_rfl) (by kernel_rfl)
theorem ok_glyph_Known : FunOk Tryz.prog Gl pu n_glyph_Known f_glyph_Known := .of Tryz.func67 (by kernel_rfl) (by kernel_rfl) (by kernel_rfl) (by kernel_rfl)
theorem ok_glyph_named : FunOk Tryz.prog Gl pu n_glyph_named f_glyph_named := .of Tryz.func69 (by kernel_rfl) (by kernel_rfl) (by kernel_rfl) (by kernel_rfl)
theorem ok_nest_matcher_token : FunOk Tryz.prog Gl pu n_nest_matcher_token f_nest_matcher_token := .of Tryz.func70 (by kernel_rfl) (by kernel_rfl) (by kernel_rfl) (by kernel_rfl)
theorem ok_ibytealg_Cutover : FunOk Tryz.prog Gl pu n_ibytealg_Cutover f_ibytealg_Cutover := .of Tryz.func72 (by kernel_rfl) (by kernel_rfl) (by kernel_rfl) (by kernel_rfl)
theorem ok_word_parted : FunOk Tryz.prog Gl pu n_word_parted f_word_parted := .of Tryz.func74 (by kernel_rfl) (by kernel_rfl) (by kernel_rfl) (by kernel_rfl)
theorem ok_word_bit : FunOk Tryz.prog Gl pu n_word_bit f_word_bit := .of Tryz.func75 (by kernel_rfl) (by kernel_rfl) (by kernel_rfl) (by kernel_rfl)
theorem ok_check_Takes_1 : FunOk Tryz.prog Gl pu n_check_Takes_1 f_check_Takes_1 := .of Tryz.func76 (by kernel_rfl) (by kernel_rfl) (by kernel_rfl) (by kernel_rfl)
theorem ok_check_hasRune : FunOk Tryz.prog Gl pu n_check_hasRune f_check_hasRune := .of Tryz.func77 (by kernel_rfl) (by kernel_rfl) (by kernel_rfl) (by kernel_rfl)
theorem ok_check_judge_endIf : FunOk Tryz.prog Gl pu n_check_judge_endIf f_check_judge_endIf := .of Tryz.func78 (by kernel_rfl) (by kernel_rfl) (by kernel_rfl) (by kernel_rfl)
theorem ok_check_judge_endLoop : FunOk Tryz.prog Gl pu n_check_judge_endLoop f_check_judge_endLoop := .of Tryz.func79 (by kernel_rfl) (by kernel_rfl) (by kernel_rfl) (by kernel_rfl)
theorem ok_check_judge_leave : FunOk Tryz.prog Gl pu n_check_judge_leave f_check_judge_leave := .of Tryz.func80 (by kernel_rfl) (by kernel_rfl) (by kernel_rfl) (by kernel_rfl)
theorem ok_nest_matcher_begin : FunOk Tryz.prog Gl pu n_nest_matcher_begin f_nest_matcher_begin := .of Tryz.func83 (by kernel_rfl) (by kernel_rfl) (by kernel_rfl) (by kernel_rfl)
theorem ok_nest_matcher_other : FunOk Tryz.prog Gl pu n_nest_matcher_other f_nest_matcher_other := .of Tryz.func84 (by kernel_rfl) (by kernel_rfl) (by kernel_rfl) (by kernel_rfl)
theorem ok_nest_matcher_endIf : FunOk Tryz.prog Gl pu n_nest_matcher_endIf f_nest_matcher_endIf := .of Tryz.func85 (by kernel_rfl) (by kernel_rfl) (by kernel_rfl) (by kernel_rfl)
theorem ok_nest_matcher_endLoop : FunOk Tryz.prog Gl pu n_nest_matcher_endLoop f_nest_matcher_endLoop := .of Tryz.func86 (by kernel_rfl) (by kernel_rfl) (by kernel_rfl) (by kernel_rfl)
theorem ok_nest_matcher_leave : FunOk Tryz.prog Gl pu n_nest_matcher_leave f_nest_matcher_leave := .of Tryz.func87 (by kernel_rfl) (by kernel_rfl) (by kernel_rfl) (by kernel_rfl)
theorem ok_check_judge_pop : FunOk Tryz.prog Gl pu n_check_judge_pop f_check_judge_pop := .of Tryz.func89 (by kernel_rfl) (by kernel_rfl) (by kernel_rfl) (by kernel_rfl)
theorem ok_nest_matcher_top : FunOk Tryz.prog Gl pu n_nest_matcher_top f_nest_matcher_top := .of Tryz.func95 (by kernel_rfl) (by kernel_rfl) (by kernel_rfl) (by kernel_rfl)
theorem ok_all : ∀ x ∈ tbl, FunOk Tryz.prog Gl pu x.1 x.2 := by
  intro x hx
  simp only [tbl, List.mem_cons, List.not_mem_nil, or_false] at hx
  rcases hx with rfl | rfl | rfl | rfl | rfl | rfl | rfl | rfl | rfl | rfl | rfl | rfl | rfl | rfl | rfl | rfl | rfl | rfl | rfl | rfl | rfl | rfl | rfl | rfl | rfl | rfl | rfl | rfl | rfl | rfl | rfl | rfl | rfl | rfl | rfl | rfl | rfl | rfl | rfl | rfl | rfl | rfl | rfl | rfl | rfl | rfl | rfl | rfl | rfl | rfl | rfl | rfl | rfl | rfl | rfl | rfl | rfl | rfl | rfl | rfl | rfl | rfl | rfl | rfl | rfl | rfl | rfl | rfl | rfl | rfl | rfl | rfl | rfl | rfl | rfl | rfl | rfl | rfl | rfl | rfl | rfl | rfl
  · exact ok_engramtop_TopCopies
  · exact ok_engramtop_TopSorts
  · exact ok_engramtop_TopParts
  · exact ok_engramtop_TopNested
  · exact ok_engramtop_TopEvens
  · exact ok_engramtop_TopReplies
  · exact ok_engramtop_TopDoubles
  · exact ok_engramtop_TopFactorials
  · exact ok_engramtop_TopDigits
  · exact ok_engramtop_TopRoots
  · exact ok_engramtop_TopBytes
  · exact ok_engramtop_says
  · exact ok_engramtop_awake
  · exact ok_cells_New
  · exact ok_cells_Memory_Store
  · exact ok_engine_Run
  · exact ok_reply_New
  · exact ok_cells_Memory_Load
  · exact ok_engramtop_ends
  · exact ok_cells_may
  · exact ok_cells_Of
  · exact ok_cells_Memory_within
  · exact ok_unit_Right
  · exact ok_check_Find
  · exact ok_reply_Row_Asks
  · exact ok_engine_codes
  · exact ok_engine_runner_call
  · exact ok_engine_runner_ends
  · exact ok_engine_runner_step
  · exact ok_reply_Of
  · exact ok_engramtop_one
  · exact ok_slices_Clone_byte_byte
  · exact ok_unit_named
  · exact ok_check_Func
  · exact ok_slices_IndexFunc_api_Func_api_Func
  · exact ok_check_Find_1
  · exact ok_slices_Clone_api_Ask_api_Ask
  · exact ok_glyph_Tokens
  · exact ok_nest_Of
  · exact ok_engine_frame_pop
  · exact ok_engine_frame_push
  · exact ok_engine_runner_calls
  · exact ok_strings_ContainsRune
  · exact ok_engine_runner_goes
  · exact ok_engine_runner_memory
  · exact ok_engine_runner_plain
  · exact ok_reply_runes
  · exact ok_glyph_Name
  · exact ok_check_judge_token
  · exact ok_glyph_reader_rune
  · exact ok_glyph_reader_number
  · exact ok_glyph_reader_waits
  · exact ok_nest_match
  · exact ok_strings_IndexRune
  · exact ok_engine_runner_stop
  · exact ok_cells_Memory_Pages
  · exact ok_cells_Memory_Grow
  · exact ok_reply_Row_Ask
  · exact ok_word_Do
  · exact ok_glyph_within
  · exact ok_utf8_ValidRune
  · exact ok_check_Takes
  · exact ok_check_judge_base
  · exact ok_check_judge_turn
  · exact ok_glyph_Known
  · exact ok_glyph_named
  · exact ok_nest_matcher_token
  · exact ok_ibytealg_Cutover
  · exact ok_word_parted
  · exact ok_word_bit
  · exact ok_check_Takes_1
  · exact ok_check_hasRune
  · exact ok_check_judge_endIf
  · exact ok_check_judge_endLoop
  · exact ok_check_judge_leave
  · exact ok_nest_matcher_begin
  · exact ok_nest_matcher_other
  · exact ok_nest_matcher_endIf
  · exact ok_nest_matcher_endLoop
  · exact ok_nest_matcher_leave
  · exact ok_check_judge_pop
  · exact ok_nest_matcher_top
end Go.Ev
namespace Go.Ev
open Go
noncomputable def prInt (s : ByteArray) : AV := match Lib.parseIntB 64 s.data.toList with
  | .ok v => .tup [.int .i64 v, .nilifc]
  | .range => .tup [.int .i64 (Lib.intSat 64 s.data.toList), .ifc t_Pstrconv_NumError (.fptr [] 0)]
  | _ => .tup [.int .i64 0, .ifc t_Pstrconv_NumError (.fptr [] 0)]
noncomputable def prim : Oracle := fun f args _ h => if f = n_strconv_ParseInt then (match args with
  | [.str s, .int .i64 b, .int .i64 z] => if b = 10 ∧ z = 64 ∧ s.size ≤ 281474976710656 then some (prInt s, h) else none
  | _ => none) else if f = n_strings_IndexByte then (match args with
  | [.str s, .int .u8 b] => some (.int .i64 (Lib.indexByte s.data.toList b.toNat.toUInt8), h)
  | _ => none) else none
theorem strconv_ParseInt_ok {bar : Nat} {h : H} (s : ByteArray) (hs : s.size ≤ 281474976710656) : call tb prim n_strconv_ParseInt [.str s, .int .i64 10, .int .i64 64] bar h = some (prInt s, h) :=
  call_prim tb_strconv_ParseInt (by simp [prim, hs])
theorem strings_IndexByte_ok {bar : Nat} {h : H} (s : ByteArray) (b : Int) : call tb prim n_strings_IndexByte [.str s, .int .u8 b] bar h = some (.int .i64 (Lib.indexByte s.data.toList b.toNat.toUInt8), h) :=
  call_prim tb_strings_IndexByte (by
    have : ¬ n_strings_IndexByte = n_strconv_ParseInt := by decide
    simp [prim, this])
end Go.Ev
namespace Go.Ev
open Go
section
variable {pr : Oracle} {bar : Nat} {h : H}
theorem glyph_within_ok (r a b : Int) : call tb pr n_glyph_within [.int .i32 r, .int .i32 a, .int .i32 b] bar h = some (.bool (decide (a ≤ r ∧ r ≤ b)), h) := by
  refine call_of tb_glyph_within (callF_pureW rfl rfl (M_in ?_))
  simp [f_glyph_within, env0, go_sem, endP, endI, resultsA, resultA, freezeL, freezeV, AV.free.freeL, AV.free, packA, dropS]
  repeat' (refine G_bool (fun hb => ?_) (fun hb => ?_) <;> simp [go_sem, endP, endI, resultsA, resultA, freezeL, freezeV, AV.free.freeL, AV.free, packA, dropS, *])
theorem glyph_named_ok (r : Int) : call tb pr n_glyph_named [.int .i32 r] bar h = some (.bool (decide (r = 955 ∨ r = 960)), h) := by
  refine call_of tb_glyph_named (callF_pureW rfl rfl (M_in ?_))
  simp [f_glyph_named, env0, go_sem, endP, endI, resultsA, resultA, freezeL, freezeV, AV.free.freeL, AV.free, packA, dropS]
  repeat' (refine G_bool (fun hb => ?_) (fun hb => ?_) <;> simp [go_sem, endP, endI, resultsA, resultA, freezeL, freezeV, AV.free.freeL, AV.free, packA, dropS, *])
  · simp_all
  · simp at hb; rw [Bool.eq_iff_iff]; simp [hb]
def validR (r : Int) : Bool := decide (0 ≤ r ∧ r < 55296 ∨ 57343 < r ∧ r ≤ 1114111)
theorem utf8_ValidRune_ok (r : Int) : call tb pr n_utf8_ValidRune [.int .i32 r] bar h = some (.bool (validR r), h) := by
  refine call_of tb_utf8_ValidRune (callF_pureW rfl rfl (M_in ?_))
  simp [f_utf8_ValidRune, env0, go_sem, endP, endI, resultsA, resultA, freezeL, freezeV, AV.free.freeL, AV.free, packA, dropS]
  repeat' (first | refine G_bool (fun hb => ?_) (fun hb => ?_) <;> simp [go_sem, endP, endI, resultsA, resultA, freezeL, freezeV, AV.free.freeL, AV.free, packA, dropS, *] | refine C_bool (fun hb => ?_) (fun hb => ?_) <;> simp [go_sem, endP, endI, resultsA, resultA, freezeL, freezeV, AV.free.freeL, AV.free, packA, dropS, *])
  all_goals (simp at *; simp [validR]; omega)
def nameR (r : Int) : Bool := decide (97 ≤ r ∧ r ≤ 122 ∨ r > 255 ∧ (r < 55296 ∨ 57343 < r) ∧ r ≤ 1114111 ∧ r ≠ 65533)
theorem glyph_Name_ok (r : Int) : call tb pr n_glyph_Name [.int .i32 r] bar h = some (.bool (nameR r), h) := by
  refine call_of tb_glyph_Name (callF_pureW rfl rfl (M_in ?_))
  simp [f_glyph_Name, env0, go_sem, endP, endI, resultsA, resultA, freezeL, freezeV, AV.free.freeL, AV.free, packA, dropS, utf8_ValidRune_ok, glyph_within_ok]
  repeat' (first | refine G_bool (fun hb => ?_) (fun hb => ?_) <;> simp [go_sem, endP, endI, resultsA, resultA, freezeL, freezeV, AV.free.freeL, AV.free, packA, dropS, utf8_ValidRune_ok, glyph_within_ok, *] | refine C_bool (fun hb => ?_) (fun hb => ?_) <;> simp [go_sem, endP, endI, resultsA, resultA, freezeL, freezeV, AV.free.freeL, AV.free, packA, dropS, *])
  all_goals (simp [validR, nameR] at *; try omega)
  all_goals (rw [Bool.eq_iff_iff]; simp; omega)
def hasR (s : ByteArray) (r : Int) : Bool := (runes s).any fun x => (x.2 : Int) == r
theorem check_hasRune_loop (s : ByteArray) (r : Int) (id : Nat) (hid : bar ≤ id) (Q : Ex → Env → H → Prop) : ∀ (n pos : Nat) (h : H), h.get id = some (.iter s pos) → s.size ≤ pos + n →
    (∀ e h, (runesF s n pos).any (fun x => (x.2 : Int) == r) = true → e.get 4 = some (.bool true) → Q .ret e h) → (∀ e h, (runesF s n pos).any (fun x => (x.2 : Int) == r) = false → Q (.exit 0) e h) →
    wpL (call tb pr) bar [1, 8] l0_check_hasRune [(1, .int .i32 r), (8, .ptr id 0)] h Q := by
  intro n
  induction n with
  | zero =>
    intro pos h hg hn h1 h2
    have : ¬ pos < s.size := by omega
    refine M_loop l0_check_hasRune.eq_1 ?_
    simp [go_sem, hg, hid, this]
    exact h2 _ _ (by simp [runesF])
  | succ n ih =>
    intro pos h hg hn h1 h2
    refine M_loop l0_check_hasRune.eq_1 ?_
    by_cases this : pos < s.size
    · simp [go_sem, hg, hid, this]
      have hd := decode_pos s pos
      refine C_bool (fun he => ?_) (fun he => ?_) <;> simp [go_sem]
      · exact h1 _ _ (by simp [runesF, this, he]) (by simp [Env.get])
      · exact ih (pos + (Utf8.decode s pos).2) _ (by simp [H.set]) (by omega) (fun e h g => h1 e h (by simp [runesF, this, he, g])) (fun e h g => h2 e h (by simp only [runesF, this, if_true, List.any_cons, he, g]; rfl))
    · simp [go_sem, hg, hid, this]
      exact h2 _ _ (by simp [runesF, this])
theorem check_hasRune_ok (s : ByteArray) (r : Int) : call tb pr n_check_hasRune [.str s, .int .i32 r] bar h = some (.bool (hasR s r), h) := by
  refine call_of tb_check_hasRune (callF_pureW rfl rfl (M_in ?_))
  simp [f_check_hasRune, env0, go_sem]
  refine check_hasRune_loop s r h.n (Nat.le_refl _) _ s.size 0 _ (by simp [H.alloc]) (by omega) (fun e h1 g1 g2 => ?_) (fun e h1 g1 => ?_)
  · simp [go_sem, endP, endI, resultsA, resultA, freezeL, freezeV, AV.free.freeL, AV.free, packA, dropS, g2, hasR, runes, g1]
  · simp [go_sem, endP, endI, resultsA, resultA, freezeL, freezeV, AV.free.freeL, AV.free, packA, dropS, hasR, runes, g1]
def signsB : ByteArray := ⟨#[43, 45, 42, 47, 37, 38, 124, 94, 60, 61, 33, 46, 44, 64, 36, 35, 63, 58, 59, 91, 93, 126, 194, 171, 194, 187, 194, 169, 194, 174, 194, 164, 194, 161, 206, 187, 207, 128]⟩
def knownR (r : Int) : Bool := decide (97 ≤ r ∧ r ≤ 122 ∨ 65 ≤ r ∧ r ≤ 90) || hasR signsB r
theorem glyph_Known_loop (s : ByteArray) (r : Int) (id : Nat) (hid : bar ≤ id) (Q : Ex → Env → H → Prop) : ∀ (n pos : Nat) (h : H), h.get id = some (.iter s pos) → s.size ≤ pos + n →
    (∀ e h, (runesF s n pos).any (fun x => (x.2 : Int) == r) = true → e.get 2 = some (.bool true) → Q .ret e h) → (∀ e h, (runesF s n pos).any (fun x => (x.2 : Int) == r) = false → Q (.exit 0) e h) →
    wpL (call tb pr) bar [0, 11] l0_glyph_Known [(0, .int .i32 r), (11, .ptr id 0)] h Q := by
  intro n
  induction n with
  | zero =>
    intro pos h hg hn h1 h2
    have : ¬ pos < s.size := by omega
    refine M_loop l0_glyph_Known.eq_1 ?_
    simp [go_sem, hg, hid, this]
    exact h2 _ _ (by simp [runesF])
  | succ n ih =>
    intro pos h hg hn h1 h2
    refine M_loop l0_glyph_Known.eq_1 ?_
    by_cases this : pos < s.size
    · simp [go_sem, hg, hid, this]
      have hd := decode_pos s pos
      refine C_bool (fun he => ?_) (fun he => ?_) <;> simp [go_sem]
      · exact h1 _ _ (by simp [runesF, this, he]) (by simp [Env.get])
      · exact ih (pos + (Utf8.decode s pos).2) _ (by simp [H.set]) (by omega) (fun e h g => h1 e h (by simp [runesF, this, he, g])) (fun e h g => h2 e h (by simp only [runesF, this, if_true, List.any_cons, he, g]; rfl))
    · simp [go_sem, hg, hid, this]
      exact h2 _ _ (by simp [runesF, this])
theorem glyph_Known_ok (r : Int) : call tb pr n_glyph_Known [.int .i32 r] bar h = some (.bool (knownR r), h) := by
  refine call_of tb_glyph_Known (callF_pureW rfl rfl (M_in ?_))
  simp [f_glyph_Known, env0, go_sem, endP, endI, resultsA, resultA, freezeL, freezeV, AV.free.freeL, AV.free, packA, dropS, glyph_within_ok]
  repeat' (first | refine G_bool (fun hb => ?_) (fun hb => ?_) <;> simp [go_sem, endP, endI, resultsA, resultA, freezeL, freezeV, AV.free.freeL, AV.free, packA, dropS, glyph_within_ok, *] | refine C_bool (fun hb => ?_) (fun hb => ?_) <;> simp [go_sem, endP, endI, resultsA, resultA, freezeL, freezeV, AV.free.freeL, AV.free, packA, dropS, *])
  · unfold knownR; rw [decide_eq_true (by simp at *; omega)]; rfl
  · unfold knownR; rw [decide_eq_true (by simp at *; omega)]; rfl
  · have hk : knownR r = hasR signsB r := by unfold knownR; rw [decide_eq_false (by simp at *; omega)]; rfl
    rw [hk]
    refine glyph_Known_loop signsB r h.n (Nat.le_refl _) _ signsB.size 0 _ (by simp [H.alloc]; rfl) (by omega) (fun e h1 g1 g2 => ?_) (fun e h1 g1 => ?_)
    · simp [go_sem, endP, endI, resultsA, resultA, freezeL, freezeV, AV.free.freeL, AV.free, packA, dropS, g2, hasR, runes, g1]
    · simp [go_sem, endP, endI, resultsA, resultA, freezeL, freezeV, AV.free.freeL, AV.free, packA, dropS, hasR, runes, g1]
end
end Go.Ev
namespace Go.Ev
open Go
structure Fn where
  name : Int
  args : Int
  code : ByteArray
def Fn.cells (f : Fn) : List AV := [.int .i32 f.name, .int .i64 f.args, .str f.code]
theorem Fn.cells_len (f : Fn) : f.cells.length = 3 := rfl
structure Tok where
  sign : Int
  n : Int
  name : Int
  deriving DecidableEq
def Tok.cells (t : Tok) : List AV := [.int .i32 t.sign, .int .i64 t.n, .int .i32 t.name]
theorem Tok.cells_len (t : Tok) : t.cells.length = 3 := rfl
def findN (nm : Int) : List Fn → Nat → Int
  | [], _ => -1
  | f :: r, i => if f.name == nm then i else findN nm r (i + 1)
def FV (h : H) (a : AV) (fs : List Fn) : Prop := Vw 3 h a fs.length (fs.flatMap Fn.cells)
theorem FV.mono {h h' : H} {a : AV} {fs : List Fn} {b : Nat} (v : FV h a fs) (g : Ag b h h') (hb : h.n ≤ b) : FV h' a fs := Vw.mono v g hb
theorem fz_get {fs : List Fn} {i : Nat} (hi : i < fs.length) (j : Nat) (hj : j < 3) : (fs.flatMap Fn.cells)[i * 3 + j]? = (fs[i]).cells[j]? := flat_get Fn.cells_len fs i j _ hj (List.getElem?_eq_getElem hi)
theorem fz_row {fs : List Fn} {i : Nat} (hi : i < fs.length) : ((fs.flatMap Fn.cells).drop (i * 3)).take 3 = (fs[i]).cells := flat_row Fn.cells_len fs i _ (List.getElem?_eq_getElem hi)
theorem sl_get {fs : List Fn} {all : List AV} {off : Nat} (hc : (all.drop off).take (fs.length * 3) = fs.flatMap Fn.cells) {i : Nat} (hi : i < fs.length) (j : Nat) (hj : j < 3) : all[off + i * 3 + j]? = (fs[i]).cells[j]? := by
  rw [← fz_get hi j hj, ← hc, List.getElem?_take_of_lt (by omega), List.getElem?_drop, Nat.add_assoc]
theorem sl_row {fs : List Fn} {all : List AV} {off : Nat} (hc : (all.drop off).take (fs.length * 3) = fs.flatMap Fn.cells) {i : Nat} (hi : i < fs.length) : (all.drop (off + i * 3)).take 3 = (fs[i]).cells := by
  rw [← fz_row hi, ← hc, List.drop_take, List.drop_drop, List.take_take, Nat.min_eq_left (by omega)]
theorem FV.cases {h : H} {a : AV} {fs : List Fn} (v : FV h a fs) : (a = .nilsl ∧ fs = []) ∨
    (∃ full cs, a = .fz 3 fs.length cs full ∧ (cs.length = fs.length * 3) = True ∧ (∀ i (hi : i < fs.length), cs[i * 3]? = some (.int .i32 fs[i].name) ∧ cs[i * 3 + 1]? = some (.int .i64 fs[i].args) ∧ cs[i * 3 + 2]? = some (.str fs[i].code)) ∧
      ∀ i (hi : i < fs.length), i * 3 + 3 ≤ cs.length ∧ (cs.drop (i * 3)).take 3 = fs[i].cells) ∨
    ∃ id off full all p, a = .sl id off 3 fs.length full ∧ id < h.n ∧ h.get id = some (.cells all p) ∧
      (∀ i (hi : i < fs.length), all[off + i * 3]? = some (.int .i32 fs[i].name) ∧ all[off + i * 3 + 1]? = some (.int .i64 fs[i].args) ∧ all[off + i * 3 + 2]? = some (.str fs[i].code)) ∧
      ∀ i (hi : i < fs.length), off + i * 3 + 3 ≤ all.length ∧ (all.drop (off + i * 3)).take 3 = fs[i].cells := by
  obtain ⟨h1, h2, h3⟩ := v
  rcases h3 with ⟨h3, h4⟩ | ⟨full, h3⟩ | ⟨id, off, full, all, p, e1, e2, e3, e4, e5⟩
  · exact .inl ⟨h3, List.length_eq_zero_iff.mp h4⟩
  · refine .inr (.inl ⟨full, _, h3, by simp only [h1], fun i hi => ⟨fz_get hi 0 (by omega), fz_get hi 1 (by omega), fz_get hi 2 (by omega)⟩, fun i hi => ⟨by rw [h1]; omega, fz_row hi⟩⟩)
  · refine .inr (.inr ⟨id, off, full, all, p, e1, e2, e3, fun i hi => ⟨sl_get e5 hi 0 (by omega), sl_get e5 hi 1 (by omega), sl_get e5 hi 2 (by omega)⟩, fun i hi => ⟨by omega, sl_row e5 hi⟩⟩)
section
variable {pr : Oracle} {bar : Nat} {h : H}
theorem check_find_loop (fs : List Fn) (a : AV) (nm : Int) (h0 : H) (hv : FV h0 a fs) (hb0 : h0.n ≤ bar) (b : Nat) (hb' : bar ≤ b) (id q : Nat) (hid : id < b) (Q : Ex → Env → H → Prop) : ∀ (k i : Nat) (g : H), fs.length = i + k → Ag h0.n h0 g → b ≤ g.n → g.get id = some (.cells [.int .i32 nm] q) →
    (∀ e g', Ag b g g' → e.get 4 = some (.int .i64 (findN nm (fs.drop i) i)) → Q .ret e g') → (∀ e g', Ag b g g' → findN nm (fs.drop i) i = -1 → Q (.exit 0) e g') →
    wpL (call tb pr) bar [0, 1, 7, 8] l0_slices_IndexFunc_api_Func_api_Func [(0, a), (1, .fn n_check_Find_1 [.ptr id 0]), (7, goI fs.length), (8, goI i)] g Q := by
  intro k
  induction k with
  | zero =>
    intro i g hk hg hbn hi0 h1 h2
    refine M_loop l0_slices_IndexFunc_api_Func_api_Func.eq_1 ?_
    simp [go_sem, hk]
    exact h2 _ _ (Ag.refl _ _) (by rw [List.drop_eq_nil_of_le (by omega)]; rfl)
  | succ k ih =>
    intro i g hk hg hbn hi0 h1 h2
    refine M_loop l0_slices_IndexFunc_api_Func_api_Func.eq_1 ?_
    have hi : i < fs.length := by omega
    have hb : (i : Int) < (fs.length : Int) := by omega
    have hd : fs.drop i = fs[i] :: fs.drop (i + 1) := List.drop_eq_getElem_cons hi
    have hw := w64_succ (n := i) (by have := hv.2.1; omega)
    have hne : id ≠ g.n := by omega
    have hA : Ag b g (g.alloc (.cells fs[i].cells 0)) := Ag.alloc _ (by omega)
    have hcl : call tb pr n_check_Find_1 [.agg fs[i].cells, .ptr id 0] bar g = some (.bool (fs[i].name == nm), g.alloc (.cells fs[i].cells 0)) := by
      refine call_of tb_check_Find_1 ?_
      obtain ⟨r, h', hc, hr, rfl⟩ := callF_W (o := call tb pr) (F := f_check_Find_1) (bar := bar) (h := g) (args := [.agg fs[i].cells, .ptr id 0]) (K := fun r h' => r = .bool (fs[i].name == nm) ∧ h' = g.alloc (.cells fs[i].cells 0)) rfl rfl (M_in (by
        simp [f_check_Find_1, env0, go_sem, endP, endI, resultsA, resultA, freezeL, freezeV, AV.free.freeL, AV.free, packA, dropS, Fn.cells, get_alloc, hne, hi0]))
      rw [hc, hr]
    rcases hv.cases with ⟨rfl, rfl⟩ | ⟨full, cs, rfl, hl, hx, hy⟩ | ⟨id', off, full, all, p', rfl, hlt, hg', hx, hy⟩
    · cases hi
    · simp [go_sem, hb, hi, indexIn, hl, hcl, hy i hi]
      refine C_bool (fun he => ?_) (fun he => ?_) <;> simp [go_sem, hw]
      · exact h1 _ _ hA (by rw [hd]; simp [Env.get, findN, he])
      · exact ih (i + 1) _ (by omega) (hg.trans (Ag.alloc _ (by omega))) (by simp only [n_alloc]; omega) (by rw [get_alloc, if_neg hne]; exact hi0) (fun e g' h4 h3 => h1 e g' (hA.trans h4) (by rw [hd]; simpa [findN, he] using h3)) (fun e g' h4 h3 => h2 e g' (hA.trans h4) (by rw [hd]; simpa [findN, he] using h3))
    · have hg2 := (hg.2 _ hlt).trans hg'
      simp [go_sem, hb, hi, indexIn, hg2, hcl, hy i hi]
      refine C_bool (fun he => ?_) (fun he => ?_) <;> simp [go_sem, hw]
      · exact h1 _ _ hA (by rw [hd]; simp [Env.get, findN, he])
      · exact ih (i + 1) _ (by omega) (hg.trans (Ag.alloc _ (by omega))) (by simp only [n_alloc]; omega) (by rw [get_alloc, if_neg hne]; exact hi0) (fun e g' h4 h3 => h1 e g' (hA.trans h4) (by rw [hd]; simpa [findN, he] using h3)) (fun e g' h4 h3 => h2 e g' (hA.trans h4) (by rw [hd]; simpa [findN, he] using h3))
theorem slices_IndexFunc_ok (fs : List Fn) (a : AV) (nm : Int) (h0 g : H) (hv : FV h0 a fs) (hb0 : h0.n ≤ bar) (hg : Ag h0.n h0 g) (id q : Nat) (hid : id < g.n) (hbn : bar ≤ g.n) (hi0 : g.get id = some (.cells [.int .i32 nm] q)) :
    ∃ r g', call tb pr n_slices_IndexFunc_api_Func_api_Func [a, .fn n_check_Find_1 [.ptr id 0]] bar g = some (r, g') ∧ r = .int .i64 (findN nm fs 0) := by
  obtain ⟨r, g', hc, hr⟩ := callF_W (o := call tb pr) (F := f_slices_IndexFunc_api_Func_api_Func) (bar := bar) (h := g) (args := [a, .fn n_check_Find_1 [.ptr id 0]]) (K := fun r h' => r = .int .i64 (findN nm fs 0)) rfl rfl (M_in (by
    simp [f_slices_IndexFunc_api_Func_api_Func, env0, go_sem, hv.len]
    refine check_find_loop fs a nm h0 hv hb0 g.n hbn id q hid _ fs.length 0 g (by omega) hg (Nat.le_refl _) hi0 (fun e g' _ h1 => ?_) (fun e g' _ h1 => ?_)
    · simp [go_sem, endP, endI, resultsA, resultA, freezeL, freezeV, AV.free.freeL, AV.free, packA, dropS, h1]
    · simp [go_sem, endP, endI, resultsA, resultA, freezeL, freezeV, AV.free.freeL, AV.free, packA, dropS]; exact h1.symm))
  exact ⟨r, g', call_of tb_slices_IndexFunc_api_Func_api_Func hc, hr⟩
theorem check_Find_ok (fs : List Fn) (a : AV) (nm p m : Int) (hv : FV h a fs) : call tb pr n_check_Find [.agg [.int .i64 p, .int .i64 m, a], .int .i32 nm] bar h = some (.int .i64 (findN nm fs 0), h) := by
  refine call_of tb_check_Find (callF_pureW rfl rfl (M_in ?_))
  obtain ⟨r, g', hc, rfl⟩ := slices_IndexFunc_ok (pr := pr) (bar := h.n) fs a nm h ((h.alloc (.cells [.int .i64 p, .int .i64 m, a] 0)).alloc (.cells [.int .i32 nm] 0)) hv (Nat.le_refl _) ((Ag.alloc _ (Nat.le_refl _)).trans (Ag.alloc _ (by simp [n_alloc]))) (h.n + 1) 0 (by simp [n_alloc]) (by simp [n_alloc]; omega) (by simp [get_alloc, n_alloc])
  simp [f_check_Find, env0, go_sem, hv.one, get_alloc, n_alloc, endP, endI, resultsA, resultA, freezeL, freezeV, AV.free.freeL, AV.free, packA, dropS, hc]
end
end Go.Ev
