/- The functions of this program, as the interpreter carries them out: definitions alone. -/
import Derived.Test.YtliegbpmmjkmkaaDoorA3
set_option linter.unusedSimpArgs false
set_option linter.unusedVariables false
set_option linter.all false
namespace Go.Ev
open Go
def n_engramlaw9_CheckNumbers : Nat := 3
def n_engramlaw9_CheckTells : Nat := 4
def n_engramlaw9_CheckHeights : Nat := 5
def n_engramlaw9_CheckMade : Nat := 6
def n_engramlaw9_same : Nat := 7
def n_engramlaw9_one : Nat := 8
def n_engramlaw9_tail : Nat := 9
def n_engramlaw9_takes : Nat := 10
def n_engramlaw9_known : Nat := 11
def n_engramkeep_Unit : Nat := 12
def n_engramkeep_Odd : Nat := 13
def n_check_Func : Nat := 14
def n_engramref9_Tokens : Nat := 15
def n_check_Takes : Nat := 16
def n_engramref9_Func : Nat := 17
def n_engrambook_Same_int : Nat := 18
def n_engramref9_Takes : Nat := 19
def n_check_Find : Nat := 20
def n_engramref9_Find : Nat := 21
def n_engramkeep_Tape_Next : Nat := 22
def n_engramkeep_Names : Nat := 23
def n_engramkeep_Tape_deed : Nat := 24
def n_engramkeep_halts : Nat := 25
def n_engramkeep_Tape_value : Nat := 26
def n_engramkeep_odd : Nat := 27
def n_glyph_Tokens : Nat := 28
def n_nest_Of : Nat := 29
def n_check_judge_token : Nat := 30
def n_engramref9_runes : Nat := 31
def n_engramref9_Name : Nat := 32
def n_engramref9_Known : Nat := 33
def n_check_Takes_1 : Nat := 34
def n_check_hasRune : Nat := 35
def n_engramref9_Nest : Nat := 36
def n_engramref9_state_token : Nat := 37
def n_engramref9_has : Nat := 38
def n_slices_IndexFunc_api_Func_api_Func : Nat := 39
def n_check_Find_1 : Nat := 40
def n_engrambook_Within : Nat := 41
def n_engramkeep_digits : Nat := 42
def n_engramkeep_live : Nat := 43
def n_engramkeep_at : Nat := 44
def n_glyph_reader_rune : Nat := 45
def n_glyph_reader_number : Nat := 46
def n_glyph_reader_waits : Nat := 47
def n_nest_match : Nat := 48
def n_check_judge_base : Nat := 49
def n_check_judge_turn : Nat := 50
def n_engramref9_leaves : Nat := 51
def n_engramref9_state_ends : Nat := 52
def n_engramref9_state_base : Nat := 53
def n_engramref9_state_leave : Nat := 54
def n_glyph_Name : Nat := 55
def n_glyph_within : Nat := 56
def n_glyph_Known : Nat := 57
def n_strconv_ParseInt : Nat := 58
def n_glyph_named : Nat := 59
def n_nest_matcher_token : Nat := 60
def n_check_judge_endIf : Nat := 61
def n_check_judge_endLoop : Nat := 62
def n_check_judge_leave : Nat := 63
def n_utf8_ValidRune : Nat := 64
def n_nest_matcher_begin : Nat := 67
def n_nest_matcher_other : Nat := 68
def n_nest_matcher_endIf : Nat := 69
def n_nest_matcher_endLoop : Nat := 70
def n_nest_matcher_leave : Nat := 71
def n_check_judge_pop : Nat := 72
def n_nest_matcher_top : Nat := 78
def t_Pstrconv_NumError : Nat := 118
def t_Perrors_errorString : Nat := 131
def g_strconv_ErrSyntax : Nat := 0
def g_strconv_ErrRange : Nat := 1
end Go.Ev
namespace Go.Ev
open Go
def l0_engramlaw9_CheckNumbers : IC :=
  .seq (.seq (.reg [⟨(some 16), .mov (.t 4), none⟩,
    ⟨(some 17), .bin .gtr (.t 16) (.c (.int .i64 0)), none⟩])
   (.cond (.t 17)
    (.skip)
    (.exit 2)))
  (.seq (.block 3 (.reg [⟨(some 20), .mov (.t 3), none⟩,
    ⟨(some 21), .mov (.t 1), none⟩,
    ⟨(some 22), .mov (.t 4), none⟩,
    ⟨(some 23), .bin .rem (.t 22) (.c (.int .i64 12)), none⟩,
    ⟨(some 24), .iadr 1 (.t 21) (.t 23), none⟩,
    ⟨(some 25), .ld false 1 (.t 24), none⟩,
    ⟨(some 26), .bin .add (.t 20) (.t 25), none⟩,
    ⟨(some 3), .mov (.t 26), none⟩]))
   (.reg [⟨(some 18), .mov (.t 4), none⟩,
    ⟨(some 19), .bin .quo (.t 18) (.c (.int .i64 12)), none⟩,
    ⟨(some 4), .mov (.t 19), none⟩]))
def l1_engramlaw9_CheckNumbers : IC :=
  .seq (.seq (.reg [⟨(some 11), .mov (.t 2), none⟩,
    ⟨(some 12), .bin .lss (.t 11) (.c (.int .i64 20736)), none⟩])
   (.cond (.t 12)
    (.skip)
    (.exit 0)))
  (.seq (.block 1 (.seq (.reg [⟨(some 3), .mov (.c (.str ⟨#[]⟩)), none⟩])
    (.seq (.seq (.reg [⟨(some 15), .mov (.t 2), none⟩,
    ⟨(some 4), .mov (.t 15), none⟩])
    (.block 2 (.loopK [1, 2, 3, 4] l0_engramlaw9_CheckNumbers)))
    (.keep [1, 2, 3] (.seq (.reg [⟨(some 27), .mov (.t 3), none⟩,
    ⟨(some 28), .call (.c (.fn n_engramlaw9_one [])) [(.t 27)], none⟩,
    ⟨(some 29), .call (.c (.fn n_engramlaw9_same [])) [(.t 28)], none⟩,
    ⟨(some 30), .un .not (.t 29), none⟩])
    (.cond (.t 30)
    (.seq (.reg [⟨(some 0), .mov (.c (.bool false)), none⟩])
    (.ret))
    (.skip)))))))
   (.keep [1, 2] (.reg [⟨(some 13), .mov (.t 2), none⟩,
    ⟨(some 14), .bin .add (.t 13) (.c (.int .i64 1)), none⟩,
    ⟨(some 2), .mov (.t 14), none⟩])))
def l2_engramlaw9_CheckNumbers : IC :=
  .seq (.reg [⟨(some 34), .bin .lss (.t 33) (.t 32), none⟩])
  (.seq (.cond (.t 34)
    (.skip)
    (.exit 4))
   (.seq (.block 5 (.seq (.reg [⟨(some 35), .iadr 1 (.t 31) (.t 33), none⟩,
    ⟨(some 36), .ld false 1 (.t 35), none⟩,
    ⟨(some 6), .mov (.t 36), none⟩])
    (.seq (.reg [⟨(some 37), .mov (.t 6), none⟩,
    ⟨(some 38), .call (.c (.fn n_engramlaw9_one [])) [(.t 37)], none⟩,
    ⟨(some 39), .call (.c (.fn n_engramlaw9_same [])) [(.t 38)], none⟩,
    ⟨(some 40), .un .not (.t 39), none⟩])
    (.cond (.t 40)
    (.seq (.reg [⟨(some 0), .mov (.c (.bool false)), none⟩])
    (.ret))
    (.skip)))))
    (.reg [⟨(some 41), .bin .add (.t 33) (.c (.int .i64 1)), none⟩,
    ⟨(some 33), .mov (.t 41), none⟩])))
def l3_engramlaw9_CheckNumbers : IC :=
  .seq (.seq (.reg [⟨(some 42), .mov (.t 8), none⟩,
    ⟨(some 43), .bin .lss (.t 42) (.c (.int .i64 66)), none⟩])
   (.cond (.t 43)
    (.skip)
    (.exit 6)))
  (.seq (.block 7 (.seq (.reg [⟨(some 46), .mov (.t 7), none⟩,
    ⟨(some 47), .bin .add (.t 46) (.c (.str ⟨#[97]⟩)), none⟩,
    ⟨(some 7), .mov (.t 47), none⟩])
    (.seq (.reg [⟨(some 48), .mov (.t 8), none⟩,
    ⟨(some 49), .bin .gtr (.t 48) (.c (.int .i64 60)), none⟩,
    ⟨(some 50), .mov (.t 49), none⟩,
    ⟨(some 51), .mov (.t 7), (some (50, true))⟩,
    ⟨(some 52), .call (.c (.fn n_engramlaw9_one [])) [(.t 51)], (some (50, true))⟩,
    ⟨(some 53), .call (.c (.fn n_engramlaw9_same [])) [(.t 52)], (some (50, true))⟩,
    ⟨(some 54), .un .not (.t 53), (some (50, true))⟩,
    ⟨(some 55), .mov (.t 54), (some (50, true))⟩,
    ⟨(some 56), .mov (.t 7), (some (55, false))⟩,
    ⟨(some 57), .mov (.t 8), (some (55, false))⟩,
    ⟨(some 58), .call (.c (.fn n_engramlaw9_tail [])) [(.t 57)], (some (55, false))⟩,
    ⟨(some 59), .bin .add (.t 56) (.t 58), (some (55, false))⟩,
    ⟨(some 60), .call (.c (.fn n_engramlaw9_one [])) [(.t 59)], (some (55, false))⟩,
    ⟨(some 61), .call (.c (.fn n_engramlaw9_same [])) [(.t 60)], (some (55, false))⟩,
    ⟨(some 62), .un .not (.t 61), (some (55, false))⟩,
    ⟨(some 63), .pick (.t 55) (.c (.bool true)) (.t 62), (some (50, true))⟩,
    ⟨(some 64), .pick (.t 50) (.t 63) (.c (.bool false)), none⟩])
    (.cond (.t 64)
    (.seq (.reg [⟨(some 0), .mov (.c (.bool false)), none⟩])
    (.ret))
    (.skip)))))
   (.reg [⟨(some 44), .mov (.t 8), none⟩,
    ⟨(some 45), .bin .add (.t 44) (.c (.int .i64 1)), none⟩,
    ⟨(some 8), .mov (.t 45), none⟩]))
def l4_engramlaw9_CheckNumbers : IC :=
  .seq (.seq (.reg [⟨(some 65), .mov (.t 9), none⟩,
    ⟨(some 66), .bin .lss (.t 65) (.c (.int .i32 1000)), none⟩])
   (.cond (.t 66)
    (.skip)
    (.exit 8)))
  (.seq (.block 9 (.seq (.reg [⟨(some 69), .call (.c (.fn n_engramlaw9_one [])) [(.c (.str ⟨#[]⟩))], none⟩,
    ⟨(some 70), .mov (.t 9), none⟩,
    ⟨(some 71), .build [.int .i32 0, .int .i64 0, .int .i32 0] [(0, 1, (.t 70)), (2, 1, (.c (.int .i32 102)))], none⟩,
    ⟨(some 72), .call (.c (.fn n_engramlaw9_takes [])) [(.t 69), (.t 71)], none⟩,
    ⟨(some 73), .un .not (.t 72), none⟩,
    ⟨(some 74), .mov (.t 73), none⟩,
    ⟨(some 75), .call (.c (.fn n_engramlaw9_one [])) [(.c (.str ⟨#[]⟩))], (some (74, false))⟩,
    ⟨(some 76), .mov (.t 9), (some (74, false))⟩,
    ⟨(some 77), .build [.int .i32 0, .int .i64 0, .int .i32 0] [(0, 1, (.t 76)), (2, 1, (.c (.int .i32 103)))], (some (74, false))⟩,
    ⟨(some 78), .call (.c (.fn n_engramlaw9_takes [])) [(.t 75), (.t 77)], (some (74, false))⟩,
    ⟨(some 79), .un .not (.t 78), (some (74, false))⟩,
    ⟨(some 80), .pick (.t 74) (.c (.bool true)) (.t 79), none⟩])
    (.cond (.t 80)
    (.seq (.reg [⟨(some 0), .mov (.c (.bool false)), none⟩])
    (.ret))
    (.skip))))
   (.reg [⟨(some 67), .mov (.t 9), none⟩,
    ⟨(some 68), .bin .add (.t 67) (.c (.int .i32 1)), none⟩,
    ⟨(some 9), .mov (.t 68), none⟩]))
/-- engram/engramlaw9.CheckNumbers -/
def f_engramlaw9_CheckNumbers : IFun where
  nargs := 0
  results := [.tmp 0]
  pure := true
  frz := true
  drop := []
  body :=
   .seq (.reg [⟨(some 0), .mov (.c (.bool false)), none⟩])
   (.seq (.reg [⟨(some 10), .bslice 1 [.str ⟨#[]⟩, .str ⟨#[]⟩, .str ⟨#[]⟩, .str ⟨#[]⟩, .str ⟨#[]⟩, .str ⟨#[]⟩, .str ⟨#[]⟩, .str ⟨#[]⟩, .str ⟨#[]⟩, .str ⟨#[]⟩, .str ⟨#[]⟩, .str ⟨#[]⟩] 12 [(0, 1, (.c (.str ⟨#[49]⟩))), (1, 1, (.c (.str ⟨#[97]⟩))), (2, 1, (.c (.str ⟨#[65]⟩))), (3, 1, (.c (.str ⟨#[43]⟩))), (4, 1, (.c (.str ⟨#[33]⟩))), (5, 1, (.c (.str ⟨#[63]⟩))), (6, 1, (.c (.str ⟨#[58]⟩))), (7, 1, (.c (.str ⟨#[59]⟩))), (8, 1, (.c (.str ⟨#[91]⟩))), (9, 1, (.c (.str ⟨#[93]⟩))), (10, 1, (.c (.str ⟨#[126]⟩))), (11, 1, (.c (.str ⟨#[194, 161]⟩)))], none⟩,
    ⟨(some 1), .mov (.t 10), none⟩])
    (.seq (.seq (.reg [⟨(some 2), .mov (.c (.int .i64 0)), none⟩])
    (.block 0 (.loopK [1, 2] l1_engramlaw9_CheckNumbers)))
    (.keep [] (.seq (.seq (.reg [⟨(some 31), .bslice 1 [.str ⟨#[]⟩, .str ⟨#[]⟩, .str ⟨#[]⟩, .str ⟨#[]⟩, .str ⟨#[]⟩, .str ⟨#[]⟩, .str ⟨#[]⟩, .str ⟨#[]⟩, .str ⟨#[]⟩, .str ⟨#[]⟩, .str ⟨#[]⟩, .str ⟨#[]⟩, .str ⟨#[]⟩, .str ⟨#[]⟩, .str ⟨#[]⟩, .str ⟨#[]⟩, .str ⟨#[]⟩, .str ⟨#[]⟩, .str ⟨#[]⟩, .str ⟨#[]⟩, .str ⟨#[]⟩, .str ⟨#[]⟩, .str ⟨#[]⟩] 23 [(0, 1, (.c (.str ⟨#[49, 63, 50, 58, 51, 59]⟩))), (1, 1, (.c (.str ⟨#[49, 63, 50, 58, 51, 32, 52, 59]⟩))), (2, 1, (.c (.str ⟨#[49, 63, 194, 161, 58, 51, 59]⟩))), (3, 1, (.c (.str ⟨#[49, 63, 50, 58, 194, 161, 59]⟩))), (4, 1, (.c (.str ⟨#[49, 63, 194, 161, 58, 194, 161, 59]⟩))), (5, 1, (.c (.str ⟨#[49, 63, 194, 161, 59, 50]⟩))), (6, 1, (.c (.str ⟨#[91, 97, 63, 126, 59, 93, 53]⟩))), (7, 1, (.c (.str ⟨#[91, 93]⟩))), (8, 1, (.c (.str ⟨#[91, 93, 49]⟩))), (9, 1, (.c (.str ⟨#[91, 49, 93]⟩))), (10, 1, (.c (.str ⟨#[49, 91, 97, 33, 63, 126, 59, 93]⟩))), (11, 1, (.c (.str ⟨#[49, 91, 50, 63, 44, 126, 59, 93]⟩))), (12, 1, (.c (.str ⟨#[49, 206, 187, 102]⟩))), (13, 1, (.c (.str ⟨#[206, 187, 102]⟩))), (14, 1, (.c (.str ⟨#[49, 206, 187, 103]⟩))), (15, 1, (.c (.str ⟨#[49, 207, 128, 113]⟩))), (16, 1, (.c (.str ⟨#[49, 46]⟩))), (17, 1, (.c (.str ⟨#[49, 44]⟩))), (18, 1, (.c (.str ⟨#[35]⟩))), (19, 1, (.c (.str ⟨#[49, 32, 50, 36, 51]⟩))), (20, 1, (.c (.str ⟨#[49, 194, 164]⟩))), (21, 1, (.c (.str ⟨#[91, 49, 63, 126, 59, 91, 50, 63, 126, 59, 93, 93, 55]⟩))), (22, 1, (.c (.str ⟨#[49, 63, 50, 63, 51, 58, 52, 59, 58, 53, 59]⟩)))], none⟩,
    ⟨(some 32), .len (.t 31), none⟩,
    ⟨(some 33), .mov (.c (.int .i64 0)), none⟩])
    (.block 4 (.loopK [31, 32, 33] l2_engramlaw9_CheckNumbers)))
    (.keep [] (.seq (.reg [⟨(some 7), .mov (.c (.str ⟨#[]⟩)), none⟩])
    (.seq (.seq (.reg [⟨(some 8), .mov (.c (.int .i64 0)), none⟩])
    (.block 6 (.loopK [7, 8] l3_engramlaw9_CheckNumbers)))
    (.keep [] (.seq (.seq (.reg [⟨(some 9), .mov (.c (.int .i32 0)), none⟩])
    (.block 8 (.loopK [9] l4_engramlaw9_CheckNumbers)))
    (.keep [] (.seq (.reg [⟨(some 81), .call (.c (.fn n_engramlaw9_known [])) [], none⟩,
    ⟨(some 0), .mov (.t 81), none⟩])
    (.ret))))))))))))


/-- engram/engramlaw9.CheckTells -/
def f_engramlaw9_CheckTells : IFun where
  nargs := 4
  results := [.tmp 8]
  pure := true
  frz := true
  drop := []
  body :=
   .seq (.reg [⟨(some 7), .box (.t 3), none⟩,
    ⟨(some 8), .mov (.c (.bool false)), none⟩])
   (.seq (.reg [⟨(some 10), .mov (.t 0), none⟩,
    ⟨(some 11), .call (.c (.fn n_engramkeep_Unit [])) [(.t 10)], none⟩,
    ⟨(some 9), .alloc [.int .i64 0, .int .i64 0, .nilsl], none⟩,
    ⟨none, .st 3 (.t 9) (.t 11), none⟩])
    (.seq (.seq (.reg [⟨(some 12), .mov (.t 2), none⟩,
    ⟨(some 13), .lens (.t 12), none⟩,
    ⟨(some 14), .bin .gtr (.t 13) (.c (.int .i64 40)), none⟩])
    (.cond (.t 14)
    (.reg [⟨(some 15), .mov (.t 2), none⟩,
    ⟨(some 16), .slcs (.t 15) none (some (.c (.int .i64 40))), none⟩,
    ⟨(some 2), .mov (.t 16), none⟩])
    (.skip)))
    (.seq (.reg [⟨(some 17), .ld true 3 (.t 9), none⟩,
    ⟨(some 18), .call (.c (.fn n_engramlaw9_same [])) [(.t 17)], none⟩,
    ⟨(some 19), .mov (.t 18), none⟩,
    ⟨(some 20), .ld true 3 (.t 9), (some (19, true))⟩,
    ⟨(some 21), .mov (.t 1), (some (19, true))⟩,
    ⟨(some 22), .call (.c (.fn n_engramkeep_Odd [])) [(.t 20), (.t 21)], (some (19, true))⟩,
    ⟨(some 23), .call (.c (.fn n_engramlaw9_same [])) [(.t 22)], (some (19, true))⟩,
    ⟨(some 24), .pick (.t 19) (.t 23) (.c (.bool false)), none⟩,
    ⟨(some 25), .mov (.t 24), none⟩,
    ⟨(some 26), .mov (.t 2), (some (25, true))⟩,
    ⟨(some 27), .call (.c (.fn n_engramlaw9_one [])) [(.t 26)], (some (25, true))⟩,
    ⟨(some 28), .call (.c (.fn n_engramlaw9_same [])) [(.t 27)], (some (25, true))⟩,
    ⟨(some 29), .pick (.t 25) (.t 28) (.c (.bool false)), none⟩,
    ⟨(some 30), .mov (.t 29), none⟩,
    ⟨(some 31), .mov (.t 2), (some (30, true))⟩,
    ⟨(some 32), .bin .add (.t 31) (.c (.str ⟨#[49]⟩)), (some (30, true))⟩,
    ⟨(some 33), .call (.c (.fn n_engramlaw9_one [])) [(.t 32)], (some (30, true))⟩,
    ⟨(some 34), .call (.c (.fn n_engramlaw9_same [])) [(.t 33)], (some (30, true))⟩,
    ⟨(some 35), .pick (.t 30) (.t 34) (.c (.bool false)), none⟩,
    ⟨(some 36), .mov (.t 35), none⟩,
    ⟨(some 37), .ld true 3 (.t 9), (some (36, true))⟩,
    ⟨(some 38), .ld true 3 (.t 7), (some (36, true))⟩,
    ⟨(some 39), .call (.c (.fn n_engramlaw9_takes [])) [(.t 37), (.t 38)], (some (36, true))⟩,
    ⟨(some 40), .pick (.t 36) (.t 39) (.c (.bool false)), none⟩,
    ⟨(some 41), .mov (.t 40), none⟩,
    ⟨(some 42), .call (.c (.fn n_engramlaw9_known [])) [], (some (41, true))⟩,
    ⟨(some 43), .pick (.t 41) (.t 42) (.c (.bool false)), none⟩,
    ⟨(some 8), .mov (.t 43), none⟩])
    (.ret))))

def l0_engramlaw9_CheckHeights : IC :=
  .seq (.reg [⟨(some 60), .bin .lss (.t 59) (.t 58), none⟩])
  (.seq (.cond (.t 60)
    (.skip)
    (.exit 2))
   (.seq (.block 3 (.seq (.reg [⟨(some 61), .mov (.t 59), none⟩,
    ⟨(some 10), .mov (.t 61), none⟩])
    (.seq (.seq (.reg [⟨(some 62), .mov (.t 6), none⟩,
    ⟨(some 63), .mov (.t 10), none⟩,
    ⟨(some 64), .iadr 1 (.t 62) (.t 63), none⟩,
    ⟨(some 65), .ld false 1 (.t 64), none⟩,
    ⟨(some 66), .bin .lss (.t 65) (.c (.int .i64 (-1))), none⟩,
    ⟨(some 67), .mov (.t 66), none⟩,
    ⟨(some 68), .mov (.t 6), (some (67, false))⟩,
    ⟨(some 69), .mov (.t 10), (some (67, false))⟩,
    ⟨(some 70), .iadr 1 (.t 68) (.t 69), (some (67, false))⟩,
    ⟨(some 71), .ld false 1 (.t 70), (some (67, false))⟩,
    ⟨(some 72), .bin .gtr (.t 71) (.c (.int .i64 64)), (some (67, false))⟩,
    ⟨(some 73), .pick (.t 67) (.c (.bool true)) (.t 72), none⟩])
    (.cond (.t 73)
    (.seq (.reg [⟨(some 2), .mov (.c (.bool false)), none⟩])
    (.ret))
    (.skip)))
    (.seq (.reg [⟨(some 74), .mov (.t 8), none⟩,
    ⟨(some 75), .mov (.t 10), none⟩,
    ⟨(some 76), .iadr 3 (.t 74) (.t 75), none⟩,
    ⟨(some 77), .fadr 0 (.t 76), none⟩,
    ⟨(some 78), .ld false 1 (.t 77), none⟩,
    ⟨(some 11), .mov (.t 78), none⟩])
    (.seq (.seq (.reg [⟨(some 79), .mov (.t 10), none⟩,
    ⟨(some 80), .bin .add (.t 79) (.c (.int .i64 1)), none⟩,
    ⟨(some 81), .mov (.t 6), none⟩,
    ⟨(some 82), .len (.t 81), none⟩,
    ⟨(some 83), .bin .eql (.t 80) (.t 82), none⟩,
    ⟨(some 84), .mov (.t 83), none⟩,
    ⟨(some 85), .mov (.t 6), (some (84, false))⟩,
    ⟨(some 86), .mov (.t 10), (some (84, false))⟩,
    ⟨(some 87), .iadr 1 (.t 85) (.t 86), (some (84, false))⟩,
    ⟨(some 88), .ld false 1 (.t 87), (some (84, false))⟩,
    ⟨(some 89), .bin .lss (.t 88) (.c (.int .i64 0)), (some (84, false))⟩,
    ⟨(some 90), .pick (.t 84) (.c (.bool true)) (.t 89), none⟩,
    ⟨(some 91), .mov (.t 90), none⟩,
    ⟨(some 92), .mov (.t 11), (some (91, false))⟩,
    ⟨(some 93), .bin .eql (.t 92) (.c (.int .i32 58)), (some (91, false))⟩,
    ⟨(some 94), .pick (.t 91) (.c (.bool true)) (.t 93), none⟩,
    ⟨(some 95), .mov (.t 94), none⟩,
    ⟨(some 96), .mov (.t 11), (some (95, false))⟩,
    ⟨(some 97), .bin .eql (.t 96) (.c (.int .i32 59)), (some (95, false))⟩,
    ⟨(some 98), .pick (.t 95) (.c (.bool true)) (.t 97), none⟩,
    ⟨(some 99), .mov (.t 98), none⟩,
    ⟨(some 100), .mov (.t 11), (some (99, false))⟩,
    ⟨(some 101), .bin .eql (.t 100) (.c (.int .i32 93)), (some (99, false))⟩,
    ⟨(some 102), .pick (.t 99) (.c (.bool true)) (.t 101), none⟩,
    ⟨(some 103), .mov (.t 102), none⟩,
    ⟨(some 104), .mov (.t 11), (some (103, false))⟩,
    ⟨(some 105), .bin .eql (.t 104) (.c (.int .i32 126)), (some (103, false))⟩,
    ⟨(some 106), .pick (.t 103) (.c (.bool true)) (.t 105), none⟩,
    ⟨(some 107), .mov (.t 106), none⟩,
    ⟨(some 108), .mov (.t 11), (some (107, false))⟩,
    ⟨(some 109), .bin .eql (.t 108) (.c (.int .i32 161)), (some (107, false))⟩,
    ⟨(some 110), .pick (.t 107) (.c (.bool true)) (.t 109), none⟩])
    (.cond (.t 110)
    (.exit 3)
    (.skip)))
    (.seq (.reg [⟨(some 112), .ld true 3 (.t 3), none⟩,
    ⟨(some 113), .mov (.t 8), none⟩,
    ⟨(some 114), .mov (.t 10), none⟩,
    ⟨(some 115), .iadr 3 (.t 113) (.t 114), none⟩,
    ⟨(some 116), .ld true 3 (.t 115), none⟩,
    ⟨(some 117), .call (.c (.fn n_check_Takes [])) [(.t 112), (.t 116)], none⟩,
    ⟨(some 111), .mov (.t 117), none⟩,
    ⟨(some 118), .ext (.t 111) 0, none⟩,
    ⟨(some 119), .ext (.t 111) 1, none⟩,
    ⟨(some 120), .ext (.t 111) 2, none⟩,
    ⟨(some 12), .mov (.t 118), none⟩,
    ⟨(some 13), .mov (.t 119), none⟩,
    ⟨(some 14), .mov (.t 120), none⟩])
    (.seq (.reg [⟨(some 121), .mov (.t 14), none⟩,
    ⟨(some 122), .un .not (.t 121), none⟩,
    ⟨(some 123), .mov (.t 122), none⟩,
    ⟨(some 124), .mov (.t 6), (some (123, false))⟩,
    ⟨(some 125), .mov (.t 10), (some (123, false))⟩,
    ⟨(some 126), .iadr 1 (.t 124) (.t 125), (some (123, false))⟩,
    ⟨(some 127), .ld false 1 (.t 126), (some (123, false))⟩,
    ⟨(some 128), .mov (.t 12), (some (123, false))⟩,
    ⟨(some 129), .bin .lss (.t 127) (.t 128), (some (123, false))⟩,
    ⟨(some 130), .pick (.t 123) (.c (.bool true)) (.t 129), none⟩,
    ⟨(some 131), .mov (.t 130), none⟩,
    ⟨(some 132), .mov (.t 6), (some (131, false))⟩,
    ⟨(some 133), .mov (.t 10), (some (131, false))⟩,
    ⟨(some 134), .bin .add (.t 133) (.c (.int .i64 1)), (some (131, false))⟩,
    ⟨(some 135), .iadr 1 (.t 132) (.t 134), (some (131, false))⟩,
    ⟨(some 136), .ld false 1 (.t 135), (some (131, false))⟩,
    ⟨(some 137), .mov (.t 6), (some (131, false))⟩,
    ⟨(some 138), .mov (.t 10), (some (131, false))⟩,
    ⟨(some 139), .iadr 1 (.t 137) (.t 138), (some (131, false))⟩,
    ⟨(some 140), .ld false 1 (.t 139), (some (131, false))⟩,
    ⟨(some 141), .mov (.t 12), (some (131, false))⟩,
    ⟨(some 142), .bin .sub (.t 140) (.t 141), (some (131, false))⟩,
    ⟨(some 143), .mov (.t 13), (some (131, false))⟩,
    ⟨(some 144), .bin .add (.t 142) (.t 143), (some (131, false))⟩,
    ⟨(some 145), .bin .neq (.t 136) (.t 144), (some (131, false))⟩,
    ⟨(some 146), .pick (.t 131) (.c (.bool true)) (.t 145), none⟩])
    (.cond (.t 146)
    (.seq (.reg [⟨(some 2), .mov (.c (.bool false)), none⟩])
    (.ret))
    (.skip)))))))))
    (.reg [⟨(some 147), .bin .add (.t 59) (.c (.int .i64 1)), none⟩,
    ⟨(some 59), .mov (.t 147), none⟩])))
def l1_engramlaw9_CheckHeights : IC :=
  .seq (.reg [⟨(some 21), .bin .lss (.t 20) (.t 19), none⟩])
  (.seq (.cond (.t 21)
    (.skip)
    (.exit 0))
   (.seq (.block 1 (.seq (.reg [⟨(some 22), .mov (.t 20), none⟩,
    ⟨(some 23), .iadr 3 (.t 18) (.t 20), none⟩,
    ⟨(some 24), .ld true 3 (.t 23), none⟩,
    ⟨(some 5), .alloc [.int .i32 0, .int .i64 0, .str ⟨#[]⟩], none⟩,
    ⟨(some 4), .mov (.t 22), none⟩,
    ⟨none, .st 3 (.t 5) (.t 24), none⟩])
    (.seq (.reg [⟨(some 26), .ld true 3 (.t 3), none⟩,
    ⟨(some 27), .mov (.t 4), none⟩,
    ⟨(some 28), .call (.c (.fn n_check_Func [])) [(.t 26), (.t 27)], none⟩,
    ⟨(some 25), .mov (.t 28), none⟩,
    ⟨(some 29), .ext (.t 25) 0, none⟩,
    ⟨(some 30), .ext (.t 25) 1, none⟩,
    ⟨(some 6), .mov (.t 29), none⟩,
    ⟨(some 7), .mov (.t 30), none⟩])
    (.seq (.reg [⟨(some 32), .fadr 2 (.t 5), none⟩,
    ⟨(some 33), .ld false 1 (.t 32), none⟩,
    ⟨(some 34), .call (.c (.fn n_engramref9_Tokens [])) [(.t 33)], none⟩,
    ⟨(some 31), .mov (.t 34), none⟩,
    ⟨(some 35), .ext (.t 31) 0, none⟩,
    ⟨(some 36), .ext (.t 31) 1, none⟩,
    ⟨(some 8), .mov (.t 35), none⟩,
    ⟨(some 9), .mov (.t 36), none⟩])
    (.seq (.seq (.reg [⟨(some 37), .mov (.t 7), none⟩,
    ⟨(some 38), .bin .neq (.t 37) (.c (.int .i64 0)), none⟩,
    ⟨(some 39), .mov (.t 38), none⟩,
    ⟨(some 40), .mov (.t 6), (some (39, false))⟩,
    ⟨(some 41), .len (.t 40), (some (39, false))⟩,
    ⟨(some 42), .mov (.t 8), (some (39, false))⟩,
    ⟨(some 43), .len (.t 42), (some (39, false))⟩,
    ⟨(some 44), .bin .neq (.t 41) (.t 43), (some (39, false))⟩,
    ⟨(some 45), .pick (.t 39) (.c (.bool true)) (.t 44), none⟩,
    ⟨(some 46), .mov (.t 45), none⟩,
    ⟨(some 47), .mov (.t 6), (some (46, false))⟩,
    ⟨(some 48), .len (.t 47), (some (46, false))⟩,
    ⟨(some 49), .bin .gtr (.t 48) (.c (.int .i64 0)), (some (46, false))⟩,
    ⟨(some 50), .mov (.t 49), (some (46, false))⟩,
    ⟨(some 51), .mov (.t 6), (some (50, true))⟩,
    ⟨(some 52), .iadr 1 (.t 51) (.c (.int .i64 0)), (some (50, true))⟩,
    ⟨(some 53), .ld false 1 (.t 52), (some (50, true))⟩,
    ⟨(some 54), .bin .neq (.t 53) (.c (.int .i64 0)), (some (50, true))⟩,
    ⟨(some 55), .pick (.t 50) (.t 54) (.c (.bool false)), (some (46, false))⟩,
    ⟨(some 56), .pick (.t 46) (.c (.bool true)) (.t 55), none⟩])
    (.cond (.t 56)
    (.seq (.reg [⟨(some 2), .mov (.c (.bool false)), none⟩])
    (.ret))
    (.skip)))
    (.seq (.reg [⟨(some 57), .mov (.t 6), none⟩,
    ⟨(some 58), .len (.t 57), none⟩,
    ⟨(some 59), .mov (.c (.int .i64 0)), none⟩])
    (.block 2 (.loopK [3, 6, 8, 18, 19, 20, 58, 59] l0_engramlaw9_CheckHeights))))))))
    (.keep [3, 18, 19, 20] (.reg [⟨(some 148), .bin .add (.t 20) (.c (.int .i64 1)), none⟩,
    ⟨(some 20), .mov (.t 148), none⟩]))))
/-- engram/engramlaw9.CheckHeights -/
def f_engramlaw9_CheckHeights : IFun where
  nargs := 1
  results := [.tmp 2]
  pure := true
  frz := true
  drop := []
  body :=
   .seq (.reg [⟨(some 2), .mov (.c (.bool false)), none⟩])
   (.seq (.reg [⟨(some 15), .mov (.t 0), none⟩,
    ⟨(some 16), .call (.c (.fn n_engramkeep_Unit [])) [(.t 15)], none⟩,
    ⟨(some 3), .alloc [.int .i64 0, .int .i64 0, .nilsl], none⟩,
    ⟨none, .st 3 (.t 3) (.t 16), none⟩])
    (.seq (.seq (.reg [⟨(some 17), .fadr 2 (.t 3), none⟩,
    ⟨(some 18), .ld false 1 (.t 17), none⟩,
    ⟨(some 19), .len (.t 18), none⟩,
    ⟨(some 20), .mov (.c (.int .i64 0)), none⟩])
    (.block 0 (.loopK [3, 18, 19, 20] l1_engramlaw9_CheckHeights)))
    (.keep [] (.seq (.reg [⟨(some 149), .call (.c (.fn n_engramlaw9_known [])) [], none⟩,
    ⟨(some 2), .mov (.t 149), none⟩])
    (.ret)))))

def l0_engramlaw9_CheckMade : IC :=
  .seq (.reg [⟨(some 51), .bin .lss (.t 50) (.t 49), none⟩])
  (.seq (.cond (.t 51)
    (.skip)
    (.exit 2))
   (.seq (.block 3 (.seq (.reg [⟨(some 52), .iadr 1 (.t 48) (.t 50), none⟩,
    ⟨(some 53), .ld false 1 (.t 52), none⟩,
    ⟨(some 10), .mov (.t 53), none⟩])
    (.seq (.seq (.reg [⟨(some 54), .mov (.t 10), none⟩,
    ⟨(some 55), .lens (.t 54), none⟩,
    ⟨(some 56), .bin .gtr (.t 55) (.c (.int .i64 512)), none⟩])
    (.cond (.t 56)
    (.exit 3)
    (.skip)))
    (.seq (.reg [⟨(some 57), .fadr 2 (.t 8), none⟩,
    ⟨(some 58), .ld false 1 (.t 57), none⟩,
    ⟨(some 59), .mov (.t 4), none⟩,
    ⟨(some 60), .mov (.t 10), none⟩,
    ⟨(some 61), .iadr 3 (.t 58) (.t 59), none⟩,
    ⟨(some 62), .fadr 2 (.t 61), none⟩,
    ⟨none, .st 1 (.t 62) (.t 60), none⟩])
    (.seq (.reg [⟨(some 64), .ld true 3 (.t 8), none⟩,
    ⟨(some 65), .mov (.t 4), none⟩,
    ⟨(some 66), .call (.c (.fn n_check_Func [])) [(.t 64), (.t 65)], none⟩,
    ⟨(some 63), .mov (.t 66), none⟩,
    ⟨(some 67), .ext (.t 63) 0, none⟩,
    ⟨(some 68), .ext (.t 63) 1, none⟩,
    ⟨(some 11), .mov (.t 67), none⟩,
    ⟨(some 12), .mov (.t 68), none⟩])
    (.seq (.reg [⟨(some 69), .mov (.t 12), none⟩,
    ⟨(some 70), .bin .neq (.t 69) (.c (.int .i64 14)), none⟩])
    (.cond (.t 70)
    (.seq (.reg [⟨(some 2), .mov (.c (.bool false)), none⟩])
    (.ret))
    (.skip))))))))
    (.reg [⟨(some 71), .bin .add (.t 50) (.c (.int .i64 1)), none⟩,
    ⟨(some 50), .mov (.t 71), none⟩])))
def l1_engramlaw9_CheckMade : IC :=
  .seq (.reg [⟨(some 21), .bin .lss (.t 20) (.t 19), none⟩])
  (.seq (.cond (.t 21)
    (.skip)
    (.exit 0))
   (.seq (.block 1 (.seq (.reg [⟨(some 22), .mov (.t 20), none⟩,
    ⟨(some 23), .iadr 3 (.t 18) (.t 20), none⟩,
    ⟨(some 24), .ld true 3 (.t 23), none⟩,
    ⟨(some 5), .alloc [.int .i32 0, .int .i64 0, .str ⟨#[]⟩], none⟩,
    ⟨(some 4), .mov (.t 22), none⟩,
    ⟨none, .st 3 (.t 5) (.t 24), none⟩])
    (.seq (.seq (.reg [⟨(some 26), .ld true 3 (.t 3), none⟩,
    ⟨(some 27), .mov (.t 4), none⟩,
    ⟨(some 28), .call (.c (.fn n_check_Func [])) [(.t 26), (.t 27)], none⟩,
    ⟨(some 25), .mov (.t 28), none⟩,
    ⟨(some 29), .ext (.t 25) 0, none⟩,
    ⟨(some 30), .ext (.t 25) 1, none⟩,
    ⟨(some 6), .mov (.t 29), none⟩,
    ⟨(some 7), .mov (.t 30), none⟩])
    (.seq (.reg [⟨(some 31), .mov (.t 7), none⟩,
    ⟨(some 32), .bin .neq (.t 31) (.c (.int .i64 0)), none⟩])
    (.cond (.t 32)
    (.seq (.reg [⟨(some 2), .mov (.c (.bool false)), none⟩])
    (.ret))
    (.skip))))
    (.seq (.reg [⟨(some 33), .ld true 3 (.t 3), none⟩,
    ⟨(some 8), .alloc [.int .i64 0, .int .i64 0, .nilsl], none⟩,
    ⟨none, .st 3 (.t 8) (.t 33), none⟩])
    (.seq (.reg [⟨(some 34), .bslice 3 [] 0 [], none⟩,
    ⟨(some 35), .fadr 2 (.t 3), none⟩,
    ⟨(some 36), .ld false 1 (.t 35), none⟩,
    ⟨(some 37), .app 3 32 (.t 34) (.t 36), none⟩,
    ⟨(some 38), .fadr 2 (.t 8), none⟩,
    ⟨none, .st 1 (.t 38) (.t 37), none⟩])
    (.seq (.seq (.reg [⟨(some 39), .fadr 2 (.t 5), none⟩,
    ⟨(some 40), .ld false 1 (.t 39), none⟩,
    ⟨(some 41), .bin .add (.t 40) (.c (.str ⟨#[32, 49]⟩)), none⟩,
    ⟨(some 42), .fadr 2 (.t 5), none⟩,
    ⟨(some 43), .ld false 1 (.t 42), none⟩,
    ⟨(some 44), .bin .add (.t 43) (.c (.str ⟨#[44]⟩)), none⟩,
    ⟨(some 45), .fadr 2 (.t 5), none⟩,
    ⟨(some 46), .ld false 1 (.t 45), none⟩,
    ⟨(some 47), .bin .add (.c (.str ⟨#[43]⟩)) (.t 46), none⟩,
    ⟨(some 48), .bslice 1 [.str ⟨#[]⟩, .str ⟨#[]⟩, .str ⟨#[]⟩] 3 [(0, 1, (.t 41)), (1, 1, (.t 44)), (2, 1, (.t 47))], none⟩,
    ⟨(some 49), .len (.t 48), none⟩,
    ⟨(some 50), .mov (.c (.int .i64 0)), none⟩])
    (.block 2 (.loopK [3, 4, 5, 8, 18, 19, 20, 48, 49, 50] l0_engramlaw9_CheckMade)))
    (.keep [3, 4, 5, 8, 18, 19, 20] (.seq (.reg [⟨(some 72), .fadr 2 (.t 8), none⟩,
    ⟨(some 73), .ld false 1 (.t 72), none⟩,
    ⟨(some 74), .mov (.t 4), none⟩,
    ⟨(some 75), .fadr 2 (.t 5), none⟩,
    ⟨(some 76), .ld false 1 (.t 75), none⟩,
    ⟨(some 77), .bin .add (.c (.str ⟨#[97, 63]⟩)) (.t 76), none⟩,
    ⟨(some 78), .bin .add (.t 77) (.c (.str ⟨#[58]⟩)), none⟩,
    ⟨(some 79), .bin .add (.t 78) (.c (.str ⟨#[32, 55, 59]⟩)), none⟩,
    ⟨(some 80), .iadr 3 (.t 73) (.t 74), none⟩,
    ⟨(some 81), .fadr 2 (.t 80), none⟩,
    ⟨none, .st 1 (.t 81) (.t 79), none⟩])
    (.seq (.reg [⟨(some 83), .ld true 3 (.t 8), none⟩,
    ⟨(some 84), .mov (.t 4), none⟩,
    ⟨(some 85), .call (.c (.fn n_check_Func [])) [(.t 83), (.t 84)], none⟩,
    ⟨(some 82), .mov (.t 85), none⟩,
    ⟨(some 86), .ext (.t 82) 0, none⟩,
    ⟨(some 87), .ext (.t 82) 1, none⟩,
    ⟨(some 13), .mov (.t 86), none⟩,
    ⟨(some 14), .mov (.t 87), none⟩])
    (.seq (.reg [⟨(some 88), .fadr 2 (.t 8), none⟩,
    ⟨(some 89), .ld false 1 (.t 88), none⟩,
    ⟨(some 90), .mov (.t 4), none⟩,
    ⟨(some 91), .iadr 3 (.t 89) (.t 90), none⟩,
    ⟨(some 92), .fadr 2 (.t 91), none⟩,
    ⟨(some 93), .ld false 1 (.t 92), none⟩,
    ⟨(some 94), .lens (.t 93), none⟩,
    ⟨(some 95), .bin .leq (.t 94) (.c (.int .i64 512)), none⟩,
    ⟨(some 96), .mov (.t 95), none⟩,
    ⟨(some 97), .mov (.t 14), (some (96, true))⟩,
    ⟨(some 98), .bin .neq (.t 97) (.c (.int .i64 0)), (some (96, true))⟩,
    ⟨(some 99), .pick (.t 96) (.t 98) (.c (.bool false)), none⟩,
    ⟨(some 100), .mov (.t 99), none⟩,
    ⟨(some 101), .mov (.t 14), (some (100, true))⟩,
    ⟨(some 102), .bin .neq (.t 101) (.c (.int .i64 13)), (some (100, true))⟩,
    ⟨(some 103), .pick (.t 100) (.t 102) (.c (.bool false)), none⟩])
    (.cond (.t 103)
    (.seq (.reg [⟨(some 2), .mov (.c (.bool false)), none⟩])
    (.ret))
    (.skip))))))))))))
    (.keep [3, 18, 19, 20] (.reg [⟨(some 104), .bin .add (.t 20) (.c (.int .i64 1)), none⟩,
    ⟨(some 20), .mov (.t 104), none⟩]))))
/-- engram/engramlaw9.CheckMade -/
def f_engramlaw9_CheckMade : IFun where
  nargs := 1
  results := [.tmp 2]
  pure := true
  frz := true
  drop := []
  body :=
   .seq (.reg [⟨(some 2), .mov (.c (.bool false)), none⟩])
   (.seq (.reg [⟨(some 15), .mov (.t 0), none⟩,
    ⟨(some 16), .call (.c (.fn n_engramkeep_Unit [])) [(.t 15)], none⟩,
    ⟨(some 3), .alloc [.int .i64 0, .int .i64 0, .nilsl], none⟩,
    ⟨none, .st 3 (.t 3) (.t 16), none⟩])
    (.seq (.seq (.reg [⟨(some 17), .fadr 2 (.t 3), none⟩,
    ⟨(some 18), .ld false 1 (.t 17), none⟩,
    ⟨(some 19), .len (.t 18), none⟩,
    ⟨(some 20), .mov (.c (.int .i64 0)), none⟩])
    (.block 0 (.loopK [3, 18, 19, 20] l1_engramlaw9_CheckMade)))
    (.keep [] (.seq (.reg [⟨(some 105), .call (.c (.fn n_engramlaw9_known [])) [], none⟩,
    ⟨(some 2), .mov (.t 105), none⟩])
    (.ret)))))

def l0_engramlaw9_same : IC :=
  .seq (.seq (.reg [⟨(some 8), .mov (.t 3), none⟩,
    ⟨(some 9), .fadr 2 (.t 1), none⟩,
    ⟨(some 10), .ld false 1 (.t 9), none⟩,
    ⟨(some 11), .len (.t 10), none⟩,
    ⟨(some 12), .bin .leq (.t 8) (.t 11), none⟩,
    ⟨(some 13), .mov (.t 12), none⟩,
    ⟨(some 14), .mov (.t 3), (some (13, true))⟩,
    ⟨(some 15), .bin .lss (.t 14) (.c (.int .i64 9)), (some (13, true))⟩,
    ⟨(some 16), .pick (.t 13) (.t 15) (.c (.bool false)), none⟩])
   (.cond (.t 16)
    (.skip)
    (.exit 0)))
  (.seq (.block 1 (.seq (.reg [⟨(some 20), .ld true 3 (.t 1), none⟩,
    ⟨(some 21), .mov (.t 3), none⟩,
    ⟨(some 22), .call (.c (.fn n_check_Func [])) [(.t 20), (.t 21)], none⟩,
    ⟨(some 19), .mov (.t 22), none⟩,
    ⟨(some 23), .ext (.t 19) 0, none⟩,
    ⟨(some 24), .ext (.t 19) 1, none⟩,
    ⟨(some 4), .mov (.t 23), none⟩,
    ⟨(some 5), .mov (.t 24), none⟩])
    (.seq (.reg [⟨(some 26), .ld true 3 (.t 1), none⟩,
    ⟨(some 27), .mov (.t 3), none⟩,
    ⟨(some 28), .call (.c (.fn n_engramref9_Func [])) [(.t 26), (.t 27)], none⟩,
    ⟨(some 25), .mov (.t 28), none⟩,
    ⟨(some 29), .ext (.t 25) 0, none⟩,
    ⟨(some 30), .ext (.t 25) 1, none⟩,
    ⟨(some 6), .mov (.t 29), none⟩,
    ⟨(some 7), .mov (.t 30), none⟩])
    (.seq (.reg [⟨(some 31), .mov (.t 5), none⟩,
    ⟨(some 32), .mov (.t 7), none⟩,
    ⟨(some 33), .bin .neq (.t 31) (.t 32), none⟩,
    ⟨(some 34), .mov (.t 33), none⟩,
    ⟨(some 35), .mov (.t 4), (some (34, false))⟩,
    ⟨(some 36), .mov (.t 6), (some (34, false))⟩,
    ⟨(some 37), .call (.c (.fn n_engrambook_Same_int [])) [(.t 35), (.t 36)], (some (34, false))⟩,
    ⟨(some 38), .un .not (.t 37), (some (34, false))⟩,
    ⟨(some 39), .pick (.t 34) (.c (.bool true)) (.t 38), none⟩])
    (.cond (.t 39)
    (.seq (.reg [⟨(some 2), .mov (.c (.bool false)), none⟩])
    (.ret))
    (.skip))))))
   (.reg [⟨(some 17), .mov (.t 3), none⟩,
    ⟨(some 18), .bin .add (.t 17) (.c (.int .i64 1)), none⟩,
    ⟨(some 3), .mov (.t 18), none⟩]))
/-- engram/engramlaw9.same -/
def f_engramlaw9_same : IFun where
  nargs := 1
  results := [.tmp 2]
  pure := true
  frz := true
  drop := []
  body :=
   .seq (.reg [⟨(some 1), .box (.t 0), none⟩,
    ⟨(some 2), .mov (.c (.bool false)), none⟩])
   (.seq (.seq (.reg [⟨(some 3), .mov (.c (.int .i64 (-1))), none⟩])
    (.block 0 (.loopK [1, 3] l0_engramlaw9_same)))
    (.keep [] (.seq (.reg [⟨(some 2), .mov (.c (.bool true)), none⟩])
    (.ret))))


/-- engram/engramlaw9.one -/
def f_engramlaw9_one : IFun where
  nargs := 1
  results := [.cell 2 true 3]
  pure := true
  frz := true
  drop := []
  body :=
   .seq (.reg [⟨(some 2), .alloc [.int .i64 0, .int .i64 0, .nilsl], none⟩])
   (.seq (.reg [⟨(some 3), .mov (.t 0), none⟩,
    ⟨(some 4), .build [.int .i32 0, .int .i64 0, .str ⟨#[]⟩] [(0, 1, (.c (.int .i32 102))), (1, 1, (.c (.int .i64 1))), (2, 1, (.t 3))], none⟩,
    ⟨(some 5), .bslice 3 [.int .i32 0, .int .i64 0, .str ⟨#[]⟩] 1 [(0, 3, (.t 4))], none⟩,
    ⟨(some 6), .build [.int .i64 0, .int .i64 0, .nilsl] [(2, 1, (.t 5))], none⟩,
    ⟨none, .st 3 (.t 2) (.t 6), none⟩])
    (.ret))

def l0_engramlaw9_tail : IC :=
  .seq (.seq (.reg [⟨(some 5), .mov (.t 4), none⟩,
    ⟨(some 6), .mov (.t 0), none⟩,
    ⟨(some 7), .bin .lss (.t 5) (.t 6), none⟩])
   (.cond (.t 7)
    (.skip)
    (.exit 0)))
  (.seq (.block 1 (.reg [⟨(some 10), .mov (.t 3), none⟩,
    ⟨(some 11), .bin .add (.t 10) (.c (.str ⟨#[43]⟩)), none⟩,
    ⟨(some 3), .mov (.t 11), none⟩]))
   (.reg [⟨(some 8), .mov (.t 4), none⟩,
    ⟨(some 9), .bin .add (.t 8) (.c (.int .i64 1)), none⟩,
    ⟨(some 4), .mov (.t 9), none⟩]))
/-- engram/engramlaw9.tail -/
def f_engramlaw9_tail : IFun where
  nargs := 1
  results := [.tmp 2]
  pure := true
  frz := true
  drop := []
  body :=
   .seq (.reg [⟨(some 2), .mov (.c (.str ⟨#[]⟩)), none⟩])
   (.seq (.reg [⟨(some 3), .mov (.c (.str ⟨#[]⟩)), none⟩])
    (.seq (.seq (.reg [⟨(some 4), .mov (.c (.int .i64 0)), none⟩])
    (.block 0 (.loopK [0, 3, 4] l0_engramlaw9_tail)))
    (.keep [3] (.seq (.reg [⟨(some 12), .mov (.t 3), none⟩,
    ⟨(some 2), .mov (.t 12), none⟩])
    (.ret)))))


/-- engram/engramlaw9.takes -/
def f_engramlaw9_takes : IFun where
  nargs := 2
  results := [.tmp 4]
  pure := true
  frz := true
  drop := []
  body :=
   .seq (.reg [⟨(some 2), .box (.t 0), none⟩,
    ⟨(some 3), .box (.t 1), none⟩,
    ⟨(some 4), .mov (.c (.bool false)), none⟩])
   (.seq (.reg [⟨(some 12), .ld true 3 (.t 2), none⟩,
    ⟨(some 13), .ld true 3 (.t 3), none⟩,
    ⟨(some 14), .call (.c (.fn n_check_Takes [])) [(.t 12), (.t 13)], none⟩,
    ⟨(some 11), .mov (.t 14), none⟩,
    ⟨(some 15), .ext (.t 11) 0, none⟩,
    ⟨(some 16), .ext (.t 11) 1, none⟩,
    ⟨(some 17), .ext (.t 11) 2, none⟩,
    ⟨(some 5), .mov (.t 15), none⟩,
    ⟨(some 6), .mov (.t 16), none⟩,
    ⟨(some 7), .mov (.t 17), none⟩])
    (.seq (.reg [⟨(some 19), .ld true 3 (.t 2), none⟩,
    ⟨(some 20), .ld true 3 (.t 3), none⟩,
    ⟨(some 21), .call (.c (.fn n_engramref9_Takes [])) [(.t 19), (.t 20)], none⟩,
    ⟨(some 18), .mov (.t 21), none⟩,
    ⟨(some 22), .ext (.t 18) 0, none⟩,
    ⟨(some 23), .ext (.t 18) 1, none⟩,
    ⟨(some 24), .ext (.t 18) 2, none⟩,
    ⟨(some 8), .mov (.t 22), none⟩,
    ⟨(some 9), .mov (.t 23), none⟩,
    ⟨(some 10), .mov (.t 24), none⟩])
    (.seq (.reg [⟨(some 25), .mov (.t 5), none⟩,
    ⟨(some 26), .mov (.t 8), none⟩,
    ⟨(some 27), .bin .eql (.t 25) (.t 26), none⟩,
    ⟨(some 28), .mov (.t 27), none⟩,
    ⟨(some 29), .mov (.t 6), (some (28, true))⟩,
    ⟨(some 30), .mov (.t 9), (some (28, true))⟩,
    ⟨(some 31), .bin .eql (.t 29) (.t 30), (some (28, true))⟩,
    ⟨(some 32), .pick (.t 28) (.t 31) (.c (.bool false)), none⟩,
    ⟨(some 33), .mov (.t 32), none⟩,
    ⟨(some 34), .mov (.t 7), (some (33, true))⟩,
    ⟨(some 35), .mov (.t 10), (some (33, true))⟩,
    ⟨(some 36), .eqb false (.t 34) (.t 35), (some (33, true))⟩,
    ⟨(some 37), .pick (.t 33) (.t 36) (.c (.bool false)), none⟩,
    ⟨(some 38), .mov (.t 37), none⟩,
    ⟨(some 39), .ld true 3 (.t 2), (some (38, true))⟩,
    ⟨(some 40), .fadr 2 (.t 3), (some (38, true))⟩,
    ⟨(some 41), .ld false 1 (.t 40), (some (38, true))⟩,
    ⟨(some 42), .call (.c (.fn n_check_Find [])) [(.t 39), (.t 41)], (some (38, true))⟩,
    ⟨(some 43), .ld true 3 (.t 2), (some (38, true))⟩,
    ⟨(some 44), .fadr 2 (.t 3), (some (38, true))⟩,
    ⟨(some 45), .ld false 1 (.t 44), (some (38, true))⟩,
    ⟨(some 46), .call (.c (.fn n_engramref9_Find [])) [(.t 43), (.t 45)], (some (38, true))⟩,
    ⟨(some 47), .bin .eql (.t 42) (.t 46), (some (38, true))⟩,
    ⟨(some 48), .pick (.t 38) (.t 47) (.c (.bool false)), none⟩,
    ⟨(some 4), .mov (.t 48), none⟩])
    (.ret))))


/-- engram/engramlaw9.known -/
def f_engramlaw9_known : IFun where
  nargs := 0
  results := [.tmp 0]
  pure := true
  frz := true
  drop := []
  body :=
   .seq (.reg [⟨(some 0), .mov (.c (.bool false)), none⟩])
   (.seq (.reg [⟨(some 13), .call (.c (.fn n_engramlaw9_one [])) [(.c (.str ⟨#[49, 32, 50, 43]⟩))], none⟩,
    ⟨(some 14), .call (.c (.fn n_check_Func [])) [(.t 13), (.c (.int .i64 0))], none⟩,
    ⟨(some 12), .mov (.t 14), none⟩,
    ⟨(some 15), .ext (.t 12) 0, none⟩,
    ⟨(some 16), .ext (.t 12) 1, none⟩,
    ⟨(some 1), .mov (.t 15), none⟩,
    ⟨(some 2), .mov (.t 16), none⟩])
    (.seq (.reg [⟨(some 18), .call (.c (.fn n_engramlaw9_one [])) [(.c (.str ⟨#[43]⟩))], none⟩,
    ⟨(some 19), .call (.c (.fn n_check_Func [])) [(.t 18), (.c (.int .i64 0))], none⟩,
    ⟨(some 17), .mov (.t 19), none⟩,
    ⟨(some 20), .ext (.t 17) 0, none⟩,
    ⟨(some 21), .ext (.t 17) 1, none⟩,
    ⟨(some 3), .mov (.t 20), none⟩,
    ⟨(some 4), .mov (.t 21), none⟩])
    (.seq (.reg [⟨(some 23), .call (.c (.fn n_engramlaw9_one [])) [(.c (.str ⟨#[194, 161, 49]⟩))], none⟩,
    ⟨(some 24), .call (.c (.fn n_check_Func [])) [(.t 23), (.c (.int .i64 0))], none⟩,
    ⟨(some 22), .mov (.t 24), none⟩,
    ⟨(some 25), .ext (.t 22) 0, none⟩,
    ⟨(some 26), .ext (.t 22) 1, none⟩,
    ⟨(some 5), .mov (.t 25), none⟩,
    ⟨(some 6), .mov (.t 26), none⟩])
    (.seq (.reg [⟨(some 28), .call (.c (.fn n_engramlaw9_one [])) [(.c (.str ⟨#[49]⟩))], none⟩,
    ⟨(some 29), .call (.c (.fn n_check_Func [])) [(.t 28), (.c (.int .i64 1))], none⟩,
    ⟨(some 27), .mov (.t 29), none⟩,
    ⟨(some 30), .ext (.t 27) 0, none⟩,
    ⟨(some 31), .ext (.t 27) 1, none⟩,
    ⟨(some 7), .mov (.t 30), none⟩,
    ⟨(some 8), .mov (.t 31), none⟩])
    (.seq (.reg [⟨(some 33), .call (.c (.fn n_engramlaw9_one [])) [(.c (.str ⟨#[]⟩))], none⟩,
    ⟨(some 34), .build [.int .i32 0, .int .i64 0, .int .i32 0] [(0, 1, (.c (.int .i32 36)))], none⟩,
    ⟨(some 35), .call (.c (.fn n_check_Takes [])) [(.t 33), (.t 34)], none⟩,
    ⟨(some 32), .mov (.t 35), none⟩,
    ⟨(some 36), .ext (.t 32) 0, none⟩,
    ⟨(some 37), .ext (.t 32) 1, none⟩,
    ⟨(some 38), .ext (.t 32) 2, none⟩,
    ⟨(some 9), .mov (.t 36), none⟩,
    ⟨(some 10), .mov (.t 37), none⟩,
    ⟨(some 11), .mov (.t 38), none⟩])
    (.seq (.reg [⟨(some 39), .mov (.t 2), none⟩,
    ⟨(some 40), .bin .eql (.t 39) (.c (.int .i64 0)), none⟩,
    ⟨(some 41), .mov (.t 40), none⟩,
    ⟨(some 42), .mov (.t 1), (some (41, true))⟩,
    ⟨(some 43), .bslice 1 [.int .i64 0, .int .i64 0, .int .i64 0] 3 [(0, 1, (.c (.int .i64 0))), (1, 1, (.c (.int .i64 1))), (2, 1, (.c (.int .i64 2)))], (some (41, true))⟩,
    ⟨(some 44), .call (.c (.fn n_engrambook_Same_int [])) [(.t 42), (.t 43)], (some (41, true))⟩,
    ⟨(some 45), .pick (.t 41) (.t 44) (.c (.bool false)), none⟩,
    ⟨(some 46), .mov (.t 45), none⟩,
    ⟨(some 47), .mov (.t 4), (some (46, true))⟩,
    ⟨(some 48), .bin .eql (.t 47) (.c (.int .i64 14)), (some (46, true))⟩,
    ⟨(some 49), .pick (.t 46) (.t 48) (.c (.bool false)), none⟩,
    ⟨(some 50), .mov (.t 49), none⟩,
    ⟨(some 51), .mov (.t 6), (some (50, true))⟩,
    ⟨(some 52), .bin .eql (.t 51) (.c (.int .i64 15)), (some (50, true))⟩,
    ⟨(some 53), .pick (.t 50) (.t 52) (.c (.bool false)), none⟩,
    ⟨(some 54), .mov (.t 53), none⟩,
    ⟨(some 55), .mov (.t 8), (some (54, true))⟩,
    ⟨(some 56), .bin .eql (.t 55) (.c (.int .i64 23)), (some (54, true))⟩,
    ⟨(some 57), .pick (.t 54) (.t 56) (.c (.bool false)), none⟩,
    ⟨(some 58), .mov (.t 57), none⟩,
    ⟨(some 59), .mov (.t 9), (some (58, true))⟩,
    ⟨(some 60), .bin .eql (.t 59) (.c (.int .i64 2)), (some (58, true))⟩,
    ⟨(some 61), .pick (.t 58) (.t 60) (.c (.bool false)), none⟩,
    ⟨(some 62), .mov (.t 61), none⟩,
    ⟨(some 63), .mov (.t 10), (some (62, true))⟩,
    ⟨(some 64), .bin .eql (.t 63) (.c (.int .i64 0)), (some (62, true))⟩,
    ⟨(some 65), .pick (.t 62) (.t 64) (.c (.bool false)), none⟩,
    ⟨(some 66), .mov (.t 65), none⟩,
    ⟨(some 67), .mov (.t 11), (some (66, true))⟩,
    ⟨(some 68), .pick (.t 66) (.t 67) (.c (.bool false)), none⟩,
    ⟨(some 69), .mov (.t 68), none⟩,
    ⟨(some 70), .call (.c (.fn n_engramlaw9_one [])) [(.c (.str ⟨#[]⟩))], (some (69, true))⟩,
    ⟨(some 71), .call (.c (.fn n_check_Find [])) [(.t 70), (.c (.int .i32 102))], (some (69, true))⟩,
    ⟨(some 72), .bin .eql (.t 71) (.c (.int .i64 0)), (some (69, true))⟩,
    ⟨(some 73), .pick (.t 69) (.t 72) (.c (.bool false)), none⟩,
    ⟨(some 74), .mov (.t 73), none⟩,
    ⟨(some 75), .call (.c (.fn n_engramlaw9_one [])) [(.c (.str ⟨#[]⟩))], (some (74, true))⟩,
    ⟨(some 76), .call (.c (.fn n_check_Find [])) [(.t 75), (.c (.int .i32 120))], (some (74, true))⟩,
    ⟨(some 77), .bin .eql (.t 76) (.c (.int .i64 (-1))), (some (74, true))⟩,
    ⟨(some 78), .pick (.t 74) (.t 77) (.c (.bool false)), none⟩,
    ⟨(some 0), .mov (.t 78), none⟩])
    (.ret)))))))

def l0_engramkeep_Unit : IC :=
  .seq (.seq (.reg [⟨(some 42), .mov (.t 8), none⟩,
    ⟨(some 43), .bin .gtr (.t 42) (.c (.int .i64 0)), none⟩])
   (.cond (.t 43)
    (.skip)
    (.exit 2)))
  (.seq (.block 3 (.seq (.reg [⟨(some 46), .mov (.t 3), none⟩,
    ⟨(some 47), .fadr 2 (.t 4), none⟩,
    ⟨(some 48), .ld false 1 (.t 47), none⟩,
    ⟨(some 49), .call (.c (.fn n_engramkeep_Tape_deed [])) [(.t 46), (.c (.int .i64 2)), (.t 48)], none⟩,
    ⟨(some 9), .mov (.t 49), none⟩])
    (.seq (.reg [⟨(some 50), .mov (.t 7), none⟩,
    ⟨(some 51), .lens (.t 50), none⟩,
    ⟨(some 52), .mov (.t 9), none⟩,
    ⟨(some 53), .lens (.t 52), none⟩,
    ⟨(some 54), .bin .add (.t 51) (.t 53), none⟩,
    ⟨(some 55), .bin .lss (.t 54) (.c (.int .i64 250)), none⟩,
    ⟨(some 56), .mov (.t 55), none⟩,
    ⟨(some 57), .mov (.t 9), (some (56, true))⟩,
    ⟨(some 58), .call (.c (.fn n_engramkeep_halts [])) [(.t 57)], (some (56, true))⟩,
    ⟨(some 59), .un .not (.t 58), (some (56, true))⟩,
    ⟨(some 60), .pick (.t 56) (.t 59) (.c (.bool false)), none⟩])
    (.cond (.t 60)
    (.reg [⟨(some 61), .mov (.t 7), none⟩,
    ⟨(some 62), .mov (.t 9), none⟩,
    ⟨(some 63), .bin .add (.t 61) (.t 62), none⟩,
    ⟨(some 7), .mov (.t 63), none⟩])
    (.skip)))))
   (.reg [⟨(some 44), .mov (.t 8), none⟩,
    ⟨(some 45), .bin .sub (.t 44) (.c (.int .i64 1)), none⟩,
    ⟨(some 8), .mov (.t 45), none⟩]))
def l1_engramkeep_Unit : IC :=
  .seq (.seq (.reg [⟨(some 26), .mov (.t 5), none⟩,
    ⟨(some 27), .mov (.t 3), none⟩,
    ⟨(some 28), .call (.c (.fn n_engramkeep_Tape_Next [])) [(.t 27), (.c (.int .i64 3))], none⟩,
    ⟨(some 29), .bin .add (.c (.int .i64 1)) (.t 28), none⟩,
    ⟨(some 30), .bin .lss (.t 26) (.t 29), none⟩])
   (.cond (.t 30)
    (.skip)
    (.exit 0)))
  (.seq (.block 1 (.seq (.regW [⟨(some 33), .call (.c (.fn n_engramkeep_Names [])) [], none⟩,
    ⟨(some 34), .mov (.t 5), none⟩,
    ⟨(some 35), .iadr 1 (.t 33) (.t 34), none⟩,
    ⟨(some 36), .ld false 1 (.t 35), none⟩,
    ⟨(some 37), .mov (.t 3), none⟩,
    ⟨(some 38), .call (.c (.fn n_engramkeep_Tape_Next [])) [(.t 37), (.c (.int .i64 3))], none⟩,
    ⟨(some 39), .build [.int .i32 0, .int .i64 0, .str ⟨#[]⟩] [(0, 1, (.t 36)), (1, 1, (.t 38))], none⟩,
    ⟨(some 6), .alloc [.int .i32 0, .int .i64 0, .str ⟨#[]⟩], none⟩,
    ⟨none, .st 3 (.t 6) (.t 39), none⟩] [(3, 7), (3, 8)])
    (.seq (.reg [⟨(some 7), .mov (.c (.str ⟨#[]⟩)), none⟩])
    (.seq (.seq (.reg [⟨(some 40), .mov (.t 3), none⟩,
    ⟨(some 41), .call (.c (.fn n_engramkeep_Tape_Next [])) [(.t 40), (.c (.int .i64 4))], none⟩,
    ⟨(some 8), .mov (.t 41), none⟩])
    (.block 2 (.loopK [2, 3, 4, 5, 6, 7, 8] l0_engramkeep_Unit)))
    (.keep [2, 3, 4, 5, 6, 7] (.seq (.reg [⟨(some 64), .mov (.t 3), none⟩,
    ⟨(some 65), .fadr 2 (.t 4), none⟩,
    ⟨(some 66), .ld false 1 (.t 65), none⟩,
    ⟨(some 67), .call (.c (.fn n_engramkeep_Tape_value [])) [(.t 64), (.c (.int .i64 3)), (.t 66)], none⟩,
    ⟨(some 10), .mov (.t 67), none⟩])
    (.seq (.seq (.reg [⟨(some 68), .mov (.t 7), none⟩,
    ⟨(some 69), .lens (.t 68), none⟩,
    ⟨(some 70), .mov (.t 10), none⟩,
    ⟨(some 71), .lens (.t 70), none⟩,
    ⟨(some 72), .bin .add (.t 69) (.t 71), none⟩,
    ⟨(some 73), .bin .gtr (.t 72) (.c (.int .i64 400)), none⟩])
    (.cond (.t 73)
    (.reg [⟨(some 10), .mov (.c (.str ⟨#[32, 53]⟩)), none⟩])
    (.skip)))
    (.seq (.reg [⟨(some 74), .mov (.t 7), none⟩,
    ⟨(some 75), .mov (.t 10), none⟩,
    ⟨(some 76), .bin .add (.t 74) (.t 75), none⟩,
    ⟨(some 77), .fadr 2 (.t 6), none⟩,
    ⟨none, .st 1 (.t 77) (.t 76), none⟩])
    (.seq (.reg [⟨(some 78), .fadr 2 (.t 4), none⟩,
    ⟨(some 79), .ld false 1 (.t 78), none⟩,
    ⟨(some 80), .ld true 3 (.t 6), none⟩,
    ⟨(some 81), .bslice 3 [.int .i32 0, .int .i64 0, .str ⟨#[]⟩] 1 [(0, 3, (.t 80))], none⟩,
    ⟨(some 82), .app 3 32 (.t 79) (.t 81), none⟩,
    ⟨(some 83), .fadr 2 (.t 4), none⟩,
    ⟨none, .st 1 (.t 83) (.t 82), none⟩])
    (.seq (.reg [⟨(some 85), .ld true 3 (.t 4), none⟩,
    ⟨(some 86), .mov (.t 5), none⟩,
    ⟨(some 87), .call (.c (.fn n_engramref9_Func [])) [(.t 85), (.t 86)], none⟩,
    ⟨(some 84), .mov (.t 87), none⟩,
    ⟨(some 88), .ext (.t 84) 0, none⟩,
    ⟨(some 89), .ext (.t 84) 1, none⟩,
    ⟨(some 11), .mov (.t 88), none⟩,
    ⟨(some 12), .mov (.t 89), none⟩])
    (.seq (.reg [⟨(some 90), .mov (.t 12), none⟩,
    ⟨(some 91), .bin .neq (.t 90) (.c (.int .i64 0)), none⟩])
    (.cond (.t 91)
    (.reg [⟨(some 92), .fadr 2 (.t 4), none⟩,
    ⟨(some 93), .ld false 1 (.t 92), none⟩,
    ⟨(some 94), .mov (.t 5), none⟩,
    ⟨(some 95), .iadr 3 (.t 93) (.t 94), none⟩,
    ⟨(some 96), .fadr 2 (.t 95), none⟩,
    ⟨none, .st 1 (.t 96) (.c (.str ⟨#[97, 32, 49, 43]⟩)), none⟩])
    (.skip)))))))))))))
   (.keep [2, 3, 4, 5] (.reg [⟨(some 31), .mov (.t 5), none⟩,
    ⟨(some 32), .bin .add (.t 31) (.c (.int .i64 1)), none⟩,
    ⟨(some 5), .mov (.t 32), none⟩])))
/-- engram/engramkeep.Unit -/
def f_engramkeep_Unit : IFun where
  nargs := 1
  results := [.cell 2 true 3]
  pure := true
  frz := true
  drop := []
  body :=
   .seq (.reg [⟨(some 2), .alloc [.int .i64 0, .int .i64 0, .nilsl], none⟩])
   (.seq (.reg [⟨(some 13), .mov (.t 0), none⟩,
    ⟨(some 14), .build [.nilsl, .int .i64 0] [(0, 1, (.t 13))], none⟩,
    ⟨(some 15), .box (.t 14), none⟩,
    ⟨(some 3), .mov (.t 15), none⟩])
    (.seq (.reg [⟨(some 16), .mov (.t 3), none⟩,
    ⟨(some 17), .call (.c (.fn n_engramkeep_Tape_Next [])) [(.t 16), (.c (.int .i64 3))], none⟩,
    ⟨(some 18), .build [.int .i64 0, .int .i64 0, .nilsl] [(0, 1, (.t 17))], none⟩,
    ⟨(some 4), .alloc [.int .i64 0, .int .i64 0, .nilsl], none⟩,
    ⟨none, .st 3 (.t 4) (.t 18), none⟩])
    (.seq (.regW [⟨(some 19), .fadr 0 (.t 4), none⟩,
    ⟨(some 20), .ld false 1 (.t 19), none⟩,
    ⟨(some 21), .bin .add (.t 20) (.c (.int .i64 1)), none⟩,
    ⟨(some 22), .mov (.t 3), none⟩,
    ⟨(some 23), .call (.c (.fn n_engramkeep_Tape_Next [])) [(.t 22), (.c (.int .i64 3))], none⟩,
    ⟨(some 24), .bin .add (.t 21) (.t 23), none⟩,
    ⟨(some 25), .fadr 1 (.t 4), none⟩,
    ⟨none, .st 1 (.t 25) (.t 24), none⟩] [(1, 7)])
    (.seq (.seq (.reg [⟨(some 5), .mov (.c (.int .i64 0)), none⟩])
    (.block 0 (.loopK [2, 3, 4, 5] l1_engramkeep_Unit)))
    (.keep [2, 4] (.seq (.reg [⟨(some 97), .ld true 3 (.t 4), none⟩,
    ⟨none, .st 3 (.t 2) (.t 97), none⟩])
    (.ret)))))))

def l0_engramkeep_Odd : IC :=
  .seq (.seq (.reg [⟨(some 6), .mov (.t 5), none⟩,
    ⟨(some 7), .mov (.t 1), none⟩,
    ⟨(some 8), .len (.t 7), none⟩,
    ⟨(some 9), .bin .lss (.t 6) (.t 8), none⟩,
    ⟨(some 10), .mov (.t 9), none⟩,
    ⟨(some 11), .mov (.t 5), (some (10, true))⟩,
    ⟨(some 12), .bin .lss (.t 11) (.c (.int .i64 4)), (some (10, true))⟩,
    ⟨(some 13), .pick (.t 10) (.t 12) (.c (.bool false)), none⟩])
   (.cond (.t 13)
    (.skip)
    (.exit 0)))
  (.seq (.block 1 (.reg [⟨(some 16), .ld true 3 (.t 2), none⟩,
    ⟨(some 17), .mov (.t 1), none⟩,
    ⟨(some 18), .mov (.t 5), none⟩,
    ⟨(some 19), .iadr 5 (.t 17) (.t 18), none⟩,
    ⟨(some 20), .ld true 5 (.t 19), none⟩,
    ⟨(some 21), .call (.c (.fn n_engramkeep_odd [])) [(.t 16), (.t 20)], none⟩,
    ⟨none, .st 3 (.t 2) (.t 21), none⟩]))
   (.reg [⟨(some 14), .mov (.t 5), none⟩,
    ⟨(some 15), .bin .add (.t 14) (.c (.int .i64 1)), none⟩,
    ⟨(some 5), .mov (.t 15), none⟩]))
/-- engram/engramkeep.Odd -/
def f_engramkeep_Odd : IFun where
  nargs := 2
  results := [.cell 4 true 3]
  pure := true
  frz := true
  drop := []
  body :=
   .seq (.reg [⟨(some 2), .box (.t 0), none⟩,
    ⟨(some 4), .alloc [.int .i64 0, .int .i64 0, .nilsl], none⟩])
   (.seq (.seq (.reg [⟨(some 5), .mov (.c (.int .i64 0)), none⟩])
    (.block 0 (.loopK [1, 2, 4, 5] l0_engramkeep_Odd)))
    (.keep [2, 4] (.seq (.reg [⟨(some 22), .ld true 3 (.t 2), none⟩,
    ⟨none, .st 3 (.t 4) (.t 22), none⟩])
    (.ret))))

def l0_check_Func : IC :=
  .seq (.reg [⟨(some 50), .bin .lss (.t 49) (.t 48), none⟩])
  (.seq (.cond (.t 50)
    (.skip)
    (.exit 0))
   (.seq (.block 1 (.seq (.reg [⟨(some 51), .iadr 3 (.t 47) (.t 49), none⟩,
    ⟨(some 52), .ld true 3 (.t 51), none⟩,
    ⟨(some 12), .alloc [.int .i32 0, .int .i64 0, .int .i32 0], none⟩,
    ⟨none, .st 3 (.t 12) (.t 52), none⟩])
    (.seq (.reg [⟨(some 53), .mov (.t 10), none⟩,
    ⟨(some 54), .ld true 3 (.t 12), none⟩,
    ⟨(some 55), .call (.c (.fn n_check_judge_token [])) [(.t 53), (.t 54)], none⟩,
    ⟨(some 13), .mov (.t 55), none⟩])
    (.seq (.reg [⟨(some 56), .mov (.t 13), none⟩,
    ⟨(some 57), .bin .neq (.t 56) (.c (.int .i64 0)), none⟩])
    (.cond (.t 57)
    (.seq (.reg [⟨(some 58), .mov (.t 13), none⟩,
    ⟨(some 4), .mov (.c (.nilsl)), none⟩,
    ⟨(some 5), .mov (.t 58), none⟩])
    (.ret))
    (.skip))))))
    (.reg [⟨(some 59), .bin .add (.t 49) (.c (.int .i64 1)), none⟩,
    ⟨(some 49), .mov (.t 59), none⟩])))
/-- engram/check.Func -/
def f_check_Func : IFun where
  nargs := 2
  results := [.tmp 4, .tmp 5]
  pure := true
  frz := true
  drop := []
  body :=
   .seq (.reg [⟨(some 2), .box (.t 0), none⟩,
    ⟨(some 4), .mov (.c (.nilsl)), none⟩,
    ⟨(some 5), .mov (.c (.int .i64 0)), none⟩])
   (.seq (.seq (.reg [⟨(some 14), .mov (.t 1), none⟩,
    ⟨(some 15), .bin .lss (.t 14) (.c (.int .i64 0)), none⟩,
    ⟨(some 16), .mov (.t 15), none⟩,
    ⟨(some 17), .mov (.t 1), (some (16, false))⟩,
    ⟨(some 18), .fadr 2 (.t 2), (some (16, false))⟩,
    ⟨(some 19), .ld false 1 (.t 18), (some (16, false))⟩,
    ⟨(some 20), .len (.t 19), (some (16, false))⟩,
    ⟨(some 21), .bin .geq (.t 17) (.t 20), (some (16, false))⟩,
    ⟨(some 22), .pick (.t 16) (.c (.bool true)) (.t 21), none⟩])
    (.cond (.t 22)
    (.seq (.reg [⟨(some 4), .mov (.c (.nilsl)), none⟩,
    ⟨(some 5), .mov (.c (.int .i64 23)), none⟩])
    (.ret))
    (.skip)))
    (.seq (.reg [⟨(some 24), .fadr 2 (.t 2), none⟩,
    ⟨(some 25), .ld false 1 (.t 24), none⟩,
    ⟨(some 26), .mov (.t 1), none⟩,
    ⟨(some 27), .iadr 3 (.t 25) (.t 26), none⟩,
    ⟨(some 28), .fadr 2 (.t 27), none⟩,
    ⟨(some 29), .ld false 1 (.t 28), none⟩,
    ⟨(some 30), .call (.c (.fn n_glyph_Tokens [])) [(.t 29)], none⟩,
    ⟨(some 23), .mov (.t 30), none⟩,
    ⟨(some 31), .ext (.t 23) 0, none⟩,
    ⟨(some 32), .ext (.t 23) 1, none⟩,
    ⟨(some 6), .mov (.t 31), none⟩,
    ⟨(some 7), .mov (.t 32), none⟩])
    (.seq (.seq (.reg [⟨(some 33), .mov (.t 7), none⟩,
    ⟨(some 34), .bin .neq (.t 33) (.c (.int .i64 0)), none⟩])
    (.cond (.t 34)
    (.seq (.reg [⟨(some 35), .mov (.t 7), none⟩,
    ⟨(some 4), .mov (.c (.nilsl)), none⟩,
    ⟨(some 5), .mov (.t 35), none⟩])
    (.ret))
    (.skip)))
    (.seq (.seq (.reg [⟨(some 37), .mov (.t 6), none⟩,
    ⟨(some 38), .call (.c (.fn n_nest_Of [])) [(.t 37)], none⟩,
    ⟨(some 36), .mov (.t 38), none⟩,
    ⟨(some 39), .ext (.t 36) 0, none⟩,
    ⟨(some 40), .ext (.t 36) 1, none⟩,
    ⟨(some 8), .mov (.t 39), none⟩,
    ⟨(some 9), .mov (.t 40), none⟩])
    (.seq (.reg [⟨(some 41), .mov (.t 9), none⟩,
    ⟨(some 42), .bin .neq (.t 41) (.c (.int .i64 0)), none⟩])
    (.cond (.t 42)
    (.seq (.reg [⟨(some 43), .mov (.t 9), none⟩,
    ⟨(some 4), .mov (.c (.nilsl)), none⟩,
    ⟨(some 5), .mov (.t 43), none⟩])
    (.ret))
    (.skip))))
    (.seq (.reg [⟨(some 44), .ld true 3 (.t 2), none⟩,
    ⟨(some 45), .build [.int .i64 0, .int .i64 0, .nilsl, .int .i64 0, .nilsl, .nilsl] [(0, 3, (.t 44))], none⟩,
    ⟨(some 46), .box (.t 45), none⟩,
    ⟨(some 10), .mov (.t 46), none⟩])
    (.seq (.seq (.reg [⟨(some 47), .mov (.t 6), none⟩,
    ⟨(some 48), .len (.t 47), none⟩,
    ⟨(some 49), .mov (.c (.int .i64 0)), none⟩])
    (.block 0 (.loopK [10, 47, 48, 49] l0_check_Func)))
    (.keep [10] (.seq (.seq (.reg [⟨(some 60), .mov (.t 10), none⟩,
    ⟨(some 61), .nilc (.t 60), none⟩,
    ⟨(some 62), .fadr 3 (.t 61), none⟩,
    ⟨(some 63), .ld false 1 (.t 62), none⟩,
    ⟨(some 64), .bin .neq (.t 63) (.c (.int .i64 (-1))), none⟩,
    ⟨(some 65), .mov (.t 64), none⟩,
    ⟨(some 66), .mov (.t 10), (some (65, true))⟩,
    ⟨(some 67), .nilc (.t 66), (some (65, true))⟩,
    ⟨(some 68), .fadr 3 (.t 67), (some (65, true))⟩,
    ⟨(some 69), .ld false 1 (.t 68), (some (65, true))⟩,
    ⟨(some 70), .bin .neq (.t 69) (.c (.int .i64 1)), (some (65, true))⟩,
    ⟨(some 71), .pick (.t 65) (.t 70) (.c (.bool false)), none⟩])
    (.cond (.t 71)
    (.seq (.reg [⟨(some 4), .mov (.c (.nilsl)), none⟩,
    ⟨(some 5), .mov (.c (.int .i64 14)), none⟩])
    (.ret))
    (.skip)))
    (.seq (.reg [⟨(some 72), .mov (.t 10), none⟩,
    ⟨(some 73), .nilc (.t 72), none⟩,
    ⟨(some 74), .fadr 5 (.t 73), none⟩,
    ⟨(some 75), .ld false 1 (.t 74), none⟩,
    ⟨(some 4), .mov (.t 75), none⟩,
    ⟨(some 5), .mov (.c (.int .i64 0)), none⟩])
    (.ret))))))))))

def l0_engramref9_Tokens : IC :=
  .seq (.seq (.reg [⟨(some 34), .mov (.t 6), none⟩,
    ⟨(some 35), .mov (.t 4), none⟩,
    ⟨(some 36), .len (.t 35), none⟩,
    ⟨(some 37), .bin .lss (.t 34) (.t 36), none⟩,
    ⟨(some 38), .mov (.t 37), none⟩,
    ⟨(some 39), .mov (.t 4), (some (38, true))⟩,
    ⟨(some 40), .mov (.t 6), (some (38, true))⟩,
    ⟨(some 41), .iadr 1 (.t 39) (.t 40), (some (38, true))⟩,
    ⟨(some 42), .ld false 1 (.t 41), (some (38, true))⟩,
    ⟨(some 43), .bin .geq (.t 42) (.c (.int .i32 48)), (some (38, true))⟩,
    ⟨(some 44), .pick (.t 38) (.t 43) (.c (.bool false)), none⟩,
    ⟨(some 45), .mov (.t 44), none⟩,
    ⟨(some 46), .mov (.t 4), (some (45, true))⟩,
    ⟨(some 47), .mov (.t 6), (some (45, true))⟩,
    ⟨(some 48), .iadr 1 (.t 46) (.t 47), (some (45, true))⟩,
    ⟨(some 49), .ld false 1 (.t 48), (some (45, true))⟩,
    ⟨(some 50), .bin .leq (.t 49) (.c (.int .i32 57)), (some (45, true))⟩,
    ⟨(some 51), .pick (.t 45) (.t 50) (.c (.bool false)), none⟩])
   (.cond (.t 51)
    (.skip)
    (.exit 3)))
  (.block 4 (.seq (.seq (.reg [⟨(some 52), .mov (.t 8), none⟩,
    ⟨(some 53), .mov (.t 4), none⟩,
    ⟨(some 54), .mov (.t 6), none⟩,
    ⟨(some 55), .iadr 1 (.t 53) (.t 54), none⟩,
    ⟨(some 56), .ld false 1 (.t 55), none⟩,
    ⟨(some 57), .bin .sub (.t 56) (.c (.int .i32 48)), none⟩,
    ⟨(some 58), .cint .u64 (.t 57), none⟩,
    ⟨(some 59), .bin .sub (.c (.int .u64 9223372036854775807)) (.t 58), none⟩,
    ⟨(some 60), .bin .quo (.t 59) (.c (.int .u64 10)), none⟩,
    ⟨(some 61), .bin .gtr (.t 52) (.t 60), none⟩])
    (.cond (.t 61)
    (.seq (.reg [⟨(some 2), .mov (.c (.nilsl)), none⟩,
    ⟨(some 3), .mov (.c (.int .i64 12)), none⟩])
    (.ret))
    (.skip)))
    (.seq (.reg [⟨(some 62), .mov (.t 8), none⟩,
    ⟨(some 63), .bin .mul (.t 62) (.c (.int .u64 10)), none⟩,
    ⟨(some 64), .mov (.t 4), none⟩,
    ⟨(some 65), .mov (.t 6), none⟩,
    ⟨(some 66), .iadr 1 (.t 64) (.t 65), none⟩,
    ⟨(some 67), .ld false 1 (.t 66), none⟩,
    ⟨(some 68), .bin .sub (.t 67) (.c (.int .i32 48)), none⟩,
    ⟨(some 69), .cint .u64 (.t 68), none⟩,
    ⟨(some 70), .bin .add (.t 63) (.t 69), none⟩,
    ⟨(some 8), .mov (.t 70), none⟩])
    (.reg [⟨(some 71), .mov (.t 6), none⟩,
    ⟨(some 72), .bin .add (.t 71) (.c (.int .i64 1)), none⟩,
    ⟨(some 6), .mov (.t 72), none⟩]))))
def l1_engramref9_Tokens : IC :=
  .seq (.seq (.reg [⟨(some 14), .mov (.t 6), none⟩,
    ⟨(some 15), .mov (.t 4), none⟩,
    ⟨(some 16), .len (.t 15), none⟩,
    ⟨(some 17), .bin .lss (.t 14) (.t 16), none⟩])
   (.cond (.t 17)
    (.skip)
    (.exit 0)))
  (.seq (.block 1 (.seq (.reg [⟨(some 20), .mov (.t 4), none⟩,
    ⟨(some 21), .mov (.t 6), none⟩,
    ⟨(some 22), .iadr 1 (.t 20) (.t 21), none⟩,
    ⟨(some 23), .ld false 1 (.t 22), none⟩,
    ⟨(some 7), .mov (.t 23), none⟩])
    (.block 2 (.seq (.reg [⟨(some 25), .mov (.t 7), none⟩,
    ⟨(some 26), .bin .eql (.t 25) (.c (.int .i32 32)), none⟩,
    ⟨(some 24), .mov (.t 26), none⟩])
    (.cond (.t 24)
    (.skip)
    (.seq (.reg [⟨(some 28), .mov (.t 7), none⟩,
    ⟨(some 29), .bin .geq (.t 28) (.c (.int .i32 48)), none⟩,
    ⟨(some 30), .mov (.t 29), none⟩,
    ⟨(some 31), .mov (.t 7), (some (30, true))⟩,
    ⟨(some 32), .bin .leq (.t 31) (.c (.int .i32 57)), (some (30, true))⟩,
    ⟨(some 33), .pick (.t 30) (.t 32) (.c (.bool false)), none⟩,
    ⟨(some 27), .mov (.t 33), none⟩])
    (.cond (.t 27)
    (.seq (.reg [⟨(some 8), .mov (.c (.int .u64 0)), none⟩])
    (.seq (.block 3 (.loopK [4, 5, 6, 8] l0_engramref9_Tokens))
    (.keep [4, 5, 6, 8] (.seq (.reg [⟨(some 73), .mov (.t 6), none⟩,
    ⟨(some 74), .bin .sub (.t 73) (.c (.int .i64 1)), none⟩,
    ⟨(some 6), .mov (.t 74), none⟩])
    (.reg [⟨(some 75), .mov (.t 5), none⟩,
    ⟨(some 76), .mov (.t 8), none⟩,
    ⟨(some 77), .cint .i64 (.t 76), none⟩,
    ⟨(some 78), .build [.int .i32 0, .int .i64 0, .int .i32 0] [(0, 1, (.c (.int .i32 48))), (1, 1, (.t 77))], none⟩,
    ⟨(some 79), .bslice 3 [.int .i32 0, .int .i64 0, .int .i32 0] 1 [(0, 3, (.t 78))], none⟩,
    ⟨(some 80), .app 3 24 (.t 75) (.t 79), none⟩,
    ⟨(some 5), .mov (.t 80), none⟩])))))
    (.seq (.reg [⟨(some 82), .mov (.t 7), none⟩,
    ⟨(some 83), .bin .eql (.t 82) (.c (.int .i32 955)), none⟩,
    ⟨(some 84), .mov (.t 83), none⟩,
    ⟨(some 85), .mov (.t 7), (some (84, false))⟩,
    ⟨(some 86), .bin .eql (.t 85) (.c (.int .i32 960)), (some (84, false))⟩,
    ⟨(some 87), .pick (.t 84) (.c (.bool true)) (.t 86), none⟩,
    ⟨(some 81), .mov (.t 87), none⟩])
    (.cond (.t 81)
    (.seq (.seq (.reg [⟨(some 88), .mov (.t 6), none⟩,
    ⟨(some 89), .bin .add (.t 88) (.c (.int .i64 1)), none⟩,
    ⟨(some 90), .mov (.t 4), none⟩,
    ⟨(some 91), .len (.t 90), none⟩,
    ⟨(some 92), .bin .geq (.t 89) (.t 91), none⟩,
    ⟨(some 93), .mov (.t 92), none⟩,
    ⟨(some 94), .mov (.t 4), (some (93, false))⟩,
    ⟨(some 95), .mov (.t 6), (some (93, false))⟩,
    ⟨(some 96), .bin .add (.t 95) (.c (.int .i64 1)), (some (93, false))⟩,
    ⟨(some 97), .iadr 1 (.t 94) (.t 96), (some (93, false))⟩,
    ⟨(some 98), .ld false 1 (.t 97), (some (93, false))⟩,
    ⟨(some 99), .call (.c (.fn n_engramref9_Name [])) [(.t 98)], (some (93, false))⟩,
    ⟨(some 100), .un .not (.t 99), (some (93, false))⟩,
    ⟨(some 101), .pick (.t 93) (.c (.bool true)) (.t 100), none⟩])
    (.cond (.t 101)
    (.seq (.reg [⟨(some 2), .mov (.c (.nilsl)), none⟩,
    ⟨(some 3), .mov (.c (.int .i64 12)), none⟩])
    (.ret))
    (.skip)))
    (.seq (.reg [⟨(some 102), .mov (.t 5), none⟩,
    ⟨(some 103), .mov (.t 7), none⟩,
    ⟨(some 104), .mov (.t 4), none⟩,
    ⟨(some 105), .mov (.t 6), none⟩,
    ⟨(some 106), .bin .add (.t 105) (.c (.int .i64 1)), none⟩,
    ⟨(some 107), .iadr 1 (.t 104) (.t 106), none⟩,
    ⟨(some 108), .ld false 1 (.t 107), none⟩,
    ⟨(some 109), .build [.int .i32 0, .int .i64 0, .int .i32 0] [(0, 1, (.t 103)), (2, 1, (.t 108))], none⟩,
    ⟨(some 110), .bslice 3 [.int .i32 0, .int .i64 0, .int .i32 0] 1 [(0, 3, (.t 109))], none⟩,
    ⟨(some 111), .app 3 24 (.t 102) (.t 110), none⟩,
    ⟨(some 5), .mov (.t 111), none⟩])
    (.reg [⟨(some 112), .mov (.t 6), none⟩,
    ⟨(some 113), .bin .add (.t 112) (.c (.int .i64 1)), none⟩,
    ⟨(some 6), .mov (.t 113), none⟩])))
    (.seq (.reg [⟨(some 115), .mov (.t 7), none⟩,
    ⟨(some 116), .call (.c (.fn n_engramref9_Known [])) [(.t 115)], none⟩,
    ⟨(some 114), .mov (.t 116), none⟩])
    (.cond (.t 114)
    (.reg [⟨(some 117), .mov (.t 5), none⟩,
    ⟨(some 118), .mov (.t 7), none⟩,
    ⟨(some 119), .build [.int .i32 0, .int .i64 0, .int .i32 0] [(0, 1, (.t 118))], none⟩,
    ⟨(some 120), .bslice 3 [.int .i32 0, .int .i64 0, .int .i32 0] 1 [(0, 3, (.t 119))], none⟩,
    ⟨(some 121), .app 3 24 (.t 117) (.t 120), none⟩,
    ⟨(some 5), .mov (.t 121), none⟩])
    (.seq (.reg [⟨(some 2), .mov (.c (.nilsl)), none⟩,
    ⟨(some 3), .mov (.c (.int .i64 12)), none⟩])
    (.ret)))))))))))))
   (.keep [4, 5, 6] (.reg [⟨(some 18), .mov (.t 6), none⟩,
    ⟨(some 19), .bin .add (.t 18) (.c (.int .i64 1)), none⟩,
    ⟨(some 6), .mov (.t 19), none⟩])))
/-- engram/engramref9.Tokens -/
def f_engramref9_Tokens : IFun where
  nargs := 1
  results := [.tmp 2, .tmp 3]
  pure := true
  frz := true
  drop := []
  body :=
   .seq (.reg [⟨(some 2), .mov (.c (.nilsl)), none⟩,
    ⟨(some 3), .mov (.c (.int .i64 0)), none⟩])
   (.seq (.seq (.reg [⟨(some 9), .mov (.t 0), none⟩,
    ⟨(some 10), .lens (.t 9), none⟩,
    ⟨(some 11), .bin .gtr (.t 10) (.c (.int .i64 512)), none⟩])
    (.cond (.t 11)
    (.seq (.reg [⟨(some 2), .mov (.c (.nilsl)), none⟩,
    ⟨(some 3), .mov (.c (.int .i64 3)), none⟩])
    (.ret))
    (.skip)))
    (.seq (.reg [⟨(some 12), .mov (.t 0), none⟩,
    ⟨(some 13), .call (.c (.fn n_engramref9_runes [])) [(.t 12)], none⟩,
    ⟨(some 4), .mov (.t 13), none⟩])
    (.seq (.reg [⟨(some 5), .mov (.c (.nilsl)), none⟩])
    (.seq (.seq (.reg [⟨(some 6), .mov (.c (.int .i64 0)), none⟩])
    (.block 0 (.loopK [4, 5, 6] l1_engramref9_Tokens)))
    (.keep [5] (.seq (.reg [⟨(some 122), .mov (.t 5), none⟩,
    ⟨(some 2), .mov (.t 122), none⟩,
    ⟨(some 3), .mov (.c (.int .i64 0)), none⟩])
    (.ret)))))))


/-- engram/check.Takes -/
def f_check_Takes : IFun where
  nargs := 2
  results := [.tmp 4, .tmp 5, .tmp 6]
  pure := true
  frz := true
  drop := []
  body :=
   .seq (.reg [⟨(some 2), .box (.t 0), none⟩,
    ⟨(some 3), .box (.t 1), none⟩,
    ⟨(some 4), .mov (.c (.int .i64 0)), none⟩,
    ⟨(some 5), .mov (.c (.int .i64 0)), none⟩,
    ⟨(some 6), .mov (.c (.bool false)), none⟩])
   (.seq (.reg [⟨(some 10), .fadr 0 (.t 3), none⟩,
    ⟨(some 11), .ld false 1 (.t 10), none⟩,
    ⟨(some 7), .alloc [.int .i32 0], none⟩,
    ⟨none, .st 1 (.t 7) (.t 11), none⟩])
    (.seq (.reg [⟨(some 12), .mkfn n_check_Takes_1 [(.t 7)], none⟩,
    ⟨(some 8), .mov (.t 12), none⟩])
    (.seq (.block 0 (.seq (.reg [⟨(some 14), .ld false 1 (.t 7), none⟩,
    ⟨(some 15), .bin .eql (.t 14) (.c (.int .i32 955)), none⟩,
    ⟨(some 13), .mov (.t 15), none⟩])
    (.cond (.t 13)
    (.seq (.reg [⟨(some 16), .ld true 3 (.t 2), none⟩,
    ⟨(some 17), .fadr 2 (.t 3), none⟩,
    ⟨(some 18), .ld false 1 (.t 17), none⟩,
    ⟨(some 19), .call (.c (.fn n_check_Find [])) [(.t 16), (.t 18)], none⟩,
    ⟨(some 9), .mov (.t 19), none⟩])
    (.seq (.seq (.reg [⟨(some 20), .mov (.t 9), none⟩,
    ⟨(some 21), .bin .lss (.t 20) (.c (.int .i64 0)), none⟩,
    ⟨(some 22), .mov (.t 21), none⟩,
    ⟨(some 23), .fadr 2 (.t 2), (some (22, false))⟩,
    ⟨(some 24), .ld false 1 (.t 23), (some (22, false))⟩,
    ⟨(some 25), .mov (.t 9), (some (22, false))⟩,
    ⟨(some 26), .iadr 3 (.t 24) (.t 25), (some (22, false))⟩,
    ⟨(some 27), .fadr 1 (.t 26), (some (22, false))⟩,
    ⟨(some 28), .ld false 1 (.t 27), (some (22, false))⟩,
    ⟨(some 29), .bin .lss (.t 28) (.c (.int .i64 0)), (some (22, false))⟩,
    ⟨(some 30), .pick (.t 22) (.c (.bool true)) (.t 29), none⟩,
    ⟨(some 31), .mov (.t 30), none⟩,
    ⟨(some 32), .fadr 2 (.t 2), (some (31, false))⟩,
    ⟨(some 33), .ld false 1 (.t 32), (some (31, false))⟩,
    ⟨(some 34), .mov (.t 9), (some (31, false))⟩,
    ⟨(some 35), .iadr 3 (.t 33) (.t 34), (some (31, false))⟩,
    ⟨(some 36), .fadr 1 (.t 35), (some (31, false))⟩,
    ⟨(some 37), .ld false 1 (.t 36), (some (31, false))⟩,
    ⟨(some 38), .bin .gtr (.t 37) (.c (.int .i64 4)), (some (31, false))⟩,
    ⟨(some 39), .pick (.t 31) (.c (.bool true)) (.t 38), none⟩])
    (.cond (.t 39)
    (.seq (.reg [⟨(some 4), .mov (.c (.int .i64 0)), none⟩,
    ⟨(some 5), .mov (.c (.int .i64 0)), none⟩,
    ⟨(some 6), .mov (.c (.bool false)), none⟩])
    (.ret))
    (.skip)))
    (.seq (.reg [⟨(some 40), .fadr 2 (.t 2), none⟩,
    ⟨(some 41), .ld false 1 (.t 40), none⟩,
    ⟨(some 42), .mov (.t 9), none⟩,
    ⟨(some 43), .iadr 3 (.t 41) (.t 42), none⟩,
    ⟨(some 44), .fadr 1 (.t 43), none⟩,
    ⟨(some 45), .ld false 1 (.t 44), none⟩,
    ⟨(some 4), .mov (.t 45), none⟩,
    ⟨(some 5), .mov (.c (.int .i64 1)), none⟩,
    ⟨(some 6), .mov (.c (.bool true)), none⟩])
    (.ret))))
    (.seq (.reg [⟨(some 47), .ld false 1 (.t 7), none⟩,
    ⟨(some 48), .bin .eql (.t 47) (.c (.int .i32 48)), none⟩,
    ⟨(some 49), .mov (.t 48), none⟩,
    ⟨(some 50), .ld false 1 (.t 7), (some (49, false))⟩,
    ⟨(some 51), .bin .geq (.t 50) (.c (.int .i32 97)), (some (49, false))⟩,
    ⟨(some 52), .mov (.t 51), (some (49, false))⟩,
    ⟨(some 53), .ld false 1 (.t 7), (some (52, true))⟩,
    ⟨(some 54), .bin .leq (.t 53) (.c (.int .i32 122)), (some (52, true))⟩,
    ⟨(some 55), .pick (.t 52) (.t 54) (.c (.bool false)), (some (49, false))⟩,
    ⟨(some 56), .pick (.t 49) (.c (.bool true)) (.t 55), none⟩,
    ⟨(some 57), .mov (.t 56), none⟩,
    ⟨(some 58), .ld false 1 (.t 7), (some (57, false))⟩,
    ⟨(some 59), .bin .eql (.t 58) (.c (.int .i32 35)), (some (57, false))⟩,
    ⟨(some 60), .pick (.t 57) (.c (.bool true)) (.t 59), none⟩,
    ⟨(some 46), .mov (.t 60), none⟩])
    (.cond (.t 46)
    (.seq (.reg [⟨(some 4), .mov (.c (.int .i64 0)), none⟩,
    ⟨(some 5), .mov (.c (.int .i64 1)), none⟩,
    ⟨(some 6), .mov (.c (.bool true)), none⟩])
    (.ret))
    (.seq (.reg [⟨(some 62), .ld false 1 (.t 7), none⟩,
    ⟨(some 63), .bin .geq (.t 62) (.c (.int .i32 65)), none⟩,
    ⟨(some 64), .mov (.t 63), none⟩,
    ⟨(some 65), .ld false 1 (.t 7), (some (64, true))⟩,
    ⟨(some 66), .bin .leq (.t 65) (.c (.int .i32 90)), (some (64, true))⟩,
    ⟨(some 67), .pick (.t 64) (.t 66) (.c (.bool false)), none⟩,
    ⟨(some 68), .mov (.t 67), none⟩,
    ⟨(some 69), .ld false 1 (.t 7), (some (68, false))⟩,
    ⟨(some 70), .bin .eql (.t 69) (.c (.int .i32 44)), (some (68, false))⟩,
    ⟨(some 71), .pick (.t 68) (.c (.bool true)) (.t 70), none⟩,
    ⟨(some 72), .mov (.t 71), none⟩,
    ⟨(some 73), .ld false 1 (.t 7), (some (72, false))⟩,
    ⟨(some 74), .bin .eql (.t 73) (.c (.int .i32 63)), (some (72, false))⟩,
    ⟨(some 75), .pick (.t 72) (.c (.bool true)) (.t 74), none⟩,
    ⟨(some 61), .mov (.t 75), none⟩])
    (.cond (.t 61)
    (.seq (.reg [⟨(some 4), .mov (.c (.int .i64 1)), none⟩,
    ⟨(some 5), .mov (.c (.int .i64 0)), none⟩,
    ⟨(some 6), .mov (.c (.bool true)), none⟩])
    (.ret))
    (.seq (.reg [⟨(some 77), .ld false 1 (.t 7), none⟩,
    ⟨(some 78), .bin .eql (.t 77) (.c (.int .i32 46)), none⟩,
    ⟨(some 76), .mov (.t 78), none⟩])
    (.cond (.t 76)
    (.seq (.reg [⟨(some 4), .mov (.c (.int .i64 1)), none⟩,
    ⟨(some 5), .mov (.c (.int .i64 2)), none⟩,
    ⟨(some 6), .mov (.c (.bool true)), none⟩])
    (.ret))
    (.seq (.reg [⟨(some 80), .mov (.t 8), none⟩,
    ⟨(some 81), .call (.t 80) [(.c (.str ⟨#[43, 45, 42, 47, 37, 38, 124, 94, 60, 61, 194, 171, 194, 187]⟩))], none⟩,
    ⟨(some 79), .mov (.t 81), none⟩])
    (.cond (.t 79)
    (.seq (.reg [⟨(some 4), .mov (.c (.int .i64 2)), none⟩,
    ⟨(some 5), .mov (.c (.int .i64 1)), none⟩,
    ⟨(some 6), .mov (.c (.bool true)), none⟩])
    (.ret))
    (.seq (.reg [⟨(some 83), .mov (.t 8), none⟩,
    ⟨(some 84), .call (.t 83) [(.c (.str ⟨#[33, 64, 194, 169, 194, 164, 207, 128]⟩))], none⟩,
    ⟨(some 82), .mov (.t 84), none⟩])
    (.cond (.t 82)
    (.seq (.reg [⟨(some 4), .mov (.c (.int .i64 1)), none⟩,
    ⟨(some 5), .mov (.c (.int .i64 1)), none⟩,
    ⟨(some 6), .mov (.c (.bool true)), none⟩])
    (.ret))
    (.seq (.reg [⟨(some 86), .mov (.t 8), none⟩,
    ⟨(some 87), .call (.t 86) [(.c (.str ⟨#[36, 194, 174]⟩))], none⟩,
    ⟨(some 85), .mov (.t 87), none⟩])
    (.cond (.t 85)
    (.seq (.reg [⟨(some 4), .mov (.c (.int .i64 2)), none⟩,
    ⟨(some 5), .mov (.c (.int .i64 0)), none⟩,
    ⟨(some 6), .mov (.c (.bool true)), none⟩])
    (.ret))
    (.seq (.reg [⟨(some 89), .mov (.t 8), none⟩,
    ⟨(some 90), .call (.t 89) [(.c (.str ⟨#[58, 59, 91, 93, 126, 194, 161]⟩))], none⟩,
    ⟨(some 88), .mov (.t 90), none⟩])
    (.cond (.t 88)
    (.seq (.reg [⟨(some 4), .mov (.c (.int .i64 0)), none⟩,
    ⟨(some 5), .mov (.c (.int .i64 0)), none⟩,
    ⟨(some 6), .mov (.c (.bool true)), none⟩])
    (.ret))
    (.skip))))))))))))))))))
    (.seq (.reg [⟨(some 4), .mov (.c (.int .i64 0)), none⟩,
    ⟨(some 5), .mov (.c (.int .i64 0)), none⟩,
    ⟨(some 6), .mov (.c (.bool false)), none⟩])
    (.ret)))))

def l0_engramref9_Func : IC :=
  .seq (.reg [⟨(some 52), .bin .lss (.t 51) (.t 50), none⟩])
  (.seq (.cond (.t 52)
    (.skip)
    (.exit 0))
   (.seq (.block 1 (.seq (.reg [⟨(some 53), .iadr 3 (.t 49) (.t 51), none⟩,
    ⟨(some 54), .ld true 3 (.t 53), none⟩,
    ⟨(some 14), .alloc [.int .i32 0, .int .i64 0, .int .i32 0], none⟩,
    ⟨none, .st 3 (.t 14) (.t 54), none⟩])
    (.seq (.reg [⟨(some 55), .mov (.t 12), none⟩,
    ⟨(some 56), .mov (.t 11), none⟩,
    ⟨(some 57), .nilc (.t 56), none⟩,
    ⟨(some 58), .fadr 0 (.t 57), none⟩,
    ⟨(some 59), .ld false 1 (.t 58), none⟩,
    ⟨(some 60), .bslice 1 [.int .i64 0] 1 [(0, 1, (.t 59))], none⟩,
    ⟨(some 61), .app 1 8 (.t 55) (.t 60), none⟩,
    ⟨(some 12), .mov (.t 61), none⟩])
    (.seq (.reg [⟨(some 62), .mov (.t 11), none⟩,
    ⟨(some 63), .ld true 3 (.t 2), none⟩,
    ⟨(some 64), .ld true 3 (.t 14), none⟩,
    ⟨(some 65), .call (.c (.fn n_engramref9_state_token [])) [(.t 62), (.t 63), (.t 64)], none⟩,
    ⟨(some 15), .mov (.t 65), none⟩])
    (.seq (.reg [⟨(some 66), .mov (.t 15), none⟩,
    ⟨(some 67), .bin .neq (.t 66) (.c (.int .i64 0)), none⟩])
    (.cond (.t 67)
    (.seq (.reg [⟨(some 68), .mov (.t 15), none⟩,
    ⟨(some 4), .mov (.c (.nilsl)), none⟩,
    ⟨(some 5), .mov (.t 68), none⟩])
    (.ret))
    (.skip)))))))
    (.reg [⟨(some 69), .bin .add (.t 51) (.c (.int .i64 1)), none⟩,
    ⟨(some 51), .mov (.t 69), none⟩])))
/-- engram/engramref9.Func -/
def f_engramref9_Func : IFun where
  nargs := 2
  results := [.tmp 4, .tmp 5]
  pure := true
  frz := true
  drop := []
  body :=
   .seq (.reg [⟨(some 2), .box (.t 0), none⟩,
    ⟨(some 4), .mov (.c (.nilsl)), none⟩,
    ⟨(some 5), .mov (.c (.int .i64 0)), none⟩])
   (.seq (.seq (.reg [⟨(some 16), .mov (.t 1), none⟩,
    ⟨(some 17), .bin .lss (.t 16) (.c (.int .i64 0)), none⟩,
    ⟨(some 18), .mov (.t 17), none⟩,
    ⟨(some 19), .mov (.t 1), (some (18, false))⟩,
    ⟨(some 20), .fadr 2 (.t 2), (some (18, false))⟩,
    ⟨(some 21), .ld false 1 (.t 20), (some (18, false))⟩,
    ⟨(some 22), .len (.t 21), (some (18, false))⟩,
    ⟨(some 23), .bin .geq (.t 19) (.t 22), (some (18, false))⟩,
    ⟨(some 24), .pick (.t 18) (.c (.bool true)) (.t 23), none⟩])
    (.cond (.t 24)
    (.seq (.reg [⟨(some 4), .mov (.c (.nilsl)), none⟩,
    ⟨(some 5), .mov (.c (.int .i64 23)), none⟩])
    (.ret))
    (.skip)))
    (.seq (.reg [⟨(some 26), .fadr 2 (.t 2), none⟩,
    ⟨(some 27), .ld false 1 (.t 26), none⟩,
    ⟨(some 28), .mov (.t 1), none⟩,
    ⟨(some 29), .iadr 3 (.t 27) (.t 28), none⟩,
    ⟨(some 30), .fadr 2 (.t 29), none⟩,
    ⟨(some 31), .ld false 1 (.t 30), none⟩,
    ⟨(some 32), .call (.c (.fn n_engramref9_Tokens [])) [(.t 31)], none⟩,
    ⟨(some 25), .mov (.t 32), none⟩,
    ⟨(some 33), .ext (.t 25) 0, none⟩,
    ⟨(some 34), .ext (.t 25) 1, none⟩,
    ⟨(some 6), .mov (.t 33), none⟩,
    ⟨(some 7), .mov (.t 34), none⟩])
    (.seq (.seq (.reg [⟨(some 35), .mov (.t 7), none⟩,
    ⟨(some 36), .bin .neq (.t 35) (.c (.int .i64 0)), none⟩])
    (.cond (.t 36)
    (.seq (.reg [⟨(some 37), .mov (.t 7), none⟩,
    ⟨(some 4), .mov (.c (.nilsl)), none⟩,
    ⟨(some 5), .mov (.t 37), none⟩])
    (.ret))
    (.skip)))
    (.seq (.seq (.reg [⟨(some 39), .mov (.t 6), none⟩,
    ⟨(some 40), .call (.c (.fn n_engramref9_Nest [])) [(.t 39)], none⟩,
    ⟨(some 38), .mov (.t 40), none⟩,
    ⟨(some 41), .ext (.t 38) 0, none⟩,
    ⟨(some 42), .ext (.t 38) 1, none⟩,
    ⟨(some 43), .ext (.t 38) 2, none⟩,
    ⟨(some 8), .mov (.t 41), none⟩,
    ⟨(some 9), .mov (.t 42), none⟩,
    ⟨(some 10), .mov (.t 43), none⟩])
    (.seq (.reg [⟨(some 44), .mov (.t 10), none⟩,
    ⟨(some 45), .bin .neq (.t 44) (.c (.int .i64 0)), none⟩])
    (.cond (.t 45)
    (.seq (.reg [⟨(some 46), .mov (.t 10), none⟩,
    ⟨(some 4), .mov (.c (.nilsl)), none⟩,
    ⟨(some 5), .mov (.t 46), none⟩])
    (.ret))
    (.skip))))
    (.seq (.reg [⟨(some 47), .build [.int .i64 0, .nilsl] [], none⟩,
    ⟨(some 48), .box (.t 47), none⟩,
    ⟨(some 11), .mov (.t 48), none⟩])
    (.seq (.reg [⟨(some 12), .mov (.c (.nilsl)), none⟩])
    (.seq (.seq (.reg [⟨(some 49), .mov (.t 6), none⟩,
    ⟨(some 50), .len (.t 49), none⟩,
    ⟨(some 51), .mov (.c (.int .i64 0)), none⟩])
    (.block 0 (.loopK [2, 11, 12, 49, 50, 51] l0_engramref9_Func)))
    (.keep [11, 12] (.seq (.seq (.reg [⟨(some 70), .mov (.t 11), none⟩,
    ⟨(some 71), .nilc (.t 70), none⟩,
    ⟨(some 72), .fadr 0 (.t 71), none⟩,
    ⟨(some 73), .ld false 1 (.t 72), none⟩,
    ⟨(some 74), .bin .neq (.t 73) (.c (.int .i64 1)), none⟩,
    ⟨(some 75), .mov (.t 74), none⟩,
    ⟨(some 76), .mov (.t 11), (some (75, true))⟩,
    ⟨(some 77), .nilc (.t 76), (some (75, true))⟩,
    ⟨(some 78), .fadr 0 (.t 77), (some (75, true))⟩,
    ⟨(some 79), .ld false 1 (.t 78), (some (75, true))⟩,
    ⟨(some 80), .bin .geq (.t 79) (.c (.int .i64 0)), (some (75, true))⟩,
    ⟨(some 81), .pick (.t 75) (.t 80) (.c (.bool false)), none⟩])
    (.cond (.t 81)
    (.seq (.reg [⟨(some 4), .mov (.c (.nilsl)), none⟩,
    ⟨(some 5), .mov (.c (.int .i64 14)), none⟩])
    (.ret))
    (.skip)))
    (.seq (.reg [⟨(some 82), .mov (.t 12), none⟩,
    ⟨(some 4), .mov (.t 82), none⟩,
    ⟨(some 5), .mov (.c (.int .i64 0)), none⟩])
    (.ret)))))))))))

def l0_engrambook_Same_int : IC :=
  .seq (.seq (.reg [⟨(some 11), .mov (.t 5), none⟩,
    ⟨(some 12), .mov (.t 0), none⟩,
    ⟨(some 13), .len (.t 12), none⟩,
    ⟨(some 14), .bin .lss (.t 11) (.t 13), none⟩])
   (.cond (.t 14)
    (.skip)
    (.exit 0)))
  (.seq (.block 1 (.seq (.reg [⟨(some 17), .mov (.t 0), none⟩,
    ⟨(some 18), .mov (.t 5), none⟩,
    ⟨(some 19), .iadr 1 (.t 17) (.t 18), none⟩,
    ⟨(some 20), .ld false 1 (.t 19), none⟩,
    ⟨(some 21), .mov (.t 1), none⟩,
    ⟨(some 22), .mov (.t 5), none⟩,
    ⟨(some 23), .iadr 1 (.t 21) (.t 22), none⟩,
    ⟨(some 24), .ld false 1 (.t 23), none⟩,
    ⟨(some 25), .bin .neq (.t 20) (.t 24), none⟩])
    (.cond (.t 25)
    (.seq (.reg [⟨(some 4), .mov (.c (.bool false)), none⟩])
    (.ret))
    (.skip))))
   (.reg [⟨(some 15), .mov (.t 5), none⟩,
    ⟨(some 16), .bin .add (.t 15) (.c (.int .i64 1)), none⟩,
    ⟨(some 5), .mov (.t 16), none⟩]))
/-- engram/engrambook.Same[int] -/
def f_engrambook_Same_int : IFun where
  nargs := 2
  results := [.tmp 4]
  pure := true
  frz := true
  drop := []
  body :=
   .seq (.reg [⟨(some 4), .mov (.c (.bool false)), none⟩])
   (.seq (.seq (.reg [⟨(some 6), .mov (.t 0), none⟩,
    ⟨(some 7), .len (.t 6), none⟩,
    ⟨(some 8), .mov (.t 1), none⟩,
    ⟨(some 9), .len (.t 8), none⟩,
    ⟨(some 10), .bin .neq (.t 7) (.t 9), none⟩])
    (.cond (.t 10)
    (.seq (.reg [⟨(some 4), .mov (.c (.bool false)), none⟩])
    (.ret))
    (.skip)))
    (.seq (.seq (.reg [⟨(some 5), .mov (.c (.int .i64 0)), none⟩])
    (.block 0 (.loopK [0, 1, 5] l0_engrambook_Same_int)))
    (.keep [] (.seq (.reg [⟨(some 4), .mov (.c (.bool true)), none⟩])
    (.ret)))))


/-- engram/engramref9.Takes -/
def f_engramref9_Takes : IFun where
  nargs := 2
  results := [.tmp 4, .tmp 5, .tmp 6]
  pure := true
  frz := true
  drop := []
  body :=
   .seq (.reg [⟨(some 2), .box (.t 0), none⟩,
    ⟨(some 3), .box (.t 1), none⟩,
    ⟨(some 4), .mov (.c (.int .i64 0)), none⟩,
    ⟨(some 5), .mov (.c (.int .i64 0)), none⟩,
    ⟨(some 6), .mov (.c (.bool false)), none⟩])
   (.seq (.reg [⟨(some 9), .fadr 0 (.t 3), none⟩,
    ⟨(some 10), .ld false 1 (.t 9), none⟩,
    ⟨(some 7), .mov (.t 10), none⟩])
    (.seq (.block 0 (.seq (.reg [⟨(some 12), .mov (.t 7), none⟩,
    ⟨(some 13), .bin .eql (.t 12) (.c (.int .i32 48)), none⟩,
    ⟨(some 14), .mov (.t 13), none⟩,
    ⟨(some 15), .mov (.t 7), (some (14, false))⟩,
    ⟨(some 16), .bin .geq (.t 15) (.c (.int .i32 97)), (some (14, false))⟩,
    ⟨(some 17), .mov (.t 16), (some (14, false))⟩,
    ⟨(some 18), .mov (.t 7), (some (17, true))⟩,
    ⟨(some 19), .bin .leq (.t 18) (.c (.int .i32 122)), (some (17, true))⟩,
    ⟨(some 20), .pick (.t 17) (.t 19) (.c (.bool false)), (some (14, false))⟩,
    ⟨(some 21), .pick (.t 14) (.c (.bool true)) (.t 20), none⟩,
    ⟨(some 22), .mov (.t 21), none⟩,
    ⟨(some 23), .mov (.t 7), (some (22, false))⟩,
    ⟨(some 24), .bin .eql (.t 23) (.c (.int .i32 35)), (some (22, false))⟩,
    ⟨(some 25), .pick (.t 22) (.c (.bool true)) (.t 24), none⟩,
    ⟨(some 11), .mov (.t 25), none⟩])
    (.cond (.t 11)
    (.seq (.reg [⟨(some 4), .mov (.c (.int .i64 0)), none⟩,
    ⟨(some 5), .mov (.c (.int .i64 1)), none⟩,
    ⟨(some 6), .mov (.c (.bool true)), none⟩])
    (.ret))
    (.seq (.reg [⟨(some 27), .mov (.t 7), none⟩,
    ⟨(some 28), .bin .geq (.t 27) (.c (.int .i32 65)), none⟩,
    ⟨(some 29), .mov (.t 28), none⟩,
    ⟨(some 30), .mov (.t 7), (some (29, true))⟩,
    ⟨(some 31), .bin .leq (.t 30) (.c (.int .i32 90)), (some (29, true))⟩,
    ⟨(some 32), .pick (.t 29) (.t 31) (.c (.bool false)), none⟩,
    ⟨(some 33), .mov (.t 32), none⟩,
    ⟨(some 34), .mov (.t 7), (some (33, false))⟩,
    ⟨(some 35), .bin .eql (.t 34) (.c (.int .i32 44)), (some (33, false))⟩,
    ⟨(some 36), .pick (.t 33) (.c (.bool true)) (.t 35), none⟩,
    ⟨(some 26), .mov (.t 36), none⟩])
    (.cond (.t 26)
    (.seq (.reg [⟨(some 4), .mov (.c (.int .i64 1)), none⟩,
    ⟨(some 5), .mov (.c (.int .i64 0)), none⟩,
    ⟨(some 6), .mov (.c (.bool true)), none⟩])
    (.ret))
    (.seq (.reg [⟨(some 38), .mov (.t 7), none⟩,
    ⟨(some 39), .bin .eql (.t 38) (.c (.int .i32 46)), none⟩,
    ⟨(some 37), .mov (.t 39), none⟩])
    (.cond (.t 37)
    (.seq (.reg [⟨(some 4), .mov (.c (.int .i64 1)), none⟩,
    ⟨(some 5), .mov (.c (.int .i64 2)), none⟩,
    ⟨(some 6), .mov (.c (.bool true)), none⟩])
    (.ret))
    (.seq (.reg [⟨(some 41), .mov (.t 7), none⟩,
    ⟨(some 42), .call (.c (.fn n_engramref9_has [])) [(.c (.str ⟨#[43, 45, 42, 47, 37, 38, 124, 94, 60, 61, 194, 171, 194, 187]⟩)), (.t 41)], none⟩,
    ⟨(some 40), .mov (.t 42), none⟩])
    (.cond (.t 40)
    (.seq (.reg [⟨(some 4), .mov (.c (.int .i64 2)), none⟩,
    ⟨(some 5), .mov (.c (.int .i64 1)), none⟩,
    ⟨(some 6), .mov (.c (.bool true)), none⟩])
    (.ret))
    (.seq (.reg [⟨(some 44), .mov (.t 7), none⟩,
    ⟨(some 45), .call (.c (.fn n_engramref9_has [])) [(.c (.str ⟨#[33, 64, 194, 169, 194, 164, 207, 128]⟩)), (.t 44)], none⟩,
    ⟨(some 43), .mov (.t 45), none⟩])
    (.cond (.t 43)
    (.seq (.reg [⟨(some 4), .mov (.c (.int .i64 1)), none⟩,
    ⟨(some 5), .mov (.c (.int .i64 1)), none⟩,
    ⟨(some 6), .mov (.c (.bool true)), none⟩])
    (.ret))
    (.seq (.reg [⟨(some 47), .mov (.t 7), none⟩,
    ⟨(some 48), .bin .eql (.t 47) (.c (.int .i32 36)), none⟩,
    ⟨(some 49), .mov (.t 48), none⟩,
    ⟨(some 50), .mov (.t 7), (some (49, false))⟩,
    ⟨(some 51), .bin .eql (.t 50) (.c (.int .i32 174)), (some (49, false))⟩,
    ⟨(some 52), .pick (.t 49) (.c (.bool true)) (.t 51), none⟩,
    ⟨(some 46), .mov (.t 52), none⟩])
    (.cond (.t 46)
    (.seq (.reg [⟨(some 4), .mov (.c (.int .i64 2)), none⟩,
    ⟨(some 5), .mov (.c (.int .i64 0)), none⟩,
    ⟨(some 6), .mov (.c (.bool true)), none⟩])
    (.ret))
    (.seq (.reg [⟨(some 54), .mov (.t 7), none⟩,
    ⟨(some 55), .bin .eql (.t 54) (.c (.int .i32 63)), none⟩,
    ⟨(some 53), .mov (.t 55), none⟩])
    (.cond (.t 53)
    (.seq (.reg [⟨(some 4), .mov (.c (.int .i64 1)), none⟩,
    ⟨(some 5), .mov (.c (.int .i64 0)), none⟩,
    ⟨(some 6), .mov (.c (.bool true)), none⟩])
    (.ret))
    (.seq (.reg [⟨(some 57), .mov (.t 7), none⟩,
    ⟨(some 58), .call (.c (.fn n_engramref9_has [])) [(.c (.str ⟨#[58, 59, 91, 93, 126, 194, 161]⟩)), (.t 57)], none⟩,
    ⟨(some 56), .mov (.t 58), none⟩])
    (.cond (.t 56)
    (.seq (.reg [⟨(some 4), .mov (.c (.int .i64 0)), none⟩,
    ⟨(some 5), .mov (.c (.int .i64 0)), none⟩,
    ⟨(some 6), .mov (.c (.bool true)), none⟩])
    (.ret))
    (.seq (.reg [⟨(some 60), .mov (.t 7), none⟩,
    ⟨(some 61), .bin .eql (.t 60) (.c (.int .i32 955)), none⟩,
    ⟨(some 59), .mov (.t 61), none⟩])
    (.cond (.t 59)
    (.seq (.reg [⟨(some 62), .ld true 3 (.t 2), none⟩,
    ⟨(some 63), .fadr 2 (.t 3), none⟩,
    ⟨(some 64), .ld false 1 (.t 63), none⟩,
    ⟨(some 65), .call (.c (.fn n_engramref9_Find [])) [(.t 62), (.t 64)], none⟩,
    ⟨(some 8), .mov (.t 65), none⟩])
    (.seq (.reg [⟨(some 66), .mov (.t 8), none⟩,
    ⟨(some 67), .bin .geq (.t 66) (.c (.int .i64 0)), none⟩,
    ⟨(some 68), .mov (.t 67), none⟩,
    ⟨(some 69), .fadr 2 (.t 2), (some (68, true))⟩,
    ⟨(some 70), .ld false 1 (.t 69), (some (68, true))⟩,
    ⟨(some 71), .mov (.t 8), (some (68, true))⟩,
    ⟨(some 72), .iadr 3 (.t 70) (.t 71), (some (68, true))⟩,
    ⟨(some 73), .fadr 1 (.t 72), (some (68, true))⟩,
    ⟨(some 74), .ld false 1 (.t 73), (some (68, true))⟩,
    ⟨(some 75), .bin .geq (.t 74) (.c (.int .i64 0)), (some (68, true))⟩,
    ⟨(some 76), .pick (.t 68) (.t 75) (.c (.bool false)), none⟩,
    ⟨(some 77), .mov (.t 76), none⟩,
    ⟨(some 78), .fadr 2 (.t 2), (some (77, true))⟩,
    ⟨(some 79), .ld false 1 (.t 78), (some (77, true))⟩,
    ⟨(some 80), .mov (.t 8), (some (77, true))⟩,
    ⟨(some 81), .iadr 3 (.t 79) (.t 80), (some (77, true))⟩,
    ⟨(some 82), .fadr 1 (.t 81), (some (77, true))⟩,
    ⟨(some 83), .ld false 1 (.t 82), (some (77, true))⟩,
    ⟨(some 84), .bin .leq (.t 83) (.c (.int .i64 4)), (some (77, true))⟩,
    ⟨(some 85), .pick (.t 77) (.t 84) (.c (.bool false)), none⟩])
    (.cond (.t 85)
    (.seq (.reg [⟨(some 86), .fadr 2 (.t 2), none⟩,
    ⟨(some 87), .ld false 1 (.t 86), none⟩,
    ⟨(some 88), .mov (.t 8), none⟩,
    ⟨(some 89), .iadr 3 (.t 87) (.t 88), none⟩,
    ⟨(some 90), .fadr 1 (.t 89), none⟩,
    ⟨(some 91), .ld false 1 (.t 90), none⟩,
    ⟨(some 4), .mov (.t 91), none⟩,
    ⟨(some 5), .mov (.c (.int .i64 1)), none⟩,
    ⟨(some 6), .mov (.c (.bool true)), none⟩])
    (.ret))
    (.skip))))
    (.skip))))))))))))))))))))
    (.seq (.reg [⟨(some 4), .mov (.c (.int .i64 0)), none⟩,
    ⟨(some 5), .mov (.c (.int .i64 0)), none⟩,
    ⟨(some 6), .mov (.c (.bool false)), none⟩])
    (.ret))))


/-- engram/check.Find -/
def f_check_Find : IFun where
  nargs := 2
  results := [.tmp 4]
  pure := true
  frz := true
  drop := []
  body :=
   .seq (.reg [⟨(some 2), .box (.t 0), none⟩,
    ⟨(some 3), .box (.t 1), none⟩,
    ⟨(some 4), .mov (.c (.int .i64 0)), none⟩])
   (.seq (.reg [⟨(some 5), .fadr 2 (.t 2), none⟩,
    ⟨(some 6), .ld false 1 (.t 5), none⟩,
    ⟨(some 7), .mkfn n_check_Find_1 [(.t 3)], none⟩,
    ⟨(some 8), .call (.c (.fn n_slices_IndexFunc_api_Func_api_Func [])) [(.t 6), (.t 7)], none⟩,
    ⟨(some 4), .mov (.t 8), none⟩])
    (.ret))

def l0_engramref9_Find : IC :=
  .seq (.reg [⟨(some 10), .bin .lss (.t 9) (.t 8), none⟩])
  (.seq (.cond (.t 10)
    (.skip)
    (.exit 0))
   (.seq (.block 1 (.seq (.reg [⟨(some 11), .mov (.t 9), none⟩,
    ⟨(some 5), .mov (.t 11), none⟩])
    (.seq (.reg [⟨(some 12), .fadr 2 (.t 2), none⟩,
    ⟨(some 13), .ld false 1 (.t 12), none⟩,
    ⟨(some 14), .mov (.t 5), none⟩,
    ⟨(some 15), .iadr 3 (.t 13) (.t 14), none⟩,
    ⟨(some 16), .fadr 0 (.t 15), none⟩,
    ⟨(some 17), .ld false 1 (.t 16), none⟩,
    ⟨(some 18), .mov (.t 1), none⟩,
    ⟨(some 19), .bin .eql (.t 17) (.t 18), none⟩])
    (.cond (.t 19)
    (.seq (.reg [⟨(some 20), .mov (.t 5), none⟩,
    ⟨(some 4), .mov (.t 20), none⟩])
    (.ret))
    (.skip)))))
    (.reg [⟨(some 21), .bin .add (.t 9) (.c (.int .i64 1)), none⟩,
    ⟨(some 9), .mov (.t 21), none⟩])))
/-- engram/engramref9.Find -/
def f_engramref9_Find : IFun where
  nargs := 2
  results := [.tmp 4]
  pure := true
  frz := true
  drop := []
  body :=
   .seq (.reg [⟨(some 2), .box (.t 0), none⟩,
    ⟨(some 4), .mov (.c (.int .i64 0)), none⟩])
   (.seq (.seq (.reg [⟨(some 6), .fadr 2 (.t 2), none⟩,
    ⟨(some 7), .ld false 1 (.t 6), none⟩,
    ⟨(some 8), .len (.t 7), none⟩,
    ⟨(some 9), .mov (.c (.int .i64 0)), none⟩])
    (.block 0 (.loopK [1, 2, 8, 9] l0_engramref9_Find)))
    (.keep [] (.seq (.reg [⟨(some 4), .mov (.c (.int .i64 (-1))), none⟩])
    (.ret))))


/-- (*engram/engramkeep.Tape).Next -/
def f_engramkeep_Tape_Next : IFun where
  nargs := 2
  results := [.tmp 4]
  pure := false
  frz := false
  drop := []
  body :=
   .seq (.reg [⟨(some 4), .mov (.c (.int .i64 0)), none⟩])
   (.seq (.seq (.reg [⟨(some 5), .mov (.t 0), none⟩,
    ⟨(some 6), .nilc (.t 5), none⟩,
    ⟨(some 7), .fadr 1 (.t 6), none⟩,
    ⟨(some 8), .ld false 1 (.t 7), none⟩,
    ⟨(some 9), .mov (.t 0), none⟩,
    ⟨(some 10), .nilc (.t 9), none⟩,
    ⟨(some 11), .fadr 0 (.t 10), none⟩,
    ⟨(some 12), .ld false 1 (.t 11), none⟩,
    ⟨(some 13), .len (.t 12), none⟩,
    ⟨(some 14), .bin .geq (.t 8) (.t 13), none⟩,
    ⟨(some 15), .mov (.t 14), none⟩,
    ⟨(some 16), .mov (.t 1), (some (15, false))⟩,
    ⟨(some 17), .bin .lss (.t 16) (.c (.int .i64 1)), (some (15, false))⟩,
    ⟨(some 18), .pick (.t 15) (.c (.bool true)) (.t 17), none⟩])
    (.cond (.t 18)
    (.seq (.reg [⟨(some 4), .mov (.c (.int .i64 0)), none⟩])
    (.ret))
    (.skip)))
    (.seq (.reg [⟨(some 19), .mov (.t 0), none⟩,
    ⟨(some 20), .nilc (.t 19), none⟩,
    ⟨(some 21), .fadr 1 (.t 20), none⟩,
    ⟨(some 22), .ld false 1 (.t 21), none⟩,
    ⟨(some 23), .bin .add (.t 22) (.c (.int .i64 1)), none⟩,
    ⟨(some 24), .nilc (.t 19), none⟩,
    ⟨(some 25), .fadr 1 (.t 24), none⟩,
    ⟨none, .st 1 (.t 25) (.t 23), none⟩])
    (.seq (.reg [⟨(some 26), .mov (.t 0), none⟩,
    ⟨(some 27), .nilc (.t 26), none⟩,
    ⟨(some 28), .fadr 0 (.t 27), none⟩,
    ⟨(some 29), .ld false 1 (.t 28), none⟩,
    ⟨(some 30), .mov (.t 0), none⟩,
    ⟨(some 31), .nilc (.t 30), none⟩,
    ⟨(some 32), .fadr 1 (.t 31), none⟩,
    ⟨(some 33), .ld false 1 (.t 32), none⟩,
    ⟨(some 34), .bin .sub (.t 33) (.c (.int .i64 1)), none⟩,
    ⟨(some 35), .iadr 1 (.t 29) (.t 34), none⟩,
    ⟨(some 36), .ld false 1 (.t 35), none⟩,
    ⟨(some 37), .call (.c (.fn n_engrambook_Within [])) [(.t 36), (.c (.int .i64 0)), (.c (.int .i64 1073741824))], none⟩,
    ⟨(some 38), .mov (.t 1), none⟩,
    ⟨(some 39), .bin .rem (.t 37) (.t 38), none⟩,
    ⟨(some 4), .mov (.t 39), none⟩])
    (.ret))))


/-- engram/engramkeep.Names -/
def f_engramkeep_Names : IFun where
  nargs := 0
  results := [.tmp 0]
  pure := true
  frz := true
  drop := []
  body :=
   .seq (.reg [⟨(some 0), .mov (.c (.nilsl)), none⟩])
   (.seq (.reg [⟨(some 1), .bslice 1 [.int .i32 0, .int .i32 0, .int .i32 0, .int .i32 0, .int .i32 0] 5 [(0, 1, (.c (.int .i32 102))), (1, 1, (.c (.int .i32 103))), (2, 1, (.c (.int .i32 945))), (3, 1, (.c (.int .i32 104))), (4, 1, (.c (.int .i32 19990)))], none⟩,
    ⟨(some 0), .mov (.t 1), none⟩])
    (.ret))


/-- (*engram/engramkeep.Tape).deed -/
def f_engramkeep_Tape_deed : IFun where
  nargs := 3
  results := [.tmp 6]
  pure := false
  frz := false
  drop := []
  body :=
   .seq (.reg [⟨(some 6), .mov (.c (.str ⟨#[]⟩)), none⟩])
   (.seq (.seq (.reg [⟨(some 10), .mov (.t 0), none⟩,
    ⟨(some 11), .call (.c (.fn n_engramkeep_Tape_Next [])) [(.t 10), (.c (.int .i64 9))], none⟩,
    ⟨(some 7), .mov (.t 11), none⟩])
    (.block 0 (.seq (.reg [⟨(some 13), .mov (.t 7), none⟩,
    ⟨(some 14), .bin .lss (.t 13) (.c (.int .i64 3)), none⟩,
    ⟨(some 12), .mov (.t 14), none⟩])
    (.cond (.t 12)
    (.seq (.reg [⟨(some 15), .mov (.t 0), none⟩,
    ⟨(some 16), .mov (.t 2), none⟩,
    ⟨(some 17), .call (.c (.fn n_engramkeep_Tape_value [])) [(.t 15), (.c (.int .i64 2)), (.t 16)], none⟩,
    ⟨(some 18), .mov (.t 0), none⟩,
    ⟨(some 19), .call (.c (.fn n_engramkeep_Tape_Next [])) [(.t 18), (.c (.int .i64 4))], none⟩,
    ⟨(some 20), .bin .add (.c (.int .i64 65)) (.t 19), none⟩,
    ⟨(some 21), .cint .i32 (.t 20), none⟩,
    ⟨(some 22), .cstr (.t 21), none⟩,
    ⟨(some 23), .bin .add (.t 17) (.t 22), none⟩,
    ⟨(some 6), .mov (.t 23), none⟩])
    (.ret))
    (.seq (.reg [⟨(some 25), .mov (.t 7), none⟩,
    ⟨(some 26), .bin .lss (.t 25) (.c (.int .i64 5)), none⟩,
    ⟨(some 24), .mov (.t 26), none⟩])
    (.cond (.t 24)
    (.seq (.reg [⟨(some 27), .mov (.t 0), none⟩,
    ⟨(some 28), .call (.c (.fn n_engramkeep_Tape_Next [])) [(.t 27), (.c (.int .i64 190))], none⟩,
    ⟨(some 29), .call (.c (.fn n_engramkeep_digits [])) [(.t 28)], none⟩,
    ⟨(some 30), .bin .add (.c (.str ⟨#[32]⟩)) (.t 29), none⟩,
    ⟨(some 31), .mov (.t 0), none⟩,
    ⟨(some 32), .mov (.t 2), none⟩,
    ⟨(some 33), .call (.c (.fn n_engramkeep_Tape_value [])) [(.t 31), (.c (.int .i64 2)), (.t 32)], none⟩,
    ⟨(some 34), .bin .add (.t 30) (.t 33), none⟩,
    ⟨(some 35), .bslice 1 [.str ⟨#[]⟩, .str ⟨#[]⟩] 2 [(0, 1, (.c (.str ⟨#[36]⟩))), (1, 1, (.c (.str ⟨#[194, 174]⟩)))], none⟩,
    ⟨(some 36), .mov (.t 0), none⟩,
    ⟨(some 37), .call (.c (.fn n_engramkeep_Tape_Next [])) [(.t 36), (.c (.int .i64 2))], none⟩,
    ⟨(some 38), .iadr 1 (.t 35) (.t 37), none⟩,
    ⟨(some 39), .ld false 1 (.t 38), none⟩,
    ⟨(some 40), .bin .add (.t 34) (.t 39), none⟩,
    ⟨(some 6), .mov (.t 40), none⟩])
    (.ret))
    (.seq (.reg [⟨(some 42), .mov (.t 7), none⟩,
    ⟨(some 43), .bin .eql (.t 42) (.c (.int .i64 5)), none⟩,
    ⟨(some 44), .mov (.t 43), none⟩,
    ⟨(some 45), .mov (.t 1), (some (44, true))⟩,
    ⟨(some 46), .bin .gtr (.t 45) (.c (.int .i64 0)), (some (44, true))⟩,
    ⟨(some 47), .pick (.t 44) (.t 46) (.c (.bool false)), none⟩,
    ⟨(some 41), .mov (.t 47), none⟩])
    (.cond (.t 41)
    (.seq (.reg [⟨(some 48), .mov (.t 0), none⟩,
    ⟨(some 49), .mov (.t 2), none⟩,
    ⟨(some 50), .call (.c (.fn n_engramkeep_Tape_value [])) [(.t 48), (.c (.int .i64 1)), (.t 49)], none⟩,
    ⟨(some 51), .bin .add (.t 50) (.c (.str ⟨#[63]⟩)), none⟩,
    ⟨(some 52), .mov (.t 0), none⟩,
    ⟨(some 53), .mov (.t 1), none⟩,
    ⟨(some 54), .bin .sub (.t 53) (.c (.int .i64 1)), none⟩,
    ⟨(some 55), .mov (.t 2), none⟩,
    ⟨(some 56), .call (.c (.fn n_engramkeep_Tape_deed [])) [(.t 52), (.t 54), (.t 55)], none⟩,
    ⟨(some 57), .call (.c (.fn n_engramkeep_live [])) [(.t 56)], none⟩,
    ⟨(some 58), .bin .add (.t 51) (.t 57), none⟩,
    ⟨(some 59), .mov (.t 0), none⟩,
    ⟨(some 60), .mov (.t 1), none⟩,
    ⟨(some 61), .bin .sub (.t 60) (.c (.int .i64 1)), none⟩,
    ⟨(some 62), .mov (.t 2), none⟩,
    ⟨(some 63), .call (.c (.fn n_engramkeep_Tape_deed [])) [(.t 59), (.t 61), (.t 62)], none⟩,
    ⟨(some 64), .bin .add (.c (.str ⟨#[58]⟩)) (.t 63), none⟩,
    ⟨(some 65), .bin .add (.t 64) (.c (.str ⟨#[59]⟩)), none⟩,
    ⟨(some 66), .bslice 1 [.str ⟨#[]⟩, .str ⟨#[]⟩, .str ⟨#[]⟩] 3 [(0, 1, (.c (.str ⟨#[59]⟩))), (1, 1, (.t 65)), (2, 1, (.c (.str ⟨#[58, 194, 161, 59]⟩)))], none⟩,
    ⟨(some 67), .mov (.t 0), none⟩,
    ⟨(some 68), .call (.c (.fn n_engramkeep_Tape_Next [])) [(.t 67), (.c (.int .i64 3))], none⟩,
    ⟨(some 69), .iadr 1 (.t 66) (.t 68), none⟩,
    ⟨(some 70), .ld false 1 (.t 69), none⟩,
    ⟨(some 71), .bin .add (.t 58) (.t 70), none⟩,
    ⟨(some 6), .mov (.t 71), none⟩])
    (.ret))
    (.seq (.reg [⟨(some 73), .mov (.t 7), none⟩,
    ⟨(some 74), .bin .eql (.t 73) (.c (.int .i64 6)), none⟩,
    ⟨(some 75), .mov (.t 74), none⟩,
    ⟨(some 76), .mov (.t 1), (some (75, true))⟩,
    ⟨(some 77), .bin .gtr (.t 76) (.c (.int .i64 0)), (some (75, true))⟩,
    ⟨(some 78), .pick (.t 75) (.t 77) (.c (.bool false)), none⟩,
    ⟨(some 72), .mov (.t 78), none⟩])
    (.cond (.t 72)
    (.seq (.reg [⟨(some 79), .mov (.t 0), none⟩,
    ⟨(some 80), .call (.c (.fn n_engramkeep_Tape_Next [])) [(.t 79), (.c (.int .i64 3))], none⟩,
    ⟨(some 81), .bin .add (.c (.int .i64 120)) (.t 80), none⟩,
    ⟨(some 82), .cint .i32 (.t 81), none⟩,
    ⟨(some 83), .cstr (.t 82), none⟩,
    ⟨(some 8), .mov (.t 83), none⟩])
    (.seq (.reg [⟨(some 84), .mov (.t 8), none⟩,
    ⟨(some 85), .idxs (.t 84) (.c (.int .i64 0)), none⟩,
    ⟨(some 86), .bin .sub (.t 85) (.c (.int .u8 32)), none⟩,
    ⟨(some 87), .cint .i32 (.t 86), none⟩,
    ⟨(some 88), .cstr (.t 87), none⟩,
    ⟨(some 9), .mov (.t 88), none⟩])
    (.seq (.reg [⟨(some 89), .mov (.t 0), none⟩,
    ⟨(some 90), .call (.c (.fn n_engramkeep_Tape_Next [])) [(.t 89), (.c (.int .i64 5))], none⟩,
    ⟨(some 91), .bin .add (.c (.int .i64 1)) (.t 90), none⟩,
    ⟨(some 92), .call (.c (.fn n_engramkeep_digits [])) [(.t 91)], none⟩,
    ⟨(some 93), .bin .add (.c (.str ⟨#[32]⟩)) (.t 92), none⟩,
    ⟨(some 94), .mov (.t 9), none⟩,
    ⟨(some 95), .bin .add (.t 93) (.t 94), none⟩,
    ⟨(some 96), .bin .add (.t 95) (.c (.str ⟨#[91]⟩)), none⟩,
    ⟨(some 97), .mov (.t 8), none⟩,
    ⟨(some 98), .bin .add (.t 96) (.t 97), none⟩,
    ⟨(some 99), .bin .add (.t 98) (.c (.str ⟨#[33, 63, 126, 59]⟩)), none⟩,
    ⟨(some 100), .mov (.t 0), none⟩,
    ⟨(some 101), .mov (.t 1), none⟩,
    ⟨(some 102), .bin .sub (.t 101) (.c (.int .i64 1)), none⟩,
    ⟨(some 103), .mov (.t 2), none⟩,
    ⟨(some 104), .call (.c (.fn n_engramkeep_Tape_deed [])) [(.t 100), (.t 102), (.t 103)], none⟩,
    ⟨(some 105), .call (.c (.fn n_engramkeep_live [])) [(.t 104)], none⟩,
    ⟨(some 106), .bin .add (.t 99) (.t 105), none⟩,
    ⟨(some 107), .mov (.t 8), none⟩,
    ⟨(some 108), .bin .add (.t 106) (.t 107), none⟩,
    ⟨(some 109), .bin .add (.t 108) (.c (.str ⟨#[32, 49, 45]⟩)), none⟩,
    ⟨(some 110), .mov (.t 9), none⟩,
    ⟨(some 111), .bin .add (.t 109) (.t 110), none⟩,
    ⟨(some 112), .bin .add (.t 111) (.c (.str ⟨#[93]⟩)), none⟩,
    ⟨(some 6), .mov (.t 112), none⟩])
    (.ret))))
    (.seq (.reg [⟨(some 114), .mov (.t 7), none⟩,
    ⟨(some 115), .bin .eql (.t 114) (.c (.int .i64 7)), none⟩,
    ⟨(some 113), .mov (.t 115), none⟩])
    (.cond (.t 113)
    (.seq (.reg [⟨(some 116), .mov (.t 0), none⟩,
    ⟨(some 117), .mov (.t 2), none⟩,
    ⟨(some 118), .call (.c (.fn n_engramkeep_Tape_value [])) [(.t 116), (.c (.int .i64 2)), (.t 117)], none⟩,
    ⟨(some 119), .bin .add (.t 118) (.c (.str ⟨#[44]⟩)), none⟩,
    ⟨(some 120), .bslice 1 [.str ⟨#[]⟩, .str ⟨#[]⟩] 2 [(0, 1, (.c (.str ⟨#[]⟩))), (1, 1, (.c (.str ⟨#[194, 161]⟩)))], none⟩,
    ⟨(some 121), .mov (.t 0), none⟩,
    ⟨(some 122), .call (.c (.fn n_engramkeep_Tape_Next [])) [(.t 121), (.c (.int .i64 9))], none⟩,
    ⟨(some 123), .bin .quo (.t 122) (.c (.int .i64 8)), none⟩,
    ⟨(some 124), .iadr 1 (.t 120) (.t 123), none⟩,
    ⟨(some 125), .ld false 1 (.t 124), none⟩,
    ⟨(some 126), .bin .add (.t 119) (.t 125), none⟩,
    ⟨(some 6), .mov (.t 126), none⟩])
    (.ret))
    (.skip)))))))))))))
    (.seq (.reg [⟨(some 127), .mov (.t 0), none⟩,
    ⟨(some 128), .mov (.t 2), none⟩,
    ⟨(some 129), .call (.c (.fn n_engramkeep_Tape_value [])) [(.t 127), (.c (.int .i64 1)), (.t 128)], none⟩,
    ⟨(some 130), .bin .add (.t 129) (.c (.str ⟨#[90]⟩)), none⟩,
    ⟨(some 6), .mov (.t 130), none⟩])
    (.ret)))


/-- engram/engramkeep.halts -/
def f_engramkeep_halts : IFun where
  nargs := 1
  results := [.tmp 2]
  pure := true
  frz := true
  drop := []
  body :=
   .seq (.reg [⟨(some 2), .mov (.c (.bool false)), none⟩])
   (.seq (.reg [⟨(some 3), .mov (.t 0), none⟩,
    ⟨(some 4), .lens (.t 3), none⟩,
    ⟨(some 5), .bin .gtr (.t 4) (.c (.int .i64 2)), none⟩,
    ⟨(some 6), .mov (.t 5), none⟩,
    ⟨(some 7), .mov (.t 0), (some (6, true))⟩,
    ⟨(some 8), .mov (.t 0), (some (6, true))⟩,
    ⟨(some 9), .lens (.t 8), (some (6, true))⟩,
    ⟨(some 10), .bin .sub (.t 9) (.c (.int .i64 2)), (some (6, true))⟩,
    ⟨(some 11), .slcs (.t 7) (some (.t 10)) none, (some (6, true))⟩,
    ⟨(some 12), .bin .eql (.t 11) (.c (.str ⟨#[194, 161]⟩)), (some (6, true))⟩,
    ⟨(some 13), .pick (.t 6) (.t 12) (.c (.bool false)), none⟩,
    ⟨(some 2), .mov (.t 13), none⟩])
    (.ret))

def l0_engramkeep_Tape_value : IC :=
  .seq (.seq (.reg [⟨(some 112), .mov (.t 11), none⟩,
    ⟨(some 113), .fadr 1 (.t 9), none⟩,
    ⟨(some 114), .ld false 1 (.t 113), none⟩,
    ⟨(some 115), .bin .lss (.t 112) (.t 114), none⟩])
   (.cond (.t 115)
    (.skip)
    (.exit 1)))
  (.seq (.block 2 (.reg [⟨(some 118), .mov (.t 10), none⟩,
    ⟨(some 119), .mov (.t 0), none⟩,
    ⟨(some 120), .mov (.t 1), none⟩,
    ⟨(some 121), .bin .sub (.t 120) (.c (.int .i64 2)), none⟩,
    ⟨(some 122), .mov (.t 2), none⟩,
    ⟨(some 123), .call (.c (.fn n_engramkeep_Tape_value [])) [(.t 119), (.t 121), (.t 122)], none⟩,
    ⟨(some 124), .bin .add (.t 118) (.t 123), none⟩,
    ⟨(some 10), .mov (.t 124), none⟩]))
   (.reg [⟨(some 116), .mov (.t 11), none⟩,
    ⟨(some 117), .bin .add (.t 116) (.c (.int .i64 1)), none⟩,
    ⟨(some 11), .mov (.t 117), none⟩]))
/-- (*engram/engramkeep.Tape).value -/
def f_engramkeep_Tape_value : IFun where
  nargs := 3
  results := [.tmp 6]
  pure := false
  frz := false
  drop := []
  body :=
   .seq (.reg [⟨(some 6), .mov (.c (.str ⟨#[]⟩)), none⟩])
   (.seq (.seq (.reg [⟨(some 12), .mov (.t 0), none⟩,
    ⟨(some 13), .call (.c (.fn n_engramkeep_Tape_Next [])) [(.t 12), (.c (.int .i64 14))], none⟩,
    ⟨(some 7), .mov (.t 13), none⟩])
    (.block 0 (.seq (.reg [⟨(some 15), .mov (.t 1), none⟩,
    ⟨(some 16), .bin .leq (.t 15) (.c (.int .i64 0)), none⟩,
    ⟨(some 17), .mov (.t 16), none⟩,
    ⟨(some 18), .mov (.t 7), (some (17, false))⟩,
    ⟨(some 19), .bin .lss (.t 18) (.c (.int .i64 3)), (some (17, false))⟩,
    ⟨(some 20), .pick (.t 17) (.c (.bool true)) (.t 19), none⟩,
    ⟨(some 14), .mov (.t 20), none⟩])
    (.cond (.t 14)
    (.seq (.reg [⟨(some 21), .bslice 1 [.int .i64 0, .int .i64 0, .int .i64 0, .int .i64 0, .int .i64 0, .int .i64 0, .int .i64 0, .int .i64 0, .int .i64 0, .int .i64 0] 10 [(0, 1, (.c (.int .i64 0))), (1, 1, (.c (.int .i64 1))), (2, 1, (.c (.int .i64 2))), (3, 1, (.c (.int .i64 3))), (4, 1, (.c (.int .i64 8))), (5, 1, (.c (.int .i64 60))), (6, 1, (.c (.int .i64 64))), (7, 1, (.c (.int .i64 255))), (8, 1, (.c (.int .i64 1000))), (9, 1, (.c (.int .i64 7)))], none⟩,
    ⟨(some 22), .mov (.t 0), none⟩,
    ⟨(some 23), .call (.c (.fn n_engramkeep_Tape_Next [])) [(.t 22), (.c (.int .i64 10))], none⟩,
    ⟨(some 24), .iadr 1 (.t 21) (.t 23), none⟩,
    ⟨(some 25), .ld false 1 (.t 24), none⟩,
    ⟨(some 26), .call (.c (.fn n_engramkeep_digits [])) [(.t 25)], none⟩,
    ⟨(some 27), .bin .add (.c (.str ⟨#[32]⟩)) (.t 26), none⟩,
    ⟨(some 6), .mov (.t 27), none⟩])
    (.ret))
    (.seq (.reg [⟨(some 29), .mov (.t 7), none⟩,
    ⟨(some 30), .bin .lss (.t 29) (.c (.int .i64 6)), none⟩,
    ⟨(some 28), .mov (.t 30), none⟩])
    (.cond (.t 28)
    (.seq (.reg [⟨(some 31), .mov (.t 0), none⟩,
    ⟨(some 32), .call (.c (.fn n_engramkeep_Tape_Next [])) [(.t 31), (.c (.int .i64 4))], none⟩,
    ⟨(some 33), .bin .add (.c (.int .i64 97)) (.t 32), none⟩,
    ⟨(some 34), .cint .i32 (.t 33), none⟩,
    ⟨(some 35), .cstr (.t 34), none⟩,
    ⟨(some 6), .mov (.t 35), none⟩])
    (.ret))
    (.seq (.reg [⟨(some 37), .mov (.t 7), none⟩,
    ⟨(some 38), .bin .lss (.t 37) (.c (.int .i64 9)), none⟩,
    ⟨(some 36), .mov (.t 38), none⟩])
    (.cond (.t 36)
    (.seq (.reg [⟨(some 39), .bslice 1 [.str ⟨#[]⟩, .str ⟨#[]⟩, .str ⟨#[]⟩, .str ⟨#[]⟩, .str ⟨#[]⟩, .str ⟨#[]⟩, .str ⟨#[]⟩, .str ⟨#[]⟩, .str ⟨#[]⟩, .str ⟨#[]⟩, .str ⟨#[]⟩, .str ⟨#[]⟩] 12 [(0, 1, (.c (.str ⟨#[43]⟩))), (1, 1, (.c (.str ⟨#[45]⟩))), (2, 1, (.c (.str ⟨#[42]⟩))), (3, 1, (.c (.str ⟨#[38]⟩))), (4, 1, (.c (.str ⟨#[124]⟩))), (5, 1, (.c (.str ⟨#[94]⟩))), (6, 1, (.c (.str ⟨#[60]⟩))), (7, 1, (.c (.str ⟨#[61]⟩))), (8, 1, (.c (.str ⟨#[47]⟩))), (9, 1, (.c (.str ⟨#[37]⟩))), (10, 1, (.c (.str ⟨#[194, 171]⟩))), (11, 1, (.c (.str ⟨#[194, 187]⟩)))], none⟩,
    ⟨(some 40), .mov (.t 0), none⟩,
    ⟨(some 41), .call (.c (.fn n_engramkeep_Tape_Next [])) [(.t 40), (.c (.int .i64 12))], none⟩,
    ⟨(some 42), .iadr 1 (.t 39) (.t 41), none⟩,
    ⟨(some 43), .ld false 1 (.t 42), none⟩,
    ⟨(some 8), .mov (.t 43), none⟩])
    (.seq (.reg [⟨(some 44), .mov (.t 0), none⟩,
    ⟨(some 45), .mov (.t 1), none⟩,
    ⟨(some 46), .bin .sub (.t 45) (.c (.int .i64 1)), none⟩,
    ⟨(some 47), .mov (.t 2), none⟩,
    ⟨(some 48), .call (.c (.fn n_engramkeep_Tape_value [])) [(.t 44), (.t 46), (.t 47)], none⟩,
    ⟨(some 49), .mov (.t 0), none⟩,
    ⟨(some 50), .mov (.t 1), none⟩,
    ⟨(some 51), .bin .sub (.t 50) (.c (.int .i64 1)), none⟩,
    ⟨(some 52), .mov (.t 2), none⟩,
    ⟨(some 53), .call (.c (.fn n_engramkeep_Tape_value [])) [(.t 49), (.t 51), (.t 52)], none⟩,
    ⟨(some 54), .bin .add (.t 48) (.t 53), none⟩,
    ⟨(some 55), .mov (.t 8), none⟩,
    ⟨(some 56), .bin .add (.t 54) (.t 55), none⟩,
    ⟨(some 6), .mov (.t 56), none⟩])
    (.ret)))
    (.seq (.reg [⟨(some 58), .mov (.t 7), none⟩,
    ⟨(some 59), .bin .eql (.t 58) (.c (.int .i64 9)), none⟩,
    ⟨(some 57), .mov (.t 59), none⟩])
    (.cond (.t 57)
    (.seq (.reg [⟨(some 60), .mov (.t 0), none⟩,
    ⟨(some 61), .mov (.t 1), none⟩,
    ⟨(some 62), .bin .sub (.t 61) (.c (.int .i64 1)), none⟩,
    ⟨(some 63), .mov (.t 2), none⟩,
    ⟨(some 64), .call (.c (.fn n_engramkeep_Tape_value [])) [(.t 60), (.t 62), (.t 63)], none⟩,
    ⟨(some 65), .bslice 1 [.str ⟨#[]⟩, .str ⟨#[]⟩, .str ⟨#[]⟩, .str ⟨#[]⟩, .str ⟨#[]⟩, .str ⟨#[]⟩, .str ⟨#[]⟩] 7 [(0, 1, (.c (.str ⟨#[33]⟩))), (1, 1, (.c (.str ⟨#[46, 43]⟩))), (2, 1, (.c (.str ⟨#[194, 169]⟩))), (3, 1, (.c (.str ⟨#[64]⟩))), (4, 1, (.c (.str ⟨#[207, 128, 113]⟩))), (5, 1, (.c (.str ⟨#[46, 44]⟩))), (6, 1, (.c (.str ⟨#[194, 164]⟩)))], none⟩,
    ⟨(some 66), .mov (.t 0), none⟩,
    ⟨(some 67), .call (.c (.fn n_engramkeep_Tape_Next [])) [(.t 66), (.c (.int .i64 7))], none⟩,
    ⟨(some 68), .iadr 1 (.t 65) (.t 67), none⟩,
    ⟨(some 69), .ld false 1 (.t 68), none⟩,
    ⟨(some 70), .bin .add (.t 64) (.t 69), none⟩,
    ⟨(some 6), .mov (.t 70), none⟩])
    (.ret))
    (.seq (.reg [⟨(some 72), .mov (.t 7), none⟩,
    ⟨(some 73), .bin .eql (.t 72) (.c (.int .i64 10)), none⟩,
    ⟨(some 71), .mov (.t 73), none⟩])
    (.cond (.t 71)
    (.seq (.reg [⟨(some 74), .mov (.t 0), none⟩,
    ⟨(some 75), .mov (.t 1), none⟩,
    ⟨(some 76), .bin .sub (.t 75) (.c (.int .i64 1)), none⟩,
    ⟨(some 77), .mov (.t 2), none⟩,
    ⟨(some 78), .call (.c (.fn n_engramkeep_Tape_value [])) [(.t 74), (.t 76), (.t 77)], none⟩,
    ⟨(some 79), .bin .add (.t 78) (.c (.str ⟨#[63]⟩)), none⟩,
    ⟨(some 80), .mov (.t 0), none⟩,
    ⟨(some 81), .mov (.t 1), none⟩,
    ⟨(some 82), .bin .sub (.t 81) (.c (.int .i64 1)), none⟩,
    ⟨(some 83), .mov (.t 2), none⟩,
    ⟨(some 84), .call (.c (.fn n_engramkeep_Tape_value [])) [(.t 80), (.t 82), (.t 83)], none⟩,
    ⟨(some 85), .bin .add (.t 79) (.t 84), none⟩,
    ⟨(some 86), .bin .add (.t 85) (.c (.str ⟨#[58]⟩)), none⟩,
    ⟨(some 87), .mov (.t 0), none⟩,
    ⟨(some 88), .mov (.t 1), none⟩,
    ⟨(some 89), .bin .sub (.t 88) (.c (.int .i64 1)), none⟩,
    ⟨(some 90), .mov (.t 2), none⟩,
    ⟨(some 91), .call (.c (.fn n_engramkeep_Tape_value [])) [(.t 87), (.t 89), (.t 90)], none⟩,
    ⟨(some 92), .bin .add (.t 86) (.t 91), none⟩,
    ⟨(some 93), .bin .add (.t 92) (.c (.str ⟨#[59]⟩)), none⟩,
    ⟨(some 6), .mov (.t 93), none⟩])
    (.ret))
    (.seq (.reg [⟨(some 95), .mov (.t 7), none⟩,
    ⟨(some 96), .bin .eql (.t 95) (.c (.int .i64 11)), none⟩,
    ⟨(some 94), .mov (.t 96), none⟩])
    (.cond (.t 94)
    (.seq (.reg [⟨(some 6), .mov (.c (.str ⟨#[35]⟩)), none⟩])
    (.ret))
    (.seq (.reg [⟨(some 98), .mov (.t 7), none⟩,
    ⟨(some 99), .bin .eql (.t 98) (.c (.int .i64 12)), none⟩,
    ⟨(some 100), .mov (.t 99), none⟩,
    ⟨(some 101), .mov (.t 2), (some (100, true))⟩,
    ⟨(some 102), .len (.t 101), (some (100, true))⟩,
    ⟨(some 103), .bin .gtr (.t 102) (.c (.int .i64 0)), (some (100, true))⟩,
    ⟨(some 104), .pick (.t 100) (.t 103) (.c (.bool false)), none⟩,
    ⟨(some 97), .mov (.t 104), none⟩])
    (.cond (.t 97)
    (.seq (.reg [⟨(some 105), .mov (.t 2), none⟩,
    ⟨(some 106), .mov (.t 0), none⟩,
    ⟨(some 107), .mov (.t 2), none⟩,
    ⟨(some 108), .len (.t 107), none⟩,
    ⟨(some 109), .call (.c (.fn n_engramkeep_Tape_Next [])) [(.t 106), (.t 108)], none⟩,
    ⟨(some 110), .iadr 3 (.t 105) (.t 109), none⟩,
    ⟨(some 111), .ld true 3 (.t 110), none⟩,
    ⟨(some 9), .alloc [.int .i32 0, .int .i64 0, .str ⟨#[]⟩], none⟩,
    ⟨none, .st 3 (.t 9) (.t 111), none⟩])
    (.seq (.reg [⟨(some 10), .mov (.c (.str ⟨#[]⟩)), none⟩])
    (.seq (.seq (.reg [⟨(some 11), .mov (.c (.int .i64 0)), none⟩])
    (.block 1 (.loopK [0, 1, 2, 9, 10, 11] l0_engramkeep_Tape_value)))
    (.keep [9, 10] (.seq (.reg [⟨(some 125), .mov (.t 10), none⟩,
    ⟨(some 126), .bin .add (.t 125) (.c (.str ⟨#[206, 187]⟩)), none⟩,
    ⟨(some 127), .fadr 0 (.t 9), none⟩,
    ⟨(some 128), .ld false 1 (.t 127), none⟩,
    ⟨(some 129), .cstr (.t 128), none⟩,
    ⟨(some 130), .bin .add (.t 126) (.t 129), none⟩,
    ⟨(some 6), .mov (.t 130), none⟩])
    (.ret))))))
    (.skip)))))))))))))))))
    (.keep [0, 1, 2] (.seq (.reg [⟨(some 131), .mov (.t 0), none⟩,
    ⟨(some 132), .mov (.t 1), none⟩,
    ⟨(some 133), .bin .sub (.t 132) (.c (.int .i64 1)), none⟩,
    ⟨(some 134), .mov (.t 2), none⟩,
    ⟨(some 135), .call (.c (.fn n_engramkeep_Tape_value [])) [(.t 131), (.t 133), (.t 134)], none⟩,
    ⟨(some 136), .mov (.t 0), none⟩,
    ⟨(some 137), .call (.c (.fn n_engramkeep_Tape_Next [])) [(.t 136), (.c (.int .i64 4))], none⟩,
    ⟨(some 138), .bin .add (.c (.int .i64 65)) (.t 137), none⟩,
    ⟨(some 139), .cint .i32 (.t 138), none⟩,
    ⟨(some 140), .cstr (.t 139), none⟩,
    ⟨(some 141), .bin .add (.t 135) (.t 140), none⟩,
    ⟨(some 142), .mov (.t 0), none⟩,
    ⟨(some 143), .call (.c (.fn n_engramkeep_Tape_Next [])) [(.t 142), (.c (.int .i64 4))], none⟩,
    ⟨(some 144), .bin .add (.c (.int .i64 97)) (.t 143), none⟩,
    ⟨(some 145), .cint .i32 (.t 144), none⟩,
    ⟨(some 146), .cstr (.t 145), none⟩,
    ⟨(some 147), .bin .add (.t 141) (.t 146), none⟩,
    ⟨(some 6), .mov (.t 147), none⟩])
    (.ret))))


/-- engram/engramkeep.odd -/
def f_engramkeep_odd : IFun where
  nargs := 2
  results := [.cell 4 true 3]
  pure := true
  frz := true
  drop := []
  body :=
   .seq (.reg [⟨(some 2), .box (.t 0), none⟩,
    ⟨(some 3), .box (.t 1), none⟩,
    ⟨(some 4), .alloc [.int .i64 0, .int .i64 0, .nilsl], none⟩])
   (.seq (.reg [⟨(some 9), .bslice 3 [] 0 [], none⟩,
    ⟨(some 10), .fadr 2 (.t 2), none⟩,
    ⟨(some 11), .ld false 1 (.t 10), none⟩,
    ⟨(some 12), .app 3 32 (.t 9) (.t 11), none⟩,
    ⟨(some 13), .fadr 2 (.t 2), none⟩,
    ⟨none, .st 1 (.t 13) (.t 12), none⟩])
    (.seq (.reg [⟨(some 14), .fadr 4 (.t 3), none⟩,
    ⟨(some 15), .ld false 1 (.t 14), none⟩,
    ⟨(some 5), .mov (.t 15), none⟩])
    (.seq (.seq (.reg [⟨(some 16), .mov (.t 5), none⟩,
    ⟨(some 17), .lens (.t 16), none⟩,
    ⟨(some 18), .bin .gtr (.t 17) (.c (.int .i64 12)), none⟩])
    (.cond (.t 18)
    (.reg [⟨(some 19), .mov (.t 5), none⟩,
    ⟨(some 20), .slcs (.t 19) none (some (.c (.int .i64 12))), none⟩,
    ⟨(some 5), .mov (.t 20), none⟩])
    (.skip)))
    (.seq (.seq (.reg [⟨(some 21), .fadr 2 (.t 2), none⟩,
    ⟨(some 22), .ld false 1 (.t 21), none⟩,
    ⟨(some 23), .len (.t 22), none⟩,
    ⟨(some 24), .bin .eql (.t 23) (.c (.int .i64 0)), none⟩,
    ⟨(some 25), .mov (.t 24), none⟩,
    ⟨(some 26), .fadr 0 (.t 3), (some (25, false))⟩,
    ⟨(some 27), .ld false 1 (.t 26), (some (25, false))⟩,
    ⟨(some 28), .bin .rem (.t 27) (.c (.int .i64 5)), (some (25, false))⟩,
    ⟨(some 29), .bin .eql (.t 28) (.c (.int .i64 4)), (some (25, false))⟩,
    ⟨(some 30), .pick (.t 25) (.c (.bool true)) (.t 29), none⟩])
    (.cond (.t 30)
    (.seq (.seq (.reg [⟨(some 31), .fadr 0 (.t 3), none⟩,
    ⟨(some 32), .ld false 1 (.t 31), none⟩,
    ⟨(some 33), .bin .quo (.t 32) (.c (.int .i64 5)), none⟩,
    ⟨(some 34), .call (.c (.fn n_engramkeep_at [])) [(.t 33), (.c (.int .i64 3))], none⟩])
    (.block 0 (.seq (.reg [⟨(some 43), .bin .eql (.t 34) (.c (.int .i64 0)), none⟩,
    ⟨(some 42), .mov (.t 43), none⟩])
    (.cond (.t 42)
    (.reg [⟨(some 44), .fadr 3 (.t 3), none⟩,
    ⟨(some 45), .ld false 1 (.t 44), none⟩,
    ⟨(some 46), .fadr 0 (.t 2), none⟩,
    ⟨none, .st 1 (.t 46) (.t 45), none⟩])
    (.seq (.reg [⟨(some 48), .bin .eql (.t 34) (.c (.int .i64 1)), none⟩,
    ⟨(some 47), .mov (.t 48), none⟩])
    (.cond (.t 47)
    (.reg [⟨(some 49), .fadr 3 (.t 3), none⟩,
    ⟨(some 50), .ld false 1 (.t 49), none⟩,
    ⟨(some 51), .fadr 1 (.t 2), none⟩,
    ⟨none, .st 1 (.t 51) (.t 50), none⟩])
    (.reg [⟨(some 35), .fadr 2 (.t 2), none⟩,
    ⟨(some 36), .ld false 1 (.t 35), none⟩,
    ⟨(some 37), .mov (.t 5), none⟩,
    ⟨(some 38), .build [.int .i32 0, .int .i64 0, .str ⟨#[]⟩] [(0, 1, (.c (.int .i32 107))), (2, 1, (.t 37))], none⟩,
    ⟨(some 39), .bslice 3 [.int .i32 0, .int .i64 0, .str ⟨#[]⟩] 1 [(0, 3, (.t 38))], none⟩,
    ⟨(some 40), .app 3 32 (.t 36) (.t 39), none⟩,
    ⟨(some 41), .fadr 2 (.t 2), none⟩,
    ⟨none, .st 1 (.t 41) (.t 40), none⟩])))))))
    (.seq (.reg [⟨(some 52), .ld true 3 (.t 2), none⟩,
    ⟨none, .st 3 (.t 4) (.t 52), none⟩])
    (.ret)))
    (.skip)))
    (.seq (.reg [⟨(some 53), .fadr 1 (.t 3), none⟩,
    ⟨(some 54), .ld false 1 (.t 53), none⟩,
    ⟨(some 55), .fadr 2 (.t 2), none⟩,
    ⟨(some 56), .ld false 1 (.t 55), none⟩,
    ⟨(some 57), .len (.t 56), none⟩,
    ⟨(some 58), .call (.c (.fn n_engramkeep_at [])) [(.t 54), (.t 57)], none⟩,
    ⟨(some 6), .mov (.t 58), none⟩])
    (.seq (.reg [⟨(some 59), .fadr 2 (.t 2), none⟩,
    ⟨(some 60), .ld false 1 (.t 59), none⟩,
    ⟨(some 61), .mov (.t 6), none⟩,
    ⟨(some 62), .iadr 3 (.t 60) (.t 61), none⟩,
    ⟨(some 63), .ld true 3 (.t 62), none⟩,
    ⟨(some 7), .alloc [.int .i32 0, .int .i64 0, .str ⟨#[]⟩], none⟩,
    ⟨none, .st 3 (.t 7) (.t 63), none⟩])
    (.seq (.reg [⟨(some 64), .fadr 2 (.t 3), none⟩,
    ⟨(some 65), .ld false 1 (.t 64), none⟩,
    ⟨(some 66), .fadr 2 (.t 7), none⟩,
    ⟨(some 67), .ld false 1 (.t 66), none⟩,
    ⟨(some 68), .lens (.t 67), none⟩,
    ⟨(some 69), .bin .add (.t 68) (.c (.int .i64 1)), none⟩,
    ⟨(some 70), .call (.c (.fn n_engramkeep_at [])) [(.t 65), (.t 69)], none⟩,
    ⟨(some 8), .mov (.t 70), none⟩])
    (.seq (.seq (.reg [⟨(some 71), .fadr 0 (.t 3), none⟩,
    ⟨(some 72), .ld false 1 (.t 71), none⟩,
    ⟨(some 73), .bin .quo (.t 72) (.c (.int .i64 5)), none⟩,
    ⟨(some 74), .call (.c (.fn n_engramkeep_at [])) [(.t 73), (.c (.int .i64 5))], none⟩])
    (.block 1 (.seq (.reg [⟨(some 80), .bin .eql (.t 74) (.c (.int .i64 0)), none⟩,
    ⟨(some 79), .mov (.t 80), none⟩])
    (.cond (.t 79)
    (.reg [⟨(some 81), .fadr 2 (.t 7), none⟩,
    ⟨(some 82), .ld false 1 (.t 81), none⟩,
    ⟨(some 83), .mov (.t 8), none⟩,
    ⟨(some 84), .slcs (.t 82) none (some (.t 83)), none⟩,
    ⟨(some 85), .mov (.t 5), none⟩,
    ⟨(some 86), .bin .add (.t 84) (.t 85), none⟩,
    ⟨(some 87), .fadr 2 (.t 7), none⟩,
    ⟨(some 88), .ld false 1 (.t 87), none⟩,
    ⟨(some 89), .mov (.t 8), none⟩,
    ⟨(some 90), .slcs (.t 88) (some (.t 89)) none, none⟩,
    ⟨(some 91), .bin .add (.t 86) (.t 90), none⟩,
    ⟨(some 92), .fadr 2 (.t 7), none⟩,
    ⟨none, .st 1 (.t 92) (.t 91), none⟩])
    (.seq (.reg [⟨(some 94), .bin .eql (.t 74) (.c (.int .i64 1)), none⟩,
    ⟨(some 93), .mov (.t 94), none⟩])
    (.cond (.t 93)
    (.reg [⟨(some 95), .fadr 2 (.t 7), none⟩,
    ⟨(some 96), .ld false 1 (.t 95), none⟩,
    ⟨(some 97), .mov (.t 8), none⟩,
    ⟨(some 98), .slcs (.t 96) none (some (.t 97)), none⟩,
    ⟨(some 99), .fadr 2 (.t 7), none⟩,
    ⟨(some 100), .ld false 1 (.t 99), none⟩,
    ⟨(some 101), .mov (.t 8), none⟩,
    ⟨(some 102), .bin .add (.t 101) (.c (.int .i64 1)), none⟩,
    ⟨(some 103), .fadr 2 (.t 7), none⟩,
    ⟨(some 104), .ld false 1 (.t 103), none⟩,
    ⟨(some 105), .lens (.t 104), none⟩,
    ⟨(some 106), .mm false (.t 102) (.t 105), none⟩,
    ⟨(some 107), .slcs (.t 100) (some (.t 106)) none, none⟩,
    ⟨(some 108), .bin .add (.t 98) (.t 107), none⟩,
    ⟨(some 109), .fadr 2 (.t 7), none⟩,
    ⟨none, .st 1 (.t 109) (.t 108), none⟩])
    (.seq (.reg [⟨(some 111), .bin .eql (.t 74) (.c (.int .i64 2)), none⟩,
    ⟨(some 110), .mov (.t 111), none⟩])
    (.cond (.t 110)
    (.reg [⟨(some 112), .fadr 2 (.t 7), none⟩,
    ⟨(some 113), .ld false 1 (.t 112), none⟩,
    ⟨(some 114), .mov (.t 8), none⟩,
    ⟨(some 115), .slcs (.t 113) none (some (.t 114)), none⟩,
    ⟨(some 116), .mov (.t 5), none⟩,
    ⟨(some 117), .bin .add (.t 115) (.t 116), none⟩,
    ⟨(some 118), .fadr 2 (.t 7), none⟩,
    ⟨(some 119), .ld false 1 (.t 118), none⟩,
    ⟨(some 120), .mov (.t 8), none⟩,
    ⟨(some 121), .bin .add (.t 120) (.c (.int .i64 1)), none⟩,
    ⟨(some 122), .fadr 2 (.t 7), none⟩,
    ⟨(some 123), .ld false 1 (.t 122), none⟩,
    ⟨(some 124), .lens (.t 123), none⟩,
    ⟨(some 125), .mm false (.t 121) (.t 124), none⟩,
    ⟨(some 126), .slcs (.t 119) (some (.t 125)) none, none⟩,
    ⟨(some 127), .bin .add (.t 117) (.t 126), none⟩,
    ⟨(some 128), .fadr 2 (.t 7), none⟩,
    ⟨none, .st 1 (.t 128) (.t 127), none⟩])
    (.seq (.reg [⟨(some 130), .bin .eql (.t 74) (.c (.int .i64 3)), none⟩,
    ⟨(some 129), .mov (.t 130), none⟩])
    (.cond (.t 129)
    (.reg [⟨(some 131), .fadr 3 (.t 3), none⟩,
    ⟨(some 132), .ld false 1 (.t 131), none⟩,
    ⟨(some 133), .fadr 1 (.t 7), none⟩,
    ⟨none, .st 1 (.t 133) (.t 132), none⟩])
    (.reg [⟨(some 75), .fadr 3 (.t 3), none⟩,
    ⟨(some 76), .ld false 1 (.t 75), none⟩,
    ⟨(some 77), .cint .i32 (.t 76), none⟩,
    ⟨(some 78), .fadr 0 (.t 7), none⟩,
    ⟨none, .st 1 (.t 78) (.t 77), none⟩])))))))))))
    (.seq (.reg [⟨(some 134), .fadr 2 (.t 2), none⟩,
    ⟨(some 135), .ld false 1 (.t 134), none⟩,
    ⟨(some 136), .mov (.t 6), none⟩,
    ⟨(some 137), .ld true 3 (.t 7), none⟩,
    ⟨(some 138), .iadr 3 (.t 135) (.t 136), none⟩,
    ⟨none, .st 3 (.t 138) (.t 137), none⟩])
    (.seq (.reg [⟨(some 139), .ld true 3 (.t 2), none⟩,
    ⟨none, .st 3 (.t 4) (.t 139), none⟩])
    (.ret)))))))))))

def l0_glyph_Tokens : IC :=
  .seq (.reg [⟨(some 14), .next (.t 13), none⟩,
    ⟨(some 15), .ext (.t 14) 0, none⟩])
  (.seq (.cond (.t 15)
    (.skip)
    (.exit 0))
   (.block 1 (.seq (.reg [⟨(some 16), .ext (.t 14) 2, none⟩,
    ⟨(some 6), .mov (.t 16), none⟩])
    (.seq (.reg [⟨(some 17), .mov (.t 4), none⟩,
    ⟨(some 18), .mov (.t 6), none⟩,
    ⟨(some 19), .call (.c (.fn n_glyph_reader_rune [])) [(.t 17), (.t 18)], none⟩])
    (.seq (.reg [⟨(some 20), .mov (.t 4), none⟩,
    ⟨(some 21), .nilc (.t 20), none⟩,
    ⟨(some 22), .fadr 2 (.t 21), none⟩,
    ⟨(some 23), .ld false 1 (.t 22), none⟩])
    (.cond (.t 23)
    (.seq (.reg [⟨(some 2), .mov (.c (.nilsl)), none⟩,
    ⟨(some 3), .mov (.c (.int .i64 12)), none⟩])
    (.ret))
    (.skip)))))))
/-- engram/glyph.Tokens -/
def f_glyph_Tokens : IFun where
  nargs := 1
  results := [.tmp 2, .tmp 3]
  pure := true
  frz := true
  drop := []
  body :=
   .seq (.reg [⟨(some 2), .mov (.c (.nilsl)), none⟩,
    ⟨(some 3), .mov (.c (.int .i64 0)), none⟩])
   (.seq (.seq (.reg [⟨(some 7), .mov (.t 0), none⟩,
    ⟨(some 8), .lens (.t 7), none⟩,
    ⟨(some 9), .bin .gtr (.t 8) (.c (.int .i64 512)), none⟩])
    (.cond (.t 9)
    (.seq (.reg [⟨(some 2), .mov (.c (.nilsl)), none⟩,
    ⟨(some 3), .mov (.c (.int .i64 3)), none⟩])
    (.ret))
    (.skip)))
    (.seq (.reg [⟨(some 10), .build [.nilsl, .str ⟨#[]⟩, .bool false] [], none⟩,
    ⟨(some 11), .box (.t 10), none⟩,
    ⟨(some 4), .mov (.t 11), none⟩])
    (.seq (.seq (.reg [⟨(some 12), .mov (.t 0), none⟩,
    ⟨(some 13), .rng (.t 12), none⟩])
    (.block 0 (.loopK [4, 13] l0_glyph_Tokens)))
    (.keep [4] (.seq (.seq (.reg [⟨(some 24), .mov (.t 4), none⟩,
    ⟨(some 25), .call (.c (.fn n_glyph_reader_number [])) [(.t 24)], none⟩])
    (.seq (.reg [⟨(some 26), .mov (.t 4), none⟩,
    ⟨(some 27), .nilc (.t 26), none⟩,
    ⟨(some 28), .fadr 2 (.t 27), none⟩,
    ⟨(some 29), .ld false 1 (.t 28), none⟩,
    ⟨(some 30), .mov (.t 29), none⟩,
    ⟨(some 31), .mov (.t 4), (some (30, false))⟩,
    ⟨(some 32), .call (.c (.fn n_glyph_reader_waits [])) [(.t 31)], (some (30, false))⟩,
    ⟨(some 33), .pick (.t 30) (.c (.bool true)) (.t 32), none⟩])
    (.cond (.t 33)
    (.seq (.reg [⟨(some 2), .mov (.c (.nilsl)), none⟩,
    ⟨(some 3), .mov (.c (.int .i64 12)), none⟩])
    (.ret))
    (.skip))))
    (.seq (.reg [⟨(some 34), .mov (.t 4), none⟩,
    ⟨(some 35), .nilc (.t 34), none⟩,
    ⟨(some 36), .fadr 0 (.t 35), none⟩,
    ⟨(some 37), .ld false 1 (.t 36), none⟩,
    ⟨(some 2), .mov (.t 37), none⟩,
    ⟨(some 3), .mov (.c (.int .i64 0)), none⟩])
    (.ret)))))))


/-- engram/nest.Of -/
def f_nest_Of : IFun where
  nargs := 1
  results := [.tmp 2, .tmp 3]
  pure := true
  frz := true
  drop := []
  body :=
   .seq (.reg [⟨(some 2), .mov (.c (.nilsl)), none⟩,
    ⟨(some 3), .mov (.c (.int .i64 0)), none⟩])
   (.seq (.reg [⟨(some 7), .mov (.t 0), none⟩,
    ⟨(some 8), .call (.c (.fn n_nest_match [])) [(.t 7)], none⟩,
    ⟨(some 6), .mov (.t 8), none⟩,
    ⟨(some 9), .ext (.t 6) 0, none⟩,
    ⟨(some 10), .ext (.t 6) 1, none⟩,
    ⟨(some 4), .mov (.t 9), none⟩,
    ⟨(some 5), .mov (.t 10), none⟩])
    (.seq (.seq (.reg [⟨(some 11), .mov (.t 5), none⟩,
    ⟨(some 12), .un .not (.t 11), none⟩])
    (.cond (.t 12)
    (.seq (.reg [⟨(some 2), .mov (.c (.nilsl)), none⟩,
    ⟨(some 3), .mov (.c (.int .i64 13)), none⟩])
    (.ret))
    (.skip)))
    (.seq (.reg [⟨(some 13), .mov (.t 4), none⟩,
    ⟨(some 14), .nilc (.t 13), none⟩,
    ⟨(some 15), .fadr 0 (.t 14), none⟩,
    ⟨(some 16), .ld false 1 (.t 15), none⟩,
    ⟨(some 2), .mov (.t 16), none⟩,
    ⟨(some 3), .mov (.c (.int .i64 0)), none⟩])
    (.ret))))


/-- (*engram/check.judge).token -/
def f_check_judge_token : IFun where
  nargs := 2
  results := [.tmp 4]
  pure := false
  frz := false
  drop := []
  body :=
   .seq (.reg [⟨(some 3), .box (.t 1), none⟩,
    ⟨(some 4), .mov (.c (.int .i64 0)), none⟩])
   (.seq (.regW [⟨(some 8), .mov (.t 0), none⟩,
    ⟨(some 9), .mov (.t 0), none⟩,
    ⟨(some 10), .nilc (.t 9), none⟩,
    ⟨(some 11), .fadr 5 (.t 10), none⟩,
    ⟨(some 12), .ld false 1 (.t 11), none⟩,
    ⟨(some 13), .mov (.t 0), none⟩,
    ⟨(some 14), .nilc (.t 13), none⟩,
    ⟨(some 15), .fadr 3 (.t 14), none⟩,
    ⟨(some 16), .ld false 1 (.t 15), none⟩,
    ⟨(some 17), .bslice 1 [.int .i64 0] 1 [(0, 1, (.t 16))], none⟩,
    ⟨(some 18), .app 1 8 (.t 12) (.t 17), none⟩,
    ⟨(some 19), .nilc (.t 8), none⟩,
    ⟨(some 20), .fadr 5 (.t 19), none⟩,
    ⟨none, .st 1 (.t 20) (.t 18), none⟩] [(4, 10)])
    (.seq (.seq (.reg [⟨(some 21), .mov (.t 0), none⟩,
    ⟨(some 22), .nilc (.t 21), none⟩,
    ⟨(some 23), .fadr 3 (.t 22), none⟩,
    ⟨(some 24), .ld false 1 (.t 23), none⟩,
    ⟨(some 25), .bin .eql (.t 24) (.c (.int .i64 (-1))), none⟩,
    ⟨(some 26), .mov (.t 25), none⟩,
    ⟨(some 27), .fadr 0 (.t 3), (some (26, true))⟩,
    ⟨(some 28), .ld false 1 (.t 27), (some (26, true))⟩,
    ⟨(some 29), .bin .neq (.t 28) (.c (.int .i32 58)), (some (26, true))⟩,
    ⟨(some 30), .pick (.t 26) (.t 29) (.c (.bool false)), none⟩,
    ⟨(some 31), .mov (.t 30), none⟩,
    ⟨(some 32), .fadr 0 (.t 3), (some (31, true))⟩,
    ⟨(some 33), .ld false 1 (.t 32), (some (31, true))⟩,
    ⟨(some 34), .bin .neq (.t 33) (.c (.int .i32 59)), (some (31, true))⟩,
    ⟨(some 35), .pick (.t 31) (.t 34) (.c (.bool false)), none⟩,
    ⟨(some 36), .mov (.t 35), none⟩,
    ⟨(some 37), .fadr 0 (.t 3), (some (36, true))⟩,
    ⟨(some 38), .ld false 1 (.t 37), (some (36, true))⟩,
    ⟨(some 39), .bin .neq (.t 38) (.c (.int .i32 93)), (some (36, true))⟩,
    ⟨(some 40), .pick (.t 36) (.t 39) (.c (.bool false)), none⟩])
    (.cond (.t 40)
    (.seq (.reg [⟨(some 4), .mov (.c (.int .i64 15)), none⟩])
    (.ret))
    (.skip)))
    (.seq (.reg [⟨(some 42), .mov (.t 0), none⟩,
    ⟨(some 43), .nilc (.t 42), none⟩,
    ⟨(some 44), .fadr 0 (.t 43), none⟩,
    ⟨(some 45), .ld true 3 (.t 44), none⟩,
    ⟨(some 46), .ld true 3 (.t 3), none⟩,
    ⟨(some 47), .call (.c (.fn n_check_Takes [])) [(.t 45), (.t 46)], none⟩,
    ⟨(some 41), .mov (.t 47), none⟩,
    ⟨(some 48), .ext (.t 41) 0, none⟩,
    ⟨(some 49), .ext (.t 41) 1, none⟩,
    ⟨(some 50), .ext (.t 41) 2, none⟩,
    ⟨(some 5), .mov (.t 48), none⟩,
    ⟨(some 6), .mov (.t 49), none⟩,
    ⟨(some 7), .mov (.t 50), none⟩])
    (.seq (.seq (.reg [⟨(some 51), .mov (.t 7), none⟩,
    ⟨(some 52), .un .not (.t 51), none⟩])
    (.cond (.t 52)
    (.seq (.reg [⟨(some 4), .mov (.c (.int .i64 22)), none⟩])
    (.ret))
    (.skip)))
    (.seq (.seq (.reg [⟨(some 53), .mov (.t 0), none⟩,
    ⟨(some 54), .nilc (.t 53), none⟩,
    ⟨(some 55), .fadr 3 (.t 54), none⟩,
    ⟨(some 56), .ld false 1 (.t 55), none⟩,
    ⟨(some 57), .bin .neq (.t 56) (.c (.int .i64 (-1))), none⟩])
    (.cond (.t 57)
    (.seq (.seq (.reg [⟨(some 58), .mov (.t 0), none⟩,
    ⟨(some 59), .nilc (.t 58), none⟩,
    ⟨(some 60), .fadr 3 (.t 59), none⟩,
    ⟨(some 61), .ld false 1 (.t 60), none⟩,
    ⟨(some 62), .mov (.t 0), none⟩,
    ⟨(some 63), .call (.c (.fn n_check_judge_base [])) [(.t 62)], none⟩,
    ⟨(some 64), .bin .sub (.t 61) (.t 63), none⟩,
    ⟨(some 65), .mov (.t 5), none⟩,
    ⟨(some 66), .bin .lss (.t 64) (.t 65), none⟩,
    ⟨(some 67), .mov (.t 66), none⟩,
    ⟨(some 68), .mov (.t 0), (some (67, false))⟩,
    ⟨(some 69), .nilc (.t 68), (some (67, false))⟩,
    ⟨(some 70), .fadr 3 (.t 69), (some (67, false))⟩,
    ⟨(some 71), .ld false 1 (.t 70), (some (67, false))⟩,
    ⟨(some 72), .mov (.t 5), (some (67, false))⟩,
    ⟨(some 73), .bin .sub (.t 71) (.t 72), (some (67, false))⟩,
    ⟨(some 74), .mov (.t 6), (some (67, false))⟩,
    ⟨(some 75), .bin .add (.t 73) (.t 74), (some (67, false))⟩,
    ⟨(some 76), .bin .gtr (.t 75) (.c (.int .i64 64)), (some (67, false))⟩,
    ⟨(some 77), .pick (.t 67) (.c (.bool true)) (.t 76), none⟩])
    (.cond (.t 77)
    (.seq (.reg [⟨(some 4), .mov (.c (.int .i64 14)), none⟩])
    (.ret))
    (.skip)))
    (.reg [⟨(some 78), .mov (.t 0), none⟩,
    ⟨(some 79), .nilc (.t 78), none⟩,
    ⟨(some 80), .fadr 3 (.t 79), none⟩,
    ⟨(some 81), .ld false 1 (.t 80), none⟩,
    ⟨(some 82), .mov (.t 6), none⟩,
    ⟨(some 83), .mov (.t 5), none⟩,
    ⟨(some 84), .bin .sub (.t 82) (.t 83), none⟩,
    ⟨(some 85), .bin .add (.t 81) (.t 84), none⟩,
    ⟨(some 86), .nilc (.t 78), none⟩,
    ⟨(some 87), .fadr 3 (.t 86), none⟩,
    ⟨none, .st 1 (.t 87) (.t 85), none⟩]))
    (.skip)))
    (.seq (.reg [⟨(some 88), .mov (.t 0), none⟩,
    ⟨(some 89), .fadr 0 (.t 3), none⟩,
    ⟨(some 90), .ld false 1 (.t 89), none⟩,
    ⟨(some 91), .call (.c (.fn n_check_judge_turn [])) [(.t 88), (.t 90)], none⟩,
    ⟨(some 4), .mov (.t 91), none⟩])
    (.ret)))))))

def l0_engramref9_runes : IC :=
  .seq (.reg [⟨(some 8), .next (.t 7), none⟩,
    ⟨(some 9), .ext (.t 8) 0, none⟩])
  (.seq (.cond (.t 9)
    (.skip)
    (.exit 0))
   (.block 1 (.seq (.reg [⟨(some 10), .ext (.t 8) 2, none⟩,
    ⟨(some 5), .mov (.t 10), none⟩])
    (.reg [⟨(some 11), .mov (.t 3), none⟩,
    ⟨(some 12), .mov (.t 5), none⟩,
    ⟨(some 13), .bslice 1 [.int .i32 0] 1 [(0, 1, (.t 12))], none⟩,
    ⟨(some 14), .app 1 4 (.t 11) (.t 13), none⟩,
    ⟨(some 3), .mov (.t 14), none⟩]))))
/-- engram/engramref9.runes -/
def f_engramref9_runes : IFun where
  nargs := 1
  results := [.tmp 2]
  pure := true
  frz := true
  drop := []
  body :=
   .seq (.reg [⟨(some 2), .mov (.c (.nilsl)), none⟩])
   (.seq (.reg [⟨(some 3), .mov (.c (.nilsl)), none⟩])
    (.seq (.seq (.reg [⟨(some 6), .mov (.t 0), none⟩,
    ⟨(some 7), .rng (.t 6), none⟩])
    (.block 0 (.loopK [3, 7] l0_engramref9_runes)))
    (.keep [3] (.seq (.reg [⟨(some 15), .mov (.t 3), none⟩,
    ⟨(some 2), .mov (.t 15), none⟩])
    (.ret)))))


/-- engram/engramref9.Name -/
def f_engramref9_Name : IFun where
  nargs := 1
  results := [.tmp 2]
  pure := true
  frz := true
  drop := []
  body :=
   .seq (.reg [⟨(some 2), .mov (.c (.bool false)), none⟩])
   (.seq (.reg [⟨(some 3), .mov (.t 0), none⟩,
    ⟨(some 4), .bin .geq (.t 3) (.c (.int .i32 97)), none⟩,
    ⟨(some 5), .mov (.t 4), none⟩,
    ⟨(some 6), .mov (.t 0), (some (5, true))⟩,
    ⟨(some 7), .bin .leq (.t 6) (.c (.int .i32 122)), (some (5, true))⟩,
    ⟨(some 8), .pick (.t 5) (.t 7) (.c (.bool false)), none⟩,
    ⟨(some 9), .mov (.t 8), none⟩,
    ⟨(some 10), .mov (.t 0), (some (9, false))⟩,
    ⟨(some 11), .bin .gtr (.t 10) (.c (.int .i32 255)), (some (9, false))⟩,
    ⟨(some 12), .mov (.t 11), (some (9, false))⟩,
    ⟨(some 13), .mov (.t 0), (some (12, true))⟩,
    ⟨(some 14), .bin .neq (.t 13) (.c (.int .i32 65533)), (some (12, true))⟩,
    ⟨(some 15), .pick (.t 12) (.t 14) (.c (.bool false)), (some (9, false))⟩,
    ⟨(some 16), .mov (.t 15), (some (9, false))⟩,
    ⟨(some 17), .mov (.t 0), (some (16, true))⟩,
    ⟨(some 18), .bin .leq (.t 17) (.c (.int .i32 1114111)), (some (16, true))⟩,
    ⟨(some 19), .pick (.t 16) (.t 18) (.c (.bool false)), (some (9, false))⟩,
    ⟨(some 20), .mov (.t 19), (some (9, false))⟩,
    ⟨(some 21), .mov (.t 0), (some (20, true))⟩,
    ⟨(some 22), .bin .lss (.t 21) (.c (.int .i32 55296)), (some (20, true))⟩,
    ⟨(some 23), .mov (.t 22), (some (20, true))⟩,
    ⟨(some 24), .mov (.t 0), (some (23, false))⟩,
    ⟨(some 25), .bin .gtr (.t 24) (.c (.int .i32 57343)), (some (23, false))⟩,
    ⟨(some 26), .pick (.t 23) (.c (.bool true)) (.t 25), (some (20, true))⟩,
    ⟨(some 27), .pick (.t 20) (.t 26) (.c (.bool false)), (some (9, false))⟩,
    ⟨(some 28), .pick (.t 9) (.c (.bool true)) (.t 27), none⟩,
    ⟨(some 2), .mov (.t 28), none⟩])
    (.ret))


/-- engram/engramref9.Known -/
def f_engramref9_Known : IFun where
  nargs := 1
  results := [.tmp 2]
  pure := true
  frz := true
  drop := []
  body :=
   .seq (.reg [⟨(some 2), .mov (.c (.bool false)), none⟩])
   (.seq (.reg [⟨(some 3), .mov (.t 0), none⟩,
    ⟨(some 4), .bin .geq (.t 3) (.c (.int .i32 97)), none⟩,
    ⟨(some 5), .mov (.t 4), none⟩,
    ⟨(some 6), .mov (.t 0), (some (5, true))⟩,
    ⟨(some 7), .bin .leq (.t 6) (.c (.int .i32 122)), (some (5, true))⟩,
    ⟨(some 8), .pick (.t 5) (.t 7) (.c (.bool false)), none⟩,
    ⟨(some 9), .mov (.t 8), none⟩,
    ⟨(some 10), .mov (.t 0), (some (9, false))⟩,
    ⟨(some 11), .bin .geq (.t 10) (.c (.int .i32 65)), (some (9, false))⟩,
    ⟨(some 12), .mov (.t 11), (some (9, false))⟩,
    ⟨(some 13), .mov (.t 0), (some (12, true))⟩,
    ⟨(some 14), .bin .leq (.t 13) (.c (.int .i32 90)), (some (12, true))⟩,
    ⟨(some 15), .pick (.t 12) (.t 14) (.c (.bool false)), (some (9, false))⟩,
    ⟨(some 16), .pick (.t 9) (.c (.bool true)) (.t 15), none⟩,
    ⟨(some 17), .mov (.t 16), none⟩,
    ⟨(some 18), .mov (.t 0), (some (17, false))⟩,
    ⟨(some 19), .call (.c (.fn n_engramref9_has [])) [(.c (.str ⟨#[43, 45, 42, 47, 37, 38, 124, 94, 60, 61, 33, 46, 44, 64, 36, 35, 63, 58, 59, 91, 93, 126, 194, 171, 194, 187, 194, 169, 194, 174, 194, 164, 194, 161, 206, 187, 207, 128]⟩)), (.t 18)], (some (17, false))⟩,
    ⟨(some 20), .pick (.t 17) (.c (.bool true)) (.t 19), none⟩,
    ⟨(some 2), .mov (.t 20), none⟩])
    (.ret))


/-- engram/check.Takes$1 -/
def f_check_Takes_1 : IFun where
  nargs := 2
  results := [.tmp 3]
  pure := false
  frz := false
  drop := []
  body :=
   .seq (.reg [⟨(some 3), .mov (.c (.bool false)), none⟩])
   (.seq (.reg [⟨(some 4), .mov (.t 0), none⟩,
    ⟨(some 5), .ld false 1 (.t 1), none⟩,
    ⟨(some 6), .call (.c (.fn n_check_hasRune [])) [(.t 4), (.t 5)], none⟩,
    ⟨(some 3), .mov (.t 6), none⟩])
    (.ret))

def l0_check_hasRune : IC :=
  .seq (.reg [⟨(some 9), .next (.t 8), none⟩,
    ⟨(some 10), .ext (.t 9) 0, none⟩])
  (.seq (.cond (.t 10)
    (.skip)
    (.exit 0))
   (.block 1 (.seq (.reg [⟨(some 11), .ext (.t 9) 2, none⟩,
    ⟨(some 6), .mov (.t 11), none⟩])
    (.seq (.reg [⟨(some 12), .mov (.t 6), none⟩,
    ⟨(some 13), .mov (.t 1), none⟩,
    ⟨(some 14), .bin .eql (.t 12) (.t 13), none⟩])
    (.cond (.t 14)
    (.seq (.reg [⟨(some 4), .mov (.c (.bool true)), none⟩])
    (.ret))
    (.skip))))))
/-- engram/check.hasRune -/
def f_check_hasRune : IFun where
  nargs := 2
  results := [.tmp 4]
  pure := true
  frz := true
  drop := []
  body :=
   .seq (.reg [⟨(some 4), .mov (.c (.bool false)), none⟩])
   (.seq (.seq (.reg [⟨(some 7), .mov (.t 0), none⟩,
    ⟨(some 8), .rng (.t 7), none⟩])
    (.block 0 (.loopK [1, 8] l0_check_hasRune)))
    (.keep [] (.seq (.reg [⟨(some 4), .mov (.c (.bool false)), none⟩])
    (.ret))))

def l0_engramref9_Nest : IC :=
  .seq (.reg [⟨(some 16), .bin .lss (.t 15) (.t 14), none⟩])
  (.seq (.cond (.t 16)
    (.skip)
    (.exit 0))
   (.seq (.block 1 (.seq (.reg [⟨(some 17), .mov (.t 15), none⟩,
    ⟨(some 8), .mov (.t 17), none⟩])
    (.seq (.reg [⟨(some 18), .mov (.t 5), none⟩,
    ⟨(some 19), .mov (.t 8), none⟩,
    ⟨(some 20), .iadr 1 (.t 18) (.t 19), none⟩,
    ⟨none, .st 1 (.t 20) (.c (.int .i64 (-1))), none⟩])
    (.seq (.reg [⟨(some 21), .mov (.t 0), none⟩,
    ⟨(some 22), .mov (.t 8), none⟩,
    ⟨(some 23), .iadr 3 (.t 21) (.t 22), none⟩,
    ⟨(some 24), .fadr 0 (.t 23), none⟩,
    ⟨(some 25), .ld false 1 (.t 24), none⟩])
    (.block 2 (.seq (.seq (.reg [⟨(some 27), .bin .eql (.t 25) (.c (.int .i32 63)), none⟩,
    ⟨(some 26), .mov (.t 27), none⟩])
    (.cond (.t 26)
    (.skip)
    (.reg [⟨(some 28), .bin .eql (.t 25) (.c (.int .i32 91)), none⟩,
    ⟨(some 26), .mov (.t 28), none⟩])))
    (.cond (.t 26)
    (.seq (.reg [⟨(some 29), .mov (.t 6), none⟩,
    ⟨(some 30), .mov (.t 8), none⟩,
    ⟨(some 31), .bslice 1 [.int .i64 0] 1 [(0, 1, (.t 30))], none⟩,
    ⟨(some 32), .app 1 8 (.t 29) (.t 31), none⟩,
    ⟨(some 6), .mov (.t 32), none⟩])
    (.seq (.reg [⟨(some 33), .mov (.t 7), none⟩,
    ⟨(some 34), .mov (.t 6), none⟩,
    ⟨(some 35), .len (.t 34), none⟩,
    ⟨(some 36), .mm true (.t 33) (.t 35), none⟩,
    ⟨(some 7), .mov (.t 36), none⟩])
    (.seq (.reg [⟨(some 37), .mov (.t 6), none⟩,
    ⟨(some 38), .len (.t 37), none⟩,
    ⟨(some 39), .bin .gtr (.t 38) (.c (.int .i64 16)), none⟩])
    (.cond (.t 39)
    (.seq (.reg [⟨(some 2), .mov (.c (.nilsl)), none⟩,
    ⟨(some 3), .mov (.c (.int .i64 (-1))), none⟩,
    ⟨(some 4), .mov (.c (.int .i64 13)), none⟩])
    (.ret))
    (.skip)))))
    (.seq (.reg [⟨(some 41), .bin .eql (.t 25) (.c (.int .i32 58)), none⟩,
    ⟨(some 40), .mov (.t 41), none⟩])
    (.cond (.t 40)
    (.seq (.seq (.reg [⟨(some 42), .mov (.t 6), none⟩,
    ⟨(some 43), .len (.t 42), none⟩,
    ⟨(some 44), .bin .eql (.t 43) (.c (.int .i64 0)), none⟩,
    ⟨(some 45), .mov (.t 44), none⟩,
    ⟨(some 46), .mov (.t 0), (some (45, false))⟩,
    ⟨(some 47), .mov (.t 6), (some (45, false))⟩,
    ⟨(some 48), .mov (.t 6), (some (45, false))⟩,
    ⟨(some 49), .len (.t 48), (some (45, false))⟩,
    ⟨(some 50), .bin .sub (.t 49) (.c (.int .i64 1)), (some (45, false))⟩,
    ⟨(some 51), .iadr 1 (.t 47) (.t 50), (some (45, false))⟩,
    ⟨(some 52), .ld false 1 (.t 51), (some (45, false))⟩,
    ⟨(some 53), .iadr 3 (.t 46) (.t 52), (some (45, false))⟩,
    ⟨(some 54), .fadr 0 (.t 53), (some (45, false))⟩,
    ⟨(some 55), .ld false 1 (.t 54), (some (45, false))⟩,
    ⟨(some 56), .bin .neq (.t 55) (.c (.int .i32 63)), (some (45, false))⟩,
    ⟨(some 57), .pick (.t 45) (.c (.bool true)) (.t 56), none⟩])
    (.cond (.t 57)
    (.seq (.reg [⟨(some 2), .mov (.c (.nilsl)), none⟩,
    ⟨(some 3), .mov (.c (.int .i64 (-1))), none⟩,
    ⟨(some 4), .mov (.c (.int .i64 13)), none⟩])
    (.ret))
    (.skip)))
    (.seq (.reg [⟨(some 58), .mov (.t 5), none⟩,
    ⟨(some 59), .mov (.t 6), none⟩,
    ⟨(some 60), .mov (.t 6), none⟩,
    ⟨(some 61), .len (.t 60), none⟩,
    ⟨(some 62), .bin .sub (.t 61) (.c (.int .i64 1)), none⟩,
    ⟨(some 63), .iadr 1 (.t 59) (.t 62), none⟩,
    ⟨(some 64), .ld false 1 (.t 63), none⟩,
    ⟨(some 65), .mov (.t 8), none⟩,
    ⟨(some 66), .bin .add (.t 65) (.c (.int .i64 1)), none⟩,
    ⟨(some 67), .iadr 1 (.t 58) (.t 64), none⟩,
    ⟨none, .st 1 (.t 67) (.t 66), none⟩])
    (.reg [⟨(some 68), .mov (.t 6), none⟩,
    ⟨(some 69), .mov (.t 6), none⟩,
    ⟨(some 70), .len (.t 69), none⟩,
    ⟨(some 71), .bin .sub (.t 70) (.c (.int .i64 1)), none⟩,
    ⟨(some 72), .mov (.t 8), none⟩,
    ⟨(some 73), .iadr 1 (.t 68) (.t 71), none⟩,
    ⟨none, .st 1 (.t 73) (.t 72), none⟩])))
    (.seq (.reg [⟨(some 75), .bin .eql (.t 25) (.c (.int .i32 59)), none⟩,
    ⟨(some 74), .mov (.t 75), none⟩])
    (.cond (.t 74)
    (.seq (.seq (.reg [⟨(some 76), .mov (.t 6), none⟩,
    ⟨(some 77), .len (.t 76), none⟩,
    ⟨(some 78), .bin .eql (.t 77) (.c (.int .i64 0)), none⟩,
    ⟨(some 79), .mov (.t 78), none⟩,
    ⟨(some 80), .mov (.t 0), (some (79, false))⟩,
    ⟨(some 81), .mov (.t 6), (some (79, false))⟩,
    ⟨(some 82), .mov (.t 6), (some (79, false))⟩,
    ⟨(some 83), .len (.t 82), (some (79, false))⟩,
    ⟨(some 84), .bin .sub (.t 83) (.c (.int .i64 1)), (some (79, false))⟩,
    ⟨(some 85), .iadr 1 (.t 81) (.t 84), (some (79, false))⟩,
    ⟨(some 86), .ld false 1 (.t 85), (some (79, false))⟩,
    ⟨(some 87), .iadr 3 (.t 80) (.t 86), (some (79, false))⟩,
    ⟨(some 88), .fadr 0 (.t 87), (some (79, false))⟩,
    ⟨(some 89), .ld false 1 (.t 88), (some (79, false))⟩,
    ⟨(some 90), .bin .eql (.t 89) (.c (.int .i32 91)), (some (79, false))⟩,
    ⟨(some 91), .pick (.t 79) (.c (.bool true)) (.t 90), none⟩])
    (.cond (.t 91)
    (.seq (.reg [⟨(some 2), .mov (.c (.nilsl)), none⟩,
    ⟨(some 3), .mov (.c (.int .i64 (-1))), none⟩,
    ⟨(some 4), .mov (.c (.int .i64 13)), none⟩])
    (.ret))
    (.skip)))
    (.seq (.reg [⟨(some 92), .mov (.t 5), none⟩,
    ⟨(some 93), .mov (.t 6), none⟩,
    ⟨(some 94), .mov (.t 6), none⟩,
    ⟨(some 95), .len (.t 94), none⟩,
    ⟨(some 96), .bin .sub (.t 95) (.c (.int .i64 1)), none⟩,
    ⟨(some 97), .iadr 1 (.t 93) (.t 96), none⟩,
    ⟨(some 98), .ld false 1 (.t 97), none⟩,
    ⟨(some 99), .mov (.t 8), none⟩,
    ⟨(some 100), .iadr 1 (.t 92) (.t 98), none⟩,
    ⟨none, .st 1 (.t 100) (.t 99), none⟩])
    (.reg [⟨(some 101), .mov (.t 6), none⟩,
    ⟨(some 102), .mov (.t 6), none⟩,
    ⟨(some 103), .len (.t 102), none⟩,
    ⟨(some 104), .bin .sub (.t 103) (.c (.int .i64 1)), none⟩,
    ⟨(some 105), .slc 1 (.t 101) none (some (.t 104)) none, none⟩,
    ⟨(some 6), .mov (.t 105), none⟩])))
    (.seq (.reg [⟨(some 107), .bin .eql (.t 25) (.c (.int .i32 93)), none⟩,
    ⟨(some 106), .mov (.t 107), none⟩])
    (.cond (.t 106)
    (.seq (.seq (.reg [⟨(some 108), .mov (.t 6), none⟩,
    ⟨(some 109), .len (.t 108), none⟩,
    ⟨(some 110), .bin .eql (.t 109) (.c (.int .i64 0)), none⟩,
    ⟨(some 111), .mov (.t 110), none⟩,
    ⟨(some 112), .mov (.t 0), (some (111, false))⟩,
    ⟨(some 113), .mov (.t 6), (some (111, false))⟩,
    ⟨(some 114), .mov (.t 6), (some (111, false))⟩,
    ⟨(some 115), .len (.t 114), (some (111, false))⟩,
    ⟨(some 116), .bin .sub (.t 115) (.c (.int .i64 1)), (some (111, false))⟩,
    ⟨(some 117), .iadr 1 (.t 113) (.t 116), (some (111, false))⟩,
    ⟨(some 118), .ld false 1 (.t 117), (some (111, false))⟩,
    ⟨(some 119), .iadr 3 (.t 112) (.t 118), (some (111, false))⟩,
    ⟨(some 120), .fadr 0 (.t 119), (some (111, false))⟩,
    ⟨(some 121), .ld false 1 (.t 120), (some (111, false))⟩,
    ⟨(some 122), .bin .neq (.t 121) (.c (.int .i32 91)), (some (111, false))⟩,
    ⟨(some 123), .pick (.t 111) (.c (.bool true)) (.t 122), none⟩])
    (.cond (.t 123)
    (.seq (.reg [⟨(some 2), .mov (.c (.nilsl)), none⟩,
    ⟨(some 3), .mov (.c (.int .i64 (-1))), none⟩,
    ⟨(some 4), .mov (.c (.int .i64 13)), none⟩])
    (.ret))
    (.skip)))
    (.seq (.reg [⟨(some 124), .mov (.t 5), none⟩,
    ⟨(some 125), .mov (.t 8), none⟩,
    ⟨(some 126), .mov (.t 6), none⟩,
    ⟨(some 127), .mov (.t 6), none⟩,
    ⟨(some 128), .len (.t 127), none⟩,
    ⟨(some 129), .bin .sub (.t 128) (.c (.int .i64 1)), none⟩,
    ⟨(some 130), .iadr 1 (.t 126) (.t 129), none⟩,
    ⟨(some 131), .ld false 1 (.t 130), none⟩,
    ⟨(some 132), .iadr 1 (.t 124) (.t 125), none⟩,
    ⟨none, .st 1 (.t 132) (.t 131), none⟩])
    (.reg [⟨(some 133), .mov (.t 6), none⟩,
    ⟨(some 134), .mov (.t 6), none⟩,
    ⟨(some 135), .len (.t 134), none⟩,
    ⟨(some 136), .bin .sub (.t 135) (.c (.int .i64 1)), none⟩,
    ⟨(some 137), .slc 1 (.t 133) none (some (.t 136)) none, none⟩,
    ⟨(some 6), .mov (.t 137), none⟩])))
    (.skip))))))))))))))
    (.reg [⟨(some 138), .bin .add (.t 15) (.c (.int .i64 1)), none⟩,
    ⟨(some 15), .mov (.t 138), none⟩])))
def l1_engramref9_Nest : IC :=
  .seq (.reg [⟨(some 145), .bin .lss (.t 144) (.t 143), none⟩])
  (.seq (.cond (.t 145)
    (.skip)
    (.exit 3))
   (.seq (.block 4 (.seq (.reg [⟨(some 146), .mov (.t 144), none⟩,
    ⟨(some 9), .mov (.t 146), none⟩])
    (.seq (.reg [⟨(some 147), .mov (.t 0), none⟩,
    ⟨(some 148), .mov (.t 9), none⟩,
    ⟨(some 149), .iadr 3 (.t 147) (.t 148), none⟩,
    ⟨(some 150), .fadr 0 (.t 149), none⟩,
    ⟨(some 151), .ld false 1 (.t 150), none⟩,
    ⟨(some 152), .bin .eql (.t 151) (.c (.int .i32 126)), none⟩])
    (.cond (.t 152)
    (.seq (.reg [⟨(some 153), .mov (.t 5), none⟩,
    ⟨(some 154), .mov (.t 9), none⟩,
    ⟨(some 155), .mov (.t 0), none⟩,
    ⟨(some 156), .mov (.t 5), none⟩,
    ⟨(some 157), .mov (.t 9), none⟩,
    ⟨(some 158), .call (.c (.fn n_engramref9_leaves [])) [(.t 155), (.t 156), (.t 157)], none⟩,
    ⟨(some 159), .iadr 1 (.t 153) (.t 154), none⟩,
    ⟨none, .st 1 (.t 159) (.t 158), none⟩])
    (.seq (.reg [⟨(some 160), .mov (.t 5), none⟩,
    ⟨(some 161), .mov (.t 9), none⟩,
    ⟨(some 162), .iadr 1 (.t 160) (.t 161), none⟩,
    ⟨(some 163), .ld false 1 (.t 162), none⟩,
    ⟨(some 164), .bin .lss (.t 163) (.c (.int .i64 0)), none⟩])
    (.cond (.t 164)
    (.seq (.reg [⟨(some 2), .mov (.c (.nilsl)), none⟩,
    ⟨(some 3), .mov (.c (.int .i64 (-1))), none⟩,
    ⟨(some 4), .mov (.c (.int .i64 13)), none⟩])
    (.ret))
    (.skip))))
    (.skip)))))
    (.reg [⟨(some 165), .bin .add (.t 144) (.c (.int .i64 1)), none⟩,
    ⟨(some 144), .mov (.t 165), none⟩])))
/-- engram/engramref9.Nest -/
def f_engramref9_Nest : IFun where
  nargs := 1
  results := [.tmp 2, .tmp 3, .tmp 4]
  pure := true
  frz := true
  drop := []
  body :=
   .seq (.reg [⟨(some 2), .mov (.c (.nilsl)), none⟩,
    ⟨(some 3), .mov (.c (.int .i64 0)), none⟩,
    ⟨(some 4), .mov (.c (.int .i64 0)), none⟩])
   (.seq (.reg [⟨(some 10), .mov (.t 0), none⟩,
    ⟨(some 11), .len (.t 10), none⟩,
    ⟨(some 12), .mksl 1 8 [.int .i64 0] (.t 11) (.t 11), none⟩,
    ⟨(some 5), .mov (.t 12), none⟩])
    (.seq (.reg [⟨(some 6), .mov (.c (.nilsl)), none⟩])
    (.seq (.reg [⟨(some 7), .mov (.c (.int .i64 0)), none⟩])
    (.seq (.seq (.reg [⟨(some 13), .mov (.t 0), none⟩,
    ⟨(some 14), .len (.t 13), none⟩,
    ⟨(some 15), .mov (.c (.int .i64 0)), none⟩])
    (.block 0 (.loopK [0, 5, 6, 7, 14, 15] l0_engramref9_Nest)))
    (.keep [0, 5, 6, 7] (.seq (.seq (.reg [⟨(some 139), .mov (.t 6), none⟩,
    ⟨(some 140), .len (.t 139), none⟩,
    ⟨(some 141), .bin .gtr (.t 140) (.c (.int .i64 0)), none⟩])
    (.cond (.t 141)
    (.seq (.reg [⟨(some 2), .mov (.c (.nilsl)), none⟩,
    ⟨(some 3), .mov (.c (.int .i64 (-1))), none⟩,
    ⟨(some 4), .mov (.c (.int .i64 13)), none⟩])
    (.ret))
    (.skip)))
    (.seq (.seq (.reg [⟨(some 142), .mov (.t 0), none⟩,
    ⟨(some 143), .len (.t 142), none⟩,
    ⟨(some 144), .mov (.c (.int .i64 0)), none⟩])
    (.block 3 (.loopK [0, 5, 7, 143, 144] l1_engramref9_Nest)))
    (.keep [5, 7] (.seq (.reg [⟨(some 166), .mov (.t 5), none⟩,
    ⟨(some 167), .mov (.t 7), none⟩,
    ⟨(some 2), .mov (.t 166), none⟩,
    ⟨(some 3), .mov (.t 167), none⟩,
    ⟨(some 4), .mov (.c (.int .i64 0)), none⟩])
    (.ret))))))))))


/-- (*engram/engramref9.state).token -/
def f_engramref9_state_token : IFun where
  nargs := 3
  results := [.tmp 6]
  pure := false
  frz := false
  drop := []
  body :=
   .seq (.reg [⟨(some 4), .box (.t 1), none⟩,
    ⟨(some 5), .box (.t 2), none⟩,
    ⟨(some 6), .mov (.c (.int .i64 0)), none⟩])
   (.seq (.reg [⟨(some 11), .fadr 0 (.t 5), none⟩,
    ⟨(some 12), .ld false 1 (.t 11), none⟩,
    ⟨(some 13), .bin .eql (.t 12) (.c (.int .i32 58)), none⟩,
    ⟨(some 14), .mov (.t 13), none⟩,
    ⟨(some 15), .fadr 0 (.t 5), (some (14, false))⟩,
    ⟨(some 16), .ld false 1 (.t 15), (some (14, false))⟩,
    ⟨(some 17), .bin .eql (.t 16) (.c (.int .i32 59)), (some (14, false))⟩,
    ⟨(some 18), .pick (.t 14) (.c (.bool true)) (.t 17), none⟩,
    ⟨(some 19), .mov (.t 18), none⟩,
    ⟨(some 20), .fadr 0 (.t 5), (some (19, false))⟩,
    ⟨(some 21), .ld false 1 (.t 20), (some (19, false))⟩,
    ⟨(some 22), .bin .eql (.t 21) (.c (.int .i32 93)), (some (19, false))⟩,
    ⟨(some 23), .pick (.t 19) (.c (.bool true)) (.t 22), none⟩,
    ⟨(some 7), .mov (.t 23), none⟩])
    (.seq (.seq (.reg [⟨(some 24), .mov (.t 0), none⟩,
    ⟨(some 25), .nilc (.t 24), none⟩,
    ⟨(some 26), .fadr 0 (.t 25), none⟩,
    ⟨(some 27), .ld false 1 (.t 26), none⟩,
    ⟨(some 28), .bin .lss (.t 27) (.c (.int .i64 0)), none⟩,
    ⟨(some 29), .mov (.t 28), none⟩,
    ⟨(some 30), .mov (.t 7), (some (29, true))⟩,
    ⟨(some 31), .un .not (.t 30), (some (29, true))⟩,
    ⟨(some 32), .pick (.t 29) (.t 31) (.c (.bool false)), none⟩])
    (.cond (.t 32)
    (.seq (.reg [⟨(some 6), .mov (.c (.int .i64 15)), none⟩])
    (.ret))
    (.skip)))
    (.seq (.reg [⟨(some 34), .ld true 3 (.t 4), none⟩,
    ⟨(some 35), .ld true 3 (.t 5), none⟩,
    ⟨(some 36), .call (.c (.fn n_engramref9_Takes [])) [(.t 34), (.t 35)], none⟩,
    ⟨(some 33), .mov (.t 36), none⟩,
    ⟨(some 37), .ext (.t 33) 0, none⟩,
    ⟨(some 38), .ext (.t 33) 1, none⟩,
    ⟨(some 39), .ext (.t 33) 2, none⟩,
    ⟨(some 8), .mov (.t 37), none⟩,
    ⟨(some 9), .mov (.t 38), none⟩,
    ⟨(some 10), .mov (.t 39), none⟩])
    (.seq (.seq (.reg [⟨(some 40), .mov (.t 10), none⟩,
    ⟨(some 41), .un .not (.t 40), none⟩])
    (.cond (.t 41)
    (.seq (.reg [⟨(some 6), .mov (.c (.int .i64 22)), none⟩])
    (.ret))
    (.skip)))
    (.seq (.seq (.reg [⟨(some 42), .mov (.t 7), none⟩])
    (.cond (.t 42)
    (.seq (.seq (.reg [⟨(some 43), .mov (.t 0), none⟩,
    ⟨(some 44), .fadr 0 (.t 5), none⟩,
    ⟨(some 45), .ld false 1 (.t 44), none⟩,
    ⟨(some 46), .call (.c (.fn n_engramref9_state_ends [])) [(.t 43), (.t 45)], none⟩,
    ⟨(some 47), .un .not (.t 46), none⟩])
    (.cond (.t 47)
    (.seq (.reg [⟨(some 6), .mov (.c (.int .i64 14)), none⟩])
    (.ret))
    (.skip)))
    (.seq (.reg [⟨(some 6), .mov (.c (.int .i64 0)), none⟩])
    (.ret)))
    (.skip)))
    (.seq (.seq (.reg [⟨(some 48), .mov (.t 0), none⟩,
    ⟨(some 49), .nilc (.t 48), none⟩,
    ⟨(some 50), .fadr 0 (.t 49), none⟩,
    ⟨(some 51), .ld false 1 (.t 50), none⟩,
    ⟨(some 52), .mov (.t 0), none⟩,
    ⟨(some 53), .call (.c (.fn n_engramref9_state_base [])) [(.t 52)], none⟩,
    ⟨(some 54), .bin .sub (.t 51) (.t 53), none⟩,
    ⟨(some 55), .mov (.t 8), none⟩,
    ⟨(some 56), .bin .lss (.t 54) (.t 55), none⟩,
    ⟨(some 57), .mov (.t 56), none⟩,
    ⟨(some 58), .mov (.t 0), (some (57, false))⟩,
    ⟨(some 59), .nilc (.t 58), (some (57, false))⟩,
    ⟨(some 60), .fadr 0 (.t 59), (some (57, false))⟩,
    ⟨(some 61), .ld false 1 (.t 60), (some (57, false))⟩,
    ⟨(some 62), .mov (.t 8), (some (57, false))⟩,
    ⟨(some 63), .bin .sub (.t 61) (.t 62), (some (57, false))⟩,
    ⟨(some 64), .mov (.t 9), (some (57, false))⟩,
    ⟨(some 65), .bin .add (.t 63) (.t 64), (some (57, false))⟩,
    ⟨(some 66), .bin .gtr (.t 65) (.c (.int .i64 64)), (some (57, false))⟩,
    ⟨(some 67), .pick (.t 57) (.c (.bool true)) (.t 66), none⟩])
    (.cond (.t 67)
    (.seq (.reg [⟨(some 6), .mov (.c (.int .i64 14)), none⟩])
    (.ret))
    (.skip)))
    (.seq (.reg [⟨(some 68), .mov (.t 0), none⟩,
    ⟨(some 69), .mov (.t 0), none⟩,
    ⟨(some 70), .nilc (.t 69), none⟩,
    ⟨(some 71), .fadr 0 (.t 70), none⟩,
    ⟨(some 72), .ld false 1 (.t 71), none⟩,
    ⟨(some 73), .mov (.t 8), none⟩,
    ⟨(some 74), .bin .sub (.t 72) (.t 73), none⟩,
    ⟨(some 75), .mov (.t 9), none⟩,
    ⟨(some 76), .bin .add (.t 74) (.t 75), none⟩,
    ⟨(some 77), .nilc (.t 68), none⟩,
    ⟨(some 78), .fadr 0 (.t 77), none⟩,
    ⟨none, .st 1 (.t 78) (.t 76), none⟩])
    (.seq (.seq (.reg [⟨(some 79), .fadr 0 (.t 5), none⟩,
    ⟨(some 80), .ld false 1 (.t 79), none⟩])
    (.block 0 (.seq (.seq (.reg [⟨(some 82), .bin .eql (.t 80) (.c (.int .i32 63)), none⟩,
    ⟨(some 81), .mov (.t 82), none⟩])
    (.cond (.t 81)
    (.skip)
    (.reg [⟨(some 83), .bin .eql (.t 80) (.c (.int .i32 91)), none⟩,
    ⟨(some 81), .mov (.t 83), none⟩])))
    (.cond (.t 81)
    (.regW [⟨(some 84), .mov (.t 0), none⟩,
    ⟨(some 85), .mov (.t 0), none⟩,
    ⟨(some 86), .nilc (.t 85), none⟩,
    ⟨(some 87), .fadr 1 (.t 86), none⟩,
    ⟨(some 88), .ld false 1 (.t 87), none⟩,
    ⟨(some 89), .fadr 0 (.t 5), none⟩,
    ⟨(some 90), .ld false 1 (.t 89), none⟩,
    ⟨(some 91), .mov (.t 0), none⟩,
    ⟨(some 92), .nilc (.t 91), none⟩,
    ⟨(some 93), .fadr 0 (.t 92), none⟩,
    ⟨(some 94), .ld false 1 (.t 93), none⟩,
    ⟨(some 95), .build [.int .i32 0, .int .i64 0, .int .i64 0, .bool false] [(0, 1, (.t 90)), (1, 1, (.t 94))], none⟩,
    ⟨(some 96), .bslice 4 [.int .i32 0, .int .i64 0, .int .i64 0, .bool false] 1 [(0, 4, (.t 95))], none⟩,
    ⟨(some 97), .app 4 32 (.t 88) (.t 96), none⟩,
    ⟨(some 98), .nilc (.t 84), none⟩,
    ⟨(some 99), .fadr 1 (.t 98), none⟩,
    ⟨none, .st 1 (.t 99) (.t 97), none⟩] [(4, 13)])
    (.seq (.reg [⟨(some 101), .bin .eql (.t 80) (.c (.int .i32 126)), none⟩,
    ⟨(some 100), .mov (.t 101), none⟩])
    (.cond (.t 100)
    (.seq (.reg [⟨(some 102), .mov (.t 0), none⟩,
    ⟨(some 103), .call (.c (.fn n_engramref9_state_leave [])) [(.t 102)], none⟩,
    ⟨(some 104), .un .not (.t 103), none⟩])
    (.cond (.t 104)
    (.seq (.reg [⟨(some 6), .mov (.c (.int .i64 14)), none⟩])
    (.ret))
    (.skip)))
    (.seq (.reg [⟨(some 106), .bin .eql (.t 80) (.c (.int .i32 161)), none⟩,
    ⟨(some 105), .mov (.t 106), none⟩])
    (.cond (.t 105)
    (.reg [⟨(some 107), .mov (.t 0), none⟩,
    ⟨(some 108), .nilc (.t 107), none⟩,
    ⟨(some 109), .fadr 0 (.t 108), none⟩,
    ⟨none, .st 1 (.t 109) (.c (.int .i64 (-1))), none⟩])
    (.skip)))))))))
    (.seq (.reg [⟨(some 6), .mov (.c (.int .i64 0)), none⟩])
    (.ret))))))))))

def l0_engramref9_has : IC :=
  .seq (.reg [⟨(some 9), .next (.t 8), none⟩,
    ⟨(some 10), .ext (.t 9) 0, none⟩])
  (.seq (.cond (.t 10)
    (.skip)
    (.exit 0))
   (.block 1 (.seq (.reg [⟨(some 11), .ext (.t 9) 2, none⟩,
    ⟨(some 6), .mov (.t 11), none⟩])
    (.seq (.reg [⟨(some 12), .mov (.t 6), none⟩,
    ⟨(some 13), .mov (.t 1), none⟩,
    ⟨(some 14), .bin .eql (.t 12) (.t 13), none⟩])
    (.cond (.t 14)
    (.seq (.reg [⟨(some 4), .mov (.c (.bool true)), none⟩])
    (.ret))
    (.skip))))))
/-- engram/engramref9.has -/
def f_engramref9_has : IFun where
  nargs := 2
  results := [.tmp 4]
  pure := true
  frz := true
  drop := []
  body :=
   .seq (.reg [⟨(some 4), .mov (.c (.bool false)), none⟩])
   (.seq (.seq (.reg [⟨(some 7), .mov (.t 0), none⟩,
    ⟨(some 8), .rng (.t 7), none⟩])
    (.block 0 (.loopK [1, 8] l0_engramref9_has)))
    (.keep [] (.seq (.reg [⟨(some 4), .mov (.c (.bool false)), none⟩])
    (.ret))))

def l0_slices_IndexFunc_api_Func_api_Func : IC :=
  .seq (.reg [⟨(some 9), .bin .lss (.t 8) (.t 7), none⟩])
  (.seq (.cond (.t 9)
    (.skip)
    (.exit 0))
   (.seq (.block 1 (.seq (.reg [⟨(some 10), .mov (.t 8), none⟩,
    ⟨(some 5), .mov (.t 10), none⟩])
    (.seq (.reg [⟨(some 11), .mov (.t 1), none⟩,
    ⟨(some 12), .mov (.t 0), none⟩,
    ⟨(some 13), .mov (.t 5), none⟩,
    ⟨(some 14), .iadr 3 (.t 12) (.t 13), none⟩,
    ⟨(some 15), .ld true 3 (.t 14), none⟩,
    ⟨(some 16), .call (.t 11) [(.t 15)], none⟩])
    (.cond (.t 16)
    (.seq (.reg [⟨(some 17), .mov (.t 5), none⟩,
    ⟨(some 4), .mov (.t 17), none⟩])
    (.ret))
    (.skip)))))
    (.reg [⟨(some 18), .bin .add (.t 8) (.c (.int .i64 1)), none⟩,
    ⟨(some 8), .mov (.t 18), none⟩])))
/-- slices.IndexFunc[[]engram/api.Func,engram/api.Func] -/
def f_slices_IndexFunc_api_Func_api_Func : IFun where
  nargs := 2
  results := [.tmp 4]
  pure := false
  frz := false
  drop := []
  body :=
   .seq (.reg [⟨(some 4), .mov (.c (.int .i64 0)), none⟩])
   (.seq (.seq (.reg [⟨(some 6), .mov (.t 0), none⟩,
    ⟨(some 7), .len (.t 6), none⟩,
    ⟨(some 8), .mov (.c (.int .i64 0)), none⟩])
    (.block 0 (.loopK [0, 1, 7, 8] l0_slices_IndexFunc_api_Func_api_Func)))
    (.keep [] (.seq (.reg [⟨(some 4), .mov (.c (.int .i64 (-1))), none⟩])
    (.ret))))


/-- engram/check.Find$1 -/
def f_check_Find_1 : IFun where
  nargs := 2
  results := [.tmp 3]
  pure := false
  frz := false
  drop := []
  body :=
   .seq (.reg [⟨(some 2), .box (.t 0), none⟩,
    ⟨(some 3), .mov (.c (.bool false)), none⟩])
   (.seq (.reg [⟨(some 4), .fadr 0 (.t 2), none⟩,
    ⟨(some 5), .ld false 1 (.t 4), none⟩,
    ⟨(some 6), .ld false 1 (.t 1), none⟩,
    ⟨(some 7), .bin .eql (.t 5) (.t 6), none⟩,
    ⟨(some 3), .mov (.t 7), none⟩])
    (.ret))


/-- engram/engrambook.Within -/
def f_engrambook_Within : IFun where
  nargs := 3
  results := [.tmp 6]
  pure := true
  frz := true
  drop := []
  body :=
   .seq (.reg [⟨(some 6), .mov (.c (.int .i64 0)), none⟩])
   (.seq (.seq (.reg [⟨(some 7), .mov (.t 0), none⟩,
    ⟨(some 8), .mov (.t 1), none⟩,
    ⟨(some 9), .bin .geq (.t 7) (.t 8), none⟩,
    ⟨(some 10), .mov (.t 9), none⟩,
    ⟨(some 11), .mov (.t 0), (some (10, true))⟩,
    ⟨(some 12), .mov (.t 2), (some (10, true))⟩,
    ⟨(some 13), .bin .leq (.t 11) (.t 12), (some (10, true))⟩,
    ⟨(some 14), .pick (.t 10) (.t 13) (.c (.bool false)), none⟩])
    (.cond (.t 14)
    (.seq (.reg [⟨(some 15), .mov (.t 0), none⟩,
    ⟨(some 6), .mov (.t 15), none⟩])
    (.ret))
    (.skip)))
    (.seq (.reg [⟨(some 16), .mov (.t 0), none⟩,
    ⟨(some 17), .mov (.t 2), none⟩,
    ⟨(some 18), .mov (.t 1), none⟩,
    ⟨(some 19), .bin .sub (.t 17) (.t 18), none⟩,
    ⟨(some 20), .bin .add (.t 19) (.c (.int .i64 1)), none⟩,
    ⟨(some 21), .bin .rem (.t 16) (.t 20), none⟩,
    ⟨(some 0), .mov (.t 21), none⟩])
    (.seq (.seq (.reg [⟨(some 22), .mov (.t 0), none⟩,
    ⟨(some 23), .bin .lss (.t 22) (.c (.int .i64 0)), none⟩])
    (.cond (.t 23)
    (.reg [⟨(some 24), .mov (.t 0), none⟩,
    ⟨(some 25), .mov (.t 2), none⟩,
    ⟨(some 26), .bin .add (.t 24) (.t 25), none⟩,
    ⟨(some 27), .mov (.t 1), none⟩,
    ⟨(some 28), .bin .sub (.t 26) (.t 27), none⟩,
    ⟨(some 29), .bin .add (.t 28) (.c (.int .i64 1)), none⟩,
    ⟨(some 0), .mov (.t 29), none⟩])
    (.skip)))
    (.seq (.reg [⟨(some 30), .mov (.t 1), none⟩,
    ⟨(some 31), .mov (.t 0), none⟩,
    ⟨(some 32), .bin .add (.t 30) (.t 31), none⟩,
    ⟨(some 6), .mov (.t 32), none⟩])
    (.ret)))))


/-- engram/engramkeep.digits -/
def f_engramkeep_digits : IFun where
  nargs := 1
  results := [.tmp 2]
  pure := true
  frz := true
  drop := []
  body :=
   .seq (.reg [⟨(some 2), .mov (.c (.str ⟨#[]⟩)), none⟩])
   (.seq (.seq (.reg [⟨(some 3), .mov (.t 0), none⟩,
    ⟨(some 4), .bin .geq (.t 3) (.c (.int .i64 10)), none⟩])
    (.cond (.t 4)
    (.seq (.reg [⟨(some 5), .mov (.t 0), none⟩,
    ⟨(some 6), .bin .quo (.t 5) (.c (.int .i64 10)), none⟩,
    ⟨(some 7), .call (.c (.fn n_engramkeep_digits [])) [(.t 6)], none⟩,
    ⟨(some 8), .mov (.t 0), none⟩,
    ⟨(some 9), .bin .rem (.t 8) (.c (.int .i64 10)), none⟩,
    ⟨(some 10), .bin .add (.c (.int .i64 48)) (.t 9), none⟩,
    ⟨(some 11), .cint .i32 (.t 10), none⟩,
    ⟨(some 12), .cstr (.t 11), none⟩,
    ⟨(some 13), .bin .add (.t 7) (.t 12), none⟩,
    ⟨(some 2), .mov (.t 13), none⟩])
    (.ret))
    (.skip)))
    (.seq (.reg [⟨(some 14), .mov (.t 0), none⟩,
    ⟨(some 15), .bin .add (.c (.int .i64 48)) (.t 14), none⟩,
    ⟨(some 16), .cint .i32 (.t 15), none⟩,
    ⟨(some 17), .cstr (.t 16), none⟩,
    ⟨(some 2), .mov (.t 17), none⟩])
    (.ret)))


/-- engram/engramkeep.live -/
def f_engramkeep_live : IFun where
  nargs := 1
  results := [.tmp 2]
  pure := true
  frz := true
  drop := []
  body :=
   .seq (.reg [⟨(some 2), .mov (.c (.str ⟨#[]⟩)), none⟩])
   (.seq (.seq (.reg [⟨(some 3), .mov (.t 0), none⟩,
    ⟨(some 4), .call (.c (.fn n_engramkeep_halts [])) [(.t 3)], none⟩])
    (.cond (.t 4)
    (.seq (.reg [⟨(some 2), .mov (.c (.str ⟨#[]⟩)), none⟩])
    (.ret))
    (.skip)))
    (.seq (.reg [⟨(some 5), .mov (.t 0), none⟩,
    ⟨(some 2), .mov (.t 5), none⟩])
    (.ret)))


/-- engram/engramkeep.at -/
def f_engramkeep_at : IFun where
  nargs := 2
  results := [.tmp 4]
  pure := true
  frz := true
  drop := []
  body :=
   .seq (.reg [⟨(some 4), .mov (.c (.int .i64 0)), none⟩])
   (.seq (.reg [⟨(some 5), .mov (.t 0), none⟩,
    ⟨(some 6), .call (.c (.fn n_engrambook_Within [])) [(.t 5), (.c (.int .i64 0)), (.c (.int .i64 1048576))], none⟩,
    ⟨(some 7), .mov (.t 1), none⟩,
    ⟨(some 8), .mm true (.t 7) (.c (.int .i64 1)), none⟩,
    ⟨(some 9), .bin .rem (.t 6) (.t 8), none⟩,
    ⟨(some 4), .mov (.t 9), none⟩])
    (.ret))


/-- (*engram/glyph.reader).rune -/
def f_glyph_reader_rune : IFun where
  nargs := 2
  results := []
  pure := false
  frz := false
  drop := []
  body :=
   .block 0 (.seq (.reg [⟨(some 36), .mov (.t 0), none⟩,
    ⟨(some 37), .call (.c (.fn n_glyph_reader_waits [])) [(.t 36)], none⟩,
    ⟨(some 35), .mov (.t 37), none⟩])
    (.cond (.t 35)
    (.seq (.reg [⟨(some 38), .mov (.t 0), none⟩,
    ⟨(some 39), .mov (.t 0), none⟩,
    ⟨(some 40), .nilc (.t 39), none⟩,
    ⟨(some 41), .fadr 2 (.t 40), none⟩,
    ⟨(some 42), .ld false 1 (.t 41), none⟩,
    ⟨(some 43), .mov (.t 42), none⟩,
    ⟨(some 44), .mov (.t 1), (some (43, false))⟩,
    ⟨(some 45), .call (.c (.fn n_glyph_Name [])) [(.t 44)], (some (43, false))⟩,
    ⟨(some 46), .un .not (.t 45), (some (43, false))⟩,
    ⟨(some 47), .pick (.t 43) (.c (.bool true)) (.t 46), none⟩,
    ⟨(some 48), .nilc (.t 38), none⟩,
    ⟨(some 49), .fadr 2 (.t 48), none⟩,
    ⟨none, .st 1 (.t 49) (.t 47), none⟩])
    (.reg [⟨(some 50), .mov (.t 0), none⟩,
    ⟨(some 51), .nilc (.t 50), none⟩,
    ⟨(some 52), .fadr 0 (.t 51), none⟩,
    ⟨(some 53), .ld false 1 (.t 52), none⟩,
    ⟨(some 54), .mov (.t 0), none⟩,
    ⟨(some 55), .nilc (.t 54), none⟩,
    ⟨(some 56), .fadr 0 (.t 55), none⟩,
    ⟨(some 57), .ld false 1 (.t 56), none⟩,
    ⟨(some 58), .len (.t 57), none⟩,
    ⟨(some 59), .bin .sub (.t 58) (.c (.int .i64 1)), none⟩,
    ⟨(some 60), .mov (.t 1), none⟩,
    ⟨(some 61), .iadr 3 (.t 53) (.t 59), none⟩,
    ⟨(some 62), .fadr 2 (.t 61), none⟩,
    ⟨none, .st 1 (.t 62) (.t 60), none⟩]))
    (.seq (.reg [⟨(some 64), .mov (.t 1), none⟩,
    ⟨(some 65), .call (.c (.fn n_glyph_within [])) [(.t 64), (.c (.int .i32 48)), (.c (.int .i32 57))], none⟩,
    ⟨(some 63), .mov (.t 65), none⟩])
    (.cond (.t 63)
    (.reg [⟨(some 66), .mov (.t 0), none⟩,
    ⟨(some 67), .nilc (.t 66), none⟩,
    ⟨(some 68), .fadr 1 (.t 67), none⟩,
    ⟨(some 69), .ld false 1 (.t 68), none⟩,
    ⟨(some 70), .mov (.t 1), none⟩,
    ⟨(some 71), .cstr (.t 70), none⟩,
    ⟨(some 72), .bin .add (.t 69) (.t 71), none⟩,
    ⟨(some 73), .nilc (.t 66), none⟩,
    ⟨(some 74), .fadr 1 (.t 73), none⟩,
    ⟨none, .st 1 (.t 74) (.t 72), none⟩])
    (.seq (.reg [⟨(some 4), .mov (.t 0), none⟩,
    ⟨(some 5), .call (.c (.fn n_glyph_reader_number [])) [(.t 4)], none⟩])
    (.seq (.reg [⟨(some 6), .mov (.t 0), none⟩,
    ⟨(some 7), .mov (.t 0), none⟩,
    ⟨(some 8), .nilc (.t 7), none⟩,
    ⟨(some 9), .fadr 2 (.t 8), none⟩,
    ⟨(some 10), .ld false 1 (.t 9), none⟩,
    ⟨(some 11), .mov (.t 10), none⟩,
    ⟨(some 12), .mov (.t 1), (some (11, false))⟩,
    ⟨(some 13), .bin .neq (.t 12) (.c (.int .i32 32)), (some (11, false))⟩,
    ⟨(some 14), .mov (.t 13), (some (11, false))⟩,
    ⟨(some 15), .mov (.t 1), (some (14, true))⟩,
    ⟨(some 16), .call (.c (.fn n_glyph_Known [])) [(.t 15)], (some (14, true))⟩,
    ⟨(some 17), .un .not (.t 16), (some (14, true))⟩,
    ⟨(some 18), .pick (.t 14) (.t 17) (.c (.bool false)), (some (11, false))⟩,
    ⟨(some 19), .pick (.t 11) (.c (.bool true)) (.t 18), none⟩,
    ⟨(some 20), .nilc (.t 6), none⟩,
    ⟨(some 21), .fadr 2 (.t 20), none⟩,
    ⟨none, .st 1 (.t 21) (.t 19), none⟩])
    (.seq (.reg [⟨(some 22), .mov (.t 1), none⟩,
    ⟨(some 23), .bin .neq (.t 22) (.c (.int .i32 32)), none⟩])
    (.cond (.t 23)
    (.reg [⟨(some 24), .mov (.t 0), none⟩,
    ⟨(some 25), .mov (.t 0), none⟩,
    ⟨(some 26), .nilc (.t 25), none⟩,
    ⟨(some 27), .fadr 0 (.t 26), none⟩,
    ⟨(some 28), .ld false 1 (.t 27), none⟩,
    ⟨(some 29), .mov (.t 1), none⟩,
    ⟨(some 30), .build [.int .i32 0, .int .i64 0, .int .i32 0] [(0, 1, (.t 29))], none⟩,
    ⟨(some 31), .bslice 3 [.int .i32 0, .int .i64 0, .int .i32 0] 1 [(0, 3, (.t 30))], none⟩,
    ⟨(some 32), .app 3 24 (.t 28) (.t 31), none⟩,
    ⟨(some 33), .nilc (.t 24), none⟩,
    ⟨(some 34), .fadr 0 (.t 33), none⟩,
    ⟨none, .st 1 (.t 34) (.t 32), none⟩])
    (.skip)))))))))


/-- (*engram/glyph.reader).number -/
def f_glyph_reader_number : IFun where
  nargs := 1
  results := []
  pure := false
  frz := false
  drop := []
  body :=
   .seq (.seq (.reg [⟨(some 4), .mov (.t 0), none⟩,
    ⟨(some 5), .nilc (.t 4), none⟩,
    ⟨(some 6), .fadr 1 (.t 5), none⟩,
    ⟨(some 7), .ld false 1 (.t 6), none⟩,
    ⟨(some 8), .bin .eql (.t 7) (.c (.str ⟨#[]⟩)), none⟩])
    (.cond (.t 8)
    (.ret)
    (.skip)))
   (.seq (.reg [⟨(some 10), .mov (.t 0), none⟩,
    ⟨(some 11), .nilc (.t 10), none⟩,
    ⟨(some 12), .fadr 1 (.t 11), none⟩,
    ⟨(some 13), .ld false 1 (.t 12), none⟩,
    ⟨(some 14), .call (.c (.fn n_strconv_ParseInt [])) [(.t 13), (.c (.int .i64 10)), (.c (.int .i64 64))], none⟩,
    ⟨(some 9), .mov (.t 14), none⟩,
    ⟨(some 15), .ext (.t 9) 0, none⟩,
    ⟨(some 16), .ext (.t 9) 1, none⟩,
    ⟨(some 2), .mov (.t 15), none⟩,
    ⟨(some 3), .mov (.t 16), none⟩])
    (.seq (.reg [⟨(some 17), .mov (.t 0), none⟩,
    ⟨(some 18), .mov (.t 0), none⟩,
    ⟨(some 19), .nilc (.t 18), none⟩,
    ⟨(some 20), .fadr 2 (.t 19), none⟩,
    ⟨(some 21), .ld false 1 (.t 20), none⟩,
    ⟨(some 22), .mov (.t 21), none⟩,
    ⟨(some 23), .mov (.t 3), (some (22, false))⟩,
    ⟨(some 24), .eqn 2 true (.t 23), (some (22, false))⟩,
    ⟨(some 25), .pick (.t 22) (.c (.bool true)) (.t 24), none⟩,
    ⟨(some 26), .nilc (.t 17), none⟩,
    ⟨(some 27), .fadr 2 (.t 26), none⟩,
    ⟨none, .st 1 (.t 27) (.t 25), none⟩])
    (.seq (.reg [⟨(some 28), .mov (.t 0), none⟩,
    ⟨(some 29), .mov (.t 0), none⟩,
    ⟨(some 30), .nilc (.t 29), none⟩,
    ⟨(some 31), .fadr 0 (.t 30), none⟩,
    ⟨(some 32), .ld false 1 (.t 31), none⟩,
    ⟨(some 33), .mov (.t 2), none⟩,
    ⟨(some 34), .build [.int .i32 0, .int .i64 0, .int .i32 0] [(0, 1, (.c (.int .i32 48))), (1, 1, (.t 33))], none⟩,
    ⟨(some 35), .bslice 3 [.int .i32 0, .int .i64 0, .int .i32 0] 1 [(0, 3, (.t 34))], none⟩,
    ⟨(some 36), .app 3 24 (.t 32) (.t 35), none⟩,
    ⟨(some 37), .nilc (.t 28), none⟩,
    ⟨(some 38), .fadr 0 (.t 37), none⟩,
    ⟨none, .st 1 (.t 38) (.t 36), none⟩])
    (.reg [⟨(some 39), .mov (.t 0), none⟩,
    ⟨(some 40), .nilc (.t 39), none⟩,
    ⟨(some 41), .fadr 1 (.t 40), none⟩,
    ⟨none, .st 1 (.t 41) (.c (.str ⟨#[]⟩)), none⟩]))))


/-- (*engram/glyph.reader).waits -/
def f_glyph_reader_waits : IFun where
  nargs := 1
  results := [.tmp 2]
  pure := true
  frz := true
  drop := []
  body :=
   .seq (.reg [⟨(some 2), .mov (.c (.bool false)), none⟩])
   (.seq (.reg [⟨(some 4), .mov (.t 0), none⟩,
    ⟨(some 5), .nilc (.t 4), none⟩,
    ⟨(some 6), .fadr 0 (.t 5), none⟩,
    ⟨(some 7), .ld false 1 (.t 6), none⟩,
    ⟨(some 8), .len (.t 7), none⟩,
    ⟨(some 3), .mov (.t 8), none⟩])
    (.seq (.reg [⟨(some 9), .mov (.t 0), none⟩,
    ⟨(some 10), .nilc (.t 9), none⟩,
    ⟨(some 11), .fadr 1 (.t 10), none⟩,
    ⟨(some 12), .ld false 1 (.t 11), none⟩,
    ⟨(some 13), .bin .eql (.t 12) (.c (.str ⟨#[]⟩)), none⟩,
    ⟨(some 14), .mov (.t 13), none⟩,
    ⟨(some 15), .mov (.t 3), (some (14, true))⟩,
    ⟨(some 16), .bin .gtr (.t 15) (.c (.int .i64 0)), (some (14, true))⟩,
    ⟨(some 17), .pick (.t 14) (.t 16) (.c (.bool false)), none⟩,
    ⟨(some 18), .mov (.t 17), none⟩,
    ⟨(some 19), .mov (.t 0), (some (18, true))⟩,
    ⟨(some 20), .nilc (.t 19), (some (18, true))⟩,
    ⟨(some 21), .fadr 0 (.t 20), (some (18, true))⟩,
    ⟨(some 22), .ld false 1 (.t 21), (some (18, true))⟩,
    ⟨(some 23), .mov (.t 3), (some (18, true))⟩,
    ⟨(some 24), .bin .sub (.t 23) (.c (.int .i64 1)), (some (18, true))⟩,
    ⟨(some 25), .iadr 3 (.t 22) (.t 24), (some (18, true))⟩,
    ⟨(some 26), .fadr 0 (.t 25), (some (18, true))⟩,
    ⟨(some 27), .ld false 1 (.t 26), (some (18, true))⟩,
    ⟨(some 28), .call (.c (.fn n_glyph_named [])) [(.t 27)], (some (18, true))⟩,
    ⟨(some 29), .pick (.t 18) (.t 28) (.c (.bool false)), none⟩,
    ⟨(some 30), .mov (.t 29), none⟩,
    ⟨(some 31), .mov (.t 0), (some (30, true))⟩,
    ⟨(some 32), .nilc (.t 31), (some (30, true))⟩,
    ⟨(some 33), .fadr 0 (.t 32), (some (30, true))⟩,
    ⟨(some 34), .ld false 1 (.t 33), (some (30, true))⟩,
    ⟨(some 35), .mov (.t 3), (some (30, true))⟩,
    ⟨(some 36), .bin .sub (.t 35) (.c (.int .i64 1)), (some (30, true))⟩,
    ⟨(some 37), .iadr 3 (.t 34) (.t 36), (some (30, true))⟩,
    ⟨(some 38), .fadr 2 (.t 37), (some (30, true))⟩,
    ⟨(some 39), .ld false 1 (.t 38), (some (30, true))⟩,
    ⟨(some 40), .bin .eql (.t 39) (.c (.int .i32 0)), (some (30, true))⟩,
    ⟨(some 41), .pick (.t 30) (.t 40) (.c (.bool false)), none⟩,
    ⟨(some 2), .mov (.t 41), none⟩])
    (.ret)))

def l0_nest_match : IC :=
  .seq (.reg [⟨(some 16), .bin .lss (.t 15) (.t 14), none⟩])
  (.seq (.cond (.t 16)
    (.skip)
    (.exit 0))
   (.seq (.block 1 (.seq (.reg [⟨(some 17), .mov (.t 15), none⟩,
    ⟨(some 5), .mov (.t 17), none⟩])
    (.reg [⟨(some 18), .mov (.t 4), none⟩,
    ⟨(some 19), .nilc (.t 18), none⟩,
    ⟨(some 20), .fadr 0 (.t 19), none⟩,
    ⟨(some 21), .ld false 1 (.t 20), none⟩,
    ⟨(some 22), .mov (.t 5), none⟩,
    ⟨(some 23), .iadr 1 (.t 21) (.t 22), none⟩,
    ⟨none, .st 1 (.t 23) (.c (.int .i64 (-1))), none⟩])))
    (.reg [⟨(some 24), .bin .add (.t 15) (.c (.int .i64 1)), none⟩,
    ⟨(some 15), .mov (.t 24), none⟩])))
def l1_nest_match : IC :=
  .seq (.reg [⟨(some 28), .bin .lss (.t 27) (.t 26), none⟩])
  (.seq (.cond (.t 28)
    (.skip)
    (.exit 2))
   (.seq (.block 3 (.seq (.reg [⟨(some 29), .mov (.t 27), none⟩,
    ⟨(some 30), .iadr 3 (.t 25) (.t 27), none⟩,
    ⟨(some 31), .ld true 3 (.t 30), none⟩,
    ⟨(some 7), .alloc [.int .i32 0, .int .i64 0, .int .i32 0], none⟩,
    ⟨(some 6), .mov (.t 29), none⟩,
    ⟨none, .st 3 (.t 7) (.t 31), none⟩])
    (.seq (.reg [⟨(some 32), .mov (.t 4), none⟩,
    ⟨(some 33), .mov (.t 6), none⟩,
    ⟨(some 34), .fadr 0 (.t 7), none⟩,
    ⟨(some 35), .ld false 1 (.t 34), none⟩,
    ⟨(some 36), .call (.c (.fn n_nest_matcher_token [])) [(.t 32), (.t 33), (.t 35)], none⟩,
    ⟨(some 37), .un .not (.t 36), none⟩])
    (.cond (.t 37)
    (.seq (.reg [⟨(some 38), .mov (.t 4), none⟩,
    ⟨(some 2), .mov (.t 38), none⟩,
    ⟨(some 3), .mov (.c (.bool false)), none⟩])
    (.ret))
    (.skip)))))
    (.reg [⟨(some 39), .bin .add (.t 27) (.c (.int .i64 1)), none⟩,
    ⟨(some 27), .mov (.t 39), none⟩])))
/-- engram/nest.match -/
def f_nest_match : IFun where
  nargs := 1
  results := [.tmp 2, .tmp 3]
  pure := false
  frz := false
  drop := []
  body :=
   .seq (.reg [⟨(some 2), .mov (.c (.nilptr)), none⟩,
    ⟨(some 3), .mov (.c (.bool false)), none⟩])
   (.seq (.reg [⟨(some 8), .mov (.t 0), none⟩,
    ⟨(some 9), .len (.t 8), none⟩,
    ⟨(some 10), .mksl 1 8 [.int .i64 0] (.t 9) (.t 9), none⟩,
    ⟨(some 11), .build [.nilsl, .nilsl, .int .i64 0] [(0, 1, (.t 10))], none⟩,
    ⟨(some 12), .box (.t 11), none⟩,
    ⟨(some 4), .mov (.t 12), none⟩])
    (.seq (.seq (.reg [⟨(some 13), .mov (.t 0), none⟩,
    ⟨(some 14), .len (.t 13), none⟩,
    ⟨(some 15), .mov (.c (.int .i64 0)), none⟩])
    (.block 0 (.loopK [0, 4, 14, 15] l0_nest_match)))
    (.keep [0, 4] (.seq (.seq (.reg [⟨(some 25), .mov (.t 0), none⟩,
    ⟨(some 26), .len (.t 25), none⟩,
    ⟨(some 27), .mov (.c (.int .i64 0)), none⟩])
    (.block 2 (.loopK [4, 25, 26, 27] l1_nest_match)))
    (.keep [4] (.seq (.reg [⟨(some 40), .mov (.t 4), none⟩,
    ⟨(some 41), .mov (.t 4), none⟩,
    ⟨(some 42), .nilc (.t 41), none⟩,
    ⟨(some 43), .fadr 1 (.t 42), none⟩,
    ⟨(some 44), .ld false 1 (.t 43), none⟩,
    ⟨(some 45), .len (.t 44), none⟩,
    ⟨(some 46), .bin .eql (.t 45) (.c (.int .i64 0)), none⟩,
    ⟨(some 2), .mov (.t 40), none⟩,
    ⟨(some 3), .mov (.t 46), none⟩])
    (.ret)))))))


/-- (*engram/check.judge).base -/
def f_check_judge_base : IFun where
  nargs := 1
  results := [.tmp 2]
  pure := true
  frz := true
  drop := []
  body :=
   .seq (.reg [⟨(some 2), .mov (.c (.int .i64 0)), none⟩])
   (.seq (.seq (.reg [⟨(some 3), .mov (.t 0), none⟩,
    ⟨(some 4), .nilc (.t 3), none⟩,
    ⟨(some 5), .fadr 4 (.t 4), none⟩,
    ⟨(some 6), .ld false 1 (.t 5), none⟩,
    ⟨(some 7), .len (.t 6), none⟩,
    ⟨(some 8), .bin .eql (.t 7) (.c (.int .i64 0)), none⟩])
    (.cond (.t 8)
    (.seq (.reg [⟨(some 2), .mov (.c (.int .i64 0)), none⟩])
    (.ret))
    (.skip)))
    (.seq (.reg [⟨(some 9), .mov (.t 0), none⟩,
    ⟨(some 10), .nilc (.t 9), none⟩,
    ⟨(some 11), .fadr 4 (.t 10), none⟩,
    ⟨(some 12), .ld false 1 (.t 11), none⟩,
    ⟨(some 13), .mov (.t 0), none⟩,
    ⟨(some 14), .nilc (.t 13), none⟩,
    ⟨(some 15), .fadr 4 (.t 14), none⟩,
    ⟨(some 16), .ld false 1 (.t 15), none⟩,
    ⟨(some 17), .len (.t 16), none⟩,
    ⟨(some 18), .bin .sub (.t 17) (.c (.int .i64 1)), none⟩,
    ⟨(some 19), .iadr 5 (.t 12) (.t 18), none⟩,
    ⟨(some 20), .fadr 3 (.t 19), none⟩,
    ⟨(some 21), .ld false 1 (.t 20), none⟩,
    ⟨(some 2), .mov (.t 21), none⟩])
    (.ret)))


/-- (*engram/check.judge).turn -/
def f_check_judge_turn : IFun where
  nargs := 2
  results := [.tmp 4]
  pure := false
  frz := false
  drop := []
  body :=
   .seq (.reg [⟨(some 4), .mov (.c (.int .i64 0)), none⟩])
   (.seq (.seq (.reg [⟨(some 6), .mov (.t 1), none⟩])
    (.block 0 (.seq (.seq (.reg [⟨(some 8), .bin .eql (.t 6) (.c (.int .i32 63)), none⟩,
    ⟨(some 7), .mov (.t 8), none⟩])
    (.cond (.t 7)
    (.skip)
    (.reg [⟨(some 9), .bin .eql (.t 6) (.c (.int .i32 91)), none⟩,
    ⟨(some 7), .mov (.t 9), none⟩])))
    (.cond (.t 7)
    (.regW [⟨(some 10), .mov (.t 0), none⟩,
    ⟨(some 11), .mov (.t 0), none⟩,
    ⟨(some 12), .nilc (.t 11), none⟩,
    ⟨(some 13), .fadr 4 (.t 12), none⟩,
    ⟨(some 14), .ld false 1 (.t 13), none⟩,
    ⟨(some 15), .mov (.t 1), none⟩,
    ⟨(some 16), .bin .eql (.t 15) (.c (.int .i32 91)), none⟩,
    ⟨(some 17), .mov (.t 0), none⟩,
    ⟨(some 18), .nilc (.t 17), none⟩,
    ⟨(some 19), .fadr 3 (.t 18), none⟩,
    ⟨(some 20), .ld false 1 (.t 19), none⟩,
    ⟨(some 21), .build [.bool false, .bool false, .bool false, .int .i64 0, .int .i64 0] [(0, 1, (.t 16)), (3, 1, (.t 20))], none⟩,
    ⟨(some 22), .bslice 5 [.bool false, .bool false, .bool false, .int .i64 0, .int .i64 0] 1 [(0, 5, (.t 21))], none⟩,
    ⟨(some 23), .app 5 24 (.t 14) (.t 22), none⟩,
    ⟨(some 24), .nilc (.t 10), none⟩,
    ⟨(some 25), .fadr 4 (.t 24), none⟩,
    ⟨none, .st 1 (.t 25) (.t 23), none⟩] [(4, 13)])
    (.seq (.reg [⟨(some 27), .bin .eql (.t 6) (.c (.int .i32 58)), none⟩,
    ⟨(some 26), .mov (.t 27), none⟩])
    (.cond (.t 26)
    (.seq (.reg [⟨(some 28), .mov (.t 0), none⟩,
    ⟨(some 29), .nilc (.t 28), none⟩,
    ⟨(some 30), .fadr 4 (.t 29), none⟩,
    ⟨(some 31), .ld false 1 (.t 30), none⟩,
    ⟨(some 32), .mov (.t 0), none⟩,
    ⟨(some 33), .nilc (.t 32), none⟩,
    ⟨(some 34), .fadr 4 (.t 33), none⟩,
    ⟨(some 35), .ld false 1 (.t 34), none⟩,
    ⟨(some 36), .len (.t 35), none⟩,
    ⟨(some 37), .bin .sub (.t 36) (.c (.int .i64 1)), none⟩,
    ⟨(some 38), .iadr 5 (.t 31) (.t 37), none⟩,
    ⟨(some 5), .mov (.t 38), none⟩])
    (.seq (.reg [⟨(some 39), .mov (.t 5), none⟩,
    ⟨(some 40), .mov (.t 5), none⟩,
    ⟨(some 41), .mov (.t 0), none⟩,
    ⟨(some 42), .nilc (.t 41), none⟩,
    ⟨(some 43), .fadr 3 (.t 42), none⟩,
    ⟨(some 44), .ld false 1 (.t 43), none⟩,
    ⟨(some 45), .nilc (.t 39), none⟩,
    ⟨(some 46), .fadr 1 (.t 45), none⟩,
    ⟨none, .st 1 (.t 46) (.c (.bool true)), none⟩,
    ⟨(some 47), .nilc (.t 40), none⟩,
    ⟨(some 48), .fadr 4 (.t 47), none⟩,
    ⟨none, .st 1 (.t 48) (.t 44), none⟩])
    (.reg [⟨(some 49), .mov (.t 0), none⟩,
    ⟨(some 50), .mov (.t 5), none⟩,
    ⟨(some 51), .nilc (.t 50), none⟩,
    ⟨(some 52), .fadr 3 (.t 51), none⟩,
    ⟨(some 53), .ld false 1 (.t 52), none⟩,
    ⟨(some 54), .nilc (.t 49), none⟩,
    ⟨(some 55), .fadr 3 (.t 54), none⟩,
    ⟨none, .st 1 (.t 55) (.t 53), none⟩])))
    (.seq (.reg [⟨(some 57), .bin .eql (.t 6) (.c (.int .i32 59)), none⟩,
    ⟨(some 56), .mov (.t 57), none⟩])
    (.cond (.t 56)
    (.seq (.reg [⟨(some 58), .mov (.t 0), none⟩,
    ⟨(some 59), .call (.c (.fn n_check_judge_endIf [])) [(.t 58)], none⟩,
    ⟨(some 4), .mov (.t 59), none⟩])
    (.ret))
    (.seq (.reg [⟨(some 61), .bin .eql (.t 6) (.c (.int .i32 93)), none⟩,
    ⟨(some 60), .mov (.t 61), none⟩])
    (.cond (.t 60)
    (.seq (.reg [⟨(some 62), .mov (.t 0), none⟩,
    ⟨(some 63), .call (.c (.fn n_check_judge_endLoop [])) [(.t 62)], none⟩,
    ⟨(some 4), .mov (.t 63), none⟩])
    (.ret))
    (.seq (.reg [⟨(some 65), .bin .eql (.t 6) (.c (.int .i32 126)), none⟩,
    ⟨(some 64), .mov (.t 65), none⟩])
    (.cond (.t 64)
    (.seq (.reg [⟨(some 66), .mov (.t 0), none⟩,
    ⟨(some 67), .call (.c (.fn n_check_judge_leave [])) [(.t 66)], none⟩,
    ⟨(some 4), .mov (.t 67), none⟩])
    (.ret))
    (.seq (.reg [⟨(some 69), .bin .eql (.t 6) (.c (.int .i32 161)), none⟩,
    ⟨(some 68), .mov (.t 69), none⟩])
    (.cond (.t 68)
    (.reg [⟨(some 70), .mov (.t 0), none⟩,
    ⟨(some 71), .nilc (.t 70), none⟩,
    ⟨(some 72), .fadr 3 (.t 71), none⟩,
    ⟨none, .st 1 (.t 72) (.c (.int .i64 (-1))), none⟩])
    (.skip)))))))))))))))
    (.seq (.reg [⟨(some 4), .mov (.c (.int .i64 0)), none⟩])
    (.ret)))

def l0_engramref9_leaves : IC :=
  .seq (.seq (.reg [⟨(some 9), .mov (.t 7), none⟩,
    ⟨(some 10), .mov (.t 0), none⟩,
    ⟨(some 11), .len (.t 10), none⟩,
    ⟨(some 12), .bin .lss (.t 9) (.t 11), none⟩])
   (.cond (.t 12)
    (.skip)
    (.exit 0)))
  (.seq (.block 1 (.seq (.reg [⟨(some 15), .mov (.t 0), none⟩,
    ⟨(some 16), .mov (.t 7), none⟩,
    ⟨(some 17), .iadr 3 (.t 15) (.t 16), none⟩,
    ⟨(some 18), .fadr 0 (.t 17), none⟩,
    ⟨(some 19), .ld false 1 (.t 18), none⟩,
    ⟨(some 20), .bin .eql (.t 19) (.c (.int .i32 93)), none⟩,
    ⟨(some 21), .mov (.t 20), none⟩,
    ⟨(some 22), .mov (.t 1), (some (21, true))⟩,
    ⟨(some 23), .mov (.t 7), (some (21, true))⟩,
    ⟨(some 24), .iadr 1 (.t 22) (.t 23), (some (21, true))⟩,
    ⟨(some 25), .ld false 1 (.t 24), (some (21, true))⟩,
    ⟨(some 26), .mov (.t 2), (some (21, true))⟩,
    ⟨(some 27), .bin .lss (.t 25) (.t 26), (some (21, true))⟩,
    ⟨(some 28), .pick (.t 21) (.t 27) (.c (.bool false)), none⟩])
    (.cond (.t 28)
    (.seq (.reg [⟨(some 29), .mov (.t 7), none⟩,
    ⟨(some 30), .bin .add (.t 29) (.c (.int .i64 1)), none⟩,
    ⟨(some 6), .mov (.t 30), none⟩])
    (.ret))
    (.skip))))
   (.reg [⟨(some 13), .mov (.t 7), none⟩,
    ⟨(some 14), .bin .add (.t 13) (.c (.int .i64 1)), none⟩,
    ⟨(some 7), .mov (.t 14), none⟩]))
/-- engram/engramref9.leaves -/
def f_engramref9_leaves : IFun where
  nargs := 3
  results := [.tmp 6]
  pure := true
  frz := true
  drop := []
  body :=
   .seq (.reg [⟨(some 6), .mov (.c (.int .i64 0)), none⟩])
   (.seq (.seq (.reg [⟨(some 8), .mov (.t 2), none⟩,
    ⟨(some 7), .mov (.t 8), none⟩])
    (.block 0 (.loopK [0, 1, 2, 7] l0_engramref9_leaves)))
    (.keep [] (.seq (.reg [⟨(some 6), .mov (.c (.int .i64 (-1))), none⟩])
    (.ret))))


/-- (*engram/engramref9.state).ends -/
def f_engramref9_state_ends : IFun where
  nargs := 2
  results := [.tmp 4]
  pure := false
  frz := false
  drop := []
  body :=
   .seq (.reg [⟨(some 4), .mov (.c (.bool false)), none⟩])
   (.seq (.reg [⟨(some 6), .mov (.t 0), none⟩,
    ⟨(some 7), .nilc (.t 6), none⟩,
    ⟨(some 8), .fadr 1 (.t 7), none⟩,
    ⟨(some 9), .ld false 1 (.t 8), none⟩,
    ⟨(some 10), .mov (.t 0), none⟩,
    ⟨(some 11), .nilc (.t 10), none⟩,
    ⟨(some 12), .fadr 1 (.t 11), none⟩,
    ⟨(some 13), .ld false 1 (.t 12), none⟩,
    ⟨(some 14), .len (.t 13), none⟩,
    ⟨(some 15), .bin .sub (.t 14) (.c (.int .i64 1)), none⟩,
    ⟨(some 16), .iadr 4 (.t 9) (.t 15), none⟩,
    ⟨(some 5), .mov (.t 16), none⟩])
    (.seq (.seq (.reg [⟨(some 17), .mov (.t 1), none⟩,
    ⟨(some 18), .bin .eql (.t 17) (.c (.int .i32 58)), none⟩])
    (.cond (.t 18)
    (.seq (.reg [⟨(some 19), .mov (.t 5), none⟩,
    ⟨(some 20), .mov (.t 5), none⟩,
    ⟨(some 21), .mov (.t 0), none⟩,
    ⟨(some 22), .mov (.t 0), none⟩,
    ⟨(some 23), .nilc (.t 22), none⟩,
    ⟨(some 24), .fadr 0 (.t 23), none⟩,
    ⟨(some 25), .ld false 1 (.t 24), none⟩,
    ⟨(some 26), .mov (.t 5), none⟩,
    ⟨(some 27), .nilc (.t 26), none⟩,
    ⟨(some 28), .fadr 1 (.t 27), none⟩,
    ⟨(some 29), .ld false 1 (.t 28), none⟩,
    ⟨(some 30), .nilc (.t 19), none⟩,
    ⟨(some 31), .fadr 0 (.t 30), none⟩,
    ⟨none, .st 1 (.t 31) (.c (.int .i32 58)), none⟩,
    ⟨(some 32), .nilc (.t 20), none⟩,
    ⟨(some 33), .fadr 2 (.t 32), none⟩,
    ⟨none, .st 1 (.t 33) (.t 25), none⟩,
    ⟨(some 34), .nilc (.t 21), none⟩,
    ⟨(some 35), .fadr 0 (.t 34), none⟩,
    ⟨none, .st 1 (.t 35) (.t 29), none⟩])
    (.seq (.reg [⟨(some 4), .mov (.c (.bool true)), none⟩])
    (.ret)))
    (.skip)))
    (.seq (.reg [⟨(some 36), .mov (.t 0), none⟩,
    ⟨(some 37), .mov (.t 0), none⟩,
    ⟨(some 38), .nilc (.t 37), none⟩,
    ⟨(some 39), .fadr 1 (.t 38), none⟩,
    ⟨(some 40), .ld false 1 (.t 39), none⟩,
    ⟨(some 41), .mov (.t 0), none⟩,
    ⟨(some 42), .nilc (.t 41), none⟩,
    ⟨(some 43), .fadr 1 (.t 42), none⟩,
    ⟨(some 44), .ld false 1 (.t 43), none⟩,
    ⟨(some 45), .len (.t 44), none⟩,
    ⟨(some 46), .bin .sub (.t 45) (.c (.int .i64 1)), none⟩,
    ⟨(some 47), .slc 4 (.t 40) none (some (.t 46)) none, none⟩,
    ⟨(some 48), .nilc (.t 36), none⟩,
    ⟨(some 49), .fadr 1 (.t 48), none⟩,
    ⟨none, .st 1 (.t 49) (.t 47), none⟩])
    (.seq (.seq (.reg [⟨(some 50), .mov (.t 5), none⟩,
    ⟨(some 51), .nilc (.t 50), none⟩,
    ⟨(some 52), .fadr 0 (.t 51), none⟩,
    ⟨(some 53), .ld false 1 (.t 52), none⟩,
    ⟨(some 54), .bin .eql (.t 53) (.c (.int .i32 58)), none⟩])
    (.cond (.t 54)
    (.seq (.seq (.reg [⟨(some 55), .mov (.t 5), none⟩,
    ⟨(some 56), .nilc (.t 55), none⟩,
    ⟨(some 57), .fadr 2 (.t 56), none⟩,
    ⟨(some 58), .ld false 1 (.t 57), none⟩,
    ⟨(some 59), .bin .geq (.t 58) (.c (.int .i64 0)), none⟩,
    ⟨(some 60), .mov (.t 59), none⟩,
    ⟨(some 61), .mov (.t 0), (some (60, true))⟩,
    ⟨(some 62), .nilc (.t 61), (some (60, true))⟩,
    ⟨(some 63), .fadr 0 (.t 62), (some (60, true))⟩,
    ⟨(some 64), .ld false 1 (.t 63), (some (60, true))⟩,
    ⟨(some 65), .bin .geq (.t 64) (.c (.int .i64 0)), (some (60, true))⟩,
    ⟨(some 66), .pick (.t 60) (.t 65) (.c (.bool false)), none⟩,
    ⟨(some 67), .mov (.t 66), none⟩,
    ⟨(some 68), .mov (.t 5), (some (67, true))⟩,
    ⟨(some 69), .nilc (.t 68), (some (67, true))⟩,
    ⟨(some 70), .fadr 2 (.t 69), (some (67, true))⟩,
    ⟨(some 71), .ld false 1 (.t 70), (some (67, true))⟩,
    ⟨(some 72), .mov (.t 0), (some (67, true))⟩,
    ⟨(some 73), .nilc (.t 72), (some (67, true))⟩,
    ⟨(some 74), .fadr 0 (.t 73), (some (67, true))⟩,
    ⟨(some 75), .ld false 1 (.t 74), (some (67, true))⟩,
    ⟨(some 76), .bin .neq (.t 71) (.t 75), (some (67, true))⟩,
    ⟨(some 77), .pick (.t 67) (.t 76) (.c (.bool false)), none⟩])
    (.cond (.t 77)
    (.seq (.reg [⟨(some 4), .mov (.c (.bool false)), none⟩])
    (.ret))
    (.skip)))
    (.seq (.reg [⟨(some 78), .mov (.t 0), none⟩,
    ⟨(some 79), .mov (.t 0), none⟩,
    ⟨(some 80), .nilc (.t 79), none⟩,
    ⟨(some 81), .fadr 0 (.t 80), none⟩,
    ⟨(some 82), .ld false 1 (.t 81), none⟩,
    ⟨(some 83), .mov (.t 5), none⟩,
    ⟨(some 84), .nilc (.t 83), none⟩,
    ⟨(some 85), .fadr 2 (.t 84), none⟩,
    ⟨(some 86), .ld false 1 (.t 85), none⟩,
    ⟨(some 87), .mm true (.t 82) (.t 86), none⟩,
    ⟨(some 88), .nilc (.t 78), none⟩,
    ⟨(some 89), .fadr 0 (.t 88), none⟩,
    ⟨none, .st 1 (.t 89) (.t 87), none⟩])
    (.seq (.reg [⟨(some 4), .mov (.c (.bool true)), none⟩])
    (.ret))))
    (.skip)))
    (.seq (.seq (.reg [⟨(some 90), .mov (.t 0), none⟩,
    ⟨(some 91), .nilc (.t 90), none⟩,
    ⟨(some 92), .fadr 0 (.t 91), none⟩,
    ⟨(some 93), .ld false 1 (.t 92), none⟩,
    ⟨(some 94), .bin .geq (.t 93) (.c (.int .i64 0)), none⟩,
    ⟨(some 95), .mov (.t 94), none⟩,
    ⟨(some 96), .mov (.t 0), (some (95, true))⟩,
    ⟨(some 97), .nilc (.t 96), (some (95, true))⟩,
    ⟨(some 98), .fadr 0 (.t 97), (some (95, true))⟩,
    ⟨(some 99), .ld false 1 (.t 98), (some (95, true))⟩,
    ⟨(some 100), .mov (.t 5), (some (95, true))⟩,
    ⟨(some 101), .nilc (.t 100), (some (95, true))⟩,
    ⟨(some 102), .fadr 1 (.t 101), (some (95, true))⟩,
    ⟨(some 103), .ld false 1 (.t 102), (some (95, true))⟩,
    ⟨(some 104), .bin .neq (.t 99) (.t 103), (some (95, true))⟩,
    ⟨(some 105), .pick (.t 95) (.t 104) (.c (.bool false)), none⟩])
    (.cond (.t 105)
    (.seq (.reg [⟨(some 4), .mov (.c (.bool false)), none⟩])
    (.ret))
    (.skip)))
    (.seq (.reg [⟨(some 106), .mov (.t 0), none⟩,
    ⟨(some 107), .mov (.t 5), none⟩,
    ⟨(some 108), .nilc (.t 107), none⟩,
    ⟨(some 109), .fadr 1 (.t 108), none⟩,
    ⟨(some 110), .ld false 1 (.t 109), none⟩,
    ⟨(some 111), .nilc (.t 106), none⟩,
    ⟨(some 112), .fadr 0 (.t 111), none⟩,
    ⟨none, .st 1 (.t 112) (.t 110), none⟩])
    (.seq (.seq (.reg [⟨(some 113), .mov (.t 5), none⟩,
    ⟨(some 114), .nilc (.t 113), none⟩,
    ⟨(some 115), .fadr 0 (.t 114), none⟩,
    ⟨(some 116), .ld false 1 (.t 115), none⟩,
    ⟨(some 117), .bin .eql (.t 116) (.c (.int .i32 91)), none⟩,
    ⟨(some 118), .mov (.t 117), none⟩,
    ⟨(some 119), .mov (.t 5), (some (118, true))⟩,
    ⟨(some 120), .nilc (.t 119), (some (118, true))⟩,
    ⟨(some 121), .fadr 3 (.t 120), (some (118, true))⟩,
    ⟨(some 122), .ld false 1 (.t 121), (some (118, true))⟩,
    ⟨(some 123), .un .not (.t 122), (some (118, true))⟩,
    ⟨(some 124), .pick (.t 118) (.t 123) (.c (.bool false)), none⟩])
    (.cond (.t 124)
    (.reg [⟨(some 125), .mov (.t 0), none⟩,
    ⟨(some 126), .nilc (.t 125), none⟩,
    ⟨(some 127), .fadr 0 (.t 126), none⟩,
    ⟨none, .st 1 (.t 127) (.c (.int .i64 (-1))), none⟩])
    (.skip)))
    (.seq (.reg [⟨(some 4), .mov (.c (.bool true)), none⟩])
    (.ret)))))))))


/-- (*engram/engramref9.state).base -/
def f_engramref9_state_base : IFun where
  nargs := 1
  results := [.tmp 2]
  pure := true
  frz := true
  drop := []
  body :=
   .seq (.reg [⟨(some 2), .mov (.c (.int .i64 0)), none⟩])
   (.seq (.seq (.reg [⟨(some 3), .mov (.t 0), none⟩,
    ⟨(some 4), .nilc (.t 3), none⟩,
    ⟨(some 5), .fadr 1 (.t 4), none⟩,
    ⟨(some 6), .ld false 1 (.t 5), none⟩,
    ⟨(some 7), .len (.t 6), none⟩,
    ⟨(some 8), .bin .eql (.t 7) (.c (.int .i64 0)), none⟩])
    (.cond (.t 8)
    (.seq (.reg [⟨(some 2), .mov (.c (.int .i64 0)), none⟩])
    (.ret))
    (.skip)))
    (.seq (.reg [⟨(some 9), .mov (.t 0), none⟩,
    ⟨(some 10), .nilc (.t 9), none⟩,
    ⟨(some 11), .fadr 1 (.t 10), none⟩,
    ⟨(some 12), .ld false 1 (.t 11), none⟩,
    ⟨(some 13), .mov (.t 0), none⟩,
    ⟨(some 14), .nilc (.t 13), none⟩,
    ⟨(some 15), .fadr 1 (.t 14), none⟩,
    ⟨(some 16), .ld false 1 (.t 15), none⟩,
    ⟨(some 17), .len (.t 16), none⟩,
    ⟨(some 18), .bin .sub (.t 17) (.c (.int .i64 1)), none⟩,
    ⟨(some 19), .iadr 4 (.t 12) (.t 18), none⟩,
    ⟨(some 20), .fadr 1 (.t 19), none⟩,
    ⟨(some 21), .ld false 1 (.t 20), none⟩,
    ⟨(some 2), .mov (.t 21), none⟩])
    (.ret)))

def l0_engramref9_state_leave : IC :=
  .seq (.seq (.reg [⟨(some 11), .mov (.t 3), none⟩,
    ⟨(some 12), .bin .geq (.t 11) (.c (.int .i64 0)), none⟩])
   (.cond (.t 12)
    (.skip)
    (.exit 0)))
  (.seq (.block 1 (.seq (.reg [⟨(some 15), .mov (.t 0), none⟩,
    ⟨(some 16), .nilc (.t 15), none⟩,
    ⟨(some 17), .fadr 1 (.t 16), none⟩,
    ⟨(some 18), .ld false 1 (.t 17), none⟩,
    ⟨(some 19), .mov (.t 3), none⟩,
    ⟨(some 20), .iadr 4 (.t 18) (.t 19), none⟩,
    ⟨(some 21), .fadr 0 (.t 20), none⟩,
    ⟨(some 22), .ld false 1 (.t 21), none⟩,
    ⟨(some 23), .bin .eql (.t 22) (.c (.int .i32 91)), none⟩])
    (.cond (.t 23)
    (.seq (.reg [⟨(some 24), .mov (.t 0), none⟩,
    ⟨(some 25), .nilc (.t 24), none⟩,
    ⟨(some 26), .fadr 1 (.t 25), none⟩,
    ⟨(some 27), .ld false 1 (.t 26), none⟩,
    ⟨(some 28), .mov (.t 3), none⟩,
    ⟨(some 29), .iadr 4 (.t 27) (.t 28), none⟩,
    ⟨(some 30), .fadr 3 (.t 29), none⟩,
    ⟨none, .st 1 (.t 30) (.c (.bool true)), none⟩])
    (.seq (.reg [⟨(some 31), .mov (.t 0), none⟩,
    ⟨(some 32), .nilc (.t 31), none⟩,
    ⟨(some 33), .fadr 0 (.t 32), none⟩,
    ⟨(some 34), .ld false 1 (.t 33), none⟩,
    ⟨(some 35), .mov (.t 0), none⟩,
    ⟨(some 36), .nilc (.t 35), none⟩,
    ⟨(some 37), .fadr 1 (.t 36), none⟩,
    ⟨(some 38), .ld false 1 (.t 37), none⟩,
    ⟨(some 39), .mov (.t 3), none⟩,
    ⟨(some 40), .iadr 4 (.t 38) (.t 39), none⟩,
    ⟨(some 41), .fadr 1 (.t 40), none⟩,
    ⟨(some 42), .ld false 1 (.t 41), none⟩,
    ⟨(some 43), .bin .eql (.t 34) (.t 42), none⟩,
    ⟨(some 4), .mov (.t 43), none⟩])
    (.seq (.reg [⟨(some 44), .mov (.t 0), none⟩,
    ⟨(some 45), .nilc (.t 44), none⟩,
    ⟨(some 46), .fadr 0 (.t 45), none⟩,
    ⟨none, .st 1 (.t 46) (.c (.int .i64 (-1))), none⟩])
    (.seq (.reg [⟨(some 47), .mov (.t 4), none⟩,
    ⟨(some 2), .mov (.t 47), none⟩])
    (.ret)))))
    (.skip))))
   (.reg [⟨(some 13), .mov (.t 3), none⟩,
    ⟨(some 14), .bin .sub (.t 13) (.c (.int .i64 1)), none⟩,
    ⟨(some 3), .mov (.t 14), none⟩]))
/-- (*engram/engramref9.state).leave -/
def f_engramref9_state_leave : IFun where
  nargs := 1
  results := [.tmp 2]
  pure := false
  frz := false
  drop := []
  body :=
   .seq (.reg [⟨(some 2), .mov (.c (.bool false)), none⟩])
   (.seq (.seq (.reg [⟨(some 5), .mov (.t 0), none⟩,
    ⟨(some 6), .nilc (.t 5), none⟩,
    ⟨(some 7), .fadr 1 (.t 6), none⟩,
    ⟨(some 8), .ld false 1 (.t 7), none⟩,
    ⟨(some 9), .len (.t 8), none⟩,
    ⟨(some 10), .bin .sub (.t 9) (.c (.int .i64 1)), none⟩,
    ⟨(some 3), .mov (.t 10), none⟩])
    (.block 0 (.loopK [0, 3] l0_engramref9_state_leave)))
    (.keep [] (.seq (.reg [⟨(some 2), .mov (.c (.bool false)), none⟩])
    (.ret))))


/-- engram/glyph.Name -/
def f_glyph_Name : IFun where
  nargs := 1
  results := [.tmp 2]
  pure := true
  frz := true
  drop := []
  body :=
   .seq (.reg [⟨(some 2), .mov (.c (.bool false)), none⟩])
   (.seq (.reg [⟨(some 3), .mov (.t 0), none⟩,
    ⟨(some 4), .call (.c (.fn n_glyph_within [])) [(.t 3), (.c (.int .i32 97)), (.c (.int .i32 122))], none⟩,
    ⟨(some 5), .mov (.t 4), none⟩,
    ⟨(some 6), .mov (.t 0), (some (5, false))⟩,
    ⟨(some 7), .bin .gtr (.t 6) (.c (.int .i32 255)), (some (5, false))⟩,
    ⟨(some 8), .mov (.t 7), (some (5, false))⟩,
    ⟨(some 9), .mov (.t 0), (some (8, true))⟩,
    ⟨(some 10), .call (.c (.fn n_utf8_ValidRune [])) [(.t 9)], (some (8, true))⟩,
    ⟨(some 11), .pick (.t 8) (.t 10) (.c (.bool false)), (some (5, false))⟩,
    ⟨(some 12), .mov (.t 11), (some (5, false))⟩,
    ⟨(some 13), .mov (.t 0), (some (12, true))⟩,
    ⟨(some 14), .bin .neq (.t 13) (.c (.int .i32 65533)), (some (12, true))⟩,
    ⟨(some 15), .pick (.t 12) (.t 14) (.c (.bool false)), (some (5, false))⟩,
    ⟨(some 16), .pick (.t 5) (.c (.bool true)) (.t 15), none⟩,
    ⟨(some 2), .mov (.t 16), none⟩])
    (.ret))


/-- engram/glyph.within -/
def f_glyph_within : IFun where
  nargs := 3
  results := [.tmp 6]
  pure := true
  frz := true
  drop := []
  body :=
   .seq (.reg [⟨(some 6), .mov (.c (.bool false)), none⟩])
   (.seq (.reg [⟨(some 7), .mov (.t 0), none⟩,
    ⟨(some 8), .mov (.t 1), none⟩,
    ⟨(some 9), .bin .geq (.t 7) (.t 8), none⟩,
    ⟨(some 10), .mov (.t 9), none⟩,
    ⟨(some 11), .mov (.t 0), (some (10, true))⟩,
    ⟨(some 12), .mov (.t 2), (some (10, true))⟩,
    ⟨(some 13), .bin .leq (.t 11) (.t 12), (some (10, true))⟩,
    ⟨(some 14), .pick (.t 10) (.t 13) (.c (.bool false)), none⟩,
    ⟨(some 6), .mov (.t 14), none⟩])
    (.ret))

def l0_glyph_Known : IC :=
  .seq (.reg [⟨(some 12), .next (.t 11), none⟩,
    ⟨(some 13), .ext (.t 12) 0, none⟩])
  (.seq (.cond (.t 13)
    (.skip)
    (.exit 0))
   (.block 1 (.seq (.reg [⟨(some 14), .ext (.t 12) 2, none⟩,
    ⟨(some 4), .mov (.t 14), none⟩])
    (.seq (.reg [⟨(some 15), .mov (.t 4), none⟩,
    ⟨(some 16), .mov (.t 0), none⟩,
    ⟨(some 17), .bin .eql (.t 15) (.t 16), none⟩])
    (.cond (.t 17)
    (.seq (.reg [⟨(some 2), .mov (.c (.bool true)), none⟩])
    (.ret))
    (.skip))))))
/-- engram/glyph.Known -/
def f_glyph_Known : IFun where
  nargs := 1
  results := [.tmp 2]
  pure := true
  frz := true
  drop := []
  body :=
   .seq (.reg [⟨(some 2), .mov (.c (.bool false)), none⟩])
   (.seq (.seq (.reg [⟨(some 5), .mov (.t 0), none⟩,
    ⟨(some 6), .call (.c (.fn n_glyph_within [])) [(.t 5), (.c (.int .i32 97)), (.c (.int .i32 122))], none⟩,
    ⟨(some 7), .mov (.t 6), none⟩,
    ⟨(some 8), .mov (.t 0), (some (7, false))⟩,
    ⟨(some 9), .call (.c (.fn n_glyph_within [])) [(.t 8), (.c (.int .i32 65)), (.c (.int .i32 90))], (some (7, false))⟩,
    ⟨(some 10), .pick (.t 7) (.c (.bool true)) (.t 9), none⟩])
    (.cond (.t 10)
    (.seq (.reg [⟨(some 2), .mov (.c (.bool true)), none⟩])
    (.ret))
    (.skip)))
    (.seq (.seq (.reg [⟨(some 11), .rng (.c (.str ⟨#[43, 45, 42, 47, 37, 38, 124, 94, 60, 61, 33, 46, 44, 64, 36, 35, 63, 58, 59, 91, 93, 126, 194, 171, 194, 187, 194, 169, 194, 174, 194, 164, 194, 161, 206, 187, 207, 128]⟩)), none⟩])
    (.block 0 (.loopK [0, 11] l0_glyph_Known)))
    (.keep [] (.seq (.reg [⟨(some 2), .mov (.c (.bool false)), none⟩])
    (.ret)))))


/-- engram/glyph.named -/
def f_glyph_named : IFun where
  nargs := 1
  results := [.tmp 2]
  pure := true
  frz := true
  drop := []
  body :=
   .seq (.reg [⟨(some 2), .mov (.c (.bool false)), none⟩])
   (.seq (.reg [⟨(some 3), .mov (.t 0), none⟩,
    ⟨(some 4), .bin .eql (.t 3) (.c (.int .i32 955)), none⟩,
    ⟨(some 5), .mov (.t 4), none⟩,
    ⟨(some 6), .mov (.t 0), (some (5, false))⟩,
    ⟨(some 7), .bin .eql (.t 6) (.c (.int .i32 960)), (some (5, false))⟩,
    ⟨(some 8), .pick (.t 5) (.c (.bool true)) (.t 7), none⟩,
    ⟨(some 2), .mov (.t 8), none⟩])
    (.ret))


/-- (*engram/nest.matcher).token -/
def f_nest_matcher_token : IFun where
  nargs := 3
  results := [.tmp 6]
  pure := false
  frz := false
  drop := []
  body :=
   .seq (.reg [⟨(some 6), .mov (.c (.bool false)), none⟩])
   (.seq (.seq (.reg [⟨(some 7), .mov (.t 2), none⟩])
    (.block 0 (.seq (.reg [⟨(some 9), .bin .eql (.t 7) (.c (.int .i32 63)), none⟩,
    ⟨(some 8), .mov (.t 9), none⟩])
    (.cond (.t 8)
    (.seq (.reg [⟨(some 10), .mov (.t 0), none⟩,
    ⟨(some 11), .mov (.t 1), none⟩,
    ⟨(some 12), .call (.c (.fn n_nest_matcher_begin [])) [(.t 10), (.t 11), (.c (.bool false))], none⟩,
    ⟨(some 6), .mov (.t 12), none⟩])
    (.ret))
    (.seq (.reg [⟨(some 14), .bin .eql (.t 7) (.c (.int .i32 91)), none⟩,
    ⟨(some 13), .mov (.t 14), none⟩])
    (.cond (.t 13)
    (.seq (.reg [⟨(some 15), .mov (.t 0), none⟩,
    ⟨(some 16), .mov (.t 1), none⟩,
    ⟨(some 17), .call (.c (.fn n_nest_matcher_begin [])) [(.t 15), (.t 16), (.c (.bool true))], none⟩,
    ⟨(some 6), .mov (.t 17), none⟩])
    (.ret))
    (.seq (.reg [⟨(some 19), .bin .eql (.t 7) (.c (.int .i32 58)), none⟩,
    ⟨(some 18), .mov (.t 19), none⟩])
    (.cond (.t 18)
    (.seq (.reg [⟨(some 20), .mov (.t 0), none⟩,
    ⟨(some 21), .mov (.t 1), none⟩,
    ⟨(some 22), .call (.c (.fn n_nest_matcher_other [])) [(.t 20), (.t 21)], none⟩,
    ⟨(some 6), .mov (.t 22), none⟩])
    (.ret))
    (.seq (.reg [⟨(some 24), .bin .eql (.t 7) (.c (.int .i32 59)), none⟩,
    ⟨(some 23), .mov (.t 24), none⟩])
    (.cond (.t 23)
    (.seq (.reg [⟨(some 25), .mov (.t 0), none⟩,
    ⟨(some 26), .mov (.t 1), none⟩,
    ⟨(some 27), .call (.c (.fn n_nest_matcher_endIf [])) [(.t 25), (.t 26)], none⟩,
    ⟨(some 6), .mov (.t 27), none⟩])
    (.ret))
    (.seq (.reg [⟨(some 29), .bin .eql (.t 7) (.c (.int .i32 93)), none⟩,
    ⟨(some 28), .mov (.t 29), none⟩])
    (.cond (.t 28)
    (.seq (.reg [⟨(some 30), .mov (.t 0), none⟩,
    ⟨(some 31), .mov (.t 1), none⟩,
    ⟨(some 32), .call (.c (.fn n_nest_matcher_endLoop [])) [(.t 30), (.t 31)], none⟩,
    ⟨(some 6), .mov (.t 32), none⟩])
    (.ret))
    (.seq (.reg [⟨(some 34), .bin .eql (.t 7) (.c (.int .i32 126)), none⟩,
    ⟨(some 33), .mov (.t 34), none⟩])
    (.cond (.t 33)
    (.seq (.reg [⟨(some 35), .mov (.t 0), none⟩,
    ⟨(some 36), .mov (.t 1), none⟩,
    ⟨(some 37), .call (.c (.fn n_nest_matcher_leave [])) [(.t 35), (.t 36)], none⟩,
    ⟨(some 6), .mov (.t 37), none⟩])
    (.ret))
    (.skip)))))))))))))))
    (.seq (.reg [⟨(some 6), .mov (.c (.bool true)), none⟩])
    (.ret)))


/-- (*engram/check.judge).endIf -/
def f_check_judge_endIf : IFun where
  nargs := 1
  results := [.tmp 2]
  pure := false
  frz := false
  drop := []
  body :=
   .seq (.reg [⟨(some 2), .mov (.c (.int .i64 0)), none⟩])
   (.seq (.reg [⟨(some 4), .mov (.t 0), none⟩,
    ⟨(some 5), .call (.c (.fn n_check_judge_pop [])) [(.t 4)], none⟩,
    ⟨(some 3), .alloc [.bool false, .bool false, .bool false, .int .i64 0, .int .i64 0], none⟩,
    ⟨none, .st 5 (.t 3) (.t 5), none⟩])
    (.seq (.seq (.reg [⟨(some 6), .fadr 1 (.t 3), none⟩,
    ⟨(some 7), .ld false 1 (.t 6), none⟩,
    ⟨(some 8), .un .not (.t 7), none⟩])
    (.cond (.t 8)
    (.seq (.seq (.reg [⟨(some 9), .mov (.t 0), none⟩,
    ⟨(some 10), .nilc (.t 9), none⟩,
    ⟨(some 11), .fadr 3 (.t 10), none⟩,
    ⟨(some 12), .ld false 1 (.t 11), none⟩,
    ⟨(some 13), .bin .neq (.t 12) (.c (.int .i64 (-1))), none⟩,
    ⟨(some 14), .mov (.t 13), none⟩,
    ⟨(some 15), .mov (.t 0), (some (14, true))⟩,
    ⟨(some 16), .nilc (.t 15), (some (14, true))⟩,
    ⟨(some 17), .fadr 3 (.t 16), (some (14, true))⟩,
    ⟨(some 18), .ld false 1 (.t 17), (some (14, true))⟩,
    ⟨(some 19), .fadr 3 (.t 3), (some (14, true))⟩,
    ⟨(some 20), .ld false 1 (.t 19), (some (14, true))⟩,
    ⟨(some 21), .bin .neq (.t 18) (.t 20), (some (14, true))⟩,
    ⟨(some 22), .pick (.t 14) (.t 21) (.c (.bool false)), none⟩])
    (.cond (.t 22)
    (.seq (.reg [⟨(some 2), .mov (.c (.int .i64 14)), none⟩])
    (.ret))
    (.skip)))
    (.seq (.reg [⟨(some 23), .mov (.t 0), none⟩,
    ⟨(some 24), .fadr 3 (.t 3), none⟩,
    ⟨(some 25), .ld false 1 (.t 24), none⟩,
    ⟨(some 26), .nilc (.t 23), none⟩,
    ⟨(some 27), .fadr 3 (.t 26), none⟩,
    ⟨none, .st 1 (.t 27) (.t 25), none⟩])
    (.seq (.reg [⟨(some 2), .mov (.c (.int .i64 0)), none⟩])
    (.ret))))
    (.skip)))
    (.seq (.seq (.reg [⟨(some 28), .mov (.t 0), none⟩,
    ⟨(some 29), .nilc (.t 28), none⟩,
    ⟨(some 30), .fadr 3 (.t 29), none⟩,
    ⟨(some 31), .ld false 1 (.t 30), none⟩,
    ⟨(some 32), .bin .neq (.t 31) (.c (.int .i64 (-1))), none⟩,
    ⟨(some 33), .mov (.t 32), none⟩,
    ⟨(some 34), .fadr 4 (.t 3), (some (33, true))⟩,
    ⟨(some 35), .ld false 1 (.t 34), (some (33, true))⟩,
    ⟨(some 36), .bin .neq (.t 35) (.c (.int .i64 (-1))), (some (33, true))⟩,
    ⟨(some 37), .pick (.t 33) (.t 36) (.c (.bool false)), none⟩,
    ⟨(some 38), .mov (.t 37), none⟩,
    ⟨(some 39), .mov (.t 0), (some (38, true))⟩,
    ⟨(some 40), .nilc (.t 39), (some (38, true))⟩,
    ⟨(some 41), .fadr 3 (.t 40), (some (38, true))⟩,
    ⟨(some 42), .ld false 1 (.t 41), (some (38, true))⟩,
    ⟨(some 43), .fadr 4 (.t 3), (some (38, true))⟩,
    ⟨(some 44), .ld false 1 (.t 43), (some (38, true))⟩,
    ⟨(some 45), .bin .neq (.t 42) (.t 44), (some (38, true))⟩,
    ⟨(some 46), .pick (.t 38) (.t 45) (.c (.bool false)), none⟩])
    (.cond (.t 46)
    (.seq (.reg [⟨(some 2), .mov (.c (.int .i64 14)), none⟩])
    (.ret))
    (.skip)))
    (.seq (.reg [⟨(some 47), .mov (.t 0), none⟩,
    ⟨(some 48), .mov (.t 0), none⟩,
    ⟨(some 49), .nilc (.t 48), none⟩,
    ⟨(some 50), .fadr 3 (.t 49), none⟩,
    ⟨(some 51), .ld false 1 (.t 50), none⟩,
    ⟨(some 52), .fadr 4 (.t 3), none⟩,
    ⟨(some 53), .ld false 1 (.t 52), none⟩,
    ⟨(some 54), .mm true (.t 51) (.t 53), none⟩,
    ⟨(some 55), .nilc (.t 47), none⟩,
    ⟨(some 56), .fadr 3 (.t 55), none⟩,
    ⟨none, .st 1 (.t 56) (.t 54), none⟩])
    (.seq (.reg [⟨(some 2), .mov (.c (.int .i64 0)), none⟩])
    (.ret))))))


/-- (*engram/check.judge).endLoop -/
def f_check_judge_endLoop : IFun where
  nargs := 1
  results := [.tmp 2]
  pure := false
  frz := false
  drop := []
  body :=
   .seq (.reg [⟨(some 2), .mov (.c (.int .i64 0)), none⟩])
   (.seq (.reg [⟨(some 4), .mov (.t 0), none⟩,
    ⟨(some 5), .call (.c (.fn n_check_judge_pop [])) [(.t 4)], none⟩,
    ⟨(some 3), .alloc [.bool false, .bool false, .bool false, .int .i64 0, .int .i64 0], none⟩,
    ⟨none, .st 5 (.t 3) (.t 5), none⟩])
    (.seq (.seq (.reg [⟨(some 6), .mov (.t 0), none⟩,
    ⟨(some 7), .nilc (.t 6), none⟩,
    ⟨(some 8), .fadr 3 (.t 7), none⟩,
    ⟨(some 9), .ld false 1 (.t 8), none⟩,
    ⟨(some 10), .bin .neq (.t 9) (.c (.int .i64 (-1))), none⟩,
    ⟨(some 11), .mov (.t 10), none⟩,
    ⟨(some 12), .mov (.t 0), (some (11, true))⟩,
    ⟨(some 13), .nilc (.t 12), (some (11, true))⟩,
    ⟨(some 14), .fadr 3 (.t 13), (some (11, true))⟩,
    ⟨(some 15), .ld false 1 (.t 14), (some (11, true))⟩,
    ⟨(some 16), .fadr 3 (.t 3), (some (11, true))⟩,
    ⟨(some 17), .ld false 1 (.t 16), (some (11, true))⟩,
    ⟨(some 18), .bin .neq (.t 15) (.t 17), (some (11, true))⟩,
    ⟨(some 19), .pick (.t 11) (.t 18) (.c (.bool false)), none⟩])
    (.cond (.t 19)
    (.seq (.reg [⟨(some 2), .mov (.c (.int .i64 14)), none⟩])
    (.ret))
    (.skip)))
    (.seq (.reg [⟨(some 20), .mov (.t 0), none⟩,
    ⟨(some 21), .nilc (.t 20), none⟩,
    ⟨(some 22), .fadr 3 (.t 21), none⟩,
    ⟨none, .st 1 (.t 22) (.c (.int .i64 (-1))), none⟩])
    (.seq (.seq (.reg [⟨(some 23), .fadr 2 (.t 3), none⟩,
    ⟨(some 24), .ld false 1 (.t 23), none⟩])
    (.cond (.t 24)
    (.reg [⟨(some 25), .mov (.t 0), none⟩,
    ⟨(some 26), .fadr 3 (.t 3), none⟩,
    ⟨(some 27), .ld false 1 (.t 26), none⟩,
    ⟨(some 28), .nilc (.t 25), none⟩,
    ⟨(some 29), .fadr 3 (.t 28), none⟩,
    ⟨none, .st 1 (.t 29) (.t 27), none⟩])
    (.skip)))
    (.seq (.reg [⟨(some 2), .mov (.c (.int .i64 0)), none⟩])
    (.ret))))))

def l0_check_judge_leave : IC :=
  .seq (.seq (.reg [⟨(some 10), .mov (.t 0), none⟩,
    ⟨(some 11), .nilc (.t 10), none⟩,
    ⟨(some 12), .fadr 4 (.t 11), none⟩,
    ⟨(some 13), .ld false 1 (.t 12), none⟩,
    ⟨(some 14), .mov (.t 3), none⟩,
    ⟨(some 15), .iadr 5 (.t 13) (.t 14), none⟩,
    ⟨(some 16), .fadr 0 (.t 15), none⟩,
    ⟨(some 17), .ld false 1 (.t 16), none⟩,
    ⟨(some 18), .un .not (.t 17), none⟩])
   (.cond (.t 18)
    (.skip)
    (.exit 0)))
  (.block 1 (.reg [⟨(some 19), .mov (.t 3), none⟩,
    ⟨(some 20), .bin .sub (.t 19) (.c (.int .i64 1)), none⟩,
    ⟨(some 3), .mov (.t 20), none⟩]))
/-- (*engram/check.judge).leave -/
def f_check_judge_leave : IFun where
  nargs := 1
  results := [.tmp 2]
  pure := false
  frz := false
  drop := []
  body :=
   .seq (.reg [⟨(some 2), .mov (.c (.int .i64 0)), none⟩])
   (.seq (.reg [⟨(some 4), .mov (.t 0), none⟩,
    ⟨(some 5), .nilc (.t 4), none⟩,
    ⟨(some 6), .fadr 4 (.t 5), none⟩,
    ⟨(some 7), .ld false 1 (.t 6), none⟩,
    ⟨(some 8), .len (.t 7), none⟩,
    ⟨(some 9), .bin .sub (.t 8) (.c (.int .i64 1)), none⟩,
    ⟨(some 3), .mov (.t 9), none⟩])
    (.seq (.block 0 (.loopK [0, 3] l0_check_judge_leave))
    (.keep [0, 3] (.seq (.seq (.reg [⟨(some 21), .mov (.t 0), none⟩,
    ⟨(some 22), .nilc (.t 21), none⟩,
    ⟨(some 23), .fadr 3 (.t 22), none⟩,
    ⟨(some 24), .ld false 1 (.t 23), none⟩,
    ⟨(some 25), .mov (.t 0), none⟩,
    ⟨(some 26), .nilc (.t 25), none⟩,
    ⟨(some 27), .fadr 4 (.t 26), none⟩,
    ⟨(some 28), .ld false 1 (.t 27), none⟩,
    ⟨(some 29), .mov (.t 3), none⟩,
    ⟨(some 30), .iadr 5 (.t 28) (.t 29), none⟩,
    ⟨(some 31), .fadr 3 (.t 30), none⟩,
    ⟨(some 32), .ld false 1 (.t 31), none⟩,
    ⟨(some 33), .bin .neq (.t 24) (.t 32), none⟩])
    (.cond (.t 33)
    (.seq (.reg [⟨(some 2), .mov (.c (.int .i64 14)), none⟩])
    (.ret))
    (.skip)))
    (.seq (.reg [⟨(some 34), .mov (.t 0), none⟩,
    ⟨(some 35), .nilc (.t 34), none⟩,
    ⟨(some 36), .fadr 4 (.t 35), none⟩,
    ⟨(some 37), .ld false 1 (.t 36), none⟩,
    ⟨(some 38), .mov (.t 3), none⟩,
    ⟨(some 39), .iadr 5 (.t 37) (.t 38), none⟩,
    ⟨(some 40), .fadr 2 (.t 39), none⟩,
    ⟨none, .st 1 (.t 40) (.c (.bool true)), none⟩])
    (.seq (.reg [⟨(some 41), .mov (.t 0), none⟩,
    ⟨(some 42), .nilc (.t 41), none⟩,
    ⟨(some 43), .fadr 3 (.t 42), none⟩,
    ⟨none, .st 1 (.t 43) (.c (.int .i64 (-1))), none⟩])
    (.seq (.reg [⟨(some 2), .mov (.c (.int .i64 0)), none⟩])
    (.ret))))))))


/-- unicode/utf8.ValidRune -/
def f_utf8_ValidRune : IFun where
  nargs := 1
  results := [.tmp 2]
  pure := true
  frz := true
  drop := []
  body :=
   .seq (.reg [⟨(some 2), .mov (.c (.bool false)), none⟩])
   (.seq (.block 0 (.seq (.reg [⟨(some 4), .mov (.t 0), none⟩,
    ⟨(some 5), .bin .leq (.c (.int .i32 0)) (.t 4), none⟩,
    ⟨(some 6), .mov (.t 5), none⟩,
    ⟨(some 7), .mov (.t 0), (some (6, true))⟩,
    ⟨(some 8), .bin .lss (.t 7) (.c (.int .i32 55296)), (some (6, true))⟩,
    ⟨(some 9), .pick (.t 6) (.t 8) (.c (.bool false)), none⟩,
    ⟨(some 3), .mov (.t 9), none⟩])
    (.cond (.t 3)
    (.seq (.reg [⟨(some 2), .mov (.c (.bool true)), none⟩])
    (.ret))
    (.seq (.reg [⟨(some 11), .mov (.t 0), none⟩,
    ⟨(some 12), .bin .lss (.c (.int .i32 57343)) (.t 11), none⟩,
    ⟨(some 13), .mov (.t 12), none⟩,
    ⟨(some 14), .mov (.t 0), (some (13, true))⟩,
    ⟨(some 15), .bin .leq (.t 14) (.c (.int .i32 1114111)), (some (13, true))⟩,
    ⟨(some 16), .pick (.t 13) (.t 15) (.c (.bool false)), none⟩,
    ⟨(some 10), .mov (.t 16), none⟩])
    (.cond (.t 10)
    (.seq (.reg [⟨(some 2), .mov (.c (.bool true)), none⟩])
    (.ret))
    (.skip))))))
    (.seq (.reg [⟨(some 2), .mov (.c (.bool false)), none⟩])
    (.ret)))


/-- (*engram/nest.matcher).begin -/
def f_nest_matcher_begin : IFun where
  nargs := 3
  results := [.tmp 6]
  pure := false
  frz := false
  drop := []
  body :=
   .seq (.reg [⟨(some 6), .mov (.c (.bool false)), none⟩])
   (.seq (.reg [⟨(some 7), .mov (.t 0), none⟩,
    ⟨(some 8), .mov (.t 0), none⟩,
    ⟨(some 9), .nilc (.t 8), none⟩,
    ⟨(some 10), .fadr 1 (.t 9), none⟩,
    ⟨(some 11), .ld false 1 (.t 10), none⟩,
    ⟨(some 12), .mov (.t 2), none⟩,
    ⟨(some 13), .mov (.t 1), none⟩,
    ⟨(some 14), .build [.bool false, .int .i64 0, .int .i64 0, .nilsl] [(0, 1, (.t 12)), (1, 1, (.t 13))], none⟩,
    ⟨(some 15), .bslice 4 [.bool false, .int .i64 0, .int .i64 0, .nilsl] 1 [(0, 4, (.t 14))], none⟩,
    ⟨(some 16), .app 4 48 (.t 11) (.t 15), none⟩,
    ⟨(some 17), .nilc (.t 7), none⟩,
    ⟨(some 18), .fadr 1 (.t 17), none⟩,
    ⟨none, .st 1 (.t 18) (.t 16), none⟩])
    (.seq (.reg [⟨(some 19), .mov (.t 0), none⟩,
    ⟨(some 20), .mov (.t 0), none⟩,
    ⟨(some 21), .nilc (.t 20), none⟩,
    ⟨(some 22), .fadr 2 (.t 21), none⟩,
    ⟨(some 23), .ld false 1 (.t 22), none⟩,
    ⟨(some 24), .mov (.t 0), none⟩,
    ⟨(some 25), .nilc (.t 24), none⟩,
    ⟨(some 26), .fadr 1 (.t 25), none⟩,
    ⟨(some 27), .ld false 1 (.t 26), none⟩,
    ⟨(some 28), .len (.t 27), none⟩,
    ⟨(some 29), .mm true (.t 23) (.t 28), none⟩,
    ⟨(some 30), .nilc (.t 19), none⟩,
    ⟨(some 31), .fadr 2 (.t 30), none⟩,
    ⟨none, .st 1 (.t 31) (.t 29), none⟩])
    (.seq (.reg [⟨(some 32), .mov (.t 0), none⟩,
    ⟨(some 33), .nilc (.t 32), none⟩,
    ⟨(some 34), .fadr 1 (.t 33), none⟩,
    ⟨(some 35), .ld false 1 (.t 34), none⟩,
    ⟨(some 36), .len (.t 35), none⟩,
    ⟨(some 37), .bin .leq (.t 36) (.c (.int .i64 16)), none⟩,
    ⟨(some 6), .mov (.t 37), none⟩])
    (.ret))))


/-- (*engram/nest.matcher).other -/
def f_nest_matcher_other : IFun where
  nargs := 2
  results := [.tmp 4]
  pure := false
  frz := false
  drop := []
  body :=
   .seq (.reg [⟨(some 4), .mov (.c (.bool false)), none⟩])
   (.seq (.reg [⟨(some 6), .mov (.t 0), none⟩,
    ⟨(some 7), .call (.c (.fn n_nest_matcher_top [])) [(.t 6)], none⟩,
    ⟨(some 5), .mov (.t 7), none⟩])
    (.seq (.seq (.reg [⟨(some 8), .mov (.t 5), none⟩,
    ⟨(some 9), .eqn 0 false (.t 8), none⟩,
    ⟨(some 10), .mov (.t 9), none⟩,
    ⟨(some 11), .mov (.t 5), (some (10, false))⟩,
    ⟨(some 12), .nilc (.t 11), (some (10, false))⟩,
    ⟨(some 13), .fadr 0 (.t 12), (some (10, false))⟩,
    ⟨(some 14), .ld false 1 (.t 13), (some (10, false))⟩,
    ⟨(some 15), .pick (.t 10) (.c (.bool true)) (.t 14), none⟩,
    ⟨(some 16), .mov (.t 15), none⟩,
    ⟨(some 17), .mov (.t 5), (some (16, false))⟩,
    ⟨(some 18), .nilc (.t 17), (some (16, false))⟩,
    ⟨(some 19), .fadr 2 (.t 18), (some (16, false))⟩,
    ⟨(some 20), .ld false 1 (.t 19), (some (16, false))⟩,
    ⟨(some 21), .bin .gtr (.t 20) (.c (.int .i64 0)), (some (16, false))⟩,
    ⟨(some 22), .pick (.t 16) (.c (.bool true)) (.t 21), none⟩])
    (.cond (.t 22)
    (.seq (.reg [⟨(some 4), .mov (.c (.bool false)), none⟩])
    (.ret))
    (.skip)))
    (.seq (.reg [⟨(some 23), .mov (.t 5), none⟩,
    ⟨(some 24), .mov (.t 1), none⟩,
    ⟨(some 25), .nilc (.t 23), none⟩,
    ⟨(some 26), .fadr 2 (.t 25), none⟩,
    ⟨none, .st 1 (.t 26) (.t 24), none⟩])
    (.seq (.reg [⟨(some 27), .mov (.t 0), none⟩,
    ⟨(some 28), .nilc (.t 27), none⟩,
    ⟨(some 29), .fadr 0 (.t 28), none⟩,
    ⟨(some 30), .ld false 1 (.t 29), none⟩,
    ⟨(some 31), .mov (.t 5), none⟩,
    ⟨(some 32), .nilc (.t 31), none⟩,
    ⟨(some 33), .fadr 1 (.t 32), none⟩,
    ⟨(some 34), .ld false 1 (.t 33), none⟩,
    ⟨(some 35), .mov (.t 1), none⟩,
    ⟨(some 36), .bin .add (.t 35) (.c (.int .i64 1)), none⟩,
    ⟨(some 37), .iadr 1 (.t 30) (.t 34), none⟩,
    ⟨none, .st 1 (.t 37) (.t 36), none⟩])
    (.seq (.reg [⟨(some 4), .mov (.c (.bool true)), none⟩])
    (.ret))))))


/-- (*engram/nest.matcher).endIf -/
def f_nest_matcher_endIf : IFun where
  nargs := 2
  results := [.tmp 4]
  pure := false
  frz := false
  drop := []
  body :=
   .seq (.reg [⟨(some 4), .mov (.c (.bool false)), none⟩])
   (.seq (.reg [⟨(some 6), .mov (.t 0), none⟩,
    ⟨(some 7), .call (.c (.fn n_nest_matcher_top [])) [(.t 6)], none⟩,
    ⟨(some 5), .mov (.t 7), none⟩])
    (.seq (.seq (.reg [⟨(some 8), .mov (.t 5), none⟩,
    ⟨(some 9), .eqn 0 false (.t 8), none⟩,
    ⟨(some 10), .mov (.t 9), none⟩,
    ⟨(some 11), .mov (.t 5), (some (10, false))⟩,
    ⟨(some 12), .nilc (.t 11), (some (10, false))⟩,
    ⟨(some 13), .fadr 0 (.t 12), (some (10, false))⟩,
    ⟨(some 14), .ld false 1 (.t 13), (some (10, false))⟩,
    ⟨(some 15), .pick (.t 10) (.c (.bool true)) (.t 14), none⟩])
    (.cond (.t 15)
    (.seq (.reg [⟨(some 4), .mov (.c (.bool false)), none⟩])
    (.ret))
    (.skip)))
    (.seq (.seq (.reg [⟨(some 16), .mov (.t 5), none⟩,
    ⟨(some 17), .nilc (.t 16), none⟩,
    ⟨(some 18), .fadr 2 (.t 17), none⟩,
    ⟨(some 19), .ld false 1 (.t 18), none⟩,
    ⟨(some 20), .bin .gtr (.t 19) (.c (.int .i64 0)), none⟩])
    (.cond (.t 20)
    (.reg [⟨(some 21), .mov (.t 0), none⟩,
    ⟨(some 22), .nilc (.t 21), none⟩,
    ⟨(some 23), .fadr 0 (.t 22), none⟩,
    ⟨(some 24), .ld false 1 (.t 23), none⟩,
    ⟨(some 25), .mov (.t 5), none⟩,
    ⟨(some 26), .nilc (.t 25), none⟩,
    ⟨(some 27), .fadr 2 (.t 26), none⟩,
    ⟨(some 28), .ld false 1 (.t 27), none⟩,
    ⟨(some 29), .mov (.t 1), none⟩,
    ⟨(some 30), .iadr 1 (.t 24) (.t 28), none⟩,
    ⟨none, .st 1 (.t 30) (.t 29), none⟩])
    (.reg [⟨(some 31), .mov (.t 0), none⟩,
    ⟨(some 32), .nilc (.t 31), none⟩,
    ⟨(some 33), .fadr 0 (.t 32), none⟩,
    ⟨(some 34), .ld false 1 (.t 33), none⟩,
    ⟨(some 35), .mov (.t 5), none⟩,
    ⟨(some 36), .nilc (.t 35), none⟩,
    ⟨(some 37), .fadr 1 (.t 36), none⟩,
    ⟨(some 38), .ld false 1 (.t 37), none⟩,
    ⟨(some 39), .mov (.t 1), none⟩,
    ⟨(some 40), .iadr 1 (.t 34) (.t 38), none⟩,
    ⟨none, .st 1 (.t 40) (.t 39), none⟩])))
    (.seq (.reg [⟨(some 41), .mov (.t 0), none⟩,
    ⟨(some 42), .mov (.t 0), none⟩,
    ⟨(some 43), .nilc (.t 42), none⟩,
    ⟨(some 44), .fadr 1 (.t 43), none⟩,
    ⟨(some 45), .ld false 1 (.t 44), none⟩,
    ⟨(some 46), .mov (.t 0), none⟩,
    ⟨(some 47), .nilc (.t 46), none⟩,
    ⟨(some 48), .fadr 1 (.t 47), none⟩,
    ⟨(some 49), .ld false 1 (.t 48), none⟩,
    ⟨(some 50), .len (.t 49), none⟩,
    ⟨(some 51), .bin .sub (.t 50) (.c (.int .i64 1)), none⟩,
    ⟨(some 52), .slc 4 (.t 45) none (some (.t 51)) none, none⟩,
    ⟨(some 53), .nilc (.t 41), none⟩,
    ⟨(some 54), .fadr 1 (.t 53), none⟩,
    ⟨none, .st 1 (.t 54) (.t 52), none⟩])
    (.seq (.reg [⟨(some 4), .mov (.c (.bool true)), none⟩])
    (.ret))))))

def l0_nest_matcher_endLoop : IC :=
  .seq (.reg [⟨(some 35), .bin .lss (.t 34) (.t 33), none⟩])
  (.seq (.cond (.t 35)
    (.skip)
    (.exit 0))
   (.seq (.block 1 (.seq (.reg [⟨(some 36), .iadr 1 (.t 32) (.t 34), none⟩,
    ⟨(some 37), .ld false 1 (.t 36), none⟩,
    ⟨(some 7), .mov (.t 37), none⟩])
    (.reg [⟨(some 38), .mov (.t 0), none⟩,
    ⟨(some 39), .nilc (.t 38), none⟩,
    ⟨(some 40), .fadr 0 (.t 39), none⟩,
    ⟨(some 41), .ld false 1 (.t 40), none⟩,
    ⟨(some 42), .mov (.t 7), none⟩,
    ⟨(some 43), .mov (.t 1), none⟩,
    ⟨(some 44), .bin .add (.t 43) (.c (.int .i64 1)), none⟩,
    ⟨(some 45), .iadr 1 (.t 41) (.t 42), none⟩,
    ⟨none, .st 1 (.t 45) (.t 44), none⟩])))
    (.reg [⟨(some 46), .bin .add (.t 34) (.c (.int .i64 1)), none⟩,
    ⟨(some 34), .mov (.t 46), none⟩])))
/-- (*engram/nest.matcher).endLoop -/
def f_nest_matcher_endLoop : IFun where
  nargs := 2
  results := [.tmp 4]
  pure := false
  frz := false
  drop := []
  body :=
   .seq (.reg [⟨(some 4), .mov (.c (.bool false)), none⟩])
   (.seq (.reg [⟨(some 8), .mov (.t 0), none⟩,
    ⟨(some 9), .call (.c (.fn n_nest_matcher_top [])) [(.t 8)], none⟩,
    ⟨(some 5), .mov (.t 9), none⟩])
    (.seq (.seq (.reg [⟨(some 10), .mov (.t 5), none⟩,
    ⟨(some 11), .eqn 0 false (.t 10), none⟩,
    ⟨(some 12), .mov (.t 11), none⟩,
    ⟨(some 13), .mov (.t 5), (some (12, false))⟩,
    ⟨(some 14), .nilc (.t 13), (some (12, false))⟩,
    ⟨(some 15), .fadr 0 (.t 14), (some (12, false))⟩,
    ⟨(some 16), .ld false 1 (.t 15), (some (12, false))⟩,
    ⟨(some 17), .un .not (.t 16), (some (12, false))⟩,
    ⟨(some 18), .pick (.t 12) (.c (.bool true)) (.t 17), none⟩])
    (.cond (.t 18)
    (.seq (.reg [⟨(some 4), .mov (.c (.bool false)), none⟩])
    (.ret))
    (.skip)))
    (.seq (.reg [⟨(some 19), .mov (.t 0), none⟩,
    ⟨(some 20), .nilc (.t 19), none⟩,
    ⟨(some 21), .fadr 0 (.t 20), none⟩,
    ⟨(some 22), .ld false 1 (.t 21), none⟩,
    ⟨(some 23), .mov (.t 1), none⟩,
    ⟨(some 24), .mov (.t 5), none⟩,
    ⟨(some 25), .nilc (.t 24), none⟩,
    ⟨(some 26), .fadr 1 (.t 25), none⟩,
    ⟨(some 27), .ld false 1 (.t 26), none⟩,
    ⟨(some 28), .iadr 1 (.t 22) (.t 23), none⟩,
    ⟨none, .st 1 (.t 28) (.t 27), none⟩])
    (.seq (.seq (.reg [⟨(some 29), .mov (.t 5), none⟩,
    ⟨(some 30), .nilc (.t 29), none⟩,
    ⟨(some 31), .fadr 3 (.t 30), none⟩,
    ⟨(some 32), .ld false 1 (.t 31), none⟩,
    ⟨(some 33), .len (.t 32), none⟩,
    ⟨(some 34), .mov (.c (.int .i64 0)), none⟩])
    (.block 0 (.loopK [0, 1, 32, 33, 34] l0_nest_matcher_endLoop)))
    (.keep [0] (.seq (.reg [⟨(some 47), .mov (.t 0), none⟩,
    ⟨(some 48), .mov (.t 0), none⟩,
    ⟨(some 49), .nilc (.t 48), none⟩,
    ⟨(some 50), .fadr 1 (.t 49), none⟩,
    ⟨(some 51), .ld false 1 (.t 50), none⟩,
    ⟨(some 52), .mov (.t 0), none⟩,
    ⟨(some 53), .nilc (.t 52), none⟩,
    ⟨(some 54), .fadr 1 (.t 53), none⟩,
    ⟨(some 55), .ld false 1 (.t 54), none⟩,
    ⟨(some 56), .len (.t 55), none⟩,
    ⟨(some 57), .bin .sub (.t 56) (.c (.int .i64 1)), none⟩,
    ⟨(some 58), .slc 4 (.t 51) none (some (.t 57)) none, none⟩,
    ⟨(some 59), .nilc (.t 47), none⟩,
    ⟨(some 60), .fadr 1 (.t 59), none⟩,
    ⟨none, .st 1 (.t 60) (.t 58), none⟩])
    (.seq (.reg [⟨(some 4), .mov (.c (.bool true)), none⟩])
    (.ret))))))))

def l0_nest_matcher_leave : IC :=
  .seq (.seq (.reg [⟨(some 12), .mov (.t 5), none⟩,
    ⟨(some 13), .bin .geq (.t 12) (.c (.int .i64 0)), none⟩])
   (.cond (.t 13)
    (.skip)
    (.exit 0)))
  (.seq (.block 1 (.seq (.reg [⟨(some 16), .mov (.t 0), none⟩,
    ⟨(some 17), .nilc (.t 16), none⟩,
    ⟨(some 18), .fadr 1 (.t 17), none⟩,
    ⟨(some 19), .ld false 1 (.t 18), none⟩,
    ⟨(some 20), .mov (.t 5), none⟩,
    ⟨(some 21), .iadr 4 (.t 19) (.t 20), none⟩,
    ⟨(some 22), .fadr 0 (.t 21), none⟩,
    ⟨(some 23), .ld false 1 (.t 22), none⟩])
    (.cond (.t 23)
    (.seq (.regW [⟨(some 24), .mov (.t 0), none⟩,
    ⟨(some 25), .nilc (.t 24), none⟩,
    ⟨(some 26), .fadr 1 (.t 25), none⟩,
    ⟨(some 27), .ld false 1 (.t 26), none⟩,
    ⟨(some 28), .mov (.t 5), none⟩,
    ⟨(some 29), .mov (.t 0), none⟩,
    ⟨(some 30), .nilc (.t 29), none⟩,
    ⟨(some 31), .fadr 1 (.t 30), none⟩,
    ⟨(some 32), .ld false 1 (.t 31), none⟩,
    ⟨(some 33), .mov (.t 5), none⟩,
    ⟨(some 34), .iadr 4 (.t 32) (.t 33), none⟩,
    ⟨(some 35), .fadr 3 (.t 34), none⟩,
    ⟨(some 36), .ld false 1 (.t 35), none⟩,
    ⟨(some 37), .mov (.t 1), none⟩,
    ⟨(some 38), .bslice 1 [.int .i64 0] 1 [(0, 1, (.t 37))], none⟩,
    ⟨(some 39), .app 1 8 (.t 36) (.t 38), none⟩,
    ⟨(some 40), .iadr 4 (.t 27) (.t 28), none⟩,
    ⟨(some 41), .fadr 3 (.t 40), none⟩,
    ⟨none, .st 1 (.t 41) (.t 39), none⟩] [(3, 15), (3, 18), (8, 15), (12, 15)])
    (.seq (.reg [⟨(some 4), .mov (.c (.bool true)), none⟩])
    (.ret)))
    (.skip))))
   (.reg [⟨(some 14), .mov (.t 5), none⟩,
    ⟨(some 15), .bin .sub (.t 14) (.c (.int .i64 1)), none⟩,
    ⟨(some 5), .mov (.t 15), none⟩]))
/-- (*engram/nest.matcher).leave -/
def f_nest_matcher_leave : IFun where
  nargs := 2
  results := [.tmp 4]
  pure := false
  frz := false
  drop := []
  body :=
   .seq (.reg [⟨(some 4), .mov (.c (.bool false)), none⟩])
   (.seq (.seq (.reg [⟨(some 6), .mov (.t 0), none⟩,
    ⟨(some 7), .nilc (.t 6), none⟩,
    ⟨(some 8), .fadr 1 (.t 7), none⟩,
    ⟨(some 9), .ld false 1 (.t 8), none⟩,
    ⟨(some 10), .len (.t 9), none⟩,
    ⟨(some 11), .bin .sub (.t 10) (.c (.int .i64 1)), none⟩,
    ⟨(some 5), .mov (.t 11), none⟩])
    (.block 0 (.loopK [0, 1, 5] l0_nest_matcher_leave)))
    (.keep [] (.seq (.reg [⟨(some 4), .mov (.c (.bool false)), none⟩])
    (.ret))))


/-- (*engram/check.judge).pop -/
def f_check_judge_pop : IFun where
  nargs := 1
  results := [.cell 2 true 5]
  pure := false
  frz := false
  drop := []
  body :=
   .seq (.reg [⟨(some 2), .alloc [.bool false, .bool false, .bool false, .int .i64 0, .int .i64 0], none⟩])
   (.seq (.regW [⟨(some 4), .mov (.t 0), none⟩,
    ⟨(some 5), .nilc (.t 4), none⟩,
    ⟨(some 6), .fadr 4 (.t 5), none⟩,
    ⟨(some 7), .ld false 1 (.t 6), none⟩,
    ⟨(some 8), .mov (.t 0), none⟩,
    ⟨(some 9), .nilc (.t 8), none⟩,
    ⟨(some 10), .fadr 4 (.t 9), none⟩,
    ⟨(some 11), .ld false 1 (.t 10), none⟩,
    ⟨(some 12), .len (.t 11), none⟩,
    ⟨(some 13), .bin .sub (.t 12) (.c (.int .i64 1)), none⟩,
    ⟨(some 14), .iadr 5 (.t 7) (.t 13), none⟩,
    ⟨(some 15), .ld true 5 (.t 14), none⟩,
    ⟨(some 3), .alloc [.bool false, .bool false, .bool false, .int .i64 0, .int .i64 0], none⟩,
    ⟨none, .st 5 (.t 3) (.t 15), none⟩] [(3, 13), (7, 13), (11, 13)])
    (.seq (.reg [⟨(some 16), .mov (.t 0), none⟩,
    ⟨(some 17), .mov (.t 0), none⟩,
    ⟨(some 18), .nilc (.t 17), none⟩,
    ⟨(some 19), .fadr 4 (.t 18), none⟩,
    ⟨(some 20), .ld false 1 (.t 19), none⟩,
    ⟨(some 21), .mov (.t 0), none⟩,
    ⟨(some 22), .nilc (.t 21), none⟩,
    ⟨(some 23), .fadr 4 (.t 22), none⟩,
    ⟨(some 24), .ld false 1 (.t 23), none⟩,
    ⟨(some 25), .len (.t 24), none⟩,
    ⟨(some 26), .bin .sub (.t 25) (.c (.int .i64 1)), none⟩,
    ⟨(some 27), .slc 5 (.t 20) none (some (.t 26)) none, none⟩,
    ⟨(some 28), .nilc (.t 16), none⟩,
    ⟨(some 29), .fadr 4 (.t 28), none⟩,
    ⟨none, .st 1 (.t 29) (.t 27), none⟩])
    (.seq (.reg [⟨(some 30), .ld true 5 (.t 3), none⟩,
    ⟨none, .st 5 (.t 2) (.t 30), none⟩])
    (.ret))))


/-- (*engram/nest.matcher).top -/
def f_nest_matcher_top : IFun where
  nargs := 1
  results := [.tmp 2]
  pure := false
  frz := false
  drop := []
  body :=
   .seq (.reg [⟨(some 2), .mov (.c (.nilptr)), none⟩])
   (.seq (.seq (.reg [⟨(some 3), .mov (.t 0), none⟩,
    ⟨(some 4), .nilc (.t 3), none⟩,
    ⟨(some 5), .fadr 1 (.t 4), none⟩,
    ⟨(some 6), .ld false 1 (.t 5), none⟩,
    ⟨(some 7), .len (.t 6), none⟩,
    ⟨(some 8), .bin .eql (.t 7) (.c (.int .i64 0)), none⟩])
    (.cond (.t 8)
    (.seq (.reg [⟨(some 2), .mov (.c (.nilptr)), none⟩])
    (.ret))
    (.skip)))
    (.seq (.reg [⟨(some 9), .mov (.t 0), none⟩,
    ⟨(some 10), .nilc (.t 9), none⟩,
    ⟨(some 11), .fadr 1 (.t 10), none⟩,
    ⟨(some 12), .ld false 1 (.t 11), none⟩,
    ⟨(some 13), .mov (.t 0), none⟩,
    ⟨(some 14), .nilc (.t 13), none⟩,
    ⟨(some 15), .fadr 1 (.t 14), none⟩,
    ⟨(some 16), .ld false 1 (.t 15), none⟩,
    ⟨(some 17), .len (.t 16), none⟩,
    ⟨(some 18), .bin .sub (.t 17) (.c (.int .i64 1)), none⟩,
    ⟨(some 19), .iadr 4 (.t 12) (.t 18), none⟩,
    ⟨(some 2), .mov (.t 19), none⟩])
    (.ret)))

end Go.Ev
