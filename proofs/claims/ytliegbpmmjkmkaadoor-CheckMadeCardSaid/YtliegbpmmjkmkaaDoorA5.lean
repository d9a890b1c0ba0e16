/- The texts are those of the program, and strconv.ParseInt is as its contract says; nothing is assumed. -/
import Derived.Test.YtliegbpmmjkmkaaDoorProg
import Derived.Lib.ParseIntB
import Derived.Shelf.Strconv.ParseIntPublic10
import Derived.Below
import Derived.LaidLaws
import Derived.RowKit
import Derived.RowKitTokens
import Derived.MakeChecks
import Derived.Test.YtliegbpmmjkmkaaDoorA4
set_option linter.unusedSimpArgs false
set_option linter.unusedVariables false
set_option linter.all false
namespace Go.Ev
open Go
def tbl : List (Nat × IFun) := [
  (n_engramlaw9_CheckNumbers, f_engramlaw9_CheckNumbers),
  (n_engramlaw9_CheckTells, f_engramlaw9_CheckTells),
  (n_engramlaw9_CheckHeights, f_engramlaw9_CheckHeights),
  (n_engramlaw9_CheckMade, f_engramlaw9_CheckMade),
  (n_engramlaw9_same, f_engramlaw9_same),
  (n_engramlaw9_one, f_engramlaw9_one),
  (n_engramlaw9_tail, f_engramlaw9_tail),
  (n_engramlaw9_takes, f_engramlaw9_takes),
  (n_engramlaw9_known, f_engramlaw9_known),
  (n_engramkeep_Unit, f_engramkeep_Unit),
  (n_engramkeep_Odd, f_engramkeep_Odd),
  (n_check_Func, f_check_Func),
  (n_engramref9_Tokens, f_engramref9_Tokens),
  (n_check_Takes, f_check_Takes),
  (n_engramref9_Func, f_engramref9_Func),
  (n_engrambook_Same_int, f_engrambook_Same_int),
  (n_engramref9_Takes, f_engramref9_Takes),
  (n_check_Find, f_check_Find),
  (n_engramref9_Find, f_engramref9_Find),
  (n_engramkeep_Tape_Next, f_engramkeep_Tape_Next),
  (n_engramkeep_Names, f_engramkeep_Names),
  (n_engramkeep_Tape_deed, f_engramkeep_Tape_deed),
  (n_engramkeep_halts, f_engramkeep_halts),
  (n_engramkeep_Tape_value, f_engramkeep_Tape_value),
  (n_engramkeep_odd, f_engramkeep_odd),
  (n_glyph_Tokens, f_glyph_Tokens),
  (n_nest_Of, f_nest_Of),
  (n_check_judge_token, f_check_judge_token),
  (n_engramref9_runes, f_engramref9_runes),
  (n_engramref9_Name, f_engramref9_Name),
  (n_engramref9_Known, f_engramref9_Known),
  (n_check_Takes_1, f_check_Takes_1),
  (n_check_hasRune, f_check_hasRune),
  (n_engramref9_Nest, f_engramref9_Nest),
  (n_engramref9_state_token, f_engramref9_state_token),
  (n_engramref9_has, f_engramref9_has),
  (n_slices_IndexFunc_api_Func_api_Func, f_slices_IndexFunc_api_Func_api_Func),
  (n_check_Find_1, f_check_Find_1),
  (n_engrambook_Within, f_engrambook_Within),
  (n_engramkeep_digits, f_engramkeep_digits),
  (n_engramkeep_live, f_engramkeep_live),
  (n_engramkeep_at, f_engramkeep_at),
  (n_glyph_reader_rune, f_glyph_reader_rune),
  (n_glyph_reader_number, f_glyph_reader_number),
  (n_glyph_reader_waits, f_glyph_reader_waits),
  (n_nest_match, f_nest_match),
  (n_check_judge_base, f_check_judge_base),
  (n_check_judge_turn, f_check_judge_turn),
  (n_engramref9_leaves, f_engramref9_leaves),
  (n_engramref9_state_ends, f_engramref9_state_ends),
  (n_engramref9_state_base, f_engramref9_state_base),
  (n_engramref9_state_leave, f_engramref9_state_leave),
  (n_glyph_Name, f_glyph_Name),
  (n_glyph_within, f_glyph_within),
  (n_glyph_Known, f_glyph_Known),
  (n_glyph_named, f_glyph_named),
  (n_nest_matcher_token, f_nest_matcher_token),
  (n_check_judge_endIf, f_check_judge_endIf),
  (n_check_judge_endLoop, f_check_judge_endLoop),
  (n_check_judge_leave, f_check_judge_leave),
  (n_utf8_ValidRune, f_utf8_ValidRune),
  (n_nest_matcher_begin, f_nest_matcher_begin),
  (n_nest_matcher_other, f_nest_matcher_other),
  (n_nest_matcher_endIf, f_nest_matcher_endIf),
  (n_nest_matcher_endLoop, f_nest_matcher_endLoop),
  (n_nest_matcher_leave, f_nest_matcher_leave),
  (n_check_judge_pop, f_check_judge_pop),
  (n_nest_matcher_top, f_nest_matcher_top)]
def Gl : Glob := fun g => if g == g_strconv_ErrRange || g == g_strconv_ErrSyntax then some [.ifc t_Perrors_errorString (.fptr [] 0)] else none
def tb (f : Nat) : Option IFun := match tbl.find? (fun x => x.1 == f) with | some x => some x.2 | none => none
def puP (f : Nat) : Bool := f == n_strconv_ParseInt
def pu (f : Nat) : Bool := match tb f with | some F => F.pure | none => puP f
theorem tb_engramlaw9_CheckNumbers : tb n_engramlaw9_CheckNumbers = some f_engramlaw9_CheckNumbers := rfl
theorem tb_engramlaw9_CheckTells : tb n_engramlaw9_CheckTells = some f_engramlaw9_CheckTells := rfl
theorem tb_engramlaw9_CheckHeights : tb n_engramlaw9_CheckHeights = some f_engramlaw9_CheckHeights := rfl
theorem tb_engramlaw9_CheckMade : tb n_engramlaw9_CheckMade = some f_engramlaw9_CheckMade := rfl
theorem tb_engramlaw9_same : tb n_engramlaw9_same = some f_engramlaw9_same := rfl
theorem tb_engramlaw9_one : tb n_engramlaw9_one = some f_engramlaw9_one := rfl
theorem tb_engramlaw9_tail : tb n_engramlaw9_tail = some f_engramlaw9_tail := rfl
theorem tb_engramlaw9_takes : tb n_engramlaw9_takes = some f_engramlaw9_takes := rfl
theorem tb_engramlaw9_known : tb n_engramlaw9_known = some f_engramlaw9_known := rfl
theorem tb_engramkeep_Unit : tb n_engramkeep_Unit = some f_engramkeep_Unit := rfl
theorem tb_engramkeep_Odd : tb n_engramkeep_Odd = some f_engramkeep_Odd := rfl
theorem tb_check_Func : tb n_check_Func = some f_check_Func := rfl
theorem tb_engramref9_Tokens : tb n_engramref9_Tokens = some f_engramref9_Tokens := rfl
theorem tb_check_Takes : tb n_check_Takes = some f_check_Takes := rfl
theorem tb_engramref9_Func : tb n_engramref9_Func = some f_engramref9_Func := rfl
theorem tb_engrambook_Same_int : tb n_engrambook_Same_int = some f_engrambook_Same_int := rfl
theorem tb_engramref9_Takes : tb n_engramref9_Takes = some f_engramref9_Takes := rfl
theorem tb_check_Find : tb n_check_Find = some f_check_Find := rfl
theorem tb_engramref9_Find : tb n_engramref9_Find = some f_engramref9_Find := rfl
theorem tb_engramkeep_Tape_Next : tb n_engramkeep_Tape_Next = some f_engramkeep_Tape_Next := rfl
theorem tb_engramkeep_Names : tb n_engramkeep_Names = some f_engramkeep_Names := rfl
theorem tb_engramkeep_Tape_deed : tb n_engramkeep_Tape_deed = some f_engramkeep_Tape_deed := rfl
theorem tb_engramkeep_halts : tb n_engramkeep_halts = some f_engramkeep_halts := rfl
theorem tb_engramkeep_Tape_value : tb n_engramkeep_Tape_value = some f_engramkeep_Tape_value := rfl
theorem tb_engramkeep_odd : tb n_engramkeep_odd = some f_engramkeep_odd := rfl
theorem tb_glyph_Tokens : tb n_glyph_Tokens = some f_glyph_Tokens := rfl
theorem tb_nest_Of : tb n_nest_Of = some f_nest_Of := rfl
theorem tb_check_judge_token : tb n_check_judge_token = some f_check_judge_token := rfl
theorem tb_engramref9_runes : tb n_engramref9_runes = some f_engramref9_runes := rfl
theorem tb_engramref9_Name : tb n_engramref9_Name = some f_engramref9_Name := rfl
theorem tb_engramref9_Known : tb n_engramref9_Known = some f_engramref9_Known := rfl
theorem tb_check_Takes_1 : tb n_check_Takes_1 = some f_check_Takes_1 := rfl
theorem tb_check_hasRune : tb n_check_hasRune = some f_check_hasRune := rfl
theorem tb_engramref9_Nest : tb n_engramref9_Nest = some f_engramref9_Nest := rfl
theorem tb_engramref9_state_token : tb n_engramref9_state_token = some f_engramref9_state_token := rfl
theorem tb_engramref9_has : tb n_engramref9_has = some f_engramref9_has := rfl
theorem tb_slices_IndexFunc_api_Func_api_Func : tb n_slices_IndexFunc_api_Func_api_Func = some f_slices_IndexFunc_api_Func_api_Func := rfl
theorem tb_check_Find_1 : tb n_check_Find_1 = some f_check_Find_1 := rfl
theorem tb_engrambook_Within : tb n_engrambook_Within = some f_engrambook_Within := rfl
theorem tb_engramkeep_digits : tb n_engramkeep_digits = some f_engramkeep_digits := rfl
theorem tb_engramkeep_live : tb n_engramkeep_live = some f_engramkeep_live := rfl
theorem tb_engramkeep_at : tb n_engramkeep_at = some f_engramkeep_at := rfl
theorem tb_glyph_reader_rune : tb n_glyph_reader_rune = some f_glyph_reader_rune := rfl
theorem tb_glyph_reader_number : tb n_glyph_reader_number = some f_glyph_reader_number := rfl
theorem tb_glyph_reader_waits : tb n_glyph_reader_waits = some f_glyph_reader_waits := rfl
theorem tb_nest_match : tb n_nest_match = some f_nest_match := rfl
theorem tb_check_judge_base : tb n_check_judge_base = some f_check_judge_base := rfl
theorem tb_check_judge_turn : tb n_check_judge_turn = some f_check_judge_turn := rfl
theorem tb_engramref9_leaves : tb n_engramref9_leaves = some f_engramref9_leaves := rfl
theorem tb_engramref9_state_ends : tb n_engramref9_state_ends = some f_engramref9_state_ends := rfl
theorem tb_engramref9_state_base : tb n_engramref9_state_base = some f_engramref9_state_base := rfl
theorem tb_engramref9_state_leave : tb n_engramref9_state_leave = some f_engramref9_state_leave := rfl
theorem tb_glyph_Name : tb n_glyph_Name = some f_glyph_Name := rfl
theorem tb_glyph_within : tb n_glyph_within = some f_glyph_within := rfl
theorem tb_glyph_Known : tb n_glyph_Known = some f_glyph_Known := rfl
theorem tb_glyph_named : tb n_glyph_named = some f_glyph_named := rfl
theorem tb_nest_matcher_token : tb n_nest_matcher_token = some f_nest_matcher_token := rfl
theorem tb_check_judge_endIf : tb n_check_judge_endIf = some f_check_judge_endIf := rfl
theorem tb_check_judge_endLoop : tb n_check_judge_endLoop = some f_check_judge_endLoop := rfl
theorem tb_check_judge_leave : tb n_check_judge_leave = some f_check_judge_leave := rfl
theorem tb_utf8_ValidRune : tb n_utf8_ValidRune = some f_utf8_ValidRune := rfl
theorem tb_nest_matcher_begin : tb n_nest_matcher_begin = some f_nest_matcher_begin := rfl
theorem tb_nest_matcher_other : tb n_nest_matcher_other = some f_nest_matcher_other := rfl
theorem tb_nest_matcher_endIf : tb n_nest_matcher_endIf = some f_nest_matcher_endIf := rfl
theorem tb_nest_matcher_endLoop : tb n_nest_matcher_endLoop = some f_nest_matcher_endLoop := rfl
theorem tb_nest_matcher_leave : tb n_nest_matcher_leave = some f_nest_matcher_leave := rfl
theorem tb_check_judge_pop : tb n_check_judge_pop = some f_check_judge_pop := rfl
theorem tb_nest_matcher_top : tb n_nest_matcher_top = some f_nest_matcher_top := rfl
theorem tb_strconv_ParseInt : tb n_strconv_ParseInt = none := rfl
end Go.Ev
namespace Go.Ev
open Go Go.Proofs
theorem ok_engramlaw9_CheckNumbers : FunOk Tryd.prog Gl pu n_engramlaw9_CheckNumbers f_engramlaw9_CheckNumbers := .of Tryd.func3 (by kernel_rfl) (by kernel_rfl) (by kernel_rfl) (by kernel_rfl)
theorem ok_engramlaw9_CheckTells : FunOk Tryd.prog Gl pu n_engramlaw9_CheckTells f_engramlaw9_CheckTells := .of Tryd.func4 (by kernel_rfl) (by kernel_rfl) (by kernel_rfl) (by kernel_rfl)
theorem ok_engramlaw9_CheckHeights : FunOk Tryd.prog Gl pu n_engramlaw9_CheckHeights f_engramlaw9_CheckHeights := .of Tryd.func5 (by kernel_rfl) (by kernel_rfl) (by kernel_rfl) (by kernel_rfl)
theorem ok_engramlaw9_CheckMade : FunOk Tryd.prog Gl pu n_engramlaw9_CheckMade f_engramlaw9_CheckMade := .of Tryd.func6 (by kernel_rfl) (by kernel_rfl) (by kernel_rfl) (by kernel_rfl)
theorem ok_engramlaw9_same : FunOk Tryd.prog Gl pu n_engramlaw9_same f_engramlaw9_same := .of Tryd.func7 (by kernel_rfl) (by kernel_rfl) (by kernel_rfl) (by kernel_rfl)
theorem ok_engramlaw9_one : FunOk Tryd.prog Gl pu n_engramlaw9_one f_engramlaw9_one := .of Tryd.func8 (by kernel_rfl) (by kernel_rfl) (by kernel_rfl) (by kernel_rfl)
theorem ok_engramlaw9_tail : FunOk Tryd.prog Gl pu n_engramlaw9_tail f_engramlaw9_tail := .of Tryd.func9 (by kernel_rfl) (by kernel_rfl) (by kernel_rfl) (by kernel_rfl)
theorem ok_engramlaw9_takes : FunOk Tryd.prog Gl pu n_engramlaw9_takes f_engramlaw9_takes := .of Tryd.func10 (by kernel_rfl) (by kernel_rfl) (by kernel_rfl) (by kernel_rfl)
theorem ok_engramlaw9_known : FunOk Tryd.prog Gl pu n_engramlaw9_known f_engramlaw9_known := .of Tryd.func11 (by kernel_rfl) (by kernel_rfl) (by kernel_rfl) (by kernel_rfl)
theorem ok_engramkeep_Unit : FunOk Tryd.prog Gl pu n_engramkeep_Unit f_engramkeep_Unit := .of Tryd.func12 (by kernel_rfl) (by kernel_rfl) (by kernel_rfl) (by kernel_rfl)
theorem ok_engramkeep_Odd : FunOk Tryd.prog Gl pu n_engramkeep_Odd f_engramkeep_Odd := .of Tryd.func13 (by kernel_rfl) (by kernel_rfl) (by kernel_rfl) (by kernel_rfl)
theorem ok_check_Func : FunOk Tryd.prog Gl pu n_check_Func f_check_Func := .of Tryd.func14 (by kernel_rfl) (by kernel_rfl) (by kernel_rfl) (by kernel_rfl)
theorem ok_engramref9_Tokens : FunOk Tryd.prog Gl pu n_engramref9_Tokens f_engramref9_Tokens := .of Tryd.func15 (by kernel_rfl) (by kernel_rfl) (by kernel_rfl) (by kernel_rfl)
theorem ok_check_Takes : FunOk Tryd.prog Gl pu n_check_Takes f_check_Takes := .of Tryd.func16 (by kernel_rfl) (by kernel_rfl) (by kernel_rfl) (by kernel_rfl)
theorem ok_engramref9_Func : FunOk Tryd.prog Gl pu n_engramref9_Func f_engramref9_Func := .of Tryd.func17 (by kernel_rfl) (by kernel_rfl) (by kernel_rfl) (by kernel_rfl)
theorem ok_engrambook_Same_int : FunOk Tryd.prog Gl pu n_engrambook_Same_int f_engrambook_Same_int := .of Tryd.func18 (by kernel_rfl) (by kernel_rfl) (by kernel_rfl) (by kernel_rfl)
theorem ok_engramref9_Takes : FunOk Tryd.prog Gl pu n_engramref9_Takes f_engramref9_Takes := .of Tryd.func19 (by kernel_rfl) (by kernel_rfl) (by kernel_rfl) (by kernel_rfl)
theorem ok_check_Find : FunOk Tryd.prog Gl pu n_check_Find f_check_Find := .of Tryd.func20 (by kernel_rfl) (by kernel_rfl) (by kernel_rfl) (by kernel_rfl)
theorem ok_engramref9_Find : FunOk Tryd.prog Gl pu n_engramref9_Find f_engramref9_Find := .of Tryd.func21 (by kernel_rfl) (by kernel_rfl) (by kernel_rfl) (by kernel_rfl)
theorem ok_engramkeep_Tape_Next : FunOk Tryd.prog Gl pu n_engramkeep_Tape_Next f_engramkeep_Tape_Next := .of Tryd.func22 (by kernel_rfl) (by kernel_rfl) (by kernel_rfl) (by kernel_rfl)
theorem ok_engramkeep_Names : FunOk Tryd.prog Gl pu n_engramkeep_Names f_engramkeep_Names := .of Tryd.func23 (by kernel_rfl) (by kernel_rfl) (by kernel_rfl) (by kernel_rfl)
theorem ok_engramkeep_Tape_deed : FunOk Tryd.prog Gl pu n_engramkeep_Tape_deed f_engramkeep_Tape_deed := .of Tryd.func24 (by kernel_rfl) (by kernel_rfl) (by kernel_rfl) (by kernel_rfl)
theorem ok_engramkeep_halts : FunOk Tryd.prog Gl pu n_engramkeep_halts f_engramkeep_halts := .of Tryd.func25 (by kernel_rfl) (by kernel_rfl) (by kernel_rfl) (by kernel_rfl)
theorem ok_engramkeep_Tape_value : FunOk Tryd.prog Gl pu n_engramkeep_Tape_value f_engramkeep_Tape_value := .of Tryd.func26 (by kernel_rfl) (by kernel_rfl) (by kernel_rfl) (by kernel_rfl)
theorem ok_engramkeep_odd : FunOk Tryd.prog Gl pu n_engramkeep_odd f_engramkeep_odd := .of Tryd.func27 (by kernel_rfl) (by kernel_rfl) (by kernel_rfl) (by kernel_rfl)
theorem ok_glyph_Tokens : FunOk Tryd.prog Gl pu n_glyph_Tokens f_glyph_Tokens := .of Tryd.func28 (by kernel_rfl) (by kernel_rfl) (by kernel_rfl) (by kernel_rfl)
theorem ok_nest_Of : FunOk Tryd.prog Gl pu n_nest_Of f_nest_Of := .of Tryd.func29 (by kernel_rfl) (by kernel_rfl) (by kernel_rfl) (by kernel_rfl)
theorem ok_check_judge_token : FunOk Tryd.prog Gl pu n_check_judge_token f_check_judge_token := .of Tryd.func30 (by kernel_rfl) (by kernel_rfl) (by kernel_rfl) (by kernel_rfl)
theorem ok_engramref9_runes : FunOk Tryd.prog Gl pu n_engramref9_runes f_engramref9_runes := .of Tryd.func31 (by kernel_rfl) (by kernel_rfl) (by kernel_rfl) (by kernel_rfl)
theorem ok_engramref9_Name : FunOk Tryd.prog Gl pu n_engramref9_Name f_engramref9_Name := .of Tryd.func32 (by kernel_rfl) (by kernel_rfl) (by kernel_rfl) (by kernel_rfl)
theorem ok_engramref9_Known : FunOk Tryd.prog Gl pu n_engramref9_Known f_engramref9_Known := .of Tryd.func33 (by kernel_rfl) (by kernel_rfl) (by kernel_rfl) (by kernel_rfl)
theorem ok_check_Takes_1 : FunOk Tryd.prog Gl pu n_check_Takes_1 f_check_Takes_1 := .of Tryd.func34 (by kernel_rfl) (by kernel_rfl) (by kernel_rfl) (by kernel_rfl)
theorem ok_check_hasRune : FunOk Tryd.prog Gl pu n_check_hasRune f_check_hasRune := .of Tryd.func35 (by kernel_rfl) (by kernel_rfl) (by kernel_rfl) (by kernel_rfl)
theorem ok_engramref9_Nest : FunOk Tryd.prog Gl pu n_engramref9_Nest f_engramref9_Nest := .of Tryd.func36 (by kernel_rfl) (by kernel_rfl) (by kernel_rfl) (by kernel_rfl)
theorem ok_engramref9_state_token : FunOk Tryd.prog Gl pu n_engramref9_state_token f_engramref9_state_token := .of Tryd.func37 (by kernel_rfl) (by kernel_rfl) (by kernel_rfl) (by kernel_rfl)
theorem ok_engramref9_has : FunOk Tryd.prog Gl pu n_engramref9_has f_engramref9_has := .of Tryd.func38 (by kernel_rfl) (by kernel_rfl) (by kernel_rfl) (by kernel_rfl)
theorem ok_slices_IndexFunc_api_Func_api_Func : FunOk Tryd.prog Gl pu n_slices_IndexFunc_api_Func_api_Func f_slices_IndexFunc_api_Func_api_Func := .of Tryd.func39 (by kernel_rfl) (by kernel_rfl) (by kernel_rfl) (by kernel_rfl)
theorem ok_check_Find_1 : FunOk Tryd.prog Gl pu n_check_Find_1 f_check_Find_1 := .of Tryd.func40 (by kernel_rfl) (by kernel_rfl) (by kernel_rfl) (by kernel_rfl)
theorem ok_engrambook_Within : FunOk Tryd.prog Gl pu n_engrambook_Within f_engrambook_Within := .of Tryd.func41 (by kernel_rfl) (by kernel_rfl) (by kernel_rfl) (by kernel_rfl)
theorem ok_engramkeep_digits : FunOk Tryd.prog Gl pu n_engramkeep_digits f_engramkeep_digits := .of Tryd.func42 (by kernel_rfl) (by kernel_rfl) (by kernel_rfl) (by kernel_rfl)
theorem ok_engramkeep_live : FunOk Tryd.prog Gl pu n_engramkeep_live f_engramkeep_live := .of Tryd.func43 (by kernel_rfl) (by kernel_rfl) (by kernel_rfl) (by kernel_rfl)
theorem ok_engramkeep_at : FunOk Tryd.prog Gl pu n_engramkeep_at f_engramkeep_at := .of Tryd.func44 (by kernel_rfl) (by kernel_rfl) (by kernel_rfl) (by kernel_rfl)
theorem ok_glyph_reader_rune : FunOk Tryd.prog Gl pu n_glyph_reader_rune f_glyph_reader_rune := .of Tryd.func45 (by kernel_rfl) (by kernel_rfl) (by kernel_rfl) (by kernel_rfl)
theorem ok_glyph_reader_number : FunOk Tryd.prog Gl pu n_glyph_reader_number f_glyph_reader_number := .of Tryd.func46 (by kernel_rfl) (by kernel_rfl) (by kernel_rfl) (by kernel_rfl)
theorem ok_glyph_reader_waits : FunOk Tryd.prog Gl pu n_glyph_reader_waits f_glyph_reader_waits := .of Tryd.func47 (by kernel_rfl) (by kernel_rfl) (by kernel_rfl) (by kernel_rfl)
theorem ok_nest_match : FunOk Tryd.prog Gl pu n_nest_match f_nest_match := .of Tryd.func48 (by kernel_rfl) (by kernel_rfl) (by kernel_rfl) (by kernel_rfl)
theorem ok_check_judge_base : FunOk Tryd.prog Gl pu n_check_judge_base f_check_judge_base := .of Tryd.func49 (by kernel_rfl) (by kernel_rfl) (by kernel_rfl) (by kernel_rfl)
theorem ok_check_judge_turn : FunOk Tryd.prog Gl pu n_check_judge_turn f_check_judge_turn := .of Tryd.func50 (by kernel_rfl) (by kernel_rfl) (by kernel_rfl) (by kernel_rfl)
theorem ok_engramref9_leaves : FunOk Tryd.prog Gl pu n_engramref9_leaves f_engramref9_leaves := .of Tryd.func51 (by kernel_rfl) (by kernel_rfl) (by kernel_rfl) (by kernel_rfl)
theorem ok_engramref9_state_ends : FunOk Tryd.prog Gl pu n_engramref9_state_ends f_engramref9_state_ends := .of Tryd.func52 (by kernel_rfl) (by kernel_rfl) (by kernel_rfl) (by kernel_rfl)
theorem ok_engramref9_state_base : FunOk Tryd.prog Gl pu n_engramref9_state_base f_engramref9_state_base := .of Tryd.func53 (by kernel_rfl) (by kernel_rfl) (by kernel_rfl) (by kernel_rfl)
theorem ok_engramref9_state_leave : FunOk Tryd.prog Gl pu n_engramref9_state_leave f_engramref9_state_leave := .of Tryd.func54 (by kernel_rfl) (by kernel_rfl) (by kernel_rfl) (by kernel_rfl)
theorem ok_glyph_Name : FunOk Tryd.prog Gl pu n_glyph_Name f_glyph_Name := .of Tryd.func55 (by kernel_rfl) (by kernel_rfl) (by kernel_rfl) (by kernel_rfl)
theorem ok_glyph_within : FunOk Tryd.prog Gl pu n_glyph_within f_glyph_within := .of Tryd.func56 (by kernel_rfl) (by kernel_rfl) (by kernel_rfl) (by kernel_rfl)
theorem ok_glyph_Known : FunOk Tryd.prog Gl pu n_glyph_Known f_glyph_Known := .of Tryd.func57 (by kernel_rfl) (by kernel_rfl) (by kernel_rfl) (by kernel_rfl)
theorem ok_glyph_named : FunOk Tryd.prog Gl pu n_glyph_named f_glyph_named := .of Tryd.func59 (by kernel_rfl) (by kernel_rfl) (by kernel_rfl) (by kernel_rfl)
theorem ok_nest_matcher_token : FunOk Tryd.prog Gl pu n_nest_matcher_token f_nest_matcher_token := .of Tryd.func60 (by kernel_rfl) (by kernel_rfl) (by kernel_rfl) (by kernel_rfl)
theorem ok_check_judge_endIf : FunOk Tryd.prog Gl pu n_check_judge_endIf f_check_judge_endIf := .of Tryd.func61 (by kernel_rfl) (by kernel_rfl) (by kernel_rfl) (by kernel_rfl)
theorem ok_check_judge_endLoop : FunOk Tryd.prog Gl pu n_check_judge_endLoop f_check_judge_endLoop := .of Tryd.func62 (by kernel_rfl) (by kernel_rfl) (by kernel_rfl) (by kernel_rfl)
theorem ok_check_judge_leave : FunOk Tryd.prog Gl pu n_check_judge_leave f_check_judge_leave := .of Tryd.func63 (by kernel_rfl) (by kernel_rfl) (by kernel_rfl) (by kernel_rfl)
theorem ok_utf8_ValidRune : FunOk Tryd.prog Gl pu n_utf8_ValidRune f_utf8_ValidRune := .of Tryd.func64 (by kernel_rfl) (by kernel_rfl) (by kernel_rfl) (by kernel_rfl)
theorem ok_nest_matcher_begin : FunOk Tryd.prog Gl pu n_nest_matcher_begin f_nest_matcher_begin := .of Tryd.func67 (by kernel_rfl) (by kernel_rfl) (by kernel_rfl) (by kernel_rfl)
theorem ok_nest_matcher_other : FunOk Tryd.prog Gl pu n_nest_matcher_other f_nest_matcher_other := .of Tryd.func68 (by kernel_rfl) (by kernel_rfl) (by kernel_rfl) (by kernel_rfl)
theorem ok_nest_matcher_endIf : FunOk Tryd.prog Gl pu n_nest_matcher_endIf f_nest_matcher_endIf := .of Tryd.func69 (by kernel_rfl) (by kernel_rfl) (by kernel_rfl) (by kernel_rfl)
theorem ok_nest_matcher_endLoop : FunOk Tryd.prog Gl pu n_nest_matcher_endLoop f_nest_matcher_endLoop := .of Tryd.func70 (by kernel_rfl) (by kernel_rfl) (by kernel_rfl) (by kernel_rfl)
theorem ok_nest_matcher_leave : FunOk Tryd.prog Gl pu n_nest_matcher_leave f_nest_matcher_leave := .of Tryd.func71 (by kernel_rfl) (by kernel_rfl) (by kernel_rfl) (by kernel_rfl)
theorem ok_check_judge_pop : FunOk Tryd.prog Gl pu n_check_judge_pop f_check_judge_pop := .of Tryd.func72 (by kernel_rfl) (by kernel_rfl) (by kernel_rfl) (by kernel_rfl)
theorem ok_nest_matcher_top : FunOk Tryd.prog Gl pu n_nest_matcher_top f_nest_matcher_top := .of Tryd.func78 (by kernel_rfl) (by kernel_rfl) (by kernel_rfl) (by kernel_rfl)
theorem ok_all : ∀ x ∈ tbl, FunOk Tryd.prog Gl pu x.1 x.2 := by
  intro x hx
  simp only [tbl, List.mem_cons, List.not_mem_nil, or_false] at hx
  rcases hx with rfl | rfl | rfl | rfl | rfl | rfl | rfl | rfl | rfl | rfl | rfl | rfl | rfl | rfl | rfl | rfl | rfl | rfl | rfl | rfl | rfl | rfl | rfl | rfl | rfl | rfl | rfl | rfl | rfl | rfl | rfl | rfl | rfl | rfl | rfl | rfl | rfl | rfl | rfl | rfl | rfl | rfl | rfl | rfl | rfl | rfl | rfl | rfl | rfl | rfl | rfl | rfl | rfl | rfl | rfl | rfl | rfl | rfl | rfl | rfl | rfl | rfl | rfl | rfl | rfl | rfl | rfl | rfl
  · exact ok_engramlaw9_CheckNumbers
  · exact ok_engramlaw9_CheckTells
  · exact ok_engramlaw9_CheckHeights
  · exact ok_engramlaw9_CheckMade
  · exact ok_engramlaw9_same
  · exact ok_engramlaw9_one
  · exact ok_engramlaw9_tail
  · exact ok_engramlaw9_takes
  · exact ok_engramlaw9_known
  · exact ok_engramkeep_Unit
  · exact ok_engramkeep_Odd
  · exact ok_check_Func
  · exact ok_engramref9_Tokens
  · exact ok_check_Takes
  · exact ok_engramref9_Func
  · exact ok_engrambook_Same_int
  · exact ok_engramref9_Takes
  · exact ok_check_Find
  · exact ok_engramref9_Find
  · exact ok_engramkeep_Tape_Next
  · exact ok_engramkeep_Names
  · exact ok_engramkeep_Tape_deed
  · exact ok_engramkeep_halts
  · exact ok_engramkeep_Tape_value
  · exact ok_engramkeep_odd
  · exact ok_glyph_Tokens
  · exact ok_nest_Of
  · exact ok_check_judge_token
  · exact ok_engramref9_runes
  · exact ok_engramref9_Name
  · exact ok_engramref9_Known
  · exact ok_check_Takes_1
  · exact ok_check_hasRune
  · exact ok_engramref9_Nest
  · exact ok_engramref9_state_token
  · exact ok_engramref9_has
  · exact ok_slices_IndexFunc_api_Func_api_Func
  · exact ok_check_Find_1
  · exact ok_engrambook_Within
  · exact ok_engramkeep_digits
  · exact ok_engramkeep_live
  · exact ok_engramkeep_at
  · exact ok_glyph_reader_rune
  · exact ok_glyph_reader_number
  · exact ok_glyph_reader_waits
  · exact ok_nest_match
  · exact ok_check_judge_base
  · exact ok_check_judge_turn
  · exact ok_engramref9_leaves
  · exact ok_engramref9_state_ends
  · exact ok_engramref9_state_base
  · exact ok_engramref9_state_leave
  · exact ok_glyph_Name
  · exact ok_glyph_within
  · exact ok_glyph_Known
  · exact ok_glyph_named
  · exact ok_nest_matcher_token
  · exact ok_check_judge_endIf
  · exact ok_check_judge_endLoop
  · exact ok_check_judge_leave
  · exact ok_utf8_ValidRune
  · exact ok_nest_matcher_begin
  · exact ok_nest_matcher_other
  · exact ok_nest_matcher_endIf
  · exact ok_nest_matcher_endLoop
  · exact ok_nest_matcher_leave
  · exact ok_check_judge_pop
  · exact ok_nest_matcher_top
end Go.Ev
namespace Go.Ev
open Go
noncomputable def prInt (s : ByteArray) : AV := match Lib.parseIntB 64 s.data.toList with
  | .ok v => .tup [.int .i64 v, .nilifc]
  | .range => .tup [.int .i64 (Lib.intSat 64 s.data.toList), .ifc t_Pstrconv_NumError (.fptr [] 0)]
  | _ => .tup [.int .i64 0, .ifc t_Pstrconv_NumError (.fptr [] 0)]
noncomputable def prim : Oracle := fun f args _ h => if f = n_strconv_ParseInt then (match args with
  | [.str s, .int .i64 b, .int .i64 z] => if b = 10 ∧ z = 64 ∧ s.size ≤ 281474976710656 then some (prInt s, h) else none
  | _ => none) else none
theorem strconv_ParseInt_ok {bar : Nat} {h : H} (s : ByteArray) (hs : s.size ≤ 281474976710656) : call tb prim n_strconv_ParseInt [.str s, .int .i64 10, .int .i64 64] bar h = some (prInt s, h) :=
  call_prim tb_strconv_ParseInt (by simp [prim, hs])
end Go.Ev
namespace Go.Proofs
open Go.Shelf
def Tryd.laysPI_ren : Go.Shelf.Ren := ⟨fun | 174 => 58 | 247 => 65 | 245 => 66 | 287 => 73 | 279 => 74 | 280 => 75 | 281 => 76 | 282 => 77 | 321 => 79 | 322 => 80 | 316 => 81 | 171 => 83 | 205 => 82 | 243 => 84 | 246 => 85 | 283 => 86 | 284 => 87 | 285 => 88 | 286 => 89 | 129 => 91 | 317 => 90 | 318 => 92 | 319 => 93 | 320 => 94 | 337 => 95 | 338 => 96 | n => n, fun | 9 => 9 | 3 => 3 | 2 => 2 | 75 => 101 | 85 => 102 | 4 => 4 | 167 => 114 | 5 => 5 | 53 => 69 | 175 => 115 | 46 => 117 | 168 => 118 | 37 => 126 | 0 => 0 | 210 => 128 | 21 => 21 | 127 => 130 | 145 => 133 | 143 => 131 | 171 => 135 | 173 => 138 | 212 => 141 | 51 => 142 | 20 => 20 | 213 => 143 | 232 => 146 | 233 => 147 | 80 => 148 | n => n, fun | 15 => 0 | 16 => 1 | 17 => 2 | 18 => 3 | 19 => 4 | n => n⟩
theorem Tryd.laysPI : Go.Proofs.LaysC.n174 Tryd.prog Tryd.laysPI_ren where
  mixed := by kernel_rfl
  f129 := Tryd.func91.trans (congrArg some (by kernel_rfl))
  f171 := Tryd.func83.trans (congrArg some (by kernel_rfl))
  f174 := Tryd.func58.trans (congrArg some (by kernel_rfl))
  f205 := Tryd.func82.trans (congrArg some (by kernel_rfl))
  f243 := Tryd.func84.trans (congrArg some (by kernel_rfl))
  f245 := Tryd.func66.trans (congrArg some (by kernel_rfl))
  f246 := Tryd.func85.trans (congrArg some (by kernel_rfl))
  f247 := Tryd.func65.trans (congrArg some (by kernel_rfl))
  f279 := Tryd.func74.trans (congrArg some (by kernel_rfl))
  f280 := Tryd.func75.trans (congrArg some (by kernel_rfl))
  f281 := Tryd.func76.trans (congrArg some (by kernel_rfl))
  f282 := Tryd.func77.trans (congrArg some (by kernel_rfl))
  f283 := Tryd.func86.trans (congrArg some (by kernel_rfl))
  f284 := Tryd.func87.trans (congrArg some (by kernel_rfl))
  f285 := Tryd.func88.trans (congrArg some (by kernel_rfl))
  f286 := Tryd.func89.trans (congrArg some (by kernel_rfl))
  f287 := Tryd.func73.trans (congrArg some (by kernel_rfl))
  f316 := Tryd.func81.trans (congrArg some (by kernel_rfl))
  f317 := Tryd.func90.trans (congrArg some (by kernel_rfl))
  f318 := Tryd.func92.trans (congrArg some (by kernel_rfl))
  f319 := Tryd.func93.trans (congrArg some (by kernel_rfl))
  f320 := Tryd.func94.trans (congrArg some (by kernel_rfl))
  f321 := Tryd.func79.trans (congrArg some (by kernel_rfl))
  f322 := Tryd.func80.trans (congrArg some (by kernel_rfl))
  f337 := Tryd.func95.trans (congrArg some (by kernel_rfl))
  f338 := Tryd.func96.trans (congrArg some (by kernel_rfl))
  t0 := Tryd.underlying0
  a0 := Tryd.isAgg0
  z0 := Tryd.sizeOf0
  v0 := Tryd.zeroValue0
  t2 := Tryd.underlying2
  a2 := Tryd.isAgg2
  z2 := Tryd.sizeOf2
  v2 := Tryd.zeroValue2
  t3 := Tryd.underlying3
  a3 := Tryd.isAgg3
  z3 := Tryd.sizeOf3
  v3 := Tryd.zeroValue3
  t4 := Tryd.underlying4
  a4 := Tryd.isAgg4
  z4 := Tryd.sizeOf4
  v4 := Tryd.zeroValue4
  t5 := Tryd.underlying5
  a5 := Tryd.isAgg5
  z5 := Tryd.sizeOf5
  v5 := Tryd.zeroValue5
  t9 := Tryd.underlying9
  a9 := Tryd.isAgg9
  z9 := Tryd.sizeOf9
  v9 := Tryd.zeroValue9
  t20 := Tryd.underlying20
  a20 := Tryd.isAgg20
  z20 := Tryd.sizeOf20
  v20 := Tryd.zeroValue20
  t21 := Tryd.underlying21
  a21 := Tryd.isAgg21
  z21 := Tryd.sizeOf21
  v21 := Tryd.zeroValue21
  t37 := Tryd.underlying126
  a37 := Tryd.isAgg126
  z37 := Tryd.sizeOf126
  v37 := Tryd.zeroValue126
  t46 := Tryd.underlying117
  a46 := Tryd.isAgg117
  z46 := Tryd.sizeOf117
  v46 := Tryd.zeroValue117
  t51 := Tryd.underlying142
  a51 := Tryd.isAgg142
  z51 := Tryd.sizeOf142
  v51 := Tryd.zeroValue142
  t53 := Tryd.underlying69
  a53 := Tryd.isAgg69
  z53 := Tryd.sizeOf69
  v53 := Tryd.zeroValue69
  t75 := Tryd.underlying101
  a75 := Tryd.isAgg101
  z75 := Tryd.sizeOf101
  v75 := Tryd.zeroValue101
  t85 := Tryd.underlying102
  a85 := Tryd.isAgg102
  z85 := Tryd.sizeOf102
  v85 := Tryd.zeroValue102
  t127 := Tryd.underlying130
  a127 := Tryd.isAgg130
  z127 := Tryd.sizeOf130
  v127 := Tryd.zeroValue130
  t143 := Tryd.underlying131
  a143 := Tryd.isAgg131
  z143 := Tryd.sizeOf131
  v143 := Tryd.zeroValue131
  t145 := Tryd.underlying133
  a145 := Tryd.isAgg133
  z145 := Tryd.sizeOf133
  v145 := Tryd.zeroValue133
  t167 := Tryd.underlying114
  a167 := Tryd.isAgg114
  z167 := Tryd.sizeOf114
  v167 := Tryd.zeroValue114
  t168 := Tryd.underlying118
  a168 := Tryd.isAgg118
  z168 := Tryd.sizeOf118
  v168 := Tryd.zeroValue118
  t171 := Tryd.underlying135
  a171 := Tryd.isAgg135
  z171 := Tryd.sizeOf135
  v171 := Tryd.zeroValue135
  t173 := Tryd.underlying138
  a173 := Tryd.isAgg138
  z173 := Tryd.sizeOf138
  v173 := Tryd.zeroValue138
  t175 := Tryd.underlying115
  a175 := Tryd.isAgg115
  z175 := Tryd.sizeOf115
  v175 := Tryd.zeroValue115
  t210 := Tryd.underlying128
  a210 := Tryd.isAgg128
  z210 := Tryd.sizeOf128
  v210 := Tryd.zeroValue128
  t212 := Tryd.underlying141
  a212 := Tryd.isAgg141
  z212 := Tryd.sizeOf141
  v212 := Tryd.zeroValue141
  t213 := Tryd.underlying143
  a213 := Tryd.isAgg143
  z213 := Tryd.sizeOf143
  t232 := Tryd.underlying146
  a232 := Tryd.isAgg146
  z232 := Tryd.sizeOf146
  v232 := Tryd.zeroValue146
  t233 := Tryd.underlying147
  a233 := Tryd.isAgg147
  z233 := Tryd.sizeOf147
  v233 := Tryd.zeroValue147
  g15 := by kernel_rfl
  g16 := by kernel_rfl
  g17 := by kernel_rfl
  g18 := by kernel_rfl
  g19 := by kernel_rfl
  t80 := Tryd.underlying148
  a80 := Tryd.isAgg148
  z80 := Tryd.sizeOf148
  v80 := Tryd.zeroValue148
  i0 := by kernel_rfl
  i2 := by kernel_rfl
  i3 := by kernel_rfl
  i4 := by kernel_rfl
  i5 := by kernel_rfl
  i9 := by kernel_rfl
  i20 := by kernel_rfl
  i21 := by kernel_rfl
  i37 := by kernel_rfl
  i46 := by kernel_rfl
  i51 := by kernel_rfl
  i53 := by kernel_rfl
  i75 := by kernel_rfl
  i80 := by kernel_rfl
  i85 := by kernel_rfl
  i127 := by kernel_rfl
  i143 := by kernel_rfl
  i145 := by kernel_rfl
  i167 := by kernel_rfl
  i168 := by kernel_rfl
  i171 := by kernel_rfl
  i173 := by kernel_rfl
  i175 := by kernel_rfl
  i210 := by kernel_rfl
  i212 := by kernel_rfl
  i232 := by kernel_rfl
  i233 := by kernel_rfl
  m15 := by kernel_rfl
  m16 := by kernel_rfl
  m17 := by kernel_rfl
  m18 := by kernel_rfl
  m19 := by kernel_rfl
  c0 := by kernel_rfl
  c2 := by kernel_rfl
  c3 := by kernel_rfl
  c4 := by kernel_rfl
  c5 := by kernel_rfl
  c9 := by kernel_rfl
  c20 := by kernel_rfl
  c21 := by kernel_rfl
  c37 := by kernel_rfl
  c46 := by kernel_rfl
  c51 := by kernel_rfl
  c53 := by kernel_rfl
  c75 := by kernel_rfl
  c80 := by kernel_rfl
  c85 := by kernel_rfl
  c127 := by kernel_rfl
  c143 := by kernel_rfl
  c145 := by kernel_rfl
  c167 := by kernel_rfl
  c168 := by kernel_rfl
  c171 := by kernel_rfl
  c173 := by kernel_rfl
  c175 := by kernel_rfl
  c210 := by kernel_rfl
  c212 := by kernel_rfl
  c213 := by kernel_rfl
  c232 := by kernel_rfl
  c233 := by kernel_rfl
end Go.Proofs
namespace Go.Ev
open Go Go.Proofs
theorem below_ok {φ : Phi} {I : Imm} {h : H} {w w' : World} {bar : Nat} (hb : Go.RowKit.Below w.heap.size w w') (hR : R φ I h w) : R φ I h w' ∧ Stp bar φ I h w φ I h w' := by
  have hcell : ∀ b j v, w.cell? ⟨b, j, none⟩ = some v → w'.cell? ⟨b, j, none⟩ = some v := fun b j v hc => by
    have hlt : b < w.heap.size := Lib.lt_of_cell hc
    rw [hb.cell (p := ⟨b, j, none⟩) hlt]; exact hc
  refine ⟨⟨hR.wf, hR.dom, fun i x hx => ?_, hR.inj, fun b j v hv => hcell b j v (hR.imm b j v hv)⟩, ⟨.refl _, .refl _, hb.size, fun b hlt _ => hb.block b hlt, fun i x hb hl hp => .inr ⟨i, x, hb, hl, hp, rfl⟩, fun _ _ => rfl, Nat.le_refl _, hb.os, hb.output, fun _ _ _ hv => .inl hv⟩⟩
  refine (hR.obj i x hx).keep (.refl _) (.refl _) (fun b s t hp => ?_) (fun _ _ _ _ _ _ hv => hv)
  obtain ⟨b', s', t', hp', hlt⟩ := (hR.obj i x hx).block
  rw [hp'] at hp
  injection hp with hp
  injection hp with hp _
  subst hp
  exact hb.block _ hlt
theorem err_cell {I : Imm} {φ : Phi} {h : H} {w : World} {g : Nat} (hG : GR Gl I) (hR : R φ I h w) (hg : Gl g = some [.ifc t_Perrors_errorString (.fptr [] 0)]) : ∃ te pe, w.cell? ⟨g, 0, none⟩ = some (.iface te pe) := by
  have h1 := hG g _ hg
  generalize hp : (Value.pointer (some ⟨g, 0, none⟩)) = pv at h1
  cases h1 with
  | fptr cs off b o vs a1 a2 a3 =>
    have h2 := a1 0 _ rfl
    have h3 := a2 0 _ rfl
    simp only [Value.pointer.injEq, Option.some.injEq, Addr.mk.injEq] at hp
    obtain ⟨e1, e2, _⟩ := hp
    have e3 : o = 0 := by omega
    subst e1; subst e3
    have h4 := hR.imm _ _ _ h2
    generalize hv : vs 0 = v at h3 h4
    cases h3 with
    | ifc t c v h5 => exact ⟨_, _, h4⟩
theorem prim_sound : Sound Tryd.prog Gl prim := by
  intro f args bar h r h' hr
  unfold prim at hr
  split at hr
  · rename_i hf
    split at hr
    · rename_i s b z
      split at hr
      · rename_i hc
        obtain ⟨rfl, rfl, hsz⟩ := hc
        injection hr with hr
        injection hr with hr1 hr2
        subst hr1; subst hr2; subst hf
        refine ⟨⟨_, Tryd.func58, by kernel_rfl, of_decide_eq_true (by kernel_rfl)⟩, fun φ I w vs hR hG hv hbar => ?_⟩
        have hvs : vs = [.string s, .int .i64 10, .int .i64 64] := by
          have hl := hv.1
          match vs, hl, hv.2 with
          | [v1, v2, v3], _, hv =>
            have a1 := hv 0 _ _ rfl rfl
            have a2 := hv 1 _ _ rfl rfl
            have a3 := hv 2 _ _ rfl rfl
            cases a1; cases a2; cases a3; rfl
        subst hvs
        have hgo : ∀ {w' : World} {v : Value}, Go.RowKit.Below w.heap.size w w' → VR φ I (prInt s) v → ∃ v' φ' I', Ending.returned v = .returned v' ∧ R φ' I' h w' ∧ VR φ' I' (prInt s) v' ∧ Stp bar φ I h w φ' I' h w' := fun hb hvr => by
          obtain ⟨q1, q2⟩ := below_ok (bar := bar) hb hR
          exact ⟨_, φ, I, rfl, q1, hvr, q2⟩
        cases hp : Lib.parseIntB 64 s.data.toList
        · rename_i v
          refine (Any.strconv_ParseInt_10_at64_ok Tryd.laysPI s (by omega) v hp w).mono fun e w' he => ?_
          obtain ⟨rfl, hW⟩ := he
          have hb : Go.RowKit.Below w.heap.size w w' := by
            rcases hW with rfl | ⟨t, rfl⟩
            · exact Go.RowKit.Below.refl _ _
            · exact Lib.bytesWorld_below _ _ _
          refine hgo hb ?_
          unfold prInt; rw [hp]
          refine .tup _ _ rfl fun i c v h1 h2 => ?_
          match i with
          | 0 => simp at h1 h2; subst h1; subst h2; exact .int _ _
          | 1 => simp at h1 h2; subst h1; subst h2; exact .nilifc
          | n + 2 => simp at h1
        · obtain ⟨te, pe, hcell⟩ := err_cell (g := 0) hG hR rfl
          refine (Any.strconv_ParseInt_10_at64_syntax Tryd.laysPI s hsz hp _ w hcell (.inr ⟨te, pe, rfl⟩)).mono fun e w' he => ?_
          obtain ⟨N, rfl, _, _, hb⟩ := he
          refine hgo hb ?_
          unfold prInt; rw [hp]
          refine .tup _ _ rfl fun i c v h1 h2 => ?_
          match i with
          | 0 => simp at h1 h2; subst h1; subst h2; exact .int _ _
          | 1 =>
            simp at h1 h2; subst h1; subst h2
            exact .ifc _ _ _ (.fptr [] 0 N 0 (fun _ => default) (fun i c h => by simp at h) (fun i c h => by simp at h) (fun i c h => by simp at h))
          | n + 2 => simp at h1
        · obtain ⟨te, pe, hcell⟩ := err_cell (g := 1) hG hR rfl
          refine (Any.strconv_ParseInt_10_at64_range Tryd.laysPI s hsz hp _ w hcell (.inr ⟨te, pe, rfl⟩)).mono fun e w' he => ?_
          obtain ⟨N, rfl, _, _, hb⟩ := he
          refine hgo hb ?_
          unfold prInt; rw [hp]
          refine .tup _ _ rfl fun i c v h1 h2 => ?_
          match i with
          | 0 => simp at h1 h2; subst h1; subst h2; exact .int _ _
          | 1 =>
            simp at h1 h2; subst h1; subst h2
            exact .ifc _ _ _ (.fptr [] 0 N 0 (fun _ => default) (fun i c h => by simp at h) (fun i c h => by simp at h) (fun i c h => by simp at h))
          | n + 2 => simp at h1
      · cases hr
    · cases hr
  · cases hr
theorem tab_ok : TabOk Tryd.prog Gl pu tb prim where
  mixed := by kernel_rfl
  funs := fun f F hf => by
    unfold tb at hf
    cases hx : tbl.find? (fun x => x.1 == f) with
    | none => rw [hx] at hf; cases hf
    | some x =>
      rw [hx] at hf
      injection hf with hf
      subst hf
      have h1 := List.find?_some hx
      have h2 := List.mem_of_find?_eq_some hx
      simp at h1
      subst h1
      exact ok_all x h2
  prims := prim_sound
  pureF := fun f F hp hf => by unfold pu at hp; rw [hf] at hp; exact hp
  pureP := fun f args bar h r h' _ hr => by
    unfold prim at hr
    split at hr
    · split at hr
      · split at hr
        · injection hr with hr; injection hr with _ hr; exact hr.symm
        · cases hr
      · cases hr
    · cases hr
end Go.Ev
namespace Go.Ev
open Go Go.ChangeShapes Go.WideShapes Go.RowKit Go.Proofs
theorem laid_mem {P : Program} {W : World} : ∀ {laid : List (String × DataW Unit)} {ps : List MemPlace}, DataW.LaidVars P W laid ps → ∀ x ∈ laid, ∃ g t cs fuel p, P.globalNamed x.1 = some g ∧ (P.globals[g]?).map (·.type) = some t ∧ W.var? P x.1 = some cs ∧ DataW.trod (fun _ => ()) P W 0 (fun _ => true) false fuel t cs.toList = some (x.2, p) ∧ ∀ q ∈ MemPlace.row ⟨g, 0, none⟩ cs.size, q ∈ ps
  | [], _, _, x, hx => by cases hx
  | (n, d) :: r, ps, h, x, hx => by
    obtain ⟨g, t, cs, fuel, p, q, h1, h2, h3, h4, h5, rfl⟩ := h
    rcases List.mem_cons.1 hx with rfl | hx
    · exact ⟨g, t, cs, fuel, p, h1, h2, h3, h4, fun q hq => List.mem_append_left _ (List.mem_append_left _ hq)⟩
    · obtain ⟨g', t', cs', f', p', a1, a2, a3, a4, a5⟩ := laid_mem h5 x hx
      exact ⟨g', t', cs', f', p', a1, a2, a3, a4, fun z hz => List.mem_append_right _ (a5 z hz)⟩
theorem star_name : "*" ++ "errors.errorString" = "*errors.errorString" := by decide
theorem row131 (u : TypeId) (h : Tryd.prog.typeName? 3 u = some "*errors.errorString") : u = 131 :=
  typeName_ptr_named (nm := "errors.errorString") (by rw [star_name]; kernel_rfl) (by kernel_rfl) (by decide) u (by rw [star_name]; exact h)
theorem cells133 : Tryd.prog.cellsOf 133 = 1 := by kernel_rfl
theorem cells9 : Tryd.prog.cellsOf 9 = 1 := by kernel_rfl
set_option maxRecDepth 100000 in
theorem err_laid {W : World} {laid : List (String × DataW Unit)} (h : laidMet Tryd.prog laid W) {n : String} {g : Nat} {text : List UInt8} (hx : (n, DataW.iface "*errors.errorString" (.ptr (.agg [.lit (.string text)]))) ∈ laid) (hg : Tryd.prog.globalNamed n = some g) (ht : (Tryd.prog.globals[g]?).map (·.type) = some 101) :
    ∃ a : Addr, W.cell? ⟨g, 0, none⟩ = some (.iface 131 (.pointer (some ⟨a.block, a.off, none⟩))) := by
  obtain ⟨ps, hl, hnd, hrows⟩ := h
  obtain ⟨g', t, cs, fuel, p, a1, a2, a3, a4, a5⟩ := laid_mem hl _ hx
  obtain rfl := Option.some.inj (hg.symm.trans a1)
  obtain rfl := Option.some.inj (ht.symm.trans a2)
  obtain ⟨l⟩ := cs
  have hcell := fun i => World.var?_cell hg a3 i
  have ok : ∀ u v, l = [.iface u v] → Value.okWide Tryd.prog W .any 0 u v := fun u v e => by
    subst e
    exact (hrows g 0 (a5 _ (by simp [MemPlace.row]))).2 u v (by simpa using hcell 0)
  obtain ⟨a, s, rfl, hc, _, _, _⟩ := errorString_of_trod (ti := 101) (tp := 131) (te := 133) (ts := 9) Tryd.underlying101 row131 Tryd.underlying131 Tryd.underlying133 rfl rfl Tryd.underlying9 cells133 cells9 a4 ok
  have := hcell 0
  have ha : a = ⟨a.block, a.off, none⟩ := cell_spot hc
  refine ⟨a, ?_⟩
  rw [← ha]
  simpa using this
theorem gr_of {W : World} {laid : List (String × DataW Unit)} (hL : laidMetH Tryd.prog laid W) (hp : (laid.all fun x => x.2.handleName?.isNone) = true)
    (h1 : ∃ text, ("strconv.ErrRange", DataW.iface "*errors.errorString" (.ptr (.agg [.lit (.string text)]))) ∈ laid) (h0 : ∃ text, ("strconv.ErrSyntax", DataW.iface "*errors.errorString" (.ptr (.agg [.lit (.string text)]))) ∈ laid) : GR Gl (allOf W) := by
  rw [MakeChecks.laidMetH_plain _ _ _ hp] at hL
  obtain ⟨t1, h1⟩ := h1
  obtain ⟨t0, h0⟩ := h0
  obtain ⟨a1, c1⟩ := err_laid hL h1 (g := 1) (by kernel_rfl) (by kernel_rfl)
  obtain ⟨a0, c0⟩ := err_laid hL h0 (g := 0) (by kernel_rfl) (by kernel_rfl)
  have hgo : ∀ (g : Nat) (a : Addr), W.cell? ⟨g, 0, none⟩ = some (.iface 131 (.pointer (some ⟨a.block, a.off, none⟩))) → VR (fun _ => none) (allOf W) (.fptr [.ifc t_Perrors_errorString (.fptr [] 0)] 0) (.pointer (some ⟨g, 0, none⟩)) := fun g a hc => by
    refine .fptr _ 0 g 0 (fun _ => .iface 131 (.pointer (some ⟨a.block, a.off, none⟩))) (fun i c hi => ?_) (fun i c hi => ?_) (fun i c hi => ?_)
    · cases i with
      | zero => exact hc
      | succ i => simp at hi
    · cases i with
      | zero =>
        simp at hi; subst hi
        refine .ifc _ _ _ ?_
        have := VR.fptr (φ := fun _ => none) (I := allOf W) [] 0 a.block a.off (fun _ => default) (fun i c h => by simp at h) (fun i c h => by simp at h) (fun i c h => by simp at h)
        simpa using this
      | succ i => simp at hi
    · cases i with
      | zero => simp at hi; subst hi; exact ⟨rfl, rfl⟩
      | succ i => simp at hi
  intro g cs hg
  unfold Gl at hg
  split at hg
  · rename_i hc
    injection hg with hg; subst hg
    simp at hc
    rcases hc with rfl | rfl
    · exact hgo _ _ c1
    · exact hgo _ _ c0
  · cases hg
end Go.Ev
