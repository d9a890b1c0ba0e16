/- Part 4 of the proof that a law of this seat (the one that GOCLAIM.json names) returns true for every argument; nothing is assumed. -/
import Derived.Test.YtoilfkojhaidhaaGreatDoorProg
import Derived.Lib.ParseIntB
import Derived.Shelf.Small.Strs
import Derived.Laws.Bits64
import Derived.Test.YtoilfkojhaidhaaGreatDoorA3
set_option linter.unusedSimpArgs false
set_option linter.unusedVariables false
set_option linter.all false
namespace Go.Ev
open Go Go.Proofs
theorem Ie:FunOk Tryz.prog Gl pu Cq f_engramlaw14_EngineCopies:=.of Tryz.func7 (by kernel_rfl) (by kernel_rfl) (by kernel_rfl) (by kernel_rfl)
theorem Nt:FunOk Tryz.prog Gl pu EP f_engramkeep_Unit:=.of Tryz.func15 (by kernel_rfl) (by kernel_rfl) (by kernel_rfl) (by kernel_rfl)
theorem Ns:FunOk Tryz.prog Gl pu EO f_engramkeep_Args:=.of Tryz.func16 (by kernel_rfl) (by kernel_rfl) (by kernel_rfl) (by kernel_rfl)
theorem SB:FunOk Tryz.prog Gl pu Bo f_engine_Run:=.of Tryz.func17 (by kernel_rfl) (by kernel_rfl) (by kernel_rfl) (by kernel_rfl)
theorem TT:FunOk Tryz.prog Gl pu Du f_cells_New:=.of Tryz.func18 (by kernel_rfl) (by kernel_rfl) (by kernel_rfl) (by kernel_rfl)
theorem TV:FunOk Tryz.prog Gl pu CI f_reply_New:=.of Tryz.func19 (by kernel_rfl) (by kernel_rfl) (by kernel_rfl) (by kernel_rfl)
theorem ML:FunOk Tryz.prog Gl pu Dl f_engramlaw14_known:=.of Tryz.func20 (by kernel_rfl) (by kernel_rfl) (by kernel_rfl) (by kernel_rfl)
theorem Oh:FunOk Tryz.prog Gl pu Dr f_reply_Row_Asks:=.of Tryz.func21 (by kernel_rfl) (by kernel_rfl) (by kernel_rfl) (by kernel_rfl)
theorem Nv:FunOk Tryz.prog Gl pu DT f_engramlaw14_one:=.of Tryz.func23 (by kernel_rfl) (by kernel_rfl) (by kernel_rfl) (by kernel_rfl)
theorem Kf:FunOk Tryz.prog Gl pu DC f_engramlaw14_results:=.of Tryz.func27 (by kernel_rfl) (by kernel_rfl) (by kernel_rfl) (by kernel_rfl)
theorem Kz:FunOk Tryz.prog Gl pu CF f_cells_Memory_Bytes:=.of Tryz.func28 (by kernel_rfl) (by kernel_rfl) (by kernel_rfl) (by kernel_rfl)
theorem LA:FunOk Tryz.prog Gl pu DG f_cells_Memory_Dirty:=.of Tryz.func29 (by kernel_rfl) (by kernel_rfl) (by kernel_rfl) (by kernel_rfl)
theorem Jv:FunOk Tryz.prog Gl pu AR f_engramkeep_Tape_Next:=.of Tryz.func33 (by kernel_rfl) (by kernel_rfl) (by kernel_rfl) (by kernel_rfl)
theorem MJ:FunOk Tryz.prog Gl pu Ci f_engrambook_Within:=.of Tryz.func36 (by kernel_rfl) (by kernel_rfl) (by kernel_rfl) (by kernel_rfl)
theorem LB:FunOk Tryz.prog Gl pu CY f_cells_Memory_Pages:=.of Tryz.func37 (by kernel_rfl) (by kernel_rfl) (by kernel_rfl) (by kernel_rfl)
theorem My:FunOk Tryz.prog Gl pu Dv f_engramkeep_Names:=.of Tryz.func47 (by kernel_rfl) (by kernel_rfl) (by kernel_rfl) (by kernel_rfl)
theorem Jw:FunOk Tryz.prog Gl pu Bc f_engramkeep_Tape_deed:=.of Tryz.func48 (by kernel_rfl) (by kernel_rfl) (by kernel_rfl) (by kernel_rfl)
theorem Mz:FunOk Tryz.prog Gl pu DB f_engramkeep_halts:=.of Tryz.func49 (by kernel_rfl) (by kernel_rfl) (by kernel_rfl) (by kernel_rfl)
theorem JY:FunOk Tryz.prog Gl pu Ak f_engramkeep_Tape_value:=.of Tryz.func50 (by kernel_rfl) (by kernel_rfl) (by kernel_rfl) (by kernel_rfl)
theorem Ny:FunOk Tryz.prog Gl pu DV f_engramref9_Func:=.of Tryz.func51 (by kernel_rfl) (by kernel_rfl) (by kernel_rfl) (by kernel_rfl)
theorem PO:FunOk Tryz.prog Gl pu FJ f_engramkeep_at:=.of Tryz.func52 (by kernel_rfl) (by kernel_rfl) (by kernel_rfl) (by kernel_rfl)
theorem SE:FunOk Tryz.prog Gl pu GY f_unit_Right:=.of Tryz.func53 (by kernel_rfl) (by kernel_rfl) (by kernel_rfl) (by kernel_rfl)
theorem Rz:FunOk Tryz.prog Gl pu DI f_check_Find:=.of Tryz.func54 (by kernel_rfl) (by kernel_rfl) (by kernel_rfl) (by kernel_rfl)
theorem QE:FunOk Tryz.prog Gl pu Fa f_engine_codes:=.of Tryz.func55 (by kernel_rfl) (by kernel_rfl) (by kernel_rfl) (by kernel_rfl)
theorem LD:FunOk Tryz.prog Gl pu CZ f_engine_runner_call:=.of Tryz.func56 (by kernel_rfl) (by kernel_rfl) (by kernel_rfl) (by kernel_rfl)
theorem LE:FunOk Tryz.prog Gl pu DJ f_engine_runner_ends:=.of Tryz.func57 (by kernel_rfl) (by kernel_rfl) (by kernel_rfl) (by kernel_rfl)
theorem LG:FunOk Tryz.prog Gl pu BD f_engine_runner_step:=.of Tryz.func58 (by kernel_rfl) (by kernel_rfl) (by kernel_rfl) (by kernel_rfl)
theorem TU:FunOk Tryz.prog Gl pu Fz f_cells_may:=.of Tryz.func59 (by kernel_rfl) (by kernel_rfl) (by kernel_rfl) (by kernel_rfl)
theorem UN:FunOk Tryz.prog Gl pu Hx f_cells_Of:=.of Tryz.func60 (by kernel_rfl) (by kernel_rfl) (by kernel_rfl) (by kernel_rfl)
theorem UO:FunOk Tryz.prog Gl pu Hz f_reply_Of:=.of Tryz.func61 (by kernel_rfl) (by kernel_rfl) (by kernel_rfl) (by kernel_rfl)
theorem Nw:FunOk Tryz.prog Gl pu Ce f_engramlaw14_run:=.of Tryz.func62 (by kernel_rfl) (by kernel_rfl) (by kernel_rfl) (by kernel_rfl)
theorem Hl:FunOk Tryz.prog Gl pu Bq f_slices_Clone_api_Ask_api_Ask:=.of Tryz.func63 (by kernel_rfl) (by kernel_rfl) (by kernel_rfl) (by kernel_rfl)
theorem JA:FunOk Tryz.prog Gl pu BS f_slices_Clone_byte_byte:=.of Tryz.func69 (by kernel_rfl) (by kernel_rfl) (by kernel_rfl) (by kernel_rfl)
theorem MM:FunOk Tryz.prog Gl pu Dm f_engramref9_Tokens:=.of Tryz.func73 (by kernel_rfl) (by kernel_rfl) (by kernel_rfl) (by kernel_rfl)
theorem MK:FunOk Tryz.prog Gl pu Bh f_engramkeep_digits:=.of Tryz.func79 (by kernel_rfl) (by kernel_rfl) (by kernel_rfl) (by kernel_rfl)
theorem Nu:FunOk Tryz.prog Gl pu DS f_engramkeep_live:=.of Tryz.func80 (by kernel_rfl) (by kernel_rfl) (by kernel_rfl) (by kernel_rfl)
theorem OA:FunOk Tryz.prog Gl pu DW f_engramref9_Nest:=.of Tryz.func81 (by kernel_rfl) (by kernel_rfl) (by kernel_rfl) (by kernel_rfl)
theorem Iz:FunOk Tryz.prog Gl pu CU f_engramref9_state_token:=.of Tryz.func82 (by kernel_rfl) (by kernel_rfl) (by kernel_rfl) (by kernel_rfl)
theorem SF:FunOk Tryz.prog Gl pu GZ f_unit_named:=.of Tryz.func83 (by kernel_rfl) (by kernel_rfl) (by kernel_rfl) (by kernel_rfl)
theorem SA:FunOk Tryz.prog Gl pu GU f_check_Func:=.of Tryz.func84 (by kernel_rfl) (by kernel_rfl) (by kernel_rfl) (by kernel_rfl)
theorem GK:FunOk Tryz.prog Gl pu BT f_slices_IndexFunc_api_Func_api_Func:=.of Tryz.func85 (by kernel_rfl) (by kernel_rfl) (by kernel_rfl) (by kernel_rfl)
theorem QD:FunOk Tryz.prog Gl pu Cv f_check_Find_1:=.of Tryz.func86 (by kernel_rfl) (by kernel_rfl) (by kernel_rfl) (by kernel_rfl)
theorem QF:FunOk Tryz.prog Gl pu Ed f_glyph_Tokens:=.of Tryz.func87 (by kernel_rfl) (by kernel_rfl) (by kernel_rfl) (by kernel_rfl)
theorem VX:FunOk Tryz.prog Gl pu GW f_nest_Of:=.of Tryz.func88 (by kernel_rfl) (by kernel_rfl) (by kernel_rfl) (by kernel_rfl)
theorem Mx:FunOk Tryz.prog Gl pu Au f_engine_frame_pop:=.of Tryz.func89 (by kernel_rfl) (by kernel_rfl) (by kernel_rfl) (by kernel_rfl)
theorem MI:FunOk Tryz.prog Gl pu Az f_engine_frame_push:=.of Tryz.func90 (by kernel_rfl) (by kernel_rfl) (by kernel_rfl) (by kernel_rfl)
theorem Kd:FunOk Tryz.prog Gl pu DA f_engine_runner_calls:=.of Tryz.func91 (by kernel_rfl) (by kernel_rfl) (by kernel_rfl) (by kernel_rfl)
theorem Jy:FunOk Tryz.prog Gl pu Be f_strings_ContainsRune:=.of Tryz.func92 (by kernel_rfl) (by kernel_rfl) (by kernel_rfl) (by kernel_rfl)
theorem LF:FunOk Tryz.prog Gl pu BZ f_engine_runner_goes:=.of Tryz.func93 (by kernel_rfl) (by kernel_rfl) (by kernel_rfl) (by kernel_rfl)
theorem Ju:FunOk Tryz.prog Gl pu Cm f_engine_runner_memory:=.of Tryz.func94 (by kernel_rfl) (by kernel_rfl) (by kernel_rfl) (by kernel_rfl)
theorem Ke:FunOk Tryz.prog Gl pu CP f_engine_runner_plain:=.of Tryz.func95 (by kernel_rfl) (by kernel_rfl) (by kernel_rfl) (by kernel_rfl)
theorem Qy:FunOk Tryz.prog Gl pu In f_reply_runes:=.of Tryz.func96 (by kernel_rfl) (by kernel_rfl) (by kernel_rfl) (by kernel_rfl)
theorem Nx:FunOk Tryz.prog Gl pu DU f_engramref9_Find:=.of Tryz.func98 (by kernel_rfl) (by kernel_rfl) (by kernel_rfl) (by kernel_rfl)
theorem Nz:FunOk Tryz.prog Gl pu EQ f_engramref9_Name:=.of Tryz.func101 (by kernel_rfl) (by kernel_rfl) (by kernel_rfl) (by kernel_rfl)
theorem NC:FunOk Tryz.prog Gl pu Dx f_engramref9_runes:=.of Tryz.func102 (by kernel_rfl) (by kernel_rfl) (by kernel_rfl) (by kernel_rfl)
theorem NA:FunOk Tryz.prog Gl pu Dw f_engramref9_Known:=.of Tryz.func103 (by kernel_rfl) (by kernel_rfl) (by kernel_rfl) (by kernel_rfl)
theorem MN:FunOk Tryz.prog Gl pu Dn f_engramref9_leaves:=.of Tryz.func106 (by kernel_rfl) (by kernel_rfl) (by kernel_rfl) (by kernel_rfl)
theorem NB:FunOk Tryz.prog Gl pu DD f_engramref9_Takes:=.of Tryz.func107 (by kernel_rfl) (by kernel_rfl) (by kernel_rfl) (by kernel_rfl)
theorem Ja:FunOk Tryz.prog Gl pu Cc f_engramref9_state_ends:=.of Tryz.func108 (by kernel_rfl) (by kernel_rfl) (by kernel_rfl) (by kernel_rfl)
theorem JZ:FunOk Tryz.prog Gl pu CC f_engramref9_state_base:=.of Tryz.func109 (by kernel_rfl) (by kernel_rfl) (by kernel_rfl) (by kernel_rfl)
theorem Iy:FunOk Tryz.prog Gl pu CT f_engramref9_state_leave:=.of Tryz.func110 (by kernel_rfl) (by kernel_rfl) (by kernel_rfl) (by kernel_rfl)
theorem SC:FunOk Tryz.prog Gl pu Fb f_glyph_Name:=.of Tryz.func111 (by kernel_rfl) (by kernel_rfl) (by kernel_rfl) (by kernel_rfl)
theorem MH:FunOk Tryz.prog Gl pu Dk f_check_judge_token:=.of Tryz.func112 (by kernel_rfl) (by kernel_rfl) (by kernel_rfl) (by kernel_rfl)
theorem MO:FunOk Tryz.prog Gl pu Do f_glyph_reader_rune:=.of Tryz.func113 (by kernel_rfl) (by kernel_rfl) (by kernel_rfl) (by kernel_rfl)
theorem Kg:FunOk Tryz.prog Gl pu CQ f_glyph_reader_number:=.of Tryz.func114 (by kernel_rfl) (by kernel_rfl) (by kernel_rfl) (by kernel_rfl)
theorem LI:FunOk Tryz.prog Gl pu Bp f_glyph_reader_waits:=.of Tryz.func115 (by kernel_rfl) (by kernel_rfl) (by kernel_rfl) (by kernel_rfl)
theorem SD:FunOk Tryz.prog Gl pu GX f_nest_match:=.of Tryz.func116 (by kernel_rfl) (by kernel_rfl) (by kernel_rfl) (by kernel_rfl)
theorem MP:FunOk Tryz.prog Gl pu Ao f_strings_IndexRune:=.of Tryz.func117 (by kernel_rfl) (by kernel_rfl) (by kernel_rfl) (by kernel_rfl)
theorem ME:FunOk Tryz.prog Gl pu Dh f_cells_Memory_Load:=.of Tryz.func118 (by kernel_rfl) (by kernel_rfl) (by kernel_rfl) (by kernel_rfl)
theorem LH:FunOk Tryz.prog Gl pu Ba f_engine_runner_stop:=.of Tryz.func119 (by kernel_rfl) (by kernel_rfl) (by kernel_rfl) (by kernel_rfl)
theorem LC:FunOk Tryz.prog Gl pu DH f_cells_Memory_Store:=.of Tryz.func120 (by kernel_rfl) (by kernel_rfl) (by kernel_rfl) (by kernel_rfl)
theorem MD:FunOk Tryz.prog Gl pu Dg f_cells_Memory_Grow:=.of Tryz.func121 (by kernel_rfl) (by kernel_rfl) (by kernel_rfl) (by kernel_rfl)
theorem PP:FunOk Tryz.prog Gl pu FK f_reply_Row_Ask:=.of Tryz.func122 (by kernel_rfl) (by kernel_rfl) (by kernel_rfl) (by kernel_rfl)
theorem VY:FunOk Tryz.prog Gl pu HT f_word_Do:=.of Tryz.func123 (by kernel_rfl) (by kernel_rfl) (by kernel_rfl) (by kernel_rfl)
theorem Og:FunOk Tryz.prog Gl pu CS f_engramref9_has:=.of Tryz.func126 (by kernel_rfl) (by kernel_rfl) (by kernel_rfl) (by kernel_rfl)
theorem QG:FunOk Tryz.prog Gl pu DE f_glyph_within:=.of Tryz.func127 (by kernel_rfl) (by kernel_rfl) (by kernel_rfl) (by kernel_rfl)
theorem Oi:FunOk Tryz.prog Gl pu Ds f_utf8_ValidRune:=.of Tryz.func128 (by kernel_rfl) (by kernel_rfl) (by kernel_rfl) (by kernel_rfl)
theorem Qv:FunOk Tryz.prog Gl pu Eu f_check_Takes:=.of Tryz.func129 (by kernel_rfl) (by kernel_rfl) (by kernel_rfl) (by kernel_rfl)
theorem Mu:FunOk Tryz.prog Gl pu Cw f_check_judge_base:=.of Tryz.func130 (by kernel_rfl) (by kernel_rfl) (by kernel_rfl) (by kernel_rfl)
theorem Mw:FunOk Tryz.prog Gl pu Cz f_check_judge_turn:=.of Tryz.func131 (by kernel_rfl) (by kernel_rfl) (by kernel_rfl) (by kernel_rfl)
theorem Qw:FunOk Tryz.prog Gl pu Fu f_glyph_Known:=.of Tryz.func132 (by kernel_rfl) (by kernel_rfl) (by kernel_rfl) (by kernel_rfl)
theorem Qx:FunOk Tryz.prog Gl pu Ew f_glyph_named:=.of Tryz.func134 (by kernel_rfl) (by kernel_rfl) (by kernel_rfl) (by kernel_rfl)
theorem LN:FunOk Tryz.prog Gl pu DN f_nest_matcher_token:=.of Tryz.func135 (by kernel_rfl) (by kernel_rfl) (by kernel_rfl) (by kernel_rfl)
theorem ND:FunOk Tryz.prog Gl pu GV f_ibytealg_Cutover:=.of Tryz.func137 (by kernel_rfl) (by kernel_rfl) (by kernel_rfl) (by kernel_rfl)
theorem Kb:FunOk Tryz.prog Gl pu Bj f_cells_Memory_within:=.of Tryz.func139 (by kernel_rfl) (by kernel_rfl) (by kernel_rfl) (by kernel_rfl)
theorem Qz:FunOk Tryz.prog Gl pu Fv f_word_parted:=.of Tryz.func140 (by kernel_rfl) (by kernel_rfl) (by kernel_rfl) (by kernel_rfl)
theorem UP:FunOk Tryz.prog Gl pu Fo f_word_bit:=.of Tryz.func141 (by kernel_rfl) (by kernel_rfl) (by kernel_rfl) (by kernel_rfl)
theorem PM:FunOk Tryz.prog Gl pu EH f_check_Takes_1:=.of Tryz.func148 (by kernel_rfl) (by kernel_rfl) (by kernel_rfl) (by kernel_rfl)
theorem PN:FunOk Tryz.prog Gl pu FH f_check_hasRune:=.of Tryz.func149 (by kernel_rfl) (by kernel_rfl) (by kernel_rfl) (by kernel_rfl)
theorem MF:FunOk Tryz.prog Gl pu Di f_check_judge_endIf:=.of Tryz.func150 (by kernel_rfl) (by kernel_rfl) (by kernel_rfl) (by kernel_rfl)
theorem Kc:FunOk Tryz.prog Gl pu Cy f_check_judge_endLoop:=.of Tryz.func151 (by kernel_rfl) (by kernel_rfl) (by kernel_rfl) (by kernel_rfl)
theorem MG:FunOk Tryz.prog Gl pu Dj f_check_judge_leave:=.of Tryz.func152 (by kernel_rfl) (by kernel_rfl) (by kernel_rfl) (by kernel_rfl)
theorem LJ:FunOk Tryz.prog Gl pu Ca f_nest_matcher_begin:=.of Tryz.func155 (by kernel_rfl) (by kernel_rfl) (by kernel_rfl) (by kernel_rfl)
theorem LM:FunOk Tryz.prog Gl pu DM f_nest_matcher_other:=.of Tryz.func156 (by kernel_rfl) (by kernel_rfl) (by kernel_rfl) (by kernel_rfl)
theorem LK:FunOk Tryz.prog Gl pu DK f_nest_matcher_endIf:=.of Tryz.func157 (by kernel_rfl) (by kernel_rfl) (by kernel_rfl) (by kernel_rfl)
theorem Jx:FunOk Tryz.prog Gl pu Cn f_nest_matcher_endLoop:=.of Tryz.func158 (by kernel_rfl) (by kernel_rfl) (by kernel_rfl) (by kernel_rfl)
theorem LL:FunOk Tryz.prog Gl pu DL f_nest_matcher_leave:=.of Tryz.func159 (by kernel_rfl) (by kernel_rfl) (by kernel_rfl) (by kernel_rfl)
theorem Nr:FunOk Tryz.prog Gl pu DR f_check_judge_pop:=.of Tryz.func164 (by kernel_rfl) (by kernel_rfl) (by kernel_rfl) (by kernel_rfl)
theorem NE:FunOk Tryz.prog Gl pu CV f_nest_matcher_top:=.of Tryz.func170 (by kernel_rfl) (by kernel_rfl) (by kernel_rfl) (by kernel_rfl)
theorem bc:∀ x ∈ tbl,FunOk Tryz.prog Gl pu x.1 x.2:=by
 intro x hx
 simp only [tbl,List.mem_cons,List.not_mem_nil,or_false] at hx
 rcases hx with rfl | rfl | rfl | rfl | rfl | rfl | rfl | rfl | rfl | rfl | rfl | rfl | rfl | rfl | rfl | rfl | rfl | rfl | rfl | rfl | rfl | rfl | rfl | rfl | rfl | rfl | rfl | rfl | rfl | rfl | rfl | rfl | rfl | rfl | rfl | rfl | rfl | rfl | rfl | rfl | rfl | rfl | rfl | rfl | rfl | rfl | rfl | rfl | rfl | rfl | rfl | rfl | rfl | rfl | rfl | rfl | rfl | rfl | rfl | rfl | rfl | rfl | rfl | rfl | rfl | rfl | rfl | rfl | rfl | rfl | rfl | rfl | rfl | rfl | rfl | rfl | rfl | rfl | rfl | rfl | rfl | rfl | rfl | rfl | rfl | rfl | rfl | rfl | rfl | rfl | rfl | rfl | rfl | rfl | rfl | rfl | rfl | rfl | rfl
 ·exact Ie
 ·exact Nt
 ·exact Ns
 ·exact SB
 ·exact TT
 ·exact TV
 ·exact ML
 ·exact Oh
 ·exact Nv
 ·exact Kf
 ·exact Kz
 ·exact LA
 ·exact Jv
 ·exact MJ
 ·exact LB
 ·exact My
 ·exact Jw
 ·exact Mz
 ·exact JY
 ·exact Ny
 ·exact PO
 ·exact SE
 ·exact Rz
 ·exact QE
 ·exact LD
 ·exact LE
 ·exact LG
 ·exact TU
 ·exact UN
 ·exact UO
 ·exact Nw
 ·exact Hl
 ·exact JA
 ·exact MM
 ·exact MK
 ·exact Nu
 ·exact OA
 ·exact Iz
 ·exact SF
 ·exact SA
 ·exact GK
 ·exact QD
 ·exact QF
 ·exact VX
 ·exact Mx
 ·exact MI
 ·exact Kd
 ·exact Jy
 ·exact LF
 ·exact Ju
 ·exact Ke
 ·exact Qy
 ·exact Nx
 ·exact Nz
 ·exact NC
 ·exact NA
 ·exact MN
 ·exact NB
 ·exact Ja
 ·exact JZ
 ·exact Iy
 ·exact SC
 ·exact MH
 ·exact MO
 ·exact Kg
 ·exact LI
 ·exact SD
 ·exact MP
 ·exact ME
 ·exact LH
 ·exact LC
 ·exact MD
 ·exact PP
 ·exact VY
 ·exact Og
 ·exact QG
 ·exact Oi
 ·exact Qv
 ·exact Mu
 ·exact Mw
 ·exact Qw
 ·exact Qx
 ·exact LN
 ·exact ND
 ·exact Kb
 ·exact Qz
 ·exact UP
 ·exact PM
 ·exact PN
 ·exact MF
 ·exact Kc
 ·exact MG
 ·exact LJ
 ·exact LM
 ·exact LK
 ·exact Jx
 ·exact LL
 ·exact Nr
 ·exact NE
end Go.Ev
namespace Go.Ev
open Go
noncomputable def JC (s:ByteArray):AV:=match Lib.parseIntB 64 s.data.toList with
 | .ok v=>.tup [.int .i64 v,.nilifc]
 | .range=>.tup [.int .i64 (Lib.intSat 64 s.data.toList),.ifc Ep (.fptr [] 0)]
 | _=>.tup [.int .i64 0,.ifc Ep (.fptr [] 0)]
noncomputable def prim:Oracle:=fun f args _ h=>if f=n_strconv_ParseInt then (match args with
 | [.str s,.int .i64 b,.int .i64 z]=>if b=10∧z=64∧s.size≤281474976710656 then some (JC s,h) else none
 | _=>none) else if f=CM then (match args with
 | [.str s,.int .u8 b]=>some (.int .i64 (Lib.indexByte s.data.toList b.toNat.toUInt8),h)
 | _=>none) else none
theorem NG {bar:Nat} {h:H} (s:ByteArray) (hs:s.size≤281474976710656):call tb prim n_strconv_ParseInt [.str s,.int .i64 10,.int .i64 64] bar h=some (JC s,h) :=
 RM NQ (by simp [prim,hs])
theorem Aw {bar:Nat} {h:H} (s:ByteArray) (b:Int):call tb prim CM [.str s,.int .u8 b] bar h=some (.int .i64 (Lib.indexByte s.data.toList b.toNat.toUInt8),h) :=
 RM Mi (by
  have:¬ CM=n_strconv_ParseInt:=by decide
  simp [prim,this])
end Go.Ev
namespace Go.Ev
open Go
section
variable {pr:Oracle} {bar:Nat} {h:H}
theorem CN (r a b:Int):call tb pr DE [.int .i32 r,.int .i32 a,.int .i32 b] bar h=some (.bool (decide (a≤r∧r≤b)),h):=by
 refine AQ QY (AZ rfl rfl (BJ ?_))
 simp [f_glyph_within,AO,go_sem,AN,AM,AA,AE,AD,AC,AV.free.freeL,AV.free,AF,AH]
 repeat' (refine Ey (fun hb=>?_) (fun hb=>?_)<;>simp [go_sem,AN,AM,AA,AE,AD,AC,AV.free.freeL,AV.free,AF,AH, *])
theorem Qm (r:Int):call tb pr Ew [.int .i32 r] bar h=some (.bool (decide (r=955∨r=960)),h):=by
 refine AQ RH (AZ rfl rfl (BJ ?_))
 simp [f_glyph_named,AO,go_sem,AN,AM,AA,AE,AD,AC,AV.free.freeL,AV.free,AF,AH]
 repeat' (refine Ey (fun hb=>?_) (fun hb=>?_)<;>simp [go_sem,AN,AM,AA,AE,AD,AC,AV.free.freeL,AV.free,AF,AH, *])
 ·simp_all
 ·simp at hb;rw [Bool.eq_iff_iff];simp [hb]
def EA (r:Int):Bool:=decide (0≤r∧r<55296∨57343<r∧r≤1114111)
theorem BB (r:Int):call tb pr Ds [.int .i32 r] bar h=some (.bool (EA r),h):=by
 refine AQ Ol (AZ rfl rfl (BJ ?_))
 simp [f_utf8_ValidRune,AO,go_sem,AN,AM,AA,AE,AD,AC,AV.free.freeL,AV.free,AF,AH]
 repeat' (first | refine Ey (fun hb=>?_) (fun hb=>?_)<;>simp [go_sem,AN,AM,AA,AE,AD,AC,AV.free.freeL,AV.free,AF,AH, *] | refine De (fun hb=>?_) (fun hb=>?_)<;>simp [go_sem,AN,AM,AA,AE,AD,AC,AV.free.freeL,AV.free,AF,AH, *])
 all_goals (simp at *;simp [EA];omega)
def FL (r:Int):Bool:=decide (97≤r∧r≤122∨r > 255∧(r<55296∨57343<r)∧r≤1114111∧r≠65533)
theorem Im (r:Int):call tb pr Fb [.int .i32 r] bar h=some (.bool (FL r),h):=by
 refine AQ SM (AZ rfl rfl (BJ ?_))
 simp [f_glyph_Name,AO,go_sem,AN,AM,AA,AE,AD,AC,AV.free.freeL,AV.free,AF,AH,BB,CN]
 repeat' (first | refine Ey (fun hb=>?_) (fun hb=>?_)<;>simp [go_sem,AN,AM,AA,AE,AD,AC,AV.free.freeL,AV.free,AF,AH,BB,CN, *] | refine De (fun hb=>?_) (fun hb=>?_)<;>simp [go_sem,AN,AM,AA,AE,AD,AC,AV.free.freeL,AV.free,AF,AH, *])
 all_goals (simp [EA,FL] at *;try omega)
 all_goals (rw [Bool.eq_iff_iff];simp;omega)
theorem Ez (r:Int):call tb pr EQ [.int .i32 r] bar h=some (.bool (FL r),h):=by
 refine AQ OP (AZ rfl rfl (BJ ?_))
 simp [f_engramref9_Name,AO,go_sem,AN,AM,AA,AE,AD,AC,AV.free.freeL,AV.free,AF,AH]
 repeat' (first | refine Ey (fun hb=>?_) (fun hb=>?_)<;>simp [go_sem,AN,AM,AA,AE,AD,AC,AV.free.freeL,AV.free,AF,AH, *] | refine De (fun hb=>?_) (fun hb=>?_)<;>simp [go_sem,AN,AM,AA,AE,AD,AC,AV.free.freeL,AV.free,AF,AH, *])
 all_goals (simp [FL] at *;try omega)
 all_goals (rw [Bool.eq_iff_iff];simp;omega)
def Fk (s:ByteArray) (r:Int):Bool:=(runes s).any fun x=>(x.2:Int) == r
theorem Ia (s:ByteArray) (r:Int) (id:Nat) (hid:bar≤id) (Q:Ex→Env→H→Prop):∀ (n pos:Nat) (h:H),h.get id=some (.iter s pos)→s.size≤pos+n →
  (∀ e h,(BU s n pos).any (fun x=>(x.2:Int) == r)=true→e.get 4=some (.bool true)→Q .ret e h)→(∀ e h,(BU s n pos).any (fun x=>(x.2:Int) == r)=false→Q (.exit 0) e h) →
  CW (call tb pr) bar [1,8] l0_check_hasRune [(1,.int .i32 r),(8,.ptr id 0)] h Q:=by
 intro n
 induction n with
 | zero =>
  intro pos h hg hn h1 h2
  have:¬ pos<s.size:=by omega
  refine Ad l0_check_hasRune.eq_1 ?_
  simp [go_sem,hg,hid,this]
  exact h2 _ _ (by simp [BU])
 | succ n ih =>
  intro pos h hg hn h1 h2
  refine Ad l0_check_hasRune.eq_1 ?_
  by_cases this:pos<s.size
  ·simp [go_sem,hg,hid,this]
   have hd:=Hq s pos
   refine De (fun he=>?_) (fun he=>?_)<;>simp [go_sem]
   ·exact h1 _ _ (by simp [BU,this,he]) (by simp [Env.get])
   ·exact ih (pos+(Utf8.decode s pos).2) _ (by simp [H.set]) (by omega) (fun e h g=>h1 e h (by simp [BU,this,he,g])) (fun e h g=>h2 e h (by simp only [BU,this,if_true,List.any_cons,he,g];rfl))
  ·simp [go_sem,hg,hid,this]
   exact h2 _ _ (by simp [BU,this])
theorem PG (s:ByteArray) (r:Int):call tb pr FH [.str s,.int .i32 r] bar h=some (.bool (Fk s r),h):=by
 refine AQ PW (AZ rfl rfl (BJ ?_))
 simp [f_check_hasRune,AO,go_sem]
 refine Ia s r h.n (Nat.le_refl _) _ s.size 0 _ (by simp [H.alloc]) (by omega) (fun e h1 g1 g2=>?_) (fun e h1 g1=>?_)
 ·simp [go_sem,AN,AM,AA,AE,AD,AC,AV.free.freeL,AV.free,AF,AH,g2,Fk,runes,g1]
 ·simp [go_sem,AN,AM,AA,AE,AD,AC,AV.free.freeL,AV.free,AF,AH,Fk,runes,g1]
theorem bT:Iq=l0_check_hasRune:=rfl
theorem DQ (s:ByteArray) (r:Int):call tb pr CS [.str s,.int .i32 r] bar h=some (.bool (Fk s r),h):=by
 refine AQ Oj (AZ rfl rfl (BJ ?_))
 simp [f_engramref9_has,AO,go_sem]
 rw [bT]
 refine Ia s r h.n (Nat.le_refl _) _ s.size 0 _ (by simp [H.alloc]) (by omega) (fun e h1 g1 g2=>?_) (fun e h1 g1=>?_)
 ·simp [go_sem,AN,AM,AA,AE,AD,AC,AV.free.freeL,AV.free,AF,AH,g2,Fk,runes,g1]
 ·simp [go_sem,AN,AM,AA,AE,AD,AC,AV.free.freeL,AV.free,AF,AH,Fk,runes,g1]
def signsB:ByteArray:=⟨#[43,45,42,47,37,38,124,94,60,61,33,46,44,64,36,35,63,58,59,91,93,126,194,171,194,187,194,169,194,174,194,164,194,161,206,187,207,128]⟩
def Cb (r:Int):Bool:=decide (97≤r∧r≤122∨65≤r∧r≤90)||Fk signsB r
theorem Em (r:Int):call tb pr Dw [.int .i32 r] bar h=some (.bool (Cb r),h):=by
 refine AQ NM (AZ rfl rfl (BJ ?_))
 simp [f_engramref9_Known,AO,go_sem,AN,AM,AA,AE,AD,AC,AV.free.freeL,AV.free,AF,AH]
 repeat' (first | refine Ey (fun hb=>?_) (fun hb=>?_)<;>simp [go_sem,AN,AM,AA,AE,AD,AC,AV.free.freeL,AV.free,AF,AH,DQ, *] | refine De (fun hb=>?_) (fun hb=>?_)<;>simp [go_sem,AN,AM,AA,AE,AD,AC,AV.free.freeL,AV.free,AF,AH, *])
 all_goals (simp at hb)
 all_goals first
  | (unfold Cb;rw [decide_eq_false (by simp at *;omega)];rfl)
  | (unfold Cb;rw [decide_eq_true (by simp at *;omega)];rfl)
theorem PK (s:ByteArray) (r:Int) (id:Nat) (hid:bar≤id) (Q:Ex→Env→H→Prop):∀ (n pos:Nat) (h:H),h.get id=some (.iter s pos)→s.size≤pos+n →
  (∀ e h,(BU s n pos).any (fun x=>(x.2:Int) == r)=true→e.get 2=some (.bool true)→Q .ret e h)→(∀ e h,(BU s n pos).any (fun x=>(x.2:Int) == r)=false→Q (.exit 0) e h) →
  CW (call tb pr) bar [0,11] Gj [(0,.int .i32 r),(11,.ptr id 0)] h Q:=by
 intro n
 induction n with
 | zero =>
  intro pos h hg hn h1 h2
  have:¬ pos<s.size:=by omega
  refine Ad Gj.eq_1 ?_
  simp [go_sem,hg,hid,this]
  exact h2 _ _ (by simp [BU])
 | succ n ih =>
  intro pos h hg hn h1 h2
  refine Ad Gj.eq_1 ?_
  by_cases this:pos<s.size
  ·simp [go_sem,hg,hid,this]
   have hd:=Hq s pos
   refine De (fun he=>?_) (fun he=>?_)<;>simp [go_sem]
   ·exact h1 _ _ (by simp [BU,this,he]) (by simp [Env.get])
   ·exact ih (pos+(Utf8.decode s pos).2) _ (by simp [H.set]) (by omega) (fun e h g=>h1 e h (by simp [BU,this,he,g])) (fun e h g=>h2 e h (by simp only [BU,this,if_true,List.any_cons,he,g];rfl))
  ·simp [go_sem,hg,hid,this]
   exact h2 _ _ (by simp [BU,this])
theorem Kv (r:Int):call tb pr Fu [.int .i32 r] bar h=some (.bool (Cb r),h):=by
 refine AQ RG (AZ rfl rfl (BJ ?_))
 simp [f_glyph_Known,AO,go_sem,AN,AM,AA,AE,AD,AC,AV.free.freeL,AV.free,AF,AH,CN]
 repeat' (first | refine Ey (fun hb=>?_) (fun hb=>?_)<;>simp [go_sem,AN,AM,AA,AE,AD,AC,AV.free.freeL,AV.free,AF,AH,CN, *] | refine De (fun hb=>?_) (fun hb=>?_)<;>simp [go_sem,AN,AM,AA,AE,AD,AC,AV.free.freeL,AV.free,AF,AH, *])
 ·unfold Cb;rw [decide_eq_true (by simp at *;omega)];rfl
 ·unfold Cb;rw [decide_eq_true (by simp at *;omega)];rfl
 ·have hk:Cb r=Fk signsB r:=by unfold Cb;rw [decide_eq_false (by simp at *;omega)];rfl
  rw [hk]
  refine PK signsB r h.n (Nat.le_refl _) _ signsB.size 0 _ (by simp [H.alloc];rfl) (by omega) (fun e h1 g1 g2=>?_) (fun e h1 g1=>?_)
  ·simp [go_sem,AN,AM,AA,AE,AD,AC,AV.free.freeL,AV.free,AF,AH,g2,Fk,runes,g1]
  ·simp [go_sem,AN,AM,AA,AE,AD,AC,AV.free.freeL,AV.free,AF,AH,Fk,runes,g1]
end
end Go.Ev
namespace Go.Ev
open Go
structure Fn where
 name:Int
 args:Int
 code:ByteArray
def Fn.cells (f:Fn):List AV:=[.int .i32 f.name,.int .i64 f.args,.str f.code]
theorem Fn.cells_len (f:Fn):f.cells.length=3:=rfl
structure Tok where
 sign:Int
 n:Int
 name:Int
 deriving DecidableEq
def Tok.cells (t:Tok):List AV:=[.int .i32 t.sign,.int .i64 t.n,.int .i32 t.name]
theorem Tok.cells_len (t:Tok):t.cells.length=3:=rfl
def Ay (nm:Int):List Fn→Nat→Int
 | [],_=>-1
 | f::r,i=>if f.name == nm then i else Ay nm r (i+1)
def FV (h:H) (a:AV) (fs:List Fn):Prop:=Vw 3 h a fs.length (fs.flatMap Fn.cells)
theorem FV.mono {h h':H} {a:AV} {fs:List Fn} {b:Nat} (v:FV h a fs) (g:Ag b h h') (hb:h.n≤b):FV h' a fs:=Vw.mono v g hb
theorem Pp {fs:List Fn} {i:Nat} (hi:i<fs.length) (j:Nat) (hj:j<3):(fs.flatMap Fn.cells)[i*3+j]? = (fs[i]).cells[j]?:=JP Fn.cells_len fs i j _ hj (List.getElem?_eq_getElem hi)
theorem Sz {fs:List Fn} {i:Nat} (hi:i<fs.length):((fs.flatMap Fn.cells).drop (i*3)).take 3=(fs[i]).cells:=IL Fn.cells_len fs i _ (List.getElem?_eq_getElem hi)
theorem To {fs:List Fn} {all:List AV} {off:Nat} (hc:(all.drop off).take (fs.length*3)=fs.flatMap Fn.cells) {i:Nat} (hi:i<fs.length) (j:Nat) (hj:j<3):all[off+i*3+j]? = (fs[i]).cells[j]?:=by
 rw [← Pp hi j hj,← hc,List.getElem?_take_of_lt (by omega),List.getElem?_drop,Nat.add_assoc]
theorem cQ {fs:List Fn} {all:List AV} {off:Nat} (hc:(all.drop off).take (fs.length*3)=fs.flatMap Fn.cells) {i:Nat} (hi:i<fs.length):(all.drop (off+i*3)).take 3=(fs[i]).cells:=by
 rw [← Sz hi,← hc,List.drop_take,List.drop_drop,List.take_take,Nat.min_eq_left (by omega)]
theorem FV.cases {h:H} {a:AV} {fs:List Fn} (v:FV h a fs):(a=.nilsl∧fs=[]) ∨
  (∃ full cs,a=.fz 3 fs.length cs full∧(cs.length=fs.length*3)=True∧(∀ i (hi:i<fs.length),cs[i*3]? = some (.int .i32 fs[i].name)∧cs[i*3+1]? = some (.int .i64 fs[i].args)∧cs[i*3+2]? = some (.str fs[i].code)) ∧
   ∀ i (hi:i<fs.length),i*3+3≤cs.length∧(cs.drop (i*3)).take 3=fs[i].cells) ∨
  ∃ id off full all p,a=.sl id off 3 fs.length full∧id<h.n∧h.get id=some (.cells all p) ∧
   (∀ i (hi:i<fs.length),all[off+i*3]? = some (.int .i32 fs[i].name)∧all[off+i*3+1]? = some (.int .i64 fs[i].args)∧all[off+i*3+2]? = some (.str fs[i].code)) ∧
   ∀ i (hi:i<fs.length),off+i*3+3≤all.length∧(all.drop (off+i*3)).take 3=fs[i].cells:=by
 obtain ⟨h1,h2,h3⟩:=v
 rcases h3 with ⟨h3,h4⟩ | ⟨full,h3⟩ | ⟨id,off,full,all,p,e1,e2,e3,e4,e5⟩
 ·exact .inl ⟨h3,List.length_eq_zero_iff.mp h4⟩
 ·refine .inr (.inl ⟨full,_,h3,by simp only [h1],fun i hi=>⟨Pp hi 0 (by omega),Pp hi 1 (by omega),Pp hi 2 (by omega)⟩,fun i hi=>⟨by rw [h1];omega,Sz hi⟩⟩)
 ·refine .inr (.inr ⟨id,off,full,all,p,e1,e2,e3,fun i hi=>⟨To e5 hi 0 (by omega),To e5 hi 1 (by omega),To e5 hi 2 (by omega)⟩,fun i hi=>⟨by omega,cQ e5 hi⟩⟩)
section
variable {pr:Oracle} {bar:Nat} {h:H}
theorem SG (fs:List Fn) (a:AV) (nm p m:Int) (h0 g:H) (hv:FV h0 a fs) (hg:Ag h0.n h0 g) (id q:Nat) (hid:g.get id=some (.cells [.int .i64 p,.int .i64 m,a] q)) (Q:Ex→Env→H→Prop):∀ (k i:Nat),fs.length=i+k →
  (∀ e,e.get 4=some (.int .i64 (Ay nm (fs.drop i) i))→Q .ret e g)→(∀ e,Ay nm (fs.drop i) i=-1→Q (.exit 0) e g) →
  CW (call tb pr) bar [1,2,8,9] FD [(1,.int .i32 nm),(2,.ptr id 0),(8,As fs.length),(9,As i)] g Q:=by
 intro k
 induction k with
 | zero =>
  intro i hk h1 h2
  refine Ad FD.eq_1 ?_
  simp [go_sem,hk]
  exact h2 _ (by rw [List.drop_eq_nil_of_le (by omega)];rfl)
 | succ k ih =>
  intro i hk h1 h2
  refine Ad FD.eq_1 ?_
  have hi:i<fs.length:=by omega
  have hb:(i:Int)<(fs.length:Int):=by omega
  have hd:fs.drop i=fs[i]::fs.drop (i+1):=List.drop_eq_getElem_cons hi
  have hw:=BF (n:=i) (by have:=hv.2.1;omega)
  rcases hv.cases with ⟨rfl,rfl⟩ | ⟨full,cs,rfl,hl,hx,hy⟩ | ⟨id',off,full,all,p',rfl,hlt,hg',hx,hy⟩
  ·cases hi
  ·simp [go_sem,hid,hb,hi,AJ,hx i hi,hl]
   refine De (fun he=>?_) (fun he=>?_)<;>simp [go_sem,hw]
   ·exact h1 _ (by rw [hd];simp [Env.get,Ay,he])
   ·exact ih (i+1) (by omega) (fun e h3=>h1 e (by rw [hd];simpa [Ay,he] using h3)) (fun e h3=>h2 e (by rw [hd];simpa [Ay,he] using h3))
  ·have hg2:=(hg.2 _ hlt).trans hg'
   simp [go_sem,hid,hb,hi,AJ,hx i hi,hg2]
   refine De (fun he=>?_) (fun he=>?_)<;>simp [go_sem,hw]
   ·exact h1 _ (by rw [hd];simp [Env.get,Ay,he])
   ·exact ih (i+1) (by omega) (fun e h3=>h1 e (by rw [hd];simpa [Ay,he] using h3)) (fun e h3=>h2 e (by rw [hd];simpa [Ay,he] using h3))
theorem Nb (fs:List Fn) (a:AV) (nm p m:Int) (hv:FV h a fs):call tb pr DU [.agg [.int .i64 p,.int .i64 m,a],.int .i32 nm] bar h=some (.int .i64 (Ay nm fs 0),h):=by
 refine AQ ON (AZ rfl rfl (BJ ?_))
 simp [f_engramref9_Find,AO,go_sem,hv.one,AK,hv.len]
 refine SG fs a nm p m h _ hv (Ag.alloc _ (Nat.le_refl _)) h.n 0 (by simp [AK]) _ fs.length 0 (by omega) (fun e h1=>?_) (fun e h1=>?_)
 ·simp [go_sem,AN,AM,AA,AE,AD,AC,AV.free.freeL,AV.free,AF,AH,h1]
 ·simp [go_sem,AN,AM,AA,AE,AD,AC,AV.free.freeL,AV.free,AF,AH];exact h1.symm
theorem Ph (fs:List Fn) (a:AV) (nm:Int) (h0:H) (hv:FV h0 a fs) (hb0:h0.n≤bar) (b:Nat) (hb':bar≤b) (id q:Nat) (hid:id<b) (Q:Ex→Env→H→Prop):∀ (k i:Nat) (g:H),fs.length=i+k→Ag h0.n h0 g→b≤g.n→g.get id=some (.cells [.int .i32 nm] q) →
  (∀ e g',Ag b g g'→e.get 4=some (.int .i64 (Ay nm (fs.drop i) i))→Q .ret e g')→(∀ e g',Ag b g g'→Ay nm (fs.drop i) i=-1→Q (.exit 0) e g') →
  CW (call tb pr) bar [0,1,7,8] Bk [(0,a),(1,.fn Cv [.ptr id 0]),(7,As fs.length),(8,As i)] g Q:=by
 intro k
 induction k with
 | zero =>
  intro i g hk hg hbn hi0 h1 h2
  refine Ad Bk.eq_1 ?_
  simp [go_sem,hk]
  exact h2 _ _ (Ag.refl _ _) (by rw [List.drop_eq_nil_of_le (by omega)];rfl)
 | succ k ih =>
  intro i g hk hg hbn hi0 h1 h2
  refine Ad Bk.eq_1 ?_
  have hi:i<fs.length:=by omega
  have hb:(i:Int)<(fs.length:Int):=by omega
  have hd:fs.drop i=fs[i]::fs.drop (i+1):=List.drop_eq_getElem_cons hi
  have hw:=BF (n:=i) (by have:=hv.2.1;omega)
  have hne:id≠g.n:=by omega
  have hA:Ag b g (g.alloc (.cells fs[i].cells 0)):=Ag.alloc _ (by omega)
  have hcl:call tb pr Cv [.agg fs[i].cells,.ptr id 0] bar g=some (.bool (fs[i].name == nm),g.alloc (.cells fs[i].cells 0)):=by
   refine AQ QV ?_
   obtain ⟨r,h',hc,hr,rfl⟩:=JJ (o:=call tb pr) (F:=f_check_Find_1) (bar:=bar) (h:=g) (args:=[.agg fs[i].cells,.ptr id 0]) (K:=fun r h'=>r=.bool (fs[i].name == nm)∧h'=g.alloc (.cells fs[i].cells 0)) rfl rfl (BJ (by
    simp [f_check_Find_1,AO,go_sem,AN,AM,AA,AE,AD,AC,AV.free.freeL,AV.free,AF,AH,Fn.cells,AK,hne,hi0]))
   rw [hc,hr]
  rcases hv.cases with ⟨rfl,rfl⟩ | ⟨full,cs,rfl,hl,hx,hy⟩ | ⟨id',off,full,all,p',rfl,hlt,hg',hx,hy⟩
  ·cases hi
  ·simp [go_sem,hb,hi,AJ,hl,hcl,hy i hi]
   refine De (fun he=>?_) (fun he=>?_)<;>simp [go_sem,hw]
   ·exact h1 _ _ hA (by rw [hd];simp [Env.get,Ay,he])
   ·exact ih (i+1) _ (by omega) (hg.trans (Ag.alloc _ (by omega))) (by simp only [AP];omega) (by rw [AK,if_neg hne];exact hi0) (fun e g' h4 h3=>h1 e g' (hA.trans h4) (by rw [hd];simpa [Ay,he] using h3)) (fun e g' h4 h3=>h2 e g' (hA.trans h4) (by rw [hd];simpa [Ay,he] using h3))
  ·have hg2:=(hg.2 _ hlt).trans hg'
   simp [go_sem,hb,hi,AJ,hg2,hcl,hy i hi]
   refine De (fun he=>?_) (fun he=>?_)<;>simp [go_sem,hw]
   ·exact h1 _ _ hA (by rw [hd];simp [Env.get,Ay,he])
   ·exact ih (i+1) _ (by omega) (hg.trans (Ag.alloc _ (by omega))) (by simp only [AP];omega) (by rw [AK,if_neg hne];exact hi0) (fun e g' h4 h3=>h1 e g' (hA.trans h4) (by rw [hd];simpa [Ay,he] using h3)) (fun e g' h4 h3=>h2 e g' (hA.trans h4) (by rw [hd];simpa [Ay,he] using h3))
theorem NF (fs:List Fn) (a:AV) (nm:Int) (h0 g:H) (hv:FV h0 a fs) (hb0:h0.n≤bar) (hg:Ag h0.n h0 g) (id q:Nat) (hid:id<g.n) (hbn:bar≤g.n) (hi0:g.get id=some (.cells [.int .i32 nm] q)) :
  ∃ r g',call tb pr BT [a,.fn Cv [.ptr id 0]] bar g=some (r,g')∧r=.int .i64 (Ay nm fs 0):=by
 obtain ⟨r,g',hc,hr⟩:=JJ (o:=call tb pr) (F:=f_slices_IndexFunc_api_Func_api_Func) (bar:=bar) (h:=g) (args:=[a,.fn Cv [.ptr id 0]]) (K:=fun r h'=>r=.int .i64 (Ay nm fs 0)) rfl rfl (BJ (by
  simp [f_slices_IndexFunc_api_Func_api_Func,AO,go_sem,hv.len]
  refine Ph fs a nm h0 hv hb0 g.n hbn id q hid _ fs.length 0 g (by omega) hg (Nat.le_refl _) hi0 (fun e g' _ h1=>?_) (fun e g' _ h1=>?_)
  ·simp [go_sem,AN,AM,AA,AE,AD,AC,AV.free.freeL,AV.free,AF,AH,h1]
  ·simp [go_sem,AN,AM,AA,AE,AD,AC,AV.free.freeL,AV.free,AF,AH];exact h1.symm))
 exact ⟨r,g',AQ GL hc,hr⟩
theorem HD (fs:List Fn) (a:AV) (nm p m:Int) (hv:FV h a fs):call tb pr DI [.agg [.int .i64 p,.int .i64 m,a],.int .i32 nm] bar h=some (.int .i64 (Ay nm fs 0),h):=by
 refine AQ SK (AZ rfl rfl (BJ ?_))
 obtain ⟨r,g',hc,rfl⟩:=NF (pr:=pr) (bar:=h.n) fs a nm h ((h.alloc (.cells [.int .i64 p,.int .i64 m,a] 0)).alloc (.cells [.int .i32 nm] 0)) hv (Nat.le_refl _) ((Ag.alloc _ (Nat.le_refl _)).trans (Ag.alloc _ (by simp [AP]))) (h.n+1) 0 (by simp [AP]) (by simp [AP];omega) (by simp [AK,AP])
 simp [f_check_Find,AO,go_sem,hv.one,AK,AP,AN,AM,AA,AE,AD,AC,AV.free.freeL,AV.free,AF,AH,hc]
end
end Go.Ev
namespace Go.Ev
open Go
theorem Iv (nm:Int):∀ (fs:List Fn) (j:Nat),Ay nm fs j=-1∨∃ i,i<fs.length∧Ay nm fs j=((j+i:Nat):Int)
 | [],j=>.inl rfl
 | f::r,j=>by
  simp only [Ay]
  cases hf:f.name == nm with
  | true=>exact .inr ⟨0,by simp,by simp⟩
  | false =>
   rcases Iv nm r (j+1) with h | ⟨i,h1,h2⟩
   ·exact .inl (by simpa using h)
   ·exact .inr ⟨i+1,by simpa using h1,by simp only [Bool.false_eq_true,if_false,h2];omega⟩
def Yq:ByteArray:=⟨#[43,45,42,47,37,38,124,94,60,61,194,171,194,187]⟩
def cY:ByteArray:=⟨#[33,64,194,169,194,164,207,128]⟩
def cU:ByteArray:=⟨#[36,194,174]⟩
def ay:ByteArray:=⟨#[58,59,91,93,126,194,161]⟩
def FT (r:Int):Bool:=decide (r=43∨r=45∨r=42∨r=47∨r=37∨r=38∨r=124∨r=94∨r=60∨r=61∨r=171∨r=187)
def GB (r:Int):Bool:=decide (r=33∨r=64∨r=169∨r=164∨r=960)
def Xx (r:Int):Bool:=decide (r=36∨r=174)
def GG (r:Int):Bool:=decide (r=58∨r=59∨r=91∨r=93∨r=126∨r=161)
theorem HO (r:Int):Fk ⟨#[43,45,42,47,37,38,124,94,60,61,194,171,194,187]⟩ r=FT r:=by
 have:runes Yq=[(0,43),(1,45),(2,42),(3,47),(4,37),(5,38),(6,124),(7,94),(8,60),(9,61),(10,171),(12,187)]:=by decide +kernel
 show (runes Yq).any _=_
 rw [this,Bool.eq_iff_iff];simp [FT];omega
theorem IN (r:Int):Fk ⟨#[33,64,194,169,194,164,207,128]⟩ r=GB r:=by
 have:runes cY=[(0,33),(1,64),(2,169),(4,164),(6,960)]:=by decide +kernel
 show (runes cY).any _=_
 rw [this,Bool.eq_iff_iff];simp [GB];omega
theorem Ug (r:Int):Fk ⟨#[36,194,174]⟩ r=Xx r:=by
 have:runes cU=[(0,36),(1,174)]:=by decide +kernel
 show (runes cU).any _=_
 rw [this,Bool.eq_iff_iff];simp [Xx];omega
theorem HP (r:Int):Fk ⟨#[58,59,91,93,126,194,161]⟩ r=GG r:=by
 have:runes ay=[(0,58),(1,59),(2,91),(3,93),(4,126),(5,161)]:=by decide +kernel
 show (runes ay).any _=_
 rw [this,Bool.eq_iff_iff];simp [GG];omega
def IV (fs:List Fn) (nm:Int):Int × Int × Bool :=
 match fs[(Ay nm fs 0).toNat]? with
 | some f=>if 0≤Ay nm fs 0∧0≤f.args∧f.args≤4 then (f.args,1,true) else (0,0,false)
 | none=>(0,0,false)
def Am (fs:List Fn) (s nm:Int):Int × Int × Bool :=
 if s=48∨97≤s∧s≤122∨s=35 then (0,1,true) else
 if 65≤s∧s≤90∨s=44 then (1,0,true) else
 if s=46 then (1,2,true) else
 if FT s then (2,1,true) else
 if GB s then (1,1,true) else
 if s=36∨s=174 then (2,0,true) else
 if s=63 then (1,0,true) else
 if GG s then (0,0,true) else
 if s=955 then IV fs nm else (0,0,false)
section
variable {fs:List Fn} {s nm:Int}
theorem T1 (h:s=48∨97≤s∧s≤122∨s=35):Am fs s nm=(0,1,true):=by unfold Am;rw [if_pos h]
theorem T2 (h:65≤s∧s≤90∨s=44):Am fs s nm=(1,0,true):=by unfold Am;rw [if_neg (by omega),if_pos h]
theorem T3 (h:s=46):Am fs s nm=(1,2,true):=by unfold Am;rw [if_neg (by omega),if_neg (by omega),if_pos h]
theorem T4 (h:FT s=true):Am fs s nm=(2,1,true):=by
 have:=h;simp [FT] at this
 unfold Am;rw [if_neg (by omega),if_neg (by omega),if_neg (by omega),if_pos h]
theorem T5 (h:GB s=true):Am fs s nm=(1,1,true):=by
 have:=h;simp [GB] at this
 unfold Am;rw [if_neg (by omega),if_neg (by omega),if_neg (by omega),if_neg (by simp [FT];omega),if_pos h]
theorem T6 (h:s=36∨s=174):Am fs s nm=(2,0,true):=by
 unfold Am;rw [if_neg (by omega),if_neg (by omega),if_neg (by omega),if_neg (by simp [FT];omega),if_neg (by simp [GB];omega),if_pos h]
theorem T7 (h:s=63):Am fs s nm=(1,0,true):=by
 unfold Am;rw [if_neg (by omega),if_neg (by omega),if_neg (by omega),if_neg (by simp [FT];omega),if_neg (by simp [GB];omega),if_neg (by omega),if_pos h]
theorem T8 (h:GG s=true):Am fs s nm=(0,0,true):=by
 have:=h;simp [GG] at this
 unfold Am;rw [if_neg (by omega),if_neg (by omega),if_neg (by omega),if_neg (by simp [FT];omega),if_neg (by simp [GB];omega),if_neg (by omega),if_neg (by omega),if_pos h]
theorem T9 (h:s=955):Am fs s nm=IV fs nm:=by
 unfold Am;rw [if_neg (by omega),if_neg (by omega),if_neg (by omega),if_neg (by simp [FT];omega),if_neg (by simp [GB];omega),if_neg (by omega),if_neg (by omega),if_neg (by simp [GG];omega),if_pos h]
theorem T0 (h1:¬(s=48∨97≤s∧s≤122∨s=35)) (h2:¬(65≤s∧s≤90∨s=44)) (h3:s≠46) (h4:FT s=false) (h5:GB s=false) (h6:¬(s=36∨s=174)) (h7:s≠63) (h8:GG s=false) (h9:s≠955):Am fs s nm=(0,0,false):=by
 unfold Am;rw [if_neg h1,if_neg h2,if_neg h3,if_neg (by simp [h4]),if_neg (by simp [h5]),if_neg h6,if_neg h7,if_neg (by simp [h8]),if_neg h9]
end
section
variable {pr:Oracle} {bar:Nat} {h:H}
theorem Mq (fs:List Fn) (a:AV) (s n nm p m:Int) (hv:FV h a fs):call tb pr DD [.agg [.int .i64 p,.int .i64 m,a],.agg [.int .i32 s,.int .i64 n,.int .i32 nm]] bar h =
  some (.tup [.int .i64 (Am fs s nm).1,.int .i64 (Am fs s nm).2.1,.bool (Am fs s nm).2.2],h):=by
 refine AQ NN (AZ rfl rfl (BJ ?_))
 have hv2:∀ (x y:HObj),FV ((h.alloc x).alloc y) a fs:=fun x y=>hv.mono ((Ag.alloc _ (Nat.le_refl _)).trans (Ag.alloc _ (by simp [AP]))) (Nat.le_refl _)
 have hf:∀ (x y:HObj) b,call tb pr DU [.agg [.int .i64 p,.int .i64 m,a],.int .i32 nm] b ((h.alloc x).alloc y)=some (.int .i64 (Ay nm fs 0),(h.alloc x).alloc y):=fun x y b=>Nb fs a nm p m (hv2 x y)
 by_cases h9:s=955
 ·subst h9
  rw [T9 rfl]
  unfold IV
  have hd1:FT 955=false:=by decide
  have hd2:GB 955=false:=by decide
  have hd3:GG 955=false:=by decide
  rcases Iv nm fs 0 with hn | ⟨i,hi,hn⟩
  ·simp [f_engramref9_Takes,AO,go_sem,hv.one,AB,DQ,HO,IN,HP,hf,hd1,hd2,hd3,hn,AN,AM,AA,AE,AD,AC,AV.free.freeL,AV.free,AF,AH]
   cases fs[0]?<;>simp
  ·have hn':Ay nm fs 0=(i:Int):=by rw [hn,Nat.zero_add]
   have hb:(i:Int)<(fs.length:Int):=by omega
   rcases hv.cases with ⟨rfl,rfl⟩ | ⟨full,cs,rfl,hl,hx,hy⟩ | ⟨id',off,full,all,p',rfl,hlt,hg',hx,hy⟩
   ·cases hi
   ·simp [f_engramref9_Takes,AO,go_sem,AB,DQ,HO,IN,HP,hf,hd1,hd2,hd3,hn',hb,hi,AJ,hl,hx i hi]
    repeat' (first | refine Ey (fun hc=>?_) (fun hc=>?_)<;>simp [go_sem,AN,AM,AA,AE,AD,AC,AV.free.freeL,AV.free,AF,AH,AB,hb,hi,AJ,hl,hx i hi,hc] | refine De (fun hc=>?_) (fun hc=>?_)<;>simp [go_sem,AN,AM,AA,AE,AD,AC,AV.free.freeL,AV.free,AF,AH,AB,hb,hi,AJ,hl,hx i hi,hc])
    all_goals (simp only [decide_eq_true_eq,decide_eq_false_iff_not] at *;first | rw [if_pos (by omega)] | rw [if_neg (by omega)])
    all_goals simp
   ·have e1:id'≠h.n:=by omega
    have e2:id'≠h.n+1:=by omega
    simp [f_engramref9_Takes,AO,go_sem,AB,DQ,HO,IN,HP,hf,hd1,hd2,hd3,hn',hb,hi,AJ,hx i hi,e1,e2,hg']
    repeat' (first | refine Ey (fun hc=>?_) (fun hc=>?_)<;>simp [go_sem,AN,AM,AA,AE,AD,AC,AV.free.freeL,AV.free,AF,AH,AB,hb,hi,AJ,hx i hi,hc,e1,e2,hg'] | refine De (fun hc=>?_) (fun hc=>?_)<;>simp [go_sem,AN,AM,AA,AE,AD,AC,AV.free.freeL,AV.free,AF,AH,AB,hb,hi,AJ,hx i hi,hc,e1,e2,hg'])
    all_goals (simp only [decide_eq_true_eq,decide_eq_false_iff_not] at *;first | rw [if_pos (by omega)] | rw [if_neg (by omega)])
    all_goals simp
 simp [f_engramref9_Takes,AO,go_sem,hv.one,AB]
 have h9':(s == 955)=false:=by simpa using h9
 repeat' (first | refine Ey (fun hb=>?_) (fun hb=>?_)<;>simp [go_sem,AN,AM,AA,AE,AD,AC,AV.free.freeL,AV.free,AF,AH,AB,DQ,HO,IN,HP, *] | refine De (fun hb=>?_) (fun hb=>?_)<;>simp [go_sem,AN,AM,AA,AE,AD,AC,AV.free.freeL,AV.free,AF,AH,AB,DQ,HO,IN,HP, *])
 all_goals try clear hf hv2
 all_goals first
  | (rw [T4 hb];exact ⟨rfl,rfl,rfl⟩)
  | (rw [T5 hb];exact ⟨rfl,rfl,rfl⟩)
  | (rw [T8 hb];exact ⟨rfl,rfl,rfl⟩)
  | (simp at hb;first | (rw [T1 (by omega)];exact ⟨rfl,rfl,rfl⟩) | (rw [T2 (by omega)];exact ⟨rfl,rfl,rfl⟩) | (rw [T3 hb];exact ⟨rfl,rfl,rfl⟩) | (rw [T6 (by omega)];exact ⟨rfl,rfl,rfl⟩) | (rw [T7 hb];exact ⟨rfl,rfl,rfl⟩))
  | (simp at *;first | (rw [T1 (by omega)];exact ⟨rfl,rfl,rfl⟩) | (rw [T2 (by omega)];exact ⟨rfl,rfl,rfl⟩))
  | (rw [T0 (by simp at *;omega) (by simp at *;omega) (by simp at *;omega) (by assumption) (by assumption) (by simp at *;omega) (by simp at *;omega) (by assumption) (by simp at *;omega)];exact ⟨rfl,rfl,rfl⟩)
theorem PF (x:ByteArray) (s:Int) (id q:Nat) (hi:h.get id=some (.cells [.int .i32 s] q)):call tb pr EH [.str x,.ptr id 0] bar h=some (.bool (Fk x s),h):=by
 refine AQ PV ?_
 obtain ⟨r,h',hc,hr,rfl⟩:=JJ (o:=call tb pr) (F:=f_check_Takes_1) (bar:=bar) (h:=h) (args:=[.str x,.ptr id 0]) (K:=fun r h'=>r=.bool (Fk x s)∧h'=h) rfl rfl (BJ (by
  simp [f_check_Takes_1,AO,go_sem,AN,AM,AA,AE,AD,AC,AV.free.freeL,AV.free,AF,AH,hi,PG]))
 rw [hc,hr]
theorem Qi (fs:List Fn) (a:AV) (s n nm p m:Int) (hv:FV h a fs):call tb pr Eu [.agg [.int .i64 p,.int .i64 m,a],.agg [.int .i32 s,.int .i64 n,.int .i32 nm]] bar h =
  some (.tup [.int .i64 (Am fs s nm).1,.int .i64 (Am fs s nm).2.1,.bool (Am fs s nm).2.2],h):=by
 refine AQ RF (AZ rfl rfl (BJ ?_))
 have hA:∀ (x y z w:HObj),Ag h.n h ((((h.alloc x).alloc y).alloc z).set (h.n+2) w):=fun x y z w=>(((Ag.alloc _ (Nat.le_refl _)).trans (Ag.alloc _ (by simp [AP]))).trans (Ag.alloc _ (by simp [AP];omega))).trans (Ag.set _ _ (by omega))
 have hf:∀ (x y z w:HObj) b,call tb pr DI [.agg [.int .i64 p,.int .i64 m,a],.int .i32 nm] b ((((h.alloc x).alloc y).alloc z).set (h.n+2) w)=some (.int .i64 (Ay nm fs 0),(((h.alloc x).alloc y).alloc z).set (h.n+2) w):=fun x y z w b=>HD fs a nm p m (hv.mono (hA x y z w) (Nat.le_refl _))
 have ht:∀ (x:ByteArray) b (y z w:HObj),call tb pr EH [.str x,.ptr (h.n+2) 0] b ((((h.alloc y).alloc z).alloc w).set (h.n+2) (.cells [.int .i32 s] 0))=some (.bool (Fk x s),(((h.alloc y).alloc z).alloc w).set (h.n+2) (.cells [.int .i32 s] 0)):=fun x b y z w=>PF x s _ 0 (by simp [AU])
 by_cases h9:s=955
 ·subst h9
  rw [T9 rfl]
  unfold IV
  rcases Iv nm fs 0 with hn | ⟨i,hi,hn⟩
  ·simp [f_check_Takes,AO,go_sem,hv.one,AB,AL,hf,hn,AN,AM,AA,AE,AD,AC,AV.free.freeL,AV.free,AF,AH]
   cases fs[0]?<;>simp
  ·have hn':Ay nm fs 0=(i:Int):=by rw [hn,Nat.zero_add]
   have hb:(i:Int)<(fs.length:Int):=by omega
   have hlt0:¬ ((i:Int)<0):=by omega
   rcases hv.cases with ⟨rfl,rfl⟩ | ⟨full,cs,rfl,hl,hx,hy⟩ | ⟨id',off,full,all,p',rfl,hlt,hg',hx,hy⟩
   ·cases hi
   ·simp [f_check_Takes,AO,go_sem,AB,AL,hf,hn',hb,hi,AJ,hl,hx i hi,hlt0]
    repeat' (first | refine Ey (fun hc=>?_) (fun hc=>?_)<;>simp [go_sem,AN,AM,AA,AE,AD,AC,AV.free.freeL,AV.free,AF,AH,AB,hb,hi,AJ,hl,hx i hi,hc] | refine De (fun hc=>?_) (fun hc=>?_)<;>simp [go_sem,AN,AM,AA,AE,AD,AC,AV.free.freeL,AV.free,AF,AH,AB,hb,hi,AJ,hl,hx i hi,hc])
    all_goals (simp only [decide_eq_true_eq,decide_eq_false_iff_not] at *;first | rw [if_pos (by omega)] | rw [if_neg (by omega)])
    all_goals simp
   ·have e1:id'≠h.n:=by omega
    have e2:id'≠h.n+1:=by omega
    have e3:id'≠h.n+2:=by omega
    simp [f_check_Takes,AO,go_sem,AB,AL,hf,hn',hb,hi,AJ,hx i hi,hlt0,e1,e2,e3,hg']
    repeat' (first | refine Ey (fun hc=>?_) (fun hc=>?_)<;>simp [go_sem,AN,AM,AA,AE,AD,AC,AV.free.freeL,AV.free,AF,AH,AB,hb,hi,AJ,hx i hi,hc,e1,e2,e3,hg'] | refine De (fun hc=>?_) (fun hc=>?_)<;>simp [go_sem,AN,AM,AA,AE,AD,AC,AV.free.freeL,AV.free,AF,AH,AB,hb,hi,AJ,hx i hi,hc,e1,e2,e3,hg'])
    all_goals (simp only [decide_eq_true_eq,decide_eq_false_iff_not] at *;first | rw [if_pos (by omega)] | rw [if_neg (by omega)])
    all_goals simp
 have h9':(s == 955)=false:=by simpa using h9
 have hst:Xx s=decide (s=36∨s=174):=rfl
 simp [f_check_Takes,AO,go_sem,hv.one,AB,AL,h9']
 repeat' (first | refine Ey (fun hb=>?_) (fun hb=>?_)<;>simp [go_sem,AN,AM,AA,AE,AD,AC,AV.free.freeL,AV.free,AF,AH,AB,HO,IN,Ug,HP, *] | refine De (fun hb=>?_) (fun hb=>?_)<;>simp [go_sem,AN,AM,AA,AE,AD,AC,AV.free.freeL,AV.free,AF,AH,AB,HO,IN,Ug,HP, *])
 all_goals try clear hf hA ht
 all_goals first
  | (rw [T4 hb];exact ⟨rfl,rfl,rfl⟩)
  | (rw [T5 hb];exact ⟨rfl,rfl,rfl⟩)
  | (rw [T8 hb];exact ⟨rfl,rfl,rfl⟩)
  | (simp at hb;first | (rw [T1 (by omega)];exact ⟨rfl,rfl,rfl⟩) | (rw [T2 (by omega)];exact ⟨rfl,rfl,rfl⟩) | (rw [T3 hb];exact ⟨rfl,rfl,rfl⟩) | (rw [T6 (by omega)];exact ⟨rfl,rfl,rfl⟩) | (rw [T7 hb];exact ⟨rfl,rfl,rfl⟩))
  | (simp at *;first | (rw [T1 (by omega)];exact ⟨rfl,rfl,rfl⟩) | (rw [T2 (by omega)];exact ⟨rfl,rfl,rfl⟩))
  | (rw [T0 (by simp at *;omega) (by simp at *;omega) (by simp at *;omega) (by assumption) (by assumption) (by simp at *;omega) (by simp at *;omega) (by assumption) (by simp at *;omega)];exact ⟨rfl,rfl,rfl⟩)
end
end Go.Ev
namespace Go.Ev
open Go
def KO (r:Int):List AV:=[.int .i32 r]
def Cj (s:ByteArray) (n pos:Nat):List Int:=(BU s n pos).map fun x=>(x.2:Int)
def DP (s:ByteArray):List Int:=(runes s).map fun x=>(x.2:Int)
theorem OE (s:ByteArray):∀ n pos,(BU s n pos).length≤n
 | 0,_=>by simp [BU]
 | n+1,pos=>by
  simp only [BU]
  split
  ·have:=OE s n (pos+(Utf8.decode s pos).2)
   simp only [List.length_cons];omega
  ·simp
section
variable {pr:Oracle} {bar:Nat} {h:H}
theorem Vr (s:ByteArray) (hs:s.size≤512) (id:Nat) (hid:bar≤id) (Q:Ex→Env→H→Prop):∀ (n pos:Nat) (g:H) (a:AV) (out:List Int),g.get id=some (.iter s pos)→s.size≤pos+n→id<g.n→bar≤g.n →
  OS 1 g bar a out.length (out.flatMap KO)→¬ a.isAt id→out.length≤pos →
  (∀ e g' a',e.get 3=some a'→OS 1 g' bar a' (out++Cj s n pos).length ((out++Cj s n pos).flatMap KO)→Q (.exit 0) e g') →
  CW (call tb pr) bar [3,7] Eo [(3,a),(7,.ptr id 0)] g Q:=by
 intro n
 induction n with
 | zero =>
  intro pos g a out hg hn hlt hb ho hat hle h1
  have:¬ pos<s.size:=by omega
  refine Ad Eo.eq_1 ?_
  simp [go_sem,hg,hid,this]
  exact h1 _ _ _ rfl (by simpa [Cj,BU] using ho)
 | succ n ih =>
  intro pos g a out hg hn hlt hb ho hat hle h1
  refine Ad Eo.eq_1 ?_
  by_cases this:pos<s.size
  ·have hd:=Hq s pos
   have ho':OS 1 (g.set id (.iter s (pos+(Utf8.decode s pos).2))) bar a out.length (out.flatMap KO):=ho.set _ hat
   obtain ⟨a',g',e1,e2,e3,e4,e5⟩:=ho'.app (by simpa [AW] using hb) 4 (KO (Utf8.decode s pos).1) rfl rfl (by omega) (by omega) (by omega)
   simp only [KO,AW] at e1 e3 e4 e5
   simp [go_sem,AB,hg,hid,this,AX,Af,AL,e1]
   refine ih (pos+(Utf8.decode s pos).2) g' a' (out++[((Utf8.decode s pos).1:Int)]) ?_ (by omega) (by omega) (by omega) (by simpa using e2) (fun hj=>by have:=e5 _ hj;omega) (by simp;omega) (fun e g2 a2 h2 h3=>h1 e g2 a2 h2 ?_)
   ·rw [e4 id hlt hat,AU,if_pos rfl]
   ·simpa [Cj,BU,this] using h3
  ·simp [go_sem,hg,hid,this]
   exact h1 _ _ _ rfl (by simpa [Cj,BU,this] using ho)
theorem XT (l:List Int):(l.flatMap KO).all AV.still=true:=by
 rw [List.all_eq_true];intro x hx;rw [List.mem_flatMap] at hx;obtain ⟨r,_,hx⟩:=hx;simp [KO] at hx;subst hx;rfl
theorem Mr (s:ByteArray) (hs:s.size≤512):∃ a,call tb pr Dx [.str s] bar h=some (a,h)∧FzV 1 a (DP s).length ((DP s).flatMap KO):=by
 suffices hw:∃ a,BK (call tb pr) f_engramref9_runes [.str s] bar h=some (a,h)∧FzV 1 a (DP s).length ((DP s).flatMap KO) by
  obtain ⟨a,h1,h2⟩:=hw;exact ⟨a,AQ NO h1,h2⟩
 refine Gv rfl rfl (BJ ?_)
 simp [f_engramref9_runes,AO,go_sem]
 refine Vr s hs h.n (Nat.le_refl _) _ s.size 0 _ .nilsl [] (by simp [AK]) (by omega) (by simp [AP]) (by simp [AP]) OS.nil (by simp [AV.isAt]) (by simp) (fun e g' a' h1 h2=>?_)
 obtain ⟨a2,h3,h4,h5⟩:=h2.freeze (XT _) (by have:=OE s s.size 0;simp [Cj];omega) 2
 simp only [List.nil_append] at h4 h5
 simp [go_sem,Bf,AA,AE,AD,AV.free.freeL,AF,h1,h4]
 exact ⟨h5.free,h5⟩
end
end Go.Ev
namespace Go.Ev
open Go
def DZ (x:Int):Bool:=decide (48≤x∧x≤57)
inductive Md where
 | plain
 | num (n:Int)
 | name (s:Int)
def BA:List Int→Md→Option (List Tok)
 | [],.plain=>some []
 | [],.num n=>some [⟨48,n,0⟩]
 | [],.name _=>none
 | x::r,m =>
  let pl:=if x=32 then BA r .plain else if DZ x=true then BA r (.num (x - 48)) else if x=955∨x=960 then BA r (.name x) else
   if Cb x=true then (BA r .plain).map (⟨x,0,0⟩::·) else none
  match m with
  | .plain=>pl
  | .num n=>if DZ x=true then (if 9223372036854775807<n*10+(x - 48) then none else BA r (.num (n*10+(x - 48)))) else pl.map (⟨48,n,0⟩::·)
  | .name s=>if FL x=true then (BA r .plain).map (⟨s,0,x⟩::·) else none
theorem OU {l:List Int} {n:Int} (h:∀ x r,l=x::r→DZ x=false):BA l (.num n)=(BA l .plain).map (⟨48,n,0⟩::·):=by
 cases l with
 | nil=>rfl
 | cons x r =>
  have:=h x r rfl
  simp only [BA,this,Bool.false_eq_true,if_false]
theorem JL {o:Option (List Tok)} {out:List Tok} {t:Tok}:(o.map (t::·)).map (out++·)=o.map ((out++[t])++·):=by
 cases o<;>simp
end Go.Ev
namespace Go.Ev
open Go
theorem Ni {a:AV} {l:List Int} (v:FzV 1 a l.length (l.flatMap KO)):(a=.nilsl∧l=[]) ∨
  ∃ full cs,a=.fz 1 l.length cs full∧(cs.length=l.length)=True∧∀ i (hi:i<l.length),cs[i]? = some (.int .i32 l[i]):=by
 obtain ⟨h1,h2,⟨h3,h4⟩ | ⟨full,h3⟩⟩:=v
 ·exact .inl ⟨h3,List.length_eq_zero_iff.mp h4⟩
 ·refine .inr ⟨full,_,h3,by simp only [h1,Nat.mul_one],fun i hi=>?_⟩
  have:=Id (c:=KO) (k:=1) (fun _=>rfl) l i l[i] (by omega) (List.getElem?_eq_getElem hi)
  simpa [KO] using this
section
variable {pr:Oracle} {bar:Nat} {h:H}
theorem Vg (l:List Int) (la oa:AV) (hla:FzV 1 la l.length (l.flatMap KO)) (hlen:l.length≤512) (g:H) (Q:Ex→Env→H→Prop):∀ (k i:Nat) (n:Int),l.length=i+k→0≤n→n≤9223372036854775807 →
  (∀ e,e.get 2=some .nilsl→e.get 3=some (.int .i64 12)→BA (l.drop i) (.num n)=none→Q .ret e g) →
  (∀ e i' n',e.get 4=some la→e.get 5=some oa→e.get 6=some (.int .i64 (i':Nat))→e.get 8=some (.int .u64 n')→i≤i'→i'≤l.length→(∀ x r,l.drop i'=x::r→DZ x=false)→0≤n'→n'≤9223372036854775807 →
   (i=i'∨0<i')→BA (l.drop i) (.num n)=BA (l.drop i') (.num n')→Q (.exit 3) e g) →
  CW (call tb pr) bar [4,5,6,8] EU [(4,la),(5,oa),(6,As i),(8,.int .u64 n)] g Q:=by
 intro k
 induction k with
 | zero =>
  intro i n hk h0 h0' h1 h2
  refine Ad EU.eq_1 ?_
  have hi:(l.length:Int)=(i:Int):=by omega
  rcases Ni hla with ⟨rfl,rfl⟩ | ⟨full,cs,rfl,hl,hx⟩
  ·simp at hk
   subst hk
   simp [go_sem]
   exact h2 _ 0 n rfl rfl rfl rfl (by omega) (by omega) (by simp) h0 h0' (.inl rfl) rfl
  ·simp [go_sem,hi]
   exact h2 _ i n rfl rfl rfl rfl (by omega) (by omega) (by rw [List.drop_eq_nil_of_le (by omega)];simp) h0 h0' (.inl rfl) rfl
 | succ k ih =>
  intro i n hk h0 h0' h1 h2
  refine Ad EU.eq_1 ?_
  have hi:i<l.length:=by omega
  have hb:(i:Int)<(l.length:Int):=by omega
  have hd:l.drop i=l[i]::l.drop (i+1):=List.drop_eq_getElem_cons hi
  have hw:=BF (n:=i) (by omega)
  rcases Ni hla with ⟨rfl,rfl⟩ | ⟨full,cs,rfl,hl,hx⟩
  ·cases hi
  ·have hxi:=hx i hi
   by_cases a1:48≤l[i]
   ·by_cases a2:l[i]≤57
    ·have hD:DZ l[i]=true:=by simp [DZ,a1,a2]
     obtain ⟨d,hd0⟩:∃ d,l[i]=d+48:=⟨l[i] - 48,by omega⟩
     have w1:IntKind.i32.wrap (d+48 - 48)=d:=by rw [Int.add_sub_cancel,Mp (by omega) (by omega)]
     have w1':IntKind.i32.wrap d=d:=Mp (by omega) (by omega)
     have w2:IntKind.u64.wrap d=d:=OX (by omega) (by omega)
     have w3:IntKind.u64.wrap (9223372036854775807 - d)=9223372036854775807 - d:=OX (by omega) (by omega)
     have w4:IntKind.u64.wrap ((9223372036854775807 - d).tdiv 10)=(9223372036854775807 - d) / 10:=by
      rw [Int.tdiv_eq_ediv_of_nonneg (by omega)];exact OX (by omega) (by omega)
     by_cases ho:(9223372036854775807 - d) / 10<n
     ·simp [-getElem?_pos,go_sem,hb,hi,AJ,hl,hxi,a1,a2]
      simp [-getElem?_pos,go_sem,hb,hi,AJ,hl,hxi,hd0,w1',w2,w3,w4,ho]
      exact h1 _ rfl rfl (by rw [hd];simp only [BA,hD,if_true];rw [if_pos (by omega)])
     ·have w5:IntKind.u64.wrap (n*10)=n*10:=OX (by omega) (by omega)
      have w6:IntKind.u64.wrap (n*10+d)=n*10+d:=OX (by omega) (by omega)
      have e:BA (l.drop i) (.num n)=BA (l.drop (i+1)) (.num (n*10+d)):=by
       rw [hd];simp only [BA,hD,if_true];rw [if_neg (by omega),hd0,Int.add_sub_cancel]
      simp [-getElem?_pos,go_sem,hb,hi,AJ,hl,hxi,a1,a2]
      simp [-getElem?_pos,go_sem,hb,hi,AJ,hl,hxi,hd0,w1',w2,w3,w4,w5,w6,ho,hw]
      exact ih (i+1) _ (by omega) (by omega) (by omega) (fun e1 q1 q2 q3=>h1 e1 q1 q2 (e.trans q3)) (fun e1 i' n' q1 q2 q3 q4 q5 q6 q7 q8 q9 q10 q11=>h2 e1 i' n' q1 q2 q3 q4 (by omega) q6 q7 q8 q9 (by omega) (e.trans q11))
    ·simp [-getElem?_pos,go_sem,hb,hi,AJ,hl,hxi,a1,a2]
     exact h2 _ i n rfl rfl rfl rfl (by omega) (by omega) (by rw [hd];intro x r e;injection e with e1 e2;subst e1;simp [DZ,a1,a2]) h0 h0' (.inl rfl) rfl
   ·simp [-getElem?_pos,go_sem,hb,hi,AJ,hl,hxi,a1]
    exact h2 _ i n rfl rfl rfl rfl (by omega) (by omega) (by rw [hd];intro x r e;injection e with e1 e2;subst e1;simp [DZ,a1]) h0 h0' (.inl rfl) rfl
theorem Rk (l:List Tok):(l.flatMap Tok.cells).all AV.still=true:=by
 rw [List.all_eq_true];intro x hx;rw [List.mem_flatMap] at hx;obtain ⟨r,_,hx⟩:=hx;simp [Tok.cells] at hx;rcases hx with rfl | rfl | rfl<;>rfl
theorem QM (l:List Int) (la:AV) (hla:FzV 1 la l.length (l.flatMap KO)) (hlen:l.length≤512) (Q:Ex→Env→H→Prop):∀ (k i:Nat) (g:H) (oa:AV) (out:List Tok),l.length≤i+k→i≤l.length→bar≤g.n →
  OS 3 g bar oa out.length (out.flatMap Tok.cells)→out.length≤i →
  BA l .plain=(BA (l.drop i) .plain).map (out++·) →
  (∀ e g',e.get 2=some .nilsl→e.get 3=some (.int .i64 12)→BA l .plain=none→Q .ret e g') →
  (∀ e g' a' ts,e.get 5=some a'→BA l .plain=some ts→ts.length≤512→OS 3 g' bar a' ts.length (ts.flatMap Tok.cells)→Q (.exit 0) e g') →
  CW (call tb pr) bar [4,5,6] EX [(4,la),(5,oa),(6,As i)] g Q:=by
 intro k
 induction k with
 | zero =>
  intro i g oa out hk hi' hbn ho hle ht h1 h2
  refine Ad EX.eq_1 ?_
  have hi:i=l.length:=by omega
  subst hi
  rw [List.drop_eq_nil_of_le (Nat.le_refl _)] at ht
  simp only [BA,Option.map_some,List.append_nil] at ht
  have hlen2:∀ g,GC (some la) g=some (As l.length,g):=(hla.vw g).len
  simp [go_sem,hlen2]
  exact h2 _ _ _ _ rfl ht (by omega) ho
 | succ k ih =>
  intro i g oa out hk hi' hbn ho hle ht h1 h2
  refine Ad EX.eq_1 ?_
  have hlen2:∀ g,GC (some la) g=some (As l.length,g):=(hla.vw g).len
  by_cases hi:i<l.length
  ·have hb:(i:Int)<(l.length:Int):=by omega
   have hd:l.drop i=l[i]::l.drop (i+1):=List.drop_eq_getElem_cons hi
   have hw:=BF (n:=i) (by omega)
   have hw2:=BF (n:=i+1) (by omega)
   rcases Ni hla with ⟨rfl,rfl⟩ | ⟨full,cs,rfl,hl,hx⟩
   ·cases hi
   ·have hxi:=hx i hi
    by_cases c1:l[i]=32
    ·simp [-getElem?_pos,go_sem,hb,hi,AJ,hl,hxi,c1,hw]
     refine ih (i+1) g oa out (by omega) (by omega) hbn ho (by omega) ?_ h1 h2
     rw [ht,hd];simp only [BA,c1,if_true]
    ·have c1':(l[i] == 32)=false:=by simpa using c1
     by_cases c2:48≤l[i]∧l[i]≤57
     ·have hD:DZ l[i]=true:=by simp [DZ,c2]
      simp [-getElem?_pos,go_sem,hb,hi,AJ,hl,hxi,c1',c2]
      refine Vg l _ oa hla hlen g _ (l.length - i) i 0 (by omega) (by omega) (by omega) (fun e q1 q2 q3=>?_) (fun e i' n' q1 q2 q3 q4 q5 q6 q7 q8 q9 q10 q11=>?_)
      ·simp [go_sem]
       refine h1 e g q1 q2 ?_
       rw [ht,hd]
       rw [hd] at q3
       simp only [BA,hD,if_true] at q3 ⊢
       rw [if_neg c1]
       rw [if_neg (by omega)] at q3
       simp only [Int.zero_mul,Int.zero_add] at q3
       rw [q3];rfl
      ·have hne:i≠i':=by
        intro e;subst e
        have:=q7 _ _ hd
        rw [hD] at this;cases this
       have w1:IntKind.i64.wrap ((i':Int) - 1)=((i' - 1:Nat):Int):=by rw [BN (by omega) (by omega)];omega
       have w2:IntKind.i64.wrap (((i' - 1:Nat):Int)+1)=(i':Int):=by rw [BN (by omega) (by omega)];omega
       have w3:IntKind.i64.wrap n'=n':=BN (by omega) (by omega)
       obtain ⟨a',g',e1,e2,e3,e4,e5⟩:=ho.app hbn 24 (Tok.cells ⟨48,n',0⟩) rfl rfl (by omega) (by omega) (by omega)
       simp only [Tok.cells] at e1
       simp [go_sem,q1,q2,q3,q4,AX,Af,AL,w1,w2,w3,e1]
       refine ih i' g' a' (out++[⟨48,n',0⟩]) (by omega) q6 (by omega) (by simpa [Tok.cells] using e2) (by simp;omega) ?_ h1 h2
       have:=OU (l:=l.drop i') (n:=n') q7
       rw [ht,← JL,← this,← q11,hd]
       simp only [BA,hD,if_true]
       rw [if_neg c1,if_neg (by omega)]
       simp
     ·have hD:DZ l[i]=false:=by simp [DZ];omega
      by_cases c3:l[i]=955∨l[i]=960
      ·have c3':(l[i] == 955||l[i] == 960)=true:=by simpa using c3
       have c3a:((l[i] == 955)=true∧l[i]=955)∨((l[i] == 955)=false∧(l[i] == 960)=true):=by rcases c3 with c | c<;>simp [c]
       have hc2:¬ (48≤l[i]∧l[i]≤57):=c2
       have c2':(48≤l[i])=True:=by rcases c3 with c | c<;>simp [c]
       have c2'':(l[i]≤57)=False:=by rcases c3 with c | c<;>simp [c]
       have hpl:BA (l.drop i) .plain=BA (l.drop (i+1)) (.name l[i]):=by
        rw [hd];simp only [BA,hD,Bool.false_eq_true,if_false];rw [if_neg c1,if_pos c3]
       by_cases c4:i+1<l.length
       ·have hb2:(l.length:Int)≤(i:Int)+1↔False:=by simp;omega
        have hb3:((i:Int)+1<(l.length:Int))=True:=by simp;omega
        have hb4:(0≤(i:Int)+1)=True:=by simp;omega
        have hxj:=hx (i+1) c4
        have hd2:l.drop (i+1)=l[i+1]::l.drop (i+2):=List.drop_eq_getElem_cons c4
        obtain ⟨a',g',e1,e2,e3,e4,e5⟩:=ho.app hbn 24 (Tok.cells ⟨l[i],0,l[i+1]⟩) rfl rfl (by omega) (by omega) (by omega)
        simp only [Tok.cells] at e1
        by_cases c5:FL l[i+1]=true
        ·have hgo:BA l .plain=(BA (l.drop (i+2)) .plain).map ((out++[⟨l[i],0,l[i+1]⟩])++·):=by
          rw [ht,hpl,hd2];simp only [BA,c5,if_true];rw [JL]
         have hwa:IntKind.i64.wrap ((i:Int)+1)=(i:Int)+1:=BN (by omega) (by omega)
         have hwb:IntKind.i64.wrap ((i:Int)+1+1)=((i+2:Nat):Int):=by rw [BN (by omega) (by omega)];omega
         rcases c3a with ⟨c,_⟩ | ⟨c,c'⟩
         ·simp [-getElem?_pos,go_sem,hb,hi,AJ,hl,hxi,c1',c2',c2'',c,hb2,hb3,hb4,hwa,hwb,Ez,hxj,c5,AX,Af,AL,e1]
          exact ih (i+2) g' a' (out++[⟨l[i],0,l[i+1]⟩]) (by omega) (by omega) (by omega) (by simpa [Tok.cells] using e2) (by simp;omega) hgo h1 h2
         ·simp [-getElem?_pos,go_sem,hb,hi,AJ,hl,hxi,c1',c2',c2'',c,c',hb2,hb3,hb4,hwa,hwb,Ez,hxj,c5,AX,Af,AL,e1]
          exact ih (i+2) g' a' (out++[⟨l[i],0,l[i+1]⟩]) (by omega) (by omega) (by omega) (by simpa [Tok.cells] using e2) (by simp;omega) hgo h1 h2
        ·have hgo:BA l .plain=none:=by
          rw [ht,hpl,hd2];simp only [BA,c5,Bool.false_eq_true,if_false,Option.map_none]
         have hwa:IntKind.i64.wrap ((i:Int)+1)=(i:Int)+1:=BN (by omega) (by omega)
         rcases c3a with ⟨c,_⟩ | ⟨c,c'⟩
         ·simp [-getElem?_pos,go_sem,hb,hi,AJ,hl,hxi,c1',c2',c2'',c,hb2,hb3,hb4,hwa,Ez,hxj,c5]
          exact h1 _ _ rfl rfl hgo
         ·simp [-getElem?_pos,go_sem,hb,hi,AJ,hl,hxi,c1',c2',c2'',c,c',hb2,hb3,hb4,hwa,Ez,hxj,c5]
          exact h1 _ _ rfl rfl hgo
       ·have hb2:((l.length:Int)≤(i:Int)+1)=True:=by simp;omega
        have hwa:IntKind.i64.wrap ((i:Int)+1)=(i:Int)+1:=BN (by omega) (by omega)
        have hgo:BA l .plain=none:=by
         rw [ht,hpl,List.drop_eq_nil_of_le (by omega)];rfl
        rcases c3a with ⟨c,_⟩ | ⟨c,c'⟩
        ·simp [-getElem?_pos,go_sem,hb,hi,AJ,hl,hxi,c1',c2',c2'',c,hb2,hwa]
         exact h1 _ _ rfl rfl hgo
        ·simp [-getElem?_pos,go_sem,hb,hi,AJ,hl,hxi,c1',c2',c2'',c,c',hb2,hwa]
         exact h1 _ _ rfl rfl hgo
      ·have d1:(l[i] == 955)=false:=by simp;omega
       have d2:(l[i] == 960)=false:=by simp;omega
       obtain ⟨a',g',e1,e2,e3,e4,e5⟩:=ho.app hbn 24 (Tok.cells ⟨l[i],0,0⟩) rfl rfl (by omega) (by omega) (by omega)
       simp only [Tok.cells] at e1
       by_cases c5:Cb l[i]=true
       ·have hgo:BA l .plain=(BA (l.drop (i+1)) .plain).map ((out++[⟨l[i],0,0⟩])++·):=by
         rw [ht,hd];simp only [BA,hD,Bool.false_eq_true,if_false,c5,if_true];rw [if_neg c1,if_neg c3,JL]
        by_cases f1:48≤l[i]
        ·have f2:¬ l[i]≤57:=by omega
         simp [-getElem?_pos,go_sem,hb,hi,AJ,hl,hxi,c1',f1,f2,d1,d2,hw,Em,c5,AX,Af,AL,e1]
         exact ih (i+1) g' a' (out++[⟨l[i],0,0⟩]) (by omega) (by omega) (by omega) (by simpa [Tok.cells] using e2) (by simp;omega) hgo h1 h2
        ·simp [-getElem?_pos,go_sem,hb,hi,AJ,hl,hxi,c1',f1,d1,d2,hw,Em,c5,AX,Af,AL,e1]
         exact ih (i+1) g' a' (out++[⟨l[i],0,0⟩]) (by omega) (by omega) (by omega) (by simpa [Tok.cells] using e2) (by simp;omega) hgo h1 h2
       ·have hgo:BA l .plain=none:=by
         rw [ht,hd];simp only [BA,hD,Bool.false_eq_true,if_false,c5];rw [if_neg c1,if_neg c3];rfl
        by_cases f1:48≤l[i]
        ·have f2:¬ l[i]≤57:=by omega
         simp [-getElem?_pos,go_sem,hb,hi,AJ,hl,hxi,c1',f1,f2,d1,d2,hw,Em,c5]
         exact h1 _ _ rfl rfl hgo
        ·simp [-getElem?_pos,go_sem,hb,hi,AJ,hl,hxi,c1',f1,d1,d2,hw,Em,c5]
         exact h1 _ _ rfl rfl hgo
  ·have hi2:i=l.length:=by omega
   subst hi2
   rw [List.drop_eq_nil_of_le (Nat.le_refl _)] at ht
   simp only [BA,Option.map_some,List.append_nil] at ht
   simp [go_sem,hlen2]
   exact h2 _ _ _ _ rfl ht (by omega) ho
def BP (s:ByteArray):List Tok × Int:=if 512<s.size then ([],3) else match BA (DP s) .plain with | some ts=>(ts,0) | none=>([],12)
theorem Lq (s:ByteArray):∃ a,call tb pr Dm [.str s] bar h=some (.tup [a,.int .i64 (BP s).2],h)∧FzV 3 a (BP s).1.length ((BP s).1.flatMap Tok.cells)∧(BP s).1.length≤512:=by
 suffices hw:∃ r,BK (call tb pr) f_engramref9_Tokens [.str s] bar h=some (r,h)∧∃ a,r=.tup [a,.int .i64 (BP s).2]∧FzV 3 a (BP s).1.length ((BP s).1.flatMap Tok.cells)∧(BP s).1.length≤512 by
  obtain ⟨r,h1,a,rfl,h2,h3⟩:=hw;exact ⟨a,AQ Mf h1,h2,h3⟩
 refine Gv rfl rfl (BJ ?_)
 by_cases hs:s.size≤512
 ·have hs':¬ (512:Int)<(s.size:Int):=by omega
  have hs2:¬ 512<s.size:=by omega
  obtain ⟨la,hr,hla⟩:=Mr (pr:=pr) (bar:=h.n) (h:=h) s hs
  simp [f_engramref9_Tokens,AO,go_sem,hs2,hs',hr]
  have hlen:(DP s).length≤512:=by have:=OE s s.size 0;simp [DP,runes];omega
  refine QM (DP s) la hla hlen _ (DP s).length 0 h .nilsl [] (by omega) (by omega) (Nat.le_refl _) OS.nil (by simp) (by simp) (fun e g' h1 h2 h3=>?_) (fun e g' a' ts h1 h2 h3 h4=>?_)
  ·have:BP s=([],12):=by unfold BP;rw [if_neg hs2,h3]
   rw [this]
   simp [go_sem,Bf,AA,AE,AD,AV.free.freeL,AF,h1,h2,AC,AV.free]
   exact ⟨rfl,by omega,.inl ⟨rfl,rfl⟩⟩
  ·have:BP s=(ts,0):=by unfold BP;rw [if_neg hs2,h2]
   rw [this]
   obtain ⟨a2,h5,h6,h7⟩:=h4.freeze (Rk _) (by omega) 2
   simp [go_sem,Bf,AA,AE,AD,AV.free.freeL,AF,h1,h6,AC,h7.free,AV.free]
   exact ⟨h7,h3⟩
 ·have hs':(512:Int)<(s.size:Int):=by omega
  have hs2:512<s.size:=by omega
  have:BP s=([],3):=by unfold BP;rw [if_pos hs2]
  rw [this]
  simp [f_engramref9_Tokens,AO,go_sem,hs',hs2,Bf,AA,AE,AD,AV.free.freeL,AF,AC,AV.free]
  exact ⟨rfl,by omega,.inl ⟨rfl,rfl⟩⟩
end
end Go.Ev
namespace Go.Ev
open Go
structure RS where
 out:List Tok
 dg:ByteArray
 bad:Bool
def Gq (s:ByteArray):Bool:=s.toList.isEmpty
theorem JQ (s:ByteArray):Gq s=s.data.toList.isEmpty:=by
 unfold Gq
 rw [ByteArray.toList_eq]
def named (r:Int):Bool:=decide (r=955∨r=960)
def RS.waits (s:RS):Bool:=Gq s.dg&&(match s.out.getLast? with | some t=>named t.sign&&t.name == 0 | none=>false)
def RS.number (s:RS):RS:=if Gq s.dg then s else match Lib.parseIntB 64 s.dg.data.toList with
 | .ok v=>⟨s.out++[⟨48,v,0⟩],⟨#[]⟩,s.bad⟩
 | .range=>⟨s.out++[⟨48,Lib.intSat 64 s.dg.data.toList,0⟩],⟨#[]⟩,true⟩
 | _=>⟨s.out++[⟨48,0,0⟩],⟨#[]⟩,true⟩
theorem YJ {pr:Oracle} {bar:Nat} {h:H} (r:Int):call tb pr Ew [.int .i32 r] bar h=some (.bool (named r),h):=Qm r
def RdV (g:H) (bar:Nat) (R z:Nat) (s:RS):Prop:=∃ oa,g.get R=some (.cells [oa,.str s.dg,.bool s.bad] 0)∧bar≤R∧R<g.n∧OS 3 g bar oa s.out.length (s.out.flatMap Tok.cells)∧¬ oa.isAt R∧z≠R∧z<g.n∧¬ oa.isAt z
theorem TJ {l:List Tok} {t:Tok} (h:l.getLast? = some t):0<l.length∧l[l.length - 1]? = some t:=by
 rw [List.getLast?_eq_getElem?] at h
 refine ⟨?_,h⟩
 cases l with
 | nil=>simp at h
 | cons x r=>simp
theorem OS.tok {h:H} {bar:Nat} {a:AV} {out:List Tok} (v:OS 3 h bar a out.length (out.flatMap Tok.cells)):(a=.nilsl∧out=[])∨∃ id all,a=.sl id 0 3 out.length false∧bar≤id∧id<h.n∧h.get id=some (.cells all 0) ∧
  (∃ rest,all=out.flatMap Tok.cells++rest) ∧
  ∀ i (hi:i<out.length),all[i*3]? = some (.int .i32 out[i].sign)∧all[i*3+1]? = some (.int .i64 out[i].n)∧all[i*3+2]? = some (.int .i32 out[i].name):=by
 obtain ⟨h1,h2,⟨h3,h4⟩ | ⟨id,rest,e1,e2,e3,e4⟩⟩:=v
 ·exact .inl ⟨h3,List.length_eq_zero_iff.mp h4⟩
 ·refine .inr ⟨id,_,e1,e2,e3,e4,⟨rest,rfl⟩,fun i hi=>?_⟩
  have hg:∀ j,j<3→(out.flatMap Tok.cells++rest)[i*3+j]? = out[i].cells[j]?:=fun j hj=>by
   rw [List.getElem?_append_left (by rw [h1];omega)]
   exact JP Tok.cells_len out i j _ hj (List.getElem?_eq_getElem hi)
  exact ⟨hg 0 (by omega),hg 1 (by omega),hg 2 (by omega)⟩
section
variable {bar b:Nat} {h:H}
theorem Kw (R z:Nat) (s:RS) (hl:s.out.length≤6000) (hv:RdV h b R z s):call tb prim Bp [.ptr R 0] bar h=some (.bool s.waits,h):=by
 refine AQ LZ (AZ rfl rfl (BJ ?_))
 obtain ⟨oa,hR,hb1,hb2,ho,hat,hz1,hz2,hz3⟩:=hv
 by_cases he:Gq s.dg=true
 ·have he':s.dg.toList.isEmpty=true:=he
  rcases ho.tok with ⟨rfl,hnil⟩ | ⟨id,all,rfl,hbi,hid,hgi,hrest,hx⟩
  ·simp [f_glyph_reader_waits,AO,go_sem,AN,AM,AA,AE,AD,AC,AV.free.freeL,AV.free,AF,AH,hR,AG,Dp,he',RS.waits,he,hnil]
  ·cases hg:s.out.getLast? with
   | none =>
    have h0:s.out.length=0:=by simpa using hg
    simp [f_glyph_reader_waits,AO,go_sem,AN,AM,AA,AE,AD,AC,AV.free.freeL,AV.free,AF,AH,hR,AG,Dp,he',RS.waits,he,hg,h0]
   | some t =>
    obtain ⟨hpos,hlast⟩:=TJ hg
    have hp1:(0:Int)<(s.out.length:Int):=by omega
    have hw:IntKind.i64.wrap ((s.out.length:Int) - 1)=((s.out.length - 1:Nat):Int):=by rw [BN (by omega) (by omega)];omega
    have hlt:s.out.length - 1<s.out.length:=by omega
    have hlt':((s.out.length - 1:Nat):Int)<(s.out.length:Int):=by omega
    have hxi:=hx _ hlt
    have ht:s.out[s.out.length - 1]=t:=by rw [List.getElem?_eq_getElem hlt] at hlast;exact Option.some.inj hlast
    rw [ht] at hxi
    simp [f_glyph_reader_waits,AO,go_sem,AN,AM,AA,AE,AD,AC,AV.free.freeL,AV.free,AF,AH,hR,AG,Dp,he',RS.waits,he,hg,hpos,hw,AJ,hlt,hlt',hgi,hxi,YJ]
    refine Ey (fun c=>?_) (fun c=>?_)<;>simp [go_sem,AN,AM,AA,AE,AD,AC,AV.free.freeL,AV.free,AF,AH,hR,AG,AJ,hpos,hw,hlt,hlt',hgi,hxi,c]
 ·have he':s.dg.toList.isEmpty=false:=by simpa [Gq] using he
  simp [f_glyph_reader_waits,AO,go_sem,AN,AM,AA,AE,AD,AC,AV.free.freeL,AV.free,AF,AH,hR,AG,Dp,he',RS.waits,he,ho.len]
theorem KH (R z:Nat) (s:RS) (hl:s.out.length≤6000) (hs:s.dg.size≤10000) (hbh:b≤h.n) (hbb:bar≤b) (hv:RdV h b R z s):∃ r h',call tb prim CQ [.ptr R 0] bar h=some (r,h')∧RdV h' b R z s.number∧h.n≤h'.n∧∀ j,j<b∨j=z→h'.get j=h.get j:=by
 suffices hw:∃ r h',BK (call tb prim) f_glyph_reader_number [.ptr R 0] bar h=some (r,h')∧RdV h' b R z s.number∧h.n≤h'.n∧∀ j,j<b∨j=z→h'.get j=h.get j by
  obtain ⟨r,h',h1,h2⟩:=hw;exact ⟨r,h',AQ Kq h1,h2⟩
 refine JJ rfl rfl (BJ ?_)
 have hv0:=hv
 obtain ⟨oa,hR,hb1,hb2,ho,hat,hz1,hz2,hz3⟩:=hv
 by_cases he:Gq s.dg=true
 ·have he':s.dg.toList.isEmpty=true:=he
  have hnum:s.number=s:=by simp [RS.number,he]
  simp [f_glyph_reader_number,AO,go_sem,AN,AM,AA,AE,AD,AC,AV.free.freeL,AV.free,AF,AH,hR,AG,Dp,he',hnum]
  exact ⟨[],h,⟨rfl,rfl⟩,hv0,Nat.le_refl _,fun _ _=>rfl⟩
 ·have he':s.dg.toList.isEmpty=false:=by simpa [Gq] using he
  have hbR:bar≤R:=by omega
  have hna:∀ j,(j<b∨j=z)→¬ oa.isAt j:=fun j hj hj2=>by
   rcases hj with hj | rfl
   ·have:=ho.at_lt hj2;omega
   ·exact hz3 hj2
  have hpi:=fun (g:H) (bb:Nat)=>NG (bar:=bb) (h:=g) s.dg (by omega)
  obtain ⟨v,bd,hnum',hpr⟩:∃ v bd,s.number=⟨s.out++[⟨48,v,0⟩],⟨#[]⟩,s.bad||bd⟩∧JC s.dg=.tup [.int .i64 v,if bd then .ifc Ep (.fptr [] 0) else .nilifc]:=by
   unfold RS.number JC
   rw [if_neg he]
   cases Lib.parseIntB 64 s.dg.data.toList
   ·rename_i v;exact ⟨v,false,by simp,rfl⟩
   ·exact ⟨0,true,by simp,rfl⟩
   ·exact ⟨_,true,by simp,rfl⟩
  obtain ⟨nb,hnb2⟩:∃ nb,nb=(s.bad||bd):=⟨_,rfl⟩
  have hnum:s.number=⟨s.out++[⟨48,v,0⟩],⟨#[]⟩,nb⟩:=by rw [hnb2];exact hnum'
  have ho1:OS 3 (h.set R (.cells [oa,.str s.dg,.bool nb] 0)) b oa s.out.length (s.out.flatMap Tok.cells):=ho.set _ hat
  obtain ⟨a',g',e1,e2,e3,e4,e5⟩:=ho1.app' (by simpa [AW] using hbh) hbb 24 (Tok.cells ⟨48,v,0⟩) rfl rfl (by omega) (by omega) (by omega)
  simp only [Tok.cells,AW] at e1 e3 e4 e5
  have hgR:g'.get R=some (.cells [oa,.str s.dg,.bool nb] 0):=by rw [e4 R hb2 hat,AU,if_pos rfl]
  have hnb:Bg 2 (if bd=true then .ifc Ep (.fptr [] 0) else .nilifc)=some (!bd):=by cases bd<;>rfl
  rw [hnum]
  have hend:RdV ((g'.set R (.cells [a',.str s.dg,.bool nb] 0)).set R (.cells [a',.str ⟨#[]⟩,.bool nb] 0)) b R z ⟨s.out++[⟨48,v,0⟩],⟨#[]⟩,nb⟩:=by
   have hnat:¬ a'.isAt R:=fun hj=>by have:=e5 _ hj;omega
   refine ⟨a',by simp [AU],hb1,by simp only [AW];omega,?_,hnat,hz1,by simp only [AW];omega,fun hj=>by have:=e5 _ hj;omega⟩
   have:=(e2.set (.cells [a',.str s.dg,.bool nb] 0) hnat).set (.cells [a',.str ⟨#[]⟩,.bool nb] 0) hnat
   simpa [Tok.cells] using this
  have hfr:∀ j,j<b∨j=z→((g'.set R (.cells [a',.str s.dg,.bool nb] 0)).set R (.cells [a',.str ⟨#[]⟩,.bool nb] 0)).get j=h.get j:=fun j hj=>by
   rw [AI (by omega),AI (by omega),e4 j (by omega) (hna j hj),AI (by omega)]
  cases hbad:s.bad with
  | true =>
   have hnt:nb=true:=by rw [hnb2,hbad];rfl
   subst hnt
   simp [f_glyph_reader_number,AO,go_sem,AB,AN,AM,AA,AE,AD,AC,AV.free.freeL,AV.free,AF,AH,hR,AG,Dp,he',hpi,hpr,hbad,hbR,AL,AX,Af,e1,e2.one,ho.one,hgR]
   exact ⟨_,_,⟨rfl,rfl⟩,hend,by simp only [AW];omega,hfr⟩
  | false =>
   have hnt:nb=bd:=by rw [hnb2,hbad];rfl
   subst hnt
   simp [f_glyph_reader_number,AO,go_sem,AB,AN,AM,AA,AE,AD,AC,AV.free.freeL,AV.free,AF,AH,hR,AG,Dp,he',hpi,hpr,hbad,hbR,hnb,AL,AX,Af,e1,e2.one,ho.one,hgR]
   exact ⟨_,_,⟨rfl,rfl⟩,hend,by simp only [AW];omega,hfr⟩
def RS.setName (s:RS) (x:Int):List Tok:=match s.out.getLast? with
 | some t=>s.out.set (s.out.length - 1) ⟨t.sign,t.n,x⟩
 | none=>s.out
def RS.rune (s:RS) (x:Int):RS :=
 if s.waits then ⟨s.setName x,s.dg,s.bad||!FL x⟩ else
 if DZ x then ⟨s.out,s.dg++Utf8.encode x,s.bad⟩ else
 if x=32 then s.number else ⟨s.number.out++[⟨x,0,0⟩],s.number.dg,s.number.bad||!Cb x⟩
theorem RS.number_len (s:RS):s.number.out.length≤s.out.length+1:=by
 unfold RS.number
 split
 ·omega
 ·split<;>simp
theorem Jg (a b c v:AV):AL [a,b,c] 0 [v]=[v,b,c]:=Eq.trans rfl rfl
theorem Jh (a b c v:AV):AL [a,b,c] 1 [v]=[a,v,c]:=Eq.trans rfl rfl
theorem Ji (a b c v:AV):AL [a,b,c] 2 [v]=[a,b,v]:=Eq.trans rfl rfl
theorem Na (x:Int):(Utf8.encode x).size≤4:=by
 unfold Utf8.encode
 simp only
 repeat' split
 all_goals (show Array.size _≤4;simp)
theorem Rw (R z:Nat) (s:RS) (x:Int) (hl:s.out.length≤5000) (hs:s.dg.size≤9000) (hbh:b≤h.n) (hbb:bar≤b) (hv:RdV h b R z s):∃ r h',call tb prim Do [.ptr R 0,.int .i32 x] bar h=some (r,h')∧RdV h' b R z (s.rune x)∧h.n≤h'.n∧∀ j,j<b∨j=z→h'.get j=h.get j:=by
 suffices hw:∃ r h',BK (call tb prim) f_glyph_reader_rune [.ptr R 0,.int .i32 x] bar h=some (r,h')∧RdV h' b R z (s.rune x)∧h.n≤h'.n∧∀ j,j<b∨j=z→h'.get j=h.get j by
  obtain ⟨r,h',h1,h2⟩:=hw;exact ⟨r,h',AQ Mh h1,h2⟩
 refine JJ rfl rfl (BJ ?_)
 have hwt:call tb prim Bp [.ptr R 0] bar h=some (.bool s.waits,h):=Kw R z s (by omega) hv
 obtain ⟨rn,hn,hnc,hnv,hnn,hnf⟩:=KH (bar:=bar) R z s (by omega) (by omega) hbh hbb hv
 obtain ⟨oa,hR,hb1,hb2,ho,hat,hz1,hz2,hz3⟩:=hv
 have hbR:bar≤R:=by omega
 cases hw:s.waits with
 | true =>
  have hr:s.rune x=⟨s.setName x,s.dg,s.bad||!FL x⟩:=by simp [RS.rune,hw]
  rw [hw] at hwt
  rw [hr]
  unfold RS.waits at hw
  rw [Bool.and_eq_true] at hw
  obtain ⟨_,hw2⟩:=hw
  cases hg:s.out.getLast? with
  | none=>rw [hg] at hw2;cases hw2
  | some t =>
   have hsn:s.setName x=s.out.set (s.out.length - 1) ⟨t.sign,t.n,x⟩:=by simp [RS.setName,hg]
   obtain ⟨hpos,hlast⟩:=TJ hg
   have hlt:s.out.length - 1<s.out.length:=by omega
   have hlt':((s.out.length - 1:Nat):Int)<(s.out.length:Int):=by omega
   have hwr:IntKind.i64.wrap ((s.out.length:Int) - 1)=((s.out.length - 1:Nat):Int):=by rw [BN (by omega) (by omega)];omega
   obtain ⟨hcl,hone,⟨rfl,h0⟩ | ⟨id,rest,rfl,g1,g2,g3⟩⟩:=ho
   ·omega
   ·have hne:id≠R:=hat
    have hbi:bar≤id:=by omega
    have hsp:AL (s.out.flatMap Tok.cells++rest) ((s.out.length - 1)*3+2) [.int .i32 x]=(s.out.set (s.out.length - 1) ⟨t.sign,t.n,x⟩).flatMap Tok.cells++rest :=
     Gx Tok.cells_len rest 2 [.int .i32 x] ⟨t.sign,t.n,x⟩ s.out _ t hlast (by simp) rfl
    have hle:(s.out.length - 1)*3+2+1≤(s.out.flatMap Tok.cells).length+rest.length:=by rw [hcl];omega
    have hend:∀ bd,RdV ((h.set R (.cells [.sl id 0 3 s.out.length false,.str s.dg,.bool bd] 0)).set id (.cells ((s.out.set (s.out.length - 1) ⟨t.sign,t.n,x⟩).flatMap Tok.cells++rest) 0)) b R z ⟨s.setName x,s.dg,bd⟩:=fun bd=>by
     refine ⟨.sl id 0 3 s.out.length false,?_,hb1,hb2,?_,hat,hz1,hz2,hz3⟩
     ·rw [AI (fun e=>hne e.symm),AU,if_pos rfl]
     ·rw [hsn]
      refine ⟨by rw [GS Tok.cells_len],?_,.inr ⟨id,rest,by rw [List.length_set],g1,g2,by rw [AU,if_pos rfl]⟩⟩
      rw [List.all_eq_true];intro y hy;rw [List.mem_flatMap] at hy;obtain ⟨u,_,hy⟩:=hy;simp [Tok.cells] at hy;rcases hy with rfl | rfl | rfl<;>rfl
    have hfr:∀ bd j,j<b∨j=z→((h.set R (.cells [.sl id 0 3 s.out.length false,.str s.dg,.bool bd] 0)).set id (.cells ((s.out.set (s.out.length - 1) ⟨t.sign,t.n,x⟩).flatMap Tok.cells++rest) 0)).get j=h.get j:=fun bd j hj=>by
     have:id≠z:=hz3
     rw [AI (by omega),AI (by omega)]
    generalize hall:s.out.flatMap Tok.cells++rest=all at *
    have hle':(s.out.length - 1)*3+2+1≤all.length:=by rw [← hall];simpa using hle
    generalize hnew:(s.out.set (s.out.length - 1) ⟨t.sign,t.n,x⟩).flatMap Tok.cells++rest=new at *
    cases hbad:s.bad with
    | true =>
     simp [f_glyph_reader_rune,AO,go_sem,AB,AN,AM,AA,AE,AD,AC,AV.free.freeL,AV.free,AF,AH,hwt,hR,AG,hbad,hbR,Im,Jg,Jh,Ji,hwr,AJ,hlt,hlt',g3,hbi,hle',hsp,hne]
     exact ⟨[],_,⟨rfl,rfl⟩,by simpa using hend true,by simp only [AW];omega,by simpa using hfr true⟩
    | false =>
     simp [f_glyph_reader_rune,AO,go_sem,AB,AN,AM,AA,AE,AD,AC,AV.free.freeL,AV.free,AF,AH,hwt,hR,AG,hbad,hbR,Im,Jg,Jh,Ji,hwr,AJ,hlt,hlt',g3,hbi,hle',hsp,hne]
     exact ⟨[],_,⟨rfl,rfl⟩,hend _,by simp only [AW];omega,hfr _⟩
 | false =>
  rw [hw] at hwt
  cases hD:DZ x with
  | true =>
   have hr:s.rune x=⟨s.out,s.dg++Utf8.encode x,s.bad⟩:=by simp [RS.rune,hw,hD]
   rw [hr]
   have hD':48≤x∧x≤57:=by simpa [DZ] using hD
   have hsz:s.dg.size+(Utf8.encode x).size≤9223372036854775807:=by have:=Na x;omega
   simp [f_glyph_reader_rune,AO,go_sem,AB,AN,AM,AA,AE,AD,AC,AV.free.freeL,AV.free,AF,AH,hwt,hR,AG,hbR,CN,hD',Jg,Jh,Ji,Dp,hsz,ho.one]
   exact ⟨[],_,⟨rfl,rfl⟩,⟨oa,by rw [AU,if_pos rfl],hb1,by simpa [AW] using hb2,ho.set _ hat,hat,hz1,by simpa [AW] using hz2,hz3⟩,by simp only [AW];omega,fun j hj=>by rw [AI (by omega)]⟩
  | false =>
   have hD1:(decide (48≤x)&&decide (x≤57))=false:=by simpa [DZ] using hD
   obtain ⟨na,hnR,hnb1,hnb2,hno,hnat,hnz1,hnz2,hnz3⟩:=hnv
   by_cases h32:x=32
   ·subst h32
    have hr:s.rune 32=s.number:=by simp [RS.rune,hw,hD]
    rw [hr]
    cases hbad:s.number.bad with
    | true =>
     simp [f_glyph_reader_rune,AO,go_sem,AB,AN,AM,AA,AE,AD,AC,AV.free.freeL,AV.free,AF,AH,hwt,hnR,AG,hbR,CN,hnc,hbad,Jg,Jh,Ji]
     exact ⟨[],_,⟨rfl,rfl⟩,⟨na,by rw [AU,if_pos rfl,hbad],hnb1,by simpa [AW] using hnb2,hno.set _ hnat,hnat,hnz1,by simpa [AW] using hnz2,hnz3⟩,by simp only [AW];omega,fun j hj=>by rw [AI (by omega),hnf j hj]⟩
    | false =>
     simp [f_glyph_reader_rune,AO,go_sem,AB,AN,AM,AA,AE,AD,AC,AV.free.freeL,AV.free,AF,AH,hwt,hnR,AG,hbR,CN,hnc,hbad,Jg,Jh,Ji]
     exact ⟨[],_,⟨rfl,rfl⟩,⟨na,by rw [AU,if_pos rfl,hbad],hnb1,by simpa [AW] using hnb2,hno.set _ hnat,hnat,hnz1,by simpa [AW] using hnz2,hnz3⟩,by simp only [AW];omega,fun j hj=>by rw [AI (by omega),hnf j hj]⟩
   ·have hr:s.rune x=⟨s.number.out++[⟨x,0,0⟩],s.number.dg,s.number.bad||!Cb x⟩:=by simp [RS.rune,hw,hD,h32]
    rw [hr]
    have h32':(x == 32)=false:=by simpa using h32
    have h32b:(x != 32)=true:=by simpa using h32
    have hnl:=s.number_len
    have hna2:∀ j,(j<b∨j=z)→¬ na.isAt j:=fun j hj hj2=>by
     rcases hj with hj | rfl
     ·have:=hno.at_lt hj2;omega
     ·exact hnz3 hj2
    obtain ⟨nb,hnb⟩:∃ nb,nb=(s.number.bad||!Cb x):=⟨_,rfl⟩
    rw [← hnb]
    have ho1:OS 3 (hn.set R (.cells [na,.str s.number.dg,.bool nb] 0)) b na s.number.out.length (s.number.out.flatMap Tok.cells):=hno.set _ hnat
    obtain ⟨a',g',e1,e2,e3,e4,e5⟩:=ho1.app' (by simp only [AW];omega) hbb 24 (Tok.cells ⟨x,0,0⟩) rfl rfl (by omega) (by omega) (by omega)
    simp only [Tok.cells,AW] at e1 e3 e4 e5
    have hgR:g'.get R=some (.cells [na,.str s.number.dg,.bool nb] 0):=by rw [e4 R hnb2 hnat,AU,if_pos rfl]
    have hnat2:¬ a'.isAt R:=fun hj=>by have:=e5 _ hj;omega
    have hend:RdV (g'.set R (.cells [a',.str s.number.dg,.bool nb] 0)) b R z ⟨s.number.out++[⟨x,0,0⟩],s.number.dg,nb⟩:=by
     refine ⟨a',by rw [AU,if_pos rfl],hb1,by simp only [AW];omega,?_,hnat2,hz1,by simp only [AW];omega,fun hj=>by have:=e5 _ hj;omega⟩
     have:=e2.set (.cells [a',.str s.number.dg,.bool nb] 0) hnat2
     simpa [Tok.cells] using this
    have hfr:∀ j,j<b∨j=z→(g'.set R (.cells [a',.str s.number.dg,.bool nb] 0)).get j=h.get j:=fun j hj=>by
     rw [AI (by omega),e4 j (by omega) (hna2 j hj),AI (by omega),hnf j hj]
    cases hbad:s.number.bad with
    | true =>
     have hnt:nb=true:=by rw [hnb,hbad];rfl
     subst hnt
     simp [f_glyph_reader_rune,AO,go_sem,AB,AN,AM,AA,AE,AD,AC,AV.free.freeL,AV.free,AF,AH,hwt,hnR,AG,hbR,CN,hD1,hnc,hbad,Jg,Jh,Ji,h32b,Kv,AX,Af,AL,e1,hgR,e2.one,hno.one]
     exact ⟨[],_,⟨rfl,rfl⟩,hend,by simp only [AW];omega,hfr⟩
    | false =>
     have hnt:nb=!Cb x:=by rw [hnb,hbad];rfl
     subst hnt
     simp [f_glyph_reader_rune,AO,go_sem,AB,AN,AM,AA,AE,AD,AC,AV.free.freeL,AV.free,AF,AH,hwt,hnR,AG,hbR,CN,hD1,hnc,hbad,Jg,Jh,Ji,h32b,Kv,AX,Af,AL,e1,hgR,e2.one,hno.one]
     exact ⟨[],_,⟨rfl,rfl⟩,hend,by simp only [AW];omega,hfr⟩
end
end Go.Ev
namespace Go.Ev
open Go
def CD:List Int→RS→Option RS
 | [],s=>some s
 | x::r,s=>if (s.rune x).bad then none else CD r (s.rune x)
def Bt (s:ByteArray):List Tok × Int:=if 512<s.size then ([],3) else match CD (DP s) ⟨[],⟨#[]⟩,false⟩ with
 | none=>([],12)
 | some s=>if s.number.bad||s.number.waits then ([],12) else (s.number.out,0)
theorem RdV.setz {g:H} {b R z:Nat} {s:RS} (v:RdV g b R z s) (o:HObj):RdV (g.set z o) b R z s:=by
 obtain ⟨oa,hR,hb1,hb2,ho,hat,hz1,hz2,hz3⟩:=v
 exact ⟨oa,by rw [AI (fun e=>hz1 e.symm)];exact hR,hb1,hb2,ho.set _ hz3,hat,hz1,hz2,hz3⟩
theorem RS.rune_len (s:RS) (x:Int):(s.rune x).out.length≤s.out.length+2:=by
 have:=s.number_len
 unfold RS.rune RS.setName
 repeat' split
 all_goals simp
 all_goals omega
theorem RS.number_dg (s:RS):s.number.dg.size≤s.dg.size:=by
 unfold RS.number
 repeat' split
 all_goals first | exact Nat.le_refl _ | exact Nat.zero_le _
theorem RS.rune_dg (s:RS) (x:Int):(s.rune x).dg.size≤s.dg.size+4:=by
 have:=s.number_dg
 have:=Na x
 unfold RS.rune
 repeat' split
 all_goals (try simp only [ByteArray.size_append])<;>omega
section
variable {bar b:Nat} {h:H}
theorem Of (str:ByteArray) (hs:str.size≤512) (R id:Nat) (hid:bar≤id) (hbb:bar≤b) (Q:Ex→Env→H→Prop):∀ (n pos:Nat) (g:H) (s:RS),g.get id=some (.iter str pos)→str.size≤pos+n→RdV g b R id s→b≤g.n →
  s.out.length≤2*pos→s.dg.size≤4*pos→pos≤600→s.bad=false →
  (∀ e g',e.get 2=some .nilsl→e.get 3=some (.int .i64 12)→CD (Cj str n pos) s=none→Q .ret e g') →
  (∀ e g' s',e.get 4=some (.ptr R 0)→CD (Cj str n pos) s=some s'→RdV g' b R id s'→b≤g'.n→s'.out.length≤1200→s'.dg.size≤2400→s'.bad=false→Q (.exit 0) e g') →
  CW (call tb prim) bar [4,13] GI [(4,.ptr R 0),(13,.ptr id 0)] g Q:=by
 intro n
 induction n with
 | zero =>
  intro pos g s hg hn hv hb h1 h2 h3 hbad h4 h5
  have:¬ pos<str.size:=by omega
  refine Ad GI.eq_1 ?_
  simp [go_sem,hg,hid,this]
  exact h5 _ _ s rfl rfl hv hb (by omega) (by omega) hbad
 | succ n ih =>
  intro pos g s hg hn hv hb h1 h2 h3 hbad h4 h5
  refine Ad GI.eq_1 ?_
  by_cases this:pos<str.size
  ·have hd:=Hq str pos
   have hd4:(Utf8.decode str pos).2≤4:=by
    unfold Utf8.decode
    simp only
    repeat' split
    all_goals (show _≤4;omega)
   obtain ⟨r,h',hc,hv',hn',hf'⟩:=Rw (bar:=bar) R id s ((Utf8.decode str pos).1:Int) (by omega) (by omega) (by simpa [AW] using hb) hbb (hv.setz (.iter str (pos+(Utf8.decode str pos).2)))
   have hi':h'.get id=some (.iter str (pos+(Utf8.decode str pos).2)):=by rw [hf' id (.inr rfl),AU,if_pos rfl]
   have hgl:CD (Cj str (n+1) pos) s=if (s.rune ((Utf8.decode str pos).1:Int)).bad then none else CD (Cj str n (pos+(Utf8.decode str pos).2)) (s.rune ((Utf8.decode str pos).1:Int)):=by
    simp [Cj,BU,this,CD]
   have hrl:=s.rune_len ((Utf8.decode str pos).1:Int)
   have hrd:=s.rune_dg ((Utf8.decode str pos).1:Int)
   have hR':=hv'
   obtain ⟨oa,hR,_⟩:=hR'
   simp [go_sem,hg,hid,this,hc,hR,AG]
   refine De (fun hb2=>?_) (fun hb2=>?_)<;>simp [go_sem]
   ·exact h4 _ _ rfl rfl (by rw [hgl,if_pos hb2])
   ·simp only [AW] at hn'
    refine ih _ h' _ hi' (by omega) hv' (by omega) (by omega) (by omega) (by omega) hb2 (fun e g' q1 q2 q3=>h4 e g' q1 q2 (by rw [hgl,if_neg (by simp [hb2]),q3])) (fun e g' s' q1 q2 q3=>h5 e g' s' q1 (by rw [hgl,if_neg (by simp [hb2]),q2]) q3)
  ·simp [go_sem,hg,hid,this]
   exact h5 _ _ s rfl (by simp [Cj,BU,this,CD]) hv hb (by omega) (by omega) hbad
theorem Hs (s:ByteArray):∃ a,call tb prim Ed [.str s] bar h=some (.tup [a,.int .i64 (Bt s).2],h)∧FzV 3 a (Bt s).1.length ((Bt s).1.flatMap Tok.cells)∧(Bt s).1.length≤1300:=by
 suffices hw:∃ r,BK (call tb prim) f_glyph_Tokens [.str s] bar h=some (r,h)∧∃ a,r=.tup [a,.int .i64 (Bt s).2]∧FzV 3 a (Bt s).1.length ((Bt s).1.flatMap Tok.cells)∧(Bt s).1.length≤1300 by
  obtain ⟨r,h1,a,rfl,h2,h3⟩:=hw;exact ⟨a,AQ QX h1,h2,h3⟩
 refine Gv rfl rfl (BJ ?_)
 by_cases hs:s.size≤512
 ·have hs':¬ (512:Int)<(s.size:Int):=by omega
  have hs2:¬ 512<s.size:=by omega
  simp [f_glyph_Tokens,AO,go_sem,hs2,hs',AX,Af]
  refine Of (b:=h.n) s hs h.n (h.n+1) (by omega) (Nat.le_refl _) _ s.size 0 _ ⟨[],⟨#[]⟩,false⟩ (by simp [AK,AP]) (by omega)
   ⟨.nilsl,by simp [AK,AP],Nat.le_refl _,by simp only [AP];omega,OS.nil,by simp [AV.isAt],by omega,by simp only [AP];omega,by simp [AV.isAt]⟩ (by simp only [AP];omega) (by simp) (Nat.zero_le _) (by omega) rfl (fun e g' h1 h2 h3=>?_) (fun e g' s' h1 h2 hv' hb' hl hd hbad=>?_)
  ·have:Bt s=([],12):=by unfold Bt;rw [if_neg hs2];show (match CD (Cj s s.size 0) _ with | none=>_ | some _=>_)=_;rw [h3]
   rw [this]
   simp [go_sem,Bf,AA,AE,AD,AV.free.freeL,AF,h1,h2,AC,AV.free]
   exact ⟨rfl,by omega,.inl ⟨rfl,rfl⟩⟩
  ·have hgt:Bt s=if s'.number.bad||s'.number.waits then ([],12) else (s'.number.out,0):=by
    unfold Bt;rw [if_neg hs2];show (match CD (Cj s s.size 0) _ with | none=>_ | some _=>_)=_;rw [h2]
   obtain ⟨rn,hn,hnc,hnv,hnn,hnf⟩:=KH (bar:=h.n) h.n (h.n+1) s' (by omega) (by omega) hb' (Nat.le_refl _) hv'
   have hnl:=s'.number_len
   have hwt:∀ bb,call tb prim Bp [.ptr h.n 0] bb hn=some (.bool s'.number.waits,hn):=fun bb=>Kw h.n (h.n+1) s'.number (by omega) hnv
   obtain ⟨oa,hR,hb1,hb2,ho,hat,hz1,hz2,hz3⟩:=hnv
   obtain ⟨a2,h5,h6,h7⟩:=ho.freeze (Rk _) (by omega) 2
   rw [hgt]
   cases c1:s'.number.bad with
   | true =>
    simp [go_sem,Bf,AA,AE,AD,AV.free.freeL,AF,h1,hnc,hR,AG,c1,AC,AV.free]
    exact ⟨rfl,by omega,.inl ⟨rfl,rfl⟩⟩
   | false =>
    cases c2:s'.number.waits with
    | true =>
     rw [c2] at hwt
     simp [go_sem,Bf,AA,AE,AD,AV.free.freeL,AF,h1,hnc,hR,AG,c1,hwt,AC,AV.free]
     exact ⟨rfl,by omega,.inl ⟨rfl,rfl⟩⟩
    | false =>
     rw [c2] at hwt
     simp [go_sem,Bf,AA,AE,AD,AV.free.freeL,AF,h1,hnc,hR,AG,c1,hwt,h6,h7.free,AV.free,AC]
     exact ⟨h7,by omega⟩
 ·have hs':(512:Int)<(s.size:Int):=by omega
  have hs2:512<s.size:=by omega
  have:Bt s=([],3):=by unfold Bt;rw [if_pos hs2]
  rw [this]
  simp [f_glyph_Tokens,AO,go_sem,hs',hs2,Bf,AA,AE,AD,AV.free.freeL,AF,AC,AV.free]
  exact ⟨rfl,by omega,.inl ⟨rfl,rfl⟩⟩
end
end Go.Ev
namespace Go.Ev
open Go
def Yu (a:Nat) (c:UInt8):Nat:=a*10+(c.toNat - 48)
def Da (a:Nat) (l:List UInt8):Nat:=l.foldl Yu a
def Lm (l:List UInt8):Prop:=∀ c ∈ l,48≤c.toNat∧c.toNat≤57
theorem GQ (a:Nat) (c:UInt8) (r:List UInt8):Da a (c::r)=Da (a*10+(c.toNat - 48)) r:=by unfold Da;rw [List.foldl_cons,Yu]
theorem Ub:∀ (l:List UInt8) (a:Nat),a≤Da a l
 | [],a=>by unfold Da;rw [List.foldl_nil];exact Nat.le_refl _
 | c::r,a=>by rw [GQ];have:=Ub r (a*10+(c.toNat - 48));omega
theorem JO (a:Nat):Da a []=a:=by unfold Da;rw [List.foldl_nil]
theorem Sr (l:List UInt8):∀ (a:Nat) (c:UInt8),Da a (l++[c])=Da a l*10+(c.toNat - 48):=by
 induction l with
 | nil=>intro a c;rw [List.nil_append,GQ,JO,JO]
 | cons x r ih=>intro a c;rw [List.cons_append,GQ,GQ];exact ih _ c
theorem bt (l:List UInt8):∀ a,Lm l→a≤18446744073709551615→Lib.parseUintM (2 ^ 64 - 1) a l=if Da a l≤18446744073709551615 then .ok (Da a l) else .range:=by
 induction l with
 | nil=>intro a _ ha;rw [JO,if_pos ha];simp only [Lib.parseUintM]
 | cons c r ih =>
  intro a hd ha
  have hc:=hd c (by simp)
  have hr:Lm r:=fun x hx=>hd x (by simp [hx])
  rw [GQ]
  generalize hk:c.toNat - 48=k
  have hge:=Ub r (a*10+k)
  simp only [Lib.parseUintM,hk]
  rw [if_pos hc]
  by_cases h1:1844674407370955162≤a
  ·rw [if_pos h1,if_neg (by omega)]
  ·rw [if_neg h1]
   by_cases h2:2 ^ 64 - 1<a*10+k
   ·rw [if_pos h2,if_neg (by omega)]
   ·rw [if_neg h2];exact ih _ hr (by omega)
theorem XC {l:List UInt8} (hne:l≠[]) (hd:Lm l):Lib.parseIntB 64 l=if Da 0 l≤9223372036854775807 then .ok (Da 0 l:Int) else .range:=by
 cases l with
 | nil=>exact absurd rfl hne
 | cons c r =>
  have hc:=hd c (by simp)
  have hU:Lib.parseUintB 64 (c::r)=if Da 0 (c::r)≤18446744073709551615 then .ok (Da 0 (c::r)) else .range:=by
   unfold Lib.parseUintB
   rw [if_neg (by simp),bt _ 0 hd (by omega)]
  have h1:¬ (c.toNat=43∨c.toNat=45):=by omega
  have h2:¬ c.toNat=45:=by omega
  unfold Lib.parseIntB
  simp only
  rw [if_neg h1,hU]
  generalize Da 0 (c::r)=d
  by_cases h3:d≤18446744073709551615
  ·rw [if_pos h3]
   simp only [h2,not_false_eq_true,true_and,false_and,if_false]
   by_cases h4:d≤9223372036854775807
   ·rw [if_neg (by omega),if_pos h4]
   ·rw [if_pos (by omega),if_neg h4]
  ·rw [if_neg h3,if_neg (by omega)]
theorem Lp {x:Int} (h:DZ x=true):∃ c:UInt8,(Utf8.encode x).data.toList=[c]∧(c.toNat:Int)=x∧48≤c.toNat∧c.toNat≤57:=by
 have h':48≤x∧x≤57:=by simpa [DZ] using h
 refine ⟨UInt8.ofNat x.toNat,?_,?_,?_,?_⟩
 ·unfold Utf8.encode
  have hv:Utf8.valid x=true:=by simp [Utf8.valid];omega
  simp only [hv,if_true]
  rw [if_pos (by omega)]
 all_goals (rw [UInt8.toNat_ofNat'];omega)
def RS.fin:Option RS→Option (List Tok)
 | none=>none
 | some s=>if s.number.bad||s.number.waits then none else some s.number.out
theorem JX {s:RS} (h:Gq s.dg=true):s.number=s:=by unfold RS.number;rw [if_pos h]
theorem Re {s:RS} (h:Gq s.dg=false) (hd:Lm s.dg.data.toList) (hv:Da 0 s.dg.data.toList≤9223372036854775807):s.number=⟨s.out++[⟨48,Da 0 s.dg.data.toList,0⟩],⟨#[]⟩,s.bad⟩:=by
 unfold RS.number
 rw [if_neg (by simp [h]),XC (by rw [JQ] at h;intro e;rw [e] at h;cases h) hd,if_pos hv]
theorem QC {s:RS} (h:Gq s.dg=false) (hd:Lm s.dg.data.toList) (hv:¬ Da 0 s.dg.data.toList≤9223372036854775807):s.number.bad=true:=by
 unfold RS.number
 rw [if_neg (by simp [h]),XC (by rw [JQ] at h;intro e;rw [e] at h;cases h) hd,if_neg hv]
theorem Qn:Gq ⟨#[]⟩=true:=by rw [JQ];rfl
theorem UK {x:Int} (h:x=955∨x=960):Cb x=true:=by
 have:∀ r:Int,Fk signsB r=true∨¬ (r=955∨r=960):=fun r=>by
  have:runes signsB=[(0,43),(1,45),(2,42),(3,47),(4,37),(5,38),(6,124),(7,94),(8,60),(9,61),(10,33),(11,46),(12,44),(13,64),(14,36),(15,35),(16,63),(17,58),(18,59),(19,91),(20,93),(21,126),(22,171),(24,187),(26,169),(28,174),(30,164),(32,161),(34,955),(36,960)]:=by decide +kernel
  by_cases h:r=955∨r=960
  ·left;unfold Fk;rw [this];rcases h with rfl | rfl<;>rfl
  ·exact .inr h
 unfold Cb
 rcases this x with h1 | h1
 ·rw [h1];simp
 ·exact absurd h h1
theorem KT {out:List Tok} {t:Tok} {b:Bool}:RS.waits ⟨out++[t],⟨#[]⟩,b⟩=(named t.sign&&t.name == 0):=by
 simp [RS.waits,Qn]
theorem Tu {s:RS} (h:Gq s.dg=false):s.waits=false:=by simp [RS.waits,h]
theorem aW {s : RS} (h : Gq s.dg = true) : s.dg = ⟨#[]⟩ := by
  rw [JQ] at h
  cases hs : s.dg with
  | mk d => rw [hs] at h; congr; have : d.toList = [] := by simpa using h
            exact Array.toList_eq_nil_iff.mp this
theorem Ym:∀ (l:List Int),
  (∀ s:RS,s.bad=false→Gq s.dg=true→s.waits=false→RS.fin (CD l s)=(BA l .plain).map (s.out++·)) ∧
  (∀ s:RS,s.bad=false→Gq s.dg=false→Lm s.dg.data.toList→Da 0 s.dg.data.toList≤9223372036854775807→RS.fin (CD l s)=(BA l (.num (Da 0 s.dg.data.toList))).map (s.out++·)) ∧
  (∀ s:RS,Gq s.dg=false→Lm s.dg.data.toList→¬ Da 0 s.dg.data.toList≤9223372036854775807→RS.fin (CD l s)=none) ∧
  (∀ (s:RS) (out:List Tok) (g:Int),s.bad=false→Gq s.dg=true→named g=true→s.out=out++[⟨g,0,0⟩]→RS.fin (CD l s)=(BA l (.name g)).map (out++·)):=by
 intro l
 induction l with
 | nil =>
  refine ⟨fun s hb he hw=>?_,fun s hb he hd hv=>?_,fun s he hd hv=>?_,fun s out g hb he hg ho=>?_⟩
  ·simp [CD,RS.fin,JX he,hb,hw,BA]
  ·simp [CD,RS.fin,Re he hd hv,hb,KT,BA,named]
  ·simp [CD,RS.fin,QC he hd hv]
  ·have hw:s.waits=true:=by simp [RS.waits,he,ho,hg]
   simp [CD,RS.fin,JX he,hw,BA]
 | cons x r ih =>
  obtain ⟨ihA,ihB,ihO,ihC⟩:=ih
  have hA:∀ s:RS,s.bad=false→Gq s.dg=true→s.waits=false→RS.fin (CD (x::r) s)=(BA (x::r) .plain).map (s.out++·):=fun s hb he hw=>by
   have hdg:=aW he
   cases hD:DZ x with
   | true =>
    obtain ⟨c,hc1,hc2,hc3,hc4⟩:=Lp hD
    have hr:s.rune x=⟨s.out,s.dg++Utf8.encode x,s.bad⟩:=by simp [RS.rune,hw,hD]
    have hl:(s.dg++Utf8.encode x).data.toList=[c]:=by rw [hdg];simp [hc1]
    have hne:x≠32:=by intro e;subst e;simp [DZ] at hD
    have:=ihB ⟨s.out,s.dg++Utf8.encode x,s.bad⟩ hb (by rw [JQ,hl];rfl) (by rw [hl];intro y hy;simp at hy;subst hy;exact ⟨hc3,hc4⟩) (by rw [hl];simp only [GQ,JO];omega)
    simp only [hl] at this
    simp only [CD,hr,hb,Bool.false_eq_true,if_false]
    rw [hb] at this
    rw [this]
    simp only [BA,hD,if_true]
    rw [if_neg hne]
    have hv:((Da 0 [c]:Nat):Int)=x - 48:=by rw [GQ,JO];omega
    rw [hv]
   | false =>
    by_cases h32:x=32
    ·subst h32
     have hr:s.rune 32=s:=by simp [RS.rune,hw,hD,JX he]
     simp only [CD,hr,hb,Bool.false_eq_true,if_false,BA,if_true]
     exact ihA s hb he hw
    ·have hr:s.rune x=⟨s.out++[⟨x,0,0⟩],s.dg,!Cb x⟩:=by simp [RS.rune,hw,hD,JX he,h32,hb]
     cases hk:Cb x with
     | false =>
      have hnn:¬ (x=955∨x=960):=fun e=>by rw [UK e] at hk;cases hk
      simp only [CD,hr,hk,Bool.not_false,if_true,RS.fin,BA,hD,Bool.false_eq_true,if_false]
      rw [if_neg h32,if_neg hnn];rfl
     | true =>
      simp only [CD,hr,hk,Bool.not_true,Bool.false_eq_true,if_false,BA,hD,if_true]
      rw [if_neg h32]
      by_cases hnn:x=955∨x=960
      ·rw [if_pos hnn]
       exact ihC _ s.out x rfl he (by simp [named,hnn]) rfl
      ·rw [if_neg hnn,JL]
       have:=ihA ⟨s.out++[⟨x,0,0⟩],s.dg,false⟩ rfl he (by rw [hdg,KT];simp [named,hnn])
       exact this
  refine ⟨hA,fun s hb he hd hv=>?_,fun s he hd hv=>?_,fun s out g hb he hg ho=>?_⟩
  ·have hw:=Tu he
   cases hD:DZ x with
   | true =>
    obtain ⟨c,hc1,hc2,hc3,hc4⟩:=Lp hD
    have hr:s.rune x=⟨s.out,s.dg++Utf8.encode x,s.bad⟩:=by simp [RS.rune,hw,hD]
    have hl:(s.dg++Utf8.encode x).data.toList=s.dg.data.toList++[c]:=by simp [hc1]
    have he2:Gq (s.dg++Utf8.encode x)=false:=by rw [JQ,hl];simp
    have hd2:Lm (s.dg++Utf8.encode x).data.toList:=by
     rw [hl];intro y hy;rw [List.mem_append] at hy
     rcases hy with hy | hy
     ·exact hd y hy
     ·simp at hy;subst hy;exact ⟨hc3,hc4⟩
    have hval:Da 0 (s.dg++Utf8.encode x).data.toList=Da 0 s.dg.data.toList*10+(c.toNat - 48):=by rw [hl,Sr]
    simp only [CD,hr,hb,Bool.false_eq_true,if_false,BA,hD,if_true]
    by_cases ho:9223372036854775807<(Da 0 s.dg.data.toList:Int)*10+(x - 48)
    ·rw [if_pos ho]
     exact ihO _ he2 hd2 (by rw [hval];omega)
    ·rw [if_neg ho]
     have:=ihB ⟨s.out,s.dg++Utf8.encode x,false⟩ rfl he2 hd2 (by rw [hval];omega)
     rw [this,hval]
     congr 2
     congr 1
     omega
   | false =>
    have hnum:=Re he hd hv
    have hw2:s.number.waits=false:=by rw [hnum,KT];simp [named]
    have hE2:Gq s.number.dg=true:=by rw [hnum];exact Qn
    have hr:s.rune x=s.number.rune x:=by
     unfold RS.rune
     simp only [hw,hw2,hD,Bool.false_eq_true,if_false,JX hE2]
    have hg:CD (x::r) s=CD (x::r) s.number:=by simp only [CD,hr]
    rw [hg,hA s.number (by rw [hnum];exact hb) hE2 hw2,hnum]
    rw [← JL]
    congr 1
    simp only [BA,hD,Bool.false_eq_true,if_false]
  ·have hw:=Tu he
   cases hD:DZ x with
   | true =>
    obtain ⟨c,hc1,hc2,hc3,hc4⟩:=Lp hD
    have hr:s.rune x=⟨s.out,s.dg++Utf8.encode x,s.bad⟩:=by simp [RS.rune,hw,hD]
    have hl:(s.dg++Utf8.encode x).data.toList=s.dg.data.toList++[c]:=by simp [hc1]
    have he2:Gq (s.dg++Utf8.encode x)=false:=by rw [JQ,hl];simp
    have hd2:Lm (s.dg++Utf8.encode x).data.toList:=by
     rw [hl];intro y hy;rw [List.mem_append] at hy
     rcases hy with hy | hy
     ·exact hd y hy
     ·simp at hy;subst hy;exact ⟨hc3,hc4⟩
    have hval:Da 0 (s.dg++Utf8.encode x).data.toList=Da 0 s.dg.data.toList*10+(c.toNat - 48):=by rw [hl,Sr]
    simp only [CD,hr]
    split
    ·rfl
    ·exact ihO _ he2 hd2 (by rw [hval];omega)
   | false =>
    have hbig:=QC he hd hv
    have hr:(s.rune x).bad=true:=by
     unfold RS.rune
     simp only [hw,hD,Bool.false_eq_true,if_false]
     split
     ·exact hbig
     ·simp [hbig]
    simp only [CD,hr,if_true,RS.fin]
  ·have hw:s.waits=true:=by simp [RS.waits,he,ho,hg]
   have hr:s.rune x=⟨out++[⟨g,0,x⟩],s.dg,!FL x⟩:=by
    simp [RS.rune,hw,RS.setName,ho,hb]
   simp only [CD,hr,BA]
   cases hn:FL x with
   | false=>simp [RS.fin]
   | true =>
    simp only [Bool.not_true,Bool.false_eq_true,if_false,if_true]
    rw [JL]
    have hx0:(x == 0)=false:=by
     cases h0:x == 0 with
     | false=>rfl
     | true=>simp at h0;subst h0;simp [FL] at hn
    exact ihA ⟨out++[⟨g,0,x⟩],s.dg,false⟩ rfl he (by rw [aW he,KT];simp [hx0])
theorem Ql (s:ByteArray):Bt s=BP s:=by
 unfold Bt BP
 split
 ·rfl
 ·have:=(Ym (DP s)).1 ⟨[],⟨#[]⟩,false⟩ rfl Qn (by simp [RS.waits])
  simp only [List.nil_append] at this
  have h2:(BA (DP s) .plain).map (fun x=>x)=BA (DP s) .plain:=by cases BA (DP s) .plain<;>rfl
  rw [h2] at this
  rw [← this]
  cases CD (DP s) ⟨[],⟨#[]⟩,false⟩ with
  | none=>rfl
  | some s' =>
   simp only [RS.fin]
   split
   ·rfl
   ·rfl
end Go.Ev
namespace Go.Ev
open Go
def i64c (x:Int):List AV:=[.int .i64 x]
def EN (x:Nat):List AV:=[.int .i64 x]
def Ah (l:List Tok) (i:Nat):Int:=match l[i]? with | some t=>t.sign | none=>0
structure NS where
 to:List Int
 op:List Nat
 deep:Nat
def Cr (l:List Tok) (i:Nat) (s:NS):Option NS :=
 if Ah l i=63∨Ah l i=91 then (if 16<s.op.length+1 then none else some ⟨s.to.set i (-1),s.op++[i],max s.deep (s.op.length+1)⟩) else
 if Ah l i=58 then (match s.op.getLast? with | none=>none | some p=>if Ah l p=63 then some ⟨(s.to.set i (-1)).set p (i+1:Nat),s.op.dropLast++[i],s.deep⟩ else none) else
 if Ah l i=59 then (match s.op.getLast? with | none=>none | some p=>if Ah l p=91 then none else some ⟨(s.to.set i (-1)).set p i,s.op.dropLast,s.deep⟩) else
 if Ah l i=93 then (match s.op.getLast? with | none=>none | some p=>if Ah l p=91 then some ⟨(s.to.set i (-1)).set i p,s.op.dropLast,s.deep⟩ else none) else
 some ⟨s.to.set i (-1),s.op,s.deep⟩
def Bi (l:List Tok):Nat→Nat→NS→Option NS
 | 0,_,s=>some s
 | k+1,i,s=>(Cr l i s).bind (Bi l k (i+1))
def CH (l:List Tok) (to:List Int) (at':Nat):Nat→Nat→Int
 | 0,_=>-1
 | k+1,i=>if Ah l i=93∧to.getD i 0<at' then ((i+1:Nat):Int) else CH l to at' k (i+1)
def Fd (l:List Tok):Nat→Nat→List Int→Option (List Int)
 | 0,_,to=>some to
 | k+1,i,to=>if Ah l i=126 then (if CH l to i (l.length - i) i<0 then none else Fd l k (i+1) (to.set i (CH l to i (l.length - i) i))) else Fd l k (i+1) to
def GJ (l:List Tok):Option (List Int × Nat):=match Bi l l.length 0 ⟨List.replicate l.length 0,[],0⟩ with
 | none=>none
 | some s=>if s.op=[] then (Fd l l.length 0 s.to).map (·,s.deep) else none
def TOV (h:H) (bar:Nat) (a:AV) (id:Nat) (to:List Int):Prop:=a=.sl id 0 1 to.length true∧bar≤id∧id<h.n∧h.get id=some (.cells (to.flatMap i64c) 0)
theorem Kx {to:List Int} {i:Nat} (hi:i<to.length):(to.flatMap i64c)[i]? = some (.int .i64 to[i]):=by
 have:=Id (c:=i64c) (k:=1) (fun _=>rfl) to i to[i] (by omega) (List.getElem?_eq_getElem hi)
 simpa [i64c] using this
theorem Od {to:List Int} {i:Nat} (hi:i<to.length) (v:Int):AL (to.flatMap i64c) i [.int .i64 v]=(to.set i v).flatMap i64c:=by
 have:=Gx (c:=i64c) (k:=1) (fun _=>rfl) [] 0 [.int .i64 v] v to i to[i] (List.getElem?_eq_getElem hi) (by simp) rfl
 simpa using this
theorem ED (to:List Int):(to.flatMap i64c).length=to.length:=by rw [GS (k:=1) (fun _=>rfl),Nat.mul_one]
theorem HZ {a:AV} {l:List Tok} (v:FzV 3 a l.length (l.flatMap Tok.cells)):(a=.nilsl∧l=[]) ∨
  ∃ full cs,a=.fz 3 l.length cs full∧(cs.length=l.length*3)=True∧(∀ i,i<l.length→cs[i*3]? = some (.int .i32 (Ah l i))) ∧
   ∀ i (hi:i<l.length),i*3+3≤cs.length∧(cs.drop (i*3)).take 3=l[i].cells:=by
 obtain ⟨h1,h2,⟨h3,h4⟩ | ⟨full,h3⟩⟩:=v
 ·exact .inl ⟨h3,List.length_eq_zero_iff.mp h4⟩
 ·refine .inr ⟨full,_,h3,by simp only [h1],fun i hi=>?_,fun i hi=>⟨by rw [h1];omega,IL Tok.cells_len l i _ (List.getElem?_eq_getElem hi)⟩⟩
  have:=Id Tok.cells_len l i l[i] (by omega) (List.getElem?_eq_getElem hi)
  rw [this]
  simp [Tok.cells,Ah,hi]
theorem YP {h:H} {bar:Nat} {a:AV} {op:List Nat} (v:OS 1 h bar a op.length (op.flatMap EN)):(op=[]∧((a=.nilsl)∨∃ id rest,a=.sl id 0 1 0 false∧bar≤id∧id<h.n∧h.get id=some (.cells rest 0))) ∨
  ∃ id all p,op.getLast? = some p∧op≠[]∧a=.sl id 0 1 op.length false∧bar≤id∧id<h.n∧h.get id=some (.cells all 0)∧all[op.length - 1]? = some (.int .i64 (p:Nat))∧op.length≤all.length ∧
   (∀ g:H,g.n=h.n→g.get id=h.get id→OS 1 g bar (.sl id 0 1 (op.length - 1) false) op.dropLast.length (op.dropLast.flatMap EN)) ∧
   ∀ (q:Nat) (g:H),g.n=h.n→g.get id=some (.cells (AL all (op.length - 1) [.int .i64 (q:Nat)]) 0)→OS 1 g bar a (op.dropLast++[q]).length ((op.dropLast++[q]).flatMap EN):=by
 obtain ⟨h1,h2,⟨h3,h4⟩ | ⟨id,rest,e1,e2,e3,e4⟩⟩:=v
 ·have:op=[]:=List.length_eq_zero_iff.mp h4
  exact .inl ⟨this,.inl h3⟩
 ·by_cases hop:op=[]
  ·subst hop
   exact .inl ⟨rfl,.inr ⟨id,_,e1,e2,e3,e4⟩⟩
  ·right
   obtain ⟨p,hp⟩:∃ p,op.getLast? = some p:=⟨_,List.getLast?_eq_some_getLast hop⟩
   have hsplit:op=op.dropLast++[p]:=by
    have:=List.dropLast_concat_getLast hop
    rw [List.getLast?_eq_some_getLast hop] at hp
    injection hp with hp
    rw [← hp];exact this.symm
   have hn1:op.length=op.dropLast.length+1:=by rw [List.length_dropLast];cases op with | nil=>exact absurd rfl hop | cons _ _=>simp
   have hlast:op[op.length - 1]? = some p:=by rw [← List.getLast?_eq_getElem?];exact hp
   have hl1:∀ l:List Nat,(l.flatMap EN).length=l.length:=fun l=>by rw [GS (k:=1) (fun _=>rfl),Nat.mul_one]
   have hall1:∀ l:List Nat,(l.flatMap EN).all AV.one=true:=fun l=>by
    rw [List.all_eq_true];intro y hy;rw [List.mem_flatMap] at hy;obtain ⟨u,_,hy⟩:=hy;simp [EN] at hy;subst hy;rfl
   refine ⟨id,op.flatMap EN++rest,p,hp,hop,e1,e2,e3,e4,?_,by simp [hl1],fun g g1 g2=>?_,fun q g g1 g2=>?_⟩
   ·rw [List.getElem?_append_left (by rw [hl1];omega)]
    have:=Id (c:=EN) (k:=1) (fun _=>rfl) op (op.length - 1) p (by omega) hlast
    rw [Nat.mul_one] at this
    rw [this];rfl
   ·refine ⟨by rw [hl1,Nat.mul_one],hall1 _,.inr ⟨id,.int .i64 (p:Nat)::rest,by rw [List.length_dropLast],e2,by omega,?_⟩⟩
    rw [g2,e4]
    congr 2
    conv=>lhs;rw [hsplit]
    simp [EN]
   ·refine ⟨by rw [hl1,Nat.mul_one],hall1 _,.inr ⟨id,rest,by rw [e1,List.length_append,List.length_singleton,← hn1],e2,by omega,?_⟩⟩
    rw [g2]
    congr 2
    have:=Gx (c:=EN) (k:=1) (fun _=>rfl) rest 0 [.int .i64 (q:Nat)] q op (op.length - 1) p hlast (by simp) rfl
    rw [Nat.mul_one,Nat.add_zero] at this
    rw [this]
    congr 2
    conv=>lhs;rw [hsplit]
    rw [List.length_append,List.length_singleton,Nat.add_sub_cancel,List.set_append_right _ _ (by simp)]
    simp
end Go.Ev
namespace Go.Ev
open Go
section
variable {pr:Oracle} {bar:Nat} {h:H}
theorem TOV.set {g:H} {a:AV} {id:Nat} {to:List Int} (v:TOV g bar a id to) {i:Nat} (hi:i<to.length) (x:Int):TOV (g.set id (.cells (AL (to.flatMap i64c) i [.int .i64 x]) 0)) bar a id (to.set i x):=by
 obtain ⟨h1,h2,h3,h4⟩:=v
 exact ⟨by rw [h1,List.length_set],h2,h3,by rw [AU,if_pos rfl,Od hi]⟩
theorem TOV.mono {g g':H} {a:AV} {id:Nat} {to:List Int} (v:TOV g bar a id to) (hn:g.n≤g'.n) (hg:g'.get id=g.get id):TOV g' bar a id to:=by
 obtain ⟨h1,h2,h3,h4⟩:=v
 exact ⟨h1,h2,by omega,by rw [hg];exact h4⟩
theorem ID (a v:AV):AL [a] 0 [v]=[v]:=Eq.trans rfl rfl
theorem SI (l:List Tok) (la:AV) (hla:FzV 3 la l.length (l.flatMap Tok.cells)) (hlen:l.length≤100000) (ta:AV) (tid:Nat) (Q:Ex→Env→H→Prop):∀ (k i:Nat) (g:H) (oa:AV) (s:NS),l.length=i+k→TOV g bar ta tid s.to→s.to.length=l.length →
  OS 1 g bar oa s.op.length (s.op.flatMap EN)→¬ oa.isAt tid→bar≤g.n→(∀ p ∈ s.op,p<i)→s.op.length≤16 →
  (∀ e g',e.get 2=some .nilsl→e.get 3=some (.int .i64 (-1))→e.get 4=some (.int .i64 13)→Bi l k i s=none→Q .ret e g') →
  (∀ e g' oa' s',e.get 0=some la→e.get 5=some ta→e.get 6=some oa'→e.get 7=some (.int .i64 (s'.deep:Nat))→Bi l k i s=some s'→TOV g' bar ta tid s'.to→s'.to.length=l.length→OS 1 g' bar oa' s'.op.length (s'.op.flatMap EN)→bar≤g'.n→Q (.exit 0) e g') →
  CW (call tb pr) bar [0,5,6,7,14,15] FF [(0,la),(5,ta),(6,oa),(7,.int .i64 (s.deep:Nat)),(14,As l.length),(15,As i)] g Q:=by
 intro k
 induction k with
 | zero =>
  intro i g oa s hk ht htl ho hat hb hp hl16 h1 h2
  refine Ad FF.eq_1 ?_
  simp [go_sem,hk]
  exact h2 _ _ _ s rfl rfl rfl rfl rfl ht htl ho hb
 | succ k ih =>
  intro i g oa s hk ht htl ho hat hb hp hl16 h1 h2
  refine Ad FF.eq_1 ?_
  have hi:i<l.length:=by omega
  have hbi:(i:Int)<(l.length:Int):=by omega
  have hit:i<s.to.length:=by omega
  have hw:=BF (n:=i) (by omega)
  rcases HZ hla with ⟨rfl,rfl⟩ | ⟨full,cs,rfl,hl,hx,_⟩
  ·cases hi
  have hxi:=hx i hi
  have hT1:=ht.set hit (-1)
  have hO1:=ho.set (.cells (AL (s.to.flatMap i64c) i [.int .i64 (-1)]) 0) hat
  have htl1:(s.to.set i (-1)).length=l.length:=by rw [List.length_set];exact htl
  obtain ⟨hta,htb,htn,htg⟩:=ht
  rw [htl] at hta
  subst hta
  have hle1:i+1≤(s.to.flatMap i64c).length:=by rw [ED];omega
  have hgo:Bi l (k+1) i s=(Cr l i s).bind (Bi l k (i+1)):=rfl
  generalize htc:s.to.flatMap i64c=tc at *
  generalize hg1:g.set tid (.cells (AL tc i [.int .i64 (-1)]) 0)=g1 at *
  have hg1n:g1.n=g.n:=by rw [← hg1];rfl
  by_cases hA:Ah l i=63∨Ah l i=91
  ·obtain ⟨a',g',e1,e2,e3,e4,e5⟩:=hO1.app (by omega) 8 (EN i) rfl rfl (by omega) (by omega) (by omega)
   simp only [EN] at e1
   have hT2:TOV g' bar (.sl tid 0 1 l.length true) tid (s.to.set i (-1)):=hT1.mono (by omega) (e4 tid (by omega) hat)
   have hmm:(if ((s.op.length:Int)+1) > (s.deep:Int) then ((s.op.length:Int)+1) else (s.deep:Int))=((max s.deep (s.op.length+1):Nat):Int):=by
    split<;>omega
   by_cases h16:16<s.op.length+1
   ·have hgo2:Bi l (k+1) i s=none:=by rw [hgo];unfold Cr;rw [if_pos hA,if_pos h16];rfl
    have h16':(16:Int)<(s.op.length:Int)+1:=by omega
    rcases hA with hA | hA
    ·simp [-getElem?_pos,go_sem,AB,hbi,hi,AJ,hl,hxi,hA,htg,htb,hle1,hg1,AX,Af,ID,e1,e2.len,hmm,h16']
     refine h1 _ _ ?_ ?_ ?_ hgo2<;>rfl
    ·simp [-getElem?_pos,go_sem,AB,hbi,hi,AJ,hl,hxi,hA,htg,htb,hle1,hg1,AX,Af,ID,e1,e2.len,hmm,h16']
     refine h1 _ _ ?_ ?_ ?_ hgo2<;>rfl
   ·have hgo2:Bi l (k+1) i s=Bi l k (i+1) ⟨s.to.set i (-1),s.op++[i],max s.deep (s.op.length+1)⟩:=by rw [hgo];unfold Cr;rw [if_pos hA,if_neg h16];rfl
    have h16':¬ (16:Int)<(s.op.length:Int)+1:=by omega
    have hat':¬ a'.isAt tid:=fun hj=>by have:=e5 _ hj;omega
    have hO2:OS 1 g' bar a' (s.op++[i]).length ((s.op++[i]).flatMap EN):=by simpa [EN] using e2
    have hp2:∀ p ∈ s.op++[i],p<i+1:=fun p hpp=>by
     rw [List.mem_append] at hpp
     rcases hpp with hpp | hpp
     ·have:=hp p hpp;omega
     ·simp at hpp;omega
    rcases hA with hA | hA
    ·simp [-getElem?_pos,go_sem,AB,hbi,hi,AJ,hl,hxi,hA,htg,htb,hle1,hg1,AX,Af,ID,e1,e2.len,hmm,h16',hw]
     exact ih (i+1) g' a' ⟨s.to.set i (-1),s.op++[i],max s.deep (s.op.length+1)⟩ (by omega) hT2 htl1 hO2 hat' (by omega) hp2 (by simp;omega) (fun e g' q1 q2 q3 q4=>h1 e g' q1 q2 q3 (by rw [hgo2,q4])) (fun e g' oa' s' q1 q2 q3 q4 q5=>h2 e g' oa' s' q1 q2 q3 q4 (by rw [hgo2,q5]))
    ·simp [-getElem?_pos,go_sem,AB,hbi,hi,AJ,hl,hxi,hA,htg,htb,hle1,hg1,AX,Af,ID,e1,e2.len,hmm,h16',hw]
     exact ih (i+1) g' a' ⟨s.to.set i (-1),s.op++[i],max s.deep (s.op.length+1)⟩ (by omega) hT2 htl1 hO2 hat' (by omega) hp2 (by simp;omega) (fun e g' q1 q2 q3 q4=>h1 e g' q1 q2 q3 (by rw [hgo2,q4])) (fun e g' oa' s' q1 q2 q3 q4 q5=>h2 e g' oa' s' q1 q2 q3 q4 (by rw [hgo2,q5]))
  ·have n1:(Ah l i == 63)=false:=by simp;omega
   have n2:(Ah l i == 91)=false:=by simp;omega
   by_cases hE:Ah l i=58∨Ah l i=59∨Ah l i=93
   ·rcases YP hO1 with ⟨hop,hnil⟩ | ⟨oid,all,p,hlast,hop,rfl,g1',g2',g3',g4',g5',g6',g7'⟩
    ·have hgo2:Bi l (k+1) i s=none:=by
      rw [hgo];unfold Cr;rw [if_neg hA,hop]
      rcases hE with hE | hE | hE<;>simp [hE]
     have hln:∀ g,GC (some oa) g=some (As 0,g):=by
      rcases hnil with rfl | ⟨_,_,rfl,_⟩<;>intro g<;>rfl
     rcases hE with hE | hE | hE
     ·simp [-getElem?_pos,go_sem,AB,hbi,hi,AJ,hl,hxi,hE,htg,htb,hle1,hg1,hln]
      refine h1 _ _ ?_ ?_ ?_ hgo2<;>rfl
     ·simp [-getElem?_pos,go_sem,AB,hbi,hi,AJ,hl,hxi,hE,htg,htb,hle1,hg1,hln]
      refine h1 _ _ ?_ ?_ ?_ hgo2<;>rfl
     ·simp [-getElem?_pos,go_sem,AB,hbi,hi,AJ,hl,hxi,hE,htg,htb,hle1,hg1,hln]
      refine h1 _ _ ?_ ?_ ?_ hgo2<;>rfl
    ·have hopl:0<s.op.length:=List.length_pos_iff.mpr hop
     have hol0:((s.op.length:Int) == 0)=false:=by simp;omega
     have hpl:p<l.length:=by
      have:=hp p (List.mem_of_getLast? hlast);omega
     have hpt:p<s.to.length:=by omega
     have hwo:IntKind.i64.wrap ((s.op.length:Int) - 1)=((s.op.length - 1:Nat):Int):=by rw [BN (by omega) (by omega)];omega
     have ho1:s.op.length - 1<s.op.length:=by omega
     have ho1':((s.op.length - 1:Nat):Int)<(s.op.length:Int):=by omega
     have hpb:(p:Int)<(l.length:Int):=by omega
     have hxp:=hx p hpl
     have hpi:((p:Int)<(i:Int)):=by have:=hp p (List.mem_of_getLast? hlast);omega
     have hone:oid≠tid:=hat
     have hpt1:p<(s.to.set i (-1)).length:=by rw [List.length_set];exact hpt
     have hit1:i<(s.to.set i (-1)).length:=by rw [List.length_set];exact hit
     have hle2:p+1≤((s.to.set i (-1)).flatMap i64c).length:=by rw [ED];omega
     have hle3:i+1≤((s.to.set i (-1)).flatMap i64c).length:=by rw [ED];omega
     have hoall:s.op.length - 1+1≤all.length:=by omega
     have hbo:0≤(s.op.length:Int) - 1:=by omega
     have hub:((s.op.length:Int) - 1).toNat=s.op.length - 1:=by omega
     have hsub:s.op.length - 1≤s.op.length:=by omega
     obtain ⟨_,htb1,htn1,htg1⟩:=id hT1
     have hTa:=hT1.set hpt1 ((i+1:Nat):Int)
     have hTb:=hT1.set hpt1 (i:Int)
     have hTc:=hT1.set hit1 (p:Int)
     generalize htc1:(s.to.set i (-1)).flatMap i64c=tc1 at *
     have hopp:∀ q ∈ s.op.dropLast,q<i:=fun q hq=>hp q (by rw [List.dropLast_eq_take] at hq;exact List.mem_of_mem_take hq)
     have hdl:s.op.dropLast.length=s.op.length - 1:=List.length_dropLast
     rcases hE with hE | hE | hE
     ·by_cases hs:Ah l p=63
      ·have hgo2:Bi l (k+1) i s=Bi l k (i+1) ⟨(s.to.set i (-1)).set p ((i+1:Nat):Int),s.op.dropLast++[i],s.deep⟩:=by rw [hgo];unfold Cr;rw [if_neg hA,if_pos hE,hlast];simp only [hs,if_true];rfl
       simp [-getElem?_pos,go_sem,AB,hbi,hi,AJ,hl,hxi,hE,htg,htb,hle1,hg1,hop,hopl,hol0,hwo,hw,ho1,ho1',g3',g4',hpb,hpl,hxp,hs,htg1,hle2,hone,hoall,g1']
       have hT2:=(hTa.mono (g':=(g1.set tid (.cells (AL tc1 p [.int .i64 ((i+1:Nat):Int)]) 0)).set oid (.cells (AL all (s.op.length - 1) [.int .i64 (i:Int)]) 0)) (Nat.le_refl _) (by rw [AI (fun e=>hone e.symm)]))
       have hO2:=g7' i ((g1.set tid (.cells (AL tc1 p [.int .i64 ((i+1:Nat):Int)]) 0)).set oid (.cells (AL all (s.op.length - 1) [.int .i64 (i:Int)]) 0)) rfl (by rw [AU,if_pos rfl])
       refine ih (i+1) _ _ ⟨(s.to.set i (-1)).set p ((i+1:Nat):Int),s.op.dropLast++[i],s.deep⟩ (by omega) hT2 (by rw [List.length_set];exact htl1) hO2 hat (by simp only [AW];omega) (fun q hq=>?_) (by simp;omega) (fun e g' q1 q2 q3 q4=>h1 e g' q1 q2 q3 (by rw [hgo2,q4])) (fun e g' oa' s' q1 q2 q3 q4 q5=>h2 e g' oa' s' q1 q2 q3 q4 (by rw [hgo2,q5]))
       rw [List.mem_append] at hq
       rcases hq with hq | hq
       ·have:=hopp q hq;omega
       ·simp at hq;omega
      ·have hgo2:Bi l (k+1) i s=none:=by rw [hgo];unfold Cr;rw [if_neg hA,if_pos hE,hlast];simp only [hs,if_false];rfl
       have hs':(Ah l p != 63)=true:=by simpa using hs
       simp [-getElem?_pos,go_sem,AB,hbi,hi,AJ,hl,hxi,hE,htg,htb,hle1,hg1,hop,hopl,hol0,hwo,hw,ho1,ho1',g3',g4',hpb,hpl,hxp,hs']
       refine h1 _ _ ?_ ?_ ?_ hgo2<;>rfl
     ·have h58:¬ Ah l i=58:=by omega
      by_cases hs:Ah l p=91
      ·have hgo2:Bi l (k+1) i s=none:=by rw [hgo];unfold Cr;rw [if_neg hA,if_neg h58,if_pos hE,hlast];simp only [hs,if_true];rfl
       have hs':(Ah l p == 91)=true:=by simpa using hs
       simp [-getElem?_pos,go_sem,AB,hbi,hi,AJ,hl,hxi,hE,htg,htb,hle1,hg1,hop,hopl,hol0,hwo,hw,ho1,ho1',g3',g4',hpb,hpl,hxp,hs']
       refine h1 _ _ ?_ ?_ ?_ hgo2<;>rfl
      ·have hgo2:Bi l (k+1) i s=Bi l k (i+1) ⟨(s.to.set i (-1)).set p (i:Int),s.op.dropLast,s.deep⟩:=by rw [hgo];unfold Cr;rw [if_neg hA,if_neg h58,if_pos hE,hlast];simp only [hs,if_false];rfl
       have hs':(Ah l p == 91)=false:=by simpa using hs
       simp [-getElem?_pos,go_sem,AB,hbi,hi,AJ,hl,hxi,hE,htg,htb,hle1,hg1,hop,hopl,hol0,hwo,hw,ho1,ho1',g3',g4',hpb,hpl,hxp,hs,hs',htg1,hle2,hle3,hone,hoall,g1',BI,Ap,AY,BL,hbo,hub,hsub]
       have hO2:=g6' (g1.set tid (.cells (AL tc1 p [.int .i64 (i:Int)]) 0)) rfl (by rw [AI hone])
       exact ih (i+1) _ _ ⟨(s.to.set i (-1)).set p (i:Int),s.op.dropLast,s.deep⟩ (by omega) hTb (by rw [List.length_set];exact htl1) hO2 hat (by simp only [AW];omega) (fun q hq=>by have:=hopp q hq;omega) (by simp;omega) (fun e g' q1 q2 q3 q4=>h1 e g' q1 q2 q3 (by rw [hgo2,q4])) (fun e g' oa' s' q1 q2 q3 q4 q5=>h2 e g' oa' s' q1 q2 q3 q4 (by rw [hgo2,q5]))
     ·have h58:¬ Ah l i=58:=by omega
      have h59:¬ Ah l i=59:=by omega
      by_cases hs:Ah l p=91
      ·have hgo2:Bi l (k+1) i s=Bi l k (i+1) ⟨(s.to.set i (-1)).set i (p:Int),s.op.dropLast,s.deep⟩:=by rw [hgo];unfold Cr;rw [if_neg hA,if_neg h58,if_neg h59,if_pos hE,hlast];simp only [hs,if_true];rfl
       have hs':(Ah l p != 91)=false:=by simpa using hs
       simp [-getElem?_pos,go_sem,AB,hbi,hi,AJ,hl,hxi,hE,htg,htb,hle1,hg1,hop,hopl,hol0,hwo,hw,ho1,ho1',g3',g4',hpb,hpl,hxp,hs,hs',htg1,hle2,hle3,hone,hoall,g1',BI,Ap,AY,BL,hbo,hub,hsub]
       have hO2:=g6' (g1.set tid (.cells (AL tc1 i [.int .i64 (p:Int)]) 0)) rfl (by rw [AI hone])
       exact ih (i+1) _ _ ⟨(s.to.set i (-1)).set i (p:Int),s.op.dropLast,s.deep⟩ (by omega) hTc (by rw [List.length_set];exact htl1) hO2 hat (by simp only [AW];omega) (fun q hq=>by have:=hopp q hq;omega) (by simp;omega) (fun e g' q1 q2 q3 q4=>h1 e g' q1 q2 q3 (by rw [hgo2,q4])) (fun e g' oa' s' q1 q2 q3 q4 q5=>h2 e g' oa' s' q1 q2 q3 q4 (by rw [hgo2,q5]))
      ·have hgo2:Bi l (k+1) i s=none:=by rw [hgo];unfold Cr;rw [if_neg hA,if_neg h58,if_neg h59,if_pos hE,hlast];simp only [hs,if_false];rfl
       have hs':(Ah l p != 91)=true:=by simpa using hs
       simp [-getElem?_pos,go_sem,AB,hbi,hi,AJ,hl,hxi,hE,htg,htb,hle1,hg1,hop,hopl,hol0,hwo,hw,ho1,ho1',g3',g4',hpb,hpl,hxp,hs']
       refine h1 _ _ ?_ ?_ ?_ hgo2<;>rfl
   ·have hgo2:Bi l (k+1) i s=Bi l k (i+1) ⟨s.to.set i (-1),s.op,s.deep⟩:=by rw [hgo];unfold Cr;rw [if_neg hA,if_neg (by omega),if_neg (by omega),if_neg (by omega)];rfl
    have n3:(Ah l i == 58)=false:=by simp;omega
    have n4:(Ah l i == 59)=false:=by simp;omega
    have n5:(Ah l i == 93)=false:=by simp;omega
    simp [-getElem?_pos,go_sem,AB,hbi,hi,AJ,hl,hxi,n1,n2,n3,n4,n5,htg,htb,hle1,hg1,hw]
    exact ih (i+1) g1 oa ⟨s.to.set i (-1),s.op,s.deep⟩ (by omega) hT1 htl1 hO1 hat (by omega) (fun q hq=>by have:=hp q hq;omega) hl16 (fun e g' q1 q2 q3 q4=>h1 e g' q1 q2 q3 (by rw [hgo2,q4])) (fun e g' oa' s' q1 q2 q3 q4 q5=>h2 e g' oa' s' q1 q2 q3 q4 (by rw [hgo2,q5]))
theorem QL (l:List Tok) (la:AV) (hla:FzV 3 la l.length (l.flatMap Tok.cells)) (hlen:l.length≤100000) (to:List Int) (htl:to.length=l.length) (ta:AV) (b tid at':Nat) (g:H) (ht:TOV g b ta tid to) (Q:Ex→Env→H→Prop):∀ (k i:Nat),l.length=i+k →
  (∀ e,e.get 6=some (.int .i64 (CH l to at' k i))→Q .ret e g)→(∀ e,CH l to at' k i=-1→Q (.exit 0) e g) →
  CW (call tb pr) bar [0,1,2,7] EV [(0,la),(1,ta),(2,As at'),(7,As i)] g Q:=by
 intro k
 induction k with
 | zero =>
  intro i hk h1 h2
  refine Ad EV.eq_1 ?_
  have hln:∀ g,GC (some la) g=some (As l.length,g):=(hla.vw g).len
  simp [go_sem,hln,hk]
  exact h2 _ rfl
 | succ k ih =>
  intro i hk h1 h2
  refine Ad EV.eq_1 ?_
  have hi:i<l.length:=by omega
  have hbi:(i:Int)<(l.length:Int):=by omega
  have hw:=BF (n:=i) (by omega)
  rcases HZ hla with ⟨rfl,rfl⟩ | ⟨full,cs,rfl,hl,hx,_⟩
  ·cases hi
  have hxi:=hx i hi
  obtain ⟨hta,htb,htn,htg⟩:=ht
  rw [htl] at hta
  subst hta
  have hti:=Kx (to:=to) (i:=i) (by omega)
  have htd:to.getD i 0=to[i]:=by rw [List.getD_eq_getElem?_getD,List.getElem?_eq_getElem (by omega)];rfl
  generalize to.flatMap i64c=tc at *
  have hgo:CH l to at' (k+1) i=if Ah l i=93∧to.getD i 0<at' then ((i+1:Nat):Int) else CH l to at' k (i+1):=rfl
  rw [htd] at hgo
  by_cases c1:Ah l i=93
  ·by_cases c2:to[i]<(at':Int)
   ·rw [if_pos ⟨c1,c2⟩] at hgo
    simp [-getElem?_pos,go_sem,hbi,hi,AJ,hl,hxi,c1,c2,htg,hti,hw]
    exact h1 _ (by rw [hgo];simp [Env.get])
   ·rw [if_neg (fun e=>c2 e.2)] at hgo
    simp [-getElem?_pos,go_sem,hbi,hi,AJ,hl,hxi,c1,c2,htg,hti,hw]
    exact ih (i+1) (by omega) (fun e q=>h1 e (by rw [hgo];exact q)) (fun e q=>h2 e (by rw [hgo];exact q))
  ·rw [if_neg (fun e=>c1 e.1)] at hgo
   have c1':(Ah l i == 93)=false:=by simpa using c1
   simp [-getElem?_pos,go_sem,hbi,hi,AJ,hl,hxi,c1',htg,hti,hw]
   exact ih (i+1) (by omega) (fun e q=>h1 e (by rw [hgo];exact q)) (fun e q=>h2 e (by rw [hgo];exact q))
theorem Lr (l:List Tok) (la:AV) (hla:FzV 3 la l.length (l.flatMap Tok.cells)) (hlen:l.length≤100000) (to:List Int) (htl:to.length=l.length) (ta:AV) (b tid at':Nat) (ht:TOV h b ta tid to) (hat:at'≤l.length):call tb pr Dn [la,ta,.int .i64 (at':Nat)] bar h=some (.int .i64 (CH l to at' (l.length - at') at'),h):=by
 refine AQ Mg (AZ rfl rfl (BJ ?_))
 simp [f_engramref9_leaves,AO,go_sem]
 refine QL l la hla hlen to htl ta b tid at' h ht _ (l.length - at') at' (by omega) (fun e h1=>?_) (fun e h1=>?_)
 ·simp [go_sem,AN,AM,AA,AE,AD,AC,AV.free.freeL,AV.free,AF,AH,h1]
 ·simp [go_sem,AN,AM,AA,AE,AD,AC,AV.free.freeL,AV.free,AF,AH];exact h1.symm
theorem RB (l:List Tok) (la:AV) (hla:FzV 3 la l.length (l.flatMap Tok.cells)) (hlen:l.length≤100000) (ta:AV) (tid:Nat) (deep:Nat) (Q:Ex→Env→H→Prop):∀ (k i:Nat) (g:H) (to:List Int),l.length=i+k→TOV g bar ta tid to→to.length=l.length →
  (∀ e g',e.get 2=some .nilsl→e.get 3=some (.int .i64 (-1))→e.get 4=some (.int .i64 13)→Fd l k i to=none→Q .ret e g') →
  (∀ e g' to',e.get 5=some ta→e.get 7=some (.int .i64 (deep:Nat))→Fd l k i to=some to'→TOV g' bar ta tid to'→to'.length=l.length→Q (.exit 3) e g') →
  CW (call tb pr) bar [0,5,7,143,144] FG [(0,la),(5,ta),(7,.int .i64 (deep:Nat)),(143,As l.length),(144,As i)] g Q:=by
 intro k
 induction k with
 | zero =>
  intro i g to hk ht htl h1 h2
  refine Ad FG.eq_1 ?_
  simp [go_sem,hk]
  exact h2 _ _ to rfl rfl rfl ht htl
 | succ k ih =>
  intro i g to hk ht htl h1 h2
  refine Ad FG.eq_1 ?_
  have hi:i<l.length:=by omega
  have hbi:(i:Int)<(l.length:Int):=by omega
  have hit:i<to.length:=by omega
  have hw:=BF (n:=i) (by omega)
  have hlv:=Lr (pr:=pr) (bar:=bar) l la hla hlen to htl ta bar tid i ht (by omega)
  rcases HZ hla with ⟨rfl,rfl⟩ | ⟨full,cs,rfl,hl,hx,_⟩
  ·cases hi
  have hxi:=hx i hi
  have hT1:=ht.set hit (CH l to i (l.length - i) i)
  have htl1:(to.set i (CH l to i (l.length - i) i)).length=l.length:=by rw [List.length_set];exact htl
  obtain ⟨_,_,_,htg1⟩:=id hT1
  obtain ⟨hta,htb,htn,htg⟩:=ht
  rw [htl] at hta
  subst hta
  have hle1:i+1≤(to.flatMap i64c).length:=by rw [ED];omega
  have hgo:Fd l (k+1) i to=if Ah l i=126 then (if CH l to i (l.length - i) i<0 then none else Fd l k (i+1) (to.set i (CH l to i (l.length - i) i))) else Fd l k (i+1) to:=rfl
  generalize htc:to.flatMap i64c=tc at *
  generalize hlvv:CH l to i (l.length - i) i=lv at *
  have hti:=Kx (to:=to.set i lv) (i:=i) (by rw [List.length_set];exact hit)
  simp only [List.getElem_set_self] at hti
  generalize hg1:g.set tid (.cells (AL tc i [.int .i64 lv]) 0)=g1 at *
  by_cases c1:Ah l i=126
  ·rw [if_pos c1] at hgo
   by_cases c2:lv<0
   ·rw [if_pos c2] at hgo
    simp [-getElem?_pos,go_sem,AB,hbi,hi,AJ,hl,hxi,c1,htg,htb,hle1,hlv,hg1,htg1,hti,c2]
    refine h1 _ _ ?_ ?_ ?_ hgo<;>rfl
   ·rw [if_neg c2] at hgo
    simp [-getElem?_pos,go_sem,AB,hbi,hi,AJ,hl,hxi,c1,htg,htb,hle1,hlv,hg1,htg1,hti,c2,hw]
    exact ih (i+1) g1 _ (by omega) hT1 htl1 (fun e g' q1 q2 q3 q4=>h1 e g' q1 q2 q3 (by rw [hgo,q4])) (fun e g' to' q1 q2 q3=>h2 e g' to' q1 q2 (by rw [hgo,q3]))
  ·rw [if_neg c1] at hgo
   have c1':(Ah l i == 126)=false:=by simpa using c1
   simp [-getElem?_pos,go_sem,AB,hbi,hi,AJ,hl,hxi,c1',hw]
   have ht0:TOV g bar (.sl tid 0 1 l.length true) tid to:=⟨by rw [htl],htb,htn,by rw [htc];exact htg⟩
   exact ih (i+1) g _ (by omega) ht0 htl (fun e g' q1 q2 q3 q4=>h1 e g' q1 q2 q3 (by rw [hgo,q4])) (fun e g' to' q1 q2 q3=>h2 e g' to' q1 q2 (by rw [hgo,q3]))
theorem HW (l:List Int):(l.flatMap i64c).all AV.still=true:=by
 rw [List.all_eq_true];intro x hx;rw [List.mem_flatMap] at hx;obtain ⟨r,_,hx⟩:=hx;simp [i64c] at hx;subst hx;rfl
theorem TOV.freeze {g:H} {a:AV} {id:Nat} {to:List Int} (v:TOV g bar a id to) (hn:to.length≤9223372036854775807) (d:Nat):∃ a' h',AC bar (d+2) g a=some (a',h')∧FzV 1 a' to.length (to.flatMap i64c):=by
 obtain ⟨rfl,h2,h3,h4⟩:=v
 have hf:(to.flatMap i64c).all AV.free=true:=by have:=HW to;rw [List.all_eq_true] at this ⊢;exact fun x hx=>IE (this x hx)
 have ho:(to.flatMap i64c).all AV.one=true:=by have:=HW to;rw [List.all_eq_true] at this ⊢;exact fun x hx=>XS (this x hx)
 refine ⟨.fz 1 to.length (to.flatMap i64c) true,g.set id (.cells (to.flatMap i64c) (max 0 (0+to.length*1))),?_,by rw [ED,Nat.mul_one],hn,.inr ⟨true,rfl⟩⟩
 have hcs:((to.flatMap i64c).drop 0).take (to.length*1)=to.flatMap i64c:=by rw [List.drop_zero,Nat.mul_one,← ED to,List.take_length]
 simp only [AC,h4]
 rw [if_pos ⟨h2,by rw [ED];omega⟩,hcs,Et (HW to)]
 simp only
 rw [if_pos ⟨hf,ho⟩]
theorem RC:∀ n,rep [.int .i64 0] n=(List.replicate n (0:Int)).flatMap i64c
 | 0=>rfl
 | n+1=>by rw [List.replicate_succ,List.flatMap_cons,← RC n];rfl
theorem Nc (l:List Tok) (la:AV) (hla:FzV 3 la l.length (l.flatMap Tok.cells)) (hlen:l.length≤100000):match GJ l with
  | some (to,deep)=>∃ a,call tb pr DW [la] bar h=some (.tup [a,.int .i64 (deep:Nat),.int .i64 0],h)∧FzV 1 a to.length (to.flatMap i64c)∧to.length=l.length
  | none=>call tb pr DW [la] bar h=some (.tup [.nilsl,.int .i64 (-1),.int .i64 13],h):=by
 suffices hw:∃ r,BK (call tb pr) f_engramref9_Nest [la] bar h=some (r,h)∧(match GJ l with
  | some (to,deep)=>∃ a,r=.tup [a,.int .i64 (deep:Nat),.int .i64 0]∧FzV 1 a to.length (to.flatMap i64c)∧to.length=l.length
  | none=>r=.tup [.nilsl,.int .i64 (-1),.int .i64 13]) by
  obtain ⟨r,h1,h2⟩:=hw
  have h1:=AQ OQ h1
  revert h2
  cases GJ l with
  | none=>intro h2;simp only at h2;subst h2;exact h1
  | some x=>obtain ⟨to,deep⟩:=x;intro h2;simp only at h2;obtain ⟨a,rfl,h3,h4⟩:=h2;exact ⟨a,h1,h3,h4⟩
 refine Gv rfl rfl (BJ ?_)
 have hln:∀ g,GC (some la) g=some (As l.length,g):=(hla.vw h).len
 have hsz:(l.length:Int)*8≤140737488355328:=by omega
 have hsz2:(l.length:Int)≤9223372036854775807:=by omega
 simp [f_engramref9_Nest,AO,go_sem,hln,hsz,hsz2]
 have hT0:TOV (h.alloc (.cells (rep [.int .i64 0] l.length) 0)) h.n (.sl h.n 0 1 l.length true) h.n (List.replicate l.length (0:Int)):=⟨by rw [List.length_replicate],Nat.le_refl _,by simp [AP],by rw [AK,if_pos rfl,RC]⟩
 refine SI l la hla hlen (.sl h.n 0 1 l.length true) h.n _ l.length 0 _ .nilsl ⟨List.replicate l.length 0,[],0⟩ (by omega) hT0 (by simp) OS.nil (by simp [AV.isAt]) (by simp [AP]) (by simp) (by simp) (fun e g' q1 q2 q3 q4=>?_) (fun e g' oa' s' q1 q2 q3 q4 q5 q6 q7 q8 q9=>?_)
 ·have hn:GJ l=none:=by unfold GJ;rw [q4]
  rw [hn]
  simp [go_sem,Bf,AA,AE,AD,AV.free.freeL,AF,q1,q2,q3,AC,AV.free]
 ·by_cases hop:s'.op=[]
  ·have hn:GJ l=(Fd l l.length 0 s'.to).map (·,s'.deep):=by unfold GJ;rw [q5];simp only;rw [if_pos hop]
   rw [hn]
   have h0:s'.op.length=0:=by rw [hop];rfl
   simp [go_sem,q1,q2,q3,q4,q8.len,h0,hln]
   refine RB l la hla hlen _ h.n s'.deep _ l.length 0 g' s'.to (by omega) q6 q7 (fun e g' p1 p2 p3 p4=>?_) (fun e g' to' p1 p2 p3 p4 p5=>?_)
   ·rw [p4]
    simp [go_sem,Bf,AA,AE,AD,AV.free.freeL,AF,p1,p2,p3,AC,AV.free]
   ·rw [p3]
    obtain ⟨a2,h5,h6,h7⟩:=p4.freeze (by omega) 2
    simp [go_sem,Bf,AA,AE,AD,AV.free.freeL,AF,p1,p2,h6,AC,h7.free,AV.free]
    exact ⟨h7,p5⟩
  ·have hn:GJ l=none:=by unfold GJ;rw [q5];simp only;rw [if_neg hop]
   rw [hn]
   have h0:0<s'.op.length:=List.length_pos_iff.mpr hop
   have h0':(0:Int)<(s'.op.length:Int):=by omega
   simp [go_sem,Bf,AA,AE,AD,AV.free.freeL,AF,q1,q2,q3,q4,q8.len,h0,h0',hop,AC,AV.free]
end
end Go.Ev
namespace Go.Ev
open Go
structure Pt where
 loop:Bool
 fr:Nat
 ot:Nat
 leaves:List Nat
structure Mt where
 to:List Int
 op:List Pt
 deep:Nat
structure Pa where
 p:Pt
 lv:AV
def Pa.c (x:Pa):List AV:=[.bool x.p.loop,.int .i64 (x.p.fr:Nat),.int .i64 (x.p.ot:Nat),x.lv]
theorem Pa.c_len (x:Pa):x.c.length=4:=rfl
def Ei (v:Int):List Nat→List Int→List Int
 | [],to=>to
 | k::r,to=>Ei v r (to.set k v)
theorem JF (v:Int):∀ (l:List Nat) (to:List Int),(Ei v l to).length=to.length
 | [],to=>rfl
 | k::r,to=>by rw [Ei,JF v r,List.length_set]
def Bl:List Pt→Nat→Option Nat
 | _,0=>none
 | op,k+1=>match op[k]? with | some p=>if p.loop then some k else Bl op k | none=>none
def BX (sg:Int) (i:Nat) (s:Mt):Option Mt :=
 if sg=63 then (if s.op.length+1≤16 then some ⟨s.to,s.op++[⟨false,i,0,[]⟩],max s.deep (s.op.length+1)⟩ else none) else
 if sg=91 then (if s.op.length+1≤16 then some ⟨s.to,s.op++[⟨true,i,0,[]⟩],max s.deep (s.op.length+1)⟩ else none) else
 if sg=58 then (match s.op.getLast? with | none=>none | some p=>if p.loop||decide (0<p.ot) then none else some ⟨s.to.set p.fr (i+1:Nat),s.op.set (s.op.length - 1) ⟨p.loop,p.fr,i,p.leaves⟩,s.deep⟩) else
 if sg=59 then (match s.op.getLast? with | none=>none | some p=>if p.loop then none else some ⟨s.to.set (if 0<p.ot then p.ot else p.fr) i,s.op.dropLast,s.deep⟩) else
 if sg=93 then (match s.op.getLast? with | none=>none | some p=>if p.loop then some ⟨Ei (i+1:Nat) p.leaves (s.to.set i p.fr),s.op.dropLast,s.deep⟩ else none) else
 if sg=126 then (match Bl s.op s.op.length with | none=>none | some k=>match s.op[k]? with | some p=>some ⟨s.to,s.op.set k ⟨p.loop,p.fr,p.ot,p.leaves++[i]⟩,s.deep⟩ | none=>none) else
 some s
def LV (g:H) (b M tid:Nat) (oa:AV) (x:Pa):Prop:=OS 1 g b x.lv x.p.leaves.length (x.p.leaves.flatMap EN)∧¬ x.lv.isAt M∧¬ x.lv.isAt tid∧oa.apart x.lv
def PtOk (N:Nat) (p:Pt):Prop:=p.fr<N∧p.ot<N∧(∀ k ∈ p.leaves,k<N)∧p.leaves.length≤N
structure MVp (g:H) (b M tid:Nat) (s:Mt) (oa:AV) (ps:List Pa):Prop where
 cell:g.get M=some (.cells [.sl tid 0 1 s.to.length true,oa,.int .i64 (s.deep:Nat)] 0)
 bM:b≤M
 Mn:M<g.n
 ne:tid≠M
 to:TOV g b (.sl tid 0 1 s.to.length true) tid s.to
 os:OS 4 g b oa ps.length (ps.flatMap Pa.c)
 oM:¬ oa.isAt M
 ot:¬ oa.isAt tid
 map:s.op=ps.map Pa.p
 lv:∀ x ∈ ps,LV g b M tid oa x
 pw:ps.Pairwise fun x y=>x.lv.apart y.lv
 ok:∀ p ∈ s.op,PtOk s.to.length p
 dn:s.op.length≤1000
def MV (g:H) (b M tid:Nat) (s:Mt):Prop:=∃ oa ps,MVp g b M tid s oa ps
theorem LV.mono {g g':H} {b M tid:Nat} {oa:AV} {x:Pa} (v:LV g b M tid oa x) (hn:g.n≤g'.n) (hf:∀ j,j<g.n→j≠M→j≠tid→¬ oa.isAt j→g'.get j=g.get j):LV g' b M tid oa x :=
 ⟨v.1.mono hn (fun j hj=>hf j (v.1.at_lt hj).2 (fun e=>v.2.1 (e ▸ hj)) (fun e=>v.2.2.1 (e ▸ hj)) (fun hj2=>v.2.2.2 j hj2 hj)),v.2⟩
section
variable {pr:Oracle} {bar b:Nat} {g:H}
theorem Ts (M tid:Nat) (s:Mt) (oa:AV) (ps:List Pa) (hv:MVp g b M tid s oa ps):∃ r,call tb pr CV [.ptr M 0] bar g=some (r,g)∧((s.op=[]∧ps=[]∧r=.nilptr)∨∃ id,ps≠[]∧oa=.sl id 0 4 ps.length false∧r=.ptr id ((ps.length - 1)*4)):=by
 suffices hw:∃ r h',BK (call tb pr) f_nest_matcher_top [.ptr M 0] bar g=some (r,h')∧h'=g∧((s.op=[]∧ps=[]∧r=.nilptr)∨∃ id,ps≠[]∧oa=.sl id 0 4 ps.length false∧r=.ptr id ((ps.length - 1)*4)) by
  obtain ⟨r,h',h1,rfl,h2⟩:=hw;exact ⟨r,AQ NP h1,h2⟩
 refine Aj rfl rfl fun K hK=>?_
 by_cases hne:ps=[]
 ·have h0:ps.length=0:=by rw [hne];rfl
  have hs:s.op=[]:=by rw [hv.map,hne];rfl
  simp [f_nest_matcher_top,AO,go_sem,AN,AM,AA,AE,AD,AC,AV.free.freeL,AV.free,AF,AH,hv.cell,AG,hv.os.len,h0]
  exact ⟨_,_,⟨rfl,rfl⟩,hK _ _ ⟨rfl,.inl ⟨hs,hne,rfl⟩⟩⟩
 ·obtain ⟨id,all,rfl,e1,e2,e3,e4,e5,e6,e7⟩:=hv.os.elems Pa.c_len hne
  have hpos:=List.length_pos_iff.mpr hne
  have hdn:=hv.dn
  have hlen:s.op.length=ps.length:=by rw [hv.map,List.length_map]
  have h0:((ps.length:Int) == 0)=false:=by simp;omega
  have hw:IntKind.i64.wrap ((ps.length:Int) - 1)=((ps.length - 1:Nat):Int):=by rw [BN (by omega) (by omega)];omega
  have h1:ps.length - 1<ps.length:=by omega
  have h2:((ps.length - 1:Nat):Int)<(ps.length:Int):=by omega
  simp [f_nest_matcher_top,AO,go_sem,AN,AM,AA,AE,AD,AC,AV.free.freeL,AV.free,AF,AH,hv.cell,AG,h0,hw,AJ,h1,h2]
  exact ⟨_,_,⟨rfl,rfl⟩,hK _ _ ⟨rfl,.inr ⟨id,hne,rfl,rfl⟩⟩⟩
theorem PtOk.mono {N N':Nat} {p:Pt} (h:PtOk N p) (hn:N=N'):PtOk N' p:=hn ▸ h
theorem Sf (M tid:Nat) (s:Mt) (i:Nat) (lp:Bool) (hb:b≤g.n) (hbb:bar≤b) (hi:i<s.to.length) (hl:s.op.length≤900) (hto:s.to.length≤100000) (hv:MV g b M tid s):∃ r g',call tb pr Ca [.ptr M 0,.int .i64 (i:Nat),.bool lp] bar g=some (r,g')∧g.n≤g'.n∧(∀ j,j<b→g'.get j=g.get j) ∧
  r=.bool (decide (s.op.length+1≤16))∧MV g' b M tid ⟨s.to,s.op++[⟨lp,i,0,[]⟩],max s.deep (s.op.length+1)⟩:=by
 suffices hw:∃ r g',BK (call tb pr) f_nest_matcher_begin [.ptr M 0,.int .i64 (i:Nat),.bool lp] bar g=some (r,g')∧(g.n≤g'.n∧(∀ j,j<b→g'.get j=g.get j) ∧
  r=.bool (decide (s.op.length+1≤16))∧MV g' b M tid ⟨s.to,s.op++[⟨lp,i,0,[]⟩],max s.deep (s.op.length+1)⟩) by
  obtain ⟨r,h',h1,h2⟩:=hw;exact ⟨r,h',AQ La h1,h2⟩
 refine Aj rfl rfl fun K hK=>?_
 obtain ⟨oa,ps,hv⟩:=hv
 have hlen:s.op.length=ps.length:=by rw [hv.map,List.length_map]
 obtain ⟨a',g',e1,e2,e3,e4,e5⟩:=hv.os.app' hb hbb 48 (Pa.c ⟨⟨lp,i,0,[]⟩,.nilsl⟩) rfl rfl (by omega) (by omega) (by omega)
 simp only [Pa.c,Int.natCast_zero] at e1
 have hMb:bar≤M:=Nat.le_trans hbb hv.bM
 have hgM:g'.get M=some (.cells [.sl tid 0 1 s.to.length true,oa,.int .i64 (s.deep:Nat)] 0):=by rw [e4 M hv.Mn hv.oM];exact hv.cell
 have hcm:(if ((ps.length:Int)+1) > (s.deep:Int) then ((ps.length:Int)+1) else (s.deep:Int))=((max s.deep (s.op.length+1):Nat):Int):=by
  rw [hlen];split<;>omega
 have hoM:¬ a'.isAt M:=fun hj=>by have:=e5 _ hj;have:=hv.Mn;omega
 have hot:¬ a'.isAt tid:=fun hj=>by have:=e5 _ hj;have:=hv.to.2.2.1;omega
 have hfr:∀ c d,∀ j,j<g.n→j≠M→¬ oa.isAt j→((g'.set M c).set M d).get j=g.get j:=fun c d j h1 h2 h3=>by
  rw [AI h2,AI h2,e4 j h1 h3]
 have h16:((ps.length:Int)+1≤16)=(s.op.length+1≤16):=by rw [hlen,eq_iff_iff];omega
 simp [f_nest_matcher_begin,AO,go_sem,AN,AM,AA,AE,AD,AC,AV.free.freeL,AV.free,AF,AH,AB,hv.cell,AG,AX,Af,AL,e1,hgM,hMb,e2.one,hv.os.one,e2.len,hcm,h16,hv.to.1]
 refine ⟨_,_,⟨rfl,rfl⟩,hK _ _ ⟨by simp only [AW];omega,fun j hj=>hfr _ _ j (by omega) (by have:=hv.bM;omega) (fun hj2=>by have:=hv.os.at_lt hj2;omega),by simp [AF],a',ps++[⟨⟨lp,i,0,[]⟩,.nilsl⟩],?_⟩⟩
 have hn3:g.n+2=g'.n:=e3.symm
 exact {
  cell:=by rw [AU,if_pos rfl]
  bM:=hv.bM
  Mn:=by have:=hv.Mn;simp only [AW];omega
  ne:=hv.ne
  to:=hv.to.mono (by simp only [AW];omega) (hfr _ _ tid hv.to.2.2.1 hv.ne hv.ot)
  os:=by
   have:=(e2.set (.cells [.sl tid 0 1 s.to.length true,a',.int .i64 (s.deep:Nat)] 0) hoM).set (.cells [.sl tid 0 1 s.to.length true,a',.int .i64 (max s.deep (s.op.length+1):Nat)] 0) hoM
   simpa [Pa.c] using this
  oM:=hoM
  ot:=hot
  map:=by simp [hv.map]
  lv:=fun x hx=>by
   rw [List.mem_append] at hx
   rcases hx with hx | hx
   ·have hL:=hv.lv x hx
    have h2:=hL.mono (g':=(g'.set M (.cells [.sl tid 0 1 s.to.length true,a',.int .i64 (s.deep:Nat)] 0)).set M (.cells [.sl tid 0 1 s.to.length true,a',.int .i64 (max s.deep (s.op.length+1):Nat)] 0)) (by simp only [AW];omega) (fun j q1 q2 q3 q4=>hfr _ _ j q1 q2 q4)
    exact ⟨h2.1,h2.2.1,h2.2.2.1,fun j q1 q2=>by have:=e5 _ q1;have:=hL.1.at_lt q2;omega⟩
   ·simp at hx;subst hx
    exact ⟨OS.nil,fun h=>h,fun h=>h,fun j q1 q2=>q2⟩
  pw:=by
   rw [List.pairwise_append]
   exact ⟨hv.pw,List.pairwise_singleton _ _,fun x hx y hy=>by simp at hy;subst hy;exact fun j q1 q2=>q2⟩
  ok:=fun p hp=>by
   rw [List.mem_append] at hp
   rcases hp with hp | hp
   ·exact hv.ok p hp
   ·simp at hp;subst hp
    exact ⟨hi,by show 0<s.to.length;omega,by simp,Nat.zero_le _⟩
  dn:=by simp;omega }
theorem MVp.last {M tid:Nat} {s:Mt} {oa:AV} {ps:List Pa} (hv:MVp g b M tid s oa ps) (hne:ps≠[]):∃ id all x,oa=.sl id 0 4 ps.length false∧b≤id∧id<g.n∧g.get id=some (.cells all 0)∧id≠M∧id≠tid ∧
  ps[ps.length - 1]? = some x∧x ∈ ps∧s.op.getLast? = some x.p∧s.op.length=ps.length∧(ps.length - 1)*4+4≤all.length ∧
  (all[(ps.length - 1)*4]? = some (.bool x.p.loop)∧all[(ps.length - 1)*4+1]? = some (.int .i64 (x.p.fr:Nat))∧all[(ps.length - 1)*4+2]? = some (.int .i64 (x.p.ot:Nat))∧all[(ps.length - 1)*4+3]? = some x.lv) ∧
  (∀ h:H,g.n≤h.n→h.get id=g.get id→OS 4 h b (.sl id 0 4 (ps.length - 1) false) ps.dropLast.length (ps.dropLast.flatMap Pa.c)) ∧
  (∀ i x x' f vs (h:H),ps[i]? = some x→f+vs.length≤4→Pa.c x'=AL (Pa.c x) f vs→(Pa.c x').all AV.one=true→g.n≤h.n→h.get id=some (.cells (AL all (i*4+f) vs) 0)→OS 4 h b oa (ps.set i x').length ((ps.set i x').flatMap Pa.c)) ∧
  (∀ i x,ps[i]? = some x→i*4+4≤all.length∧all[i*4]? = some (.bool x.p.loop)∧all[i*4+1]? = some (.int .i64 (x.p.fr:Nat))∧all[i*4+2]? = some (.int .i64 (x.p.ot:Nat))∧all[i*4+3]? = some x.lv):=by
 obtain ⟨id,all,hoa,e1,e2,e3,e4,e5,e6,e7⟩:=hv.os.elems Pa.c_len hne
 obtain ⟨x,hx1,hx2,hx3,hx4⟩:=EB hne
 have hM:=hv.oM
 have hT:=hv.ot
 rw [hoa] at hM hT
 have hall:∀ i x,ps[i]? = some x→i*4+4≤all.length∧all[i*4]? = some (.bool x.p.loop)∧all[i*4+1]? = some (.int .i64 (x.p.fr:Nat))∧all[i*4+2]? = some (.int .i64 (x.p.ot:Nat))∧all[i*4+3]? = some x.lv:=fun i x hx=>by
  obtain ⟨hi,_⟩:=List.getElem?_eq_some_iff.mp hx
  exact ⟨by omega,e5 i x 0 hx (by omega),e5 i x 1 hx (by omega),e5 i x 2 hx (by omega),e5 i x 3 hx (by omega)⟩
 refine ⟨id,all,x,hoa,e1,e2,e3,hM,hT,hx3,?_,?_,by rw [hv.map,List.length_map],(hall _ _ hx3).1,(hall _ _ hx3).2,e6,e7,hall⟩
 ·exact List.mem_of_getElem? hx3
 ·rw [hv.map,List.getLast?_map,hx1];rfl
theorem MVp.upd {M tid:Nat} {s:Mt} {oa:AV} {ps:List Pa} (hv:MVp g b M tid s oa ps) {h:H} {s':Mt} {oa':AV} {ps':List Pa}
  (hcell:h.get M=some (.cells [.sl tid 0 1 s'.to.length true,oa',.int .i64 (s'.deep:Nat)] 0)) (hn:g.n≤h.n) (hto:TOV h b (.sl tid 0 1 s'.to.length true) tid s'.to) (hlen:s'.to.length=s.to.length)
  (hos:OS 4 h b oa' ps'.length (ps'.flatMap Pa.c)) (hoM:¬ oa'.isAt M) (hot:¬ oa'.isAt tid) (hmap:s'.op=ps'.map Pa.p) (hsub:∀ x ∈ ps',∃ y ∈ ps,y.lv=x.lv∧y.p.leaves=x.p.leaves)
  (hpw:ps'.Pairwise fun x y=>x.lv.apart y.lv) (hap:∀ j,oa'.isAt j→oa.isAt j) (hfr:∀ j,j<g.n→j≠M→j≠tid→¬ oa.isAt j→h.get j=g.get j) (hok:∀ p ∈ s'.op,PtOk s.to.length p) (hdn:s'.op.length≤1000):MVp h b M tid s' oa' ps' where
 cell:=hcell
 bM:=hv.bM
 Mn:=by have:=hv.Mn;omega
 ne:=hv.ne
 to:=hto
 os:=hos
 oM:=hoM
 ot:=hot
 map:=hmap
 lv:=fun x hx=>by
  obtain ⟨y,hy,e1,e2⟩:=hsub x hx
  have h1:=(hv.lv y hy).mono hn hfr
  unfold LV at h1
  rw [e1,e2] at h1
  exact ⟨h1.1,h1.2.1,h1.2.2.1,fun j q1 q2=>h1.2.2.2 j (hap j q1) q2⟩
 pw:=hpw
 ok:=fun p hp=>hlen ▸ hok p hp
 dn:=hdn
theorem aK {ps:List Pa} {i:Nat} {x x':Pa} (hx:ps[i]? = some x) (h1:x'.lv=x.lv) (h2:x'.p.leaves=x.p.leaves):(∀ y ∈ ps.set i x',∃ z ∈ ps,z.lv=y.lv∧z.p.leaves=y.p.leaves)∧((ps.Pairwise fun x y=>x.lv.apart y.lv)→(ps.set i x').Pairwise fun x y=>x.lv.apart y.lv):=by
 refine ⟨fun y hy=>?_,fun hp=>?_⟩
 ·rcases List.mem_or_eq_of_mem_set hy with hy | rfl
  ·exact ⟨y,hy,rfl,rfl⟩
  ·exact ⟨x,List.mem_of_getElem? hx,h1.symm,h2.symm⟩
 ·have hm:(ps.set i x').map Pa.lv=ps.map Pa.lv:=by
   rw [List.map_set,h1]
   apply List.ext_getElem?
   intro j
   rw [List.getElem?_set]
   split
   ·rename_i e;subst e
    split
    ·rw [List.getElem?_map,hx];rfl
    ·rename_i h;simp at h;rw [List.getElem?_map,hx] ;simp [List.getElem?_eq_none_iff.mpr h] at hx
   ·rfl
  have h3:(ps.map Pa.lv).Pairwise AV.apart:=List.pairwise_map.mpr hp
  rw [← hm] at h3
  exact List.pairwise_map.mp h3
theorem Gb {n:Nat} (h:0<n) (hn:n≤1000):IntKind.i64.wrap ((n:Int) - 1)=((n - 1:Nat):Int)∧n - 1<n∧((n - 1:Nat):Int)<(n:Int)∧((n:Int) == 0)=false∧0≤(n:Int) - 1∧((n:Int) - 1).toNat=n - 1∧n - 1≤n :=
 ⟨by rw [BN (by omega) (by omega)];omega,by omega,by omega,by simp;omega,by omega,by omega,by omega⟩
theorem YS (M tid:Nat) (s:Mt) (i:Nat) (hb:b≤g.n) (hbb:bar≤b) (hi:i<s.to.length) (hto:s.to.length≤100000) (hv:MV g b M tid s):∃ r g',call tb pr DM [.ptr M 0,.int .i64 (i:Nat)] bar g=some (r,g')∧g.n≤g'.n∧(∀ j,j<b→g'.get j=g.get j) ∧
  (match s.op.getLast? with | none=>r=.bool false | some p=>if p.loop||decide (0<p.ot) then r=.bool false else r=.bool true∧MV g' b M tid ⟨s.to.set p.fr (i+1:Nat),s.op.set (s.op.length - 1) ⟨p.loop,p.fr,i,p.leaves⟩,s.deep⟩):=by
 suffices hw:∃ r g',BK (call tb pr) f_nest_matcher_other [.ptr M 0,.int .i64 (i:Nat)] bar g=some (r,g')∧(g.n≤g'.n∧(∀ j,j<b→g'.get j=g.get j) ∧
  (match s.op.getLast? with | none=>r=.bool false | some p=>if p.loop||decide (0<p.ot) then r=.bool false else r=.bool true∧MV g' b M tid ⟨s.to.set p.fr (i+1:Nat),s.op.set (s.op.length - 1) ⟨p.loop,p.fr,i,p.leaves⟩,s.deep⟩)) by
  obtain ⟨r,h',h1,h2⟩:=hw;exact ⟨r,h',AQ Ld h1,h2⟩
 refine Aj rfl rfl fun K hK=>?_
 obtain ⟨oa,ps,hv⟩:=hv
 obtain ⟨r,hc,hr⟩:=Ts (pr:=pr) (bar:=bar) M tid s oa ps hv
 rcases hr with ⟨hop,hps,rfl⟩ | ⟨id,hne,hoa,rfl⟩
 ·have hg:s.op.getLast? = none:=by rw [hop];rfl
  rw [hg] at hK
  simp [f_nest_matcher_other,AO,go_sem,AN,AM,AA,AE,AD,AC,AV.free.freeL,AV.free,AF,AH,hc,Bg]
  exact ⟨_,_,⟨rfl,rfl⟩,hK _ _ ⟨Nat.le_refl _,fun _ _=>rfl,rfl⟩⟩
 ·obtain ⟨id',all,x,hoa',h1,h2,h3,h4,h5,h6,h7,h8,h9,h10,h11,h12,h13,h14⟩:=hv.last hne
  rw [hoa] at hoa'
  injection hoa' with hid
  subst hid
  rw [h8] at hK
  simp only at hK
  have hdn:=hv.dn
  cases hlp:x.p.loop with
  | true =>
   simp only [hlp,Bool.true_or,if_true] at hK
   simp [f_nest_matcher_other,AO,go_sem,AN,AM,AA,AE,AD,AC,AV.free.freeL,AV.free,AF,AH,hc,Bg,AG,h3,h11,hlp]
   exact ⟨_,_,⟨rfl,rfl⟩,hK _ _ ⟨Nat.le_refl _,fun _ _=>rfl,rfl⟩⟩
  | false =>
   by_cases hot:0<x.p.ot
   ·have hot':(0:Int)<(x.p.ot:Int):=by omega
    simp only [hlp,hot,decide_true,Bool.or_true,if_true] at hK
    simp [f_nest_matcher_other,AO,go_sem,AN,AM,AA,AE,AD,AC,AV.free.freeL,AV.free,AF,AH,hc,Bg,AG,h3,h11,hlp,hot]
    exact ⟨_,_,⟨rfl,rfl⟩,hK _ _ ⟨Nat.le_refl _,fun _ _=>rfl,rfl⟩⟩
   ·have hot':¬ (0:Int)<(x.p.ot:Int):=by omega
    simp only [hlp,hot,decide_false,Bool.or_false,Bool.false_eq_true,if_false] at hK
    have hbi:bar≤id:=by omega
    have hle:(ps.length - 1)*4+2+1≤all.length:=by omega
    obtain ⟨_,hTb,hTn,hTg⟩:=hv.to
    have hpk:=hv.ok x.p (by rw [hv.map];exact List.mem_map_of_mem h7)
    have hfrl:(x.p.fr:Int)<(s.to.length:Int):=by have:=hpk.1;omega
    have hle2:x.p.fr+1≤(s.to.flatMap i64c).length:=by rw [ED];have:=hpk.1;omega
    have hw:=BF (n:=i) (by omega)
    have hbt:bar≤tid:=by omega
    have hT1:=(hv.to.mono (g':=g.set id (.cells (AL all ((ps.length - 1)*4+2) [.int .i64 (i:Nat)]) 0)) (Nat.le_refl _) (AI (fun e=>h5 e.symm))).set hpk.1 ((i+1:Nat):Int)
    have hg11:(AL all ((ps.length - 1)*4+2) [.int .i64 (i:Nat)])[(ps.length - 1)*4+1]? = some (.int .i64 (x.p.fr:Nat)):=by
     unfold AL
     rw [List.append_assoc,List.getElem?_append_left (by rw [List.length_take];omega),List.getElem?_take_of_lt (by omega)]
     exact h11.2.1
    have hos:=h13 (ps.length - 1) x ⟨⟨x.p.loop,x.p.fr,i,x.p.leaves⟩,x.lv⟩ 2 [.int .i64 (i:Nat)] ((g.set id (.cells (AL all ((ps.length - 1)*4+2) [.int .i64 (i:Nat)]) 0)).set tid (.cells (AL (s.to.flatMap i64c) x.p.fr [.int .i64 ((i+1:Nat):Int)]) 0)) h6 (by simp) rfl
     (by have:=(hv.lv x h7).1.one;simp [Pa.c,this,AV.one];exact this) (by simp [AW]) (by rw [AI h5,AU,if_pos rfl])
    have hfr:∀ j,j≠id→j≠tid→((g.set id (.cells (AL all ((ps.length - 1)*4+2) [.int .i64 (i:Nat)]) 0)).set tid (.cells (AL (s.to.flatMap i64c) x.p.fr [.int .i64 ((i+1:Nat):Int)]) 0)).get j=g.get j:=fun j q1 q2=>by rw [AI q2,AI q1]
    have hM1:((g.set id (.cells (AL all ((ps.length - 1)*4+2) [.int .i64 (i:Nat)]) 0))).get M=g.get M:=AI (fun e=>h4 e.symm)
    have hti:((g.set id (.cells (AL all ((ps.length - 1)*4+2) [.int .i64 (i:Nat)]) 0))).get tid=g.get tid:=AI (fun e=>h5 e.symm)
    generalize htc:s.to.flatMap i64c=tc at *
    generalize hg1:g.set id (.cells (AL all ((ps.length - 1)*4+2) [.int .i64 (i:Nat)]) 0)=g1 at *
    have hg1i:g1.get id=some (.cells (AL all ((ps.length - 1)*4+2) [.int .i64 (i:Nat)]) 0):=by rw [← hg1,AU,if_pos rfl]
    generalize hal:AL all ((ps.length - 1)*4+2) [.int .i64 (i:Nat)]=all1 at *
    have hg1n:g1.n=g.n:=by rw [← hg1];rfl
    simp [f_nest_matcher_other,AO,go_sem,AN,AM,AA,AE,AD,AC,AV.free.freeL,AV.free,AF,AH,AB,hc,Bg,AG,h3,h11,hlp,hot,hot',hbi,hle,hal,hg1,hM1,hv.cell,hg1i,hg11,hTg,hti,AJ,hfrl,hw,hbt,hle2]
    have hss:=aK (x':=⟨⟨x.p.loop,x.p.fr,i,x.p.leaves⟩,x.lv⟩) h6 rfl rfl
    refine ⟨_,_,⟨rfl,rfl⟩,hK _ _ ⟨by simp only [AW];omega,fun j hj=>by have:=hfr j (by omega) (by omega);simpa using this,rfl,oa,ps.set (ps.length - 1) ⟨⟨x.p.loop,x.p.fr,i,x.p.leaves⟩,x.lv⟩,?_⟩⟩
    rw [← hlp]
    have hT2:TOV (g1.set tid (.cells (AL tc x.p.fr [.int .i64 ((i+1:Nat):Int)]) 0)) b (.sl tid 0 1 (s.to.set x.p.fr ((i+1:Nat):Int)).length true) tid (s.to.set x.p.fr ((i+1:Nat):Int)):=by
     rw [List.length_set];exact hT1
    refine hv.upd (s':=⟨s.to.set x.p.fr (i+1:Nat),s.op.set (s.op.length - 1) ⟨x.p.loop,x.p.fr,i,x.p.leaves⟩,s.deep⟩) ?_ (by simp only [AW];omega) hT2 (List.length_set) hos hv.oM hv.ot ?_ hss.1 (hss.2 hv.pw) (fun j q=>q) (fun j q1 q2 q3 q4=>?_) (fun p hp=>?_) (by simp;exact hv.dn)
    ·rw [AI (fun e=>hv.ne e.symm),hM1,hv.cell];simp [hoa]
    ·rw [hv.map,List.map_set,List.length_map]
    ·exact hfr j (fun e=>q4 (by rw [hoa,e];rfl)) q3
    ·rcases List.mem_or_eq_of_mem_set hp with hp | rfl
     ·exact hv.ok p hp
     ·exact ⟨hpk.1,hi,hpk.2.2⟩
end
end Go.Ev
namespace Go.Ev
open Go
section
variable {pr:Oracle} {bar b:Nat} {g:H}
theorem Lo {ps:List Pa}:(∀ y ∈ ps.dropLast,∃ z ∈ ps,z.lv=y.lv∧z.p.leaves=y.p.leaves)∧((ps.Pairwise fun x y=>x.lv.apart y.lv)→ps.dropLast.Pairwise fun x y=>x.lv.apart y.lv) :=
 ⟨fun y hy=>⟨y,by rw [List.dropLast_eq_take] at hy;exact List.mem_of_mem_take hy,rfl,rfl⟩,fun h=>h.sublist (List.dropLast_sublist _)⟩
theorem Xo (M tid:Nat) (s:Mt) (i:Nat) (hb:b≤g.n) (hbb:bar≤b) (hi:i<s.to.length) (hto:s.to.length≤100000) (hv:MV g b M tid s):∃ r g',call tb pr DK [.ptr M 0,.int .i64 (i:Nat)] bar g=some (r,g')∧g.n≤g'.n∧(∀ j,j<b→g'.get j=g.get j) ∧
  (match s.op.getLast? with | none=>r=.bool false | some p=>if p.loop then r=.bool false else r=.bool true∧MV g' b M tid ⟨s.to.set (if 0<p.ot then p.ot else p.fr) i,s.op.dropLast,s.deep⟩):=by
 suffices hw:∃ r g',BK (call tb pr) f_nest_matcher_endIf [.ptr M 0,.int .i64 (i:Nat)] bar g=some (r,g')∧(g.n≤g'.n∧(∀ j,j<b→g'.get j=g.get j) ∧
  (match s.op.getLast? with | none=>r=.bool false | some p=>if p.loop then r=.bool false else r=.bool true∧MV g' b M tid ⟨s.to.set (if 0<p.ot then p.ot else p.fr) i,s.op.dropLast,s.deep⟩)) by
  obtain ⟨r,h',h1,h2⟩:=hw;exact ⟨r,h',AQ Lb h1,h2⟩
 refine Aj rfl rfl fun K hK=>?_
 obtain ⟨oa,ps,hv⟩:=hv
 obtain ⟨r,hc,hr⟩:=Ts (pr:=pr) (bar:=bar) M tid s oa ps hv
 rcases hr with ⟨hop,hps,rfl⟩ | ⟨id,hne,hoa,rfl⟩
 ·have hg:s.op.getLast? = none:=by rw [hop];rfl
  rw [hg] at hK
  simp [f_nest_matcher_endIf,AO,go_sem,AN,AM,AA,AE,AD,AC,AV.free.freeL,AV.free,AF,AH,hc,Bg]
  exact ⟨_,_,⟨rfl,rfl⟩,hK _ _ ⟨Nat.le_refl _,fun _ _=>rfl,rfl⟩⟩
 ·obtain ⟨id',all,x,hoa',h1,h2,h3,h4,h5,h6,h7,h8,h9,h10,h11,h12,h13,h14⟩:=hv.last hne
  rw [hoa] at hoa'
  injection hoa' with hid
  subst hid
  rw [h8] at hK
  simp only at hK
  have hdn:=hv.dn
  cases hlp:x.p.loop with
  | true =>
   simp only [hlp,if_true] at hK
   simp [f_nest_matcher_endIf,AO,go_sem,AN,AM,AA,AE,AD,AC,AV.free.freeL,AV.free,AF,AH,hc,Bg,AG,h3,h11,hlp]
   exact ⟨_,_,⟨rfl,rfl⟩,hK _ _ ⟨Nat.le_refl _,fun _ _=>rfl,rfl⟩⟩
  | false =>
   simp only [hlp,Bool.false_eq_true,if_false] at hK
   obtain ⟨q1,q2,q3,q4,q5,q6,q7⟩:=Gb (List.length_pos_iff.mpr hne) (by omega)
   have hpk:=hv.ok x.p (by rw [hv.map];exact List.mem_map_of_mem h7)
   have hbt:bar≤tid:=by have:=hv.to.2.1;omega
   have hbM:bar≤M:=by have:=hv.bM;omega
   obtain ⟨w,hwd⟩:∃ w,w=(if 0<x.p.ot then x.p.ot else x.p.fr):=⟨_,rfl⟩
   rw [← hwd] at hK
   have hwl:w<s.to.length:=by rw [hwd];split;exact hpk.2.1;exact hpk.1
   have hwl':(w:Int)<(s.to.length:Int):=by omega
   have hle2:w+1≤(s.to.flatMap i64c).length:=by rw [ED];omega
   have hT1:=hv.to.set hwl (i:Int)
   obtain ⟨_,hTb,hTn,hTg⟩:=hv.to
   have hfr:∀ c j,j≠M→j≠tid→((g.set tid (.cells (AL (s.to.flatMap i64c) w [.int .i64 (i:Int)]) 0)).set M c).get j=g.get j:=fun c j e1 e2=>by rw [AI e1,AI e2]
   have hM1:(g.set tid (.cells (AL (s.to.flatMap i64c) w [.int .i64 (i:Int)]) 0)).get M=g.get M:=AI (fun e=>hv.ne e.symm)
   have hT2:TOV ((g.set tid (.cells (AL (s.to.flatMap i64c) w [.int .i64 (i:Int)]) 0)).set M (.cells [.sl tid 0 1 s.to.length true,.sl id 0 4 (ps.length - 1) false,.int .i64 (s.deep:Nat)] 0)) b (.sl tid 0 1 (s.to.set w (i:Int)).length true) tid (s.to.set w (i:Int)):=by
    rw [List.length_set];exact hT1.mono (Nat.le_refl _) (AI hv.ne)
   have hos:=h12 ((g.set tid (.cells (AL (s.to.flatMap i64c) w [.int .i64 (i:Int)]) 0)).set M (.cells [.sl tid 0 1 s.to.length true,.sl id 0 4 (ps.length - 1) false,.int .i64 (s.deep:Nat)] 0)) (Nat.le_refl _) (hfr _ _ h4 h5)
   generalize htc:s.to.flatMap i64c=tc at *
   generalize hg1:g.set tid (.cells (AL tc w [.int .i64 (i:Int)]) 0)=g1 at *
   have hg1n:g1.n=g.n:=by rw [← hg1];rfl
   have hfin:MV (g1.set M (.cells [.sl tid 0 1 s.to.length true,.sl id 0 4 (ps.length - 1) false,.int .i64 (s.deep:Nat)] 0)) b M tid ⟨s.to.set w (i:Int),s.op.dropLast,s.deep⟩:=by
    refine ⟨.sl id 0 4 (ps.length - 1) false,ps.dropLast,hv.upd ?_ (by simp only [AW];omega) hT2 (List.length_set) hos h4 h5 ?_ Lo.1 (Lo.2 hv.pw) (fun j q=>by rw [hoa];exact q) (fun j e1 e2 e3 e4=>hfr _ j e2 e3) (fun p hp=>?_) ?_⟩
    ·rw [AU,if_pos rfl,List.length_set]
    ·simp only [hv.map,List.map_dropLast]
    ·exact hv.ok p (by rw [List.dropLast_eq_take] at hp;exact List.mem_of_mem_take hp)
    ·show s.op.dropLast.length≤1000;rw [List.length_dropLast];omega
   have hfrb:∀ c j,j<b→(g1.set M c).get j=g.get j:=fun c j hj=>hfr c j (by have:=hv.bM;omega) (by omega)
   subst hoa
   by_cases hot:0<x.p.ot
   ·have hot':(0:Int)<(x.p.ot:Int):=by omega
    have hwo:w=x.p.ot:=by rw [hwd,if_pos hot]
    rw [hwo] at hwl hwl' hle2 hg1
    simp [f_nest_matcher_endIf,AO,go_sem,AN,AM,AA,AE,AD,AC,AV.free.freeL,AV.free,AF,AH,AB,hc,Bg,AG,h3,h11,hlp,hot,hot',hg1,hM1,hv.cell,hTg,AJ,hwl',hwl,hbt,hbM,hle2,q1,q2,q3,BI,Ap,AY,BL,q5,q6,q7,Jg,Jh,Ji]
    exact ⟨_,_,⟨rfl,rfl⟩,hK _ _ ⟨by simp only [AW];omega,hfrb _,rfl,hfin⟩⟩
   ·have hot':¬ (0:Int)<(x.p.ot:Int):=by omega
    have hwo:w=x.p.fr:=by rw [hwd,if_neg hot]
    rw [hwo] at hwl hwl' hle2 hg1
    simp [f_nest_matcher_endIf,AO,go_sem,AN,AM,AA,AE,AD,AC,AV.free.freeL,AV.free,AF,AH,AB,hc,Bg,AG,h3,h11,hlp,hot,hot',hg1,hM1,hv.cell,hTg,AJ,hwl',hwl,hbt,hbM,hle2,q1,q2,q3,BI,Ap,AY,BL,q5,q6,q7,Jg,Jh,Ji]
    exact ⟨_,_,⟨rfl,rfl⟩,hK _ _ ⟨by simp only [AW];omega,hfrb _,rfl,hfin⟩⟩
theorem YH {l:List Nat} {h:H} {bar:Nat} {a:AV} (v:OS 1 h bar a l.length (l.flatMap EN)) (hne:l≠[]):∃ id all,a=.sl id 0 1 l.length false∧bar≤id∧id<h.n∧h.get id=some (.cells all 0)∧∀ i (hi:i<l.length),all[i]? = some (.int .i64 (l[i]:Nat)):=by
 obtain ⟨id,all,e0,e1,e2,e3,e4,e5,e6,e7⟩:=v.elems (c:=EN) (fun _=>rfl) hne
 exact ⟨id,all,e0,e1,e2,e3,fun i hi=>by have:=e5 i l[i] 0 (List.getElem?_eq_getElem hi) Nat.one_pos;simpa [EN] using this⟩
theorem Ss (M tid:Nat) (i:Nat) (N:Nat) (hi:i<N) (hN:N≤100000) (leaves:List Nat) (lv:AV) (g0:H) (hM:∃ oa dp,g0.get M=some (.cells [.sl tid 0 1 N true,oa,dp] 0)) (hne:tid≠M) (hbt:bar≤tid) (hlv:OS 1 g0 b lv leaves.length (leaves.flatMap EN)) (hlt:¬ lv.isAt tid) (hk:∀ k ∈ leaves,k<N) (hll:leaves.length≤100000) (Q:Ex→Env→H→Prop):∀ (k idx:Nat) (gk:H) (to:List Int),leaves.length=idx+k→to.length=N →
  gk.get tid=some (.cells (to.flatMap i64c) 0)→(∀ j,j≠tid→gk.get j=g0.get j)→gk.n=g0.n →
  (∀ e g',e.get 0=some (.ptr M 0)→g'.get tid=some (.cells ((Ei ((i+1:Nat):Int) (leaves.drop idx) to).flatMap i64c) 0)→(∀ j,j≠tid→g'.get j=g0.get j)→g'.n=g0.n→Q (.exit 0) e g') →
  CW (call tb pr) bar [0,1,32,33,34] Dc [(0,.ptr M 0),(1,.int .i64 (i:Nat)),(32,lv),(33,As leaves.length),(34,As idx)] gk Q:=by
 intro k
 induction k with
 | zero =>
  intro idx gk to hl htl ht hj hn hq
  refine Ad Dc.eq_1 ?_
  simp [go_sem,hl]
  exact hq _ _ rfl (by rw [List.drop_eq_nil_of_le (by omega)];exact ht) hj hn
 | succ k ih =>
  intro idx gk to hl htl ht hj hn hq
  refine Ad Dc.eq_1 ?_
  have hx:idx<leaves.length:=by omega
  have hx':(idx:Int)<(leaves.length:Int):=by omega
  have hnl:leaves≠[]:=fun e=>by rw [e] at hx;cases hx
  obtain ⟨lid,all,rfl,e1,e2,e3,e4⟩:=YH hlv hnl
  have hd:leaves.drop idx=leaves[idx]::leaves.drop (idx+1):=List.drop_eq_getElem_cons hx
  have hw:=BF (n:=idx) (by omega)
  have hw2:=BF (n:=i) (by omega)
  have hkb:=hk _ (List.getElem_mem hx)
  have hkb':(leaves[idx]:Int)<(N:Int):=by omega
  have hle:leaves[idx]+1≤(to.flatMap i64c).length:=by rw [ED];omega
  have hlid:gk.get lid=some (.cells all 0):=by rw [hj lid hlt];exact e3
  obtain ⟨oa,dp,hM⟩:=hM
  have hMk:gk.get M=some (.cells [.sl tid 0 1 N true,oa,dp] 0):=by rw [hj M (fun e=>hne e.symm)];exact hM
  have hset:=Od (to:=to) (i:=leaves[idx]) (by omega) ((i+1:Nat):Int)
  have h4:=e4 idx hx
  generalize htc:to.flatMap i64c=tc at *
  generalize hlk:leaves[idx]=lk at *
  simp [go_sem,AB,hx,hx',AJ,hlid,h4,hMk,AG,hw,hw2,hkb,hkb',ht,hbt,hle]
  refine ih (idx+1) _ (to.set lk ((i+1:Nat):Int)) (by omega) (by rw [List.length_set];exact htl) ?_ (fun j q=>by rw [AI q,hj j q]) (by simp only [AW];exact hn) (fun e g' q1 q2 q3 q4=>hq e g' q1 (by rw [hd];simp only [Ei];exact q2) q3 q4)
  rw [AU,if_pos rfl]
  congr 2
theorem VL (M tid:Nat) (s:Mt) (i:Nat) (hb:b≤g.n) (hbb:bar≤b) (hi:i<s.to.length) (hto:s.to.length≤100000) (hv:MV g b M tid s):∃ r g',call tb pr Cn [.ptr M 0,.int .i64 (i:Nat)] bar g=some (r,g')∧g.n≤g'.n∧(∀ j,j<b→g'.get j=g.get j) ∧
  (match s.op.getLast? with | none=>r=.bool false | some p=>if p.loop then r=.bool true∧MV g' b M tid ⟨Ei (i+1:Nat) p.leaves (s.to.set i p.fr),s.op.dropLast,s.deep⟩ else r=.bool false):=by
 suffices hw:∃ r g',BK (call tb pr) f_nest_matcher_endLoop [.ptr M 0,.int .i64 (i:Nat)] bar g=some (r,g')∧(g.n≤g'.n∧(∀ j,j<b→g'.get j=g.get j) ∧
  (match s.op.getLast? with | none=>r=.bool false | some p=>if p.loop then r=.bool true∧MV g' b M tid ⟨Ei (i+1:Nat) p.leaves (s.to.set i p.fr),s.op.dropLast,s.deep⟩ else r=.bool false)) by
  obtain ⟨r,h',h1,h2⟩:=hw;exact ⟨r,h',AQ KB h1,h2⟩
 refine Aj rfl rfl fun K hK=>?_
 obtain ⟨oa,ps,hv⟩:=hv
 obtain ⟨r,hc,hr⟩:=Ts (pr:=pr) (bar:=bar) M tid s oa ps hv
 rcases hr with ⟨hop,hps,rfl⟩ | ⟨id,hne,hoa,rfl⟩
 ·have hg:s.op.getLast? = none:=by rw [hop];rfl
  rw [hg] at hK
  simp [f_nest_matcher_endLoop,AO,go_sem,AN,AM,AA,AE,AD,AC,AV.free.freeL,AV.free,AF,AH,hc,Bg]
  exact ⟨_,_,⟨rfl,rfl⟩,hK _ _ ⟨Nat.le_refl _,fun _ _=>rfl,rfl⟩⟩
 ·obtain ⟨id',all,x,hoa',h1,h2,h3,h4,h5,h6,h7,h8,h9,h10,h11,h12,h13,h14⟩:=hv.last hne
  rw [hoa] at hoa'
  injection hoa' with hid
  subst hid
  rw [h8] at hK
  simp only at hK
  have hdn:=hv.dn
  cases hlp:x.p.loop with
  | false =>
   simp only [hlp,Bool.false_eq_true,if_false] at hK
   simp [f_nest_matcher_endLoop,AO,go_sem,AN,AM,AA,AE,AD,AC,AV.free.freeL,AV.free,AF,AH,hc,Bg,AG,h3,h11,hlp]
   exact ⟨_,_,⟨rfl,rfl⟩,hK _ _ ⟨Nat.le_refl _,fun _ _=>rfl,rfl⟩⟩
  | true =>
   simp only [hlp,if_true] at hK
   obtain ⟨q1,q2,q3,q4,q5,q6,q7⟩:=Gb (List.length_pos_iff.mpr hne) (by omega)
   have hpk:=hv.ok x.p (by rw [hv.map];exact List.mem_map_of_mem h7)
   have hbt:bar≤tid:=by have:=hv.to.2.1;omega
   have hbM:bar≤M:=by have:=hv.bM;omega
   have hi':(i:Int)<(s.to.length:Int):=by omega
   have hle2:i+1≤(s.to.flatMap i64c).length:=by rw [ED];omega
   have hT1:=hv.to.set hi (x.p.fr:Int)
   obtain ⟨_,hTb,hTn,hTg⟩:=hv.to
   have hL:=hv.lv x h7
   have hM1:(g.set tid (.cells (AL (s.to.flatMap i64c) i [.int .i64 (x.p.fr:Int)]) 0)).get M=g.get M:=AI (fun e=>hv.ne e.symm)
   have hid1:(g.set tid (.cells (AL (s.to.flatMap i64c) i [.int .i64 (x.p.fr:Int)]) 0)).get id=g.get id:=AI h5
   have hlv1:OS 1 (g.set tid (.cells (AL (s.to.flatMap i64c) i [.int .i64 (x.p.fr:Int)]) 0)) b x.lv x.p.leaves.length (x.p.leaves.flatMap EN):=hL.1.set _ hL.2.2.1
   obtain ⟨_,_,_,hT1g⟩:=hT1
   have hall1:∀ j,j≠tid→(g.set tid (.cells (AL (s.to.flatMap i64c) i [.int .i64 (x.p.fr:Int)]) 0)).get j=g.get j:=fun j hj=>AI hj
   generalize htc:s.to.flatMap i64c=tc at *
   generalize hg1:g.set tid (.cells (AL tc i [.int .i64 (x.p.fr:Int)]) 0)=g1 at *
   have hg1n:g1.n=g.n:=by rw [← hg1];rfl
   subst hoa
   simp [f_nest_matcher_endLoop,AO,go_sem,AB,hc,Bg,AG,h3,h11,hlp,hg1,hM1,hv.cell,hTg,AJ,hi,hi',hbt,hle2,hid1,hlv1.len]
   refine Ss (b:=b) M tid i s.to.length hi hto x.p.leaves x.lv g1 ⟨_,_,by rw [hM1];exact hv.cell⟩ hv.ne hbt hlv1 hL.2.2.1 hpk.2.2.1 (by have:=hpk.2.2.2;omega) _ x.p.leaves.length 0 g1 (s.to.set i (x.p.fr:Int)) (by omega) (List.length_set) hT1g (fun _ _=>rfl) rfl (fun e g' p1 p2 p3 p4=>?_)
   rw [List.drop_zero] at p2
   have hgM:g'.get M=some (.cells [.sl tid 0 1 s.to.length true,.sl id 0 4 ps.length false,.int .i64 (s.deep:Nat)] 0):=by rw [p3 M (fun e=>hv.ne e.symm),hM1];exact hv.cell
   have hfr:∀ c j,j≠M→j≠tid→(g'.set M c).get j=g.get j:=fun c j e1 e2=>by rw [AI e1,p3 j e2,hall1 j e2]
   have hlen2:(Ei ((i+1:Nat):Int) x.p.leaves (s.to.set i (x.p.fr:Int))).length=s.to.length:=by rw [JF,List.length_set]
   have hos:=h12 (g'.set M (.cells [.sl tid 0 1 s.to.length true,.sl id 0 4 (ps.length - 1) false,.int .i64 (s.deep:Nat)] 0)) (by simp only [AW];omega) (hfr _ _ h4 h5)
   have hT2:TOV (g'.set M (.cells [.sl tid 0 1 s.to.length true,.sl id 0 4 (ps.length - 1) false,.int .i64 (s.deep:Nat)] 0)) b (.sl tid 0 1 (Ei ((i+1:Nat):Int) x.p.leaves (s.to.set i (x.p.fr:Int))).length true) tid (Ei ((i+1:Nat):Int) x.p.leaves (s.to.set i (x.p.fr:Int))) :=
    ⟨rfl,hTb,by simp only [AW];omega,by rw [AI hv.ne];exact p2⟩
   simp [go_sem,AB,AN,AM,AA,AE,AD,AC,AV.free.freeL,AV.free,AF,AH,p1,AG,hgM,hbM,q1,q2,q3,BI,Ap,AY,BL,q5,q6,q7,Jg,Jh,Ji]
   refine ⟨_,_,⟨rfl,rfl⟩,hK _ _ ⟨by simp only [AW];omega,fun j hj=>hfr _ j (by have:=hv.bM;omega) (by omega),rfl,.sl id 0 4 (ps.length - 1) false,ps.dropLast,hv.upd ?_ (by simp only [AW];omega) hT2 hlen2 hos h4 h5 ?_ Lo.1 (Lo.2 hv.pw) (fun j q=>q) (fun j e1 e2 e3 e4=>hfr _ j e2 e3) (fun p hp=>?_) ?_⟩⟩
   ·rw [AU,if_pos rfl,hlen2]
   ·simp only [hv.map,List.map_dropLast]
   ·exact hv.ok p (by rw [List.dropLast_eq_take] at hp;exact List.mem_of_mem_take hp)
   ·show s.op.dropLast.length≤1000;rw [List.length_dropLast];omega
end
end Go.Ev
namespace Go.Ev
open Go
section
variable {pr:Oracle} {bar b:Nat} {g:H}
theorem OB {A:Type} {R:A→A→Prop} (hs:∀ x y,R x y→R y x) (a:A):∀ (l:List A) (k:Nat),l.Pairwise R→(∀ y ∈ l,R a y)→(l.set k a).Pairwise R
 | [],_,_,_=>by simp
 | x::l,0,h,ha=>by
  rw [List.set_cons_zero,List.pairwise_cons]
  rw [List.pairwise_cons] at h
  exact ⟨fun y hy=>ha y (List.mem_cons_of_mem _ hy),h.2⟩
 | x::l,k+1,h,ha=>by
  rw [List.set_cons_succ,List.pairwise_cons]
  rw [List.pairwise_cons] at h
  refine ⟨fun y hy=>?_,OB hs a l k h.2 fun y hy=>ha y (List.mem_cons_of_mem _ hy)⟩
  rcases List.mem_or_eq_of_mem_set hy with hy | rfl
  ·exact h.1 y hy
  ·exact hs _ _ (ha x (by simp))
theorem VU (M tid:Nat) (s:Mt) (i:Nat) (hb:b≤g.n) (hbb:bar≤b) (hi:i<s.to.length) (hto:s.to.length≤100000) (oa:AV) (ps:List Pa) (hv:MVp g b M tid s oa ps) (hlv:∀ p ∈ s.op,p.leaves.length≤i) (Q:Ex→Env→H→Prop):∀ (n:Nat),n≤s.op.length →
  (∀ e g' k p,e.get 4=some (.bool true)→Bl s.op n=some k→s.op[k]? = some p→g.n≤g'.n→(∀ j,j<b→g'.get j=g.get j)→MV g' b M tid ⟨s.to,s.op.set k ⟨p.loop,p.fr,p.ot,p.leaves++[i]⟩,s.deep⟩→Q .ret e g') →
  (∀ e,Bl s.op n=none→Q (.exit 0) e g) →
  CW (call tb pr) bar [0,1,5] EG [(0,.ptr M 0),(1,.int .i64 (i:Nat)),(5,.int .i64 ((n:Int) - 1))] g Q:=by
 intro n
 induction n with
 | zero =>
  intro hn h1 h2
  refine Ad EG.eq_1 ?_
  simp [go_sem]
  exact h2 _ rfl
 | succ k ih =>
  intro hn h1 h2
  refine Ad EG.eq_1 ?_
  have hlen:s.op.length=ps.length:=by rw [hv.map,List.length_map]
  have hdn:=hv.dn
  have hne:ps≠[]:=List.length_pos_iff.mp (by omega)
  obtain ⟨id,all,_,hoa,e1,e2,e3,e4,e5,_,_,_,_,_,_,_,e13,e14⟩:=hv.last hne
  have hk:k<ps.length:=by omega
  have hk':(k:Int)<(ps.length:Int):=by omega
  have hxk:ps[k]? = some ps[k]:=List.getElem?_eq_getElem hk
  obtain ⟨f0,f1,f2,f3,f4⟩:=e14 k ps[k] hxk
  have hop:s.op[k]? = some ps[k].p:=by rw [hv.map,List.getElem?_map,hxk];rfl
  have hmem:ps[k] ∈ ps:=List.getElem_mem hk
  have hkk:((k+1:Nat):Int) - 1=(k:Int):=by omega
  rw [hkk]
  have hll:Bl s.op (k+1)=if ps[k].p.loop then some k else Bl s.op k:=by simp only [Bl,hop]
  have hpos:(0:Int)≤(k:Int):=by omega
  subst hoa
  generalize ps[k]=x at *
  cases hlp:x.p.loop with
  | false =>
   have hw:IntKind.i64.wrap ((k:Int) - 1)=(k:Int) - 1:=BN (by omega) (by omega)
   simp [go_sem,hv.cell,AG,AJ,hk,hk',e3,f1,hlp,hw]
   refine ih (by omega) (fun e g' j p q1 q2=>h1 e g' j p q1 (by rw [hll,hlp];exact q2)) (fun e q=>h2 e (by rw [hll,hlp];exact q))
  | true =>
   have hL:=hv.lv x hmem
   have hpl:=hlv x.p (by rw [hv.map];exact List.mem_map_of_mem hmem)
   obtain ⟨a',g',c1,c2,c3,c4,c5⟩:=hL.1.app' hb hbb 8 (EN i) rfl rfl (by omega) (by omega) (by omega)
   simp only [EN] at c1
   have hgi:g'.get id=some (.cells all 0):=by rw [c4 id e2 (hL.2.2.2 id rfl)];exact e3
   have hgM:g'.get M=some (.cells [.sl tid 0 1 s.to.length true,.sl id 0 4 ps.length false,.int .i64 (s.deep:Nat)] 0):=by rw [c4 M hv.Mn hL.2.1];exact hv.cell
   have hbi:bar≤id:=by omega
   have hle:k*4+3+1≤all.length:=by omega
   have n1:id≠g.n:=by omega
   have n2:M≠g.n:=by have:=hv.Mn;omega
   simp [go_sem,AB,hv.cell,AG,AJ,hk,hk',e3,f1,hlp]
   refine ⟨⟨?_,?_,?_,?_⟩,?_⟩
   ·refine Ab rfl ?_
    simp [An,Ai,Aa,AS,AT,List.take,List.take_succ_cons,List.take_zero,go_sem,AB,hv.cell,AG,AJ,hk,hk',e3,f4,AX,Af,ID,n1,n2]
   ·refine Ab rfl ?_
    simp [An,Ai,Aa,AS,AT,List.take,List.take_succ_cons,List.take_zero,go_sem,AB,hv.cell,AG,AJ,hk,hk',e3,f4,AX,Af,ID,n1,n2,c1,hgM,hgi]
   ·refine Ab rfl ?_
    simp [An,Ai,Aa,AS,AT,List.take,List.take_succ_cons,List.take_zero,go_sem,AB,hv.cell,AG,AJ,hk,hk',e3,f4,AX,Af,ID,n1,n2]
   ·refine Ab rfl ?_
    simp [An,Ai,Aa,AS,AT,List.take,List.take_succ_cons,List.take_zero,go_sem,AB,hv.cell,AG,AJ,hk,hk',e3,f4,AX,Af,ID,n1,n2]
   ·simp [go_sem,AB,hv.cell,AG,AJ,hk,hk',e3,f4,AX,Af,ID,n1,n2,c1,hgM,hgi,hbi,hle,c2.one]
    have hat':∀ j,j<g.n→¬ a'.isAt j:=fun j hj q=>by have:=c5 _ q;omega
    have hfr:∀ c j,j<g.n→j≠id→¬ x.lv.isAt j→(g'.set id c).get j=g.get j:=fun c j q1 q2 q3=>by rw [AI q2,c4 j q1 q3]
    have hos:=e13 k x ⟨⟨x.p.loop,x.p.fr,x.p.ot,x.p.leaves++[i]⟩,a'⟩ 3 [a'] (g'.set id (.cells (AL all (k*4+3) [a']) 0)) hxk (by simp) rfl (by simp [Pa.c,c2.one,AV.one];exact c2.one) (by simp only [AW];omega) (by rw [AU,if_pos rfl])
    refine h1 _ _ k x.p rfl (by rw [hll,hlp,if_pos rfl]) hop (by simp only [AW];omega) (fun j hj=>hfr _ j (by omega) (by omega) (fun q=>by have:=hL.1.at_lt q;omega)) ⟨.sl id 0 4 ps.length false,ps.set k ⟨⟨x.p.loop,x.p.fr,x.p.ot,x.p.leaves++[i]⟩,a'⟩,?_⟩
    exact {
     cell:=by rw [AI (fun e=>e4 e.symm)];exact hgM
     bM:=hv.bM
     Mn:=by have:=hv.Mn;simp only [AW];omega
     ne:=hv.ne
     to:=hv.to.mono (by simp only [AW];omega) (hfr _ tid hv.to.2.2.1 (fun e=>e5 e.symm) hL.2.2.1)
     os:=hos
     oM:=hv.oM
     ot:=hv.ot
     map:=by show s.op.set k _=_;rw [hv.map,List.map_set]
     lv:=fun y hy=>by
      obtain ⟨j,hj⟩:=List.mem_iff_getElem?.mp hy
      rw [List.getElem?_set] at hj
      by_cases hkj:k=j
      ·rw [if_pos hkj,if_pos (by omega)] at hj
       injection hj with hj
       subst hj
       refine ⟨?_,hat' _ hv.Mn,hat' _ hv.to.2.2.1,fun j q1 q2=>by cases q1;exact hat' _ e2 q2⟩
       have:=c2.set (id:=id) (.cells (AL all (k*4+3) [a']) 0) (hat' id e2)
       simpa [EN] using this
      ·rw [if_neg hkj] at hj
       have hy2:=hv.lv y (List.mem_of_getElem? hj)
       have hap:x.lv.apart y.lv:=by
        have hpw:=List.pairwise_iff_getElem.mp hv.pw
        obtain ⟨hj1,hj2⟩:=List.getElem?_eq_some_iff.mp hj
        obtain ⟨hk1,hk2⟩:=List.getElem?_eq_some_iff.mp hxk
        rcases Nat.lt_or_gt_of_ne hkj with hlt | hlt
        ·have:=hpw k j hk1 hj1 hlt;rw [hj2,hk2] at this;exact this
        ·have:=hpw j k hj1 hk1 hlt;rw [hj2,hk2] at this;exact this.symm
       refine ⟨hy2.1.mono (by simp only [AW];omega) (fun q hq=>hfr _ q (hy2.1.at_lt hq).2 (fun e=>hy2.2.2.2 q (by rw [e];rfl) hq) (fun q2=>hap q q2 hq)),hy2.2⟩
     pw:=by
      have h3:(ps.map Pa.lv).Pairwise AV.apart:=List.pairwise_map.mpr hv.pw
      have h4:=OB (fun _ _ h=>AV.apart.symm h) a' (ps.map Pa.lv) k h3 (fun y hy j q1 q2=>by
       obtain ⟨z,hz,rfl⟩:=List.mem_map.mp hy
       exact hat' j ((hv.lv z hz).1.at_lt q2).2 q1)
      have h5:(ps.set k ⟨⟨x.p.loop,x.p.fr,x.p.ot,x.p.leaves++[i]⟩,a'⟩).map Pa.lv=(ps.map Pa.lv).set k a':=by rw [List.map_set]
      rw [← h5] at h4
      exact List.pairwise_map.mp h4
     ok:=fun p hp=>by
      rcases List.mem_or_eq_of_mem_set hp with hp | rfl
      ·exact hv.ok p hp
      ·have hpk:=hv.ok x.p (by rw [hv.map];exact List.mem_map_of_mem hmem)
       refine ⟨hpk.1,hpk.2.1,fun q hq=>?_,by simp;omega⟩
       rw [List.mem_append] at hq
       rcases hq with hq | hq
       ·exact hpk.2.2.1 q hq
       ·simp at hq;subst hq;exact hi
     dn:=by simp;exact hv.dn }
theorem YC (M tid:Nat) (s:Mt) (i:Nat) (hb:b≤g.n) (hbb:bar≤b) (hi:i<s.to.length) (hto:s.to.length≤100000) (hv:MV g b M tid s) (hlv:∀ p ∈ s.op,p.leaves.length≤i):∃ r g',call tb pr DL [.ptr M 0,.int .i64 (i:Nat)] bar g=some (r,g')∧g.n≤g'.n∧(∀ j,j<b→g'.get j=g.get j) ∧
  (match Bl s.op s.op.length with | none=>r=.bool false | some k=>match s.op[k]? with | some p=>r=.bool true∧MV g' b M tid ⟨s.to,s.op.set k ⟨p.loop,p.fr,p.ot,p.leaves++[i]⟩,s.deep⟩ | none=>False):=by
 suffices hw:∃ r g',BK (call tb pr) f_nest_matcher_leave [.ptr M 0,.int .i64 (i:Nat)] bar g=some (r,g')∧(g.n≤g'.n∧(∀ j,j<b→g'.get j=g.get j) ∧
  (match Bl s.op s.op.length with | none=>r=.bool false | some k=>match s.op[k]? with | some p=>r=.bool true∧MV g' b M tid ⟨s.to,s.op.set k ⟨p.loop,p.fr,p.ot,p.leaves++[i]⟩,s.deep⟩ | none=>False)) by
  obtain ⟨r,h',h1,h2⟩:=hw;exact ⟨r,h',AQ Lc h1,h2⟩
 refine Aj rfl rfl fun K hK=>?_
 obtain ⟨oa,ps,hv⟩:=hv
 have hlen:s.op.length=ps.length:=by rw [hv.map,List.length_map]
 have hdn:=hv.dn
 have hw:IntKind.i64.wrap ((ps.length:Int) - 1)=(s.op.length:Int) - 1:=by rw [BN (by omega) (by omega),hlen]
 simp [f_nest_matcher_leave,AO,go_sem,hv.cell,AG,hv.os.len,hw]
 refine VU M tid s i hb hbb hi hto oa ps hv hlv _ s.op.length (Nat.le_refl _) (fun e g' k p q1 q2 q3 q4 q5 q6=>?_) (fun e q=>?_)
 ·simp [go_sem,AN,AM,AA,AE,AD,AC,AV.free.freeL,AV.free,AF,AH,q1]
  refine ⟨_,_,⟨rfl,rfl⟩,hK _ _ ⟨q4,q5,?_⟩⟩
  rw [q2];simp only;rw [q3];exact ⟨by first | trivial | rfl,q6⟩
 ·simp [go_sem,AN,AM,AA,AE,AD,AC,AV.free.freeL,AV.free,AF,AH]
  refine ⟨_,_,⟨rfl,rfl⟩,hK _ _ ⟨Nat.le_refl _,fun _ _=>rfl,?_⟩⟩
  rw [q]
theorem EM:∀ (op:List Pt) (n k:Nat),Bl op n=some k→k<n∧∃ p,op[k]? = some p∧p.loop=true
 | op,0,k,h=>by simp [Bl] at h
 | op,n+1,k,h=>by
  simp only [Bl] at h
  cases hp:op[n]? with
  | none=>rw [hp] at h;simp at h
  | some p =>
   rw [hp] at h
   simp only at h
   split at h
   ·rename_i hl
    injection h with h
    subst h
    exact ⟨by omega,p,hp,hl⟩
   ·obtain ⟨h1,h2⟩:=EM op n k h
    exact ⟨by omega,h2⟩
theorem Ry (M tid:Nat) (s:Mt) (i:Nat) (sg:Int) (hb:b≤g.n) (hbb:bar≤b) (hi:i<s.to.length) (hto:s.to.length≤100000) (hl:s.op.length≤16) (hv:MV g b M tid s) (hlv:∀ p ∈ s.op,p.leaves.length≤i):∃ r g',call tb pr DN [.ptr M 0,.int .i64 (i:Nat),.int .i32 sg] bar g=some (r,g')∧g.n≤g'.n∧(∀ j,j<b→g'.get j=g.get j) ∧
  (match BX sg i s with | none=>r=.bool false | some s'=>r=.bool true∧MV g' b M tid s'):=by
 suffices hw:∃ r g',BK (call tb pr) f_nest_matcher_token [.ptr M 0,.int .i64 (i:Nat),.int .i32 sg] bar g=some (r,g')∧(g.n≤g'.n∧(∀ j,j<b→g'.get j=g.get j) ∧
  (match BX sg i s with | none=>r=.bool false | some s'=>r=.bool true∧MV g' b M tid s')) by
  obtain ⟨r,h',h1,h2⟩:=hw;exact ⟨r,h',AQ Lf h1,h2⟩
 refine Aj rfl rfl fun K hK=>?_
 by_cases c1:sg=63
 ·subst c1
  obtain ⟨r,g',h1,h2,h3,h4,h5⟩:=Sf (pr:=pr) (bar:=bar) M tid s i false hb hbb hi (by omega) hto hv
  simp [f_nest_matcher_token,AO,go_sem,AN,AM,AA,AE,AD,AC,AV.free.freeL,AV.free,AF,AH,h1]
  refine ⟨_,_,⟨rfl,rfl⟩,hK _ _ ⟨h2,h3,?_⟩⟩
  unfold BX
  rw [if_pos rfl]
  by_cases c:s.op.length+1≤16
  ·rw [if_pos c];simp [h4,c];exact h5
  ·rw [if_neg c];simp [h4,c]
 by_cases c2:sg=91
 ·subst c2
  obtain ⟨r,g',h1,h2,h3,h4,h5⟩:=Sf (pr:=pr) (bar:=bar) M tid s i true hb hbb hi (by omega) hto hv
  simp [f_nest_matcher_token,AO,go_sem,AN,AM,AA,AE,AD,AC,AV.free.freeL,AV.free,AF,AH,h1]
  refine ⟨_,_,⟨rfl,rfl⟩,hK _ _ ⟨h2,h3,?_⟩⟩
  unfold BX
  rw [if_neg (by omega),if_pos rfl]
  by_cases c:s.op.length+1≤16
  ·rw [if_pos c];simp [h4,c];exact h5
  ·rw [if_neg c];simp [h4,c]
 by_cases c3:sg=58
 ·subst c3
  obtain ⟨r,g',h1,h2,h3,h4⟩:=YS (pr:=pr) (bar:=bar) M tid s i hb hbb hi hto hv
  simp [f_nest_matcher_token,AO,go_sem,AN,AM,AA,AE,AD,AC,AV.free.freeL,AV.free,AF,AH,h1]
  refine ⟨_,_,⟨rfl,rfl⟩,hK _ _ ⟨h2,h3,?_⟩⟩
  unfold BX
  rw [if_neg (by omega),if_neg (by omega),if_pos rfl]
  cases hg:s.op.getLast? with
  | none=>rw [hg] at h4;exact h4
  | some p =>
   rw [hg] at h4
   simp only at h4 ⊢
   by_cases c:(p.loop||decide (0<p.ot))=true
   ·rw [if_pos c] at h4 ⊢;exact h4
   ·rw [if_neg c] at h4 ⊢;exact h4
 by_cases c4:sg=59
 ·subst c4
  obtain ⟨r,g',h1,h2,h3,h4⟩:=Xo (pr:=pr) (bar:=bar) M tid s i hb hbb hi hto hv
  simp [f_nest_matcher_token,AO,go_sem,AN,AM,AA,AE,AD,AC,AV.free.freeL,AV.free,AF,AH,h1]
  refine ⟨_,_,⟨rfl,rfl⟩,hK _ _ ⟨h2,h3,?_⟩⟩
  unfold BX
  rw [if_neg (by omega),if_neg (by omega),if_neg (by omega),if_pos rfl]
  cases hg:s.op.getLast? with
  | none=>rw [hg] at h4;exact h4
  | some p =>
   rw [hg] at h4
   simp only at h4 ⊢
   by_cases c:p.loop=true
   ·rw [if_pos c] at h4 ⊢;exact h4
   ·rw [if_neg c] at h4 ⊢;exact h4
 by_cases c5:sg=93
 ·subst c5
  obtain ⟨r,g',h1,h2,h3,h4⟩:=VL (pr:=pr) (bar:=bar) M tid s i hb hbb hi hto hv
  simp [f_nest_matcher_token,AO,go_sem,AN,AM,AA,AE,AD,AC,AV.free.freeL,AV.free,AF,AH,h1]
  refine ⟨_,_,⟨rfl,rfl⟩,hK _ _ ⟨h2,h3,?_⟩⟩
  unfold BX
  rw [if_neg (by omega),if_neg (by omega),if_neg (by omega),if_neg (by omega),if_pos rfl]
  cases hg:s.op.getLast? with
  | none=>rw [hg] at h4;exact h4
  | some p =>
   rw [hg] at h4
   simp only at h4 ⊢
   by_cases c:p.loop=true
   ·rw [if_pos c] at h4 ⊢;exact h4
   ·rw [if_neg c] at h4 ⊢;exact h4
 by_cases c6:sg=126
 ·subst c6
  obtain ⟨r,g',h1,h2,h3,h4⟩:=YC (pr:=pr) (bar:=bar) M tid s i hb hbb hi hto hv hlv
  simp [f_nest_matcher_token,AO,go_sem,AN,AM,AA,AE,AD,AC,AV.free.freeL,AV.free,AF,AH,h1]
  refine ⟨_,_,⟨rfl,rfl⟩,hK _ _ ⟨h2,h3,?_⟩⟩
  unfold BX
  rw [if_neg (by omega),if_neg (by omega),if_neg (by omega),if_neg (by omega),if_neg (by omega),if_pos rfl]
  cases hg:Bl s.op s.op.length with
  | none=>rw [hg] at h4;exact h4
  | some k =>
   obtain ⟨_,p,hp,_⟩:=EM _ _ _ hg
   rw [hg] at h4
   simp only [hp] at h4 ⊢
   exact h4
 have d1:(sg == 63)=false:=by simpa using c1
 have d2:(sg == 91)=false:=by simpa using c2
 have d3:(sg == 58)=false:=by simpa using c3
 have d4:(sg == 59)=false:=by simpa using c4
 have d5:(sg == 93)=false:=by simpa using c5
 have d6:(sg == 126)=false:=by simpa using c6
 simp [f_nest_matcher_token,AO,go_sem,AN,AM,AA,AE,AD,AC,AV.free.freeL,AV.free,AF,AH,d1,d2,d3,d4,d5,d6]
 refine ⟨_,_,⟨rfl,rfl⟩,hK _ _ ⟨Nat.le_refl _,fun _ _=>rfl,?_⟩⟩
 unfold BX
 rw [if_neg c1,if_neg c2,if_neg c3,if_neg c4,if_neg c5,if_neg c6]
 exact ⟨rfl,hv⟩
end
end Go.Ev
namespace Go.Ev
open Go
def Br (l:List Tok):Nat→Nat→Mt→Option Mt
 | 0,_,s=>some s
 | k+1,i,s=>(BX (Ah l i) i s).bind (Br l k (i+1))
def BW (l:List Tok):Option (List Int):=match Br l l.length 0 ⟨List.replicate l.length (-1),[],0⟩ with
 | none=>none
 | some s=>if s.op=[] then some s.to else none
theorem XI {sg:Int} {i:Nat} {s s':Mt} (h:BX sg i s=some s') (h16:s.op.length≤16) (hlv:∀ p ∈ s.op,p.leaves.length≤i):s'.to.length=s.to.length∧s'.op.length≤16∧∀ p ∈ s'.op,p.leaves.length≤i+1:=by
 have hdl:∀ p ∈ s.op.dropLast,p.leaves.length≤i+1:=fun p hp=>by
  have:=hlv p (by rw [List.dropLast_eq_take] at hp;exact List.mem_of_mem_take hp);omega
 unfold BX at h
 split at h
 ·split at h
  ·injection h with h;subst h
   refine ⟨rfl,by simp;omega,fun p hp=>?_⟩
   rw [List.mem_append] at hp
   rcases hp with hp | hp
   ·have:=hlv p hp;omega
   ·simp at hp;subst hp;simp
  ·cases h
 split at h
 ·split at h
  ·injection h with h;subst h
   refine ⟨rfl,by simp;omega,fun p hp=>?_⟩
   rw [List.mem_append] at hp
   rcases hp with hp | hp
   ·have:=hlv p hp;omega
   ·simp at hp;subst hp;simp
  ·cases h
 split at h
 ·split at h
  ·cases h
  ·rename_i p0 hp0
   split at h
   ·cases h
   ·injection h with h;subst h
    refine ⟨List.length_set,by rw [List.length_set];exact h16,fun p hp=>?_⟩
    rcases List.mem_or_eq_of_mem_set hp with hp | rfl
    ·have:=hlv p hp;omega
    ·have:=hlv p0 (List.mem_of_getLast? hp0);simp only;omega
 split at h
 ·split at h
  ·cases h
  ·split at h
   ·cases h
   ·injection h with h;subst h
    exact ⟨List.length_set,by rw [List.length_dropLast];omega,hdl⟩
 split at h
 ·split at h
  ·cases h
  ·split at h
   ·injection h with h;subst h
    exact ⟨by rw [JF,List.length_set],by rw [List.length_dropLast];omega,hdl⟩
   ·cases h
 split at h
 ·split at h
  ·cases h
  ·rename_i k hk
   split at h
   ·rename_i p0 hp0
    injection h with h;subst h
    refine ⟨rfl,by rw [List.length_set];exact h16,fun p hp=>?_⟩
    rcases List.mem_or_eq_of_mem_set hp with hp | rfl
    ·have:=hlv p hp;omega
    ·have:=hlv p0 (List.mem_of_getElem? hp0);simp;omega
   ·cases h
 ·injection h with h;subst h
  exact ⟨rfl,h16,fun p hp=>by have:=hlv p hp;omega⟩
section
variable {pr:Oracle} {bar b:Nat} {g:H}
theorem MV.mono {M tid:Nat} {s:Mt} (hv:MV g b M tid s) {h:H} (hn:g.n≤h.n) (hf:∀ j,j<g.n→h.get j=g.get j):MV h b M tid s:=by
 obtain ⟨oa,ps,hv⟩:=hv
 refine ⟨oa,ps,?_⟩
 exact {
  cell:=by rw [hf M hv.Mn];exact hv.cell
  bM:=hv.bM
  Mn:=by have:=hv.Mn;omega
  ne:=hv.ne
  to:=hv.to.mono hn (hf tid hv.to.2.2.1)
  os:=hv.os.mono hn (fun j hj=>hf j (hv.os.at_lt hj).2)
  oM:=hv.oM
  ot:=hv.ot
  map:=hv.map
  lv:=fun x hx=>(hv.lv x hx).mono hn (fun j q1 _ _ _=>hf j q1)
  pw:=hv.pw
  ok:=hv.ok
  dn:=hv.dn }
theorem UL (l:List Tok) (la:AV) (M tid:Nat) (hM:tid≠M) (hbt:bar≤tid) (oa dp:AV) (hlen:l.length≤100000) (Q:Ex→Env→H→Prop):∀ (k i:Nat) (g:H) (to:List Int),l.length=i+k→to.length=l.length→g.get tid=some (.cells (to.flatMap i64c) 0)→g.get M=some (.cells [.sl tid 0 1 l.length true,oa,dp] 0)→(∀ j,j<i→to[j]? = some (-1)) →
  (∀ e g' ,e.get 0=some la→e.get 4=some (.ptr M 0)→g'.n=g.n→g'.get tid=some (.cells ((List.replicate l.length (-1:Int)).flatMap i64c) 0)→g'.get M=g.get M→(∀ j,j≠tid→g'.get j=g.get j)→Q (.exit 0) e g') →
  CW (call tb pr) bar [0,4,14,15] HG [(0,la),(4,.ptr M 0),(14,As l.length),(15,As i)] g Q:=by
 intro k
 induction k with
 | zero =>
  intro i g to hk htl ht hgM hm hq
  refine Ad HG.eq_1 ?_
  simp [go_sem,hk]
  refine hq _ _ rfl rfl rfl ?_ rfl (fun _ _=>rfl)
  have:to=List.replicate l.length (-1:Int):=by
   apply List.ext_getElem?
   intro j
   by_cases hj:j<l.length
   ·rw [hm j (by omega),List.getElem?_replicate,if_pos hj]
   ·rw [List.getElem?_eq_none (by omega),List.getElem?_eq_none (by simp;omega)]
  rw [← this];exact ht
 | succ k ih =>
  intro i g to hk htl ht hgM hm hq
  refine Ad HG.eq_1 ?_
  have hi:i<l.length:=by omega
  have hbi:(i:Int)<(l.length:Int):=by omega
  have hw:=BF (n:=i) (by omega)
  have hle:i+1≤(to.flatMap i64c).length:=by rw [ED];omega
  have hset:=Od (to:=to) (i:=i) (by omega) (-1)
  generalize htc:to.flatMap i64c=tc at *
  simp [go_sem,AB,hi,hbi,hgM,AG,AJ,ht,hbt,hle,hw]
  refine ih (i+1) _ (to.set i (-1)) (by omega) (by rw [List.length_set];exact htl) (by rw [AU,if_pos rfl,hset]) (by rw [AI (fun e=>hM e.symm)];exact hgM) (fun j hj=>?_) (fun e g' q1 q2 q3 q4 q5 q6=>hq e g' q1 q2 q3 q4 (by rw [q5,AI (fun e=>hM e.symm)]) (fun j hj=>by rw [q6 j hj,AI hj]))
  rw [List.getElem?_set]
  by_cases hji:i=j
  ·rw [if_pos hji,if_pos (by omega)]
  ·rw [if_neg hji];exact hm j (by omega)
theorem UM (l:List Tok) (la:AV) (hla:FzV 3 la l.length (l.flatMap Tok.cells)) (hlen:l.length≤100000) (M tid:Nat) (hbb:bar≤b) (Q:Ex→Env→H→Prop):∀ (k i:Nat) (g:H) (s:Mt),l.length=i+k→MV g b M tid s→b≤g.n→s.to.length=l.length→s.op.length≤16→(∀ p ∈ s.op,p.leaves.length≤i) →
  (∀ e g',e.get 2=some (.ptr M 0)→e.get 3=some (.bool false)→Br l k i s=none→g.n≤g'.n→Q .ret e g') →
  (∀ e g' s',e.get 4=some (.ptr M 0)→Br l k i s=some s'→MV g' b M tid s'→g.n≤g'.n→s'.to.length=l.length→Q (.exit 2) e g') →
  CW (call tb pr) bar [4,25,26,27] HJ [(4,.ptr M 0),(25,la),(26,As l.length),(27,As i)] g Q:=by
 intro k
 induction k with
 | zero =>
  intro i g s hk hv hb htl h16 hlv h1 h2
  refine Ad HJ.eq_1 ?_
  simp [go_sem,hk]
  exact h2 _ _ s rfl rfl hv (Nat.le_refl _) htl
 | succ k ih =>
  intro i g s hk hv hb htl h16 hlv h1 h2
  refine Ad HJ.eq_1 ?_
  have hi:i<l.length:=by omega
  have hbi:(i:Int)<(l.length:Int):=by omega
  have hw:=BF (n:=i) (by omega)
  rcases HZ hla with ⟨rfl,rfl⟩ | ⟨full,cs,rfl,hl,hx,hy⟩
  ·cases hi
  have hyi:=hy i hi
  have hsg:Ah l i=l[i].sign:=by simp [Ah,hi]
  generalize hti:l[i]=t at *
  have hbn:bar≤g.n:=by omega
  have hv2:MV ((g.alloc (.cells [.int .i32 0,.int .i64 0,.int .i32 0] 0)).set g.n (.cells t.cells 0)) b M tid s:=hv.mono (by simp [AW,AP]) (fun j hj=>by rw [AI (by omega),AK,if_neg (by omega)])
  obtain ⟨r,g',c1,c2,c3,c4⟩:=Ry (pr:=pr) (bar:=bar) M tid s i (Ah l i) (by simp only [AW,AP];omega) hbb (by omega) (by omega) h16 hv2 hlv
  simp only [AW,AP] at c2
  have hgo:Br l (k+1) i s=(BX (Ah l i) i s).bind (Br l k (i+1)):=rfl
  simp only [Tok.cells,hsg] at c1
  cases hp:BX (Ah l i) i s with
  | none =>
   rw [hp] at c4
   simp only at c4
   subst c4
   simp [go_sem,AB,hi,hbi,AJ,hl,hyi,Tok.cells,AL,hbn,c1]
   exact h1 _ _ rfl rfl (by rw [hgo,hp];rfl) (by omega)
  | some s' =>
   rw [hp] at c4
   simp only at c4
   obtain ⟨rfl,hv'⟩:=c4
   obtain ⟨i1,i2,i3⟩:=XI hp h16 hlv
   simp [go_sem,AB,hi,hbi,AJ,hl,hyi,Tok.cells,AL,hbn,c1,hw]
   exact ih (i+1) g' s' (by omega) hv' (by omega) (by omega) i2 i3 (fun e g2 q1 q2 q3 q4=>h1 e g2 q1 q2 (by rw [hgo,hp];exact q3) (by omega)) (fun e g2 s2 q1 q2 q3 q4=>h2 e g2 s2 q1 (by rw [hgo,hp];exact q2) q3 (by omega))
theorem Rx (l:List Tok) (la:AV) (hla:FzV 3 la l.length (l.flatMap Tok.cells)) (hlen:l.length≤100000) (hbb:bar≤g.n):∃ r g',call tb pr GX [la] bar g=some (r,g') ∧
  (match Br l l.length 0 ⟨List.replicate l.length (-1),[],0⟩ with | none=>∃ M,r=.tup [.ptr M 0,.bool false] | some s=>∃ M tid,r=.tup [.ptr M 0,.bool (decide (s.op=[]))]∧MV g' g.n M tid s∧s.to.length=l.length):=by
 suffices hw:∃ r g',BK (call tb pr) f_nest_match [la] bar g=some (r,g') ∧
  (match Br l l.length 0 ⟨List.replicate l.length (-1),[],0⟩ with | none=>∃ M,r=.tup [.ptr M 0,.bool false] | some s=>∃ M tid,r=.tup [.ptr M 0,.bool (decide (s.op=[]))]∧MV g' g.n M tid s∧s.to.length=l.length) by
  obtain ⟨r,h',h1,h2⟩:=hw;exact ⟨r,h',AQ SN h1,h2⟩
 refine Aj rfl rfl fun K hK=>?_
 have hln:∀ g,GC (some la) g=some (As l.length,g):=(hla.vw g).len
 have hsz:(l.length:Int)*8≤140737488355328:=by omega
 have hsz2:(l.length:Int)≤9223372036854775807:=by omega
 simp [f_nest_match,AO,go_sem,AB,hln,hsz,hsz2,AX,Af,AL]
 refine UL l la (g.n+1) g.n (by omega) hbb .nilsl (.int .i64 0) hlen _ l.length 0 _ (List.replicate l.length 0) (by omega) (by simp) ?_ (by simp [AK,AP]) (by simp) (fun e g1 q1 q2 q3 q4 q5 q6=>?_)
 ·simp only [AK,AP];rw [if_neg (by omega),if_pos trivial,RC]
 ·simp [go_sem,q1,q2,hln]
  have hMV:MV g1 g.n (g.n+1) g.n ⟨List.replicate l.length (-1),[],0⟩:=by
   refine ⟨.nilsl,[],?_⟩
   exact {
    cell:=by rw [q5];simp [AK,AP]
    bM:=by omega
    Mn:=by simp only [AP] at q3;omega
    ne:=by omega
    to:=⟨rfl,Nat.le_refl _,by simp only [AP] at q3;omega,q4⟩
    os:=OS.nil
    oM:=fun h=>h
    ot:=fun h=>h
    map:=rfl
    lv:=fun x hx=>by cases hx
    pw:=List.Pairwise.nil
    ok:=fun p hp=>by cases hp
    dn:=by simp }
  refine UM l la hla hlen (g.n+1) g.n hbb _ l.length 0 g1 ⟨List.replicate l.length (-1),[],0⟩ (by omega) hMV (by simp only [AP] at q3;omega) (by simp) (by simp) (by simp) (fun e g2 p1 p2 p3 p4=>?_) (fun e g2 s' p1 p2 p3 p4 p5=>?_)
  ·rw [p3] at hK
   simp [go_sem,AN,AM,AA,AE,AD,AC,AV.free.freeL,AV.free,AF,AH,p1,p2]
   exact ⟨_,_,⟨rfl,rfl⟩,hK _ _ ⟨_,rfl⟩⟩
  ·rw [p2] at hK
   have hp3:=p3
   obtain ⟨oa,ps,hv⟩:=p3
   have hlen:s'.op.length=ps.length:=by rw [hv.map,List.length_map]
   have hbd:((ps.length:Int) == 0)=decide (s'.op=[]):=by
    rw [Bool.eq_iff_iff];simp only [beq_iff_eq,decide_eq_true_eq]
    constructor
    ·intro h;exact List.length_eq_zero_iff.mp (by omega)
    ·intro h;rw [h] at hlen;simp at hlen;rw [← hlen];rfl
   simp [go_sem,AN,AM,AA,AE,AD,AC,AV.free.freeL,AV.free,AF,AH,p1,AG,hv.cell,hv.os.len,hbd]
   exact ⟨_,_,⟨rfl,rfl⟩,hK _ _ ⟨_,_,rfl,hp3,p5⟩⟩
theorem Pz (l:List Tok) (la:AV) (hla:FzV 3 la l.length (l.flatMap Tok.cells)) (hlen:l.length≤100000):match BW l with
  | some to=>∃ a,call tb pr GW [la] bar g=some (.tup [a,.int .i64 0],g)∧FzV 1 a to.length (to.flatMap i64c)∧to.length=l.length
  | none=>call tb pr GW [la] bar g=some (.tup [.nilsl,.int .i64 13],g):=by
 suffices hw:∃ r,BK (call tb pr) f_nest_Of [la] bar g=some (r,g)∧(match BW l with
  | some to=>∃ a,r=.tup [a,.int .i64 0]∧FzV 1 a to.length (to.flatMap i64c)∧to.length=l.length
  | none=>r=.tup [.nilsl,.int .i64 13]) by
  obtain ⟨r,h1,h2⟩:=hw
  have h1:=AQ WB h1
  revert h2
  cases BW l with
  | none=>intro h2;simp only at h2;subst h2;exact h1
  | some to=>intro h2;simp only at h2;obtain ⟨a,rfl,h3,h4⟩:=h2;exact ⟨a,h1,h3,h4⟩
 refine CG rfl rfl fun K hK=>?_
 obtain ⟨r,g',hc,hr⟩:=Rx (pr:=pr) (bar:=g.n) (g:=g) l la hla hlen (Nat.le_refl _)
 unfold BW at hK
 cases hp:Br l l.length 0 ⟨List.replicate l.length (-1),[],0⟩ with
 | none =>
  rw [hp] at hr hK
  obtain ⟨M,rfl⟩:=hr
  simp [f_nest_Of,AO,go_sem,Bf,AA,AE,AD,AV.free.freeL,AF,hc,AC,AV.free]
  exact hK _ rfl
 | some s =>
  rw [hp] at hr hK
  obtain ⟨M,tid,rfl,⟨oa,ps,hv⟩,hl⟩:=hr
  by_cases hop:s.op=[]
  ·simp only [hop,if_true] at hK
   obtain ⟨a2,h5,h6,h7⟩:=hv.to.freeze (by omega) 2
   simp [f_nest_Of,AO,go_sem,Bf,AA,AE,AD,AV.free.freeL,AF,hc,hop,AG,hv.cell,h6,h7.free,AC,AV.free]
   exact hK _ ⟨a2,rfl,h7,hl⟩
  ·simp only [hop,if_false] at hK
   simp [f_nest_Of,AO,go_sem,Bf,AA,AE,AD,AV.free.freeL,AF,hc,hop,AC,AV.free]
   exact hK _ rfl
end
end Go.Ev
namespace Go.Ev
open Go
structure Jp where
 loop:Bool
 other:Bool
 left:Bool
 base:Int
 fin:Int
structure Js where
 h:Int
 ps:List Jp
def Jp.c (p:Jp):List AV:=[.bool p.loop,.bool p.other,.bool p.left,.int .i64 p.base,.int .i64 p.fin]
theorem Jp.c_len (p:Jp):p.c.length=5:=rfl
def Cf (s:Int):Bool:=decide (s=58∨s=59∨s=93)
def Bx:List Jp→Nat→Option Nat
 | _,0=>none
 | ps,k+1=>match ps[k]? with | some p=>if p.loop then some k else Bx ps k | none=>none
def Bw (ps:List Jp):Int:=match ps.getLast? with | some p=>p.base | none=>0
def Al (sg:Int) (s:Js):Int × Js :=
 if sg=63∨sg=91 then (0,⟨s.h,s.ps++[⟨sg == 91,false,false,s.h,0⟩]⟩) else
 if sg=58 then (match s.ps.getLast? with | none=>(0,s) | some p=>(0,⟨p.base,s.ps.set (s.ps.length - 1) ⟨p.loop,true,p.left,p.base,s.h⟩⟩)) else
 if sg=59 then (match s.ps.getLast? with | none=>(0,s) | some p=>if p.other then (if s.h≠-1∧p.fin≠-1∧s.h≠p.fin then (14,s) else (0,⟨max s.h p.fin,s.ps.dropLast⟩)) else (if s.h≠-1∧s.h≠p.base then (14,s) else (0,⟨p.base,s.ps.dropLast⟩))) else
 if sg=93 then (match s.ps.getLast? with | none=>(0,s) | some p=>if s.h≠-1∧s.h≠p.base then (14,s) else (0,⟨if p.left then p.base else -1,s.ps.dropLast⟩)) else
 if sg=126 then (match Bx s.ps s.ps.length with | none=>(0,s) | some k=>match s.ps[k]? with | none=>(0,s) | some p=>if s.h≠p.base then (14,s) else (0,⟨-1,s.ps.set k ⟨p.loop,p.other,true,p.base,p.fin⟩⟩)) else
 if sg=161 then (0,⟨-1,s.ps⟩) else (0,s)
def BC (fs:List Fn) (t:Tok) (s:Js):Int × Js :=
 if s.h=-1∧Cf t.sign=false then (15,s) else
 if (Am fs t.sign t.name).2.2=false then (22,s) else
 if s.h=-1 then Al t.sign s else
 if s.h - Bw s.ps<(Am fs t.sign t.name).1∨64<s.h - (Am fs t.sign t.name).1+(Am fs t.sign t.name).2.1 then (14,s) else
 Al t.sign ⟨s.h+((Am fs t.sign t.name).2.1 - (Am fs t.sign t.name).1),s.ps⟩
def Qo (sg:Int) (ps:List Jp):Prop :=
 (sg=58→∃ p,ps.getLast? = some p∧p.loop=false∧p.other=false)∧(sg=59→∃ p,ps.getLast? = some p∧p.loop=false)∧(sg=93→∃ p,ps.getLast? = some p∧p.loop=true∧p.other=false) ∧
 (sg=126→∃ k,Bx ps ps.length=some k)
def Sa (s:Js):Prop:=-1≤s.h∧s.h≤64∧(∀ p ∈ s.ps,0≤p.base∧p.base≤64∧-1≤p.fin∧p.fin≤64)∧s.ps.length≤1000
theorem Ih (fs:List Fn) (s nm:Int):0≤(Am fs s nm).1∧(Am fs s nm).1≤4∧0≤(Am fs s nm).2.1∧(Am fs s nm).2.1≤2:=by
 unfold Am IV
 repeat' split
 all_goals simp
 all_goals omega
structure JVp (g:H) (b J:Nat) (p m:Int) (fa:AV) (s:Js) (out:List Int) (pa oa:AV):Prop where
 cell:g.get J=some (.cells [.int .i64 p,.int .i64 m,fa,.int .i64 s.h,pa,oa] 0)
 bJ:b≤J
 Jn:J<g.n
 os:OS 5 g b pa s.ps.length (s.ps.flatMap Jp.c)
 oo:OS 1 g b oa out.length (out.flatMap i64c)
 pJ:¬ pa.isAt J
 oJ:¬ oa.isAt J
 ap:pa.apart oa
def JV (g:H) (b J:Nat) (p m:Int) (fa:AV) (s:Js) (out:List Int):Prop:=∃ pa oa,JVp g b J p m fa s out pa oa
theorem Jp.c_one (p:Jp):p.c.all AV.one=true:=by simp [Jp.c,AV.one]
theorem Gs (a b c d e f v:AV):AL [a,b,c,d,e,f] 3 [v]=[a,b,c,v,e,f]:=Eq.trans rfl rfl
theorem eo (a b c d e f v:AV):AL [a,b,c,d,e,f] 4 [v]=[a,b,c,d,v,f]:=Eq.trans rfl rfl
theorem ep (a b c d e f v:AV):AL [a,b,c,d,e,f] 5 [v]=[a,b,c,d,e,v]:=Eq.trans rfl rfl
theorem IS (a b c d e v w x y z:AV):AL [a,b,c,d,e] 0 [v,w,x,y,z]=[v,w,x,y,z]:=Eq.trans rfl rfl
section
variable {bar b:Nat} {g:H} {J:Nat} {p m:Int} {fa:AV} {s:Js} {out:List Int} {pa oa:AV}
theorem JVp.last (hv:JVp g b J p m fa s out pa oa) (hne:s.ps≠[]):∃ id all x,pa=.sl id 0 5 s.ps.length false∧b≤id∧id<g.n∧g.get id=some (.cells all 0)∧id≠J∧¬ oa.isAt id ∧
  s.ps[s.ps.length - 1]? = some x∧x ∈ s.ps∧s.ps.getLast? = some x ∧
  (∀ h:H,g.n≤h.n→h.get id=g.get id→OS 5 h b (.sl id 0 5 (s.ps.length - 1) false) s.ps.dropLast.length (s.ps.dropLast.flatMap Jp.c)) ∧
  (∀ i x x' f vs (h:H),s.ps[i]? = some x→f+vs.length≤5→Jp.c x'=AL (Jp.c x) f vs→(Jp.c x').all AV.one=true→g.n≤h.n→h.get id=some (.cells (AL all (i*5+f) vs) 0)→OS 5 h b pa (s.ps.set i x').length ((s.ps.set i x').flatMap Jp.c)) ∧
  (∀ i x,s.ps[i]? = some x→i*5+5≤all.length∧all[i*5]? = some (.bool x.loop)∧all[i*5+1]? = some (.bool x.other)∧all[i*5+2]? = some (.bool x.left)∧all[i*5+3]? = some (.int .i64 x.base)∧all[i*5+4]? = some (.int .i64 x.fin)∧(all.drop (i*5)).take 5=x.c):=by
 obtain ⟨id,all,hpa,e1,e2,e3,e4,e5,e6,e7⟩:=hv.os.elems Jp.c_len hne
 obtain ⟨x,hx1,hx2,hx3,hx4⟩:=EB hne
 have hJ:=hv.pJ
 have hO:=hv.ap id (by rw [hpa];rfl)
 rw [hpa] at hJ
 refine ⟨id,all,x,hpa,e1,e2,e3,hJ,hO,hx3,List.mem_of_getElem? hx3,hx1,e6,e7,fun i y hy=>?_⟩
 obtain ⟨hi,_⟩:=List.getElem?_eq_some_iff.mp hy
 have c0:=e5 i y 0 hy (by omega)
 have c1:=e5 i y 1 hy (by omega)
 have c2:=e5 i y 2 hy (by omega)
 have c3:=e5 i y 3 hy (by omega)
 have c4:=e5 i y 4 hy (by omega)
 refine ⟨by omega,c0,c1,c2,c3,c4,?_⟩
 apply List.ext_getElem?
 intro j
 by_cases hj:j<5
 ·rw [List.getElem?_take_of_lt hj,List.getElem?_drop,e5 i y j hy hj]
 ·rw [List.getElem?_eq_none (by rw [List.length_take];omega),List.getElem?_eq_none (by rw [Jp.c_len];omega)]
theorem Xy (hv:JVp g b J p m fa s out pa oa) (hl:s.ps.length≤1000):call tb prim Cw [.ptr J 0] bar g=some (.int .i64 (Bw s.ps),g):=by
 refine AQ NH (AZ rfl rfl (BJ ?_))
 by_cases hne:s.ps=[]
 ·have h0:s.ps.length=0:=by rw [hne];rfl
  have hb:Bw s.ps=0:=by rw [hne];rfl
  rw [hb]
  simp [f_check_judge_base,AO,go_sem,AN,AM,AA,AE,AD,AC,AV.free.freeL,AV.free,AF,AH,hv.cell,AG,hv.os.len,h0]
 ·obtain ⟨id,all,x,hpa,h1,h2,h3,h4,h5,h6,h7,h8,h9,h10,h11⟩:=hv.last hne
  obtain ⟨q1,q2,q3,q4,q5,q6,q7⟩:=Gb (List.length_pos_iff.mpr hne) hl
  have hb:Bw s.ps=x.base:=by unfold Bw;rw [h8]
  rw [hb]
  have hf:=h11 _ _ h6
  have hpos:=List.length_pos_iff.mpr hne
  subst hpa
  simp [f_check_judge_base,AO,go_sem,AN,AM,AA,AE,AD,AC,AV.free.freeL,AV.free,AF,AH,hv.cell,AG,q1,q2,q3,q4,AJ,h3,hf,hne]
theorem JVp.mono (hv:JVp g b J p m fa s out pa oa) {h:H} (hn:g.n≤h.n) (hf:∀ j,j<g.n→h.get j=g.get j):JVp h b J p m fa s out pa oa where
 cell:=by rw [hf J hv.Jn];exact hv.cell
 bJ:=hv.bJ
 Jn:=by have:=hv.Jn;omega
 os:=hv.os.mono hn (fun j hj=>hf j (hv.os.at_lt hj).2)
 oo:=hv.oo.mono hn (fun j hj=>hf j (hv.oo.at_lt hj).2)
 pJ:=hv.pJ
 oJ:=hv.oJ
 ap:=hv.ap
theorem JVp.seth (hv:JVp g b J p m fa s out pa oa) (x:Int):JVp (g.set J (.cells [.int .i64 p,.int .i64 m,fa,.int .i64 x,pa,oa] 0)) b J p m fa ⟨x,s.ps⟩ out pa oa where
 cell:=by rw [AU,if_pos rfl]
 bJ:=hv.bJ
 Jn:=hv.Jn
 os:=hv.os.set _ hv.pJ
 oo:=hv.oo.set _ hv.oJ
 pJ:=hv.pJ
 oJ:=hv.oJ
 ap:=hv.ap
theorem Uh (hbb:bar≤b) (hb:b≤g.n) (hv:JVp g b J p m fa s out pa oa) (hl:s.ps.length≤1000) (hne:s.ps≠[]):∃ x g' pa',s.ps.getLast? = some x∧call tb prim DR [.ptr J 0] bar g=some (.agg x.c,g')∧JVp g' b J p m fa ⟨s.h,s.ps.dropLast⟩ out pa' oa∧g.n≤g'.n∧∀ j,j<b→g'.get j=g.get j:=by
 obtain ⟨id,all,x,hpa,h1,h2,h3,h4,h5,h6,h7,h8,h9,h10,h11⟩:=hv.last hne
 refine ⟨x,?_⟩
 suffices hw:∃ r g',BK (call tb prim) f_check_judge_pop [.ptr J 0] bar g=some (r,g')∧(r=.agg x.c∧∃ pa',JVp g' b J p m fa ⟨s.h,s.ps.dropLast⟩ out pa' oa∧g.n≤g'.n∧∀ j,j<b→g'.get j=g.get j) by
  obtain ⟨r,g',c1,rfl,pa',c2⟩:=hw;exact ⟨g',pa',h8,AQ OI c1,c2⟩
 refine Aj rfl rfl fun K hK=>?_
 obtain ⟨q1,q2,q3,q4,q5,q6,q7⟩:=Gb (List.length_pos_iff.mpr hne) hl
 obtain ⟨f0,f1,f2,f3,f4,f5,f6⟩:=h11 _ _ h6
 have hJn:=hv.Jn
 have hbJ:=hv.bJ
 have n1:J≠g.n:=by omega
 have n2:J≠g.n+1:=by omega
 have n3:id≠g.n:=by omega
 have n4:id≠g.n+1:=by omega
 have n5:g.n+1≠J:=by omega
 have n6:g.n≠J:=by omega
 have hbg:bar≤g.n:=by omega
 have hbg1:bar≤g.n+1:=by omega
 have hbJ':bar≤J:=by omega
 subst hpa
 have hcl:x.c=[.bool x.loop,.bool x.other,.bool x.left,.int .i64 x.base,.int .i64 x.fin]:=rfl
 rw [hcl] at f6
 simp [f_check_judge_pop,AO,go_sem,AB,hbg]
 refine ⟨⟨?_,?_,?_⟩,?_⟩
 ·refine Ab rfl ?_
  simp [An,Ai,Aa,AS,AT,List.take,List.take_succ_cons,List.take_zero,go_sem,AB,hv.cell,AG,n1,n2,n3,n4,q1,q2,q3,AJ,h3,f0,f6]
 ·refine Ab rfl ?_
  simp [An,Ai,Aa,AS,AT,List.take,List.take_succ_cons,List.take_zero,go_sem,AB,hv.cell,AG,n1,n2,n3,n4,q1,q2,q3,AJ,h3,f0,f6]
 ·refine Ab rfl ?_
  simp [An,Ai,Aa,AS,AT,List.take,List.take_succ_cons,List.take_zero,go_sem,AB,hv.cell,AG,n1,n2,n3,n4,q1,q2,q3,AJ,h3,f0,f6]
 ·simp [go_sem,AB,AN,AM,AA,AE,AD,AC,AV.free.freeL,AV.free,AF,AH,hv.cell,AG,n1,n2,n3,n4,n5,n6,q1,q2,q3,q5,q6,q7,AJ,h3,f0,f6,hbg,hbg1,hbJ',IS,BI,Ap,AY,BL,eo]
  refine ⟨_,_,⟨rfl,rfl⟩,hK _ _ ⟨rfl,.sl id 0 5 (s.ps.length - 1) false,?_,?_,?_⟩⟩
  ·have hfr:∀ a c d e,∀ j,j<g.n→j≠J→(((((g.alloc a).alloc a).set (g.n+1) c).set J d).set g.n e).get j=g.get j:=fun a c d e j q1 q2=>by
    rw [AI (by omega),AI q2,AI (by omega),AK,AP,if_neg (by omega),AK,if_neg (by omega)]
   exact {
    cell:=by rw [AI n1,AU,if_pos rfl]
    bJ:=hv.bJ
    Jn:=by simp only [AW,AP];omega
    os:=h9 _ (by simp only [AW,AP];omega) (hfr _ _ _ _ id h2 h4)
    oo:=hv.oo.mono (by simp only [AW,AP];omega) (fun j hj=>hfr _ _ _ _ j (hv.oo.at_lt hj).2 (fun e=>hv.oJ (e ▸ hj)))
    pJ:=h4
    oJ:=hv.oJ
    ap:=fun j e1 e2=>by cases e1;exact h5 e2 }
  ·simp only [AW,AP];omega
  ·intro j hj
   rw [AI (by omega),AI (by omega),AI (by omega),AK,AP,if_neg (by omega),AK,if_neg (by omega)]
end
end Go.Ev
namespace Go.Ev
open Go
section
variable {bar b:Nat} {g:H} {J:Nat} {p m:Int} {fa:AV} {s:Js} {out:List Int}
def JR (g:H) (b J:Nat) (p m:Int) (fa:AV) (out:List Int) (x:Int × Js) (r:AV) (g':H):Prop:=r=.int .i64 x.1∧g.n≤g'.n∧(∀ j,j<b→g'.get j=g.get j)∧(x.1=0→JV g' b J p m fa x.2 out)
theorem FP {a c:Int} (h:a≠c):(a != c)=true:=by simpa using h
theorem FU {a c:Int} (h:a=c):(a != c)=false:=by simpa using h
theorem Wg (hbb:bar≤b) (hb:b≤g.n) (hv:JV g b J p m fa s out) (hl:s.ps.length≤1000) (hne:s.ps≠[]):∃ r g',call tb prim Di [.ptr J 0] bar g=some (r,g')∧JR g b J p m fa out (Al 59 s) r g':=by
 suffices hw:∃ r g',BK (call tb prim) f_check_judge_endIf [.ptr J 0] bar g=some (r,g')∧JR g b J p m fa out (Al 59 s) r g' by
  obtain ⟨r,h',h1,h2⟩:=hw;exact ⟨r,h',AQ MX h1,h2⟩
 refine Aj rfl rfl fun K hK=>?_
 obtain ⟨pa,oa,hv⟩:=hv
 obtain ⟨x,g1,pa',hx,hc,hv1,hn1,hf1⟩:=Uh hbb hb hv hl hne
 have hj:Al 59 s=if x.other then (if s.h≠-1∧x.fin≠-1∧s.h≠x.fin then (14,s) else (0,⟨max s.h x.fin,s.ps.dropLast⟩)) else (if s.h≠-1∧s.h≠x.base then (14,s) else (0,⟨x.base,s.ps.dropLast⟩)):=by
  simp [Al,hx]
 have hJn:=hv1.Jn
 have hbJ:bar≤J:=by have:=hv1.bJ;omega
 have n1:J≠g1.n:=by omega
 have n2:g1.n≠J:=by omega
 have hbg:bar≤g1.n:=by omega
 have hcl:x.c=[.bool x.loop,.bool x.other,.bool x.left,.int .i64 x.base,.int .i64 x.fin]:=rfl
 have hv2:JVp ((g1.alloc (.cells [.bool false,.bool false,.bool false,.int .i64 0,.int .i64 0] 0)).set g1.n (.cells x.c 0)) b J p m fa ⟨s.h,s.ps.dropLast⟩ out pa' oa:=hv1.mono (by simp [AW,AP]) (fun j hj=>by rw [AI (by omega),AK,if_neg (by omega)])
 have hfr:∀ c d e j,j<b→(((g1.alloc c).set g1.n d).set J e).get j=g.get j:=fun c d e j hj=>by
  rw [AI (by have:=hv1.bJ;omega),AI (by omega),AK,if_neg (by omega),hf1 j hj]
 have hfr0:∀ c d j,j<b→((g1.alloc c).set g1.n d).get j=g.get j:=fun c d j hj=>by
  rw [AI (by omega),AK,if_neg (by omega),hf1 j hj]
 rw [hj] at hK
 rw [hcl] at hc hv2
 cases ho:x.other with
 | false =>
  rw [ho] at hK hv2 hc
  simp only [Bool.false_eq_true,if_false] at hK
  have hgood:¬ (s.h≠-1∧s.h≠x.base)→K (.int .i64 0) (((g1.alloc (.cells [.bool false,.bool false,.bool false,.int .i64 0,.int .i64 0] 0)).set g1.n (.cells [.bool x.loop,.bool false,.bool x.left,.int .i64 x.base,.int .i64 x.fin] 0)).set J (.cells [.int .i64 p,.int .i64 m,fa,.int .i64 x.base,pa',oa] 0)):=fun hc2=>by
   refine hK _ _ ?_
   rw [if_neg hc2]
   exact ⟨rfl,by simp only [AW,AP];omega,fun j hj=>hfr _ _ _ j hj,fun _=>⟨pa',oa,hv2.seth x.base⟩⟩
  by_cases c1:s.h=-1
  ·have d1:=FU c1
   simp [f_check_judge_endIf,AO,go_sem,AB,AN,AM,AA,AE,AD,AC,AV.free.freeL,AV.free,AF,AH,hc,hbg,hbJ,n1,n2,hv1.cell,AG,IS,Gs,c1]
   exact ⟨_,_,⟨rfl,rfl⟩,hgood (fun e=>e.1 c1)⟩
  ·have d1:=FP c1
   by_cases c2:s.h=x.base
   ·have d2:=FU c2
    simp [f_check_judge_endIf,AO,go_sem,AB,AN,AM,AA,AE,AD,AC,AV.free.freeL,AV.free,AF,AH,hc,hbg,hbJ,n1,n2,hv1.cell,AG,IS,Gs,d1,d2]
    exact ⟨_,_,⟨rfl,rfl⟩,hgood (fun e=>e.2 c2)⟩
   ·have d2:=FP c2
    rw [if_pos ⟨c1,c2⟩] at hK
    simp [f_check_judge_endIf,AO,go_sem,AB,AN,AM,AA,AE,AD,AC,AV.free.freeL,AV.free,AF,AH,hc,hbg,hbJ,n1,n2,hv1.cell,AG,IS,Gs,d1,d2]
    exact ⟨_,_,⟨rfl,rfl⟩,hK _ _ ⟨rfl,by simp only [AW,AP];omega,fun j hj=>hfr0 _ _ j hj,fun e=>by cases e⟩⟩
 | true =>
  rw [ho] at hK hv2 hc
  simp only [if_true] at hK
  have hmx:(if x.fin > s.h then x.fin else s.h)=max s.h x.fin:=by split<;>omega
  have hgood:¬ (s.h≠-1∧x.fin≠-1∧s.h≠x.fin)→K (.int .i64 0) (((g1.alloc (.cells [.bool false,.bool false,.bool false,.int .i64 0,.int .i64 0] 0)).set g1.n (.cells [.bool x.loop,.bool true,.bool x.left,.int .i64 x.base,.int .i64 x.fin] 0)).set J (.cells [.int .i64 p,.int .i64 m,fa,.int .i64 (max s.h x.fin),pa',oa] 0)):=fun hc2=>by
   refine hK _ _ ?_
   rw [if_neg hc2]
   exact ⟨rfl,by simp only [AW,AP];omega,fun j hj=>hfr _ _ _ j hj,fun _=>⟨pa',oa,hv2.seth _⟩⟩
  rw [← hmx] at hgood
  by_cases c1:s.h=-1
  ·rw [c1] at hgood
   simp [f_check_judge_endIf,AO,go_sem,AB,AN,AM,AA,AE,AD,AC,AV.free.freeL,AV.free,AF,AH,hc,hbg,hbJ,n1,n2,hv1.cell,AG,IS,Gs,c1]
   exact ⟨_,_,⟨rfl,rfl⟩,hgood (fun e=>e.1 rfl)⟩
  ·have d1:=FP c1
   by_cases c2:x.fin=-1
   ·rw [c2] at hgood
    simp [f_check_judge_endIf,AO,go_sem,AB,AN,AM,AA,AE,AD,AC,AV.free.freeL,AV.free,AF,AH,hc,hbg,hbJ,n1,n2,hv1.cell,AG,IS,Gs,d1,c2]
    exact ⟨_,_,⟨rfl,rfl⟩,hgood (fun e=>e.2.1 rfl)⟩
   ·have d2:=FP c2
    by_cases c3:s.h=x.fin
    ·have d3:=FU c3
     simp [f_check_judge_endIf,AO,go_sem,AB,AN,AM,AA,AE,AD,AC,AV.free.freeL,AV.free,AF,AH,hc,hbg,hbJ,n1,n2,hv1.cell,AG,IS,Gs,d1,d2,d3]
     exact ⟨_,_,⟨rfl,rfl⟩,hgood (fun e=>e.2.2 c3)⟩
    ·have d3:=FP c3
     rw [if_pos ⟨c1,c2,c3⟩] at hK
     simp [f_check_judge_endIf,AO,go_sem,AB,AN,AM,AA,AE,AD,AC,AV.free.freeL,AV.free,AF,AH,hc,hbg,hbJ,n1,n2,hv1.cell,AG,IS,Gs,d1,d2,d3]
     exact ⟨_,_,⟨rfl,rfl⟩,hK _ _ ⟨rfl,by simp only [AW,AP];omega,fun j hj=>hfr0 _ _ j hj,fun e=>by cases e⟩⟩
theorem UE (hbb:bar≤b) (hb:b≤g.n) (hv:JV g b J p m fa s out) (hl:s.ps.length≤1000) (hne:s.ps≠[]):∃ r g',call tb prim Cy [.ptr J 0] bar g=some (r,g')∧JR g b J p m fa out (Al 93 s) r g':=by
 suffices hw:∃ r g',BK (call tb prim) f_check_judge_endLoop [.ptr J 0] bar g=some (r,g')∧JR g b J p m fa out (Al 93 s) r g' by
  obtain ⟨r,h',h1,h2⟩:=hw;exact ⟨r,h',AQ Kn h1,h2⟩
 refine Aj rfl rfl fun K hK=>?_
 obtain ⟨pa,oa,hv⟩:=hv
 obtain ⟨x,g1,pa',hx,hc,hv1,hn1,hf1⟩:=Uh hbb hb hv hl hne
 have hj:Al 93 s=if s.h≠-1∧s.h≠x.base then (14,s) else (0,⟨if x.left then x.base else -1,s.ps.dropLast⟩):=by
  simp [Al,hx]
 have hJn:=hv1.Jn
 have hbJ:bar≤J:=by have:=hv1.bJ;omega
 have n1:J≠g1.n:=by omega
 have n2:g1.n≠J:=by omega
 have hbg:bar≤g1.n:=by omega
 have hcl:x.c=[.bool x.loop,.bool x.other,.bool x.left,.int .i64 x.base,.int .i64 x.fin]:=rfl
 have hv2:JVp ((g1.alloc (.cells [.bool false,.bool false,.bool false,.int .i64 0,.int .i64 0] 0)).set g1.n (.cells x.c 0)) b J p m fa ⟨s.h,s.ps.dropLast⟩ out pa' oa:=hv1.mono (by simp [AW,AP]) (fun j hj=>by rw [AI (by omega),AK,if_neg (by omega)])
 have hfr0:∀ c d j,j<b→((g1.alloc c).set g1.n d).get j=g.get j:=fun c d j hj=>by
  rw [AI (by omega),AK,if_neg (by omega),hf1 j hj]
 have hset:∀ (h:H) c d,(h.set J c).set J d=h.set J d:=fun h c d=>by
  unfold H.set
  simp only
  congr 1
  funext j
  split<;>rfl
 rw [hj] at hK
 rw [hcl] at hc hv2
 by_cases hbad:s.h≠-1∧s.h≠x.base
 ·have d1:=FP hbad.1
  have d2:=FP hbad.2
  rw [if_pos hbad] at hK
  simp [f_check_judge_endLoop,AO,go_sem,AB,AN,AM,AA,AE,AD,AC,AV.free.freeL,AV.free,AF,AH,hc,hbg,hbJ,n1,n2,hv1.cell,AG,IS,Gs,d1,d2]
  exact ⟨_,_,⟨rfl,rfl⟩,hK _ _ ⟨rfl,by simp only [AW,AP];omega,fun j hj=>hfr0 _ _ j hj,fun e=>by cases e⟩⟩
 ·rw [if_neg hbad] at hK
  have hfr:∀ c d e f j,j<b→((((g1.alloc c).set g1.n d).set J e).set J f).get j=g.get j:=fun c d e f j hj=>by
   rw [AI (by have:=hv1.bJ;omega),AI (by have:=hv1.bJ;omega),hfr0 c d j hj]
  have hfr1:∀ c d e j,j<b→(((g1.alloc c).set g1.n d).set J e).get j=g.get j:=fun c d e j hj=>by
   rw [AI (by have:=hv1.bJ;omega),hfr0 c d j hj]
  cases hlf:x.left with
  | true =>
   rw [hlf] at hK hc hv2
   simp only [if_true] at hK
   have h3:=(hv2.seth (-1)).seth x.base
   by_cases c1:s.h=-1
   ·simp [f_check_judge_endLoop,AO,go_sem,AB,AN,AM,AA,AE,AD,AC,AV.free.freeL,AV.free,AF,AH,hc,hbg,hbJ,n1,n2,hv1.cell,AG,IS,Gs,c1]
    exact ⟨_,_,⟨rfl,rfl⟩,hK _ _ ⟨rfl,by simp only [AW,AP];omega,fun j hj=>hfr _ _ _ _ j hj,fun _=>⟨pa',oa,h3⟩⟩⟩
   ·have d1:=FP c1
    have d2:=FU (show s.h=x.base from Classical.byContradiction fun e=>hbad ⟨c1,e⟩)
    simp [f_check_judge_endLoop,AO,go_sem,AB,AN,AM,AA,AE,AD,AC,AV.free.freeL,AV.free,AF,AH,hc,hbg,hbJ,n1,n2,hv1.cell,AG,IS,Gs,d1,d2]
    exact ⟨_,_,⟨rfl,rfl⟩,hK _ _ ⟨rfl,by simp only [AW,AP];omega,fun j hj=>hfr _ _ _ _ j hj,fun _=>⟨pa',oa,h3⟩⟩⟩
  | false =>
   rw [hlf] at hK hc hv2
   simp only [Bool.false_eq_true,if_false] at hK
   have h3:=hv2.seth (-1)
   by_cases c1:s.h=-1
   ·simp [f_check_judge_endLoop,AO,go_sem,AB,AN,AM,AA,AE,AD,AC,AV.free.freeL,AV.free,AF,AH,hc,hbg,hbJ,n1,n2,hv1.cell,AG,IS,Gs,c1]
    exact ⟨_,_,⟨rfl,rfl⟩,hK _ _ ⟨rfl,by simp only [AW,AP];omega,fun j hj=>hfr1 _ _ _ j hj,fun _=>⟨pa',oa,h3⟩⟩⟩
   ·have d1:=FP c1
    have d2:=FU (show s.h=x.base from Classical.byContradiction fun e=>hbad ⟨c1,e⟩)
    simp [f_check_judge_endLoop,AO,go_sem,AB,AN,AM,AA,AE,AD,AC,AV.free.freeL,AV.free,AF,AH,hc,hbg,hbJ,n1,n2,hv1.cell,AG,IS,Gs,d1,d2]
    exact ⟨_,_,⟨rfl,rfl⟩,hK _ _ ⟨rfl,by simp only [AW,AP];omega,fun j hj=>hfr1 _ _ _ j hj,fun _=>⟨pa',oa,h3⟩⟩⟩
end
end Go.Ev
namespace Go.Ev
open Go
section
variable {bar b:Nat} {g:H} {J:Nat} {p m:Int} {fa:AV} {s:Js} {out:List Int}
theorem Gk:∀ (ps:List Jp) (n k:Nat),Bx ps n=some k→k<n∧∃ p,ps[k]? = some p∧p.loop=true
 | ps,0,k,h=>by simp [Bx] at h
 | ps,n+1,k,h=>by
  simp only [Bx] at h
  cases hp:ps[n]? with
  | none=>rw [hp] at h;simp at h
  | some p =>
   rw [hp] at h
   simp only at h
   split at h
   ·rename_i hl
    injection h with h
    subst h
    exact ⟨by omega,p,hp,hl⟩
   ·obtain ⟨h1,h2⟩:=Gk ps n k h
    exact ⟨by omega,h2⟩
theorem UF {pa oa:AV} (hv:JVp g b J p m fa s out pa oa) (hl:s.ps.length≤1000) (k0:Nat) (Q:Ex→Env→H→Prop) (hq:∀ e,e.get 0=some (.ptr J 0)→e.get 3=some (.int .i64 (k0:Nat))→Q (.exit 0) e g):∀ (n:Nat),n≤s.ps.length→Bx s.ps n=some k0 →
  CW (call tb prim) bar [0,3] Fl [(0,.ptr J 0),(3,.int .i64 ((n:Int) - 1))] g Q:=by
 intro n
 induction n with
 | zero=>intro _ h;simp [Bx] at h
 | succ k ih =>
  intro hn hll
  refine Ad Fl.eq_1 ?_
  have hne:s.ps≠[]:=List.length_pos_iff.mp (by omega)
  obtain ⟨id,all,_,hpa,h1,h2,h3,h4,h5,_,_,_,h9,h10,h11⟩:=hv.last hne
  have hk:k<s.ps.length:=by omega
  have hk':(k:Int)<(s.ps.length:Int):=by omega
  have hxk:s.ps[k]? = some s.ps[k]:=List.getElem?_eq_getElem hk
  obtain ⟨f0,f1,f2,f3,f4,f5,f6⟩:=h11 k _ hxk
  have hkk:((k+1:Nat):Int) - 1=(k:Int):=by omega
  rw [hkk]
  simp only [Bx,hxk] at hll
  subst hpa
  generalize s.ps[k]=x at *
  cases hlp:x.loop with
  | true =>
   rw [hlp,if_pos rfl] at hll
   injection hll with hll
   subst hll
   simp [go_sem,hv.cell,AG,AJ,hk,hk',h3,f1,hlp]
   exact hq _ rfl rfl
  | false =>
   rw [hlp] at hll
   simp only [Bool.false_eq_true,if_false] at hll
   have hw:IntKind.i64.wrap ((k:Int) - 1)=(k:Int) - 1:=BN (by omega) (by omega)
   simp [go_sem,hv.cell,AG,AJ,hk,hk',h3,f1,hlp,hw]
   exact ih (by omega) hll
theorem Wh (hbb:bar≤b) (hb:b≤g.n) (hv:JV g b J p m fa s out) (hl:s.ps.length≤1000) (hll:∃ k,Bx s.ps s.ps.length=some k):∃ r g',call tb prim Dj [.ptr J 0] bar g=some (r,g')∧JR g b J p m fa out (Al 126 s) r g':=by
 suffices hw:∃ r g',BK (call tb prim) f_check_judge_leave [.ptr J 0] bar g=some (r,g')∧JR g b J p m fa out (Al 126 s) r g' by
  obtain ⟨r,h',h1,h2⟩:=hw;exact ⟨r,h',AQ MY h1,h2⟩
 refine Aj rfl rfl fun K hK=>?_
 obtain ⟨pa,oa,hv⟩:=hv
 obtain ⟨k,hll⟩:=hll
 obtain ⟨hk,x,hx,hlp⟩:=Gk _ _ _ hll
 have hj:Al 126 s=if s.h≠x.base then (14,s) else (0,⟨-1,s.ps.set k ⟨x.loop,x.other,true,x.base,x.fin⟩⟩):=by
  simp only [Al,hll,hx]
  rfl
 rw [hj] at hK
 have hne:s.ps≠[]:=List.length_pos_iff.mp (by omega)
 have hpl:=List.length_pos_iff.mpr hne
 have hw:IntKind.i64.wrap ((s.ps.length:Int) - 1)=(s.ps.length:Int) - 1:=BN (by omega) (by omega)
 have hvl:=hv.os.len
 have hv0:=hv
 obtain ⟨id,all,_,hpa,h1,h2,h3,h4,h5,_,_,_,h9,h10,h11⟩:=hv.last hne
 obtain ⟨f0,f1,f2,f3,f4,f5,f6⟩:=h11 k _ hx
 have hk':(k:Int)<(s.ps.length:Int):=by omega
 have hbJ:bar≤J:=by have:=hv.bJ;omega
 have hbi:bar≤id:=by omega
 have hle:k*5+2+1≤all.length:=by omega
 have n1:J≠id:=fun e=>h4 e.symm
 simp [f_check_judge_leave,AO,go_sem,hv.cell,AG,hvl,hw]
 refine UF hv0 hl k _ (fun e q1 q2=>?_) s.ps.length (Nat.le_refl _) hll
 subst hpa
 by_cases c1:s.h=x.base
 ·have d1:=FU c1
  rw [if_neg (fun e=>e c1)] at hK
  have hos:=h10 k x ⟨x.loop,x.other,true,x.base,x.fin⟩ 2 [.bool true] ((g.set id (.cells (AL all (k*5+2) [.bool true]) 0)).set J (.cells [.int .i64 p,.int .i64 m,fa,.int .i64 (-1),.sl id 0 5 s.ps.length false,oa] 0)) hx (by simp) rfl (Jp.c_one _) (Nat.le_refl _) (by rw [AI h4,AU,if_pos rfl])
  simp [go_sem,AB,AN,AM,AA,AE,AD,AC,AV.free.freeL,AV.free,AF,AH,q1,q2,hv.cell,AG,AJ,hk,hk',h3,f4,d1,hbJ,hbi,hle,n1,Gs]
  refine ⟨_,_,⟨rfl,rfl⟩,hK _ _ ⟨rfl,Nat.le_refl _,fun j hj=>by rw [AI (by have:=hv.bJ;omega),AI (by omega)],fun _=>⟨.sl id 0 5 s.ps.length false,oa,?_⟩⟩⟩
  exact {
   cell:=by rw [AU,if_pos rfl]
   bJ:=hv.bJ
   Jn:=hv.Jn
   os:=hos
   oo:=(hv.oo.set _ h5).set _ hv.oJ
   pJ:=hv.pJ
   oJ:=hv.oJ
   ap:=hv.ap }
 ·have d1:=FP c1
  rw [if_pos c1] at hK
  simp [go_sem,AB,AN,AM,AA,AE,AD,AC,AV.free.freeL,AV.free,AF,AH,q1,q2,hv.cell,AG,AJ,hk,hk',h3,f4,d1]
  exact ⟨_,_,⟨rfl,rfl⟩,hK _ _ ⟨rfl,Nat.le_refl _,fun _ _=>rfl,fun e=>by cases e⟩⟩
theorem YB (sg:Int) (hbb:bar≤b) (hb:b≤g.n) (hv:JV g b J p m fa s out) (hl:s.ps.length≤900) (hpre:Qo sg s.ps) (hh:-100000≤s.h∧s.h≤100000):∃ r g',call tb prim Cz [.ptr J 0,.int .i32 sg] bar g=some (r,g')∧JR g b J p m fa out (Al sg s) r g':=by
 suffices hw:∃ r g',BK (call tb prim) f_check_judge_turn [.ptr J 0,.int .i32 sg] bar g=some (r,g')∧JR g b J p m fa out (Al sg s) r g' by
  obtain ⟨r,h',h1,h2⟩:=hw;exact ⟨r,h',AQ NI h1,h2⟩
 refine Aj rfl rfl fun K hK=>?_
 obtain ⟨pre1,pre2,pre3,pre4⟩:=hpre
 have hv0:=hv
 obtain ⟨pa,oa,hv⟩:=hv
 have hJn:=hv.Jn
 have hbJ:bar≤J:=by have:=hv.bJ;omega
 by_cases c1:sg=63∨sg=91
 ·have hj:Al sg s=(0,⟨s.h,s.ps++[⟨sg == 91,false,false,s.h,0⟩]⟩):=by simp only [Al];rw [if_pos c1]
  rw [hj] at hK
  obtain ⟨a',g',e1,e2,e3,e4,e5⟩:=hv.os.app' hb hbb 24 (Jp.c ⟨sg == 91,false,false,s.h,0⟩) rfl (Jp.c_one _) (by omega) (by omega) (by omega)
  simp only [Jp.c] at e1
  have hgJ:g'.get J=some (.cells [.int .i64 p,.int .i64 m,fa,.int .i64 s.h,pa,oa] 0):=by rw [e4 J hJn hv.pJ];exact hv.cell
  have n1:J≠g.n:=by omega
  have hfr:∀ c j,j<b→(g'.set J c).get j=g.get j:=fun c j hj=>by rw [AI (by have:=hv.bJ;omega),e4 j (by omega) (fun q=>by have:=hv.os.at_lt q;omega)]
  have haJ:¬ a'.isAt J:=fun q=>by have:=e5 _ q;omega
  have hfin:JV (g'.set J (.cells [.int .i64 p,.int .i64 m,fa,.int .i64 s.h,a',oa] 0)) b J p m fa ⟨s.h,s.ps++[⟨sg == 91,false,false,s.h,0⟩]⟩ out:=⟨a',oa,{
   cell:=by rw [AU,if_pos rfl]
   bJ:=hv.bJ
   Jn:=by simp only [AW];omega
   os:=by have:=e2.set (.cells [.int .i64 p,.int .i64 m,fa,.int .i64 s.h,a',oa] 0) haJ;simpa [Jp.c] using this
   oo:=(hv.oo.mono (by omega) (fun j q=>e4 j (hv.oo.at_lt q).2 (fun q2=>hv.ap j q2 q))).set _ hv.oJ
   pJ:=haJ
   oJ:=hv.oJ
   ap:=fun j q1 q2=>by have:=e5 _ q1;have:=hv.oo.at_lt q2;omega }⟩
  rcases c1 with rfl | rfl
  ·simp [f_check_judge_turn,AO,go_sem,AB,AN,AM,AA,AE,AD,AC,AV.free.freeL,AV.free,AF,AH]
   refine ⟨?_,?_⟩
   ·refine Ab rfl ?_
    simp [An,Ai,Aa,AS,AT,List.take,List.take_succ_cons,List.take_zero,go_sem,AB,hv.cell,AG,AX,Af,AL,n1]
   ·have e1':HM bar 5 24 (some pa) (some (.sl g.n 0 5 1 true)) (g.alloc (.cells [.bool false,.bool false,.bool false,.int .i64 s.h,.int .i64 0] 0))=some (a',g'):=e1
    simp [go_sem,AB,AN,AM,AA,AE,AD,AC,AV.free.freeL,AV.free,AF,AH,hv.cell,AG,AX,Af,AL,e1',hgJ,hbJ,e2.one]
    exact ⟨_,_,⟨rfl,rfl⟩,hK _ _ ⟨rfl,by simp only [AW];omega,fun j hj=>hfr _ j hj,fun _=>hfin⟩⟩
  ·simp [f_check_judge_turn,AO,go_sem,AB,AN,AM,AA,AE,AD,AC,AV.free.freeL,AV.free,AF,AH]
   refine ⟨?_,?_⟩
   ·refine Ab rfl ?_
    simp [An,Ai,Aa,AS,AT,List.take,List.take_succ_cons,List.take_zero,go_sem,AB,hv.cell,AG,AX,Af,AL,n1]
   ·have e1':HM bar 5 24 (some pa) (some (.sl g.n 0 5 1 true)) (g.alloc (.cells [.bool true,.bool false,.bool false,.int .i64 s.h,.int .i64 0] 0))=some (a',g'):=e1
    simp [go_sem,AB,AN,AM,AA,AE,AD,AC,AV.free.freeL,AV.free,AF,AH,hv.cell,AG,AX,Af,AL,e1',hgJ,hbJ,e2.one]
    exact ⟨_,_,⟨rfl,rfl⟩,hK _ _ ⟨rfl,by simp only [AW];omega,fun j hj=>hfr _ j hj,fun _=>hfin⟩⟩
 by_cases c2:sg=58
 ·subst c2
  obtain ⟨x,hx,_,_⟩:=pre1 rfl
  have hne:s.ps≠[]:=fun e=>by rw [e] at hx;cases hx
  have hj:Al 58 s=(0,⟨x.base,s.ps.set (s.ps.length - 1) ⟨x.loop,true,x.left,x.base,s.h⟩⟩):=by simp [Al,hx]
  rw [hj] at hK
  obtain ⟨id,all,x',hpa,h1,h2,h3,h4,h5,h6,h7,h8,h9,h10,h11⟩:=hv.last hne
  rw [hx] at h8
  injection h8 with h8
  subst h8
  obtain ⟨f0,f1,f2,f3,f4,f5,f6⟩:=h11 _ _ h6
  obtain ⟨q1,q2,q3,q4,q5,q6,q7⟩:=Gb (List.length_pos_iff.mpr hne) (by omega)
  have n1:J≠id:=fun e=>h4 e.symm
  have hbi:bar≤id:=by omega
  have hle1:(s.ps.length - 1)*5+1+1≤all.length:=by omega
  have hle2:(s.ps.length - 1)*5+4+1≤(AL all ((s.ps.length - 1)*5+1) [.bool true]).length:=by simp [AL];omega
  have hsp1:∀ v,(AL all ((s.ps.length - 1)*5+1) [v])[(s.ps.length - 1)*5+3]? = all[(s.ps.length - 1)*5+3]?:=fun v=>by
   unfold AL
   rw [List.append_assoc,List.getElem?_append_right (by simp;omega),List.getElem?_append_right (by simp;omega),List.getElem?_drop]
   congr 1
   simp;omega
  have hsp2:∀ v w,(AL (AL all ((s.ps.length - 1)*5+1) [v]) ((s.ps.length - 1)*5+4) [w])[(s.ps.length - 1)*5+3]? = (AL all ((s.ps.length - 1)*5+1) [v])[(s.ps.length - 1)*5+3]?:=fun v w=>by
   conv=>lhs;unfold AL
   rw [List.append_assoc,List.getElem?_append_left (by simp [AL];omega),List.getElem?_take_of_lt (by omega)]
   rfl
  have hb3:(AL (AL all ((s.ps.length - 1)*5+1) [.bool true]) ((s.ps.length - 1)*5+4) [.int .i64 s.h])[(s.ps.length - 1)*5+3]? = some (.int .i64 x.base):=by rw [hsp2,hsp1];exact f4
  have hos1:=h10 (s.ps.length - 1) x ⟨x.loop,true,x.left,x.base,x.fin⟩ 1 [.bool true] (g.set id (.cells (AL all ((s.ps.length - 1)*5+1) [.bool true]) 0)) h6 (by simp) rfl (Jp.c_one _) (Nat.le_refl _) (by rw [AU,if_pos rfl])
  have hne1:s.ps.set (s.ps.length - 1) ⟨x.loop,true,x.left,x.base,x.fin⟩≠[]:=List.length_pos_iff.mp (by rw [List.length_set];exact List.length_pos_iff.mpr hne)
  obtain ⟨id',all',hpa',_,_,h3',_,_,_,h10'⟩:=hos1.elems Jp.c_len hne1
  rw [hpa] at hpa'
  injection hpa' with hid
  subst hid
  rw [AU,if_pos rfl] at h3'
  injection h3' with h3'
  injection h3' with h3'
  subst h3'
  have hos2:=h10' (s.ps.length - 1) ⟨x.loop,true,x.left,x.base,x.fin⟩ ⟨x.loop,true,x.left,x.base,s.h⟩ 4 [.int .i64 s.h] (((g.set id (.cells (AL all ((s.ps.length - 1)*5+1) [.bool true]) 0)).set id (.cells (AL (AL all ((s.ps.length - 1)*5+1) [.bool true]) ((s.ps.length - 1)*5+4) [.int .i64 s.h]) 0)).set J (.cells [.int .i64 p,.int .i64 m,fa,.int .i64 x.base,pa,oa] 0))
   (by rw [List.getElem?_set,if_pos rfl,if_pos q2]) (by simp) rfl (Jp.c_one _) (Nat.le_refl _) (by rw [AI h4,AU,if_pos rfl])
  rw [List.set_set] at hos2
  subst hpa
  simp [f_check_judge_turn,AO,go_sem,AB,AN,AM,AA,AE,AD,AC,AV.free.freeL,AV.free,AF,AH,hv.cell,AG,q1,q2,q3,q4,AJ,h3,n1,hbi,hle1,hle2,hb3,hbJ,Gs]
  refine ⟨_,_,⟨rfl,rfl⟩,hK _ _ ⟨rfl,Nat.le_refl _,fun j hj=>by rw [AI (by have:=hv.bJ;omega),AI (by omega),AI (by omega)],fun _=>⟨.sl id 0 5 s.ps.length false,oa,?_⟩⟩⟩
  exact {
   cell:=by rw [AU,if_pos rfl]
   bJ:=hv.bJ
   Jn:=hv.Jn
   os:=hos2
   oo:=((hv.oo.set _ h5).set _ h5).set _ hv.oJ
   pJ:=hv.pJ
   oJ:=hv.oJ
   ap:=hv.ap }
 have d1:(sg == 63)=false:=by simp;omega
 have d2:(sg == 91)=false:=by simp;omega
 have d3:(sg == 58)=false:=by simpa using c2
 by_cases c3:sg=59
 ·subst c3
  obtain ⟨x,hx,_⟩:=pre2 rfl
  obtain ⟨r,g',e1,e2⟩:=Wg hbb hb hv0 (by omega) (fun e=>by rw [e] at hx;cases hx)
  simp [f_check_judge_turn,AO,go_sem,AB,AN,AM,AA,AE,AD,AC,AV.free.freeL,AV.free,AF,AH,e1]
  exact ⟨_,_,⟨rfl,rfl⟩,hK _ _ e2⟩
 by_cases c4:sg=93
 ·subst c4
  obtain ⟨x,hx,_⟩:=pre3 rfl
  obtain ⟨r,g',e1,e2⟩:=UE hbb hb hv0 (by omega) (fun e=>by rw [e] at hx;cases hx)
  simp [f_check_judge_turn,AO,go_sem,AB,AN,AM,AA,AE,AD,AC,AV.free.freeL,AV.free,AF,AH,e1]
  exact ⟨_,_,⟨rfl,rfl⟩,hK _ _ e2⟩
 by_cases c5:sg=126
 ·subst c5
  obtain ⟨r,g',e1,e2⟩:=Wh hbb hb hv0 (by omega) (pre4 rfl)
  simp [f_check_judge_turn,AO,go_sem,AB,AN,AM,AA,AE,AD,AC,AV.free.freeL,AV.free,AF,AH,e1]
  exact ⟨_,_,⟨rfl,rfl⟩,hK _ _ e2⟩
 have d4:(sg == 59)=false:=by simpa using c3
 have d5:(sg == 93)=false:=by simpa using c4
 have d6:(sg == 126)=false:=by simpa using c5
 by_cases c6:sg=161
 ·subst c6
  have hj:Al 161 s=(0,⟨-1,s.ps⟩):=by simp [Al]
  rw [hj] at hK
  simp [f_check_judge_turn,AO,go_sem,AB,AN,AM,AA,AE,AD,AC,AV.free.freeL,AV.free,AF,AH,hv.cell,AG,hbJ,Gs]
  exact ⟨_,_,⟨rfl,rfl⟩,hK _ _ ⟨rfl,Nat.le_refl _,fun j hj=>by rw [AI (by have:=hv.bJ;omega)],fun _=>⟨pa,oa,hv.seth (-1)⟩⟩⟩
 ·have d7:(sg == 161)=false:=by simpa using c6
  have hj:Al sg s=(0,s):=by unfold Al;rw [if_neg c1,if_neg c2,if_neg c3,if_neg c4,if_neg c5,if_neg c6]
  rw [hj] at hK
  simp [f_check_judge_turn,AO,go_sem,AB,AN,AM,AA,AE,AD,AC,AV.free.freeL,AV.free,AF,AH,d1,d2,d3,d4,d5,d6,d7]
  exact ⟨_,_,⟨rfl,rfl⟩,hK _ _ ⟨rfl,Nat.le_refl _,fun _ _=>rfl,fun _=>hv0⟩⟩
end
end Go.Ev
namespace Go.Ev
open Go
section
variable {bar b:Nat} {g:H} {J:Nat} {p m:Int} {fa:AV} {s:Js} {out:List Int}
theorem KJ (hok:Sa s):0≤Bw s.ps∧Bw s.ps≤64:=by
 unfold Bw
 cases h:s.ps.getLast? with
 | none=>simp
 | some x=>have:=hok.2.2.1 x (List.mem_of_getLast? h);exact ⟨this.1,this.2.1⟩
theorem Wi (fs:List Fn) (t:Tok) (h0:H) (hfv:FV h0 fa fs) (h0n:h0.n≤b) (hag:Ag h0.n h0 g) (hbb:bar≤b) (hb:b≤g.n) (hv:JV g b J p m fa s out) (hok:Sa s) (hl:s.ps.length≤800) (hol:out.length≤5000) (hpre:Qo t.sign s.ps) :
  ∃ r g',call tb prim Dk [.ptr J 0,.agg t.cells] bar g=some (r,g')∧JR g b J p m fa (out++[s.h]) (BC fs t s) r g':=by
 suffices hw:∃ r g',BK (call tb prim) f_check_judge_token [.ptr J 0,.agg t.cells] bar g=some (r,g')∧JR g b J p m fa (out++[s.h]) (BC fs t s) r g' by
  obtain ⟨r,h',h1,h2⟩:=hw;exact ⟨r,h',AQ MZ h1,h2⟩
 refine Aj rfl rfl fun K hK=>?_
 obtain ⟨pa,oa,hv⟩:=hv
 have hJn:=hv.Jn
 have hbJ:bar≤J:=by have:=hv.bJ;omega
 have n1:J≠g.n:=by omega
 have n2:J≠g.n+1:=by omega
 have hvA:JVp (g.alloc (.cells t.cells 0)) b J p m fa s out pa oa:=hv.mono (by simp [AP]) (fun j hj=>by rw [AK,if_neg (by omega)])
 obtain ⟨a',g1,e1,e2,e3,e4,e5⟩:=hvA.oo.app' (by simp only [AP];omega) hbb 8 (i64c s.h) rfl rfl (by omega) (by omega) (by omega)
 simp only [AP] at e1 e3 e4 e5
 simp only [i64c] at e1
 have hgJ:g1.get J=some (.cells [.int .i64 p,.int .i64 m,fa,.int .i64 s.h,pa,oa] 0):=by rw [e4 J (by omega) hv.oJ];exact hvA.cell
 have hgt:g1.get g.n=some (.cells t.cells 0):=by rw [e4 g.n (by omega) (fun q=>by have:=hv.oo.at_lt q;omega),AK,if_pos rfl]
 have haJ:¬ a'.isAt J:=fun q=>by have:=e5 _ q;omega
 have hfr1:∀ j,j<g.n→j≠J→¬ oa.isAt j→g1.get j=g.get j:=fun j q1 q2 q3=>by rw [e4 j (by omega) q3,AK,if_neg (by omega)]
 have hv1:JVp (g1.set J (.cells [.int .i64 p,.int .i64 m,fa,.int .i64 s.h,pa,a'] 0)) b J p m fa s (out++[s.h]) pa a':={
   cell:=by rw [AU,if_pos rfl]
   bJ:=hv.bJ
   Jn:=by simp only [AW];omega
   os:=(hv.os.mono (by omega) (fun j q=>hfr1 j (hv.os.at_lt q).2 (fun e=>hv.pJ (e ▸ q)) (fun q2=>hv.ap j q q2))).set _ hv.pJ
   oo:=by have:=e2.set (.cells [.int .i64 p,.int .i64 m,fa,.int .i64 s.h,pa,a'] 0) haJ;simpa [i64c] using this
   pJ:=hv.pJ
   oJ:=haJ
   ap:=fun j q1 q2=>by have:=e5 _ q2;have:=hv.os.at_lt q1;omega }
 have hfrb:∀ c j,j<b→(g1.set J c).get j=g.get j:=fun c j hj=>by
  rw [AI (by have:=hv.bJ;omega),hfr1 j (by omega) (by have:=hv.bJ;omega) (fun q=>by have:=hv.oo.at_lt q;omega)]
 have hg2t:(g1.set J (.cells [.int .i64 p,.int .i64 m,fa,.int .i64 s.h,pa,a'] 0)).get g.n=some (.cells t.cells 0):=by rw [AI (by omega)];exact hgt
 have hg2n:(g1.set J (.cells [.int .i64 p,.int .i64 m,fa,.int .i64 s.h,pa,a'] 0)).n=g.n+3:=by simp only [AW];omega
 have hfone:=Vw.one hfv
 have hfv2:FV (g1.set J (.cells [.int .i64 p,.int .i64 m,fa,.int .i64 s.h,pa,a'] 0)) fa fs:=hfv.mono ⟨by have:=hag.1;omega,fun j hj=>by rw [hfrb _ j (by omega),hag.2 j hj]⟩ (Nat.le_refl _)
 have htk:call tb prim Eu [.agg [.int .i64 p,.int .i64 m,fa],.agg t.cells] bar (g1.set J (.cells [.int .i64 p,.int .i64 m,fa,.int .i64 s.h,pa,a'] 0))=_:=Qi fs fa t.sign t.n t.name p m hfv2
 have hbase:call tb prim Cw [.ptr J 0] bar (g1.set J (.cells [.int .i64 p,.int .i64 m,fa,.int .i64 s.h,pa,a'] 0))=some (.int .i64 (Bw s.ps),_):=Xy hv1 (by omega)
 have hcell2:=hv1.cell
 obtain ⟨b1,b2⟩:=KJ hok
 obtain ⟨b3,b4,b5,b6⟩:=Ih fs t.sign t.name
 obtain ⟨b7,b8,_,_⟩:=hok
 have htc:t.cells=[.int .i32 t.sign,.int .i64 t.n,.int .i32 t.name]:=rfl
 simp only [htc] at hg2t htk e1 ⊢
 have hjt:BC fs t s=_:=rfl
 have hturn:∀ (x:Int) (gx:H),gx=(g1.set J (.cells [.int .i64 p,.int .i64 m,fa,.int .i64 x,pa,a'] 0))→-100000≤x∧x≤100000→∃ r g',call tb prim Cz [.ptr J 0,.int .i32 t.sign] bar gx=some (r,g')∧JR g b J p m fa (out++[s.h]) (Al t.sign ⟨x,s.ps⟩) r g':=fun x gx hgx hx=>by
  have hset:(g1.set J (.cells [.int .i64 p,.int .i64 m,fa,.int .i64 s.h,pa,a'] 0)).set J (.cells [.int .i64 p,.int .i64 m,fa,.int .i64 x,pa,a'] 0)=gx:=by
   rw [hgx];unfold H.set;simp only;congr 1;funext j;split<;>rfl
  have hvx:JV gx b J p m fa ⟨x,s.ps⟩ (out++[s.h]):=⟨pa,a',by rw [← hset];exact hv1.seth x⟩
  have hgxn:gx.n=g.n+3:=by rw [hgx];simp only [AW];omega
  obtain ⟨r,g',q1,q2,q3,q4,q5⟩:=YB (s:=⟨x,s.ps⟩) t.sign hbb (by omega) hvx (by simp only;omega) hpre hx
  exact ⟨r,g',q1,q2,by omega,fun j hj=>by rw [q4 j hj,hgx];exact hfrb _ j hj,q5⟩
 generalize hg2:g1.set J (.cells [.int .i64 p,.int .i64 m,fa,.int .i64 s.h,pa,a'] 0)=g2 at *
 generalize htv:Am fs t.sign t.name=tv at *
 simp [f_check_judge_token,AO,go_sem,AB,AN,AM,AA,AE,AD,AC,AV.free.freeL,AV.free,AF,AH]
 refine ⟨?_,?_⟩
 ·refine Ab rfl ?_
  simp [An,Ai,Aa,AS,AT,List.take,List.take_succ_cons,List.take_zero,go_sem,AB,hv.cell,AG,AX,Af,ID,n1,n2]
 ·simp [go_sem,AB,AN,AM,AA,AE,AD,AC,AV.free.freeL,AV.free,AF,AH,hv.cell,AG,AX,Af,ID,n1,n2,e1,hgJ,hbJ,e2.one,ep,hg2,hcell2,hg2t]
  have hK14:s.h≠-1→tv.2.2=true→(s.h - Bw s.ps<tv.1∨64<s.h - tv.1+tv.2.1)→K (.int .i64 14) g2:=fun a1 a2 a3=>by
   refine hK _ _ ?_
   have:BC fs t s=(14,s):=by unfold BC;rw [htv,if_neg (fun e=>a1 e.1),if_neg (by simp [a2]),if_neg a1,if_pos a3]
   rw [this]
   exact ⟨rfl,by omega,fun j hj=>by rw [← hg2];exact hfrb _ j hj,fun e=>by cases e⟩
  have hK22:¬ (s.h=-1∧Cf t.sign=false)→tv.2.2=false→K (.int .i64 22) g2:=fun a1 a2=>by
   refine hK _ _ ?_
   have:BC fs t s=(22,s):=by unfold BC;rw [htv,if_neg a1,if_pos a2]
   rw [this]
   exact ⟨rfl,by omega,fun j hj=>by rw [← hg2];exact hfrb _ j hj,fun e=>by cases e⟩
  by_cases a:s.h=-1
  ·have ab:(s.h == -1)=true:=by simpa using a
   have ab2:(s.h != -1)=false:=FU a
   obtain ⟨r,g3,c1,c2⟩:=hturn s.h g2 hg2.symm (by omega)
   by_cases hE:Cf t.sign=true
   ·have hgo:tv.2.2=true→BC fs t s=Al t.sign ⟨s.h,s.ps⟩:=fun a2=>by
     unfold BC;rw [htv,if_neg (by simp [hE]),if_neg (by simp [a2]),if_pos a]
    have hE':t.sign=58∨t.sign=59∨t.sign=93:=by simpa [Cf] using hE
    cases htv2:tv.2.2 with
    | false =>
     have hk:=hK22 (by simp [hE]) htv2
     rw [htv2] at htk
     rcases hE' with hE' | hE' | hE'
     all_goals
      simp only [hE'] at *
      simp [go_sem,AB,AN,AM,AA,AE,AD,AC,AV.free.freeL,AV.free,AF,AH,AG,hcell2,hg2t,ab,ab2,htk]
      exact ⟨_,_,⟨rfl,rfl⟩,hk⟩
    | true =>
     have hgo:=hgo htv2
     rw [hgo] at hK
     rw [htv2] at htk
     rcases hE' with hE' | hE' | hE'
     all_goals
      simp only [hE'] at *
      simp [go_sem,AB,AN,AM,AA,AE,AD,AC,AV.free.freeL,AV.free,AF,AH,AG,hcell2,hg2t,ab,ab2,htk,c1]
      exact ⟨_,_,⟨rfl,rfl⟩,hK _ _ c2⟩
   ·have hE0:Cf t.sign=false:=by simpa using hE
    have hE':¬ (t.sign=58∨t.sign=59∨t.sign=93):=by simpa [Cf] using hE
    have f1:(t.sign != 58)=true:=by simp;omega
    have f2:(t.sign != 59)=true:=by simp;omega
    have f3:(t.sign != 93)=true:=by simp;omega
    have:BC fs t s=(15,s):=by unfold BC;rw [if_pos ⟨a,hE0⟩]
    rw [this] at hK
    simp [go_sem,AB,AN,AM,AA,AE,AD,AC,AV.free.freeL,AV.free,AF,AH,AG,hcell2,hg2t,ab,f1,f2,f3]
    exact ⟨_,_,⟨rfl,rfl⟩,hK _ _ ⟨rfl,by omega,fun j hj=>by rw [← hg2];exact hfrb _ j hj,fun e=>by cases e⟩⟩
  ·have ab:(s.h == -1)=false:=by simpa using a
   have ab2:(s.h != -1)=true:=FP a
   cases htv2:tv.2.2 with
   | false =>
    have hk:=hK22 (fun e=>a e.1) htv2
    rw [htv2] at htk
    simp [go_sem,AB,AN,AM,AA,AE,AD,AC,AV.free.freeL,AV.free,AF,AH,AG,hcell2,hg2t,ab,ab2,htk]
    exact ⟨_,_,⟨rfl,rfl⟩,hk⟩
   | true =>
    rw [htv2] at htk
    have w1:IntKind.i64.wrap (s.h - Bw s.ps)=s.h - Bw s.ps:=BN (by omega) (by omega)
    have w2:IntKind.i64.wrap (s.h - tv.1)=s.h - tv.1:=BN (by omega) (by omega)
    have w3:IntKind.i64.wrap (s.h - tv.1+tv.2.1)=s.h - tv.1+tv.2.1:=BN (by omega) (by omega)
    have w4:IntKind.i64.wrap (tv.2.1 - tv.1)=tv.2.1 - tv.1:=BN (by omega) (by omega)
    have w5:IntKind.i64.wrap (s.h+(tv.2.1 - tv.1))=s.h+(tv.2.1 - tv.1):=BN (by omega) (by omega)
    by_cases q1:s.h - Bw s.ps<tv.1
    ·simp [go_sem,AB,AN,AM,AA,AE,AD,AC,AV.free.freeL,AV.free,AF,AH,AG,hcell2,hg2t,ab,ab2,htk,hbase,w1,q1]
     exact ⟨_,_,⟨rfl,rfl⟩,hK14 a htv2 (.inl q1)⟩
    ·by_cases q2:64<s.h - tv.1+tv.2.1
     ·simp [go_sem,AB,AN,AM,AA,AE,AD,AC,AV.free.freeL,AV.free,AF,AH,AG,hcell2,hg2t,ab,ab2,htk,hbase,w1,q1,w2,w3,q2]
      exact ⟨_,_,⟨rfl,rfl⟩,hK14 a htv2 (.inr q2)⟩
     ·have hgo:BC fs t s=Al t.sign ⟨s.h+(tv.2.1 - tv.1),s.ps⟩:=by
       unfold BC;rw [htv,if_neg (fun e=>a e.1),if_neg (by simp [htv2]),if_neg a,if_neg (by omega)]
      rw [hgo] at hK
      obtain ⟨r,g3,c1,c2⟩:=hturn (s.h+(tv.2.1 - tv.1)) (g2.set J (.cells [.int .i64 p,.int .i64 m,fa,.int .i64 (s.h+(tv.2.1 - tv.1)),pa,a'] 0)) (by rw [← hg2];unfold H.set;simp only;congr 1;funext j;split<;>rfl) (by omega)
      have hnJ:(g2.set J (.cells [.int .i64 p,.int .i64 m,fa,.int .i64 (s.h+(tv.2.1 - tv.1)),pa,a'] 0)).get g.n=g2.get g.n:=AI (by omega)
      have n3:g.n≠J:=by omega
      simp [go_sem,AB,AN,AM,AA,AE,AD,AC,AV.free.freeL,AV.free,AF,AH,AG,hcell2,hg2t,ab,ab2,htk,hbase,w1,q1,w2,w3,q2,w4,w5,hbJ,Gs,n3,c1]
      exact ⟨_,_,⟨rfl,rfl⟩,hK _ _ c2⟩
end
end Go.Ev
namespace Go.Ev
open Go
def OY (fs:List Fn):List Tok→Js→Prop
 | [],s=>Sa s
 | t::r,s=>Sa s∧s.ps.length≤800∧(s.h≠-1→Bw s.ps≤s.h)∧Qo t.sign s.ps∧((BC fs t s).1=0→OY fs r (BC fs t s).2)
structure JRel (i:Nat) (s:Mt) (j:Js):Prop where
 fl:j.ps.map (fun p=>(p.loop,p.other))=s.op.map fun p=>(p.loop,decide (0<p.ot))
 ot:∀ p ∈ s.op,p.loop=true→p.ot=0
 fr:∀ p ∈ s.op,p.fr<i
 n16:s.op.length≤16
 h0:-1≤j.h
 h1:j.h≤64
 bs:∀ p ∈ j.ps,0≤p.base∧p.base≤64∧-1≤p.fin∧p.fin≤64∧(p.other=true→p.fin=-1∨p.base≤p.fin)
 so:j.ps.Pairwise fun p q=>p.base≤q.base
 al:j.h≠-1→∀ p ∈ j.ps,p.base≤j.h
theorem JRel.len {i:Nat} {s:Mt} {j:Js} (h:JRel i s j):j.ps.length=s.op.length:=by
 have:=congrArg List.length h.fl
 simpa using this
theorem JRel.ok {i:Nat} {s:Mt} {j:Js} (h:JRel i s j):Sa j :=
 ⟨h.h0,h.h1,fun p hp=>⟨(h.bs p hp).1,(h.bs p hp).2.1,(h.bs p hp).2.2.1,(h.bs p hp).2.2.2.1⟩,by have:=h.len;have:=h.n16;omega⟩
theorem IX {s:Mt} {j:Js} (h:j.ps.map (fun p=>(p.loop,p.other))=s.op.map fun p=>(p.loop,decide (0<p.ot))):∀ n,Bx j.ps n=Bl s.op n
 | 0=>rfl
 | n+1=>by
  have hn:=congrArg (fun l=>l[n]?) h
  simp only [List.getElem?_map] at hn
  simp only [Bx,Bl]
  cases h1:j.ps[n]? with
  | none=>rw [h1] at hn;cases h2:s.op[n]? with
   | none=>rfl
   | some q=>rw [h2] at hn;simp at hn
  | some p=>rw [h1] at hn;cases h2:s.op[n]? with
   | none=>rw [h2] at hn;simp at hn
   | some q =>
    rw [h2] at hn
    simp only [Option.map_some,Option.some.injEq,Prod.mk.injEq] at hn
    simp only [hn.1]
    rw [IX h n]
theorem JRel.last {i:Nat} {s:Mt} {j:Js} (h:JRel i s j) {q:Pt} (hq:s.op.getLast? = some q):∃ p,j.ps.getLast? = some p∧p.loop=q.loop∧p.other=decide (0<q.ot)∧p ∈ j.ps∧q ∈ s.op:=by
 have hn:=congrArg List.getLast? h.fl
 rw [List.getLast?_map,List.getLast?_map,hq] at hn
 cases hp:j.ps.getLast? with
 | none=>rw [hp] at hn;simp at hn
 | some p =>
  rw [hp] at hn
  simp only [Option.map_some,Option.some.injEq,Prod.mk.injEq] at hn
  exact ⟨p,rfl,hn.1,hn.2,List.mem_of_getLast? hp,List.mem_of_getLast? hq⟩
theorem JRel.pre {i:Nat} {s:Mt} {j:Js} (h:JRel i s j) {sg:Int} {s':Mt} (hs:BX sg i s=some s'):Qo sg j.ps:=by
 refine ⟨fun e=>?_,fun e=>?_,fun e=>?_,fun e=>?_⟩
 ·subst e
  unfold BX at hs
  rw [if_neg (by omega),if_neg (by omega),if_pos rfl] at hs
  cases hq:s.op.getLast? with
  | none=>rw [hq] at hs;cases hs
  | some q =>
   rw [hq] at hs
   simp only at hs
   obtain ⟨p,h1,h2,h3,_⟩:=h.last hq
   split at hs
   ·cases hs
   ·rename_i hc
    simp at hc
    exact ⟨p,h1,by rw [h2];exact hc.1,by rw [h3];simp;omega⟩
 ·subst e
  unfold BX at hs
  rw [if_neg (by omega),if_neg (by omega),if_neg (by omega),if_pos rfl] at hs
  cases hq:s.op.getLast? with
  | none=>rw [hq] at hs;cases hs
  | some q =>
   rw [hq] at hs
   simp only at hs
   obtain ⟨p,h1,h2,h3,_⟩:=h.last hq
   split at hs
   ·cases hs
   ·rename_i hc
    exact ⟨p,h1,by rw [h2];simpa using hc⟩
 ·subst e
  unfold BX at hs
  rw [if_neg (by omega),if_neg (by omega),if_neg (by omega),if_neg (by omega),if_pos rfl] at hs
  cases hq:s.op.getLast? with
  | none=>rw [hq] at hs;cases hs
  | some q =>
   rw [hq] at hs
   simp only at hs
   obtain ⟨p,h1,h2,h3,_,hm⟩:=h.last hq
   split at hs
   ·rename_i hc
    exact ⟨p,h1,by rw [h2];exact hc,by rw [h3];simp;exact h.ot q hm hc⟩
   ·cases hs
 ·subst e
  unfold BX at hs
  rw [if_neg (by omega),if_neg (by omega),if_neg (by omega),if_neg (by omega),if_neg (by omega),if_pos rfl] at hs
  cases hq:Bl s.op s.op.length with
  | none=>rw [hq] at hs;cases hs
  | some k=>exact ⟨k,by rw [IX h.fl,h.len,hq]⟩
theorem Oa {ps:List Jp} (so:ps.Pairwise fun p q=>p.base≤q.base) {x:Jp} (hx:ps.getLast? = some x):∀ p ∈ ps,p.base≤x.base:=fun p hp=>by
 have hne:ps≠[]:=fun e=>by rw [e] at hx;cases hx
 obtain ⟨y,hy1,hy2,_,_⟩:=EB hne
 rw [hx] at hy1;injection hy1 with hy1;subst hy1
 rw [hy2] at so hp
 rw [List.pairwise_append] at so
 rw [List.mem_append] at hp
 rcases hp with hp | hp
 ·exact so.2.2 p hp x (by simp)
 ·simp at hp;subst hp;exact Int.le_refl _
theorem CR {A:Type} {l:List A} {x:A} (h:x ∈ l.dropLast):x ∈ l:=by rw [List.dropLast_eq_take] at h;exact List.mem_of_mem_take h
theorem Rl (fs:List Fn) {s:Int} (nm:Int) (h:Cf s=true):Am fs s nm=(0,0,true):=by
 have h':s=58∨s=59∨s=93:=by simpa [Cf] using h
 exact T8 (by simp [GG];omega)
theorem JRel.turn {i:Nat} {s:Mt} {j:Js} {h:Int} (hr:JRel i s j) {sg:Int} {s':Mt} (hs:BX sg i s=some s') (hh0:-1≤h) (hh1:h≤64) (hal:h≠-1→∀ p ∈ j.ps,p.base≤h) (hd:Cf sg=false→h≠-1) (h0:(Al sg ⟨h,j.ps⟩).1=0):JRel (i+1) s' (Al sg ⟨h,j.ps⟩).2:=by
 have hpre:=hr.pre hs
 have fr1:∀ p ∈ s.op,p.fr<i+1:=fun p hp=>by have:=hr.fr p hp;omega
 unfold BX at hs
 unfold Al at h0 ⊢
 by_cases c1:sg=63∨sg=91
 ·rw [if_pos c1] at h0 ⊢
  have hne:h≠-1:=hd (by simp [Cf];omega)
  have hfin:∀ lp:Bool,lp=(sg == 91)→s.op.length+1≤16→JRel (i+1) ⟨s.to,s.op++[⟨lp,i,0,[]⟩],max s.deep (s.op.length+1)⟩ ⟨h,j.ps++[⟨sg == 91,false,false,h,0⟩]⟩:=fun lp hlp h16=>{
   fl:=by simp [hr.fl,hlp]
   ot:=fun p hp hl=>by
    rw [List.mem_append] at hp
    rcases hp with hp | hp
    ·exact hr.ot p hp hl
    ·simp at hp;subst hp;rfl
   fr:=fun p hp=>by
    rw [List.mem_append] at hp
    rcases hp with hp | hp
    ·exact fr1 p hp
    ·simp at hp;subst hp;simp
   n16:=by simp;omega
   h0:=hh0
   h1:=hh1
   bs:=fun p hp=>by
    rw [List.mem_append] at hp
    rcases hp with hp | hp
    ·exact hr.bs p hp
    ·simp at hp;subst hp;simp only;exact ⟨by omega,hh1,by omega,by omega,fun e=>by cases e⟩
   so:=by
    rw [List.pairwise_append]
    exact ⟨hr.so,List.pairwise_singleton _ _,fun p hp q hq=>by simp at hq;subst hq;exact hal hne p hp⟩
   al:=fun _ p hp=>by
    rw [List.mem_append] at hp
    rcases hp with hp | hp
    ·exact hal hne p hp
    ·simp at hp;subst hp;exact Int.le_refl _ }
  rcases c1 with rfl | rfl
  ·rw [if_pos rfl] at hs
   split at hs
   ·rename_i h16
    injection hs with hs;subst hs
    exact hfin false rfl h16
   ·cases hs
  ·rw [if_neg (by omega),if_pos rfl] at hs
   split at hs
   ·rename_i h16
    injection hs with hs;subst hs
    exact hfin true rfl h16
   ·cases hs
 rw [if_neg (by omega),if_neg (by omega)] at hs
 rw [if_neg c1] at h0 ⊢
 by_cases c2:sg=58
 ·rw [if_pos c2] at hs h0 ⊢
  cases hq:s.op.getLast? with
  | none=>rw [hq] at hs;cases hs
  | some q =>
   rw [hq] at hs
   obtain ⟨p,e1,e2,e3,e4,e5⟩:=hr.last hq
   simp only [e1] at h0 ⊢
   simp only at hs
   split at hs
   ·cases hs
   ·rename_i hc
    simp at hc
    injection hs with hs;subst hs
    have hi0:0<i:=by have:=hr.fr q e5;omega
    have hpb:=hr.bs p e4
    have hlj:j.ps[j.ps.length - 1]? = some p:=by rw [← List.getLast?_eq_getElem?];exact e1
    refine { fl:=?_,ot:=fun x hx hl=>?_,fr:=fun x hx=>?_,n16:=by simp only [List.length_set];exact hr.n16,h0:=by simp only;omega,h1:=by simp only;omega,bs:=fun x hx=>?_,so:=?_,al:=fun _ x hx=>?_ }
    ·simp only [List.map_set,hr.fl,hr.len]
     simp [e2,hi0]
    ·rcases List.mem_or_eq_of_mem_set hx with hx | rfl
     ·exact hr.ot x hx hl
     ·rw [hc.1] at hl;cases hl
    ·rcases List.mem_or_eq_of_mem_set hx with hx | rfl
     ·exact fr1 x hx
     ·exact fr1 q e5
    ·rcases List.mem_or_eq_of_mem_set hx with hx | rfl
     ·exact hr.bs x hx
     ·refine ⟨hpb.1,hpb.2.1,hh0,hh1,fun _=>?_⟩
      by_cases ch:h=-1
      ·exact .inl ch
      ·exact .inr (hal ch p e4)
    ·have hm:(j.ps.set (j.ps.length - 1) ⟨p.loop,true,p.left,p.base,h⟩).map Jp.base=j.ps.map Jp.base:=by
      rw [List.map_set]
      apply List.ext_getElem?
      intro k
      rw [List.getElem?_set]
      split
      ·rename_i e;subst e
       split
       ·rw [List.getElem?_map,hlj];rfl
       ·rename_i hh;simp at hh;rw [List.getElem?_map,hlj];simp [List.getElem?_eq_none_iff.mpr hh] at hlj
      ·rfl
     have h3:(j.ps.map Jp.base).Pairwise (·≤·):=List.pairwise_map.mpr hr.so
     rw [← hm] at h3
     exact List.pairwise_map.mp h3
    ·simp only
     rcases List.mem_or_eq_of_mem_set hx with hx | rfl
     ·exact Oa hr.so e1 x hx
     ·exact Int.le_refl _
 rw [if_neg c2] at hs h0 ⊢
 have hdrop:∀ {q:Pt} {x:Int} {to:List Int},s.op.getLast? = some q→-1≤x→x≤64→(x≠-1→∀ p ∈ j.ps.dropLast,p.base≤x)→JRel (i+1) ⟨to,s.op.dropLast,s.deep⟩ ⟨x,j.ps.dropLast⟩:=fun {q x to} hq g1 g2 g3=>{
  fl:=by simp only [List.map_dropLast,hr.fl]
  ot:=fun p hp=>hr.ot p (CR hp)
  fr:=fun p hp=>fr1 p (CR hp)
  n16:=by simp only [List.length_dropLast];have:=hr.n16;omega
  h0:=g1
  h1:=g2
  bs:=fun p hp=>hr.bs p (CR hp)
  so:=hr.so.sublist (List.dropLast_sublist _)
  al:=g3 }
 by_cases c3:sg=59
 ·rw [if_pos c3] at hs h0 ⊢
  cases hq:s.op.getLast? with
  | none=>rw [hq] at hs;cases hs
  | some q =>
   rw [hq] at hs
   obtain ⟨p,e1,e2,e3,e4,e5⟩:=hr.last hq
   have hpb:=hr.bs p e4
   have hbl:=Oa hr.so e1
   simp only [e1] at h0 ⊢
   simp only at hs
   split at hs
   ·cases hs
   ·injection hs with hs;subst hs
    by_cases co:p.other=true
    ·rw [if_pos co] at h0 ⊢
     split at h0
     ·cases h0
     ·rename_i hc
      rw [if_neg hc]
      refine hdrop hq (by omega) (by omega) (fun hx y hy=>?_)
      have hy1:=hbl y (CR hy)
      by_cases ch:h=-1
      ·rcases hpb.2.2.2.2 co with hf | hf<;>omega
      ·have:=hal ch y (CR hy);omega
    ·rw [if_neg co] at h0 ⊢
     split at h0
     ·cases h0
     ·rename_i hc
      rw [if_neg hc]
      exact hdrop hq (by omega) (by omega) (fun _ y hy=>hbl y (CR hy))
 rw [if_neg c3] at hs h0 ⊢
 by_cases c4:sg=93
 ·rw [if_pos c4] at hs h0 ⊢
  cases hq:s.op.getLast? with
  | none=>rw [hq] at hs;cases hs
  | some q =>
   rw [hq] at hs
   obtain ⟨p,e1,e2,e3,e4,e5⟩:=hr.last hq
   have hpb:=hr.bs p e4
   have hbl:=Oa hr.so e1
   simp only [e1] at h0 ⊢
   simp only at hs
   split at hs
   ·injection hs with hs;subst hs
    split at h0
    ·cases h0
    ·rename_i hc
     rw [if_neg hc]
     refine hdrop hq ?_ ?_ (fun hx y hy=>?_)
     ·split<;>omega
     ·split<;>omega
     ·split
      ·exact hbl y (CR hy)
      ·rename_i hl;simp only [hl] at hx;exact absurd rfl hx
   ·cases hs
 rw [if_neg c4] at hs h0 ⊢
 by_cases c5:sg=126
 ·rw [if_pos c5] at hs h0 ⊢
  cases hk:Bl s.op s.op.length with
  | none=>rw [hk] at hs;cases hs
  | some k =>
   have hkj:Bx j.ps j.ps.length=some k:=by rw [IX hr.fl,hr.len,hk]
   obtain ⟨hk1,pj,hpj,hlj⟩:=Gk _ _ _ hkj
   rw [hk] at hs
   simp only [hkj,hpj] at h0 ⊢
   simp only at hs
   obtain ⟨_,q,hq,hlq⟩:=EM _ _ _ hk
   rw [hq] at hs
   simp only at hs
   injection hs with hs;subst hs
   split at h0
   ·cases h0
   ·rename_i hc
    rw [if_neg hc]
    have hflk:=congrArg (fun l=>l[k]?) hr.fl
    simp only [List.getElem?_map,hpj,hq,Option.map_some,Option.some.injEq,Prod.mk.injEq] at hflk
    refine { fl:=?_,ot:=fun x hx hl=>?_,fr:=fun x hx=>?_,n16:=by simp only [List.length_set];exact hr.n16,h0:=by simp only;omega,h1:=by simp only;omega,bs:=fun x hx=>?_,so:=?_,al:=fun e=>absurd rfl e }
    ·simp only [List.map_set,hr.fl]
     simp [hflk]
    ·rcases List.mem_or_eq_of_mem_set hx with hx | rfl
     ·exact hr.ot x hx hl
     ·exact hr.ot q (List.mem_of_getElem? hq) hl
    ·rcases List.mem_or_eq_of_mem_set hx with hx | rfl
     ·exact fr1 x hx
     ·exact fr1 q (List.mem_of_getElem? hq)
    ·rcases List.mem_or_eq_of_mem_set hx with hx | rfl
     ·exact hr.bs x hx
     ·exact hr.bs pj (List.mem_of_getElem? hpj)
    ·have hm:(j.ps.set k ⟨pj.loop,pj.other,true,pj.base,pj.fin⟩).map Jp.base=j.ps.map Jp.base:=by
      rw [List.map_set]
      apply List.ext_getElem?
      intro k'
      rw [List.getElem?_set]
      split
      ·rename_i e;subst e
       split
       ·rw [List.getElem?_map,hpj];rfl
       ·rename_i hh;simp at hh;omega
      ·rfl
     have h3:(j.ps.map Jp.base).Pairwise (·≤·):=List.pairwise_map.mpr hr.so
     rw [← hm] at h3
     exact List.pairwise_map.mp h3
 rw [if_neg c5] at hs h0 ⊢
 injection hs with hs;subst hs
 have hsame:∀ x:Int,-1≤x→x≤64→(x≠-1→∀ p ∈ j.ps,p.base≤x)→JRel (i+1) s ⟨x,j.ps⟩:=fun x g1 g2 g3=>{ fl:=hr.fl,ot:=hr.ot,fr:=fr1,n16:=hr.n16,h0:=g1,h1:=g2,bs:=hr.bs,so:=hr.so,al:=g3 }
 by_cases c6:sg=161
 ·rw [if_pos c6]
  exact hsame (-1) (by omega) (by omega) (fun e=>absurd rfl e)
 ·rw [if_neg c6]
  exact hsame h hh0 hh1 hal
theorem JRel.jb {i:Nat} {s:Mt} {j:Js} (hr:JRel i s j) (h:j.h≠-1):Bw j.ps≤j.h:=by
 unfold Bw
 cases hx:j.ps.getLast? with
 | none=>have:=hr.h0;simp only;omega
 | some x=>exact hr.al h x (List.mem_of_getLast? hx)
theorem JRel.tok {i:Nat} {s:Mt} {j:Js} (hr:JRel i s j) (fs:List Fn) (t:Tok) {s':Mt} (hs:BX t.sign i s=some s') (h0:(BC fs t j).1=0):JRel (i+1) s' (BC fs t j).2:=by
 have hjb:=hr.jb
 have hh0:=hr.h0
 have hh1:=hr.h1
 obtain ⟨b3,b4,b5,b6⟩:=Ih fs t.sign t.name
 unfold BC at h0 ⊢
 split at h0
 ·cases h0
 rename_i c1
 rw [if_neg c1]
 split at h0
 ·cases h0
 rename_i c2
 rw [if_neg c2]
 split at h0
 ·rename_i c3
  rw [if_pos c3]
  have:=hr.turn (h:=j.h) hs hh0 hh1 hr.al (fun e=>absurd ⟨c3,e⟩ c1) h0
  exact this
 ·rename_i c3
  rw [if_neg c3]
  split at h0
  ·cases h0
  ·rename_i c4
   rw [if_neg c4]
   have hb:=hjb c3
   have hjb0:0≤Bw j.ps:=(KJ hr.ok).1
   refine hr.turn (h:=j.h+((Am fs t.sign t.name).2.1 - (Am fs t.sign t.name).1)) hs (by omega) (by omega) (fun _ p hp=>?_) (fun _=>by omega) h0
   have:p.base≤Bw j.ps:=by
    unfold Bw
    cases hx:j.ps.getLast? with
    | none=>rw [List.getLast?_eq_none_iff] at hx;rw [hx] at hp;cases hp
    | some x=>exact Oa hr.so hx p hp
   omega
theorem Wv (fs:List Fn) (l:List Tok):∀ (k i:Nat) (s:Mt) (j:Js) (s':Mt),l.length=i+k→Br l k i s=some s'→JRel i s j→OY fs (l.drop i) j:=by
 intro k
 induction k with
 | zero=>intro i s j s' hl hp hr;rw [List.drop_eq_nil_of_le (by omega)];exact hr.ok
 | succ k ih =>
  intro i s j s' hl hp hr
  have hi:i<l.length:=by omega
  rw [List.drop_eq_getElem_cons hi]
  have hsg:Ah l i=l[i].sign:=by simp [Ah,hi]
  simp only [Br,hsg] at hp
  cases hs:BX l[i].sign i s with
  | none=>rw [hs] at hp;cases hp
  | some s2 =>
   rw [hs] at hp
   refine ⟨hr.ok,by have:=hr.len;have:=hr.n16;omega,hr.jb,hr.pre hs,fun h0=>?_⟩
   exact ih (i+1) s2 _ s' (by omega) hp (hr.tok fs l[i] hs h0)
theorem Py (fs:List Fn) (l:List Tok) {to:List Int} (h:BW l=some to):OY fs l ⟨0,[]⟩:=by
 unfold BW at h
 cases hp:Br l l.length 0 ⟨List.replicate l.length (-1),[],0⟩ with
 | none=>rw [hp] at h;cases h
 | some s =>
  have:=Wv fs l l.length 0 _ ⟨0,[]⟩ s (by omega) hp { fl:=rfl,ot:=by simp,fr:=by simp,n16:=by simp,h0:=by simp,h1:=by simp,bs:=by simp,so:=List.Pairwise.nil,al:=by simp }
  simpa using this
end Go.Ev
