/- Part 6 of 8 of the proof that TopSums of engramtop returns true for every argument; nothing is assumed. -/
import Derived.Test.YtflenhndceggnaaGreatDoorA5
set_option linter.unusedSimpArgs false
set_option linter.unusedVariables false
set_option linter.all false
set_option linter.unusedSectionVars false
namespace Go.Ev
open Go
section
variable {bar : Nat} {g : H}
theorem ir_ascii (s : ByteArray) (r : Int) (h0 : 0 ≤ r) (h1 : r < 128) : call tb prim n_strings_IndexRune [.str s, .int .i32 r] bar g = some (.int .i64 (Lib.indexByte s.data.toList r.toNat.toUInt8), g) := by
  refine call_of tb_strings_IndexRune (callF_pureW rfl rfl (M_in ?_))
  have hu : IntKind.u8.wrap r = r := by rw [wu8]; omega
  have hi2 := fun (b : Nat) (g : H) => strings_IndexByte_ok (bar := b) (h := g) s r
  simp [f_strings_IndexRune, env0, go_sem, get_alloc, n_alloc, get_set, n_set, get_kill, n_kill, writeAt, a11, a21, a31, a41, a51, a61, a71, endP, endI, resultsA, resultA, freezeL, freezeV, AV.free.freeL, AV.free, packA, dropS, h0, h1, hu, hi2]
theorem wl0 : IntKind.i64.wrap 0 = 0 := rfl
theorem wl1 : IntKind.i64.wrap 1 = 1 := rfl
theorem wl2 : IntKind.i64.wrap 2 = 2 := rfl
theorem wl3 : IntKind.i64.wrap 3 = 3 := rfl
theorem wl4 : IntKind.i64.wrap 4 = 4 := rfl
theorem wl5 : IntKind.i64.wrap 5 = 5 := rfl
theorem wl6 : IntKind.i64.wrap 6 = 6 := rfl
theorem wl7 : IntKind.i64.wrap 7 = 7 := rfl
theorem wl8 : IntKind.i64.wrap 8 = 8 := rfl
theorem ir_a171 : call tb prim n_strings_IndexRune [.str ⟨#[63, 58, 93, 126]⟩, .int .i32 171] bar g = some (.int .i64 (-1), g) := by
  refine call_of tb_strings_IndexRune (callF_pureW rfl rfl (M_in ?_))
  have hv := fun (b : Nat) (g : H) => utf8_ValidRune_ok (pr := prim) (bar := b) (h := g) 171
  have hvr : validR 171 = true := rfl
  have he : Utf8.encode 171 = ⟨#[194, 171]⟩ := by decide +kernel
  have hz : (ByteArray.mk #[194, 171]).size = 2 := rfl
  have hz4 : (ByteArray.mk #[63, 58, 93, 126]).size = 4 := rfl
  have hib := fun (b : Nat) (g : H) => strings_IndexByte_ok (bar := b) (h := g) ⟨#[93, 126]⟩ 171
  have hx : Lib.indexByte (ByteArray.mk #[93, 126]).data.toList (171 : Int).toNat.toUInt8 = -1 := by decide +kernel
  have hex : (ByteArray.mk #[63, 58, 93, 126]).extract 2 4 = ⟨#[93, 126]⟩ := by decide +kernel
  have hsl : sliceS ⟨#[63, 58, 93, 126]⟩ (some (.int .i64 2)) none = some (.str ⟨#[93, 126]⟩) := by
    simp [sliceS, optBound, bound, hz4, hex]
  rw [hx] at hib
  simp [f_strings_IndexRune, env0, go_sem, get_alloc, n_alloc, get_set, n_set, get_kill, n_kill, writeAt, a11, a21, a31, a41, a51, a61, a71, hv, hvr, he, hz, wl1, wl2]
  refine M_loop l2_strings_IndexRune.eq_1 ?_
  simp [go_sem, get_alloc, n_alloc, get_set, n_set, get_kill, n_kill, writeAt, a11, a21, a31, a41, a51, a61, a71, hz, hz4, indexIn, optEv, hsl, hib, wl0, wl1, wl2, wl3, wl4, wl5, wl6, wl7, wl8]
  simp [go_sem, endP, endI, resultsA, resultA, freezeL, freezeV, AV.free.freeL, AV.free, packA, dropS]
theorem ir_a187 : call tb prim n_strings_IndexRune [.str ⟨#[63, 58, 93, 126]⟩, .int .i32 187] bar g = some (.int .i64 (-1), g) := by
  refine call_of tb_strings_IndexRune (callF_pureW rfl rfl (M_in ?_))
  have hv := fun (b : Nat) (g : H) => utf8_ValidRune_ok (pr := prim) (bar := b) (h := g) 187
  have hvr : validR 187 = true := rfl
  have he : Utf8.encode 187 = ⟨#[194, 187]⟩ := by decide +kernel
  have hz : (ByteArray.mk #[194, 187]).size = 2 := rfl
  have hz4 : (ByteArray.mk #[63, 58, 93, 126]).size = 4 := rfl
  have hib := fun (b : Nat) (g : H) => strings_IndexByte_ok (bar := b) (h := g) ⟨#[93, 126]⟩ 187
  have hx : Lib.indexByte (ByteArray.mk #[93, 126]).data.toList (187 : Int).toNat.toUInt8 = -1 := by decide +kernel
  have hex : (ByteArray.mk #[63, 58, 93, 126]).extract 2 4 = ⟨#[93, 126]⟩ := by decide +kernel
  have hsl : sliceS ⟨#[63, 58, 93, 126]⟩ (some (.int .i64 2)) none = some (.str ⟨#[93, 126]⟩) := by
    simp [sliceS, optBound, bound, hz4, hex]
  rw [hx] at hib
  simp [f_strings_IndexRune, env0, go_sem, get_alloc, n_alloc, get_set, n_set, get_kill, n_kill, writeAt, a11, a21, a31, a41, a51, a61, a71, hv, hvr, he, hz, wl1, wl2]
  refine M_loop l2_strings_IndexRune.eq_1 ?_
  simp [go_sem, get_alloc, n_alloc, get_set, n_set, get_kill, n_kill, writeAt, a11, a21, a31, a41, a51, a61, a71, hz, hz4, indexIn, optEv, hsl, hib, wl0, wl1, wl2, wl3, wl4, wl5, wl6, wl7, wl8]
  simp [go_sem, endP, endI, resultsA, resultA, freezeL, freezeV, AV.free.freeL, AV.free, packA, dropS]
theorem ir_a169 : call tb prim n_strings_IndexRune [.str ⟨#[63, 58, 93, 126]⟩, .int .i32 169] bar g = some (.int .i64 (-1), g) := by
  refine call_of tb_strings_IndexRune (callF_pureW rfl rfl (M_in ?_))
  have hv := fun (b : Nat) (g : H) => utf8_ValidRune_ok (pr := prim) (bar := b) (h := g) 169
  have hvr : validR 169 = true := rfl
  have he : Utf8.encode 169 = ⟨#[194, 169]⟩ := by decide +kernel
  have hz : (ByteArray.mk #[194, 169]).size = 2 := rfl
  have hz4 : (ByteArray.mk #[63, 58, 93, 126]).size = 4 := rfl
  have hib := fun (b : Nat) (g : H) => strings_IndexByte_ok (bar := b) (h := g) ⟨#[93, 126]⟩ 169
  have hx : Lib.indexByte (ByteArray.mk #[93, 126]).data.toList (169 : Int).toNat.toUInt8 = -1 := by decide +kernel
  have hex : (ByteArray.mk #[63, 58, 93, 126]).extract 2 4 = ⟨#[93, 126]⟩ := by decide +kernel
  have hsl : sliceS ⟨#[63, 58, 93, 126]⟩ (some (.int .i64 2)) none = some (.str ⟨#[93, 126]⟩) := by
    simp [sliceS, optBound, bound, hz4, hex]
  rw [hx] at hib
  simp [f_strings_IndexRune, env0, go_sem, get_alloc, n_alloc, get_set, n_set, get_kill, n_kill, writeAt, a11, a21, a31, a41, a51, a61, a71, hv, hvr, he, hz, wl1, wl2]
  refine M_loop l2_strings_IndexRune.eq_1 ?_
  simp [go_sem, get_alloc, n_alloc, get_set, n_set, get_kill, n_kill, writeAt, a11, a21, a31, a41, a51, a61, a71, hz, hz4, indexIn, optEv, hsl, hib, wl0, wl1, wl2, wl3, wl4, wl5, wl6, wl7, wl8]
  simp [go_sem, endP, endI, resultsA, resultA, freezeL, freezeV, AV.free.freeL, AV.free, packA, dropS]
theorem ir_a174 : call tb prim n_strings_IndexRune [.str ⟨#[63, 58, 93, 126]⟩, .int .i32 174] bar g = some (.int .i64 (-1), g) := by
  refine call_of tb_strings_IndexRune (callF_pureW rfl rfl (M_in ?_))
  have hv := fun (b : Nat) (g : H) => utf8_ValidRune_ok (pr := prim) (bar := b) (h := g) 174
  have hvr : validR 174 = true := rfl
  have he : Utf8.encode 174 = ⟨#[194, 174]⟩ := by decide +kernel
  have hz : (ByteArray.mk #[194, 174]).size = 2 := rfl
  have hz4 : (ByteArray.mk #[63, 58, 93, 126]).size = 4 := rfl
  have hib := fun (b : Nat) (g : H) => strings_IndexByte_ok (bar := b) (h := g) ⟨#[93, 126]⟩ 174
  have hx : Lib.indexByte (ByteArray.mk #[93, 126]).data.toList (174 : Int).toNat.toUInt8 = -1 := by decide +kernel
  have hex : (ByteArray.mk #[63, 58, 93, 126]).extract 2 4 = ⟨#[93, 126]⟩ := by decide +kernel
  have hsl : sliceS ⟨#[63, 58, 93, 126]⟩ (some (.int .i64 2)) none = some (.str ⟨#[93, 126]⟩) := by
    simp [sliceS, optBound, bound, hz4, hex]
  rw [hx] at hib
  simp [f_strings_IndexRune, env0, go_sem, get_alloc, n_alloc, get_set, n_set, get_kill, n_kill, writeAt, a11, a21, a31, a41, a51, a61, a71, hv, hvr, he, hz, wl1, wl2]
  refine M_loop l2_strings_IndexRune.eq_1 ?_
  simp [go_sem, get_alloc, n_alloc, get_set, n_set, get_kill, n_kill, writeAt, a11, a21, a31, a41, a51, a61, a71, hz, hz4, indexIn, optEv, hsl, hib, wl0, wl1, wl2, wl3, wl4, wl5, wl6, wl7, wl8]
  simp [go_sem, endP, endI, resultsA, resultA, freezeL, freezeV, AV.free.freeL, AV.free, packA, dropS]
theorem ir_a164 : call tb prim n_strings_IndexRune [.str ⟨#[63, 58, 93, 126]⟩, .int .i32 164] bar g = some (.int .i64 (-1), g) := by
  refine call_of tb_strings_IndexRune (callF_pureW rfl rfl (M_in ?_))
  have hv := fun (b : Nat) (g : H) => utf8_ValidRune_ok (pr := prim) (bar := b) (h := g) 164
  have hvr : validR 164 = true := rfl
  have he : Utf8.encode 164 = ⟨#[194, 164]⟩ := by decide +kernel
  have hz : (ByteArray.mk #[194, 164]).size = 2 := rfl
  have hz4 : (ByteArray.mk #[63, 58, 93, 126]).size = 4 := rfl
  have hib := fun (b : Nat) (g : H) => strings_IndexByte_ok (bar := b) (h := g) ⟨#[93, 126]⟩ 164
  have hx : Lib.indexByte (ByteArray.mk #[93, 126]).data.toList (164 : Int).toNat.toUInt8 = -1 := by decide +kernel
  have hex : (ByteArray.mk #[63, 58, 93, 126]).extract 2 4 = ⟨#[93, 126]⟩ := by decide +kernel
  have hsl : sliceS ⟨#[63, 58, 93, 126]⟩ (some (.int .i64 2)) none = some (.str ⟨#[93, 126]⟩) := by
    simp [sliceS, optBound, bound, hz4, hex]
  rw [hx] at hib
  simp [f_strings_IndexRune, env0, go_sem, get_alloc, n_alloc, get_set, n_set, get_kill, n_kill, writeAt, a11, a21, a31, a41, a51, a61, a71, hv, hvr, he, hz, wl1, wl2]
  refine M_loop l2_strings_IndexRune.eq_1 ?_
  simp [go_sem, get_alloc, n_alloc, get_set, n_set, get_kill, n_kill, writeAt, a11, a21, a31, a41, a51, a61, a71, hz, hz4, indexIn, optEv, hsl, hib, wl0, wl1, wl2, wl3, wl4, wl5, wl6, wl7, wl8]
  simp [go_sem, endP, endI, resultsA, resultA, freezeL, freezeV, AV.free.freeL, AV.free, packA, dropS]
theorem ir_a161 : call tb prim n_strings_IndexRune [.str ⟨#[63, 58, 93, 126]⟩, .int .i32 161] bar g = some (.int .i64 (-1), g) := by
  refine call_of tb_strings_IndexRune (callF_pureW rfl rfl (M_in ?_))
  have hv := fun (b : Nat) (g : H) => utf8_ValidRune_ok (pr := prim) (bar := b) (h := g) 161
  have hvr : validR 161 = true := rfl
  have he : Utf8.encode 161 = ⟨#[194, 161]⟩ := by decide +kernel
  have hz : (ByteArray.mk #[194, 161]).size = 2 := rfl
  have hz4 : (ByteArray.mk #[63, 58, 93, 126]).size = 4 := rfl
  have hib := fun (b : Nat) (g : H) => strings_IndexByte_ok (bar := b) (h := g) ⟨#[93, 126]⟩ 161
  have hx : Lib.indexByte (ByteArray.mk #[93, 126]).data.toList (161 : Int).toNat.toUInt8 = -1 := by decide +kernel
  have hex : (ByteArray.mk #[63, 58, 93, 126]).extract 2 4 = ⟨#[93, 126]⟩ := by decide +kernel
  have hsl : sliceS ⟨#[63, 58, 93, 126]⟩ (some (.int .i64 2)) none = some (.str ⟨#[93, 126]⟩) := by
    simp [sliceS, optBound, bound, hz4, hex]
  rw [hx] at hib
  simp [f_strings_IndexRune, env0, go_sem, get_alloc, n_alloc, get_set, n_set, get_kill, n_kill, writeAt, a11, a21, a31, a41, a51, a61, a71, hv, hvr, he, hz, wl1, wl2]
  refine M_loop l2_strings_IndexRune.eq_1 ?_
  simp [go_sem, get_alloc, n_alloc, get_set, n_set, get_kill, n_kill, writeAt, a11, a21, a31, a41, a51, a61, a71, hz, hz4, indexIn, optEv, hsl, hib, wl0, wl1, wl2, wl3, wl4, wl5, wl6, wl7, wl8]
  simp [go_sem, endP, endI, resultsA, resultA, freezeL, freezeV, AV.free.freeL, AV.free, packA, dropS]
theorem ir_a960 : call tb prim n_strings_IndexRune [.str ⟨#[63, 58, 93, 126]⟩, .int .i32 960] bar g = some (.int .i64 (-1), g) := by
  refine call_of tb_strings_IndexRune (callF_pureW rfl rfl (M_in ?_))
  have hv := fun (b : Nat) (g : H) => utf8_ValidRune_ok (pr := prim) (bar := b) (h := g) 960
  have hvr : validR 960 = true := rfl
  have he : Utf8.encode 960 = ⟨#[207, 128]⟩ := by decide +kernel
  have hz : (ByteArray.mk #[207, 128]).size = 2 := rfl
  have hz4 : (ByteArray.mk #[63, 58, 93, 126]).size = 4 := rfl
  have hib := fun (b : Nat) (g : H) => strings_IndexByte_ok (bar := b) (h := g) ⟨#[93, 126]⟩ 128
  have hx : Lib.indexByte (ByteArray.mk #[93, 126]).data.toList (128 : Int).toNat.toUInt8 = -1 := by decide +kernel
  have hex : (ByteArray.mk #[63, 58, 93, 126]).extract 2 4 = ⟨#[93, 126]⟩ := by decide +kernel
  have hsl : sliceS ⟨#[63, 58, 93, 126]⟩ (some (.int .i64 2)) none = some (.str ⟨#[93, 126]⟩) := by
    simp [sliceS, optBound, bound, hz4, hex]
  rw [hx] at hib
  simp [f_strings_IndexRune, env0, go_sem, get_alloc, n_alloc, get_set, n_set, get_kill, n_kill, writeAt, a11, a21, a31, a41, a51, a61, a71, hv, hvr, he, hz, wl1, wl2]
  refine M_loop l2_strings_IndexRune.eq_1 ?_
  simp [go_sem, get_alloc, n_alloc, get_set, n_set, get_kill, n_kill, writeAt, a11, a21, a31, a41, a51, a61, a71, hz, hz4, indexIn, optEv, hsl, hib, wl0, wl1, wl2, wl3, wl4, wl5, wl6, wl7, wl8]
  simp [go_sem, endP, endI, resultsA, resultA, freezeL, freezeV, AV.free.freeL, AV.free, packA, dropS]
theorem ir_b171 : call tb prim n_strings_IndexRune [.str ⟨#[64, 194, 169, 36, 194, 174, 35, 194, 164]⟩, .int .i32 171] bar g = some (.int .i64 (-1), g) := by
  refine call_of tb_strings_IndexRune (callF_pureW rfl rfl (M_in ?_))
  have hv := fun (b : Nat) (g : H) => utf8_ValidRune_ok (pr := prim) (bar := b) (h := g) 171
  have hvr : validR 171 = true := rfl
  have he : Utf8.encode 171 = ⟨#[194, 171]⟩ := by decide +kernel
  have hz : (ByteArray.mk #[194, 171]).size = 2 := rfl
  have hz4 : (ByteArray.mk #[64, 194, 169, 36, 194, 174, 35, 194, 164]).size = 9 := rfl
  have hib := fun (b : Nat) (g : H) => strings_IndexByte_ok (bar := b) (h := g) ⟨#[169, 36, 194, 174, 35, 194, 164]⟩ 171
  have hx : Lib.indexByte (ByteArray.mk #[169, 36, 194, 174, 35, 194, 164]).data.toList (171 : Int).toNat.toUInt8 = -1 := by decide +kernel
  have hex : (ByteArray.mk #[64, 194, 169, 36, 194, 174, 35, 194, 164]).extract 2 9 = ⟨#[169, 36, 194, 174, 35, 194, 164]⟩ := by decide +kernel
  have hsl : sliceS ⟨#[64, 194, 169, 36, 194, 174, 35, 194, 164]⟩ (some (.int .i64 2)) none = some (.str ⟨#[169, 36, 194, 174, 35, 194, 164]⟩) := by
    simp [sliceS, optBound, bound, hz4, hex]
  rw [hx] at hib
  simp [f_strings_IndexRune, env0, go_sem, get_alloc, n_alloc, get_set, n_set, get_kill, n_kill, writeAt, a11, a21, a31, a41, a51, a61, a71, hv, hvr, he, hz, wl1, wl2]
  refine M_loop l2_strings_IndexRune.eq_1 ?_
  simp [go_sem, get_alloc, n_alloc, get_set, n_set, get_kill, n_kill, writeAt, a11, a21, a31, a41, a51, a61, a71, hz, hz4, indexIn, optEv, hsl, hib, wl0, wl1, wl2, wl3, wl4, wl5, wl6, wl7, wl8]
  simp [go_sem, endP, endI, resultsA, resultA, freezeL, freezeV, AV.free.freeL, AV.free, packA, dropS]
theorem ir_b187 : call tb prim n_strings_IndexRune [.str ⟨#[64, 194, 169, 36, 194, 174, 35, 194, 164]⟩, .int .i32 187] bar g = some (.int .i64 (-1), g) := by
  refine call_of tb_strings_IndexRune (callF_pureW rfl rfl (M_in ?_))
  have hv := fun (b : Nat) (g : H) => utf8_ValidRune_ok (pr := prim) (bar := b) (h := g) 187
  have hvr : validR 187 = true := rfl
  have he : Utf8.encode 187 = ⟨#[194, 187]⟩ := by decide +kernel
  have hz : (ByteArray.mk #[194, 187]).size = 2 := rfl
  have hz4 : (ByteArray.mk #[64, 194, 169, 36, 194, 174, 35, 194, 164]).size = 9 := rfl
  have hib := fun (b : Nat) (g : H) => strings_IndexByte_ok (bar := b) (h := g) ⟨#[169, 36, 194, 174, 35, 194, 164]⟩ 187
  have hx : Lib.indexByte (ByteArray.mk #[169, 36, 194, 174, 35, 194, 164]).data.toList (187 : Int).toNat.toUInt8 = -1 := by decide +kernel
  have hex : (ByteArray.mk #[64, 194, 169, 36, 194, 174, 35, 194, 164]).extract 2 9 = ⟨#[169, 36, 194, 174, 35, 194, 164]⟩ := by decide +kernel
  have hsl : sliceS ⟨#[64, 194, 169, 36, 194, 174, 35, 194, 164]⟩ (some (.int .i64 2)) none = some (.str ⟨#[169, 36, 194, 174, 35, 194, 164]⟩) := by
    simp [sliceS, optBound, bound, hz4, hex]
  rw [hx] at hib
  simp [f_strings_IndexRune, env0, go_sem, get_alloc, n_alloc, get_set, n_set, get_kill, n_kill, writeAt, a11, a21, a31, a41, a51, a61, a71, hv, hvr, he, hz, wl1, wl2]
  refine M_loop l2_strings_IndexRune.eq_1 ?_
  simp [go_sem, get_alloc, n_alloc, get_set, n_set, get_kill, n_kill, writeAt, a11, a21, a31, a41, a51, a61, a71, hz, hz4, indexIn, optEv, hsl, hib, wl0, wl1, wl2, wl3, wl4, wl5, wl6, wl7, wl8]
  simp [go_sem, endP, endI, resultsA, resultA, freezeL, freezeV, AV.free.freeL, AV.free, packA, dropS]
theorem ir_b169 : call tb prim n_strings_IndexRune [.str ⟨#[64, 194, 169, 36, 194, 174, 35, 194, 164]⟩, .int .i32 169] bar g = some (.int .i64 1, g) := by
  refine call_of tb_strings_IndexRune (callF_pureW rfl rfl (M_in ?_))
  have hv := fun (b : Nat) (g : H) => utf8_ValidRune_ok (pr := prim) (bar := b) (h := g) 169
  have hvr : validR 169 = true := rfl
  have he : Utf8.encode 169 = ⟨#[194, 169]⟩ := by decide +kernel
  have hz : (ByteArray.mk #[194, 169]).size = 2 := rfl
  have hz4 : (ByteArray.mk #[64, 194, 169, 36, 194, 174, 35, 194, 164]).size = 9 := rfl
  have hib := fun (b : Nat) (g : H) => strings_IndexByte_ok (bar := b) (h := g) ⟨#[169, 36, 194, 174, 35, 194, 164]⟩ 169
  have hx : Lib.indexByte (ByteArray.mk #[169, 36, 194, 174, 35, 194, 164]).data.toList (169 : Int).toNat.toUInt8 = 0 := by decide +kernel
  have hex : (ByteArray.mk #[64, 194, 169, 36, 194, 174, 35, 194, 164]).extract 2 9 = ⟨#[169, 36, 194, 174, 35, 194, 164]⟩ := by decide +kernel
  have hsl : sliceS ⟨#[64, 194, 169, 36, 194, 174, 35, 194, 164]⟩ (some (.int .i64 2)) none = some (.str ⟨#[169, 36, 194, 174, 35, 194, 164]⟩) := by
    simp [sliceS, optBound, bound, hz4, hex]
  rw [hx] at hib
  simp [f_strings_IndexRune, env0, go_sem, get_alloc, n_alloc, get_set, n_set, get_kill, n_kill, writeAt, a11, a21, a31, a41, a51, a61, a71, hv, hvr, he, hz, wl1, wl2]
  refine M_loop l2_strings_IndexRune.eq_1 ?_
  simp [go_sem, get_alloc, n_alloc, get_set, n_set, get_kill, n_kill, writeAt, a11, a21, a31, a41, a51, a61, a71, hz, hz4, indexIn, optEv, hsl, hib, wl0, wl1, wl2, wl3, wl4, wl5, wl6, wl7, wl8]
  refine M_loop l1_strings_IndexRune.eq_1 ?_
  simp [go_sem, get_alloc, n_alloc, get_set, n_set, get_kill, n_kill, writeAt, a11, a21, a31, a41, a51, a61, a71, hz, hz4, indexIn, wl0, wl1, wl2, wl3, wl4, wl5, wl6, wl7, wl8]
  refine M_loop l1_strings_IndexRune.eq_1 ?_
  simp [go_sem, get_alloc, n_alloc, get_set, n_set, get_kill, n_kill, writeAt, a11, a21, a31, a41, a51, a61, a71, hz, hz4, indexIn, wl0, wl1, wl2, wl3, wl4, wl5, wl6, wl7, wl8]
  simp [go_sem, endP, endI, resultsA, resultA, freezeL, freezeV, AV.free.freeL, AV.free, packA, dropS]
theorem ir_b174 : call tb prim n_strings_IndexRune [.str ⟨#[64, 194, 169, 36, 194, 174, 35, 194, 164]⟩, .int .i32 174] bar g = some (.int .i64 4, g) := by
  refine call_of tb_strings_IndexRune (callF_pureW rfl rfl (M_in ?_))
  have hv := fun (b : Nat) (g : H) => utf8_ValidRune_ok (pr := prim) (bar := b) (h := g) 174
  have hvr : validR 174 = true := rfl
  have he : Utf8.encode 174 = ⟨#[194, 174]⟩ := by decide +kernel
  have hz : (ByteArray.mk #[194, 174]).size = 2 := rfl
  have hz4 : (ByteArray.mk #[64, 194, 169, 36, 194, 174, 35, 194, 164]).size = 9 := rfl
  have hib := fun (b : Nat) (g : H) => strings_IndexByte_ok (bar := b) (h := g) ⟨#[169, 36, 194, 174, 35, 194, 164]⟩ 174
  have hx : Lib.indexByte (ByteArray.mk #[169, 36, 194, 174, 35, 194, 164]).data.toList (174 : Int).toNat.toUInt8 = 3 := by decide +kernel
  have hex : (ByteArray.mk #[64, 194, 169, 36, 194, 174, 35, 194, 164]).extract 2 9 = ⟨#[169, 36, 194, 174, 35, 194, 164]⟩ := by decide +kernel
  have hsl : sliceS ⟨#[64, 194, 169, 36, 194, 174, 35, 194, 164]⟩ (some (.int .i64 2)) none = some (.str ⟨#[169, 36, 194, 174, 35, 194, 164]⟩) := by
    simp [sliceS, optBound, bound, hz4, hex]
  rw [hx] at hib
  simp [f_strings_IndexRune, env0, go_sem, get_alloc, n_alloc, get_set, n_set, get_kill, n_kill, writeAt, a11, a21, a31, a41, a51, a61, a71, hv, hvr, he, hz, wl1, wl2]
  refine M_loop l2_strings_IndexRune.eq_1 ?_
  simp [go_sem, get_alloc, n_alloc, get_set, n_set, get_kill, n_kill, writeAt, a11, a21, a31, a41, a51, a61, a71, hz, hz4, indexIn, optEv, hsl, hib, wl0, wl1, wl2, wl3, wl4, wl5, wl6, wl7, wl8]
  refine M_loop l1_strings_IndexRune.eq_1 ?_
  simp [go_sem, get_alloc, n_alloc, get_set, n_set, get_kill, n_kill, writeAt, a11, a21, a31, a41, a51, a61, a71, hz, hz4, indexIn, wl0, wl1, wl2, wl3, wl4, wl5, wl6, wl7, wl8]
  refine M_loop l1_strings_IndexRune.eq_1 ?_
  simp [go_sem, get_alloc, n_alloc, get_set, n_set, get_kill, n_kill, writeAt, a11, a21, a31, a41, a51, a61, a71, hz, hz4, indexIn, wl0, wl1, wl2, wl3, wl4, wl5, wl6, wl7, wl8]
  simp [go_sem, endP, endI, resultsA, resultA, freezeL, freezeV, AV.free.freeL, AV.free, packA, dropS]
theorem ir_b164 : call tb prim n_strings_IndexRune [.str ⟨#[64, 194, 169, 36, 194, 174, 35, 194, 164]⟩, .int .i32 164] bar g = some (.int .i64 7, g) := by
  refine call_of tb_strings_IndexRune (callF_pureW rfl rfl (M_in ?_))
  have hv := fun (b : Nat) (g : H) => utf8_ValidRune_ok (pr := prim) (bar := b) (h := g) 164
  have hvr : validR 164 = true := rfl
  have he : Utf8.encode 164 = ⟨#[194, 164]⟩ := by decide +kernel
  have hz : (ByteArray.mk #[194, 164]).size = 2 := rfl
  have hz4 : (ByteArray.mk #[64, 194, 169, 36, 194, 174, 35, 194, 164]).size = 9 := rfl
  have hib := fun (b : Nat) (g : H) => strings_IndexByte_ok (bar := b) (h := g) ⟨#[169, 36, 194, 174, 35, 194, 164]⟩ 164
  have hx : Lib.indexByte (ByteArray.mk #[169, 36, 194, 174, 35, 194, 164]).data.toList (164 : Int).toNat.toUInt8 = 6 := by decide +kernel
  have hex : (ByteArray.mk #[64, 194, 169, 36, 194, 174, 35, 194, 164]).extract 2 9 = ⟨#[169, 36, 194, 174, 35, 194, 164]⟩ := by decide +kernel
  have hsl : sliceS ⟨#[64, 194, 169, 36, 194, 174, 35, 194, 164]⟩ (some (.int .i64 2)) none = some (.str ⟨#[169, 36, 194, 174, 35, 194, 164]⟩) := by
    simp [sliceS, optBound, bound, hz4, hex]
  rw [hx] at hib
  simp [f_strings_IndexRune, env0, go_sem, get_alloc, n_alloc, get_set, n_set, get_kill, n_kill, writeAt, a11, a21, a31, a41, a51, a61, a71, hv, hvr, he, hz, wl1, wl2]
  refine M_loop l2_strings_IndexRune.eq_1 ?_
  simp [go_sem, get_alloc, n_alloc, get_set, n_set, get_kill, n_kill, writeAt, a11, a21, a31, a41, a51, a61, a71, hz, hz4, indexIn, optEv, hsl, hib, wl0, wl1, wl2, wl3, wl4, wl5, wl6, wl7, wl8]
  refine M_loop l1_strings_IndexRune.eq_1 ?_
  simp [go_sem, get_alloc, n_alloc, get_set, n_set, get_kill, n_kill, writeAt, a11, a21, a31, a41, a51, a61, a71, hz, hz4, indexIn, wl0, wl1, wl2, wl3, wl4, wl5, wl6, wl7, wl8]
  refine M_loop l1_strings_IndexRune.eq_1 ?_
  simp [go_sem, get_alloc, n_alloc, get_set, n_set, get_kill, n_kill, writeAt, a11, a21, a31, a41, a51, a61, a71, hz, hz4, indexIn, wl0, wl1, wl2, wl3, wl4, wl5, wl6, wl7, wl8]
  simp [go_sem, endP, endI, resultsA, resultA, freezeL, freezeV, AV.free.freeL, AV.free, packA, dropS]
theorem ir_b161 : call tb prim n_strings_IndexRune [.str ⟨#[64, 194, 169, 36, 194, 174, 35, 194, 164]⟩, .int .i32 161] bar g = some (.int .i64 (-1), g) := by
  refine call_of tb_strings_IndexRune (callF_pureW rfl rfl (M_in ?_))
  have hv := fun (b : Nat) (g : H) => utf8_ValidRune_ok (pr := prim) (bar := b) (h := g) 161
  have hvr : validR 161 = true := rfl
  have he : Utf8.encode 161 = ⟨#[194, 161]⟩ := by decide +kernel
  have hz : (ByteArray.mk #[194, 161]).size = 2 := rfl
  have hz4 : (ByteArray.mk #[64, 194, 169, 36, 194, 174, 35, 194, 164]).size = 9 := rfl
  have hib := fun (b : Nat) (g : H) => strings_IndexByte_ok (bar := b) (h := g) ⟨#[169, 36, 194, 174, 35, 194, 164]⟩ 161
  have hx : Lib.indexByte (ByteArray.mk #[169, 36, 194, 174, 35, 194, 164]).data.toList (161 : Int).toNat.toUInt8 = -1 := by decide +kernel
  have hex : (ByteArray.mk #[64, 194, 169, 36, 194, 174, 35, 194, 164]).extract 2 9 = ⟨#[169, 36, 194, 174, 35, 194, 164]⟩ := by decide +kernel
  have hsl : sliceS ⟨#[64, 194, 169, 36, 194, 174, 35, 194, 164]⟩ (some (.int .i64 2)) none = some (.str ⟨#[169, 36, 194, 174, 35, 194, 164]⟩) := by
    simp [sliceS, optBound, bound, hz4, hex]
  rw [hx] at hib
  simp [f_strings_IndexRune, env0, go_sem, get_alloc, n_alloc, get_set, n_set, get_kill, n_kill, writeAt, a11, a21, a31, a41, a51, a61, a71, hv, hvr, he, hz, wl1, wl2]
  refine M_loop l2_strings_IndexRune.eq_1 ?_
  simp [go_sem, get_alloc, n_alloc, get_set, n_set, get_kill, n_kill, writeAt, a11, a21, a31, a41, a51, a61, a71, hz, hz4, indexIn, optEv, hsl, hib, wl0, wl1, wl2, wl3, wl4, wl5, wl6, wl7, wl8]
  simp [go_sem, endP, endI, resultsA, resultA, freezeL, freezeV, AV.free.freeL, AV.free, packA, dropS]
theorem ir_b960 : call tb prim n_strings_IndexRune [.str ⟨#[64, 194, 169, 36, 194, 174, 35, 194, 164]⟩, .int .i32 960] bar g = some (.int .i64 (-1), g) := by
  refine call_of tb_strings_IndexRune (callF_pureW rfl rfl (M_in ?_))
  have hv := fun (b : Nat) (g : H) => utf8_ValidRune_ok (pr := prim) (bar := b) (h := g) 960
  have hvr : validR 960 = true := rfl
  have he : Utf8.encode 960 = ⟨#[207, 128]⟩ := by decide +kernel
  have hz : (ByteArray.mk #[207, 128]).size = 2 := rfl
  have hz4 : (ByteArray.mk #[64, 194, 169, 36, 194, 174, 35, 194, 164]).size = 9 := rfl
  have hib := fun (b : Nat) (g : H) => strings_IndexByte_ok (bar := b) (h := g) ⟨#[169, 36, 194, 174, 35, 194, 164]⟩ 128
  have hx : Lib.indexByte (ByteArray.mk #[169, 36, 194, 174, 35, 194, 164]).data.toList (128 : Int).toNat.toUInt8 = -1 := by decide +kernel
  have hex : (ByteArray.mk #[64, 194, 169, 36, 194, 174, 35, 194, 164]).extract 2 9 = ⟨#[169, 36, 194, 174, 35, 194, 164]⟩ := by decide +kernel
  have hsl : sliceS ⟨#[64, 194, 169, 36, 194, 174, 35, 194, 164]⟩ (some (.int .i64 2)) none = some (.str ⟨#[169, 36, 194, 174, 35, 194, 164]⟩) := by
    simp [sliceS, optBound, bound, hz4, hex]
  rw [hx] at hib
  simp [f_strings_IndexRune, env0, go_sem, get_alloc, n_alloc, get_set, n_set, get_kill, n_kill, writeAt, a11, a21, a31, a41, a51, a61, a71, hv, hvr, he, hz, wl1, wl2]
  refine M_loop l2_strings_IndexRune.eq_1 ?_
  simp [go_sem, get_alloc, n_alloc, get_set, n_set, get_kill, n_kill, writeAt, a11, a21, a31, a41, a51, a61, a71, hz, hz4, indexIn, optEv, hsl, hib, wl0, wl1, wl2, wl3, wl4, wl5, wl6, wl7, wl8]
  simp [go_sem, endP, endI, resultsA, resultA, freezeL, freezeV, AV.free.freeL, AV.free, packA, dropS]
/-- Signs that may come there. -/
def sgG (r : Int) : Bool := decide (r = 43 ∨ r = 45 ∨ r = 42 ∨ r = 47 ∨ r = 37 ∨ r = 38 ∨ r = 124 ∨ r = 94 ∨ r = 60 ∨ r = 61 ∨ r = 33 ∨ r = 46 ∨ r = 44 ∨ r = 64 ∨ r = 36 ∨ r = 35 ∨ r = 63 ∨ r = 58 ∨ r = 59 ∨ r = 91 ∨ r = 93 ∨ r = 126 ∨ r = 171 ∨ r = 187 ∨ r = 169 ∨ r = 174 ∨ r = 164 ∨ r = 161 ∨ r = 960)
theorem con_of {s : ByteArray} {r i : Int} (h : ∀ (b : Nat) (g : H), call tb prim n_strings_IndexRune [.str s, .int .i32 r] b g = some (.int .i64 i, g)) : call tb prim n_strings_ContainsRune [.str s, .int .i32 r] bar g = some (.bool (decide (0 ≤ i)), g) := by
  refine call_of tb_strings_ContainsRune (callF_pureW rfl rfl (M_in ?_))
  simp [f_strings_ContainsRune, env0, go_sem, get_alloc, n_alloc, get_set, n_set, get_kill, n_kill, writeAt, a11, a21, a31, a41, a51, a61, a71, endP, endI, resultsA, resultA, freezeL, freezeV, AV.free.freeL, AV.free, packA, dropS, h]
theorem con_a {r : Int} (h : sgG r = true) : call tb prim n_strings_ContainsRune [.str ⟨#[63, 58, 93, 126]⟩, .int .i32 r] bar g = some (.bool (isGo r), g) := by
  have h' : r = 43 ∨ r = 45 ∨ r = 42 ∨ r = 47 ∨ r = 37 ∨ r = 38 ∨ r = 124 ∨ r = 94 ∨ r = 60 ∨ r = 61 ∨ r = 33 ∨ r = 46 ∨ r = 44 ∨ r = 64 ∨ r = 36 ∨ r = 35 ∨ r = 63 ∨ r = 58 ∨ r = 59 ∨ r = 91 ∨ r = 93 ∨ r = 126 ∨ r = 171 ∨ r = 187 ∨ r = 169 ∨ r = 174 ∨ r = 164 ∨ r = 161 ∨ r = 960 := by simpa [sgG] using h
  rcases h' with rfl | rfl | rfl | rfl | rfl | rfl | rfl | rfl | rfl | rfl | rfl | rfl | rfl | rfl | rfl | rfl | rfl | rfl | rfl | rfl | rfl | rfl | rfl | rfl | rfl | rfl | rfl | rfl | rfl
  · exact (con_of (i := Lib.indexByte (ByteArray.mk #[63, 58, 93, 126]).data.toList (43 : Int).toNat.toUInt8) (fun b g => ir_ascii _ 43 (by omega) (by omega))).trans (by rw [show (decide (0 ≤ Lib.indexByte (ByteArray.mk #[63, 58, 93, 126]).data.toList (43 : Int).toNat.toUInt8)) = isGo 43 from by decide +kernel])
  · exact (con_of (i := Lib.indexByte (ByteArray.mk #[63, 58, 93, 126]).data.toList (45 : Int).toNat.toUInt8) (fun b g => ir_ascii _ 45 (by omega) (by omega))).trans (by rw [show (decide (0 ≤ Lib.indexByte (ByteArray.mk #[63, 58, 93, 126]).data.toList (45 : Int).toNat.toUInt8)) = isGo 45 from by decide +kernel])
  · exact (con_of (i := Lib.indexByte (ByteArray.mk #[63, 58, 93, 126]).data.toList (42 : Int).toNat.toUInt8) (fun b g => ir_ascii _ 42 (by omega) (by omega))).trans (by rw [show (decide (0 ≤ Lib.indexByte (ByteArray.mk #[63, 58, 93, 126]).data.toList (42 : Int).toNat.toUInt8)) = isGo 42 from by decide +kernel])
  · exact (con_of (i := Lib.indexByte (ByteArray.mk #[63, 58, 93, 126]).data.toList (47 : Int).toNat.toUInt8) (fun b g => ir_ascii _ 47 (by omega) (by omega))).trans (by rw [show (decide (0 ≤ Lib.indexByte (ByteArray.mk #[63, 58, 93, 126]).data.toList (47 : Int).toNat.toUInt8)) = isGo 47 from by decide +kernel])
  · exact (con_of (i := Lib.indexByte (ByteArray.mk #[63, 58, 93, 126]).data.toList (37 : Int).toNat.toUInt8) (fun b g => ir_ascii _ 37 (by omega) (by omega))).trans (by rw [show (decide (0 ≤ Lib.indexByte (ByteArray.mk #[63, 58, 93, 126]).data.toList (37 : Int).toNat.toUInt8)) = isGo 37 from by decide +kernel])
  · exact (con_of (i := Lib.indexByte (ByteArray.mk #[63, 58, 93, 126]).data.toList (38 : Int).toNat.toUInt8) (fun b g => ir_ascii _ 38 (by omega) (by omega))).trans (by rw [show (decide (0 ≤ Lib.indexByte (ByteArray.mk #[63, 58, 93, 126]).data.toList (38 : Int).toNat.toUInt8)) = isGo 38 from by decide +kernel])
  · exact (con_of (i := Lib.indexByte (ByteArray.mk #[63, 58, 93, 126]).data.toList (124 : Int).toNat.toUInt8) (fun b g => ir_ascii _ 124 (by omega) (by omega))).trans (by rw [show (decide (0 ≤ Lib.indexByte (ByteArray.mk #[63, 58, 93, 126]).data.toList (124 : Int).toNat.toUInt8)) = isGo 124 from by decide +kernel])
  · exact (con_of (i := Lib.indexByte (ByteArray.mk #[63, 58, 93, 126]).data.toList (94 : Int).toNat.toUInt8) (fun b g => ir_ascii _ 94 (by omega) (by omega))).trans (by rw [show (decide (0 ≤ Lib.indexByte (ByteArray.mk #[63, 58, 93, 126]).data.toList (94 : Int).toNat.toUInt8)) = isGo 94 from by decide +kernel])
  · exact (con_of (i := Lib.indexByte (ByteArray.mk #[63, 58, 93, 126]).data.toList (60 : Int).toNat.toUInt8) (fun b g => ir_ascii _ 60 (by omega) (by omega))).trans (by rw [show (decide (0 ≤ Lib.indexByte (ByteArray.mk #[63, 58, 93, 126]).data.toList (60 : Int).toNat.toUInt8)) = isGo 60 from by decide +kernel])
  · exact (con_of (i := Lib.indexByte (ByteArray.mk #[63, 58, 93, 126]).data.toList (61 : Int).toNat.toUInt8) (fun b g => ir_ascii _ 61 (by omega) (by omega))).trans (by rw [show (decide (0 ≤ Lib.indexByte (ByteArray.mk #[63, 58, 93, 126]).data.toList (61 : Int).toNat.toUInt8)) = isGo 61 from by decide +kernel])
  · exact (con_of (i := Lib.indexByte (ByteArray.mk #[63, 58, 93, 126]).data.toList (33 : Int).toNat.toUInt8) (fun b g => ir_ascii _ 33 (by omega) (by omega))).trans (by rw [show (decide (0 ≤ Lib.indexByte (ByteArray.mk #[63, 58, 93, 126]).data.toList (33 : Int).toNat.toUInt8)) = isGo 33 from by decide +kernel])
  · exact (con_of (i := Lib.indexByte (ByteArray.mk #[63, 58, 93, 126]).data.toList (46 : Int).toNat.toUInt8) (fun b g => ir_ascii _ 46 (by omega) (by omega))).trans (by rw [show (decide (0 ≤ Lib.indexByte (ByteArray.mk #[63, 58, 93, 126]).data.toList (46 : Int).toNat.toUInt8)) = isGo 46 from by decide +kernel])
  · exact (con_of (i := Lib.indexByte (ByteArray.mk #[63, 58, 93, 126]).data.toList (44 : Int).toNat.toUInt8) (fun b g => ir_ascii _ 44 (by omega) (by omega))).trans (by rw [show (decide (0 ≤ Lib.indexByte (ByteArray.mk #[63, 58, 93, 126]).data.toList (44 : Int).toNat.toUInt8)) = isGo 44 from by decide +kernel])
  · exact (con_of (i := Lib.indexByte (ByteArray.mk #[63, 58, 93, 126]).data.toList (64 : Int).toNat.toUInt8) (fun b g => ir_ascii _ 64 (by omega) (by omega))).trans (by rw [show (decide (0 ≤ Lib.indexByte (ByteArray.mk #[63, 58, 93, 126]).data.toList (64 : Int).toNat.toUInt8)) = isGo 64 from by decide +kernel])
  · exact (con_of (i := Lib.indexByte (ByteArray.mk #[63, 58, 93, 126]).data.toList (36 : Int).toNat.toUInt8) (fun b g => ir_ascii _ 36 (by omega) (by omega))).trans (by rw [show (decide (0 ≤ Lib.indexByte (ByteArray.mk #[63, 58, 93, 126]).data.toList (36 : Int).toNat.toUInt8)) = isGo 36 from by decide +kernel])
  · exact (con_of (i := Lib.indexByte (ByteArray.mk #[63, 58, 93, 126]).data.toList (35 : Int).toNat.toUInt8) (fun b g => ir_ascii _ 35 (by omega) (by omega))).trans (by rw [show (decide (0 ≤ Lib.indexByte (ByteArray.mk #[63, 58, 93, 126]).data.toList (35 : Int).toNat.toUInt8)) = isGo 35 from by decide +kernel])
  · exact (con_of (i := Lib.indexByte (ByteArray.mk #[63, 58, 93, 126]).data.toList (63 : Int).toNat.toUInt8) (fun b g => ir_ascii _ 63 (by omega) (by omega))).trans (by rw [show (decide (0 ≤ Lib.indexByte (ByteArray.mk #[63, 58, 93, 126]).data.toList (63 : Int).toNat.toUInt8)) = isGo 63 from by decide +kernel])
  · exact (con_of (i := Lib.indexByte (ByteArray.mk #[63, 58, 93, 126]).data.toList (58 : Int).toNat.toUInt8) (fun b g => ir_ascii _ 58 (by omega) (by omega))).trans (by rw [show (decide (0 ≤ Lib.indexByte (ByteArray.mk #[63, 58, 93, 126]).data.toList (58 : Int).toNat.toUInt8)) = isGo 58 from by decide +kernel])
  · exact (con_of (i := Lib.indexByte (ByteArray.mk #[63, 58, 93, 126]).data.toList (59 : Int).toNat.toUInt8) (fun b g => ir_ascii _ 59 (by omega) (by omega))).trans (by rw [show (decide (0 ≤ Lib.indexByte (ByteArray.mk #[63, 58, 93, 126]).data.toList (59 : Int).toNat.toUInt8)) = isGo 59 from by decide +kernel])
  · exact (con_of (i := Lib.indexByte (ByteArray.mk #[63, 58, 93, 126]).data.toList (91 : Int).toNat.toUInt8) (fun b g => ir_ascii _ 91 (by omega) (by omega))).trans (by rw [show (decide (0 ≤ Lib.indexByte (ByteArray.mk #[63, 58, 93, 126]).data.toList (91 : Int).toNat.toUInt8)) = isGo 91 from by decide +kernel])
  · exact (con_of (i := Lib.indexByte (ByteArray.mk #[63, 58, 93, 126]).data.toList (93 : Int).toNat.toUInt8) (fun b g => ir_ascii _ 93 (by omega) (by omega))).trans (by rw [show (decide (0 ≤ Lib.indexByte (ByteArray.mk #[63, 58, 93, 126]).data.toList (93 : Int).toNat.toUInt8)) = isGo 93 from by decide +kernel])
  · exact (con_of (i := Lib.indexByte (ByteArray.mk #[63, 58, 93, 126]).data.toList (126 : Int).toNat.toUInt8) (fun b g => ir_ascii _ 126 (by omega) (by omega))).trans (by rw [show (decide (0 ≤ Lib.indexByte (ByteArray.mk #[63, 58, 93, 126]).data.toList (126 : Int).toNat.toUInt8)) = isGo 126 from by decide +kernel])
  · exact (con_of (fun b g => ir_a171)).trans rfl
  · exact (con_of (fun b g => ir_a187)).trans rfl
  · exact (con_of (fun b g => ir_a169)).trans rfl
  · exact (con_of (fun b g => ir_a174)).trans rfl
  · exact (con_of (fun b g => ir_a164)).trans rfl
  · exact (con_of (fun b g => ir_a161)).trans rfl
  · exact (con_of (fun b g => ir_a960)).trans rfl
theorem con_b {r : Int} (h : sgG r = true) : call tb prim n_strings_ContainsRune [.str ⟨#[64, 194, 169, 36, 194, 174, 35, 194, 164]⟩, .int .i32 r] bar g = some (.bool (isMemS r), g) := by
  have h' : r = 43 ∨ r = 45 ∨ r = 42 ∨ r = 47 ∨ r = 37 ∨ r = 38 ∨ r = 124 ∨ r = 94 ∨ r = 60 ∨ r = 61 ∨ r = 33 ∨ r = 46 ∨ r = 44 ∨ r = 64 ∨ r = 36 ∨ r = 35 ∨ r = 63 ∨ r = 58 ∨ r = 59 ∨ r = 91 ∨ r = 93 ∨ r = 126 ∨ r = 171 ∨ r = 187 ∨ r = 169 ∨ r = 174 ∨ r = 164 ∨ r = 161 ∨ r = 960 := by simpa [sgG] using h
  rcases h' with rfl | rfl | rfl | rfl | rfl | rfl | rfl | rfl | rfl | rfl | rfl | rfl | rfl | rfl | rfl | rfl | rfl | rfl | rfl | rfl | rfl | rfl | rfl | rfl | rfl | rfl | rfl | rfl | rfl
  · exact (con_of (i := Lib.indexByte (ByteArray.mk #[64, 194, 169, 36, 194, 174, 35, 194, 164]).data.toList (43 : Int).toNat.toUInt8) (fun b g => ir_ascii _ 43 (by omega) (by omega))).trans (by rw [show (decide (0 ≤ Lib.indexByte (ByteArray.mk #[64, 194, 169, 36, 194, 174, 35, 194, 164]).data.toList (43 : Int).toNat.toUInt8)) = isMemS 43 from by decide +kernel])
  · exact (con_of (i := Lib.indexByte (ByteArray.mk #[64, 194, 169, 36, 194, 174, 35, 194, 164]).data.toList (45 : Int).toNat.toUInt8) (fun b g => ir_ascii _ 45 (by omega) (by omega))).trans (by rw [show (decide (0 ≤ Lib.indexByte (ByteArray.mk #[64, 194, 169, 36, 194, 174, 35, 194, 164]).data.toList (45 : Int).toNat.toUInt8)) = isMemS 45 from by decide +kernel])
  · exact (con_of (i := Lib.indexByte (ByteArray.mk #[64, 194, 169, 36, 194, 174, 35, 194, 164]).data.toList (42 : Int).toNat.toUInt8) (fun b g => ir_ascii _ 42 (by omega) (by omega))).trans (by rw [show (decide (0 ≤ Lib.indexByte (ByteArray.mk #[64, 194, 169, 36, 194, 174, 35, 194, 164]).data.toList (42 : Int).toNat.toUInt8)) = isMemS 42 from by decide +kernel])
  · exact (con_of (i := Lib.indexByte (ByteArray.mk #[64, 194, 169, 36, 194, 174, 35, 194, 164]).data.toList (47 : Int).toNat.toUInt8) (fun b g => ir_ascii _ 47 (by omega) (by omega))).trans (by rw [show (decide (0 ≤ Lib.indexByte (ByteArray.mk #[64, 194, 169, 36, 194, 174, 35, 194, 164]).data.toList (47 : Int).toNat.toUInt8)) = isMemS 47 from by decide +kernel])
  · exact (con_of (i := Lib.indexByte (ByteArray.mk #[64, 194, 169, 36, 194, 174, 35, 194, 164]).data.toList (37 : Int).toNat.toUInt8) (fun b g => ir_ascii _ 37 (by omega) (by omega))).trans (by rw [show (decide (0 ≤ Lib.indexByte (ByteArray.mk #[64, 194, 169, 36, 194, 174, 35, 194, 164]).data.toList (37 : Int).toNat.toUInt8)) = isMemS 37 from by decide +kernel])
  · exact (con_of (i := Lib.indexByte (ByteArray.mk #[64, 194, 169, 36, 194, 174, 35, 194, 164]).data.toList (38 : Int).toNat.toUInt8) (fun b g => ir_ascii _ 38 (by omega) (by omega))).trans (by rw [show (decide (0 ≤ Lib.indexByte (ByteArray.mk #[64, 194, 169, 36, 194, 174, 35, 194, 164]).data.toList (38 : Int).toNat.toUInt8)) = isMemS 38 from by decide +kernel])
  · exact (con_of (i := Lib.indexByte (ByteArray.mk #[64, 194, 169, 36, 194, 174, 35, 194, 164]).data.toList (124 : Int).toNat.toUInt8) (fun b g => ir_ascii _ 124 (by omega) (by omega))).trans (by rw [show (decide (0 ≤ Lib.indexByte (ByteArray.mk #[64, 194, 169, 36, 194, 174, 35, 194, 164]).data.toList (124 : Int).toNat.toUInt8)) = isMemS 124 from by decide +kernel])
  · exact (con_of (i := Lib.indexByte (ByteArray.mk #[64, 194, 169, 36, 194, 174, 35, 194, 164]).data.toList (94 : Int).toNat.toUInt8) (fun b g => ir_ascii _ 94 (by omega) (by omega))).trans (by rw [show (decide (0 ≤ Lib.indexByte (ByteArray.mk #[64, 194, 169, 36, 194, 174, 35, 194, 164]).data.toList (94 : Int).toNat.toUInt8)) = isMemS 94 from by decide +kernel])
  · exact (con_of (i := Lib.indexByte (ByteArray.mk #[64, 194, 169, 36, 194, 174, 35, 194, 164]).data.toList (60 : Int).toNat.toUInt8) (fun b g => ir_ascii _ 60 (by omega) (by omega))).trans (by rw [show (decide (0 ≤ Lib.indexByte (ByteArray.mk #[64, 194, 169, 36, 194, 174, 35, 194, 164]).data.toList (60 : Int).toNat.toUInt8)) = isMemS 60 from by decide +kernel])
  · exact (con_of (i := Lib.indexByte (ByteArray.mk #[64, 194, 169, 36, 194, 174, 35, 194, 164]).data.toList (61 : Int).toNat.toUInt8) (fun b g => ir_ascii _ 61 (by omega) (by omega))).trans (by rw [show (decide (0 ≤ Lib.indexByte (ByteArray.mk #[64, 194, 169, 36, 194, 174, 35, 194, 164]).data.toList (61 : Int).toNat.toUInt8)) = isMemS 61 from by decide +kernel])
  · exact (con_of (i := Lib.indexByte (ByteArray.mk #[64, 194, 169, 36, 194, 174, 35, 194, 164]).data.toList (33 : Int).toNat.toUInt8) (fun b g => ir_ascii _ 33 (by omega) (by omega))).trans (by rw [show (decide (0 ≤ Lib.indexByte (ByteArray.mk #[64, 194, 169, 36, 194, 174, 35, 194, 164]).data.toList (33 : Int).toNat.toUInt8)) = isMemS 33 from by decide +kernel])
  · exact (con_of (i := Lib.indexByte (ByteArray.mk #[64, 194, 169, 36, 194, 174, 35, 194, 164]).data.toList (46 : Int).toNat.toUInt8) (fun b g => ir_ascii _ 46 (by omega) (by omega))).trans (by rw [show (decide (0 ≤ Lib.indexByte (ByteArray.mk #[64, 194, 169, 36, 194, 174, 35, 194, 164]).data.toList (46 : Int).toNat.toUInt8)) = isMemS 46 from by decide +kernel])
  · exact (con_of (i := Lib.indexByte (ByteArray.mk #[64, 194, 169, 36, 194, 174, 35, 194, 164]).data.toList (44 : Int).toNat.toUInt8) (fun b g => ir_ascii _ 44 (by omega) (by omega))).trans (by rw [show (decide (0 ≤ Lib.indexByte (ByteArray.mk #[64, 194, 169, 36, 194, 174, 35, 194, 164]).data.toList (44 : Int).toNat.toUInt8)) = isMemS 44 from by decide +kernel])
  · exact (con_of (i := Lib.indexByte (ByteArray.mk #[64, 194, 169, 36, 194, 174, 35, 194, 164]).data.toList (64 : Int).toNat.toUInt8) (fun b g => ir_ascii _ 64 (by omega) (by omega))).trans (by rw [show (decide (0 ≤ Lib.indexByte (ByteArray.mk #[64, 194, 169, 36, 194, 174, 35, 194, 164]).data.toList (64 : Int).toNat.toUInt8)) = isMemS 64 from by decide +kernel])
  · exact (con_of (i := Lib.indexByte (ByteArray.mk #[64, 194, 169, 36, 194, 174, 35, 194, 164]).data.toList (36 : Int).toNat.toUInt8) (fun b g => ir_ascii _ 36 (by omega) (by omega))).trans (by rw [show (decide (0 ≤ Lib.indexByte (ByteArray.mk #[64, 194, 169, 36, 194, 174, 35, 194, 164]).data.toList (36 : Int).toNat.toUInt8)) = isMemS 36 from by decide +kernel])
  · exact (con_of (i := Lib.indexByte (ByteArray.mk #[64, 194, 169, 36, 194, 174, 35, 194, 164]).data.toList (35 : Int).toNat.toUInt8) (fun b g => ir_ascii _ 35 (by omega) (by omega))).trans (by rw [show (decide (0 ≤ Lib.indexByte (ByteArray.mk #[64, 194, 169, 36, 194, 174, 35, 194, 164]).data.toList (35 : Int).toNat.toUInt8)) = isMemS 35 from by decide +kernel])
  · exact (con_of (i := Lib.indexByte (ByteArray.mk #[64, 194, 169, 36, 194, 174, 35, 194, 164]).data.toList (63 : Int).toNat.toUInt8) (fun b g => ir_ascii _ 63 (by omega) (by omega))).trans (by rw [show (decide (0 ≤ Lib.indexByte (ByteArray.mk #[64, 194, 169, 36, 194, 174, 35, 194, 164]).data.toList (63 : Int).toNat.toUInt8)) = isMemS 63 from by decide +kernel])
  · exact (con_of (i := Lib.indexByte (ByteArray.mk #[64, 194, 169, 36, 194, 174, 35, 194, 164]).data.toList (58 : Int).toNat.toUInt8) (fun b g => ir_ascii _ 58 (by omega) (by omega))).trans (by rw [show (decide (0 ≤ Lib.indexByte (ByteArray.mk #[64, 194, 169, 36, 194, 174, 35, 194, 164]).data.toList (58 : Int).toNat.toUInt8)) = isMemS 58 from by decide +kernel])
  · exact (con_of (i := Lib.indexByte (ByteArray.mk #[64, 194, 169, 36, 194, 174, 35, 194, 164]).data.toList (59 : Int).toNat.toUInt8) (fun b g => ir_ascii _ 59 (by omega) (by omega))).trans (by rw [show (decide (0 ≤ Lib.indexByte (ByteArray.mk #[64, 194, 169, 36, 194, 174, 35, 194, 164]).data.toList (59 : Int).toNat.toUInt8)) = isMemS 59 from by decide +kernel])
  · exact (con_of (i := Lib.indexByte (ByteArray.mk #[64, 194, 169, 36, 194, 174, 35, 194, 164]).data.toList (91 : Int).toNat.toUInt8) (fun b g => ir_ascii _ 91 (by omega) (by omega))).trans (by rw [show (decide (0 ≤ Lib.indexByte (ByteArray.mk #[64, 194, 169, 36, 194, 174, 35, 194, 164]).data.toList (91 : Int).toNat.toUInt8)) = isMemS 91 from by decide +kernel])
  · exact (con_of (i := Lib.indexByte (ByteArray.mk #[64, 194, 169, 36, 194, 174, 35, 194, 164]).data.toList (93 : Int).toNat.toUInt8) (fun b g => ir_ascii _ 93 (by omega) (by omega))).trans (by rw [show (decide (0 ≤ Lib.indexByte (ByteArray.mk #[64, 194, 169, 36, 194, 174, 35, 194, 164]).data.toList (93 : Int).toNat.toUInt8)) = isMemS 93 from by decide +kernel])
  · exact (con_of (i := Lib.indexByte (ByteArray.mk #[64, 194, 169, 36, 194, 174, 35, 194, 164]).data.toList (126 : Int).toNat.toUInt8) (fun b g => ir_ascii _ 126 (by omega) (by omega))).trans (by rw [show (decide (0 ≤ Lib.indexByte (ByteArray.mk #[64, 194, 169, 36, 194, 174, 35, 194, 164]).data.toList (126 : Int).toNat.toUInt8)) = isMemS 126 from by decide +kernel])
  · exact (con_of (fun b g => ir_b171)).trans rfl
  · exact (con_of (fun b g => ir_b187)).trans rfl
  · exact (con_of (fun b g => ir_b169)).trans rfl
  · exact (con_of (fun b g => ir_b174)).trans rfl
  · exact (con_of (fun b g => ir_b164)).trans rfl
  · exact (con_of (fun b g => ir_b161)).trans rfl
  · exact (con_of (fun b g => ir_b960)).trans rfl
end
end Go.Ev
set_option linter.unusedSectionVars false
namespace Go.Ev
open Go
/-- Whose an object is; objects from n on are k's. -/
def ext (own : Nat → Nat) (n k : Nat) : Nat → Nat := fun j => if j < n then own j else k
def At (own : Nat → Nat) (a : AV) (k : Nat) : Prop := ∀ j, a.isAt j → own j = k
/-- Nothing has turned but what belongs to S. -/
def Kp (own : Nat → Nat) (S : Nat → Prop) (g g' : H) : Prop := g.n ≤ g'.n ∧ ∀ j, j < g.n → ¬ S (own j) → g'.get j = g.get j
def Agr (n : Nat) (own own' : Nat → Nat) : Prop := ∀ j, j < n → own' j = own j
theorem Agr.ext {own : Nat → Nat} {n k : Nat} : Agr n own (ext own n k) := fun j hj => by simp [Go.Ev.ext, hj]
theorem Agr.refl {own : Nat → Nat} {n : Nat} : Agr n own own := fun _ _ => rfl
theorem Agr.trans {a b c : Nat → Nat} {n m : Nat} (h : Agr n a b) (h2 : Agr m b c) (hn : n ≤ m) : Agr n a c := fun j hj => (h2 j (by omega)).trans (h j hj)
theorem Kp.trans {own own' : Nat → Nat} {S : Nat → Prop} {g g' g'' : H} (h : Kp own S g g') (ha : Agr g.n own own') (h2 : Kp own' S g' g'') : Kp own S g g'' :=
  ⟨by have := h.1; have := h2.1; omega, fun j hj hs => by rw [h2.2 j (by have := h.1; omega) (by rw [ha j hj]; exact hs), h.2 j hj hs]⟩
theorem Kp.le {own : Nat → Nat} {S T : Nat → Prop} {g g' : H} (h : Kp own S g g') (hst : ∀ k, S k → T k) : Kp own T g g' := ⟨h.1, fun j hj hs => h.2 j hj fun q => hs (hst _ q)⟩
theorem Kp.refl {own : Nat → Nat} {S : Nat → Prop} {g : H} : Kp own S g g := ⟨Nat.le_refl _, fun _ _ _ => rfl⟩
def CodeV (c : Code') (la ta : AV) : Prop := (FzV 3 la c.l.length (c.l.flatMap Tok.cells) ∧ FzV 1 ta c.to.length (c.to.flatMap i64c)) ∧ c.l.length ≤ 2000 ∧ c.to.length ≤ 2000 ∧ ∀ x ∈ c.to, x ≤ 2000
structure FrO (g : H) (b : Nat) (own : Nat → Nat) (t : Nat) (f : Fm) (id : Nat) : Prop where
  ex : ∃ la ta sa, FrV g b f id la ta sa ∧ At own sa (2 * t + 11) ∧ CodeV f.c la ta
  own : own id = 2 * t + 10
theorem FrO.mono {g g' : H} {b : Nat} {own own' : Nat → Nat} {S : Nat → Prop} {t : Nat} {f : Fm} {id : Nat} (v : FrO g b own t f id) (k : Kp own S g g') (a : Agr g.n own own') (h1 : ¬ S (2 * t + 10)) (h2 : ¬ S (2 * t + 11)) : FrO g' b own' t f id := by
  obtain ⟨⟨la, ta, sa, hv, hs, hc⟩, ho⟩ := v
  refine ⟨⟨la, ta, sa, hv.mono k.1 (k.2 id hv.lt (by rw [ho]; exact h1)) (fun j hj => k.2 j (hv.st.at_lt hj).2 (by rw [hs j hj]; exact h2)), fun j hj => by rw [a j (hv.st.at_lt hj).2]; exact hs j hj, hc⟩, by rw [a id hv.lt]; exact ho⟩
def FrsV (g : H) (b : Nat) (own : Nat → Nat) : List Fm → List Nat → Prop
  | [], [] => True
  | f :: r, id :: l => FrO g b own r.length f id ∧ FrsV g b own r l
  | _, _ => False
theorem FrsV.len {g : H} {b : Nat} {own : Nat → Nat} : ∀ {fr : List Fm} {l : List Nat}, FrsV g b own fr l → l.length = fr.length
  | [], [], _ => rfl
  | _ :: r, _ :: l, h => by simp [FrsV.len h.2]
theorem FrsV.mono {g g' : H} {b : Nat} {own own' : Nat → Nat} {S : Nat → Prop} (k : Kp own S g g') (a : Agr g.n own own') : ∀ {fr : List Fm} {l : List Nat}, FrsV g b own fr l → (∀ t, t < fr.length → ¬ S (2 * t + 10) ∧ ¬ S (2 * t + 11)) → FrsV g' b own' fr l
  | [], [], _, _ => trivial
  | f :: r, id :: l, h, hs => ⟨h.1.mono k a (hs r.length (by simp)).1 (hs r.length (by simp)).2, FrsV.mono k a h.2 fun t ht => hs t (by simp; omega)⟩
structure MemO (g : H) (b : Nat) (own : Nat → Nat) (M : Nat) (m : Mem) : Prop where
  ex : ∃ ba da, MemV g b M m ba da ∧ At own ba 4 ∧ At own da 5
  own : own M = 3
theorem MemO.mono {g g' : H} {b : Nat} {own own' : Nat → Nat} {S : Nat → Prop} {M : Nat} {m : Mem} (v : MemO g b own M m) (k : Kp own S g g') (a : Agr g.n own own') (h : ¬ S 3 ∧ ¬ S 4 ∧ ¬ S 5) : MemO g' b own' M m := by
  obtain ⟨⟨ba, da, hv, h1, h2⟩, ho⟩ := v
  refine ⟨⟨ba, da, hv.mono k.1 (k.2 M hv.lt (by rw [ho]; exact h.1)) (fun j hj => k.2 j (hv.ob.at_lt hj).2 (by rw [h1 j hj]; exact h.2.1)) (fun j hj => k.2 j (hv.od.at_lt hj).2 (by rw [h2 j hj]; exact h.2.2)), fun j hj => by rw [a j (hv.ob.at_lt hj).2]; exact h1 j hj, fun j hj => by rw [a j (hv.od.at_lt hj).2]; exact h2 j hj⟩, by rw [a M hv.lt]; exact ho⟩
structure RowO (g : H) (b : Nat) (own : Nat → Nat) (R : Nat) (r : Row) : Prop where
  ex : ∃ la aa, RowV g b R r la aa ∧ At own la 7 ∧ At own aa 8
  own : own R = 6
theorem RowO.mono {g g' : H} {b : Nat} {own own' : Nat → Nat} {S : Nat → Prop} {R : Nat} {r : Row} (v : RowO g b own R r) (k : Kp own S g g') (a : Agr g.n own own') (h : ¬ S 6 ∧ ¬ S 7 ∧ ¬ S 8) : RowO g' b own' R r := by
  obtain ⟨⟨la, aa, hv, h1, h2⟩, ho⟩ := v
  refine ⟨⟨la, aa, hv.mono k.1 (k.2 R hv.lt (by rw [ho]; exact h.1)) (fun j hj => k.2 j (hv.l.at_lt' hj) (by rw [h1 j hj]; exact h.2.1)) (fun j hj => k.2 j (hv.asks.at_lt hj).2 (by rw [h2 j hj]; exact h.2.2)), fun j hj => by rw [a j (hv.l.at_lt' hj)]; exact h1 j hj, fun j hj => by rw [a j (hv.asks.at_lt hj).2]; exact h2 j hj⟩, by rw [a R hv.lt]; exact ho⟩
/-- What stays as it is through a run: the program, its codes, where memory and answers are. -/
structure Cx where
  X : Nat
  p : Int
  mo : Int
  fa : AV
  fs : List Fn
  ca : AV
  rows : List (AV × AV × Code')
  M : Nat
  R : Nat
def cdC (x : AV × AV × Code') : List AV := [x.1, x.2.1, .int .i64 x.2.2.args]
structure CxV (g : H) (own : Nat → Nat) (C : Cx) : Prop where
  fs : FV g C.fa C.fs
  fo : At own C.fa 0
  ca : FzV 3 C.ca C.rows.length (C.rows.flatMap cdC)
  cd : ∀ x ∈ C.rows, CodeV x.2.2 x.1 x.2.1 ∧ 0 ≤ x.2.2.args ∧ x.2.2.args ≤ 26
theorem CxV.mono {g g' : H} {own own' : Nat → Nat} {S : Nat → Prop} {C : Cx} (v : CxV g own C) (k : Kp own S g g') (a : Agr g.n own own') (h : ¬ S 0) : CxV g' own' C :=
  ⟨v.fs.keep k.1 (fun j hj => k.2 j (v.fs.at_lt' hj) (by rw [v.fo j hj]; exact h)), fun j hj => by rw [a j (v.fs.at_lt' hj)]; exact v.fo j hj, v.ca, v.cd⟩
def xC (C : Cx) (fra : AV) (tr val : Int) : List AV := [.int .i64 C.p, .int .i64 C.mo, C.fa, C.ca, .ptr C.M 0, .ptr C.R 0, fra, .int .i64 tr, .int .i64 val]
/-- The runner's own object, its frames' list. -/
structure XO (g : H) (b : Nat) (own : Nat → Nat) (C : Cx) (tr val : Int) (ids : List Nat) : Prop where
  ex : ∃ fra, g.get C.X = some (.cells (xC C fra tr val) 0) ∧ OW 1 g b fra ids.length (ids.reverse.map fun i => .ptr i 0) ∧ At own fra 2
  own : own C.X = 1
  bX : b ≤ C.X
  lt : C.X < g.n
  sm : ids.length ≤ 1000
theorem XO.mono {g g' : H} {b : Nat} {own own' : Nat → Nat} {S : Nat → Prop} {C : Cx} {tr val : Int} {ids : List Nat} (v : XO g b own C tr val ids) (k : Kp own S g g') (a : Agr g.n own own') (h : ¬ S 1 ∧ ¬ S 2) : XO g' b own' C tr val ids := by
  obtain ⟨⟨fra, h1, h2, h3⟩, ho, hb, hl, hs⟩ := v
  exact ⟨⟨fra, by rw [k.2 _ hl (by rw [ho]; exact h.1)]; exact h1, h2.mono k.1 (fun j hj => k.2 j (h2.at_lt hj).2 (by rw [h3 j hj]; exact h.2)), fun j hj => by rw [a j (h2.at_lt hj).2]; exact h3 j hj⟩, by rw [a _ hl]; exact ho, hb, by have := k.1; omega, hs⟩
/-- All of it. -/
structure XV (g : H) (b : Nat) (own : Nat → Nat) (C : Cx) (s : Mc) (val : Int) (ids : List Nat) : Prop where
  x : XO g b own C s.trap val ids
  cx : CxV g own C
  fr : FrsV g b own s.fr ids
  m : MemO g b own C.M s.m
  r : RowO g b own C.R s.r
  bn : b ≤ g.n
section
variable {bar b : Nat} {g : H} {own : Nat → Nat} {C : Cx} {tr val : Int} {ids : List Nat}
theorem stop_ok (v : XO g b own C tr val ids) (hb : bar ≤ b) (ok : Bool) (t : Int) :
    ∃ g', call tb prim n_engine_runner_stop [.ptr C.X 0, .bool ok, .int .i64 t] bar g = some (.tup [], g') ∧ XO g' b own C (trapIf ok t tr) val ids ∧ Kp own (fun k => k = 1) g g' ∧ g'.n = g.n := by
  obtain ⟨⟨fra, h1, h2, h3⟩, ho, hbX, hl, hs⟩ := v
  have hbx : bar ≤ C.X := Nat.le_trans hb hbX
  cases ok with
  | true =>
    obtain ⟨x, g2, hcall, rfl, rfl⟩ := callF_K (o := call tb prim) (F := f_engine_runner_stop) (bar := bar) (h := g) (args := [.ptr C.X 0, .bool true, .int .i64 t]) (P := fun x g2 => x = .tup [] ∧ g2 = g) rfl rfl (fun K hK => by
      simp [f_engine_runner_stop, env0, go_sem, get_alloc, n_alloc, get_set, n_set, get_kill, n_kill, writeAt, a11, a21, a31, a41, a51, a61, a71]
      simp [go_sem, endP, endI, resultsA, resultA, freezeL, freezeV, AV.free.freeL, AV.free, packA, dropS]
      exact ⟨_, _, ⟨rfl, rfl⟩, hK _ _ ⟨rfl, rfl⟩⟩)
    exact ⟨_, call_of tb_engine_runner_stop hcall, ⟨⟨fra, h1, h2, h3⟩, ho, hbX, hl, hs⟩, Kp.refl, rfl⟩
  | false =>
    have hsp : splice (xC C fra tr val) 7 [.int .i64 t] = xC C fra t val := rfl
    have hle : 7 + 1 ≤ (xC C fra tr val).length := by simp [xC]
    obtain ⟨cs, hcs⟩ : ∃ cs, cs = xC C fra tr val := ⟨_, rfl⟩
    rw [← hcs] at h1 hsp hle
    obtain ⟨x, g2, hcall, rfl, rfl⟩ := callF_K (o := call tb prim) (F := f_engine_runner_stop) (bar := bar) (h := g) (args := [.ptr C.X 0, .bool false, .int .i64 t]) (P := fun x g2 => x = .tup [] ∧ g2 = g.set C.X (.cells (xC C fra t val) 0)) rfl rfl (fun K hK => by
      simp [f_engine_runner_stop, env0, go_sem, get_alloc, n_alloc, get_set, n_set, get_kill, n_kill, writeAt, a11, a21, a31, a41, a51, a61, a71, isNil, h1, hle, hsp, hbx]
      simp [go_sem, endP, endI, resultsA, resultA, freezeL, freezeV, AV.free.freeL, AV.free, packA, dropS]
      exact ⟨_, _, ⟨rfl, rfl⟩, hK _ _ ⟨rfl, rfl⟩⟩)
    refine ⟨_, call_of tb_engine_runner_stop hcall, ⟨⟨fra, by rw [get_set, if_pos rfl]; rfl, h2.mono (Nat.le_refl _) (fun j hj => get_set_ne (fun q => by have := h3 j hj; rw [q, ho] at this; omega)), h3⟩, ho, hbX, hl, hs⟩, ⟨Nat.le_refl _, fun j hj hsj => get_set_ne (fun q => hsj (by rw [q]; exact ho))⟩, rfl⟩
end
end Go.Ev
set_option linter.unusedSectionVars false
namespace Go.Ev
open Go
def tS (t : Nat) : Nat → Prop := fun k => k = 2 * t + 10 ∨ k = 2 * t + 11
section
variable {bar b : Nat} {g : H} {own : Nat → Nat} {t : Nat} {f : Fm} {id : Nat}
theorem push_o (v : FrO g b own t f id) (hb : bar ≤ b) (hbg : b ≤ g.n) (hs : f.st.length < 3000000) (n : Int) :
    ∃ g' own', call tb prim n_engine_frame_push [.ptr id 0, .int .i64 n] bar g = some (.tup [], g') ∧ FrO g' b own' t { f with st := n :: f.st } id ∧ Kp own (tS t) g g' ∧ Agr g.n own own' := by
  obtain ⟨⟨la, ta, sa, hv, hsa, hc⟩, ho⟩ := v
  obtain ⟨g', sa', e, hv', hge, hn, hk⟩ := push_ok (bar := bar) hv hb hbg hs n
  refine ⟨g', ext own g.n (2 * t + 11), e, ⟨⟨la, ta, sa', hv', fun j hj => by have := hge j hj; simp [ext]; omega, hc⟩, by rw [Agr.ext id hv.lt]; exact ho⟩, ⟨hn, fun j hj hns => hk j hj (fun q => hns (.inl (by rw [q]; exact ho))) (fun q => hns (.inr (hsa j q)))⟩, Agr.ext⟩
theorem pop_o {n : Int} {st : List Int} (v : FrO g b own t f id) (hst : f.st = n :: st) (hb : bar ≤ b) :
    ∃ g', call tb prim n_engine_frame_pop [.ptr id 0] bar g = some (.int .i64 n, g') ∧ FrO g' b own t { f with st := st } id ∧ Kp own (tS t) g g' := by
  obtain ⟨⟨la, ta, sa, hv, hsa, hc⟩, ho⟩ := v
  obtain ⟨g', sa', e, hv', hge, hn, hk⟩ := pop_ok (bar := bar) hv hst hb
  exact ⟨g', e, ⟨⟨la, ta, sa', hv', fun j hj => hsa j (hge j hj), hc⟩, ho⟩, ⟨by omega, fun j hj hns => hk j (fun q => hns (.inl (by rw [q]; exact ho)))⟩⟩
/-- The frame's own cells turn, its values do not. -/
theorem FrO.setC {g' : H} {p : Nat} {loc : List Int} {la ta sa : AV} (hv : FrV g b f id la ta sa) (hsa : At own sa (2 * t + 11)) (hc : CodeV f.c la ta) (ho : own id = 2 * t + 10) (hl : loc.length = 26) (hp : p ≤ 100000) (hg : g' = g.set id (.cells (frC la ta f.c.args p loc sa) 0)) :
    FrO g' b own t { f with at' := p, loc := loc } id ∧ Kp own (tS t) g g' := by
  subst hg
  exact ⟨⟨⟨la, ta, sa, ⟨by simp [get_set], hv.bid, hv.lt, hl, hv.st.mono (Nat.le_refl _) (fun j hj => get_set_ne (fun q => hv.ne (q ▸ hj))), hv.ne, hv.small, hp⟩, hsa, hc⟩, ho⟩, ⟨Nat.le_refl _, fun j hj hns => get_set_ne (fun q => hns (.inl (by rw [q]; exact ho)))⟩⟩
/-- Where 'to' leads. -/
theorem to_get {ta : AV} {l : List Int} (hz : FzV 1 ta l.length (l.flatMap i64c)) {i : Nat} {j : Int} (hi : l[i]? = some j) : ∃ n cs full, ta = .fz 1 n cs full ∧ (cs.length = n) = True ∧ cs[i]? = some (.int .i64 j) ∧ i < n := by
  have hlt := (List.getElem?_eq_some_iff.mp hi).1
  obtain ⟨h1, h2, ⟨_, e⟩ | ⟨full, e⟩⟩ := hz
  · omega
  · refine ⟨l.length, _, full, e, by simpa using h1, ?_, hlt⟩
    have := flat_get0 (c := i64c) (k := 1) (fun _ => rfl) l i j (by omega) hi
    rw [Nat.mul_one] at this; rw [this]; rfl
/-- Another than '?': there. -/
theorem goes_to (v : FrO g b own t f id) (hb : bar ≤ b) {j : Nat} (hj : f.c.to[f.at']? = some (j : Int)) (X : AV) {s : Int} (hs : s ≠ 63) :
    ∃ g', call tb prim n_engine_runner_goes [X, .ptr id 0, .int .i32 s] bar g = some (.tup [], g') ∧ FrO g' b own t { f with at' := j } id ∧ Kp own (tS t) g g' := by
  obtain ⟨⟨la, ta, sa, hv, hsa, hc⟩, ho⟩ := v
  have hc' := hc
  obtain ⟨⟨hc1, hc2⟩, hc3, hc4, hc5⟩ := hc'
  obtain ⟨n, cs, full, rfl, hcl, hcj, hin⟩ := to_get hc2 hj
  have hjb := hc5 _ (List.mem_of_getElem? hj)
  have hfin := FrO.setC (g' := g.set id (.cells (frC la (.fz 1 n cs full) f.c.args j f.loc sa) 0)) hv hsa hc ho hv.loc (by omega : j ≤ 100000) rfl
  have hl := hv.loc
  have hget := hv.get
  have h1 : (frC la (.fz 1 n cs full) f.c.args f.at' f.loc sa)[1]? = some (.fz 1 n cs full) := frC_1
  have h3 : (frC la (.fz 1 n cs full) f.c.args f.at' f.loc sa)[3]? = some (.int .i64 f.at') := frC_3
  have hle : 3 + 1 ≤ (frC la (.fz 1 n cs full) f.c.args f.at' f.loc sa).length := by rw [frC_len hl]; omega
  have hsp : splice (frC la (.fz 1 n cs full) f.c.args f.at' f.loc sa) 3 [.int .i64 (j : Int)] = frC la (.fz 1 n cs full) f.c.args j f.loc sa := frC_set3
  have hix : indexIn (.int .i64 (f.at' : Int)) n = some f.at' := by simp only [indexIn]; rw [if_pos (by omega), Int.toNat_natCast]
  have hbid : bar ≤ id := Nat.le_trans hb hv.bid
  have hs' : (s == 63) = false := by simpa using hs
  obtain ⟨fc, hfc⟩ : ∃ fc, fc = frC la (.fz 1 n cs full) f.c.args f.at' f.loc sa := ⟨_, rfl⟩
  rw [← hfc] at hget h1 h3 hle hsp
  obtain ⟨x, g2, hcall, rfl, rfl⟩ := callF_K (o := call tb prim) (F := f_engine_runner_goes) (bar := bar) (h := g) (args := [X, .ptr id 0, .int .i32 s]) (P := fun x g2 => x = .tup [] ∧ g2 = g.set id (.cells (frC la (.fz 1 n cs full) f.c.args j f.loc sa) 0)) rfl rfl (fun K hK => by
    simp [f_engine_runner_goes, env0, go_sem, get_alloc, n_alloc, get_set, n_set, get_kill, n_kill, writeAt, a11, a21, a31, a41, a51, a61, a71, isNil, hs', hget, h1, h3, hix, hcl, hcj, hle, hsp, hbid]
    simp [go_sem, endP, endI, resultsA, resultA, freezeL, freezeV, AV.free.freeL, AV.free, packA, dropS]
    exact ⟨_, _, ⟨rfl, rfl⟩, hK _ _ ⟨rfl, rfl⟩⟩)
  exact ⟨_, call_of tb_engine_runner_goes hcall, hfin⟩
/-- '?', with a nought on top: there. -/
theorem goes_0 {st : List Int} (v : FrO g b own t f id) (hst : f.st = 0 :: st) (hb : bar ≤ b) {j : Nat} (hj : f.c.to[f.at']? = some (j : Int)) (X : AV) :
    ∃ g', call tb prim n_engine_runner_goes [X, .ptr id 0, .int .i32 63] bar g = some (.tup [], g') ∧ FrO g' b own t { f with at' := j, st := st } id ∧ Kp own (tS t) g g' := by
  obtain ⟨g1, e1, v1, k1⟩ := pop_o v hst hb
  obtain ⟨⟨la, ta, sa, hv, hsa, hc⟩, ho⟩ := v1
  have hc' := hc
  obtain ⟨⟨hc1, hc2⟩, hc3, hc4, hc5⟩ := hc'
  simp only at hc2 hc5
  obtain ⟨n, cs, full, rfl, hcl, hcj, hin⟩ := to_get hc2 hj
  have hjb := hc5 _ (List.mem_of_getElem? hj)
  have hfin := FrO.setC (g' := g1.set id (.cells (frC la (.fz 1 n cs full) f.c.args j f.loc sa) 0)) hv hsa hc ho hv.loc (by omega : j ≤ 100000) rfl
  have hl := hv.loc
  have hget := hv.get
  simp only at hl hget
  have h1 : (frC la (.fz 1 n cs full) f.c.args f.at' f.loc sa)[1]? = some (.fz 1 n cs full) := frC_1
  have h3 : (frC la (.fz 1 n cs full) f.c.args f.at' f.loc sa)[3]? = some (.int .i64 f.at') := frC_3
  have hle : 3 + 1 ≤ (frC la (.fz 1 n cs full) f.c.args f.at' f.loc sa).length := by rw [frC_len hl]; omega
  have hsp : splice (frC la (.fz 1 n cs full) f.c.args f.at' f.loc sa) 3 [.int .i64 (j : Int)] = frC la (.fz 1 n cs full) f.c.args j f.loc sa := frC_set3
  have hix : indexIn (.int .i64 (f.at' : Int)) n = some f.at' := by simp only [indexIn]; rw [if_pos (by omega), Int.toNat_natCast]
  have hbid : bar ≤ id := Nat.le_trans hb hv.bid
  obtain ⟨fc, hfc⟩ : ∃ fc, fc = frC la (.fz 1 n cs full) f.c.args f.at' f.loc sa := ⟨_, rfl⟩
  rw [← hfc] at hget h1 h3 hle hsp
  obtain ⟨x, g2, hcall, rfl, rfl⟩ := callF_K (o := call tb prim) (F := f_engine_runner_goes) (bar := bar) (h := g) (args := [X, .ptr id 0, .int .i32 63]) (P := fun x g2 => x = .tup [] ∧ g2 = g1.set id (.cells (frC la (.fz 1 n cs full) f.c.args j f.loc sa) 0)) rfl rfl (fun K hK => by
    simp [f_engine_runner_goes, env0, go_sem, get_alloc, n_alloc, get_set, n_set, get_kill, n_kill, writeAt, a11, a21, a31, a41, a51, a61, a71, isNil, e1, hget, h1, h3, hix, hcl, hcj, hle, hsp, hbid]
    simp [go_sem, endP, endI, resultsA, resultA, freezeL, freezeV, AV.free.freeL, AV.free, packA, dropS]
    exact ⟨_, _, ⟨rfl, rfl⟩, hK _ _ ⟨rfl, rfl⟩⟩)
  exact ⟨_, call_of tb_engine_runner_goes hcall, hfin.1, k1.trans Agr.refl hfin.2⟩
/-- '?', with another number on top: on. -/
theorem goes_1 {n : Int} {st : List Int} (v : FrO g b own t f id) (hst : f.st = n :: st) (hn : n ≠ 0) (hb : bar ≤ b) (ha : f.at' < f.c.l.length) (X : AV) :
    ∃ g', call tb prim n_engine_runner_goes [X, .ptr id 0, .int .i32 63] bar g = some (.tup [], g') ∧ FrO g' b own t { f with at' := f.at' + 1, st := st } id ∧ Kp own (tS t) g g' := by
  obtain ⟨g1, e1, v1, k1⟩ := pop_o v hst hb
  obtain ⟨⟨la, ta, sa, hv, hsa, hc⟩, ho⟩ := v1
  have hc' := hc
  obtain ⟨⟨hc1, hc2⟩, hc3, hc4, hc5⟩ := hc'
  simp only at hc3
  have hfin := FrO.setC (g' := g1.set id (.cells (frC la ta f.c.args (f.at' + 1) f.loc sa) 0)) hv hsa hc ho hv.loc (by omega : f.at' + 1 ≤ 100000) rfl
  have hl := hv.loc
  have hget := hv.get
  simp only at hl hget
  have h3 : (frC la ta f.c.args f.at' f.loc sa)[3]? = some (.int .i64 f.at') := frC_3
  have hle : 3 + 1 ≤ (frC la ta f.c.args f.at' f.loc sa).length := by rw [frC_len hl]; omega
  have hsp : splice (frC la ta f.c.args f.at' f.loc sa) 3 [.int .i64 ((f.at' + 1 : Nat) : Int)] = frC la ta f.c.args (f.at' + 1) f.loc sa := frC_set3
  have hw : IntKind.i64.wrap ((f.at' : Int) + 1) = ((f.at' + 1 : Nat) : Int) := w64_succ (by omega)
  have hbid : bar ≤ id := Nat.le_trans hb hv.bid
  have hn' : (n != 0) = true := by simpa using hn
  obtain ⟨fc, hfc⟩ : ∃ fc, fc = frC la ta f.c.args f.at' f.loc sa := ⟨_, rfl⟩
  rw [← hfc] at hget h3 hle hsp
  obtain ⟨A, hA⟩ : ∃ A, A = f.at' + 1 := ⟨_, rfl⟩
  rw [← hA] at hw hsp hfin
  obtain ⟨x, g2, hcall, rfl, rfl⟩ := callF_K (o := call tb prim) (F := f_engine_runner_goes) (bar := bar) (h := g) (args := [X, .ptr id 0, .int .i32 63]) (P := fun x g2 => x = .tup [] ∧ g2 = g1.set id (.cells (frC la ta f.c.args A f.loc sa) 0)) rfl rfl (fun K hK => by
    simp [f_engine_runner_goes, env0, go_sem, get_alloc, n_alloc, get_set, n_set, get_kill, n_kill, writeAt, a11, a21, a31, a41, a51, a61, a71, isNil, e1, hn', hget, h3, hw, hle, hsp, hbid]
    simp [go_sem, endP, endI, resultsA, resultA, freezeL, freezeV, AV.free.freeL, AV.free, packA, dropS]
    exact ⟨_, _, ⟨rfl, rfl⟩, hK _ _ ⟨rfl, rfl⟩⟩)
  rw [← hA]
  exact ⟨_, call_of tb_engine_runner_goes hcall, hfin.1, k1.trans Agr.refl hfin.2⟩
end
end Go.Ev
set_option linter.unusedSectionVars false
namespace Go.Ev
open Go
def tX (t : Nat) : Nat → Prop := fun k => k = 1 ∨ tS t k
def tM (t : Nat) : Nat → Prop := fun k => k = 1 ∨ k = 3 ∨ k = 4 ∨ k = 5 ∨ tS t k
theorem tS1 (t : Nat) : ¬ tS t 1 ∧ ¬ tS t 2 := by unfold tS; omega
theorem tS3 (t : Nat) : ¬ tS t 3 ∧ ¬ tS t 4 ∧ ¬ tS t 5 := by unfold tS; omega
section
variable {bar b : Nat} {g : H} {own : Nat → Nat} {C : Cx} {tr val : Int} {ids : List Nat} {t : Nat} {f : Fm} {id : Nat} {m : Mem}
/-- What memory does, in all four. -/
def MemR (bar b : Nat) (g : H) (own : Nat → Nat) (C : Cx) (val : Int) (ids : List Nat) (t : Nat) (f : Fm) (id : Nat) (sg : Int) (x : Option (List Int × Mem × Int)) : Prop :=
  ∀ st m' tr', x = some (st, m', tr') → ∃ g' own', call tb prim n_engine_runner_memory [.ptr C.X 0, .ptr id 0, .int .i32 sg] bar g = some (.tup [], g') ∧ FrO g' b own' t { f with st := st } id ∧ XO g' b own' C tr' val ids ∧ MemO g' b own' C.M m' ∧ Kp own (tM t) g g' ∧ Agr g.n own own'
theorem FrO.sm (v : FrO g b own t f id) : f.st.length ≤ 3000000 := by obtain ⟨⟨_, _, _, hv, _⟩, _⟩ := v; exact hv.small
theorem XO.cell4 (v : XO g b own C tr val ids) : ∃ cs, g.get C.X = some (.cells cs 0) ∧ cs[4]? = some (.ptr C.M 0) ∧ cs[5]? = some (.ptr C.R 0) := by
  obtain ⟨⟨fra, h, _⟩, _⟩ := v; exact ⟨_, h, rfl, rfl⟩
theorem tX_M {t k : Nat} (h : tX t k) : tM t k := by unfold tX at h; unfold tM; rcases h with h | h; exact .inl h; exact .inr (.inr (.inr (.inr h)))
theorem tS_M {t k : Nat} (h : tS t k) : tM t k := .inr (.inr (.inr (.inr h)))
theorem mem_load {a : Int} {st : List Int} (vx : XO g b own C tr val ids) (vf : FrO g b own t f id) (vm : MemO g b own C.M m) (hb : bar ≤ b) (hbg : b ≤ g.n) (hst : f.st = a :: st) {sg : Int} (hsg : sg = 64 ∨ sg = 169) :
    MemR bar b g own C val ids t f id sg (some ((loadM m a (sg == 64)).1 :: st, m, trapIf (loadM m a (sg == 64)).2 5 tr)) := by
  rintro st0 m0 tr0 h
  cases h
  have hsm := vf.sm
  rw [hst] at hsm
  obtain ⟨g1, e1, v1, k1⟩ := pop_o vf hst hb
  have x1 := vx.mono k1 Agr.refl (tS1 t)
  have m1 := vm.mono k1 Agr.refl (tS3 t)
  have hbg1 : b ≤ g1.n := Nat.le_trans hbg k1.1
  have m1' := m1
  obtain ⟨⟨ba, da, hmv, _, _⟩, _⟩ := m1'
  have e2 := load_ok (bar := bar) hmv a (sg == 64)
  obtain ⟨g2, e3, x2, k2, n2⟩ := stop_ok x1 hb (loadM m a (sg == 64)).2 5
  have v2 := v1.mono k2 Agr.refl (by omega) (by omega)
  have m2 := m1.mono k2 Agr.refl (by omega)
  obtain ⟨g3, own3, e4, v3, k3, a3⟩ := push_o v2 hb (by omega) (by simp at hsm ⊢; omega) (loadM m a (sg == 64)).1
  have x3 := x2.mono k3 a3 (tS1 t)
  have m3 := m2.mono k3 a3 (tS3 t)
  have hk : Kp own (tM t) g g3 := (k1.le fun k h => tS_M h).trans Agr.refl ((k2.le fun k h => .inl h).trans Agr.refl (k3.le fun k h => tS_M h))
  obtain ⟨cs, c1, c2, _⟩ := vx.cell4
  obtain ⟨cs', c1', c2', _⟩ := x1.cell4
  obtain ⟨x, g4, hcall, rfl, rfl⟩ := callF_K (o := call tb prim) (F := f_engine_runner_memory) (bar := bar) (h := g) (args := [.ptr C.X 0, .ptr id 0, .int .i32 sg]) (P := fun x g4 => x = .tup [] ∧ g4 = g3) rfl rfl (fun K hK => by
    rcases hsg with rfl | rfl
    · have hz : ((64 : Int) == 64) = true := rfl
      rw [hz] at e2 e3 e4
      simp [f_engine_runner_memory, env0, go_sem, get_alloc, n_alloc, get_set, n_set, get_kill, n_kill, writeAt, a11, a21, a31, a41, a51, a61, a71, isNil, c1, c2, e1, e2, e3, e4]
      refine ⟨sees_of rfl ?_, ?_⟩
      · simp [-getElem?_pos, R_nil, R_cons, RS_some, sameV_some, seesQ_some, List.take, List.take_succ_cons, List.take_zero, go_sem, get_alloc, n_alloc, get_set, n_set, get_kill, n_kill, writeAt, a11, a21, a31, a41, a51, a61, a71, isNil, c1, c2, c1', c2', e1, e2, List.getElem?_cons_zero, List.getElem?_cons_succ]
      · simp [go_sem, endP, endI, resultsA, resultA, freezeL, freezeV, AV.free.freeL, AV.free, packA, dropS]
        exact ⟨_, _, ⟨rfl, rfl⟩, hK _ _ ⟨rfl, rfl⟩⟩
    · have hz : ((169 : Int) == 64) = false := rfl
      rw [hz] at e2 e3 e4
      simp [f_engine_runner_memory, env0, go_sem, get_alloc, n_alloc, get_set, n_set, get_kill, n_kill, writeAt, a11, a21, a31, a41, a51, a61, a71, isNil, c1, c2, e1, e2, e3, e4]
      refine ⟨sees_of rfl ?_, ?_⟩
      · simp [-getElem?_pos, R_nil, R_cons, RS_some, sameV_some, seesQ_some, List.take, List.take_succ_cons, List.take_zero, go_sem, get_alloc, n_alloc, get_set, n_set, get_kill, n_kill, writeAt, a11, a21, a31, a41, a51, a61, a71, isNil, c1, c2, c1', c2', e1, e2, List.getElem?_cons_zero, List.getElem?_cons_succ]
      · simp [go_sem, endP, endI, resultsA, resultA, freezeL, freezeV, AV.free.freeL, AV.free, packA, dropS]
        exact ⟨_, _, ⟨rfl, rfl⟩, hK _ _ ⟨rfl, rfl⟩⟩)
  exact ⟨_, own3, call_of tb_engine_runner_memory hcall, v3, x3, m3, hk, Agr.trans Agr.refl a3 (by have := k1.1; have := k2.1; omega)⟩
theorem mem_store {n a : Int} {st : List Int} (vx : XO g b own C tr val ids) (vf : FrO g b own t f id) (vm : MemO g b own C.M m) (hb : bar ≤ b) (hbg : b ≤ g.n) (hst : f.st = n :: a :: st) {sg : Int} (hsg : sg = 36 ∨ sg = 174) :
    MemR bar b g own C val ids t f id sg (some (st, (storeM m a n (sg == 36)).1, trapIf (storeM m a n (sg == 36)).2 5 tr)) := by
  rintro st0 m0 tr0 h
  cases h
  obtain ⟨g1, e1, v1, k1⟩ := pop_o vf hst hb
  have x1 := vx.mono k1 Agr.refl (tS1 t)
  have m1 := vm.mono k1 Agr.refl (tS3 t)
  obtain ⟨g2, e2, v2, k2⟩ := pop_o v1 rfl hb
  have x2 := x1.mono k2 Agr.refl (tS1 t)
  have m2 := m1.mono k2 Agr.refl (tS3 t)
  obtain ⟨⟨ba, da, hmv, hba, hda⟩, hoM⟩ := m2
  obtain ⟨g3, e3, hmv3, hn3, hk3⟩ := store_ok (bar := bar) hmv hb a n (sg == 36)
  have k3 : Kp own (fun k => k = 4 ∨ k = 5) g2 g3 := ⟨by omega, fun j hj hs => hk3 j (fun q => hs (.inl (hba j q))) (fun q => hs (.inr (hda j q)))⟩
  have m3 : MemO g3 b own C.M (storeM m a n (sg == 36)).1 := ⟨⟨ba, da, hmv3, hba, hda⟩, hoM⟩
  have v3 := v2.mono k3 Agr.refl (by omega) (by omega)
  have x3 := x2.mono k3 Agr.refl (by omega)
  obtain ⟨g4, e4, x4, k4, n4⟩ := stop_ok x3 hb (storeM m a n (sg == 36)).2 5
  have v4 := v3.mono k4 Agr.refl (by omega) (by omega)
  have m4 := m3.mono k4 Agr.refl (by omega)
  have hk : Kp own (tM t) g g4 := (k1.le fun k h => tS_M h).trans Agr.refl ((k2.le fun k h => tS_M h).trans Agr.refl ((k3.le fun k h => by unfold tM; omega).trans Agr.refl (k4.le fun k h => .inl h)))
  obtain ⟨cs, c1, c2, _⟩ := x1.cell4
  obtain ⟨cs', c1', c2', _⟩ := x2.cell4
  obtain ⟨x, g5, hcall, rfl, rfl⟩ := callF_K (o := call tb prim) (F := f_engine_runner_memory) (bar := bar) (h := g) (args := [.ptr C.X 0, .ptr id 0, .int .i32 sg]) (P := fun x g5 => x = .tup [] ∧ g5 = g4) rfl rfl (fun K hK => by
    rcases hsg with rfl | rfl
    · have hz : ((36 : Int) == 36) = true := rfl
      rw [hz] at e3 e4
      simp [f_engine_runner_memory, env0, go_sem, get_alloc, n_alloc, get_set, n_set, get_kill, n_kill, writeAt, a11, a21, a31, a41, a51, a61, a71, isNil, c1, c2, e1, e2, e3, e4]
      refine ⟨sees_of rfl ?_, ?_⟩
      · simp [-getElem?_pos, R_nil, R_cons, RS_some, sameV_some, seesQ_some, List.take, List.take_succ_cons, List.take_zero, go_sem, get_alloc, n_alloc, get_set, n_set, get_kill, n_kill, writeAt, a11, a21, a31, a41, a51, a61, a71, isNil, c1, c2, c1', c2', e2, List.getElem?_cons_zero, List.getElem?_cons_succ]
      · simp [go_sem, endP, endI, resultsA, resultA, freezeL, freezeV, AV.free.freeL, AV.free, packA, dropS]
        exact ⟨_, _, ⟨rfl, rfl⟩, hK _ _ ⟨rfl, rfl⟩⟩
    · have hz : ((174 : Int) == 36) = false := rfl
      rw [hz] at e3 e4
      simp [f_engine_runner_memory, env0, go_sem, get_alloc, n_alloc, get_set, n_set, get_kill, n_kill, writeAt, a11, a21, a31, a41, a51, a61, a71, isNil, c1, c2, e1, e2, e3, e4]
      refine ⟨sees_of rfl ?_, ?_⟩
      · simp [-getElem?_pos, R_nil, R_cons, RS_some, sameV_some, seesQ_some, List.take, List.take_succ_cons, List.take_zero, go_sem, get_alloc, n_alloc, get_set, n_set, get_kill, n_kill, writeAt, a11, a21, a31, a41, a51, a61, a71, isNil, c1, c2, c1', c2', e2, List.getElem?_cons_zero, List.getElem?_cons_succ]
      · simp [go_sem, endP, endI, resultsA, resultA, freezeL, freezeV, AV.free.freeL, AV.free, packA, dropS]
        exact ⟨_, _, ⟨rfl, rfl⟩, hK _ _ ⟨rfl, rfl⟩⟩)
  exact ⟨_, own, call_of tb_engine_runner_memory hcall, v4, x4, m4, hk, Agr.refl⟩
theorem mem_pages (vx : XO g b own C tr val ids) (vf : FrO g b own t f id) (vm : MemO g b own C.M m) (hb : bar ≤ b) (hbg : b ≤ g.n) (hsm : f.st.length < 3000000) :
    MemR bar b g own C val ids t f id 35 (some ((m.dirty.length : Int) :: f.st, m, tr)) := by
  rintro st0 m0 tr0 h
  cases h
  have vm' := vm
  obtain ⟨⟨ba, da, hmv, _, _⟩, _⟩ := vm'
  have e2 := pages_ok (bar := bar) hmv
  obtain ⟨g3, own3, e4, v3, k3, a3⟩ := push_o vf hb hbg hsm (m.dirty.length : Int)
  have x3 := vx.mono k3 a3 (tS1 t)
  have m3 := vm.mono k3 a3 (tS3 t)
  obtain ⟨cs, c1, c2, _⟩ := vx.cell4
  obtain ⟨x, g4, hcall, rfl, rfl⟩ := callF_K (o := call tb prim) (F := f_engine_runner_memory) (bar := bar) (h := g) (args := [.ptr C.X 0, .ptr id 0, .int .i32 35]) (P := fun x g4 => x = .tup [] ∧ g4 = g3) rfl rfl (fun K hK => by
    simp [f_engine_runner_memory, env0, go_sem, get_alloc, n_alloc, get_set, n_set, get_kill, n_kill, writeAt, a11, a21, a31, a41, a51, a61, a71, isNil, c1, c2, e2, e4]
    simp [go_sem, endP, endI, resultsA, resultA, freezeL, freezeV, AV.free.freeL, AV.free, packA, dropS]
    exact ⟨_, _, ⟨rfl, rfl⟩, hK _ _ ⟨rfl, rfl⟩⟩)
  exact ⟨_, own3, call_of tb_engine_runner_memory hcall, v3, x3, m3, k3.le fun k h => tS_M h, a3⟩
end
end Go.Ev
set_option linter.unusedSectionVars false
namespace Go.Ev
open Go
def tP (t : Nat) : Nat → Prop := fun k => k = 1 ∨ k = 6 ∨ k = 7 ∨ k = 8 ∨ tS t k
theorem tS6 (t : Nat) : ¬ tS t 6 ∧ ¬ tS t 7 ∧ ¬ tS t 8 := by unfold tS; omega
theorem tS0 (t : Nat) : ¬ tS t 0 := by unfold tS; omega
theorem tS_P {t k : Nat} (h : tS t k) : tP t k := .inr (.inr (.inr (.inr h)))
theorem alloc_kp {own : Nat → Nat} {S : Nat → Prop} {g : H} {o : HObj} : Kp own S g (g.alloc o) := ⟨by simp [n_alloc], fun j hj _ => by rw [get_alloc, if_neg (by omega)]⟩
section
variable {bar b : Nat} {g : H} {own : Nat → Nat} {C : Cx} {tr val : Int} {ids : List Nat} {t : Nat} {f : Fm} {id : Nat} {r : Row}
def tokA (k : Tok) : AV := .agg [.int .i32 k.sign, .int .i64 k.n, .int .i32 k.name]
def tokH (g : H) (k : Tok) : H := g.alloc (.cells [.int .i32 k.sign, .int .i64 k.n, .int .i32 k.name] 0)
def PlainR (bar b : Nat) (g : H) (own : Nat → Nat) (C : Cx) (val : Int) (ids : List Nat) (t : Nat) (f : Fm) (id : Nat) (k : Tok) (x : Option (List Int × Row × Int)) : Prop :=
  ∀ st r' tr', x = some (st, r', tr') → ∃ g' own', call tb prim n_engine_runner_plain [.ptr C.X 0, .ptr id 0, tokA k] bar g = some (.tup [], g') ∧ FrO g' b own' t { f with st := st } id ∧ XO g' b own' C tr' val ids ∧ RowO g' b own' C.R r' ∧ Kp own (tP t) g g' ∧ Agr g.n own own'
/-- With the token laid down. -/
theorem plain_in {k : Tok} {x : Option (List Int × Row × Int)} (vx : XO g b own C tr val ids) (vf : FrO g b own t f id) (vr : RowO g b own C.R r)
    (h : XO (tokH g k) b (ext own g.n 0) C tr val ids → FrO (tokH g k) b (ext own g.n 0) t f id → RowO (tokH g k) b (ext own g.n 0) C.R r → (tokH g k).n = g.n + 1 → ext own g.n 0 g.n = 0 → (tokH g k).get g.n = some (.cells [.int .i32 k.sign, .int .i64 k.n, .int .i32 k.name] 0) →
      ∀ st r' tr', x = some (st, r', tr') → ∃ g' own', call tb prim n_engine_runner_plain [.ptr C.X 0, .ptr id 0, tokA k] bar g = some (.tup [], g') ∧ FrO g' b own' t { f with st := st } id ∧ XO g' b own' C tr' val ids ∧ RowO g' b own' C.R r' ∧ Kp (ext own g.n 0) (tP t) (tokH g k) g' ∧ Agr (g.n + 1) (ext own g.n 0) own') : PlainR bar b g own C val ids t f id k x := by
  intro st r' tr' hx
  have kp : Kp own (fun _ => False) g (tokH g k) := alloc_kp
  obtain ⟨g', own', h1, h2, h3, h4, h5, h6⟩ := h (vx.mono kp Agr.ext (by simp)) (vf.mono kp Agr.ext (by simp) (by simp)) (vr.mono kp Agr.ext (by simp)) (by simp [tokH, n_alloc]) (by simp [ext]) (by simp [tokH, get_alloc]) st r' tr' hx
  exact ⟨g', own', h1, h2, h3, h4, (kp.le fun _ q => q.elim).trans Agr.ext h5, Agr.trans Agr.ext h6 (by omega)⟩
theorem plain_dup {k : Tok} {a : Int} {st : List Int} (vx : XO g b own C tr val ids) (vf : FrO g b own t f id) (vr : RowO g b own C.R r) (hb : bar ≤ b) (hbg : b ≤ g.n) (hst : f.st = a :: st) (hsm : f.st.length < 3000000) (hk : k.sign = 46) :
    PlainR bar b g own C val ids t f id k (some (a :: a :: st, r, tr)) := by
  refine plain_in vx vf vr fun vx vf vr hn ho hg st0 r0 tr0 h => ?_
  cases h
  obtain ⟨g3, own3, e4, v3, k3, a3⟩ := push_o vf hb (by omega) hsm a
  have x3 := vx.mono k3 a3 (tS1 t)
  have r3 := vr.mono k3 a3 (tS6 t)
  have vf' := vf
  obtain ⟨⟨la, ta, sa, hv, _, _⟩, _⟩ := vf'
  have hget := hv.get
  have hl := hv.loc
  have hos := hv.st
  rw [hst] at hos hsm
  simp only [List.length_cons] at hos hsm
  obtain ⟨sid, all, full, rfl, hbs, hsl, hgs, hle, htk, hcl, hgi, _, hcut⟩ := hos.cases (by omega)
  have h30 : (frC la ta f.c.args f.at' f.loc (.sl sid 0 1 (st.length + 1) full))[30]? = some (.sl sid 0 1 (st.length + 1) full) := frC_30 hl
  have htop : all[st.length]? = some (.int .i64 a) := by rw [hgi _ (by omega)]; exact stC_top a st
  have hw : IntKind.i64.wrap (st.length : Int) = (st.length : Nat) := w64 (by omega) (by omega)
  have hltI : (st.length : Int) < (st.length : Int) + 1 := by omega
  obtain ⟨cs, hcs⟩ : ∃ cs, cs = frC la ta f.c.args f.at' f.loc (.sl sid 0 1 (st.length + 1) full) := ⟨_, rfl⟩
  rw [← hcs] at hget h30
  rw [show f.st = a :: st from hst] at v3
  obtain ⟨x, g4, hcall, rfl, rfl⟩ := callF_K (o := call tb prim) (F := f_engine_runner_plain) (bar := bar) (h := g) (args := [.ptr C.X 0, .ptr id 0, tokA k]) (P := fun x g4 => x = .tup [] ∧ g4 = g3) rfl rfl (fun K hK => by
    simp [f_engine_runner_plain, env0, go_sem, get_alloc, n_alloc, get_set, n_set, get_kill, n_kill, writeAt, a11, a21, a31, a41, a51, a61, a71, isNil, tokA]
    rw [show (g.alloc (.cells [.int .i32 k.sign, .int .i64 k.n, .int .i32 k.name] 0)) = tokH g k from rfl, hk]
    simp [go_sem, get_alloc, n_alloc, get_set, n_set, get_kill, n_kill, writeAt, a11, a21, a31, a41, a51, a61, a71, isNil, hget, h30, hw, hltI, indexIn, hgs, htop, e4]
    simp [go_sem, endP, endI, resultsA, resultA, freezeL, freezeV, AV.free.freeL, AV.free, packA, dropS]
    exact ⟨_, _, ⟨rfl, rfl⟩, hK _ _ ⟨rfl, rfl⟩⟩)
  exact ⟨_, own3, call_of tb_engine_runner_plain hcall, v3, x3, r3, k3.le fun k h => tS_P h, by rw [← hn]; exact a3⟩
theorem plain_drop {k : Tok} {a : Int} {st : List Int} (vx : XO g b own C tr val ids) (vf : FrO g b own t f id) (vr : RowO g b own C.R r) (hb : bar ≤ b) (hbg : b ≤ g.n) (hst : f.st = a :: st) (hk : k.sign = 44) :
    PlainR bar b g own C val ids t f id k (some (st, r, tr)) := by
  refine plain_in vx vf vr fun vx vf vr hn ho hg st0 r0 tr0 h => ?_
  cases h
  obtain ⟨g1, e1, v1, k1⟩ := pop_o vf hst hb
  have x1 := vx.mono k1 Agr.refl (tS1 t)
  have r1 := vr.mono k1 Agr.refl (tS6 t)
  obtain ⟨x, g9, hcall, rfl, rfl⟩ := callF_K (o := call tb prim) (F := f_engine_runner_plain) (bar := bar) (h := g) (args := [.ptr C.X 0, .ptr id 0, tokA k]) (P := fun x g9 => x = .tup [] ∧ g9 = g1) rfl rfl (fun K hK => by
    simp [f_engine_runner_plain, env0, go_sem, get_alloc, n_alloc, get_set, n_set, get_kill, n_kill, writeAt, a11, a21, a31, a41, a51, a61, a71, isNil, tokA]
    rw [show (g.alloc (.cells [.int .i32 k.sign, .int .i64 k.n, .int .i32 k.name] 0)) = tokH g k from rfl]
    rw [hk]
    simp [go_sem, get_alloc, n_alloc, get_set, n_set, get_kill, n_kill, writeAt, a11, a21, a31, a41, a51, a61, a71, isNil, e1]
    simp [go_sem, endP, endI, resultsA, resultA, freezeL, freezeV, AV.free.freeL, AV.free, packA, dropS]
    exact ⟨_, _, ⟨rfl, rfl⟩, hK _ _ ⟨rfl, rfl⟩⟩)
  exact ⟨_, _, call_of tb_engine_runner_plain hcall, v1, x1, r1, k1.le fun k h => tS_P h, Agr.refl⟩
theorem plain_skip {k : Tok} (vx : XO g b own C tr val ids) (vf : FrO g b own t f id) (vr : RowO g b own C.R r) (hk : k.sign = 59 ∨ k.sign = 91) :
    PlainR bar b g own C val ids t f id k (some (f.st, r, tr)) := by
  refine plain_in vx vf vr fun vx vf vr hn ho hg st0 r0 tr0 h => ?_
  cases h
  obtain ⟨x, g9, hcall, rfl, rfl⟩ := callF_K (o := call tb prim) (F := f_engine_runner_plain) (bar := bar) (h := g) (args := [.ptr C.X 0, .ptr id 0, tokA k]) (P := fun x g9 => x = .tup [] ∧ g9 = tokH g k) rfl rfl (fun K hK => by
    rcases hk with hk | hk
    · simp [f_engine_runner_plain, env0, go_sem, get_alloc, n_alloc, get_set, n_set, get_kill, n_kill, writeAt, a11, a21, a31, a41, a51, a61, a71, isNil, tokA]
      rw [show (g.alloc (.cells [.int .i32 k.sign, .int .i64 k.n, .int .i32 k.name] 0)) = tokH g k from rfl, hk]
      simp [go_sem, endP, endI, resultsA, resultA, freezeL, freezeV, AV.free.freeL, AV.free, packA, dropS]
      exact ⟨_, _, ⟨rfl, rfl⟩, hK _ _ ⟨rfl, rfl⟩⟩
    · simp [f_engine_runner_plain, env0, go_sem, get_alloc, n_alloc, get_set, n_set, get_kill, n_kill, writeAt, a11, a21, a31, a41, a51, a61, a71, isNil, tokA]
      rw [show (g.alloc (.cells [.int .i32 k.sign, .int .i64 k.n, .int .i32 k.name] 0)) = tokH g k from rfl, hk]
      simp [go_sem, endP, endI, resultsA, resultA, freezeL, freezeV, AV.free.freeL, AV.free, packA, dropS]
      exact ⟨_, _, ⟨rfl, rfl⟩, hK _ _ ⟨rfl, rfl⟩⟩)
  exact ⟨_, _, call_of tb_engine_runner_plain hcall, vf, vx, vr, Kp.refl, Agr.refl⟩
theorem plain_halt {k : Tok} (vx : XO g b own C tr val ids) (vf : FrO g b own t f id) (vr : RowO g b own C.R r) (hb : bar ≤ b) (hk : k.sign = 161) :
    PlainR bar b g own C val ids t f id k (some (f.st, r, 2)) := by
  refine plain_in vx vf vr fun vx vf vr hn ho hg st0 r0 tr0 h => ?_
  cases h
  have vx' := vx
  obtain ⟨⟨fra, h1, h2, h3⟩, hoX, hbX, hl, hs⟩ := vx'
  have hbx : bar ≤ C.X := Nat.le_trans hb hbX
  have hsp : splice (xC C fra tr val) 7 [.int .i64 2] = xC C fra 2 val := rfl
  have hle : 7 + 1 ≤ (xC C fra tr val).length := by simp [xC]
  obtain ⟨g1, hg1⟩ : ∃ g1, g1 = (tokH g k).set C.X (.cells (xC C fra 2 val) 0) := ⟨_, rfl⟩
  have k1 : Kp (ext own g.n 0) (fun k => k = 1) (tokH g k) g1 := ⟨by rw [hg1, n_set]; exact Nat.le_refl _, fun j hj hsj => by rw [hg1, get_set_ne (fun q => hsj (by rw [q]; exact hoX))]⟩
  have x1 : XO g1 b (ext own g.n 0) C 2 val ids := ⟨⟨fra, by rw [hg1, get_set, if_pos rfl], h2.mono k1.1 (fun j hj => by rw [hg1, get_set_ne (fun q => by have := h3 j hj; rw [q, hoX] at this; omega)]), h3⟩, hoX, hbX, by rw [hg1, n_set]; exact hl, hs⟩
  have v1 := vf.mono k1 Agr.refl (by omega) (by omega)
  have r1 := vr.mono k1 Agr.refl (by omega)
  obtain ⟨cs, hcs⟩ : ∃ cs, cs = xC C fra tr val := ⟨_, rfl⟩
  rw [← hcs] at h1 hsp hle
  obtain ⟨x, g9, hcall, rfl, rfl⟩ := callF_K (o := call tb prim) (F := f_engine_runner_plain) (bar := bar) (h := g) (args := [.ptr C.X 0, .ptr id 0, tokA k]) (P := fun x g9 => x = .tup [] ∧ g9 = g1) rfl rfl (fun K hK => by
    simp [f_engine_runner_plain, env0, go_sem, get_alloc, n_alloc, get_set, n_set, get_kill, n_kill, writeAt, a11, a21, a31, a41, a51, a61, a71, isNil, tokA]
    rw [show (g.alloc (.cells [.int .i32 k.sign, .int .i64 k.n, .int .i32 k.name] 0)) = tokH g k from rfl]
    rw [hk]
    simp [go_sem, get_alloc, n_alloc, get_set, n_set, get_kill, n_kill, writeAt, a11, a21, a31, a41, a51, a61, a71, isNil, h1, hle, hsp, hbx, ← hg1]
    simp [go_sem, endP, endI, resultsA, resultA, freezeL, freezeV, AV.free.freeL, AV.free, packA, dropS]
    exact ⟨_, _, ⟨rfl, rfl⟩, hK _ _ ⟨rfl, rfl⟩⟩)
  exact ⟨_, _, call_of tb_engine_runner_plain hcall, v1, x1, r1, k1.le fun k h => .inl h, Agr.refl⟩
theorem plain_not {k : Tok} {a : Int} {st : List Int} (vx : XO g b own C tr val ids) (vf : FrO g b own t f id) (vr : RowO g b own C.R r) (hb : bar ≤ b) (hbg : b ≤ g.n) (hst : f.st = a :: st) (hk : k.sign = 33) :
    PlainR bar b g own C val ids t f id k (some ((doN k.sign a 0).1 :: st, r, trapIf ((doN k.sign a 0).2 == 0) (doN k.sign a 0).2 tr)) := by
  have hsm := vf.sm
  rw [hst] at hsm
  refine plain_in vx vf vr fun vx vf vr hn ho hg st0 r0 tr0 h => ?_
  cases h
  obtain ⟨g1, e1, v1, k1⟩ := pop_o vf hst hb
  have x1 := vx.mono k1 Agr.refl (tS1 t)
  have r1 := vr.mono k1 Agr.refl (tS6 t)
  have hg1 : g1.get g.n = some (.cells [.int .i32 k.sign, .int .i64 k.n, .int .i32 k.name] 0) := by rw [k1.2 g.n (by omega) (by rw [ho]; exact tS0 t)]; exact hg
  have e2 := do_ok (bar := bar) (g := g1) k.sign a 0
  obtain ⟨g2, e3, x2, k2, n2⟩ := stop_ok x1 hb ((doN k.sign a 0).2 == 0) (doN k.sign a 0).2
  have v2 := v1.mono k2 Agr.refl (by omega) (by omega)
  have r2 := r1.mono k2 Agr.refl (by omega)
  obtain ⟨g3, own3, e4, v3, k3, a3⟩ := push_o v2 hb (by have := k1.1; have := k2.1; omega) (by simp at hsm ⊢; omega) (doN k.sign a 0).1
  have x3 := x2.mono k3 a3 (tS1 t)
  have r3 := r2.mono k3 a3 (tS6 t)
  have hkp : Kp (ext own g.n 0) (tP t) (tokH g k) g3 := (k1.le fun k h => tS_P h).trans Agr.refl ((k2.le fun k h => .inl h).trans Agr.refl (k3.le fun k h => tS_P h))
  rw [hk] at e2 e3 e4 hg hg1
  obtain ⟨x, g9, hcall, rfl, rfl⟩ := callF_K (o := call tb prim) (F := f_engine_runner_plain) (bar := bar) (h := g) (args := [.ptr C.X 0, .ptr id 0, tokA k]) (P := fun x g9 => x = .tup [] ∧ g9 = g3) rfl rfl (fun K hK => by
    simp [f_engine_runner_plain, env0, go_sem, get_alloc, n_alloc, get_set, n_set, get_kill, n_kill, writeAt, a11, a21, a31, a41, a51, a61, a71, isNil, tokA]
    rw [show (g.alloc (.cells [.int .i32 k.sign, .int .i64 k.n, .int .i32 k.name] 0)) = tokH g k from rfl]
    rw [hk]
    simp [go_sem, get_alloc, n_alloc, get_set, n_set, get_kill, n_kill, writeAt, a11, a21, a31, a41, a51, a61, a71, isNil, hg, e1, e2]
    refine ⟨sees_of rfl ?_, ?_⟩
    · simp [-getElem?_pos, R_nil, R_cons, RS_some, sameV_some, seesQ_some, List.take, List.take_succ_cons, List.take_zero, go_sem, get_alloc, n_alloc, get_set, n_set, get_kill, n_kill, writeAt, a11, a21, a31, a41, a51, a61, a71, isNil, hg, hg1, e1, e2, List.getElem?_cons_zero, List.getElem?_cons_succ]
    simp [go_sem, get_alloc, n_alloc, get_set, n_set, get_kill, n_kill, writeAt, a11, a21, a31, a41, a51, a61, a71, isNil, e1, e2, e3, e4]
    simp [go_sem, endP, endI, resultsA, resultA, freezeL, freezeV, AV.free.freeL, AV.free, packA, dropS]
    exact ⟨_, _, ⟨rfl, rfl⟩, hK _ _ ⟨rfl, rfl⟩⟩)
  exact ⟨_, own3, call_of tb_engine_runner_plain hcall, v3, x3, r3, hkp, Agr.trans Agr.refl a3 (by have := k1.1; have := k2.1; omega)⟩
theorem plain_two {k : Tok} {a c : Int} {st : List Int} (vx : XO g b own C tr val ids) (vf : FrO g b own t f id) (vr : RowO g b own C.R r) (hb : bar ≤ b) (hbg : b ≤ g.n) (hst : f.st = c :: a :: st) (hk : k.sign ≠ 46 ∧ k.sign ≠ 44 ∧ k.sign ≠ 59 ∧ k.sign ≠ 91 ∧ k.sign ≠ 161 ∧ k.sign ≠ 960 ∧ k.sign ≠ 33) :
    PlainR bar b g own C val ids t f id k (some ((doN k.sign a c).1 :: st, r, trapIf ((doN k.sign a c).2 == 0) (doN k.sign a c).2 tr)) := by
  have hsm := vf.sm
  rw [hst] at hsm
  refine plain_in vx vf vr fun vx vf vr hn ho hg st0 r0 tr0 h => ?_
  cases h
  obtain ⟨g0, e0, v0, k0⟩ := pop_o vf hst hb
  have x0 := vx.mono k0 Agr.refl (tS1 t)
  have r0 := vr.mono k0 Agr.refl (tS6 t)
  obtain ⟨g1, e1, v1, k1⟩ := pop_o v0 rfl hb
  have x1 := x0.mono k1 Agr.refl (tS1 t)
  have r1 := r0.mono k1 Agr.refl (tS6 t)
  have hg0 : g0.get g.n = some (.cells [.int .i32 k.sign, .int .i64 k.n, .int .i32 k.name] 0) := by rw [k0.2 g.n (by omega) (by rw [ho]; exact tS0 t)]; exact hg
  have hg1 : g1.get g.n = some (.cells [.int .i32 k.sign, .int .i64 k.n, .int .i32 k.name] 0) := by rw [k1.2 g.n (by have := k0.1; omega) (by rw [ho]; exact tS0 t)]; exact hg0
  have e2 := do_ok (bar := bar) (g := g1) k.sign a c
  obtain ⟨g2, e3, x2, k2, n2⟩ := stop_ok x1 hb ((doN k.sign a c).2 == 0) (doN k.sign a c).2
  have v2 := v1.mono k2 Agr.refl (by omega) (by omega)
  have r2 := r1.mono k2 Agr.refl (by omega)
  obtain ⟨g3, own3, e4, v3, k3, a3⟩ := push_o v2 hb (by have := k0.1; have := k1.1; have := k2.1; omega) (by simp at hsm ⊢; omega) (doN k.sign a c).1
  have x3 := x2.mono k3 a3 (tS1 t)
  have r3 := r2.mono k3 a3 (tS6 t)
  have hkp : Kp (ext own g.n 0) (tP t) (tokH g k) g3 := (k0.le fun k h => tS_P h).trans Agr.refl ((k1.le fun k h => tS_P h).trans Agr.refl ((k2.le fun k h => .inl h).trans Agr.refl (k3.le fun k h => tS_P h)))
  obtain ⟨q1, q2, q3, q4, q5, q6, q7⟩ := hk
  obtain ⟨sg, hsg⟩ : ∃ sg, sg = k.sign := ⟨_, rfl⟩
  rw [← hsg] at q1 q2 q3 q4 q5 q6 q7 hg0 hg1 e2 e3 e4
  have p1 : (sg == 46) = false := by simpa using q1
  have p2 : (sg == 44) = false := by simpa using q2
  have p3 : (sg == 59) = false := by simpa using q3
  have p4 : (sg == 91) = false := by simpa using q4
  have p5 : (sg == 161) = false := by simpa using q5
  have p6 : (sg == 960) = false := by simpa using q6
  have p7 : (sg == 33) = false := by simpa using q7
  obtain ⟨x, g9, hcall, rfl, rfl⟩ := callF_K (o := call tb prim) (F := f_engine_runner_plain) (bar := bar) (h := g) (args := [.ptr C.X 0, .ptr id 0, tokA k]) (P := fun x g9 => x = .tup [] ∧ g9 = g3) rfl rfl (fun K hK => by
    simp [f_engine_runner_plain, env0, go_sem, get_alloc, n_alloc, get_set, n_set, get_kill, n_kill, writeAt, a11, a21, a31, a41, a51, a61, a71, isNil, tokA]
    rw [show (g.alloc (.cells [.int .i32 k.sign, .int .i64 k.n, .int .i32 k.name] 0)) = tokH g k from rfl]
    rw [← hsg]
    simp [go_sem, get_alloc, n_alloc, get_set, n_set, get_kill, n_kill, writeAt, a11, a21, a31, a41, a51, a61, a71, isNil, p1, p2, p3, p4, p5, p6, p7, e0, hg0, e1, e2]
    refine ⟨sees_of rfl ?_, ?_⟩
    · simp [-getElem?_pos, R_nil, R_cons, RS_some, sameV_some, seesQ_some, List.take, List.take_succ_cons, List.take_zero, go_sem, get_alloc, n_alloc, get_set, n_set, get_kill, n_kill, writeAt, a11, a21, a31, a41, a51, a61, a71, isNil, hg0, hg1, e1, e2, List.getElem?_cons_zero, List.getElem?_cons_succ]
    simp [go_sem, get_alloc, n_alloc, get_set, n_set, get_kill, n_kill, writeAt, a11, a21, a31, a41, a51, a61, a71, isNil, e0, e1, e2, e3, e4]
    simp [go_sem, endP, endI, resultsA, resultA, freezeL, freezeV, AV.free.freeL, AV.free, packA, dropS]
    exact ⟨_, _, ⟨rfl, rfl⟩, hK _ _ ⟨rfl, rfl⟩⟩)
  exact ⟨_, own3, call_of tb_engine_runner_plain hcall, v3, x3, r3, hkp, Agr.trans Agr.refl a3 (by have := k0.1; have := k1.1; have := k2.1; omega)⟩
theorem plain_ask {k : Tok} {a : Int} {st : List Int} (vx : XO g b own C tr val ids) (vf : FrO g b own t f id) (vr : RowO g b own C.R r) (hb : bar ≤ b) (hbg : b ≤ g.n) (hst : f.st = a :: st) (hsr : r.asks.length < 2000000) (hk : k.sign = 960) :
    PlainR bar b g own C val ids t f id k (some ((askR r k.name a).2.1 :: st, (askR r k.name a).1, trapIf (askR r k.name a).2.2 7 tr)) := by
  have hsm := vf.sm
  rw [hst] at hsm
  refine plain_in vx vf vr fun vx vf vr hn ho hg st0 r0 tr0 h => ?_
  cases h
  obtain ⟨g1, e1, v1, k1⟩ := pop_o vf hst hb
  have x1 := vx.mono k1 Agr.refl (tS1 t)
  have r1 := vr.mono k1 Agr.refl (tS6 t)
  have hg1 : g1.get g.n = some (.cells [.int .i32 k.sign, .int .i64 k.n, .int .i32 k.name] 0) := by rw [k1.2 g.n (by omega) (by rw [ho]; exact tS0 t)]; exact hg
  obtain ⟨⟨la, aa, hrv, hla, haa⟩, hoR⟩ := r1
  obtain ⟨g2, la', aa', e2, hrv', hlat, haat, hn2, hk2⟩ := ask_ok (bar := bar) hrv hb (by have := k1.1; omega) hsr k.name a
  have k2 : Kp (ext own g.n 0) (fun k => k = 6 ∨ k = 8) g1 g2 := ⟨hn2, fun j hj hs => hk2 j hj (fun q => hs (.inl (by rw [q]; exact hoR))) (fun q => hs (.inr (haa j q)))⟩
  have a2 : Agr g1.n (ext own g.n 0) (ext (ext own g.n 0) g1.n 8) := Agr.ext
  have r2 : RowO g2 b (ext (ext own g.n 0) g1.n 8) C.R (askR r k.name a).1 := ⟨⟨la', aa', hrv', fun j hj => by rw [a2 j (hrv.l.at_lt' (hlat j hj))]; exact hla j (hlat j hj), fun j hj => by have := haat j hj; simp only [ext]; rw [if_neg (by omega)]⟩, by rw [a2 _ hrv.lt]; exact hoR⟩
  have v2 := v1.mono k2 a2 (by omega) (by omega)
  have x2 := x1.mono k2 a2 (by omega)
  obtain ⟨g3, e3, x3, k3, n3⟩ := stop_ok x2 hb (askR r k.name a).2.2 7
  have v3 := v2.mono k3 Agr.refl (by omega) (by omega)
  have r3 := r2.mono k3 Agr.refl (by omega)
  obtain ⟨g4, own4, e4, v4, k4, a4⟩ := push_o v3 hb (by have := k1.1; have := k2.1; have := k3.1; omega) (by simp at hsm ⊢; omega) (askR r k.name a).2.1
  have x4 := x3.mono k4 a4 (tS1 t)
  have r4 := r3.mono k4 a4 (tS6 t)
  have hkp : Kp (ext own g.n 0) (tP t) (tokH g k) g4 := (k1.le fun k h => tS_P h).trans Agr.refl ((k2.le fun k h => by unfold tP; omega).trans a2 ((k3.le fun k h => .inl h).trans Agr.refl (k4.le fun k h => tS_P h)))
  obtain ⟨cs, c1, _, c2⟩ := vx.cell4
  obtain ⟨cs', c1', _, c2'⟩ := x1.cell4
  obtain ⟨x, g9, hcall, rfl, rfl⟩ := callF_K (o := call tb prim) (F := f_engine_runner_plain) (bar := bar) (h := g) (args := [.ptr C.X 0, .ptr id 0, tokA k]) (P := fun x g9 => x = .tup [] ∧ g9 = g4) rfl rfl (fun K hK => by
    simp [f_engine_runner_plain, env0, go_sem, get_alloc, n_alloc, get_set, n_set, get_kill, n_kill, writeAt, a11, a21, a31, a41, a51, a61, a71, isNil, tokA]
    rw [show (g.alloc (.cells [.int .i32 k.sign, .int .i64 k.n, .int .i32 k.name] 0)) = tokH g k from rfl]
    rw [hk]
    simp [go_sem, get_alloc, n_alloc, get_set, n_set, get_kill, n_kill, writeAt, a11, a21, a31, a41, a51, a61, a71, isNil, c1, c2, hg, e1, e2]
    refine ⟨⟨sees_of rfl ?_, sees_of rfl ?_⟩, ?_⟩
    · simp [-getElem?_pos, R_nil, R_cons, RS_some, sameV_some, seesQ_some, List.take, List.take_succ_cons, List.take_zero, go_sem, get_alloc, n_alloc, get_set, n_set, get_kill, n_kill, writeAt, a11, a21, a31, a41, a51, a61, a71, isNil, c1, c2, c1', c2', hg, hg1, e1, e2, List.getElem?_cons_zero, List.getElem?_cons_succ]
    · simp [-getElem?_pos, R_nil, R_cons, RS_some, sameV_some, seesQ_some, List.take, List.take_succ_cons, List.take_zero, go_sem, get_alloc, n_alloc, get_set, n_set, get_kill, n_kill, writeAt, a11, a21, a31, a41, a51, a61, a71, isNil, c1, c2, c1', c2', hg, hg1, e1, e2, List.getElem?_cons_zero, List.getElem?_cons_succ]
    simp [go_sem, get_alloc, n_alloc, get_set, n_set, get_kill, n_kill, writeAt, a11, a21, a31, a41, a51, a61, a71, isNil, e1, e2, e3, e4]
    simp [go_sem, endP, endI, resultsA, resultA, freezeL, freezeV, AV.free.freeL, AV.free, packA, dropS]
    exact ⟨_, _, ⟨rfl, rfl⟩, hK _ _ ⟨rfl, rfl⟩⟩)
  exact ⟨_, own4, call_of tb_engine_runner_plain hcall, v4, x4, r4, hkp, Agr.trans (Agr.trans Agr.refl a2 (by have := k1.1; omega)) a4 (by have := k1.1; have := k2.1; have := k3.1; omega)⟩
end
end Go.Ev
set_option linter.unusedSectionVars false
namespace Go.Ev
open Go
theorem fillF (la ta : AV) (a : Int) (h1 : la.one = true) (h2 : ta.one = true) : fillA [.nilsl, .nilsl, .int .i64 0, .int .i64 0, .int .i64 0, .int .i64 0, .int .i64 0, .int .i64 0, .int .i64 0, .int .i64 0, .int .i64 0, .int .i64 0, .int .i64 0, .int .i64 0, .int .i64 0, .int .i64 0, .int .i64 0, .int .i64 0, .int .i64 0, .int .i64 0, .int .i64 0, .int .i64 0, .int .i64 0, .int .i64 0, .int .i64 0, .int .i64 0, .int .i64 0, .int .i64 0, .int .i64 0, .int .i64 0, .nilsl] [(0, 3, .agg [la, ta, .int .i64 a])] = some (frC la ta a 0 (List.replicate 26 0) .nilsl) := by
  have : (AV.cells (.agg [la, ta, .int .i64 a])).length = 3 ∧ 0 + 3 ≤ ([.nilsl, .nilsl, .int .i64 0, .int .i64 0, .int .i64 0, .int .i64 0, .int .i64 0, .int .i64 0, .int .i64 0, .int .i64 0, .int .i64 0, .int .i64 0, .int .i64 0, .int .i64 0, .int .i64 0, .int .i64 0, .int .i64 0, .int .i64 0, .int .i64 0, .int .i64 0, .int .i64 0, .int .i64 0, .int .i64 0, .int .i64 0, .int .i64 0, .int .i64 0, .int .i64 0, .int .i64 0, .int .i64 0, .int .i64 0, .nilsl] : List AV).length ∧ (AV.cells (.agg [la, ta, .int .i64 a])).all AV.one = true := ⟨rfl, by simp, by
    show (la.one && (ta.one && (true && true))) = true
    rw [h1, h2]; rfl⟩
  simp only [fillA]
  rw [if_pos this]
  rfl
theorem frC_args {la ta sa : AV} {a : Int} {p : Nat} {l : List Int} (h : l.length ≤ 26) : splice (frC la ta a p (List.replicate 26 0) sa) 4 (l.map (AV.int .i64)) = frC la ta a p (l ++ List.replicate (26 - l.length) 0) sa := by
  unfold splice frC
  simp only [List.take_succ_cons, List.take_zero, List.length_map]
  have : (la :: ta :: AV.int .i64 a :: AV.int .i64 p :: ((List.replicate 26 0).map (AV.int .i64) ++ [sa])).drop (4 + l.length) = (List.replicate (26 - l.length) 0).map (AV.int .i64) ++ [sa] := by
    rw [show 4 + l.length = l.length + 1 + 1 + 1 + 1 by omega]
    simp only [List.drop_succ_cons]
    rw [List.drop_append_of_le_length (by simp; omega), List.map_replicate, List.map_replicate, List.drop_replicate]
  rw [this]; simp
theorem all_one_int (l : List Int) : (l.map (AV.int .i64)).all AV.one = true := by
  rw [List.all_eq_true]; intro x hx; rw [List.mem_map] at hx; obtain ⟨y, _, rfl⟩ := hx; rfl
theorem frC_one {la ta sa : AV} {a : Int} {p : Nat} {l : List Int} (h1 : la.one = true) (h2 : ta.one = true) (h3 : sa.one = true) : (frC la ta a p l sa).all AV.one = true := by
  show (la.one && (ta.one && (true && (true && (l.map (AV.int .i64) ++ [sa]).all AV.one)))) = true
  rw [List.all_append, all_one_int, h1, h2]
  show (true && (true && (true && (true && (true && (sa.one && true)))))) = true
  rw [h3]; rfl
theorem FzV.one {k : Nat} {a : AV} {n : Nat} {cs : List AV} (v : FzV k a n cs) : a.one = true := by
  obtain ⟨h1, h2, ⟨rfl, _⟩ | ⟨f, rfl⟩⟩ := v <;> rfl
theorem xC_len (C : Cx) (fra : AV) (tr val : Int) : (xC C fra tr val).length = 9 := rfl
section
variable {bar b : Nat} {g : H} {own : Nat → Nat} {C : Cx} {tr val : Int} {ids : List Nat}
/-- A row of the codes. -/
theorem row_get (cx : CxV g own C) {k : Nat} {x : AV × AV × Code'} (hx : C.rows[k]? = some x) : ∃ cs full, C.ca = .fz 3 C.rows.length cs full ∧ (cs.length = C.rows.length * 3) = True ∧ k < C.rows.length ∧ k * 3 + 3 ≤ cs.length ∧ (cs.drop (k * 3)).take 3 = [x.1, x.2.1, .int .i64 x.2.2.args] ∧ cs[k * 3 + 2]? = some (.int .i64 x.2.2.args) := by
  have hlt := (List.getElem?_eq_some_iff.mp hx).1
  obtain ⟨h1, h2, ⟨_, e⟩ | ⟨full, e⟩⟩ := cx.ca
  · omega
  · exact ⟨_, full, e, by simpa using h1, hlt, by rw [h1]; omega, flat_row (c := cdC) (k := 3) (fun _ => rfl) C.rows k x hx, flat_get (c := cdC) (k := 3) (fun _ => rfl) C.rows k 2 x (by omega) hx⟩
theorem call_ok' (vx : XO g b own C tr val ids) (cx : CxV g own C) (hb : bar ≤ b) (hbg : b ≤ g.n) {k : Nat} {x : AV × AV × Code'} (hx : C.rows[k]? = some x) {aa : AV} {args : List Int} (hv : Vw 1 g aa args.length (args.map (AV.int .i64))) (hl : args.length ≤ 26) (hids : ids.length < 1000) :
    ∃ g' own', call tb prim n_engine_runner_call [.ptr C.X 0, .int .i64 k, aa] bar g = some (.tup [], g') ∧ XO g' b own' C tr val (g.n :: ids) ∧ FrO g' b own' ids.length (newF x.2.2 args) g.n ∧ Kp own (fun k => k = 1 ∨ k = 2) g g' ∧ Agr g.n own own' := by
  obtain ⟨⟨fra, h1, h2, h3⟩, hoX, hbX, hlX, hs⟩ := vx
  obtain ⟨cs, full, hca, hcl, hkl, hk3, hrow, _⟩ := row_get cx hx
  obtain ⟨hcd, ha0, ha1⟩ := cx.cd x (List.mem_of_getElem? hx)
  have ho1 : x.1.one = true := hcd.1.1.one
  have ho2 : x.2.1.one = true := hcd.1.2.one
  have hnf : newF x.2.2 args = ⟨x.2.2, 0, args ++ List.replicate (26 - args.length) 0, []⟩ := by
    unfold newF; rw [List.take_of_length_le hl]
  -- the frame
  obtain ⟨g1, hg1⟩ : ∃ g1, g1 = g.alloc (.cells (frC x.1 x.2.1 x.2.2.args 0 (List.replicate 26 0) .nilsl) 0) := ⟨_, rfl⟩
  obtain ⟨g2, hg2⟩ : ∃ g2, g2 = g1.set g.n (.cells (frC x.1 x.2.1 x.2.2.args 0 (args ++ List.replicate (26 - args.length) 0) .nilsl) 0) := ⟨_, rfl⟩
  have n1 : g1.n = g.n + 1 := by rw [hg1]; simp [n_alloc]
  have n2 : g2.n = g.n + 1 := by rw [hg2, n_set]; exact n1
  have k2 : ∀ j, j < g.n → g2.get j = g.get j := fun j hj => by rw [hg2, get_set_ne (by omega), hg1, get_alloc, if_neg (by omega)]
  have gF1 : g1.get g.n = some (.cells (frC x.1 x.2.1 x.2.2.args 0 (List.replicate 26 0) .nilsl) 0) := by rw [hg1, get_alloc, if_pos rfl]
  have gF2 : g2.get g.n = some (.cells (frC x.1 x.2.1 x.2.2.args 0 (args ++ List.replicate (26 - args.length) 0) .nilsl) 0) := by rw [hg2, get_set, if_pos rfl]
  have gX2 : g2.get C.X = some (.cells (xC C fra tr val) 0) := by rw [k2 _ hlX]; exact h1
  have o2 : OW 1 g2 bar fra ids.length (ids.reverse.map fun i => .ptr i 0) := (h2.mono (by omega) (fun j hj => k2 j (h2.at_lt hj).2)).bar_le hb
  obtain ⟨g3, e3, o3, n3, f3⟩ := o2.app (by omega) 8 [.ptr g.n 0] rfl rfl (by omega) (by omega) (by omega)
  obtain ⟨g4, hg4⟩ : ∃ g4, g4 = g3.set C.X (.cells (xC C (.sl (g2.n + 1) 0 1 (ids.length + 1) false) tr val) 0) := ⟨_, rfl⟩
  have hXn : ¬ fra.isAt C.X := fun q => by have := h3 _ q; omega
  have gX3 : g3.get C.X = some (.cells (xC C fra tr val) 0) := by rw [f3 _ (by omega) hXn]; exact gX2
  have hFn : ¬ fra.isAt g.n := fun q => by have := (h2.at_lt q).2; omega
  have gF3 : g3.get g.n = some (.cells (frC x.1 x.2.1 x.2.2.args 0 (args ++ List.replicate (26 - args.length) 0) .nilsl) 0) := by rw [f3 _ (by omega) hFn]; exact gF2
  have n4 : g4.n = g.n + 3 := by rw [hg4, n_set]; omega
  have gF4 : g4.get g.n = some (.cells (frC x.1 x.2.1 x.2.2.args 0 (args ++ List.replicate (26 - args.length) 0) .nilsl) 0) := by rw [hg4, get_set_ne (by omega)]; exact gF3
  obtain ⟨own', hown⟩ : ∃ own', own' = ext (ext own g.n (2 * ids.length + 10)) (g.n + 1) 2 := ⟨_, rfl⟩
  have hag : Agr g.n own own' := by rw [hown]; exact Agr.trans Agr.ext Agr.ext (by omega)
  have hoF : own' g.n = 2 * ids.length + 10 := by rw [hown]; simp [ext]
  have ho3 : ∀ j, g.n + 1 ≤ j → own' j = 2 := fun j hj => by rw [hown]; simp only [ext]; rw [if_neg (by omega)]
  have hXO : XO g4 b own' C tr val (g.n :: ids) := by
    refine ⟨⟨.sl (g2.n + 1) 0 1 (ids.length + 1) false, by rw [hg4, get_set, if_pos rfl], ?_, fun j hj => by cases hj; exact ho3 _ (by omega)⟩, by rw [hag _ hlX]; exact hoX, hbX, by omega, by simp; omega⟩
    have := (o3.up (b := b) (fun j hj => by cases hj; omega)).mono (h' := g4) (by omega) (fun j hj => by cases hj; rw [hg4, get_set_ne (by omega)])
    simpa using this
  have hFO : FrO g4 b own' ids.length (newF x.2.2 args) g.n := by
    rw [hnf]
    exact ⟨⟨x.1, x.2.1, .nilsl, ⟨gF4, hbg, by omega, by simp; omega, OW.nil, fun h => h, by simp, by simp⟩, fun j hj => hj.elim, hcd⟩, hoF⟩
  have hkp : Kp own (fun k => k = 1 ∨ k = 2) g g4 := ⟨by omega, fun j hj hs => by
    rw [hg4, get_set_ne (fun q => hs (.inl (by rw [q]; exact hoX))), f3 j (by omega) (fun q => hs (.inr (h3 j q)))]; exact k2 j hj⟩
  have hsrc : source 1 g1 aa = some (args.length, args.map (AV.int .i64)) := vw_source (hv.keep (by omega) (fun j hj => by rw [hg1, get_alloc, if_neg (by have := hv.at_lt' hj; omega)]))
  have hsp4 : splice (frC x.1 x.2.1 x.2.2.args 0 (List.replicate 26 0) .nilsl) 4 ((args.map (AV.int .i64)).take (min args.length 26 * 1)) = frC x.1 x.2.1 x.2.2.args 0 (args ++ List.replicate (26 - args.length) 0) .nilsl := by
    rw [List.take_of_length_le (by simp; omega)]; exact frC_args hl
  have hcpy : cpyA bar 1 g1 (.sl g.n 4 1 26 true) args.length (args.map (AV.int .i64)) = some (goI (min args.length 26 : Nat), g2) := by
    have hbn : bar ≤ g.n := by omega
    have hle : 4 + ((args.map (AV.int .i64)).take (min args.length 26 * 1)).length ≤ (frC x.1 x.2.1 x.2.2.args 0 (List.replicate 26 0) .nilsl).length := by
      rw [frC_len (by simp)]; simp; omega
    have hone : ((args.map (AV.int .i64)).take (min args.length 26 * 1)).all AV.one = true := by
      have := all_one_int args
      rw [List.all_eq_true] at this ⊢
      exact fun y hy => this y (List.mem_of_mem_take hy)
    simp only [cpyA, if_true]
    unfold writeAt
    rw [gF1]
    simp only
    rw [if_pos ⟨hbn, hle, by omega, hone⟩, hsp4, hg2]
    rfl
  have hle31 : 4 + 26 * 1 ≤ (frC x.1 x.2.1 x.2.2.args 0 (List.replicate 26 0) .nilsl).length := by rw [frC_len (by simp)]; omega
  have hfone : (frC x.1 x.2.1 x.2.2.args 0 (List.replicate 26 0) .nilsl).all AV.one = true := frC_one ho1 ho2 rfl
  have hX6 : splice (xC C fra tr val) 6 [.sl (g2.n + 1) 0 1 (ids.length + 1) false] = xC C (.sl (g2.n + 1) 0 1 (ids.length + 1) false) tr val := rfl
  have hX3 : (xC C fra tr val)[3]? = some C.ca := rfl
  have hX6' : (xC C fra tr val)[6]? = some fra := rfl
  have hXl : 6 + 1 ≤ (xC C fra tr val).length := by simp [xC]
  have hbx : bar ≤ C.X := Nat.le_trans hb hbX
  have hfr1 : fra.one = true := h2.one
  rw [hca] at hX3
  obtain ⟨xc, hxc⟩ : ∃ xc, xc = xC C fra tr val := ⟨_, rfl⟩
  obtain ⟨f0, hf0⟩ : ∃ f0, f0 = frC x.1 x.2.1 x.2.2.args 0 (List.replicate 26 0) .nilsl := ⟨_, rfl⟩
  have hfill := fillF x.1 x.2.1 x.2.2.args ho1 ho2
  rw [← hf0] at hg1 gF1 hle31 hfone hfill
  rw [← hxc] at h1 gX2 gX3 hX6 hX3 hX6' hXl
  have hix : indexIn (.int .i64 (k : Int)) C.rows.length = some k := by simp only [indexIn]; rw [if_pos (by omega), Int.toNat_natCast]
  have gX1 : g1.get C.X = some (.cells xc 0) := by rw [hg1, get_alloc, if_neg (by omega)]; exact h1
  obtain ⟨y, g9, hcall, rfl, rfl⟩ := callF_K (o := call tb prim) (F := f_engine_runner_call) (bar := bar) (h := g) (args := [.ptr C.X 0, .int .i64 k, aa]) (P := fun y g9 => y = .tup [] ∧ g9 = g4) rfl rfl (fun K hK => by
    simp [f_engine_runner_call, env0, go_sem, isNil, h1, hX3, hcl, hix, hk3, hrow, evParts, hfill, hfone, AV.cells]
    rw [← hg1]
    simp [go_sem, isNil, optEv, optBound, evParts, gF1, hle31, hcpy, hsrc, gX2, hX6', fillA, sp10]
    rw [e3]
    simp [go_sem, get_alloc, n_alloc, get_set, n_set, get_kill, n_kill, writeAt, a11, a21, a31, a41, a51, a61, a71, isNil, gX3, hX6, hXl, hbx]
    rw [← hg4]
    simp [go_sem, endP, endI, resultsA, resultA, freezeL, freezeV, AV.free.freeL, AV.free, packA, dropS]
    exact ⟨_, _, ⟨rfl, rfl⟩, hK _ _ ⟨rfl, rfl⟩⟩)
  exact ⟨_, own', call_of tb_engine_runner_call hcall, hXO, hFO, hkp, hag⟩
end
end Go.Ev
set_option linter.unusedSectionVars false
namespace Go.Ev
open Go
def tC (t : Nat) : Nat → Prop := fun k => k = 1 ∨ k = 2 ∨ tS t k
theorem argsOf_len {a : Nat} {st : List Int} (h : a ≤ st.length) : (argsOf a st).length = a := by simp [argsOf, h]
/-- A stack's last ones; those ahead of them. -/
theorem OW.split {g : H} {b : Nat} {sa : AV} {st : List Int} (v : OW 1 g b sa st.length (stC st)) {a : Nat} (ha : a ≤ st.length) (hs : st.length ≤ 3000000) :
    ∃ aa sa', sliceA 1 sa (some (.int .i64 ((st.length - a : Nat) : Int))) none none = some aa ∧ sliceA 1 sa none (some (.int .i64 ((st.length - a : Nat) : Int))) none = some sa' ∧ (∀ j, sa'.isAt j → sa.isAt j) ∧ Vw 1 g aa a ((argsOf a st).map (AV.int .i64)) ∧ sa'.one = true ∧ (∀ j, aa.isAt j → sa.isAt j) ∧
    (∀ g' : H, g.n ≤ g'.n → (∀ j, sa.isAt j → g'.get j = g.get j) → OW 1 g' b sa' (st.length - a) (stC (st.drop a))) := by
  by_cases hz : st.length = 0
  · have : st = [] := List.length_eq_zero_iff.mp hz
    subst this
    have ha0 : a = 0 := by simpa using ha
    subst ha0
    obtain ⟨_, _, ⟨rfl, _⟩ | ⟨id, rest, full, rfl, h1, h2, h3⟩⟩ := v
    · exact ⟨.nilsl, .nilsl, rfl, rfl, fun j hj => hj, ⟨rfl, by omega, .inl ⟨rfl, rfl⟩⟩, rfl, fun j hj => hj, fun g' _ _ => OW.nil⟩
    · refine ⟨.sl id 0 1 0 full, .sl id 0 1 0 full, by simp [sliceA, optBound, bound], by simp [sliceA, optBound, bound], fun j hj => hj, ⟨rfl, by omega, .inr (.inr ⟨id, 0, full, _, 0, rfl, h2, h3, by simp, by simp [argsOf]⟩)⟩, rfl, fun j hj => hj, fun g' hn hg => ⟨rfl, rfl, .inr ⟨id, rest, full, rfl, h1, by omega, by rw [hg id rfl]; exact h3⟩⟩⟩
  · obtain ⟨sid, all, full, rfl, hbs, hsl, hgs, hle, htk, hcl, hgi, _, hcut⟩ := v.cases hz
    have hne : st.length - (st.length - a) = a := by omega
    refine ⟨.sl sid (0 + (st.length - a) * 1) 1 (st.length - (st.length - a)) (full && decide (st.length = st.length)), .sl sid 0 1 (st.length - a) (full && decide (st.length - a = st.length)), ?_, ?_, fun j hj => hj, ?_, rfl, fun j hj => hj, fun g' hn hg => ?_⟩
    · have e1 : optBound 0 (some (AV.int .i64 ((st.length - a : Nat) : Int))) = some (st.length - a) := by simp [optBound, bound]
      have e2 : ∀ n, optBound n none = some n := fun _ => rfl
      simp only [sliceA, e1, e2]
      rw [if_pos ⟨trivial, by omega, Nat.le_refl _⟩]
    · have e1 : optBound st.length (some (AV.int .i64 ((st.length - a : Nat) : Int))) = some (st.length - a) := by simp [optBound, bound]
      have e2 : ∀ n, optBound n none = some n := fun _ => rfl
      simp only [sliceA, e1, e2]
      rw [if_pos ⟨trivial, by omega, by omega⟩]
      simp
    · rw [hne]
      refine ⟨by simp [argsOf_len ha], by omega, .inr (.inr ⟨sid, 0 + (st.length - a) * 1, _, all, 0, rfl, hsl, hgs, by omega, ?_⟩)⟩
      have : (argsOf a st).map (AV.int .i64) = (stC st).drop (st.length - a) := by
        unfold stC argsOf; rw [← List.map_drop, List.drop_reverse, hne]
      rw [this, ← htk, List.drop_take]
      congr 1
      · omega
      · congr 1; omega
    · have := hcut g' (st.length - a) (full && decide (st.length - a = st.length)) (by omega) hn (hg sid rfl)
      have e : (stC st).take ((st.length - a) * 1) = stC (st.drop a) := by
        unfold stC; rw [Nat.mul_one, ← List.map_take, List.take_reverse, hne]
      rw [e] at this
      exact this
section
variable {bar b : Nat} {g : H} {own : Nat → Nat} {C : Cx} {tr val : Int} {ids : List Nat} {t : Nat} {f : Fm} {id : Nat}
theorem calls_ok (vx : XO g b own C tr val ids) (cx : CxV g own C) (vf : FrO g b own t f id) (hb : bar ≤ b) (hbg : b ≤ g.n) {nm : Int} {k : Nat} (hk : findN nm C.fs 0 = k) {x : AV × AV × Code'} (hx : C.rows[k]? = some x) {a : Nat} (ha : x.2.2.args = a) (hal : a ≤ f.st.length) (hids : ids.length < 1000) :
    ∃ g' own', call tb prim n_engine_runner_calls [.ptr C.X 0, .ptr id 0, .int .i32 nm] bar g = some (.tup [], g') ∧ FrO g' b own' t { f with st := f.st.drop a } id ∧ Kp own (tC t) g g' ∧ Agr g.n own own' ∧
      ((32 ≤ ids.length ∧ XO g' b own' C 6 val ids) ∨ (ids.length < 32 ∧ ∃ i, XO g' b own' C tr val (i :: ids) ∧ FrO g' b own' ids.length (newF x.2.2 (argsOf a f.st)) i)) := by
  have vx' := vx
  obtain ⟨⟨fra, h1, h2, h3⟩, hoX, hbX, hlX, hs⟩ := vx'
  have vf' := vf
  obtain ⟨⟨la, ta, sa, hv, hsa, hc⟩, ho⟩ := vf'
  have hst := hv.st
  have hsm := hv.small
  obtain ⟨aa, sa', es1, es2, hat, hvw, hone, hat2, hcut⟩ := hst.split hal hsm
  have hl := hv.loc
  have hget := hv.get
  have hbid : bar ≤ id := Nat.le_trans hb hv.bid
  obtain ⟨cs, full, hca, hcl, hkl, hk3, hrow, hk2⟩ := row_get cx hx
  obtain ⟨hcd, ha0, ha1⟩ := cx.cd x (List.mem_of_getElem? hx)
  have eF := check_Find_ok (pr := prim) (bar := bar) (h := g) C.fs C.fa nm C.p C.mo cx.fs
  rw [hk] at eF
  -- the stack is cut
  obtain ⟨g1, hg1⟩ : ∃ g1, g1 = g.set id (.cells (frC la ta f.c.args f.at' f.loc sa') 0) := ⟨_, rfl⟩
  have n1 : g1.n = g.n := by rw [hg1, n_set]
  have k1 : Kp own (tS t) g g1 := ⟨by omega, fun j hj hns => by rw [hg1]; exact get_set_ne (fun q => hns (.inl (by rw [q]; exact ho)))⟩
  have hsne : ∀ j, sa.isAt j → g1.get j = g.get j := fun j hj => by rw [hg1]; exact get_set_ne (fun q => hv.ne (q ▸ hj))
  have v1 : FrO g1 b own t { f with st := f.st.drop a } id := ⟨⟨la, ta, sa', ⟨by rw [hg1]; simp [get_set], hv.bid, by have := hv.lt; omega, hl, by
      have := hcut g1 (by omega) hsne
      show OW 1 g1 b sa' (f.st.drop a).length (stC (f.st.drop a))
      rw [List.length_drop]; exact this, fun q => hv.ne (hat _ q), by show (f.st.drop a).length ≤ _; rw [List.length_drop]; omega, hv.at1⟩, fun j hj => hsa j (hat j hj), hc⟩, ho⟩
  have x1 := vx.mono k1 Agr.refl (tS1 t)
  have c1 := cx.mono k1 Agr.refl (tS0 t)
  have hvw1 : Vw 1 g1 aa a ((argsOf a f.st).map (AV.int .i64)) := hvw.keep (by omega) (fun j hj => hsne j (hat2 j hj))
  -- reads
  have h30 : (frC la ta f.c.args f.at' f.loc sa)[30]? = some sa := frC_30 hl
  have hle30 : 30 + 1 ≤ (frC la ta f.c.args f.at' f.loc sa).length := by rw [frC_len hl]; omega
  have hs30 : ∀ v, splice (frC la ta f.c.args f.at' f.loc sa) 30 [v] = frC la ta f.c.args f.at' f.loc v := fun _ => frC_set30 hl
  have hlenS : lenR (some sa) g = some (goI f.st.length, g) := hst.len g
  have hix : indexIn (.int .i64 (k : Int)) C.rows.length = some k := by simp only [indexIn]; rw [if_pos (by omega), Int.toNat_natCast]
  have hw : IntKind.i64.wrap ((f.st.length : Int) - (a : Int)) = ((f.st.length - a : Nat) : Int) := by rw [w64 (by omega) (by omega)]; omega
  have hX02 : (xC C fra tr val).take 3 = [.int .i64 C.p, .int .i64 C.mo, C.fa] := rfl
  have hX3 : (xC C fra tr val)[3]? = some C.ca := rfl
  have hX6 : (xC C fra tr val)[6]? = some fra := rfl
  have hX7 : splice (xC C fra tr val) 7 [.int .i64 6] = xC C fra 6 val := rfl
  have hXl : (xC C fra tr val).length = 9 := rfl
  have hX0l : 3 ≤ (xC C fra tr val).length := by rw [hXl]; omega
  have hXle : 7 + 1 ≤ (xC C fra tr val).length := by rw [hXl]; omega
  have hlenF : ∀ g', lenR (some fra) g' = some (goI ids.length, g') := fun g' => h2.len g'
  have hbx : bar ≤ C.X := Nat.le_trans hb hbX
  have hXn : ¬ C.X = id := fun q => by rw [q, ho] at hoX; omega
  have g1X : g1.get C.X = some (.cells (xC C fra tr val) 0) := by rw [hg1, get_set_ne hXn]; exact h1
  rw [hca] at hX3
  obtain ⟨xc, hxc⟩ : ∃ xc, xc = xC C fra tr val := ⟨_, rfl⟩
  rw [← hxc] at h1 hX02 hX3 hX6 hX7 hXl hX0l hXle g1X
  obtain ⟨fc, hfc⟩ : ∃ fc, fc = frC la ta f.c.args f.at' f.loc sa := ⟨_, rfl⟩
  rw [← hfc] at hget h30 hle30 hs30
  rw [ha] at hk2
  by_cases hd : 32 ≤ ids.length
  · obtain ⟨g2, hg2⟩ : ∃ g2, g2 = g1.set C.X (.cells (xC C fra 6 val) 0) := ⟨_, rfl⟩
    have k2 : Kp own (fun k => k = 1) g1 g2 := ⟨by rw [hg2, n_set]; exact Nat.le_refl _, fun j hj hsj => by rw [hg2, get_set_ne (fun q => hsj (by rw [q]; exact hoX))]⟩
    have hge : decide ((32 : Int) ≤ (ids.length : Int)) = true := by simpa using (by omega : (32 : Int) ≤ (ids.length : Int))
    obtain ⟨y, g9, hcall, rfl, rfl⟩ := callF_K (o := call tb prim) (F := f_engine_runner_calls) (bar := bar) (h := g) (args := [.ptr C.X 0, .ptr id 0, .int .i32 nm]) (P := fun y g9 => y = .tup [] ∧ g9 = g2) rfl rfl (fun K hK => by
      simp [f_engine_runner_calls, env0, go_sem, get_alloc, n_alloc, get_set, n_set, get_kill, n_kill, writeAt, a11, a21, a31, a41, a51, a61, a71, isNil, h1, hX0l, hX02, eF, hget, h30, hX3, hlenS, goI, hcl, hix, hk2, hw, optEv, es1, es2, hle30, hs30, hbid, hone]
      simp [go_sem, get_alloc, n_alloc, get_set, n_set, get_kill, n_kill, writeAt, a11, a21, a31, a41, a51, a61, a71, isNil, hXn, h1, hX6, hlenF, goI, hge]
      simp [go_sem, get_alloc, n_alloc, get_set, n_set, get_kill, n_kill, writeAt, a11, a21, a31, a41, a51, a61, a71, isNil, hXn, h1, hX7, hXle, hbx]
      rw [← hg1, ← hg2]
      simp [go_sem, endP, endI, resultsA, resultA, freezeL, freezeV, AV.free.freeL, AV.free, packA, dropS]
      exact ⟨_, _, ⟨rfl, rfl⟩, hK _ _ ⟨rfl, rfl⟩⟩)
    refine ⟨_, own, call_of tb_engine_runner_calls hcall, v1.mono k2 Agr.refl (by omega) (by omega), (k1.le fun k h => .inr (.inr h)).trans Agr.refl (k2.le fun k h => .inl h), Agr.refl, .inl ⟨hd, ?_⟩⟩
    exact ⟨⟨fra, by rw [hg2, get_set, if_pos rfl], h2.mono (by rw [hg2, n_set]; omega) (fun j hj => by rw [hg2, get_set_ne (fun q => by have := h3 j hj; rw [q, hoX] at this; omega), hg1, get_set_ne (fun q => by have := h3 j hj; rw [q, ho] at this; omega)]), h3⟩, hoX, hbX, by rw [hg2, n_set, n1]; exact hlX, hs⟩
  · have hge : decide ((32 : Int) ≤ (ids.length : Int)) = false := by simpa using (by omega : ¬ (32 : Int) ≤ (ids.length : Int))
    obtain ⟨g2, own2, e2, x2, f2, k2, a2⟩ := call_ok' (bar := bar) (args := argsOf a f.st) x1 c1 hb (by omega) hx (by rw [argsOf_len hal]; exact hvw1) (by rw [argsOf_len hal]; omega) hids
    obtain ⟨y, g9, hcall, rfl, rfl⟩ := callF_K (o := call tb prim) (F := f_engine_runner_calls) (bar := bar) (h := g) (args := [.ptr C.X 0, .ptr id 0, .int .i32 nm]) (P := fun y g9 => y = .tup [] ∧ g9 = g2) rfl rfl (fun K hK => by
      simp [f_engine_runner_calls, env0, go_sem, get_alloc, n_alloc, get_set, n_set, get_kill, n_kill, writeAt, a11, a21, a31, a41, a51, a61, a71, isNil, h1, hX0l, hX02, eF, hget, h30, hX3, hlenS, goI, hcl, hix, hk2, hw, optEv, es1, es2, hle30, hs30, hbid, hone]
      simp [go_sem, get_alloc, n_alloc, get_set, n_set, get_kill, n_kill, writeAt, a11, a21, a31, a41, a51, a61, a71, isNil, hXn, h1, hX6, hlenF, goI, hge]
      rw [← hg1]
      simp [go_sem, get_alloc, n_alloc, get_set, n_set, get_kill, n_kill, writeAt, a11, a21, a31, a41, a51, a61, a71, isNil, e2]
      simp [go_sem, endP, endI, resultsA, resultA, freezeL, freezeV, AV.free.freeL, AV.free, packA, dropS]
      exact ⟨_, _, ⟨rfl, rfl⟩, hK _ _ ⟨rfl, rfl⟩⟩)
    refine ⟨_, own2, call_of tb_engine_runner_calls hcall, v1.mono k2 a2 (by omega) (by omega), (k1.le fun k h => .inr (.inr h)).trans Agr.refl (k2.le fun k h => by unfold tC; omega), by rw [← n1]; exact a2, .inr ⟨by omega, g1.n, x2, f2⟩⟩
end
end Go.Ev
set_option linter.unusedSectionVars false
namespace Go.Ev
open Go
theorem FzV.len {k : Nat} {a : AV} {n : Nat} {cs : List AV} (v : FzV k a n cs) (g : H) : lenR (some a) g = some (goI n, g) := by
  obtain ⟨_, _, ⟨rfl, rfl⟩ | ⟨full, rfl⟩⟩ := v <;> rfl
theorem Agr.mono {n m : Nat} {own own' : Nat → Nat} (h : Agr n own own') (hm : m ≤ n) : Agr m own own' := fun j hj => h j (by omega)
def totS : List Fm → Nat
  | [] => 0
  | f :: r => f.st.length + totS r
def tE : Nat → Prop := fun k => k = 1 ∨ k = 2 ∨ 10 ≤ k
section
variable {bar b : Nat} {g : H} {own : Nat → Nat} {C : Cx} {tr val : Int} {ids : List Nat} {t : Nat} {f : Fm} {id i : Nat}
theorem XO.top (v : XO g b own C tr val (i :: ids)) : ∃ sid all full, g.get C.X = some (.cells (xC C (.sl sid 0 1 (ids.length + 1) full) tr val) 0) ∧ g.get sid = some (.cells all 0) ∧ all[ids.length]? = some (.ptr i 0) ∧ own sid = 2 ∧ sid < g.n ∧ b ≤ sid ∧
    (∀ (g' : H) (full' : Bool) (val' : Int), g.n ≤ g'.n → g'.get sid = g.get sid → g'.get C.X = some (.cells (xC C (.sl sid 0 1 ids.length full') tr val') 0) → XO g' b own C tr val' ids) := by
  obtain ⟨⟨fra, h1, h2, h3⟩, hoX, hbX, hlX, hs⟩ := v
  obtain ⟨sid, all, full, rfl, hbs, hsl, hgs, hle, htk, hcl, hgi, _, hcut⟩ := h2.cases (by simp)
  refine ⟨sid, all, full, h1, hgs, ?_, h3 sid rfl, hsl, hbs, fun g' full' val' hn hg hX => ⟨⟨_, hX, ?_, fun j hj => by cases hj; exact h3 sid rfl⟩, hoX, hbX, by omega, by simp at hs; omega⟩⟩
  · rw [hgi _ (by simp), List.reverse_cons, List.map_append, List.getElem?_append_right (by simp)]; simp
  · have := hcut g' ids.length full' (by simp) hn hg
    have e : ((i :: ids).reverse.map fun i => AV.ptr i 0).take (ids.length * 1) = ids.reverse.map fun i => AV.ptr i 0 := by
      rw [List.reverse_cons, List.map_append, Nat.mul_one]
      have : (ids.reverse.map fun i => AV.ptr i 0).length = ids.length := by simp
      rw [← this]; exact List.take_left ..
    rw [e] at this
    exact this
theorem ends_loop (C : Cx) (b bar : Nat) (hb : bar ≤ b) (tr val : Int) (Q : Ex → Env → H → Prop) : ∀ (r : List Fm) (f : Fm) (i : Nat) (ids : List Nat) (g : H) (own : Nat → Nat), b ≤ g.n → XO g b own C tr val (i :: ids) → FrsV g b own (f :: r) (i :: ids) →
    (∀ fr, endsM f r = some (fr, none) → ∀ e g' own' j ids', Kp own tE g g' → Agr g.n own own' → XO g' b own' C tr val (j :: ids') → FrsV g' b own' fr (j :: ids') → e.get 2 = some (.bool true) → Q .ret e g') →
    (∀ fr v, endsM f r = some (fr, some v) → ∀ e g' own', fr = [] → Kp own tE g g' → Agr g.n own own' → XO g' b own' C tr v [] → Q (.exit 0) e g') →
    (∃ out, endsM f r = some out) → totS (f :: r) < 3000000 →
    wpL (call tb prim) bar [0] l0_engine_runner_ends [(0, .ptr C.X 0)] g Q
  | r, f, i, ids, g, own, hbg, vx, vf, hA, hB, hE, hT => by
    obtain ⟨sid, all, full, hX, hS, htop, hoS, hlS, hbS, hcut⟩ := vx.top
    have hf := vf.1
    have hr := vf.2
    obtain ⟨⟨la, ta, sa, hv, hsa, hc⟩, ho⟩ := hf
    have hget := hv.get
    have h3 : (frC la ta f.c.args f.at' f.loc sa)[3]? = some (.int .i64 f.at') := frC_3
    have h0 : (frC la ta f.c.args f.at' f.loc sa)[0]? = some la := frC_0
    have hlen : ∀ g, lenR (some la) g = some (goI f.c.l.length, g) := fun g => hc.1.1.len g
    have hsm := vx.sm
    have hw : IntKind.i64.wrap (ids.length : Int) = (ids.length : Nat) := by simp at hsm; exact w64 (by omega) (by omega)
    have hX6 : ∀ fra, (xC C fra tr val)[6]? = some fra := fun _ => rfl
    have hltI : (ids.length : Int) < (ids.length : Int) + 1 := by omega
    obtain ⟨xc, hxc⟩ : ∃ xc, xc = xC C (.sl sid 0 1 (ids.length + 1) full) tr val := ⟨_, rfl⟩
    have hx6 : xc[6]? = some (.sl sid 0 1 (ids.length + 1) full) := by rw [hxc]; rfl
    rw [← hxc] at hX
    obtain ⟨fc, hfc⟩ : ∃ fc, fc = frC la ta f.c.args f.at' f.loc sa := ⟨_, rfl⟩
    rw [← hfc] at hget h3 h0
    refine M_loop l0_engine_runner_ends.eq_1 ?_
    by_cases hlt : f.at' < f.c.l.length
    · have hlt' : (f.at' : Int) < (f.c.l.length : Int) := by omega
      simp [go_sem, get_alloc, n_alloc, get_set, n_set, get_kill, n_kill, writeAt, a11, a21, a31, a41, a51, a61, a71, isNil, hX, hx6, hw, hltI, indexIn, hS, htop, hget, h3, h0, hlen, goI, hlt']
      exact hA (f :: r) (by unfold endsM; rw [if_pos hlt]) _ _ own i ids Kp.refl Agr.refl (by rw [hxc] at hX; exact vx) vf rfl
    · have hlt' : ¬ (f.at' : Int) < (f.c.l.length : Int) := by omega
      obtain ⟨v, st', hst⟩ : ∃ v st', f.st = v :: st' := by
        obtain ⟨out, ho⟩ := hE
        unfold endsM at ho
        rw [if_neg hlt] at ho
        cases hs : f.st with
        | nil => rw [hs] at ho; cases ho
        | cons v st' => exact ⟨v, st', rfl⟩
      obtain ⟨g1, e1, v1, k1⟩ := pop_o vf.1 hst hb
      have x1 := vx.mono k1 Agr.refl (tS1 _)
      have r1 := FrsV.mono k1 Agr.refl hr (fun t ht => by unfold tS; omega)
      have hXg1 : g1.get C.X = some (.cells xc 0) := by rw [k1.2 _ vx.lt (by rw [vx.own]; exact (tS1 _).1)]; exact hX
      have hSg1 : g1.get sid = some (.cells all 0) := by rw [k1.2 _ hlS (by rw [hoS]; exact (tS1 _).2)]; exact hS
      have hsl : ∀ g : H, sliceA 1 (.sl sid 0 1 (ids.length + 1) full) none (some (.int .i64 (ids.length : Nat))) none = some (.sl sid 0 1 ids.length (full && decide (ids.length = ids.length + 1))) := fun _ => by
        simp [sliceA, optBound, bound]
      have hsl2 := hsl g1
      obtain ⟨fl, hfl⟩ : ∃ fl, fl = (full && decide (ids.length = ids.length + 1)) := ⟨_, rfl⟩
      rw [← hfl] at hsl2
      obtain ⟨xd, hxd⟩ : ∃ xd, xd = xC C (.sl sid 0 1 ids.length fl) tr val := ⟨_, rfl⟩
      have hsp : splice xc 6 [.sl sid 0 1 ids.length fl] = xd := by rw [hxc, hxd]; rfl
      have hle : 6 + 1 ≤ xc.length := by rw [hxc]; simp [xC]
      have hbx : bar ≤ C.X := Nat.le_trans hb vx.bX
      obtain ⟨g2, hg2⟩ : ∃ g2, g2 = g1.set C.X (.cells xd 0) := ⟨_, rfl⟩
      have n2 : g2.n = g1.n := by rw [hg2, n_set]
      have k2 : Kp own (fun k => k = 1) g1 g2 := ⟨by omega, fun j hj hs => by rw [hg2, get_set_ne (fun q => hs (by rw [q]; exact vx.own))]⟩
      have hSX : sid ≠ C.X := fun q => by have := vx.own; rw [← q, hoS] at this; omega
      have hX2 : g2.get C.X = some (.cells xd 0) := by rw [hg2, get_set, if_pos rfl]
      have hS2 : g2.get sid = some (.cells all 0) := by rw [hg2, get_set_ne hSX]; exact hSg1
      have x2 : XO g2 b own C tr val ids := hcut g2 fl val (by have := k1.1; omega) (by rw [hS2, hS]) (by rw [hX2, hxd])
      have r2 := FrsV.mono k2 Agr.refl r1 (fun t ht => by omega)
      have k12 : Kp own tE g g2 := (k1.le fun k h => by unfold tS at h; unfold tE; omega).trans Agr.refl (k2.le fun k h => .inl h)
      have hxd6 : xd[6]? = some (.sl sid 0 1 ids.length fl) := by rw [hxd]; rfl
      obtain ⟨n, hn⟩ : ∃ n, n = ids.length := ⟨_, rfl⟩
      rw [← hn] at hw hltI htop hsl2 hsp hxd6 hx6
      simp [go_sem, get_alloc, n_alloc, get_set, n_set, get_kill, n_kill, writeAt, a11, a21, a31, a41, a51, a61, a71, isNil, hX, hx6, hw, hltI, indexIn, hS, htop, hget, h3, h0, hlen, goI, hlt', e1, hXg1, hSg1, optEv, hsl2, hsp, hle, hbx]
      rw [← hg2]
      cases r with
      | nil =>
        cases ids with
        | cons j l => exact hr.elim
        | nil =>
          obtain ⟨g3, hg3⟩ : ∃ g3, g3 = g2.set C.X (.cells (xC C (.sl sid 0 1 n fl) tr v) 0) := ⟨_, rfl⟩
          have hsp8 : splice xd 8 [.int .i64 v] = xC C (.sl sid 0 1 n fl) tr v := by rw [hxd, hn]; rfl
          have hle8 : 8 + 1 ≤ xd.length := by rw [hxd]; simp [xC]
          have hn0 : n = 0 := hn
          have hz : ((n : Int) == 0) = true := by rw [hn0]; rfl
          simp [go_sem, get_alloc, n_alloc, get_set, n_set, get_kill, n_kill, writeAt, a11, a21, a31, a41, a51, a61, a71, isNil, hX2, hxd6, hz, hsp8, hle8, hbx, goI]
          rw [← hg3]
          refine hB [] v (by unfold endsM; rw [if_neg hlt, hst]) _ g3 own rfl (k12.trans Agr.refl ⟨by rw [hg3, n_set]; exact Nat.le_refl _, fun j hj hs => by rw [hg3, get_set_ne (fun q => hs (.inl (by rw [q]; exact vx.own)))]⟩) Agr.refl ?_
          exact hcut g3 fl v (by have := k1.1; rw [hg3, n_set]; omega) (by rw [hg3, get_set_ne hSX, hS2, hS]) (by rw [hg3, get_set, if_pos rfl, hn])
      | cons f2 r2' =>
        cases ids with
        | nil => exact hr.elim
        | cons j l =>
          have hn0 : n = l.length + 1 := hn
          have hz : ((n : Int) == 0) = false := by rw [hn0]; simp; omega
          obtain ⟨g3, own3, e3, v3, k3, a3⟩ := push_o r2.1 hb (by have := k1.1; omega) (by simp only [totS, hst, List.length_cons] at hT; omega) v
          have x3 := x2.mono k3 a3 (tS1 _)
          have r3 := FrsV.mono k3 a3 r2.2 (fun t ht => by unfold tS; omega)
          have htop2 : all[l.length]? = some (.ptr j 0) := by
            obtain ⟨sid', all', full', hX', hS', ht', _⟩ := x2.top
            rw [hX2] at hX'
            have e := congrArg (fun x => match x with | some (.cells cs _) => cs[6]? | _ => none) hX'
            simp only [hxd6] at e
            have e' : some (AV.sl sid 0 1 n fl) = some (.sl sid' 0 1 (l.length + 1) full') := e
            cases e'
            rw [hS2] at hS'
            cases hS'
            exact ht'
          have hw2 : IntKind.i64.wrap ((n : Int) - 1) = (l.length : Nat) := by rw [w64 (by omega) (by simp at hsm; omega)]; omega
          have hix : indexIn (.int .i64 (l.length : Int)) n = some l.length := by simp only [indexIn]; rw [if_pos (by omega), Int.toNat_natCast]
          simp [go_sem, get_alloc, n_alloc, get_set, n_set, get_kill, n_kill, writeAt, a11, a21, a31, a41, a51, a61, a71, isNil, hX2, hxd6, hz, hbx, goI]
          simp [go_sem, get_alloc, n_alloc, get_set, n_set, get_kill, n_kill, writeAt, a11, a21, a31, a41, a51, a61, a71, isNil, hw2, hix, hS2, htop2, e3]
          have hstep : endsM f (f2 :: r2') = endsM { f2 with st := v :: f2.st } r2' := by conv => lhs; unfold endsM; rw [if_neg hlt, hst]
          refine ends_loop C b bar hb tr val Q r2' { f2 with st := v :: f2.st } j l g3 own3 (by have := k1.1; have := k3.1; omega) x3 ⟨v3, r3⟩ (fun fr he e g' own' j' ids' kk aa xx ff ee => ?_) (fun fr v' he e g' own' h0 kk aa xx => ?_) (by rw [← hstep]; exact hE) ?_
          · exact hA fr (by rw [hstep]; exact he) e g' own' j' ids' (k12.trans Agr.refl ((k3.le fun k h => by unfold tS at h; unfold tE; omega).trans a3 kk)) (Agr.trans (Agr.mono a3 (by have := k1.1; omega)) aa (by have := k1.1; have := k3.1; omega)) xx ff ee
          · exact hB fr v' (by rw [hstep]; exact he) e g' own' h0 (k12.trans Agr.refl ((k3.le fun k h => by unfold tS at h; unfold tE; omega).trans a3 kk)) (Agr.trans (Agr.mono a3 (by have := k1.1; omega)) aa (by have := k1.1; have := k3.1; omega)) xx
          · simp only [totS, hst, List.length_cons] at hT ⊢; omega
end
end Go.Ev
set_option linter.unusedSectionVars false
namespace Go.Ev
open Go
theorem spT3 (a b c u v w : AV) : splice [a, b, c] 0 [u, v, w] = [u, v, w] := Eq.trans rfl rfl
theorem endsM_nil : ∀ (r : List Fm) (f : Fm) {fr : List Fm} {v : Int}, endsM f r = some (fr, some v) → fr = []
  | r, f, fr, v, h => by
    unfold endsM at h
    split at h
    · cases h
    · split at h
      · cases h
      · split at h
        · cases h; rfl
        · exact endsM_nil _ _ h
def tA : Nat → Prop := fun k => k ≠ 0 ∧ k ≠ 9
theorem tE_A {k : Nat} (h : tE k) : tA k := by unfold tE at h; unfold tA; omega
theorem tS_A {t k : Nat} (h : tS t k) : tA k := by unfold tS at h; unfold tA; omega
section
variable {bar b : Nat} {g : H} {own : Nat → Nat} {C : Cx} {tr val : Int} {ids : List Nat} {t : Nat} {f : Fm} {id i : Nat}
def EndsV (g' : H) (b : Nat) (own' : Nat → Nat) (C : Cx) (tr val : Int) : List Fm × Option Int → Prop
  | (fr, none) => ∃ j ids', XO g' b own' C tr val (j :: ids') ∧ FrsV g' b own' fr (j :: ids')
  | (fr, some v) => fr = [] ∧ XO g' b own' C tr v []
theorem ends_ok {r : List Fm} (hb : bar ≤ b) (hbg : b ≤ g.n) (vx : XO g b own C tr val (i :: ids)) (vf : FrsV g b own (f :: r) (i :: ids)) (hT : totS (f :: r) < 3000000) {out : List Fm × Option Int} (he : endsM f r = some out) :
    ∃ g' own', call tb prim n_engine_runner_ends [.ptr C.X 0] bar g = some (.bool out.2.isNone, g') ∧ Kp own tE g g' ∧ Agr g.n own own' ∧ EndsV g' b own' C tr val out := by
  obtain ⟨y, g9, hcall, rfl, own', h1, h2, h3⟩ := callF_K (o := call tb prim) (F := f_engine_runner_ends) (bar := bar) (h := g) (args := [.ptr C.X 0]) (P := fun y g9 => y = .bool out.2.isNone ∧ ∃ own', Kp own tE g g9 ∧ Agr g.n own own' ∧ EndsV g9 b own' C tr val out) rfl rfl (fun K hK => by
    simp [f_engine_runner_ends, env0, go_sem, get_alloc, n_alloc, get_set, n_set, get_kill, n_kill, writeAt, a11, a21, a31, a41, a51, a61, a71, isNil]
    refine ends_loop C b bar hb tr val _ r f i ids g own hbg vx vf (fun fr h e g' own' j ids' k1 k2 k3 k4 k5 => ?_) (fun fr v h e g' own' k0 k1 k2 k3 => ?_) ⟨out, he⟩ hT
    · rw [he] at h
      cases h
      simp [go_sem, endP, endI, resultsA, resultA, freezeL, freezeV, AV.free.freeL, AV.free, packA, dropS, k5]
      exact ⟨_, _, ⟨rfl, rfl⟩, hK _ _ ⟨rfl, own', k1, k2, j, ids', k3, k4⟩⟩
    · rw [he] at h
      cases h
      simp [go_sem, endP, endI, resultsA, resultA, freezeL, freezeV, AV.free.freeL, AV.free, packA, dropS]
      exact ⟨_, _, ⟨rfl, rfl⟩, hK _ _ ⟨rfl, own', k1, k2, k0, k3⟩⟩)
  exact ⟨_, own', call_of tb_engine_runner_ends hcall, h1, h2, h3⟩
/-- With a token laid down. -/
def tokC (k : Tok) : List AV := [.int .i32 k.sign, .int .i64 k.n, .int .i32 k.name]
def tokZ (g : H) (k : Tok) : H := (g.alloc (.cells [.int .i32 0, .int .i64 0, .int .i32 0] 0)).set g.n (.cells (tokC k) 0)
theorem tokZ_n {k : Tok} : (tokZ g k).n = g.n + 1 := rfl
theorem tokZ_get {k : Tok} : (tokZ g k).get g.n = some (.cells (tokC k) 0) := by simp [tokZ, get_set]
theorem tokZ_ne {k : Tok} {j : Nat} (h : j ≠ g.n) : (tokZ g k).get j = g.get j := by rw [tokZ, get_set_ne h, get_alloc, if_neg h]
theorem tokZ_kp {k : Tok} {S : Nat → Prop} : Kp own S g (tokZ g k) := ⟨by rw [tokZ_n]; omega, fun j hj _ => tokZ_ne (by omega)⟩
/-- What a step reads first. -/
theorem FrO.head (v : FrO g b own t f id) {k : Tok} (hk : f.c.l[f.at']? = some k) : ∃ fc n cs full, g.get id = some (.cells fc 0) ∧ fc[0]? = some (.fz 3 n cs full) ∧ fc[3]? = some (.int .i64 f.at') ∧ (cs.length = n * 3) = True ∧ indexIn (.int .i64 (f.at' : Int)) n = some f.at' ∧ f.at' * 3 + 3 ≤ cs.length ∧ (cs.drop (f.at' * 3)).take 3 = tokC k ∧ id < g.n ∧ f.at' < 2000 := by
  obtain ⟨⟨la, ta, sa, hv, hsa, hc⟩, ho⟩ := v
  have hlt := (List.getElem?_eq_some_iff.mp hk).1
  obtain ⟨⟨hc1, hc2⟩, hc3, _⟩ := hc
  obtain ⟨h1, h2, ⟨_, e⟩ | ⟨full, rfl⟩⟩ := hc1
  · omega
  · refine ⟨_, _, _, full, hv.get, frC_0, frC_3, by simpa using h1, by simp only [indexIn]; rw [if_pos (by omega), Int.toNat_natCast], by rw [h1]; omega, ?_, hv.lt, by omega⟩
    rw [flat_row Tok.cells_len f.c.l _ k hk]; rfl
/-- How it ends. -/
theorem FrO.next (v : FrO g b own t f id) (hb : bar ≤ b) (ha : f.at' < 2000) : ∃ fc fc', g.get id = some (.cells fc 0) ∧ fc[3]? = some (.int .i64 f.at') ∧ 3 + 1 ≤ fc.length ∧ splice fc 3 [.int .i64 ((f.at' : Int) + 1)] = fc' ∧ bar ≤ id ∧ FrO (g.set id (.cells fc' 0)) b own t { f with at' := f.at' + 1 } id ∧ Kp own (tS t) g (g.set id (.cells fc' 0)) := by
  obtain ⟨⟨la, ta, sa, hv, hsa, hc⟩, ho⟩ := v
  have := FrO.setC (g' := g.set id (.cells (frC la ta f.c.args (f.at' + 1) f.loc sa) 0)) (p := f.at' + 1) hv hsa hc ho hv.loc (by omega) rfl
  exact ⟨_, _, hv.get, frC_3, by rw [frC_len hv.loc]; omega, frC_set3, Nat.le_trans hb hv.bid, this.1, this.2⟩
theorem sg_cases {s : Int} (h1 : ¬ (97 ≤ s ∧ s ≤ 122)) (h2 : ¬ (65 ≤ s ∧ s ≤ 90)) : (decide (97 ≤ s) = false ∧ decide (65 ≤ s) = false) ∨ (decide (97 ≤ s) = false ∧ decide (65 ≤ s) = true ∧ decide (s ≤ 90) = false) ∨ (decide (97 ≤ s) = true ∧ decide (s ≤ 122) = false ∧ decide (65 ≤ s) = true ∧ decide (s ≤ 90) = false) := by
  simp only [decide_eq_true_eq, decide_eq_false_iff_not]; omega
theorem FrO.local (v : FrO g b own t f id) {j : Nat} {x : Int} (hx : f.loc[j]? = some x) : ∃ fc, g.get id = some (.cells fc 0) ∧ fc[4 + j]? = some (.int .i64 x) ∧ j < 26 := by
  obtain ⟨⟨la, ta, sa, hv, hsa, hc⟩, ho⟩ := v
  exact ⟨_, hv.get, frC_loc hx, by have := (List.getElem?_eq_some_iff.mp hx).1; rw [hv.loc] at this; exact this⟩
theorem FrO.setLocal (v : FrO g b own t f id) (hb : bar ≤ b) {j : Nat} (hj : j < 26) (x : Int) : ∃ fc fc', g.get id = some (.cells fc 0) ∧ (4 + j) + 1 ≤ fc.length ∧ splice fc (4 + j) [.int .i64 x] = fc' ∧ bar ≤ id ∧ FrO (g.set id (.cells fc' 0)) b own t { f with loc := f.loc.set j x } id ∧ Kp own (tS t) g (g.set id (.cells fc' 0)) := by
  obtain ⟨⟨la, ta, sa, hv, hsa, hc⟩, ho⟩ := v
  have := FrO.setC (g' := g.set id (.cells (frC la ta f.c.args f.at' (f.loc.set j x) sa) 0)) (p := f.at') (loc := f.loc.set j x) hv hsa hc ho (by rw [List.length_set]; exact hv.loc) hv.at1 rfl
  exact ⟨_, _, hv.get, by rw [frC_len hv.loc]; omega, frC_setloc (by rw [hv.loc]; exact hj), Nat.le_trans hb hv.bid, this.1, this.2⟩
theorem step_num {k : Tok} (vf : FrO g b own t f id) (hb : bar ≤ b) (hbg : b ≤ g.n) (hk : f.c.l[f.at']? = some k) (hs : k.sign = 48) (hsm : f.st.length < 3000000) (X : AV) :
    ∃ g' own', call tb prim n_engine_runner_step [X, .ptr id 0] bar g = some (.tup [], g') ∧ FrO g' b own' t { f with at' := f.at' + 1, st := k.n :: f.st } id ∧ Kp own (tS t) g g' ∧ Agr g.n own own' := by
  obtain ⟨fc, n, cs, full, hget, h0, h3, hcl, hix, hle, hrow, hlt, ha6⟩ := vf.head hk
  have vz := vf.mono (tokZ_kp (k := k) (S := fun _ => False)) (Agr.ext (k := 0)) (by simp) (by simp)
  have hne : id ≠ g.n := by omega
  have hbn : bar ≤ g.n := by omega
  have hw : IntKind.i64.wrap ((f.at' : Int) + 1) = ((f.at' + 1 : Nat) : Int) := w64_succ (by omega)
  obtain ⟨g1, own1, e1, v1, k1, a1⟩ := push_o (bar := bar) vz hb (by rw [tokZ_n]; omega) hsm k.n
  obtain ⟨fd, fe, hget1, h31, hle1, hsp1, hbid, v2, k2⟩ := v1.next hb ha6
  simp only at h31 hsp1
  simp only [tokZ, tokC] at e1
  have hq : (k.sign == 48) = true := by simp [hs]
  obtain ⟨y, g9, hcall, rfl, rfl⟩ := callF_K (o := call tb prim) (F := f_engine_runner_step) (bar := bar) (h := g) (args := [X, .ptr id 0]) (P := fun y g9 => y = .tup [] ∧ g9 = g1.set id (.cells fe 0)) rfl rfl (fun K hK => by
    simp [f_engine_runner_step, env0, go_sem, get_alloc, n_alloc, get_set, n_set, get_kill, n_kill, writeAt, a11, a21, a31, a41, a51, a61, a71, isNil, hget, h0, h3, hcl, hix, hle, hrow]
    refine ⟨⟨sees_of rfl ?_, sees_of rfl ?_, sees_of rfl ?_⟩, ?_⟩
    · simp [-getElem?_pos, R_nil, R_cons, RS_some, sameV_some, seesQ_some, List.take, List.take_succ_cons, List.take_zero, go_sem, get_alloc, n_alloc, get_set, n_set, get_kill, n_kill, writeAt, a11, a21, a31, a41, a51, a61, a71, isNil, hget, h0, h3, hcl, hix, hle, hrow, hne, hbn, tokC, spT3, List.getElem?_cons_zero, List.getElem?_cons_succ]
    · simp [-getElem?_pos, R_nil, R_cons, RS_some, sameV_some, seesQ_some, List.take, List.take_succ_cons, List.take_zero, go_sem, get_alloc, n_alloc, get_set, n_set, get_kill, n_kill, writeAt, a11, a21, a31, a41, a51, a61, a71, isNil, hget, h0, h3, hcl, hix, hle, hrow, hne, hbn, tokC, spT3, List.getElem?_cons_zero, List.getElem?_cons_succ]
    · simp [-getElem?_pos, R_nil, R_cons, RS_some, sameV_some, seesQ_some, List.take, List.take_succ_cons, List.take_zero, go_sem, get_alloc, n_alloc, get_set, n_set, get_kill, n_kill, writeAt, a11, a21, a31, a41, a51, a61, a71, isNil, hget, h0, h3, hcl, hix, hle, hrow, hne, hbn, tokC, spT3, List.getElem?_cons_zero, List.getElem?_cons_succ]
    simp [go_sem, get_alloc, n_alloc, get_set, n_set, get_kill, n_kill, writeAt, a11, a21, a31, a41, a51, a61, a71, isNil, hget, h0, h3, hcl, hix, hle, hrow, hbn, tokC, spT3, hq, e1, hget1, h31, hw, hle1, hsp1, hbid]
    simp [go_sem, endP, endI, resultsA, resultA, freezeL, freezeV, AV.free.freeL, AV.free, packA, dropS]
    exact ⟨_, _, ⟨rfl, rfl⟩, hK _ _ ⟨rfl, rfl⟩⟩)
  exact ⟨_, own1, call_of tb_engine_runner_step hcall, v2, (tokZ_kp (k := k)).trans Agr.ext (k1.trans a1 k2), Agr.trans Agr.ext a1 (by rw [tokZ_n]; omega)⟩
theorem step_get {k : Tok} (vf : FrO g b own t f id) (hb : bar ≤ b) (hbg : b ≤ g.n) (hk : f.c.l[f.at']? = some k) (hs : 97 ≤ k.sign ∧ k.sign ≤ 122) {x : Int} (hx : f.loc[(k.sign - 97).toNat]? = some x) (hsm : f.st.length < 3000000) (X : AV) :
    ∃ g' own', call tb prim n_engine_runner_step [X, .ptr id 0] bar g = some (.tup [], g') ∧ FrO g' b own' t { f with at' := f.at' + 1, st := x :: f.st } id ∧ Kp own (tS t) g g' ∧ Agr g.n own own' := by
  obtain ⟨fc, n, cs, full, hget, h0, h3, hcl, hix, hle, hrow, hlt, ha6⟩ := vf.head hk
  have vz := vf.mono (tokZ_kp (k := k) (S := fun _ => False)) (Agr.ext (k := 0)) (by simp) (by simp)
  have hne : id ≠ g.n := by omega
  have hbn : bar ≤ g.n := by omega
  have hw : IntKind.i64.wrap ((f.at' : Int) + 1) = ((f.at' + 1 : Nat) : Int) := w64_succ (by omega)
  obtain ⟨g1, own1, e1, v1, k1, a1⟩ := push_o (bar := bar) vz hb (by rw [tokZ_n]; omega) hsm x
  obtain ⟨fd, fe, hget1, h31, hle1, hsp1, hbid, v2, k2⟩ := v1.next hb ha6
  simp only at h31 hsp1
  obtain ⟨fg, hfg, hloc, hj⟩ := vf.local hx
  rw [hget] at hfg
  cases hfg
  simp only [tokZ, tokC] at e1
  have hq : (k.sign == 48) = false := by simp; omega
  have hq2 : decide (97 ≤ k.sign) = true := by simp; omega
  have hq3 : decide (k.sign ≤ 122) = true := by simp; omega
  have hq4 : IntKind.i32.wrap (k.sign - 97) = k.sign - 97 := w32 (by omega) (by omega)
  have hq5 : indexIn (.int .i32 (k.sign - 97)) 26 = some (k.sign - 97).toNat := by simp only [indexIn]; rw [if_pos (by omega)]
  obtain ⟨y, g9, hcall, rfl, rfl⟩ := callF_K (o := call tb prim) (F := f_engine_runner_step) (bar := bar) (h := g) (args := [X, .ptr id 0]) (P := fun y g9 => y = .tup [] ∧ g9 = g1.set id (.cells fe 0)) rfl rfl (fun K hK => by
    simp [f_engine_runner_step, env0, go_sem, get_alloc, n_alloc, get_set, n_set, get_kill, n_kill, writeAt, a11, a21, a31, a41, a51, a61, a71, isNil, hget, h0, h3, hcl, hix, hle, hrow]
    refine ⟨⟨sees_of rfl ?_, sees_of rfl ?_, sees_of rfl ?_⟩, ?_⟩
    · simp [-getElem?_pos, R_nil, R_cons, RS_some, sameV_some, seesQ_some, List.take, List.take_succ_cons, List.take_zero, go_sem, get_alloc, n_alloc, get_set, n_set, get_kill, n_kill, writeAt, a11, a21, a31, a41, a51, a61, a71, isNil, hget, h0, h3, hcl, hix, hle, hrow, hne, hbn, tokC, spT3, List.getElem?_cons_zero, List.getElem?_cons_succ]
    · simp [-getElem?_pos, R_nil, R_cons, RS_some, sameV_some, seesQ_some, List.take, List.take_succ_cons, List.take_zero, go_sem, get_alloc, n_alloc, get_set, n_set, get_kill, n_kill, writeAt, a11, a21, a31, a41, a51, a61, a71, isNil, hget, h0, h3, hcl, hix, hle, hrow, hne, hbn, tokC, spT3, List.getElem?_cons_zero, List.getElem?_cons_succ]
    · simp [-getElem?_pos, R_nil, R_cons, RS_some, sameV_some, seesQ_some, List.take, List.take_succ_cons, List.take_zero, go_sem, get_alloc, n_alloc, get_set, n_set, get_kill, n_kill, writeAt, a11, a21, a31, a41, a51, a61, a71, isNil, hget, h0, h3, hcl, hix, hle, hrow, hne, hbn, tokC, spT3, List.getElem?_cons_zero, List.getElem?_cons_succ]
    simp [go_sem, get_alloc, n_alloc, get_set, n_set, get_kill, n_kill, writeAt, a11, a21, a31, a41, a51, a61, a71, isNil, hget, h0, h3, hcl, hix, hle, hrow, hbn, tokC, spT3, hq, hq2, hq3, hq4, hq5, hne, hloc, e1, hget1, h31, hw, hle1, hsp1, hbid]
    simp [go_sem, endP, endI, resultsA, resultA, freezeL, freezeV, AV.free.freeL, AV.free, packA, dropS]
    exact ⟨_, _, ⟨rfl, rfl⟩, hK _ _ ⟨rfl, rfl⟩⟩)
  exact ⟨_, own1, call_of tb_engine_runner_step hcall, v2, (tokZ_kp (k := k)).trans Agr.ext (k1.trans a1 k2), Agr.trans Agr.ext a1 (by rw [tokZ_n]; omega)⟩
theorem step_set {k : Tok} (vf : FrO g b own t f id) (hb : bar ≤ b) (hbg : b ≤ g.n) (hk : f.c.l[f.at']? = some k) (hs : 65 ≤ k.sign ∧ k.sign ≤ 90) {x : Int} {st : List Int} (hst : f.st = x :: st) (X : AV) :
    ∃ g' own', call tb prim n_engine_runner_step [X, .ptr id 0] bar g = some (.tup [], g') ∧ FrO g' b own' t { f with at' := f.at' + 1, st := st, loc := f.loc.set (k.sign - 65).toNat x } id ∧ Kp own (tS t) g g' ∧ Agr g.n own own' := by
  obtain ⟨fc, n, cs, full, hget, h0, h3, hcl, hix, hle, hrow, hlt, ha6⟩ := vf.head hk
  have vz := vf.mono (tokZ_kp (k := k) (S := fun _ => False)) (Agr.ext (k := 0)) (by simp) (by simp)
  have hne : id ≠ g.n := by omega
  have hbn : bar ≤ g.n := by omega
  have hw : IntKind.i64.wrap ((f.at' : Int) + 1) = ((f.at' + 1 : Nat) : Int) := w64_succ (by omega)
  obtain ⟨g1, e1, w1, l1⟩ := pop_o (bar := bar) vz hst hb
  obtain ⟨fg, fh, hgetL, hleL, hspL, hbid', v1, l2⟩ := w1.setLocal (bar := bar) (j := (k.sign - 65).toNat) hb (by omega) x
  obtain ⟨g2, hg2⟩ : ∃ g2, g2 = g1.set id (.cells fh 0) := ⟨_, rfl⟩
  rw [← hg2] at v1 l2
  obtain ⟨fd, fe, hget1, h31, hle1, hsp1, hbid, v2, k2⟩ := v1.next hb ha6
  simp only at h31 hsp1
  simp only [tokZ, tokC] at e1
  have hfd : fd = fh := by rw [hg2, get_set, if_pos rfl] at hget1; cases hget1; rfl
  subst hfd
  have hq : (k.sign == 48) = false := by simp; omega
  have hq2 : decide (97 ≤ k.sign) = false := by simp; omega
  have hq3 : decide (65 ≤ k.sign) = true := by simp; omega
  have hq4 : IntKind.i32.wrap (k.sign - 65) = k.sign - 65 := w32 (by omega) (by omega)
  have hq5 : indexIn (.int .i32 (k.sign - 65)) 26 = some (k.sign - 65).toNat := by simp only [indexIn]; rw [if_pos (by omega)]
  have hq6 : decide (k.sign ≤ 90) = true := by simp; omega
  obtain ⟨y, g9, hcall, rfl, rfl⟩ := callF_K (o := call tb prim) (F := f_engine_runner_step) (bar := bar) (h := g) (args := [X, .ptr id 0]) (P := fun y g9 => y = .tup [] ∧ g9 = g2.set id (.cells fe 0)) rfl rfl (fun K hK => by
    simp [f_engine_runner_step, env0, go_sem, get_alloc, n_alloc, get_set, n_set, get_kill, n_kill, writeAt, a11, a21, a31, a41, a51, a61, a71, isNil, hget, h0, h3, hcl, hix, hle, hrow]
    refine ⟨⟨sees_of rfl ?_, sees_of rfl ?_, sees_of rfl ?_⟩, ?_⟩
    · simp [-getElem?_pos, R_nil, R_cons, RS_some, sameV_some, seesQ_some, List.take, List.take_succ_cons, List.take_zero, go_sem, get_alloc, n_alloc, get_set, n_set, get_kill, n_kill, writeAt, a11, a21, a31, a41, a51, a61, a71, isNil, hget, h0, h3, hcl, hix, hle, hrow, hne, hbn, tokC, spT3, List.getElem?_cons_zero, List.getElem?_cons_succ]
    · simp [-getElem?_pos, R_nil, R_cons, RS_some, sameV_some, seesQ_some, List.take, List.take_succ_cons, List.take_zero, go_sem, get_alloc, n_alloc, get_set, n_set, get_kill, n_kill, writeAt, a11, a21, a31, a41, a51, a61, a71, isNil, hget, h0, h3, hcl, hix, hle, hrow, hne, hbn, tokC, spT3, List.getElem?_cons_zero, List.getElem?_cons_succ]
    · simp [-getElem?_pos, R_nil, R_cons, RS_some, sameV_some, seesQ_some, List.take, List.take_succ_cons, List.take_zero, go_sem, get_alloc, n_alloc, get_set, n_set, get_kill, n_kill, writeAt, a11, a21, a31, a41, a51, a61, a71, isNil, hget, h0, h3, hcl, hix, hle, hrow, hne, hbn, tokC, spT3, List.getElem?_cons_zero, List.getElem?_cons_succ]
    simp [go_sem, get_alloc, n_alloc, get_set, n_set, get_kill, n_kill, writeAt, a11, a21, a31, a41, a51, a61, a71, isNil, hget, h0, h3, hcl, hix, hle, hrow, hbn, tokC, spT3, hq, hq2, hq3, hq4, hq5, hq6, e1, hgetL, hleL, hspL, hbid']
    rw [← hg2]
    simp [go_sem, get_alloc, n_alloc, get_set, n_set, get_kill, n_kill, writeAt, a11, a21, a31, a41, a51, a61, a71, isNil, hget1, h31, hw, hle1, hsp1, hbid]
    simp [go_sem, endP, endI, resultsA, resultA, freezeL, freezeV, AV.free.freeL, AV.free, packA, dropS]
    exact ⟨_, _, ⟨rfl, rfl⟩, hK _ _ ⟨rfl, rfl⟩⟩)
  exact ⟨_, _, call_of tb_engine_runner_step hcall, v2, (tokZ_kp (k := k)).trans Agr.ext (l1.trans Agr.refl (l2.trans Agr.refl k2)), Agr.ext⟩
end
end Go.Ev
set_option linter.unusedSectionVars false
namespace Go.Ev
open Go
theorem tP_A {t k : Nat} (h : tP t k) : tA k := by unfold tP tS at h; unfold tA; omega
theorem tM_A {t k : Nat} (h : tM t k) : tA k := by unfold tM tS at h; unfold tA; omega
theorem tC_A {t k : Nat} (h : tC t k) : tA k := by unfold tC tS at h; unfold tA; omega
theorem sgG_no {s : Int} (h : sgG s = true) : (s == 48) = false ∧ ¬ (97 ≤ s ∧ s ≤ 122) ∧ ¬ (65 ≤ s ∧ s ≤ 90) ∧ (s == 955) = false := by
  have h' : s = 43 ∨ s = 45 ∨ s = 42 ∨ s = 47 ∨ s = 37 ∨ s = 38 ∨ s = 124 ∨ s = 94 ∨ s = 60 ∨ s = 61 ∨ s = 33 ∨ s = 46 ∨ s = 44 ∨ s = 64 ∨ s = 36 ∨ s = 35 ∨ s = 63 ∨ s = 58 ∨ s = 59 ∨ s = 91 ∨ s = 93 ∨ s = 126 ∨ s = 171 ∨ s = 187 ∨ s = 169 ∨ s = 174 ∨ s = 164 ∨ s = 161 ∨ s = 960 := by simpa [sgG] using h
  refine ⟨?_, ?_, ?_, ?_⟩
  · simp; omega
  · omega
  · omega
  · simp; omega
section
variable {bar b : Nat} {g : H} {own : Nat → Nat} {C : Cx} {tr val : Int} {ids : List Nat} {t : Nat} {f : Fm} {id i : Nat} {m : Mem} {r : Row}
theorem step_call {k : Tok} (vx : XO g b own C tr val ids) (cx : CxV g own C) (vf : FrO g b own t f id) (hb : bar ≤ b) (hbg : b ≤ g.n) (hk : f.c.l[f.at']? = some k) (hs : k.sign = 955) {kk : Nat} (hkk : findN k.name C.fs 0 = kk) {x : AV × AV × Code'} (hx : C.rows[kk]? = some x) {a : Nat} (ha : x.2.2.args = a) (hal : a ≤ f.st.length) (hids : ids.length < 1000) :
    ∃ g' own', call tb prim n_engine_runner_step [.ptr C.X 0, .ptr id 0] bar g = some (.tup [], g') ∧ FrO g' b own' t { f with at' := f.at' + 1, st := f.st.drop a } id ∧ Kp own (tC t) g g' ∧ Agr g.n own own' ∧
      ((32 ≤ ids.length ∧ XO g' b own' C 6 val ids) ∨ (ids.length < 32 ∧ ∃ i, XO g' b own' C tr val (i :: ids) ∧ FrO g' b own' ids.length (newF x.2.2 (argsOf a f.st)) i)) := by
  obtain ⟨fc, n, cs, full, hget, h0, h3, hcl, hix, hle, hrow, hlt, ha6⟩ := vf.head hk
  have vz := vf.mono (tokZ_kp (k := k) (S := fun _ => False)) (Agr.ext (k := 0)) (by simp) (by simp)
  have hne : id ≠ g.n := by omega
  have hbn : bar ≤ g.n := by omega
  have hw : IntKind.i64.wrap ((f.at' : Int) + 1) = ((f.at' + 1 : Nat) : Int) := w64_succ (by omega)
  obtain ⟨fd, fe, hget1, h31, hle1, hsp1, hbid, v1, k1⟩ := vz.next hb ha6
  have xz := vx.mono (tokZ_kp (k := k) (S := fun _ => False)) (Agr.ext (k := 0)) (by simp)
  have cz := cx.mono (tokZ_kp (k := k) (S := fun _ => False)) (Agr.ext (k := 0)) (by simp)
  obtain ⟨g1, hg1⟩ : ∃ g1, g1 = (tokZ g k).set id (.cells fe 0) := ⟨_, rfl⟩
  rw [← hg1] at v1 k1
  have x1 := xz.mono k1 Agr.refl (tS1 t)
  have c1 := cz.mono k1 Agr.refl (tS0 t)
  obtain ⟨g2, own2, e2, v2, k2, a2, h2⟩ := calls_ok (bar := bar) x1 c1 v1 hb (by have := k1.1; rw [tokZ_n] at this; omega) hkk hx ha hal hids
  have hget' : g.get id = some (.cells fd 0) := by rw [tokZ_ne hne] at hget1; exact hget1
  rw [hget] at hget'
  cases hget'
  have hq : (k.sign == 48) = false := by simp [hs]
  have hq2 : decide (97 ≤ k.sign) = true := by simp [hs]
  have hq3 : decide (k.sign ≤ 122) = false := by simp [hs]
  have hq4 : decide (65 ≤ k.sign) = true := by simp [hs]
  have hq5 : decide (k.sign ≤ 90) = false := by simp [hs]
  have hq6 : (k.sign == 955) = true := by simp [hs]
  have hne2 : g.n ≠ id := fun q => hne q.symm
  simp only [tokZ, tokC] at hg1
  obtain ⟨y, g9, hcall, rfl, rfl⟩ := callF_K (o := call tb prim) (F := f_engine_runner_step) (bar := bar) (h := g) (args := [.ptr C.X 0, .ptr id 0]) (P := fun y g9 => y = .tup [] ∧ g9 = g2) rfl rfl (fun K hK => by
    simp [f_engine_runner_step, env0, go_sem, get_alloc, n_alloc, get_set, n_set, get_kill, n_kill, writeAt, a11, a21, a31, a41, a51, a61, a71, isNil, hget, h0, h3, hcl, hix, hle, hrow]
    refine ⟨⟨sees_of rfl ?_, sees_of rfl ?_, sees_of rfl ?_⟩, ?_⟩
    · simp [-getElem?_pos, R_nil, R_cons, RS_some, sameV_some, seesQ_some, List.take, List.take_succ_cons, List.take_zero, go_sem, get_alloc, n_alloc, get_set, n_set, get_kill, n_kill, writeAt, a11, a21, a31, a41, a51, a61, a71, isNil, hget, h0, h3, hcl, hix, hle, hrow, hne, hbn, tokC, spT3, List.getElem?_cons_zero, List.getElem?_cons_succ]
    · simp [-getElem?_pos, R_nil, R_cons, RS_some, sameV_some, seesQ_some, List.take, List.take_succ_cons, List.take_zero, go_sem, get_alloc, n_alloc, get_set, n_set, get_kill, n_kill, writeAt, a11, a21, a31, a41, a51, a61, a71, isNil, hget, h0, h3, hcl, hix, hle, hrow, hne, hbn, tokC, spT3, List.getElem?_cons_zero, List.getElem?_cons_succ]
    · simp [-getElem?_pos, R_nil, R_cons, RS_some, sameV_some, seesQ_some, List.take, List.take_succ_cons, List.take_zero, go_sem, get_alloc, n_alloc, get_set, n_set, get_kill, n_kill, writeAt, a11, a21, a31, a41, a51, a61, a71, isNil, hget, h0, h3, hcl, hix, hle, hrow, hne, hbn, tokC, spT3, List.getElem?_cons_zero, List.getElem?_cons_succ]
    simp [go_sem, get_alloc, n_alloc, get_set, n_set, get_kill, n_kill, writeAt, a11, a21, a31, a41, a51, a61, a71, isNil, hget, h0, h3, hcl, hix, hle, hrow, hbn, tokC, spT3, hq, hq2, hq3, hq4, hq5, hq6, hne, hne2, h31, hw, hle1, hsp1, hbid]
    rw [← hg1]
    simp [go_sem, get_alloc, n_alloc, get_set, n_set, get_kill, n_kill, writeAt, a11, a21, a31, a41, a51, a61, a71, isNil, e2]
    simp [go_sem, endP, endI, resultsA, resultA, freezeL, freezeV, AV.free.freeL, AV.free, packA, dropS]
    exact ⟨_, _, ⟨rfl, rfl⟩, hK _ _ ⟨rfl, rfl⟩⟩)
  exact ⟨_, _, call_of tb_engine_runner_step hcall, v2, (tokZ_kp (k := k)).trans Agr.ext ((k1.le fun k h => .inr (.inr h)).trans Agr.refl k2), Agr.trans Agr.ext a2 (by rw [hg1, n_set]; exact Nat.le_succ _), h2⟩
theorem step_goes {k : Tok} {f' : Fm} (vf : FrO g b own t f id) (hb : bar ≤ b) (hk : f.c.l[f.at']? = some k) (hs : sgG k.sign = true) (hgo : isGo k.sign = true) (X : AV)
    (hG : ∃ g1, call tb prim n_engine_runner_goes [X, .ptr id 0, .int .i32 k.sign] bar (tokZ g k) = some (.tup [], g1) ∧ FrO g1 b (ext own g.n 0) t f' id ∧ Kp (ext own g.n 0) (tS t) (tokZ g k) g1) (hbg : b ≤ g.n) :
    ∃ g' own', call tb prim n_engine_runner_step [X, .ptr id 0] bar g = some (.tup [], g') ∧ FrO g' b own' t f' id ∧ Kp own (tS t) g g' ∧ Agr g.n own own' := by
  obtain ⟨fc, n, cs, full, hget, h0, h3, hcl, hix, hle, hrow, hlt, ha6⟩ := vf.head hk
  have vz := vf.mono (tokZ_kp (k := k) (S := fun _ => False)) (Agr.ext (k := 0)) (by simp) (by simp)
  have hne : id ≠ g.n := by omega
  have hbn : bar ≤ g.n := by omega
  have hw : IntKind.i64.wrap ((f.at' : Int) + 1) = ((f.at' + 1 : Nat) : Int) := w64_succ (by omega)
  obtain ⟨g1, e1, v1, k1⟩ := hG
  obtain ⟨hq, hs1, hs2, hq6⟩ := sgG_no hs
  have hq7 := fun g => con_a (bar := bar) (g := g) hs
  rw [hgo] at hq7
  simp only [tokZ, tokC] at e1
  obtain ⟨y, g9, hcall, rfl, rfl⟩ := callF_K (o := call tb prim) (F := f_engine_runner_step) (bar := bar) (h := g) (args := [X, .ptr id 0]) (P := fun y g9 => y = .tup [] ∧ g9 = g1) rfl rfl (fun K hK => by
    rcases sg_cases hs1 hs2 with ⟨hq2, hq3⟩ | ⟨hq2, hq3, hq4⟩ | ⟨hq2, hq3, hq4, hq5⟩
    · simp [f_engine_runner_step, env0, go_sem, get_alloc, n_alloc, get_set, n_set, get_kill, n_kill, writeAt, a11, a21, a31, a41, a51, a61, a71, isNil, hget, h0, h3, hcl, hix, hle, hrow]
      refine ⟨⟨sees_of rfl ?_, sees_of rfl ?_, sees_of rfl ?_⟩, ?_⟩
      · simp [-getElem?_pos, R_nil, R_cons, RS_some, sameV_some, seesQ_some, List.take, List.take_succ_cons, List.take_zero, go_sem, get_alloc, n_alloc, get_set, n_set, get_kill, n_kill, writeAt, a11, a21, a31, a41, a51, a61, a71, isNil, hget, h0, h3, hcl, hix, hle, hrow, hne, hbn, tokC, spT3, List.getElem?_cons_zero, List.getElem?_cons_succ]
      · simp [-getElem?_pos, R_nil, R_cons, RS_some, sameV_some, seesQ_some, List.take, List.take_succ_cons, List.take_zero, go_sem, get_alloc, n_alloc, get_set, n_set, get_kill, n_kill, writeAt, a11, a21, a31, a41, a51, a61, a71, isNil, hget, h0, h3, hcl, hix, hle, hrow, hne, hbn, tokC, spT3, List.getElem?_cons_zero, List.getElem?_cons_succ]
      · simp [-getElem?_pos, R_nil, R_cons, RS_some, sameV_some, seesQ_some, List.take, List.take_succ_cons, List.take_zero, go_sem, get_alloc, n_alloc, get_set, n_set, get_kill, n_kill, writeAt, a11, a21, a31, a41, a51, a61, a71, isNil, hget, h0, h3, hcl, hix, hle, hrow, hne, hbn, tokC, spT3, List.getElem?_cons_zero, List.getElem?_cons_succ]
      simp [go_sem, get_alloc, n_alloc, get_set, n_set, get_kill, n_kill, writeAt, a11, a21, a31, a41, a51, a61, a71, isNil, hget, h0, h3, hcl, hix, hle, hrow, hbn, tokC, spT3, hq, hq6, hq7, e1, hq2, hq3]
      simp [go_sem, endP, endI, resultsA, resultA, freezeL, freezeV, AV.free.freeL, AV.free, packA, dropS]
      exact ⟨_, _, ⟨rfl, rfl⟩, hK _ _ ⟨rfl, rfl⟩⟩
    · simp [f_engine_runner_step, env0, go_sem, get_alloc, n_alloc, get_set, n_set, get_kill, n_kill, writeAt, a11, a21, a31, a41, a51, a61, a71, isNil, hget, h0, h3, hcl, hix, hle, hrow]
      refine ⟨⟨sees_of rfl ?_, sees_of rfl ?_, sees_of rfl ?_⟩, ?_⟩
      · simp [-getElem?_pos, R_nil, R_cons, RS_some, sameV_some, seesQ_some, List.take, List.take_succ_cons, List.take_zero, go_sem, get_alloc, n_alloc, get_set, n_set, get_kill, n_kill, writeAt, a11, a21, a31, a41, a51, a61, a71, isNil, hget, h0, h3, hcl, hix, hle, hrow, hne, hbn, tokC, spT3, List.getElem?_cons_zero, List.getElem?_cons_succ]
      · simp [-getElem?_pos, R_nil, R_cons, RS_some, sameV_some, seesQ_some, List.take, List.take_succ_cons, List.take_zero, go_sem, get_alloc, n_alloc, get_set, n_set, get_kill, n_kill, writeAt, a11, a21, a31, a41, a51, a61, a71, isNil, hget, h0, h3, hcl, hix, hle, hrow, hne, hbn, tokC, spT3, List.getElem?_cons_zero, List.getElem?_cons_succ]
      · simp [-getElem?_pos, R_nil, R_cons, RS_some, sameV_some, seesQ_some, List.take, List.take_succ_cons, List.take_zero, go_sem, get_alloc, n_alloc, get_set, n_set, get_kill, n_kill, writeAt, a11, a21, a31, a41, a51, a61, a71, isNil, hget, h0, h3, hcl, hix, hle, hrow, hne, hbn, tokC, spT3, List.getElem?_cons_zero, List.getElem?_cons_succ]
      simp [go_sem, get_alloc, n_alloc, get_set, n_set, get_kill, n_kill, writeAt, a11, a21, a31, a41, a51, a61, a71, isNil, hget, h0, h3, hcl, hix, hle, hrow, hbn, tokC, spT3, hq, hq6, hq7, e1, hq2, hq3, hq4]
      simp [go_sem, endP, endI, resultsA, resultA, freezeL, freezeV, AV.free.freeL, AV.free, packA, dropS]
      exact ⟨_, _, ⟨rfl, rfl⟩, hK _ _ ⟨rfl, rfl⟩⟩
    · simp [f_engine_runner_step, env0, go_sem, get_alloc, n_alloc, get_set, n_set, get_kill, n_kill, writeAt, a11, a21, a31, a41, a51, a61, a71, isNil, hget, h0, h3, hcl, hix, hle, hrow]
      refine ⟨⟨sees_of rfl ?_, sees_of rfl ?_, sees_of rfl ?_⟩, ?_⟩
      · simp [-getElem?_pos, R_nil, R_cons, RS_some, sameV_some, seesQ_some, List.take, List.take_succ_cons, List.take_zero, go_sem, get_alloc, n_alloc, get_set, n_set, get_kill, n_kill, writeAt, a11, a21, a31, a41, a51, a61, a71, isNil, hget, h0, h3, hcl, hix, hle, hrow, hne, hbn, tokC, spT3, List.getElem?_cons_zero, List.getElem?_cons_succ]
      · simp [-getElem?_pos, R_nil, R_cons, RS_some, sameV_some, seesQ_some, List.take, List.take_succ_cons, List.take_zero, go_sem, get_alloc, n_alloc, get_set, n_set, get_kill, n_kill, writeAt, a11, a21, a31, a41, a51, a61, a71, isNil, hget, h0, h3, hcl, hix, hle, hrow, hne, hbn, tokC, spT3, List.getElem?_cons_zero, List.getElem?_cons_succ]
      · simp [-getElem?_pos, R_nil, R_cons, RS_some, sameV_some, seesQ_some, List.take, List.take_succ_cons, List.take_zero, go_sem, get_alloc, n_alloc, get_set, n_set, get_kill, n_kill, writeAt, a11, a21, a31, a41, a51, a61, a71, isNil, hget, h0, h3, hcl, hix, hle, hrow, hne, hbn, tokC, spT3, List.getElem?_cons_zero, List.getElem?_cons_succ]
      simp [go_sem, get_alloc, n_alloc, get_set, n_set, get_kill, n_kill, writeAt, a11, a21, a31, a41, a51, a61, a71, isNil, hget, h0, h3, hcl, hix, hle, hrow, hbn, tokC, spT3, hq, hq6, hq7, e1, hq2, hq3, hq4, hq5]
      simp [go_sem, endP, endI, resultsA, resultA, freezeL, freezeV, AV.free.freeL, AV.free, packA, dropS]
      exact ⟨_, _, ⟨rfl, rfl⟩, hK _ _ ⟨rfl, rfl⟩⟩)
  exact ⟨_, _, call_of tb_engine_runner_step hcall, v1, (tokZ_kp (k := k)).trans Agr.ext k1, Agr.ext⟩
theorem step_mem {k : Tok} {x : Option (List Int × Mem × Int)} (vx : XO g b own C tr val ids) (vf : FrO g b own t f id) (vm : MemO g b own C.M m) (hb : bar ≤ b) (hbg : b ≤ g.n) (hk : f.c.l[f.at']? = some k) (hs : sgG k.sign = true) (hgo : isGo k.sign = false) (hme : isMemS k.sign = true)
    (hM : ∀ own0 : Nat → Nat, XO (tokZ g k) b own0 C tr val ids → FrO (tokZ g k) b own0 t f id → MemO (tokZ g k) b own0 C.M m → b ≤ (tokZ g k).n → MemR bar b (tokZ g k) own0 C val ids t f id k.sign x) :
    ∀ st m' tr', x = some (st, m', tr') → ∃ g' own', call tb prim n_engine_runner_step [.ptr C.X 0, .ptr id 0] bar g = some (.tup [], g') ∧ FrO g' b own' t { f with at' := f.at' + 1, st := st } id ∧ XO g' b own' C tr' val ids ∧ MemO g' b own' C.M m' ∧ Kp own (tM t) g g' ∧ Agr g.n own own' := by
  intro st m' tr' hxx
  obtain ⟨fc, n, cs, full, hget, h0, h3, hcl, hix, hle, hrow, hlt, ha6⟩ := vf.head hk
  have vz := vf.mono (tokZ_kp (k := k) (S := fun _ => False)) (Agr.ext (k := 0)) (by simp) (by simp)
  have hne : id ≠ g.n := by omega
  have hbn : bar ≤ g.n := by omega
  have hw : IntKind.i64.wrap ((f.at' : Int) + 1) = ((f.at' + 1 : Nat) : Int) := w64_succ (by omega)
  have xz := vx.mono (tokZ_kp (k := k) (S := fun _ => False)) (Agr.ext (k := 0)) (by simp)
  have mz := vm.mono (tokZ_kp (k := k) (S := fun _ => False)) (Agr.ext (k := 0)) (by simp)
  obtain ⟨g1, own1, e1, v1, x1, m1, k1, a1⟩ := hM _ xz vz mz (by rw [tokZ_n]; omega) st m' tr' hxx
  obtain ⟨fd, fe, hget1, h31, hle1, hsp1, hbid, v2, k2⟩ := v1.next hb ha6
  simp only at h31 hsp1
  have x2 := x1.mono k2 Agr.refl (tS1 t)
  have m2 := m1.mono k2 Agr.refl (tS3 t)
  obtain ⟨hq, hs1, hs2, hq6⟩ := sgG_no hs
  have hq7 := fun g => con_a (bar := bar) (g := g) hs
  rw [hgo] at hq7
  have hq8 := fun g => con_b (bar := bar) (g := g) hs
  rw [hme] at hq8
  simp only [tokZ, tokC] at e1
  obtain ⟨y, g9, hcall, rfl, rfl⟩ := callF_K (o := call tb prim) (F := f_engine_runner_step) (bar := bar) (h := g) (args := [.ptr C.X 0, .ptr id 0]) (P := fun y g9 => y = .tup [] ∧ g9 = g1.set id (.cells fe 0)) rfl rfl (fun K hK => by
    rcases sg_cases hs1 hs2 with ⟨hq2, hq3⟩ | ⟨hq2, hq3, hq4⟩ | ⟨hq2, hq3, hq4, hq5⟩
    · simp [f_engine_runner_step, env0, go_sem, get_alloc, n_alloc, get_set, n_set, get_kill, n_kill, writeAt, a11, a21, a31, a41, a51, a61, a71, isNil, hget, h0, h3, hcl, hix, hle, hrow]
      refine ⟨⟨sees_of rfl ?_, sees_of rfl ?_, sees_of rfl ?_⟩, ?_⟩
      · simp [-getElem?_pos, R_nil, R_cons, RS_some, sameV_some, seesQ_some, List.take, List.take_succ_cons, List.take_zero, go_sem, get_alloc, n_alloc, get_set, n_set, get_kill, n_kill, writeAt, a11, a21, a31, a41, a51, a61, a71, isNil, hget, h0, h3, hcl, hix, hle, hrow, hne, hbn, tokC, spT3, List.getElem?_cons_zero, List.getElem?_cons_succ]
      · simp [-getElem?_pos, R_nil, R_cons, RS_some, sameV_some, seesQ_some, List.take, List.take_succ_cons, List.take_zero, go_sem, get_alloc, n_alloc, get_set, n_set, get_kill, n_kill, writeAt, a11, a21, a31, a41, a51, a61, a71, isNil, hget, h0, h3, hcl, hix, hle, hrow, hne, hbn, tokC, spT3, List.getElem?_cons_zero, List.getElem?_cons_succ]
      · simp [-getElem?_pos, R_nil, R_cons, RS_some, sameV_some, seesQ_some, List.take, List.take_succ_cons, List.take_zero, go_sem, get_alloc, n_alloc, get_set, n_set, get_kill, n_kill, writeAt, a11, a21, a31, a41, a51, a61, a71, isNil, hget, h0, h3, hcl, hix, hle, hrow, hne, hbn, tokC, spT3, List.getElem?_cons_zero, List.getElem?_cons_succ]
      simp [go_sem, get_alloc, n_alloc, get_set, n_set, get_kill, n_kill, writeAt, a11, a21, a31, a41, a51, a61, a71, isNil, hget, h0, h3, hcl, hix, hle, hrow, hbn, tokC, spT3, hq, hq6, hq7, hq8, e1, hget1, h31, hw, hle1, hsp1, hbid, hq2, hq3]
      simp [go_sem, endP, endI, resultsA, resultA, freezeL, freezeV, AV.free.freeL, AV.free, packA, dropS]
      exact ⟨_, _, ⟨rfl, rfl⟩, hK _ _ ⟨rfl, rfl⟩⟩
    · simp [f_engine_runner_step, env0, go_sem, get_alloc, n_alloc, get_set, n_set, get_kill, n_kill, writeAt, a11, a21, a31, a41, a51, a61, a71, isNil, hget, h0, h3, hcl, hix, hle, hrow]
      refine ⟨⟨sees_of rfl ?_, sees_of rfl ?_, sees_of rfl ?_⟩, ?_⟩
      · simp [-getElem?_pos, R_nil, R_cons, RS_some, sameV_some, seesQ_some, List.take, List.take_succ_cons, List.take_zero, go_sem, get_alloc, n_alloc, get_set, n_set, get_kill, n_kill, writeAt, a11, a21, a31, a41, a51, a61, a71, isNil, hget, h0, h3, hcl, hix, hle, hrow, hne, hbn, tokC, spT3, List.getElem?_cons_zero, List.getElem?_cons_succ]
      · simp [-getElem?_pos, R_nil, R_cons, RS_some, sameV_some, seesQ_some, List.take, List.take_succ_cons, List.take_zero, go_sem, get_alloc, n_alloc, get_set, n_set, get_kill, n_kill, writeAt, a11, a21, a31, a41, a51, a61, a71, isNil, hget, h0, h3, hcl, hix, hle, hrow, hne, hbn, tokC, spT3, List.getElem?_cons_zero, List.getElem?_cons_succ]
      · simp [-getElem?_pos, R_nil, R_cons, RS_some, sameV_some, seesQ_some, List.take, List.take_succ_cons, List.take_zero, go_sem, get_alloc, n_alloc, get_set, n_set, get_kill, n_kill, writeAt, a11, a21, a31, a41, a51, a61, a71, isNil, hget, h0, h3, hcl, hix, hle, hrow, hne, hbn, tokC, spT3, List.getElem?_cons_zero, List.getElem?_cons_succ]
      simp [go_sem, get_alloc, n_alloc, get_set, n_set, get_kill, n_kill, writeAt, a11, a21, a31, a41, a51, a61, a71, isNil, hget, h0, h3, hcl, hix, hle, hrow, hbn, tokC, spT3, hq, hq6, hq7, hq8, e1, hget1, h31, hw, hle1, hsp1, hbid, hq2, hq3, hq4]
      simp [go_sem, endP, endI, resultsA, resultA, freezeL, freezeV, AV.free.freeL, AV.free, packA, dropS]
      exact ⟨_, _, ⟨rfl, rfl⟩, hK _ _ ⟨rfl, rfl⟩⟩
    · simp [f_engine_runner_step, env0, go_sem, get_alloc, n_alloc, get_set, n_set, get_kill, n_kill, writeAt, a11, a21, a31, a41, a51, a61, a71, isNil, hget, h0, h3, hcl, hix, hle, hrow]
      refine ⟨⟨sees_of rfl ?_, sees_of rfl ?_, sees_of rfl ?_⟩, ?_⟩
      · simp [-getElem?_pos, R_nil, R_cons, RS_some, sameV_some, seesQ_some, List.take, List.take_succ_cons, List.take_zero, go_sem, get_alloc, n_alloc, get_set, n_set, get_kill, n_kill, writeAt, a11, a21, a31, a41, a51, a61, a71, isNil, hget, h0, h3, hcl, hix, hle, hrow, hne, hbn, tokC, spT3, List.getElem?_cons_zero, List.getElem?_cons_succ]
      · simp [-getElem?_pos, R_nil, R_cons, RS_some, sameV_some, seesQ_some, List.take, List.take_succ_cons, List.take_zero, go_sem, get_alloc, n_alloc, get_set, n_set, get_kill, n_kill, writeAt, a11, a21, a31, a41, a51, a61, a71, isNil, hget, h0, h3, hcl, hix, hle, hrow, hne, hbn, tokC, spT3, List.getElem?_cons_zero, List.getElem?_cons_succ]
      · simp [-getElem?_pos, R_nil, R_cons, RS_some, sameV_some, seesQ_some, List.take, List.take_succ_cons, List.take_zero, go_sem, get_alloc, n_alloc, get_set, n_set, get_kill, n_kill, writeAt, a11, a21, a31, a41, a51, a61, a71, isNil, hget, h0, h3, hcl, hix, hle, hrow, hne, hbn, tokC, spT3, List.getElem?_cons_zero, List.getElem?_cons_succ]
      simp [go_sem, get_alloc, n_alloc, get_set, n_set, get_kill, n_kill, writeAt, a11, a21, a31, a41, a51, a61, a71, isNil, hget, h0, h3, hcl, hix, hle, hrow, hbn, tokC, spT3, hq, hq6, hq7, hq8, e1, hget1, h31, hw, hle1, hsp1, hbid, hq2, hq3, hq4, hq5]
      simp [go_sem, endP, endI, resultsA, resultA, freezeL, freezeV, AV.free.freeL, AV.free, packA, dropS]
      exact ⟨_, _, ⟨rfl, rfl⟩, hK _ _ ⟨rfl, rfl⟩⟩)
  exact ⟨_, own1, call_of tb_engine_runner_step hcall, v2, x2, m2, (tokZ_kp (k := k)).trans Agr.ext (k1.trans a1 (k2.le fun k h => tS_M h)), Agr.trans Agr.ext a1 (by rw [tokZ_n]; omega)⟩
theorem step_plain {k : Tok} {x : Option (List Int × Row × Int)} (vx : XO g b own C tr val ids) (vf : FrO g b own t f id) (vr : RowO g b own C.R r) (hb : bar ≤ b) (hbg : b ≤ g.n) (hk : f.c.l[f.at']? = some k) (hs : sgG k.sign = true) (hgo : isGo k.sign = false) (hme : isMemS k.sign = false)
    (hM : ∀ own0 : Nat → Nat, XO (tokZ g k) b own0 C tr val ids → FrO (tokZ g k) b own0 t f id → RowO (tokZ g k) b own0 C.R r → b ≤ (tokZ g k).n → PlainR bar b (tokZ g k) own0 C val ids t f id k x) :
    ∀ st r' tr', x = some (st, r', tr') → ∃ g' own', call tb prim n_engine_runner_step [.ptr C.X 0, .ptr id 0] bar g = some (.tup [], g') ∧ FrO g' b own' t { f with at' := f.at' + 1, st := st } id ∧ XO g' b own' C tr' val ids ∧ RowO g' b own' C.R r' ∧ Kp own (tP t) g g' ∧ Agr g.n own own' := by
  intro st r' tr' hxx
  obtain ⟨fc, n, cs, full, hget, h0, h3, hcl, hix, hle, hrow, hlt, ha6⟩ := vf.head hk
  have vz := vf.mono (tokZ_kp (k := k) (S := fun _ => False)) (Agr.ext (k := 0)) (by simp) (by simp)
  have hne : id ≠ g.n := by omega
  have hbn : bar ≤ g.n := by omega
  have hw : IntKind.i64.wrap ((f.at' : Int) + 1) = ((f.at' + 1 : Nat) : Int) := w64_succ (by omega)
  have xz := vx.mono (tokZ_kp (k := k) (S := fun _ => False)) (Agr.ext (k := 0)) (by simp)
  have rz := vr.mono (tokZ_kp (k := k) (S := fun _ => False)) (Agr.ext (k := 0)) (by simp)
  obtain ⟨g1, own1, e1, v1, x1, r1, k1, a1⟩ := hM _ xz vz rz (by rw [tokZ_n]; omega) st r' tr' hxx
  obtain ⟨fd, fe, hget1, h31, hle1, hsp1, hbid, v2, k2⟩ := v1.next hb ha6
  simp only at h31 hsp1
  have x2 := x1.mono k2 Agr.refl (tS1 t)
  have r2 := r1.mono k2 Agr.refl (tS6 t)
  obtain ⟨hq, hs1, hs2, hq6⟩ := sgG_no hs
  have hq7 := fun g => con_a (bar := bar) (g := g) hs
  rw [hgo] at hq7
  have hq8 := fun g => con_b (bar := bar) (g := g) hs
  rw [hme] at hq8
  simp only [tokZ, tokC, tokA] at e1
  obtain ⟨y, g9, hcall, rfl, rfl⟩ := callF_K (o := call tb prim) (F := f_engine_runner_step) (bar := bar) (h := g) (args := [.ptr C.X 0, .ptr id 0]) (P := fun y g9 => y = .tup [] ∧ g9 = g1.set id (.cells fe 0)) rfl rfl (fun K hK => by
    rcases sg_cases hs1 hs2 with ⟨hq2, hq3⟩ | ⟨hq2, hq3, hq4⟩ | ⟨hq2, hq3, hq4, hq5⟩
    · simp [f_engine_runner_step, env0, go_sem, get_alloc, n_alloc, get_set, n_set, get_kill, n_kill, writeAt, a11, a21, a31, a41, a51, a61, a71, isNil, hget, h0, h3, hcl, hix, hle, hrow]
      refine ⟨⟨sees_of rfl ?_, sees_of rfl ?_, sees_of rfl ?_⟩, ?_⟩
      · simp [-getElem?_pos, R_nil, R_cons, RS_some, sameV_some, seesQ_some, List.take, List.take_succ_cons, List.take_zero, go_sem, get_alloc, n_alloc, get_set, n_set, get_kill, n_kill, writeAt, a11, a21, a31, a41, a51, a61, a71, isNil, hget, h0, h3, hcl, hix, hle, hrow, hne, hbn, tokC, spT3, List.getElem?_cons_zero, List.getElem?_cons_succ]
      · simp [-getElem?_pos, R_nil, R_cons, RS_some, sameV_some, seesQ_some, List.take, List.take_succ_cons, List.take_zero, go_sem, get_alloc, n_alloc, get_set, n_set, get_kill, n_kill, writeAt, a11, a21, a31, a41, a51, a61, a71, isNil, hget, h0, h3, hcl, hix, hle, hrow, hne, hbn, tokC, spT3, List.getElem?_cons_zero, List.getElem?_cons_succ]
      · simp [-getElem?_pos, R_nil, R_cons, RS_some, sameV_some, seesQ_some, List.take, List.take_succ_cons, List.take_zero, go_sem, get_alloc, n_alloc, get_set, n_set, get_kill, n_kill, writeAt, a11, a21, a31, a41, a51, a61, a71, isNil, hget, h0, h3, hcl, hix, hle, hrow, hne, hbn, tokC, spT3, List.getElem?_cons_zero, List.getElem?_cons_succ]
      simp [go_sem, get_alloc, n_alloc, get_set, n_set, get_kill, n_kill, writeAt, a11, a21, a31, a41, a51, a61, a71, isNil, hget, h0, h3, hcl, hix, hle, hrow, hbn, tokC, spT3, hq, hq6, hq7, hq8, e1, hget1, h31, hw, hle1, hsp1, hbid, hq2, hq3]
      simp [go_sem, endP, endI, resultsA, resultA, freezeL, freezeV, AV.free.freeL, AV.free, packA, dropS]
      exact ⟨_, _, ⟨rfl, rfl⟩, hK _ _ ⟨rfl, rfl⟩⟩
    · simp [f_engine_runner_step, env0, go_sem, get_alloc, n_alloc, get_set, n_set, get_kill, n_kill, writeAt, a11, a21, a31, a41, a51, a61, a71, isNil, hget, h0, h3, hcl, hix, hle, hrow]
      refine ⟨⟨sees_of rfl ?_, sees_of rfl ?_, sees_of rfl ?_⟩, ?_⟩
      · simp [-getElem?_pos, R_nil, R_cons, RS_some, sameV_some, seesQ_some, List.take, List.take_succ_cons, List.take_zero, go_sem, get_alloc, n_alloc, get_set, n_set, get_kill, n_kill, writeAt, a11, a21, a31, a41, a51, a61, a71, isNil, hget, h0, h3, hcl, hix, hle, hrow, hne, hbn, tokC, spT3, List.getElem?_cons_zero, List.getElem?_cons_succ]
      · simp [-getElem?_pos, R_nil, R_cons, RS_some, sameV_some, seesQ_some, List.take, List.take_succ_cons, List.take_zero, go_sem, get_alloc, n_alloc, get_set, n_set, get_kill, n_kill, writeAt, a11, a21, a31, a41, a51, a61, a71, isNil, hget, h0, h3, hcl, hix, hle, hrow, hne, hbn, tokC, spT3, List.getElem?_cons_zero, List.getElem?_cons_succ]
      · simp [-getElem?_pos, R_nil, R_cons, RS_some, sameV_some, seesQ_some, List.take, List.take_succ_cons, List.take_zero, go_sem, get_alloc, n_alloc, get_set, n_set, get_kill, n_kill, writeAt, a11, a21, a31, a41, a51, a61, a71, isNil, hget, h0, h3, hcl, hix, hle, hrow, hne, hbn, tokC, spT3, List.getElem?_cons_zero, List.getElem?_cons_succ]
      simp [go_sem, get_alloc, n_alloc, get_set, n_set, get_kill, n_kill, writeAt, a11, a21, a31, a41, a51, a61, a71, isNil, hget, h0, h3, hcl, hix, hle, hrow, hbn, tokC, spT3, hq, hq6, hq7, hq8, e1, hget1, h31, hw, hle1, hsp1, hbid, hq2, hq3, hq4]
      simp [go_sem, endP, endI, resultsA, resultA, freezeL, freezeV, AV.free.freeL, AV.free, packA, dropS]
      exact ⟨_, _, ⟨rfl, rfl⟩, hK _ _ ⟨rfl, rfl⟩⟩
    · simp [f_engine_runner_step, env0, go_sem, get_alloc, n_alloc, get_set, n_set, get_kill, n_kill, writeAt, a11, a21, a31, a41, a51, a61, a71, isNil, hget, h0, h3, hcl, hix, hle, hrow]
      refine ⟨⟨sees_of rfl ?_, sees_of rfl ?_, sees_of rfl ?_⟩, ?_⟩
      · simp [-getElem?_pos, R_nil, R_cons, RS_some, sameV_some, seesQ_some, List.take, List.take_succ_cons, List.take_zero, go_sem, get_alloc, n_alloc, get_set, n_set, get_kill, n_kill, writeAt, a11, a21, a31, a41, a51, a61, a71, isNil, hget, h0, h3, hcl, hix, hle, hrow, hne, hbn, tokC, spT3, List.getElem?_cons_zero, List.getElem?_cons_succ]
      · simp [-getElem?_pos, R_nil, R_cons, RS_some, sameV_some, seesQ_some, List.take, List.take_succ_cons, List.take_zero, go_sem, get_alloc, n_alloc, get_set, n_set, get_kill, n_kill, writeAt, a11, a21, a31, a41, a51, a61, a71, isNil, hget, h0, h3, hcl, hix, hle, hrow, hne, hbn, tokC, spT3, List.getElem?_cons_zero, List.getElem?_cons_succ]
      · simp [-getElem?_pos, R_nil, R_cons, RS_some, sameV_some, seesQ_some, List.take, List.take_succ_cons, List.take_zero, go_sem, get_alloc, n_alloc, get_set, n_set, get_kill, n_kill, writeAt, a11, a21, a31, a41, a51, a61, a71, isNil, hget, h0, h3, hcl, hix, hle, hrow, hne, hbn, tokC, spT3, List.getElem?_cons_zero, List.getElem?_cons_succ]
      simp [go_sem, get_alloc, n_alloc, get_set, n_set, get_kill, n_kill, writeAt, a11, a21, a31, a41, a51, a61, a71, isNil, hget, h0, h3, hcl, hix, hle, hrow, hbn, tokC, spT3, hq, hq6, hq7, hq8, e1, hget1, h31, hw, hle1, hsp1, hbid, hq2, hq3, hq4, hq5]
      simp [go_sem, endP, endI, resultsA, resultA, freezeL, freezeV, AV.free.freeL, AV.free, packA, dropS]
      exact ⟨_, _, ⟨rfl, rfl⟩, hK _ _ ⟨rfl, rfl⟩⟩)
  exact ⟨_, own1, call_of tb_engine_runner_step hcall, v2, x2, r2, (tokZ_kp (k := k)).trans Agr.ext (k1.trans a1 (k2.le fun k h => tS_P h)), Agr.trans Agr.ext a1 (by rw [tokZ_n]; omega)⟩
end
end Go.Ev
set_option linter.unusedSectionVars false
namespace Go.Ev
open Go
def grow1 (m : Mem) : Mem := ⟨m.b ++ List.replicate 64 0, m.most, m.dirty ++ [true]⟩
def growK : Nat → Mem → Mem
  | 0, m => m
  | k + 1, m => growK k (grow1 m)
theorem growK_eq : ∀ (k : Nat) (m : Mem), growK k m = ⟨m.b ++ List.replicate (k * 64) 0, m.most, m.dirty ++ List.replicate k true⟩
  | 0, m => by simp [growK]
  | k + 1, m => by
    rw [growK, growK_eq k]
    simp only [grow1, List.append_assoc]
    rw [List.replicate_append_replicate, List.replicate_succ, show 64 + k * 64 = (k + 1) * 64 by omega]
    rfl
def t345 : Nat → Prop := fun k => k = 3 ∨ k = 4 ∨ k = 5
theorem spM0 (a b c v : AV) : splice [a, b, c] 0 [v] = [v, b, c] := Eq.trans rfl rfl
theorem spM2 (a b c v : AV) : splice [a, b, c] 2 [v] = [a, b, v] := Eq.trans rfl rfl
section
variable {bar b : Nat} {g : H} {own : Nat → Nat} {C : Cx} {tr val : Int} {ids : List Nat} {t : Nat} {f : Fm} {id i M : Nat} {m : Mem}
theorem grow_loop (was n : Int) (hn64 : n ≤ 64) (hb : bar ≤ b) (Q : Ex → Env → H → Prop) : ∀ (k i : Nat) (g : H) (own : Nat → Nat) (m : Mem), n = (i : Int) + k → b ≤ g.n → MemO g b own M m → (m.dirty.length : Int) + k ≤ m.most →
    (∀ e g' own', MemO g' b own' M (growK k m) → Kp own t345 g g' → Agr g.n own own' → e.get 5 = some (.int .i64 was) → Q (.exit 0) e g') →
    wpL (call tb prim) bar [0, 5, 20, 21] l0_cells_Memory_Grow [(0, .ptr M 0), (5, .int .i64 was), (20, .int .i64 n), (21, .int .i64 i)] g Q
  | 0, i, g, own, m, hk, hbg, vm, hmo, hq => by
    refine M_loop l0_cells_Memory_Grow.eq_1 ?_
    have hlt : ¬ (i : Int) < n := by omega
    simp [go_sem, hlt]
    exact hq _ _ own vm Kp.refl Agr.refl rfl
  | k + 1, i, g, own, m, hk, hbg, vm, hmo, hq => by
    have vm' := vm
    obtain ⟨⟨ba, da, hv, hba, hda⟩, hoM⟩ := vm'
    have hlt : (i : Int) < n := by omega
    have hw := w64_succ (n := i) (by omega)
    have hg := hv.get
    have hlen : m.b.length ≤ 4096 := by have := hv.sz; have := hv.m0; have := hv.m1; omega
    have hd64 : m.dirty.length < 64 := by have := hv.m0; omega
    obtain ⟨g1, e1, o1, n1, f1⟩ := (hv.ob.bar_le hb).appA (bar := bar) (by omega) 1 64 (byC (List.replicate 64 0)) (by omega) (by simp [byC]) (by rw [← rep_byte]; exact rep_one rfl 64) (by omega) (by omega)
    have hMlt := hv.lt
    have gM1 : g1.get M = some (.cells [ba, .int .i64 m.most, da] 0) := by rw [f1 M hMlt hv.nb]; exact hg
    obtain ⟨g2, hg2⟩ : ∃ g2, g2 = g1.set M (.cells [.sl g.n 0 1 (m.b.length + 64) false, .int .i64 m.most, da] 0) := ⟨_, rfl⟩
    have n2 : g2.n = g.n + 1 := by rw [hg2, n_set]; exact n1
    have e12 : g1.n = g2.n := by omega
    have gM2 : g2.get M = some (.cells [.sl g.n 0 1 (m.b.length + 64) false, .int .i64 m.most, da] 0) := by rw [hg2, get_set, if_pos rfl]
    have od2 : OW 1 g2 bar da m.dirty.length (boC m.dirty) := (hv.od.bar_le hb).mono (by omega) (fun j hj => by
      rw [hg2, get_set_ne (fun q : j = M => hv.nd (by rw [← q]; exact hj)), f1 j (hv.od.at_lt hj).2 (fun q => hv.ap j q hj)])
    obtain ⟨g3, e3, o3, n3, f3⟩ := od2.app (by omega) 1 [.bool true] rfl rfl (by omega) (by omega) (by omega)
    have gM3 : g3.get M = some (.cells [.sl g.n 0 1 (m.b.length + 64) false, .int .i64 m.most, da] 0) := by rw [f3 M (by omega) hv.nd]; exact gM2
    obtain ⟨g4, hg4⟩ : ∃ g4, g4 = g3.set M (.cells [.sl g.n 0 1 (m.b.length + 64) false, .int .i64 m.most, .sl (g2.n + 1) 0 1 (m.dirty.length + 1) false] 0) := ⟨_, rfl⟩
    have n4 : g4.n = g.n + 3 := by rw [hg4, n_set]; omega
    have hbM : bar ≤ M := Nat.le_trans hb hv.bM
    have hgn : ¬ da.isAt g.n := fun q => by have := (hv.od.at_lt q).2; omega
    have hV : MemV g4 b M (grow1 m) (.sl g.n 0 1 (m.b.length + 64) false) (.sl (g2.n + 1) 0 1 (m.dirty.length + 1) false) := by
      refine ⟨by rw [hg4, get_set, if_pos rfl]; rfl, hv.bM, by omega, ?_, ?_, fun q => by cases q; omega, fun q => by cases q; omega, fun j h1 h2 => by have h1' : g.n = j := h1; have h2' : g2.n + 1 = j := h2; omega, ?_, hv.m0, ?_, ?_⟩
      · have := (o1.up (b := b) (fun j hj => by cases hj; omega)).mono (h' := g4) (by omega) (fun j hj => by cases hj; rw [hg4, get_set_ne (by omega), f3 _ (by omega) hgn, hg2, get_set_ne (by omega)])
        simpa [grow1, byC] using this
      · have := (o3.up (b := b) (fun j hj => by cases hj; omega)).mono (h' := g4) (by omega) (fun j hj => by cases hj; rw [hg4, get_set_ne (by omega)])
        simpa [grow1, boC] using this
      · have := hv.sz; simp [grow1]; omega
      · simp [grow1]; omega
      · intro x hx
        simp only [grow1, List.mem_append] at hx
        rcases hx with hx | hx
        · exact hv.rng x hx
        · rw [List.eq_of_mem_replicate hx]; omega
    have hag : Agr g.n own (ext (ext own g.n 4) (g.n + 1) 5) := Agr.trans Agr.ext Agr.ext (by omega)
    have hO : MemO g4 b (ext (ext own g.n 4) (g.n + 1) 5) M (grow1 m) :=
      ⟨⟨_, _, hV, fun j hj => by cases hj; simp [ext], fun j hj => by cases hj; simp only [ext]; rw [if_neg (by omega)]⟩, by rw [hag M hMlt]; exact hoM⟩
    have hkp : Kp own t345 g g4 := ⟨by omega, fun j hj hs => by
      rw [hg4, get_set_ne (fun q => hs (.inl (by rw [q]; exact hoM))), f3 j (by omega) (fun q => hs (.inr (.inr (hda j q)))), hg2, get_set_ne (fun q => hs (.inl (by rw [q]; exact hoM))), f1 j hj (fun q => hs (.inr (.inl (hba j q))))]⟩
    refine M_loop l0_cells_Memory_Grow.eq_1 ?_
    simp [go_sem, get_alloc, n_alloc, get_set, n_set, get_kill, n_kill, writeAt, a11, a21, a31, a41, a51, a61, a71, isNil, hlt, hg, spM0, spM2, hbM]
    rw [rep_byte, e1]
    simp [go_sem, get_alloc, n_alloc, get_set, n_set, get_kill, n_kill, writeAt, a11, a21, a31, a41, a51, a61, a71, isNil, gM1, spM0, hbM]
    rw [← hg2]
    simp [go_sem, get_alloc, n_alloc, get_set, n_set, get_kill, n_kill, writeAt, a11, a21, a31, a41, a51, a61, a71, isNil, gM2, evParts, fillA, sp10]
    rw [e12, e3]
    simp [go_sem, get_alloc, n_alloc, get_set, n_set, get_kill, n_kill, writeAt, a11, a21, a31, a41, a51, a61, a71, isNil, spM2, hbM, gM3]
    rw [← hg4, hw]
    refine grow_loop was n hn64 hb Q k (i + 1) g4 _ (grow1 m) (by omega) (by omega) hO (by simp [grow1]; omega) (fun e g' own' h1 h2 h3 h4 => ?_)
    exact hq e g' own' h1 (hkp.trans hag h2) (Agr.trans hag h3 (by omega)) h4
end
end Go.Ev
set_option linter.unusedSectionVars false
namespace Go.Ev
open Go
section
variable {bar b : Nat} {g : H} {own : Nat → Nat} {C : Cx} {tr val : Int} {ids : List Nat} {t : Nat} {f : Fm} {id i M : Nat} {m : Mem} {r : Row}
theorem grow_ok (vm : MemO g b own M m) (hb : bar ≤ b) (hbg : b ≤ g.n) (n : Int) :
    ∃ g' own', call tb prim n_cells_Memory_Grow [.ptr M 0, .int .i64 n] bar g = some (.int .i64 (growM m n).2, g') ∧ MemO g' b own' M (growM m n).1 ∧ Kp own t345 g g' ∧ Agr g.n own own' := by
  have vm' := vm
  obtain ⟨⟨ba, da, hv, hba, hda⟩, hoM⟩ := vm'
  have hg := hv.get
  have e0 := pages_ok (bar := bar) hv
  have hm0 := hv.m0
  have hm1 := hv.m1
  have hw : IntKind.i64.wrap (m.most - (m.dirty.length : Int)) = m.most - m.dirty.length := w64 (by omega) (by omega)
  by_cases h0 : n < 0
  · obtain ⟨y, g9, hcall, rfl, rfl⟩ := callF_K (o := call tb prim) (F := f_cells_Memory_Grow) (bar := bar) (h := g) (args := [.ptr M 0, .int .i64 n]) (P := fun y g9 => y = .int .i64 (-1) ∧ g9 = g) rfl rfl (fun K hK => by
      have d0 : decide (n < 0) = true := by simpa using h0
      simp [f_cells_Memory_Grow, env0, go_sem, get_alloc, n_alloc, get_set, n_set, get_kill, n_kill, writeAt, a11, a21, a31, a41, a51, a61, a71, isNil, e0, d0]
      simp [go_sem, endP, endI, resultsA, resultA, freezeL, freezeV, AV.free.freeL, AV.free, packA, dropS]
      exact ⟨_, _, ⟨rfl, rfl⟩, hK _ _ ⟨rfl, rfl⟩⟩)
    have e : growM m n = (m, -1) := by unfold growM; rw [if_pos (.inl h0)]
    rw [e]
    exact ⟨_, own, call_of tb_cells_Memory_Grow hcall, vm, Kp.refl, Agr.refl⟩
  · have d0 : decide (n < 0) = false := by simpa using h0
    by_cases h1 : n > m.most - m.dirty.length
    · obtain ⟨y, g9, hcall, rfl, rfl⟩ := callF_K (o := call tb prim) (F := f_cells_Memory_Grow) (bar := bar) (h := g) (args := [.ptr M 0, .int .i64 n]) (P := fun y g9 => y = .int .i64 (-1) ∧ g9 = g) rfl rfl (fun K hK => by
        have d1 : decide (m.most - (m.dirty.length : Int) < n) = true := by simpa using h1
        simp [f_cells_Memory_Grow, env0, go_sem, get_alloc, n_alloc, get_set, n_set, get_kill, n_kill, writeAt, a11, a21, a31, a41, a51, a61, a71, isNil, e0, d0, hg, hw, d1]
        simp [go_sem, endP, endI, resultsA, resultA, freezeL, freezeV, AV.free.freeL, AV.free, packA, dropS]
        exact ⟨_, _, ⟨rfl, rfl⟩, hK _ _ ⟨rfl, rfl⟩⟩)
      have e : growM m n = (m, -1) := by unfold growM; rw [if_pos (.inr h1)]
      rw [e]
      exact ⟨_, own, call_of tb_cells_Memory_Grow hcall, vm, Kp.refl, Agr.refl⟩
    · have e : growM m n = (growK n.toNat m, (m.dirty.length : Int)) := by
        unfold growM; rw [if_neg (by omega), growK_eq]
      rw [e]
      obtain ⟨y, g9, hcall, rfl, own', h2, h3, h4⟩ := callF_K (o := call tb prim) (F := f_cells_Memory_Grow) (bar := bar) (h := g) (args := [.ptr M 0, .int .i64 n]) (P := fun y g9 => y = .int .i64 m.dirty.length ∧ ∃ own', MemO g9 b own' M (growK n.toNat m) ∧ Kp own t345 g g9 ∧ Agr g.n own own') rfl rfl (fun K hK => by
        have d1 : decide (m.most - (m.dirty.length : Int) < n) = false := by simpa using h1
        simp [f_cells_Memory_Grow, env0, go_sem, get_alloc, n_alloc, get_set, n_set, get_kill, n_kill, writeAt, a11, a21, a31, a41, a51, a61, a71, isNil, e0, d0, hg, hw, d1]
        refine grow_loop m.dirty.length n (by omega) hb _ n.toNat 0 g own m (by omega) hbg vm (by omega) (fun e g' own' h1 h2 h3 h4 => ?_)
        simp [go_sem, endP, endI, resultsA, resultA, freezeL, freezeV, AV.free.freeL, AV.free, packA, dropS, h4]
        exact ⟨_, _, ⟨rfl, rfl⟩, hK _ _ ⟨rfl, own', h1, h2, h3⟩⟩)
      exact ⟨_, own', call_of tb_cells_Memory_Grow hcall, h2, h3, h4⟩
theorem mem_grow {a : Int} {st : List Int} (vx : XO g b own C tr val ids) (vf : FrO g b own t f id) (vm : MemO g b own C.M m) (hb : bar ≤ b) (hbg : b ≤ g.n) (hst : f.st = a :: st) :
    MemR bar b g own C val ids t f id 164 (some ((growM m a).2 :: st, (growM m a).1, tr)) := by
  rintro st0 m0 tr0 h
  cases h
  have hsm := vf.sm
  rw [hst] at hsm
  obtain ⟨g1, e1, v1, k1⟩ := pop_o vf hst hb
  have x1 := vx.mono k1 Agr.refl (tS1 t)
  have m1 := vm.mono k1 Agr.refl (tS3 t)
  have hbg1 : b ≤ g1.n := Nat.le_trans hbg k1.1
  obtain ⟨g2, own2, e2, m2, k2, a2⟩ := grow_ok m1 hb hbg1 a
  have x2 := x1.mono k2 a2 (by unfold t345; omega)
  have v2 := v1.mono k2 a2 (by unfold t345; omega) (by unfold t345; omega)
  obtain ⟨g3, own3, e4, v3, k3, a3⟩ := push_o v2 hb (by have := k2.1; omega) (by simp at hsm ⊢; omega) (growM m a).2
  have x3 := x2.mono k3 a3 (tS1 t)
  have m3 := m2.mono k3 a3 (tS3 t)
  have hk : Kp own (tM t) g g3 := (k1.le fun k h => tS_M h).trans Agr.refl ((k2.le fun k h => by unfold t345 at h; unfold tM; omega).trans a2 (k3.le fun k h => tS_M h))
  obtain ⟨cs, c1, c2, _⟩ := vx.cell4
  obtain ⟨cs', c1', c2', _⟩ := x1.cell4
  obtain ⟨cs'', c1'', c2'', _⟩ := x2.cell4
  obtain ⟨x, g4, hcall, rfl, rfl⟩ := callF_K (o := call tb prim) (F := f_engine_runner_memory) (bar := bar) (h := g) (args := [.ptr C.X 0, .ptr id 0, .int .i32 164]) (P := fun x g4 => x = .tup [] ∧ g4 = g3) rfl rfl (fun K hK => by
    simp [f_engine_runner_memory, env0, go_sem, get_alloc, n_alloc, get_set, n_set, get_kill, n_kill, writeAt, a11, a21, a31, a41, a51, a61, a71, isNil, c1, c2, e1, e2, e4]
    refine ⟨sees_of rfl ?_, ?_⟩
    · simp [-getElem?_pos, R_nil, R_cons, RS_some, sameV_some, seesQ_some, List.take, List.take_succ_cons, List.take_zero, go_sem, get_alloc, n_alloc, get_set, n_set, get_kill, n_kill, writeAt, a11, a21, a31, a41, a51, a61, a71, isNil, c1, c2, c1', c2', c1'', c2'', e1, e2, List.getElem?_cons_zero, List.getElem?_cons_succ]
    simp [go_sem, endP, endI, resultsA, resultA, freezeL, freezeV, AV.free.freeL, AV.free, packA, dropS]
    exact ⟨_, _, ⟨rfl, rfl⟩, hK _ _ ⟨rfl, rfl⟩⟩)
  exact ⟨_, own3, call_of tb_engine_runner_memory hcall, v3, x3, m3, hk, Agr.trans (Agr.trans Agr.refl a2 k1.1) a3 (by have := k1.1; have := k2.1; omega)⟩
theorem mem_all (vx : XO g b own C tr val ids) (vf : FrO g b own t f id) (vm : MemO g b own C.M m) (hb : bar ≤ b) (hbg : b ≤ g.n) (hsm : f.st.length < 3000000) {sg : Int} (hsg : isMemS sg = true) :
    MemR bar b g own C val ids t f id sg (memS sg f.st m tr) := by
  have hsg' : sg = 64 ∨ sg = 169 ∨ sg = 36 ∨ sg = 174 ∨ sg = 35 ∨ sg = 164 := by simpa [isMemS] using hsg
  intro st m' tr' h
  unfold memS at h
  split at h
  · rename_i hc
    split at h
    · cases h
    · rename_i a st0 hst
      exact mem_load vx vf vm hb hbg hst hc _ _ _ h
  · split at h
    · rename_i hc
      split at h
      · rename_i n a st0 hst
        exact mem_store vx vf vm hb hbg hst hc _ _ _ h
      · cases h
    · split at h
      · rename_i hc
        subst hc
        exact mem_pages vx vf vm hb hbg hsm _ _ _ h
      · split at h
        · cases h
        · rename_i a st0 hst
          have hz : sg = 164 := by omega
          subst hz
          exact mem_grow vx vf vm hb hbg hst _ _ _ h
theorem plain_all {k : Tok} (vx : XO g b own C tr val ids) (vf : FrO g b own t f id) (vr : RowO g b own C.R r) (hb : bar ≤ b) (hbg : b ≤ g.n) (hsm : f.st.length < 3000000) (hsr : r.asks.length < 2000000) :
    PlainR bar b g own C val ids t f id k (plainF k f.st r tr) := by
  intro st r' tr' h
  unfold plainF at h
  split at h
  · rename_i hc
    split at h
    · cases h
    · rename_i a st0 hst
      exact plain_dup vx vf vr hb hbg hst hsm hc _ _ _ h
  · rename_i q1
    split at h
    · rename_i hc
      split at h
      · cases h
      · rename_i a st0 hst
        exact plain_drop vx vf vr hb hbg hst hc _ _ _ h
    · rename_i q2
      split at h
      · rename_i hc
        exact plain_skip vx vf vr hc _ _ _ h
      · rename_i q3
        split at h
        · rename_i hc
          exact plain_halt vx vf vr hb hc _ _ _ h
        · rename_i q4
          split at h
          · rename_i hc
            split at h
            · cases h
            · rename_i a st0 hst
              exact plain_ask vx vf vr hb hbg hst hsr hc _ _ _ h
          · rename_i q5
            split at h
            · rename_i hc
              split at h
              · cases h
              · rename_i a st0 hst
                exact plain_not vx vf vr hb hbg hst hc _ _ _ h
            · rename_i q6
              split at h
              · rename_i c a st0 hst
                exact plain_two vx vf vr hb hbg hst ⟨q1, q2, fun q => q3 (.inl q), fun q => q3 (.inr q), q4, q5, q6⟩ _ _ _ h
              · cases h
end
end Go.Ev
set_option linter.unusedSectionVars false
namespace Go.Ev
open Go
def sigOk (s : Int) : Bool := decide (s = 48 ∨ (97 ≤ s ∧ s ≤ 122) ∨ (65 ≤ s ∧ s ≤ 90) ∨ s = 955) || sgG s
def FrSg (fr : List Fm) : Prop := ∀ f ∈ fr, ∀ k ∈ f.c.l, sigOk k.sign = true
section
variable {bar b : Nat} {g : H} {own : Nat → Nat} {C : Cx} {val : Int} {ids : List Nat} {f : Fm} {i : Nat}
/-- The other parts stay. -/
theorem XV.put {g' : H} {own' : Nat → Nat} {S : Nat → Prop} {s : Mc} {r : List Fm} {f' : Fm} (v : XV g b own C s val (i :: ids)) (hfr : s.fr = f :: r) (k : Kp own S g g') (a : Agr g.n own own') (x : XO g' b own' C s.trap val (i :: ids)) (fo : FrO g' b own' r.length f' i) (h0 : ¬ S 0) (hs : ∀ t, t < r.length → ¬ S (2 * t + 10) ∧ ¬ S (2 * t + 11)) (hm : ¬ S 3 ∧ ¬ S 4 ∧ ¬ S 5) (hr : ¬ S 6 ∧ ¬ S 7 ∧ ¬ S 8) : XV g' b own' C { s with fr := f' :: r } val (i :: ids) :=
  have hv := v.fr
  have hv2 : FrsV g b own (f :: r) (i :: ids) := hfr ▸ hv
  ⟨x, v.cx.mono k a h0, ⟨fo, FrsV.mono k a hv2.2 hs⟩, v.m.mono k a hm, v.r.mono k a hr, by have := k.1; have := v.bn; omega⟩
theorem tS_lt {t u : Nat} (h : u < t) : ¬ tS t (2 * u + 10) ∧ ¬ tS t (2 * u + 11) := by unfold tS; omega
theorem step_ok {s s' : Mc} {r : List Fm} (v : XV g b own C s val (i :: ids)) (hfr : s.fr = f :: r) (hb : bar ≤ b) (hst : stepM C.fs (C.rows.map (·.2.2)) s = some s') (hg : FrSg s.fr) (hT : totS s.fr < 3000000) (hsr : s.r.asks.length < 2000000) (hids : ids.length < 999) :
    ∃ g' own' ids', call tb prim n_engine_runner_step [.ptr C.X 0, .ptr i 0] bar g = some (.tup [], g') ∧ XV g' b own' C s' val ids' ∧ Kp own tA g g' ∧ Agr g.n own own' := by
  have hv : FrsV g b own (f :: r) (i :: ids) := hfr ▸ v.fr
  have vf := hv.1
  have hln : ids.length = r.length := hv.2.len
  have hbg := v.bn
  have hsm : f.st.length < 3000000 := by rw [hfr] at hT; simp only [totS] at hT; omega
  unfold stepM at hst
  rw [hfr] at hst
  simp only at hst
  split at hst
  · cases hst
  · rename_i k hk
    have hkg : sigOk k.sign = true := hg f (by rw [hfr]; exact List.mem_cons_self ..) k (List.mem_of_getElem? hk)
    split at hst
    · rename_i q
      cases hst
      obtain ⟨g', own', e, fo, kp, ag⟩ := step_num (bar := bar) vf hb hbg hk q hsm (.ptr C.X 0)
      exact ⟨g', own', _, e, v.put hfr kp ag (v.x.mono kp ag (tS1 _)) fo (tS0 _) (fun t ht => tS_lt ht) (tS3 _) (tS6 _), kp.le fun k h => tS_A h, ag⟩
    · rename_i q1
      split at hst
      · rename_i q
        split at hst
        · cases hst
        · rename_i x hx
          cases hst
          obtain ⟨g', own', e, fo, kp, ag⟩ := step_get (bar := bar) vf hb hbg hk q hx hsm (.ptr C.X 0)
          exact ⟨g', own', _, e, v.put hfr kp ag (v.x.mono kp ag (tS1 _)) fo (tS0 _) (fun t ht => tS_lt ht) (tS3 _) (tS6 _), kp.le fun k h => tS_A h, ag⟩
      · rename_i q2
        split at hst
        · rename_i q
          split at hst
          · cases hst
          · rename_i x st hx
            cases hst
            obtain ⟨g', own', e, fo, kp, ag⟩ := step_set (bar := bar) vf hb hbg hk q hx (.ptr C.X 0)
            exact ⟨g', own', _, e, v.put hfr kp ag (v.x.mono kp ag (tS1 _)) fo (tS0 _) (fun t ht => tS_lt ht) (tS3 _) (tS6 _), kp.le fun k h => tS_A h, ag⟩
        · rename_i q3
          split at hst
          · rename_i q
            split at hst
            · cases hst
            · rename_i c hc
              split at hst
              · cases hst
              · rename_i q5
                rw [List.getElem?_map] at hc
                cases hx : C.rows[(findN k.name C.fs 0).toNat]? with
                | none => rw [hx] at hc; cases hc
                | some x =>
                  rw [hx] at hc
                  simp only [Option.map_some, Option.some.injEq] at hc
                  obtain ⟨g', own', e, fo, kp, ag, hh⟩ := step_call (bar := bar) (a := c.args.toNat) v.x v.cx vf hb hbg hk q (kk := (findN k.name C.fs 0).toNat) (by omega) hx (by rw [hc]; omega) (by omega) (by simp; omega)
                  have hlt : ∀ t, t < r.length → ¬ tC r.length (2 * t + 10) ∧ ¬ tC r.length (2 * t + 11) := fun t ht => by unfold tC tS; omega
                  have h0 : ¬ tC r.length 0 := by unfold tC tS; omega
                  have h3 : ¬ tC r.length 3 ∧ ¬ tC r.length 4 ∧ ¬ tC r.length 5 := by unfold tC tS; omega
                  have h6 : ¬ tC r.length 6 ∧ ¬ tC r.length 7 ∧ ¬ tC r.length 8 := by unfold tC tS; omega
                  split at hst
                  · rename_i hd
                    cases hst
                    rcases hh with ⟨_, hx6⟩ | ⟨hn, _⟩
                    · exact ⟨g', own', _, e, ⟨hx6, v.cx.mono kp ag h0, ⟨fo, FrsV.mono kp ag hv.2 hlt⟩, v.m.mono kp ag h3, v.r.mono kp ag h6, by have := kp.1; omega⟩, kp.le fun k h => tC_A h, ag⟩
                    · exfalso; simp at hn hd; omega
                  · rename_i hd
                    cases hst
                    rcases hh with ⟨hn, _⟩ | ⟨_, j, hxj, hfj⟩
                    · exfalso; simp at hn hd; omega
                    · refine ⟨g', own', j :: i :: ids, e, ⟨hxj, v.cx.mono kp ag h0, ⟨?_, fo, FrsV.mono kp ag hv.2 hlt⟩, v.m.mono kp ag h3, v.r.mono kp ag h6, by have := kp.1; omega⟩, kp.le fun k h => tC_A h, ag⟩
                      rw [hc] at hfj
                      have : (i :: ids).length = ({ f with at' := f.at' + 1, st := f.st.drop c.args.toNat } :: r).length := by simp [hln]
                      rw [← this]
                      exact hfj
          · rename_i q4
            have hsg : sgG k.sign = true := by
              have := hkg
              unfold sigOk at this
              simp only [Bool.or_eq_true, decide_eq_true_eq] at this
              rcases this with h | h
              · omega
              · exact h
            split at hst
            · rename_i hgo
              have hX := fun (g1 : H) (f' : Fm) (fo : FrO g1 b (ext own g.n 0) r.length f' i) (hk1 : Kp (ext own g.n 0) (tS r.length) (tokZ g k) g1) => True
              have vz := vf.mono (tokZ_kp (k := k) (S := fun _ => False)) (Agr.ext (k := 0)) (by simp) (by simp)
              have hgz : b ≤ (tokZ g k).n := by rw [tokZ_n]; omega
              have fin : ∀ f' : Fm, (∃ g1, call tb prim n_engine_runner_goes [.ptr C.X 0, .ptr i 0, .int .i32 k.sign] bar (tokZ g k) = some (.tup [], g1) ∧ FrO g1 b (ext own g.n 0) r.length f' i ∧ Kp (ext own g.n 0) (tS r.length) (tokZ g k) g1) →
                  ∃ g' own' ids', call tb prim n_engine_runner_step [.ptr C.X 0, .ptr i 0] bar g = some (.tup [], g') ∧ XV g' b own' C { s with fr := f' :: r } val ids' ∧ Kp own tA g g' ∧ Agr g.n own own' := fun f' hG => by
                obtain ⟨g', own', e, fo, kp, ag⟩ := step_goes (bar := bar) vf hb hk hsg hgo (.ptr C.X 0) hG hbg
                exact ⟨g', own', _, e, v.put hfr kp ag (v.x.mono kp ag (tS1 _)) fo (tS0 _) (fun t ht => tS_lt ht) (tS3 _) (tS6 _), kp.le fun k h => tS_A h, ag⟩
              split at hst
              · rename_i q63
                split at hst
                · cases hst
                · rename_i vv st hfs
                  split at hst
                  · rename_i hne
                    cases hst
                    refine fin _ ?_
                    rw [q63]
                    exact goes_1 vz hfs hne hb (List.getElem?_eq_some_iff.mp hk).1 (.ptr C.X 0)
                  · rename_i hz
                    have hz' : vv = 0 := by simpa using hz
                    split at hst
                    · cases hst
                    · rename_i j hj
                      split at hst
                      · cases hst
                      · cases hst
                        refine fin _ ?_
                        rw [q63]
                        obtain ⟨j', rfl⟩ := Int.eq_ofNat_of_zero_le (show 0 ≤ j by omega)
                        exact goes_0 vz (by rw [hfs, hz']) hb hj (.ptr C.X 0)
              · rename_i q63
                split at hst
                · cases hst
                · rename_i j hj
                  split at hst
                  · cases hst
                  · cases hst
                    refine fin _ ?_
                    obtain ⟨j', rfl⟩ := Int.eq_ofNat_of_zero_le (show 0 ≤ j by omega)
                    exact goes_to vz hb hj (.ptr C.X 0) q63
            · rename_i hgo
              have hgo' : isGo k.sign = false := by simpa using hgo
              split at hst
              · rename_i hme
                split at hst
                · cases hst
                · rename_i st m' tr' hm
                  cases hst
                  obtain ⟨g', own', e, fo, xo, mo, kp, ag⟩ := step_mem (bar := bar) v.x vf v.m hb hbg hk hsg hgo' hme (fun own0 vx vf vm hbz => mem_all vx vf vm hb hbz hsm hme) st m' tr' hm
                  refine ⟨g', own', _, e, ⟨xo, v.cx.mono kp ag (by unfold tM tS; omega), ⟨fo, FrsV.mono kp ag hv.2 fun t ht => by unfold tM tS; omega⟩, mo, v.r.mono kp ag (by unfold tM tS; omega), by have := kp.1; omega⟩, kp.le fun k h => tM_A h, ag⟩
              · rename_i hme
                have hme' : isMemS k.sign = false := by simpa using hme
                split at hst
                · cases hst
                · rename_i st ro tr' hm
                  cases hst
                  obtain ⟨g', own', e, fo, xo, mo, kp, ag⟩ := step_plain (bar := bar) v.x vf v.r hb hbg hk hsg hgo' hme' (fun own0 vx vf vm hbz => plain_all vx vf vm hb hbz hsm hsr) st ro tr' hm
                  refine ⟨g', own', _, e, ⟨xo, v.cx.mono kp ag (by unfold tP tS; omega), ⟨fo, FrsV.mono kp ag hv.2 fun t ht => by unfold tP tS; omega⟩, v.m.mono kp ag (by unfold tP tS; omega), mo, by have := kp.1; omega⟩, kp.le fun k h => tP_A h, ag⟩
end
end Go.Ev
set_option linter.unusedSectionVars false
namespace Go.Ev
open Go
def goodF (fs : List Fn) (f : Fn) (i : Nat) : Bool := nameR f.name && (findN f.name fs 0 == i) && decide (0 ≤ f.args) && decide (f.args ≤ 4)
def namedN (fs : List Fn) : Nat → Nat → Bool
  | 0, _ => true
  | k + 1, i => match fs[i]? with
    | none => true
    | some f => if goodF fs f i then namedN fs k (i + 1) else false
def fnOf (fs : List Fn) (i : Nat) : Int := (funN (fun l => (nestP l).isSome) fs i).2
def funsN (fs : List Fn) : Nat → Nat → Int
  | 0, _ => 0
  | k + 1, i => if fnOf fs i ≠ 0 then fnOf fs i else funsN fs k (i + 1)
def rightN (p m : Int) (fs : List Fn) : Int :=
  if p < 0 ∨ m < p ∨ 64 < m then 25 else
  if 32 < fs.length then 3 else
  if namedN fs fs.length 0 then funsN fs fs.length 0 else 12
section
variable {o : Oracle} {bar : Nat} {g : H}
/-- A row of a program's functions. -/
theorem S_frow {fa : AV} {fs : List Fn} (hv : FV g fa fs) {i : Nat} (hi : i < fs.length) {c d : Nat} {r : List IOper} {ks : List Fr} {e : Env} {Q : Ex → Env → H → Prop}
    (hw : ∀ u, wpX o bar r ks ((d, .agg fs[i].cells) :: (c, u) :: e) g Q) : wpS o bar (iadrR 3 (some fa) (some (.int .i64 (i : Int))) g) (some c) (⟨some d, .ld true 3 (.t c), none⟩ :: r) ks e Q := by
  have hix : indexIn (.int .i64 (i : Int)) fs.length = some i := by simp only [indexIn]; rw [if_pos (by omega), Int.toNat_natCast]
  rcases hv.cases with ⟨_, rfl⟩ | ⟨full, cs, rfl, hl, _, hy⟩ | ⟨id, off, full, all, p, rfl, hlt, hg, _, hy⟩
  · cases hi
  · obtain ⟨h1, h2⟩ := hy i hi
    simp [go_sem, hix, hl, h1, h2]
    exact hw _
  · obtain ⟨h1, h2⟩ := hy i hi
    simp [go_sem, hix, hg, h1, h2]
    exact hw _
theorem S_fld {fa : AV} {fs : List Fn} (hv : FV g fa fs) {i : Nat} (hi : i < fs.length) {c c' d : Nat} {r : List IOper} {ks : List Fr} {e : Env} {Q : Ex → Env → H → Prop}
    (hw : ∀ u v, wpX o bar r ks ((d, .int .i64 fs[i].args) :: (c', v) :: (c, u) :: e) g Q) : wpS o bar (iadrR 3 (some fa) (some (.int .i64 (i : Int))) g) (some c) (⟨some c', .fadr 1 (.t c), none⟩ :: ⟨some d, .ld false 1 (.t c'), none⟩ :: r) ks e Q := by
  have hix : indexIn (.int .i64 (i : Int)) fs.length = some i := by simp only [indexIn]; rw [if_pos (by omega), Int.toNat_natCast]
  rcases hv.cases with ⟨_, rfl⟩ | ⟨full, cs, rfl, hl, hx, _⟩ | ⟨id, off, full, all, p, rfl, hlt, hg, hx, _⟩
  · cases hi
  · obtain ⟨_, h2, _⟩ := hx i hi
    simp [go_sem, hix, hl, h2]
    exact hw _ _
  · obtain ⟨_, h2, _⟩ := hx i hi
    simp [go_sem, hix, hg, h2]
    exact hw _ _
end
section
variable {bar b : Nat} {g : H} {fa : AV} {fs : List Fn} {p m : Int}
theorem spF (a b c u v w : AV) : splice [a, b, c] 0 [u, v, w] = [u, v, w] := Eq.trans rfl rfl
theorem named_loop (hb : bar ≤ b) (Q : Ex → Env → H → Prop) (bx : Nat) (hbx : bx < b) : ∀ (k i : Nat) (g : H), fs.length = i + k → b ≤ g.n → FV g fa fs → g.get bx = some (.cells [.int .i64 p, .int .i64 m, fa] 0) →
    (namedN fs k i = true → ∀ e g', Q (.exit 0) e g') → (namedN fs k i = false → ∀ e g', e.get 2 = some (.bool false) → Q .ret e g') →
    wpL (call tb prim) bar [1, 6, 7, 8] l0_unit_named [(1, .ptr bx 0), (6, fa), (7, goI fs.length), (8, goI i)] g Q
  | 0, i, g, hk, hbg, hv, hgx, h1, h2 => by
    refine M_loop l0_unit_named.eq_1 ?_
    have hlt : ¬ (i : Int) < (fs.length : Int) := by omega
    simp [go_sem, goI, hlt]
    exact h1 rfl _ _
  | k + 1, i, g, hk, hbg, hv, hgx, h1, h2 => by
    refine M_loop l0_unit_named.eq_1 ?_
    have hi : i < fs.length := by omega
    have hlt : (i : Int) < (fs.length : Int) := by omega
    have hw := w64_succ (n := i) (by have := hv.2.1; omega)
    have hN : namedN fs (k + 1) i = if goodF fs fs[i] i then namedN fs k (i + 1) else false := by
      rw [namedN, List.getElem?_eq_getElem hi]
    obtain ⟨f, hf⟩ : ∃ f, f = fs[i] := ⟨_, rfl⟩
    rw [← hf] at hN
    obtain ⟨g1, hg1⟩ : ∃ g1, g1 = (g.alloc (.cells [.int .i32 0, .int .i64 0, .str ⟨#[]⟩] 0)).set g.n (.cells [.int .i32 f.name, .int .i64 f.args, .str f.code] 0) := ⟨_, rfl⟩
    have n1 : g1.n = g.n + 1 := by rw [hg1]; rfl
    have k1 : ∀ j, j < g.n → g1.get j = g.get j := fun j hj => by rw [hg1, get_set_ne (by omega), get_alloc, if_neg (by omega)]
    have hv1 : FV g1 fa fs := hv.keep (by omega) (fun j hj => k1 j (hv.at_lt' hj))
    have gx1 : g1.get bx = some (.cells [.int .i64 p, .int .i64 m, fa] 0) := by rw [k1 bx (by omega)]; exact hgx
    have gF : g1.get g.n = some (.cells [.int .i32 f.name, .int .i64 f.args, .str f.code] 0) := by rw [hg1, get_set, if_pos rfl]
    have eN := glyph_Name_ok (pr := prim) (bar := bar) (h := g1) f.name
    have eF := check_Find_ok (pr := prim) (bar := bar) (h := g1) fs fa f.name p m hv1
    have hbn : bar ≤ g.n := by omega
    simp [go_sem, goI, hlt]
    refine S_frow hv hi fun u => ?_
    rw [← hf]
    simp [go_sem, get_alloc, n_alloc, get_set, n_set, get_kill, n_kill, writeAt, a11, a21, a31, a41, a51, a61, a71, isNil, Fn.cells, spF, hbn]
    rw [← hg1]
    by_cases c1 : nameR f.name = true
    · by_cases c2 : findN f.name fs 0 = (i : Int)
      · by_cases c3 : 0 ≤ f.args
        · by_cases c4 : f.args ≤ 4
          · have hG : goodF fs f i = true := by simp [goodF, c1, c2, c3, c4]
            rw [hG, if_pos rfl] at hN
            rw [c1] at eN
            rw [c2] at eF
            have d3 : decide (f.args < 0) = false := by simpa using c3
            have d4 : decide (4 < f.args) = false := by simpa using c4
            simp [go_sem, get_alloc, n_alloc, get_set, n_set, get_kill, n_kill, writeAt, a11, a21, a31, a41, a51, a61, a71, isNil, gF, eN, gx1, eF, d3, d4, hw]
            exact named_loop hb Q bx hbx k (i + 1) g1 (by omega) (by omega) hv1 gx1 (fun h => h1 (by rw [hN]; exact h)) (fun h => h2 (by rw [hN]; exact h))
          · have hG : goodF fs f i = false := by simp [goodF, c4]
            rw [hG] at hN
            rw [c1] at eN
            rw [c2] at eF
            have d3 : decide (f.args < 0) = false := by simpa using c3
            have d4 : decide (4 < f.args) = true := by simpa using c4
            simp [go_sem, get_alloc, n_alloc, get_set, n_set, get_kill, n_kill, writeAt, a11, a21, a31, a41, a51, a61, a71, isNil, gF, eN, gx1, eF, d3, d4]
            exact h2 hN _ _ rfl
        · have hG : goodF fs f i = false := by simp [goodF, c3]
          rw [hG] at hN
          rw [c1] at eN
          rw [c2] at eF
          have d3 : decide (f.args < 0) = true := by simpa using c3
          simp [go_sem, get_alloc, n_alloc, get_set, n_set, get_kill, n_kill, writeAt, a11, a21, a31, a41, a51, a61, a71, isNil, gF, eN, gx1, eF, d3]
          exact h2 hN _ _ rfl
      · have hG : goodF fs f i = false := by simp [goodF, c2]
        rw [hG] at hN
        rw [c1] at eN
        have d2 : (findN f.name fs 0 != (i : Int)) = true := by simpa using c2
        simp [go_sem, get_alloc, n_alloc, get_set, n_set, get_kill, n_kill, writeAt, a11, a21, a31, a41, a51, a61, a71, isNil, gF, eN, gx1, eF, d2]
        exact h2 hN _ _ rfl
    · have c1' : nameR f.name = false := by simpa using c1
      have hG : goodF fs f i = false := by simp [goodF, c1']
      rw [hG] at hN
      rw [c1'] at eN
      simp [go_sem, get_alloc, n_alloc, get_set, n_set, get_kill, n_kill, writeAt, a11, a21, a31, a41, a51, a61, a71, isNil, gF, eN]
      exact h2 hN _ _ rfl
theorem unit_named_ok (hv : FV g fa fs) : call tb prim n_unit_named [.agg [.int .i64 p, .int .i64 m, fa]] bar g = some (.bool (namedN fs fs.length 0), g) := by
  refine call_of tb_unit_named (callF_pureW rfl rfl (M_in ?_))
  have hv1 : FV (g.alloc (.cells [.int .i64 p, .int .i64 m, fa] 0)) fa fs := hv.keep (by simp [n_alloc]) (fun j hj => by rw [get_alloc, if_neg (by have := hv.at_lt' hj; omega)])
  simp [f_unit_named, env0, go_sem, get_alloc, n_alloc, get_set, n_set, get_kill, n_kill, writeAt, a11, a21, a31, a41, a51, a61, a71, isNil, hv.one, hv.len, get_alloc]
  refine named_loop (bar := g.n) (b := g.n + 1) (p := p) (m := m) (by omega) _ g.n (by omega) fs.length 0 _ (by omega) (by simp [n_alloc]) hv1 (by simp [get_alloc]) (fun h e g' => ?_) (fun h e g' he => ?_)
  · simp [go_sem, endP, endI, resultsA, resultA, freezeL, freezeV, AV.free.freeL, AV.free, packA, dropS, h]
  · simp [go_sem, endP, endI, resultsA, resultA, freezeL, freezeV, AV.free.freeL, AV.free, packA, dropS, he, h]
theorem right_loop (Q : Ex → Env → H → Prop) (bx : Nat) : ∀ (k i : Nat), fs.length = i + k → FV g fa fs → g.get bx = some (.cells [.int .i64 p, .int .i64 m, fa] 0) →
    (funsN fs k i = 0 → ∀ e g', Q (.exit 1) e g') → (∀ x, funsN fs k i = x → ∀ e g', e.get 2 = some (.int .i64 x) → Q .ret e g') →
    wpL (call tb prim) bar [1, 33, 34] l0_unit_Right [(1, .ptr bx 0), (33, goI fs.length), (34, goI i)] g Q
  | 0, i, hk, hv, hgx, h1, h2 => by
    refine M_loop l0_unit_Right.eq_1 ?_
    have hlt : ¬ (i : Int) < (fs.length : Int) := by omega
    simp [go_sem, goI, hlt]
    exact h1 rfl _ _
  | k + 1, i, hk, hv, hgx, h1, h2 => by
    refine M_loop l0_unit_Right.eq_1 ?_
    have hi : i < fs.length := by omega
    have hlt : (i : Int) < (fs.length : Int) := by omega
    have hw := w64_succ (n := i) (by have := hv.2.1; omega)
    obtain ⟨a, eF, _⟩ := check_Func_ok (bar := bar) (p := p) (m := m) fs (i : Int) hv
    by_cases hc : fnOf fs i = 0
    · have hN : funsN fs (k + 1) i = funsN fs k (i + 1) := by rw [funsN, if_neg (by simpa using hc)]
      have hc' : (funN (fun l => (nestP l).isSome) fs i).2 = 0 := hc
      rw [hc'] at eF
      simp [go_sem, get_alloc, n_alloc, get_set, n_set, get_kill, n_kill, writeAt, a11, a21, a31, a41, a51, a61, a71, isNil, goI, hlt, hgx, eF, hw]
      exact right_loop Q bx k (i + 1) (by omega) hv hgx (fun h => h1 (by rw [hN]; exact h)) (fun x h => h2 x (by rw [hN]; exact h))
    · have hN : funsN fs (k + 1) i = fnOf fs i := by rw [funsN, if_pos hc]
      have hb : ((funN (fun l => (nestP l).isSome) fs i).2 != 0) = true := by
        have hc' : ¬ (funN (fun l => (nestP l).isSome) fs i).2 = 0 := hc
        simpa using hc'
      simp [go_sem, get_alloc, n_alloc, get_set, n_set, get_kill, n_kill, writeAt, a11, a21, a31, a41, a51, a61, a71, isNil, goI, hlt, hgx, eF, hb]
      exact h2 _ hN _ _ rfl
theorem unit_Right_ok (hv : FV g fa fs) : call tb prim n_unit_Right [.agg [.int .i64 p, .int .i64 m, fa]] bar g = some (.int .i64 (rightN p m fs), g) := by
  refine call_of tb_unit_Right (callF_pureW rfl rfl (M_in ?_))
  have hv1 : FV (g.alloc (.cells [.int .i64 p, .int .i64 m, fa] 0)) fa fs := hv.keep (by simp [n_alloc]) (fun j hj => by rw [get_alloc, if_neg (by have := hv.at_lt' hj; omega)])
  have eN := unit_named_ok (bar := g.n) (p := p) (m := m) hv1
  have hlen := hv.len
  by_cases c1 : p < 0 ∨ m < p ∨ 64 < m
  · have hR : rightN p m fs = 25 := by unfold rightN; rw [if_pos c1]
    rw [hR]
    by_cases d1 : p < 0
    · have e1 : decide (p < 0) = true := by simpa using d1
      simp [f_unit_Right, env0, go_sem, get_alloc, n_alloc, get_set, n_set, get_kill, n_kill, writeAt, a11, a21, a31, a41, a51, a61, a71, isNil, hv.one, hlen, e1]
      simp [go_sem, endP, endI, resultsA, resultA, freezeL, freezeV, AV.free.freeL, AV.free, packA, dropS]
    · have e1 : decide (p < 0) = false := by simpa using d1
      by_cases d2 : m < p
      · have e2 : decide (m < p) = true := by simpa using d2
        simp [f_unit_Right, env0, go_sem, get_alloc, n_alloc, get_set, n_set, get_kill, n_kill, writeAt, a11, a21, a31, a41, a51, a61, a71, isNil, hv.one, hlen, e1, e2]
        simp [go_sem, endP, endI, resultsA, resultA, freezeL, freezeV, AV.free.freeL, AV.free, packA, dropS]
      · have e2 : decide (m < p) = false := by simpa using d2
        have e3 : decide (64 < m) = true := by simp; omega
        simp [f_unit_Right, env0, go_sem, get_alloc, n_alloc, get_set, n_set, get_kill, n_kill, writeAt, a11, a21, a31, a41, a51, a61, a71, isNil, hv.one, hlen, e1, e2, e3]
        simp [go_sem, endP, endI, resultsA, resultA, freezeL, freezeV, AV.free.freeL, AV.free, packA, dropS]
  · have e1 : decide (p < 0) = false := by simp; omega
    have e2 : decide (m < p) = false := by simp; omega
    have e3 : decide (64 < m) = false := by simp; omega
    by_cases c2 : 32 < fs.length
    · have hR : rightN p m fs = 3 := by unfold rightN; rw [if_neg c1, if_pos c2]
      have e4 : decide ((32 : Int) < (fs.length : Int)) = true := by simp; omega
      rw [hR]
      simp [f_unit_Right, env0, go_sem, get_alloc, n_alloc, get_set, n_set, get_kill, n_kill, writeAt, a11, a21, a31, a41, a51, a61, a71, isNil, hv.one, hlen, goI, e1, e2, e3, e4]
      simp [go_sem, endP, endI, resultsA, resultA, freezeL, freezeV, AV.free.freeL, AV.free, packA, dropS]
    · have e4 : decide ((32 : Int) < (fs.length : Int)) = false := by simp; omega
      by_cases c3 : namedN fs fs.length 0 = true
      · have hR : rightN p m fs = funsN fs fs.length 0 := by unfold rightN; rw [if_neg c1, if_neg c2, if_pos c3]
        rw [hR]
        rw [c3] at eN
        simp [f_unit_Right, env0, go_sem, get_alloc, n_alloc, get_set, n_set, get_kill, n_kill, writeAt, a11, a21, a31, a41, a51, a61, a71, isNil, hv.one, hlen, goI, e1, e2, e3, e4, eN]
        refine right_loop (p := p) (m := m) _ g.n fs.length 0 (by omega) hv1 (by simp [get_alloc]) (fun h e g' => ?_) (fun x h e g' he => ?_)
        · simp [go_sem, endP, endI, resultsA, resultA, freezeL, freezeV, AV.free.freeL, AV.free, packA, dropS, h]
        · simp [go_sem, endP, endI, resultsA, resultA, freezeL, freezeV, AV.free.freeL, AV.free, packA, dropS, he, h]
      · have c3' : namedN fs fs.length 0 = false := by simpa using c3
        have hR : rightN p m fs = 12 := by unfold rightN; rw [if_neg c1, if_neg c2, if_neg c3]
        rw [hR]
        rw [c3'] at eN
        simp [f_unit_Right, env0, go_sem, get_alloc, n_alloc, get_set, n_set, get_kill, n_kill, writeAt, a11, a21, a31, a41, a51, a61, a71, isNil, hv.one, hlen, goI, e1, e2, e3, e4, eN]
        simp [go_sem, endP, endI, resultsA, resultA, freezeL, freezeV, AV.free.freeL, AV.free, packA, dropS]
end
end Go.Ev
set_option linter.unusedSectionVars false
namespace Go.Ev
open Go
def AV.stay : AV → Bool
  | .sl .. => false
  | .agg _ => false
  | _ => true
theorem freezeV_stay {bar d : Nat} {h : H} {v : AV} (hv : v.stay = true) : freezeV bar (d + 1) h v = some (v, h) := by
  cases v <;> first | (cases hv; done) | (simp [freezeV])
theorem freezeL_stay {bar d : Nat} {h : H} : ∀ {cs : List AV}, cs.all AV.stay = true → freezeL bar (d + 1) h cs = some (cs, h)
  | [], _ => by simp [freezeL]
  | v :: r, hc => by
    rw [List.all_cons, Bool.and_eq_true] at hc
    simp [freezeL, freezeV_stay hc.1, freezeL_stay hc.2]
theorem OS.freeze' {k : Nat} {h : H} {bar : Nat} {a : AV} {n : Nat} {cs : List AV} (v : OS k h bar a n cs) (hc : cs.all AV.stay = true) (hf : cs.all AV.free = true) (hn : n ≤ 9223372036854775807) (d : Nat) : ∃ a' h', freezeV bar (d + 2) h a = some (a', h') ∧ FzV k a' n cs := by
  obtain ⟨h1, h2, ⟨rfl, rfl⟩ | ⟨id, rest, rfl, g1, g2, g3⟩⟩ := v
  · exact ⟨.nilsl, h, by simp [freezeV], h1, hn, .inl ⟨rfl, rfl⟩⟩
  · refine ⟨.fz k n cs false, h.set id (.cells (cs ++ rest) (max 0 (0 + n * k))), ?_, h1, hn, .inr ⟨false, rfl⟩⟩
    have hcs : ((cs ++ rest).drop 0).take (n * k) = cs := by rw [List.drop_zero, ← h1, List.take_left]
    simp only [freezeV, g3]
    rw [if_pos ⟨g1, by simp [h1]⟩, hcs, freezeL_stay hc]
    simp only
    rw [if_pos ⟨hf, h2⟩]
theorem FzV.stay {k : Nat} {a : AV} {n : Nat} {cs : List AV} (v : FzV k a n cs) : a.stay = true := by
  obtain ⟨_, _, ⟨rfl, _⟩ | ⟨full, rfl⟩⟩ := v <;> rfl
def codeN (f : Fn) : Code' := ⟨(gTok f.code).1, (nestP (gTok f.code).1).getD [], f.args⟩
/-- Where its jumps lead is near. -/
def toOk (f : Fn) : Prop := ∃ to, nestP (gTok f.code).1 = some to ∧ ∀ x ∈ to, x ≤ 2000
def RowsV (fs : List Fn) (rows : List (AV × AV × Code')) : Prop := ∀ (j : Nat) (x : AV × AV × Code'), rows[j]? = some x → ∃ f, fs[j]? = some f ∧ x.2.2 = codeN f ∧ CodeV x.2.2 x.1 x.2.1
theorem RowsV.all {fs : List Fn} {rows : List (AV × AV × Code')} (v : RowsV fs rows) (p : AV → Bool) (hi : ∀ n, p (.int .i64 n) = true) (hz : ∀ k a n cs, FzV k a n cs → p a = true) : (rows.flatMap cdC).all p = true := by
  rw [List.all_eq_true]
  intro y hy
  obtain ⟨x, hx, hyx⟩ := List.mem_flatMap.mp hy
  obtain ⟨j, hj⟩ := List.mem_iff_getElem?.mp hx
  obtain ⟨f, _, _, hc⟩ := v j x hj
  simp only [cdC, List.mem_cons, List.not_mem_nil, or_false] at hyx
  rcases hyx with rfl | rfl | rfl
  · exact hz _ _ _ _ hc.1.1
  · exact hz _ _ _ _ hc.1.2
  · exact hi _
theorem fill3 (a b c : AV) (h1 : a.one = true) (h2 : b.one = true) (h3 : c.one = true) : fillA [.nilsl, .nilsl, .int .i64 0] [(0, 1, a), (1, 1, b), (2, 1, c)] = some [a, b, c] := by
  have e1 := cells_one h1
  have e2 := cells_one h2
  have e3 := cells_one h3
  have d1 : a.cells.length = 1 ∧ 0 + 1 ≤ ([.nilsl, .nilsl, .int .i64 0] : List AV).length ∧ a.cells.all AV.one = true := ⟨by rw [e1]; rfl, by simp, by rw [e1]; simp [h1]⟩
  have d2 : b.cells.length = 1 ∧ 1 + 1 ≤ (splice ([.nilsl, .nilsl, .int .i64 0] : List AV) 0 a.cells).length ∧ b.cells.all AV.one = true := ⟨by rw [e2]; rfl, by rw [e1]; simp [splice], by rw [e2]; simp [h2]⟩
  have d3 : c.cells.length = 1 ∧ 2 + 1 ≤ (splice (splice ([.nilsl, .nilsl, .int .i64 0] : List AV) 0 a.cells) 1 b.cells).length ∧ c.cells.all AV.one = true := ⟨by rw [e3]; rfl, by rw [e1, e2]; simp [splice], by rw [e3]; simp [h3]⟩
  simp only [fillA]
  rw [if_pos d1, if_pos d2, if_pos d3, e1, e2, e3]
  rfl
theorem fill33 (a b c : AV) (h1 : a.one = true) (h2 : b.one = true) (h3 : c.one = true) : fillA [.nilsl, .nilsl, .int .i64 0] [(0, 3, .agg [a, b, c])] = some [a, b, c] := by
  simp only [fillA]
  rw [if_pos ⟨rfl, by simp, by simp [AV.cells, h1, h2, h3]⟩]
  rfl
section
variable {bar : Nat} {g : H} {fa : AV} {fs : List Fn} {p m : Int}
theorem codes_loop (hto : ∀ f ∈ fs, toOk f) (hl32 : fs.length ≤ 1000) (hfa : ∀ j, fa.isAt j → j < bar) (Q : Ex → Env → H → Prop) : ∀ (k i : Nat) (g : H) (oa : AV) (rows : List (AV × AV × Code')), fs.length = i + k → bar ≤ g.n → FV g fa fs → OS 3 g bar oa i (rows.flatMap cdC) → rows.length = i → RowsV fs rows →
    (∀ e g' oa' rows', OS 3 g' bar oa' fs.length (rows'.flatMap cdC) → rows'.length = fs.length → RowsV fs rows' → e.get 3 = some oa' → Q (.exit 0) e g') →
    wpL (call tb prim) bar [3, 11, 12, 13] l0_engine_codes [(3, oa), (11, fa), (12, goI fs.length), (13, goI i)] g Q
  | 0, i, g, oa, rows, hk, hbg, hv, ho, hr, hR, hq => by
    refine M_loop l0_engine_codes.eq_1 ?_
    have hlt : ¬ (i : Int) < (fs.length : Int) := by omega
    simp [go_sem, goI, hlt]
    have hi : i = fs.length := by omega
    exact hq _ _ oa rows (hi ▸ ho) (by omega) hR rfl
  | k + 1, i, g, oa, rows, hk, hbg, hv, ho, hr, hR, hq => by
    refine M_loop l0_engine_codes.eq_1 ?_
    have hi : i < fs.length := by omega
    have hlt : (i : Int) < (fs.length : Int) := by omega
    have hw := w64_succ (n := i) (by have := hv.2.1; omega)
    obtain ⟨f, hf⟩ : ∃ f, f = fs[i] := ⟨_, rfl⟩
    have hfi : fs[i]? = some f := by rw [hf]; exact List.getElem?_eq_getElem hi
    obtain ⟨to, hto1, hto2⟩ := hto f (List.mem_of_getElem? hfi)
    have hcto : (codeN f).to = to := by unfold codeN; simp only [hto1, Option.getD_some]
    obtain ⟨g1, hg1⟩ : ∃ g1, g1 = (g.alloc (.cells [.int .i32 0, .int .i64 0, .str ⟨#[]⟩] 0)).set g.n (.cells [.int .i32 f.name, .int .i64 f.args, .str f.code] 0) := ⟨_, rfl⟩
    have n1 : g1.n = g.n + 1 := by rw [hg1]; rfl
    have k1 : ∀ j, j < g.n → g1.get j = g.get j := fun j hj => by rw [hg1, get_set_ne (by omega), get_alloc, if_neg (by omega)]
    have gF : g1.get g.n = some (.cells [.int .i32 f.name, .int .i64 f.args, .str f.code] 0) := by rw [hg1, get_set, if_pos rfl]
    have o1 : OS 3 g1 bar oa i (rows.flatMap cdC) := ho.mono (by omega) (fun j hj => k1 j (ho.ow.at_lt hj).2)
    obtain ⟨la, eT, hla, hll⟩ := glyph_Tokens_ok (bar := bar) (h := g1) f.code
    have eO := nest_Of_ok (pr := prim) (bar := bar) (g := g1) (gTok f.code).1 la hla (by omega)
    rw [hto1] at eO
    obtain ⟨ta, eO, hta, htl⟩ := eO
    have h1 := hla.one
    have h2 := hta.one
    have hfill := fill3 la ta (.int .i64 f.args) h1 h2 rfl
    have hfill2 := fill33 la ta (.int .i64 f.args) h1 h2 rfl
    obtain ⟨oa', g2, eA, o2, n2, f2, _⟩ := o1.app (by omega) 56 [la, ta, .int .i64 f.args] rfl (by
      show (la.one && (ta.one && (true && true))) = true
      rw [h1, h2]; rfl) (by omega) (by omega) (by omega)
    have hv2 : FV g2 fa fs := hv.keep (by omega) (fun j hj => by rw [f2 j (by have := hfa j hj; omega) (fun q => by have := (ho.ow.at_lt q).1; have := hfa j hj; omega)]; exact k1 j (by have := hfa j hj; omega))
    have hall : ([la, ta, .int .i64 f.args] : List AV).all AV.one = true := by
      show (la.one && (ta.one && (true && true))) = true
      rw [h1, h2]; rfl
    simp [go_sem, goI, hlt]
    refine S_frow hv hi fun u => ?_
    rw [← hf]
    simp [go_sem, get_alloc, n_alloc, get_set, n_set, get_kill, n_kill, writeAt, a11, a21, a31, a41, a51, a61, a71, isNil, Fn.cells, spF, hbg]
    rw [← hg1]
    simp [go_sem, get_alloc, n_alloc, get_set, n_set, get_kill, n_kill, writeAt, a11, a21, a31, a41, a51, a61, a71, isNil, gF, eT, eO, evParts, hfill, hfill2, hall, h1, h2]
    rw [eA]
    simp [go_sem, get_alloc, n_alloc, get_set, n_set, get_kill, n_kill, writeAt, a11, a21, a31, a41, a51, a61, a71, hw]
    have hrow : ((rows ++ [(la, ta, codeN f)]).flatMap cdC) = rows.flatMap cdC ++ [la, ta, .int .i64 f.args] := by simp [List.flatMap_append, cdC, codeN]
    refine codes_loop hto hl32 hfa Q k (i + 1) g2 oa' (rows ++ [(la, ta, codeN f)]) (by omega) (by omega) hv2 (by rw [hrow]; exact o2) (by simp; omega) (fun j x hx => ?_) hq
    by_cases hj : j < rows.length
    · rw [List.getElem?_append_left hj] at hx
      exact hR j x hx
    · have hj2 : j = i := by
        have := (List.getElem?_eq_some_iff.mp hx).1
        simp at this; omega
      subst hj2
      rw [List.getElem?_append_right (by omega), hr, Nat.sub_self] at hx
      cases hx
      refine ⟨f, hfi, rfl, ⟨hla, ?_⟩, by show (gTok f.code).1.length ≤ _; omega, ?_, ?_⟩
      · show FzV 1 ta (codeN f).to.length ((codeN f).to.flatMap i64c); rw [hcto]; exact hta
      · show (codeN f).to.length ≤ _; rw [hcto]; omega
      · show ∀ x ∈ (codeN f).to, x ≤ _; rw [hcto]; exact hto2
theorem engine_codes_ok (hv : FV g fa fs) (hto : ∀ f ∈ fs, toOk f) (hl32 : fs.length ≤ 1000) :
    ∃ ca rows, call tb prim n_engine_codes [.agg [.int .i64 p, .int .i64 m, fa]] bar g = some (ca, g) ∧ FzV 3 ca rows.length (rows.flatMap cdC) ∧ rows.length = fs.length ∧ RowsV fs rows := by
  suffices hw : ∃ r, callF (call tb prim) f_engine_codes [.agg [.int .i64 p, .int .i64 m, fa]] bar g = some (r, g) ∧ ∃ rows, FzV 3 r rows.length (rows.flatMap cdC) ∧ rows.length = fs.length ∧ RowsV fs rows by
    obtain ⟨r, h1, rows, h2, h3⟩ := hw; exact ⟨r, rows, call_of tb_engine_codes h1, h2, h3⟩
  refine callF_pureK rfl rfl fun K hK => ?_
  have hv1 : FV (g.alloc (.cells [.int .i64 p, .int .i64 m, fa] 0)) fa fs := hv.keep (by simp [n_alloc]) (fun j hj => by rw [get_alloc, if_neg (by have := hv.at_lt' hj; omega)])
  simp [f_engine_codes, env0, go_sem, get_alloc, n_alloc, get_set, n_set, get_kill, n_kill, writeAt, a11, a21, a31, a41, a51, a61, a71, isNil, hv.one, hv.len, get_alloc]
  refine codes_loop (bar := g.n) hto hl32 (fun j hj => hv.at_lt' hj) _ fs.length 0 _ .nilsl [] (by omega) (by simp [n_alloc]) hv1 OS.nil rfl (fun j x hx => by simp at hx) (fun e g' oa' rows' h1 h2 h3 h4 => ?_)
  obtain ⟨a', h', h5, h6⟩ := h1.freeze' (h3.all _ (fun _ => rfl) (fun _ _ _ _ v => v.stay)) (h3.all _ (fun _ => rfl) (fun _ _ _ _ v => v.free)) (by omega) 2
  simp [go_sem, endX, resultsA, resultA, freezeL, AV.free.freeL, packA, h4, h5, h6.free, freezeV, AV.free]
  exact hK _ ⟨rows', by rw [h2]; exact h6, h2, h3⟩
end
end Go.Ev
set_option linter.unusedSectionVars false
namespace Go.Ev
open Go
theorem memS_len {sg : Int} {st st' : List Int} {m m' : Mem} {tr tr' : Int} (h : memS sg st m tr = some (st', m', tr')) : st'.length ≤ st.length + 1 := by
  unfold memS at h
  repeat' split at h
  all_goals first
    | cases h; simp; done
    | cases h; simp; omega
    | cases h
theorem plainF_len {t : Tok} {st st' : List Int} {r r' : Row} {tr tr' : Int} (h : plainF t st r tr = some (st', r', tr')) : st'.length ≤ st.length + 1 ∧ r'.asks.length ≤ r.asks.length + 1 := by
  have hask : ∀ nm n, (askR r nm n).1.asks.length ≤ r.asks.length + 1 := fun nm n => by
    unfold askR; split <;> simp
  unfold plainF at h
  repeat' split at h
  all_goals first
    | cases h; exact ⟨by first | omega | (simp only [List.length_cons]; omega), by first | exact hask _ _ | omega⟩
    | cases h
theorem endsM_sg : ∀ (r : List Fm) (f : Fm) {fr : List Fm}, endsM f r = some (fr, none) → FrSg (f :: r) → FrSg fr ∧ totS fr ≤ totS (f :: r) ∧ fr.length ≤ (f :: r).length ∧ ∃ f' r', fr = f' :: r' ∧ f'.at' < f'.c.l.length
  | r, f, fr, h, hg => by
    unfold endsM at h
    split at h
    · rename_i hlt
      cases h; exact ⟨hg, Nat.le_refl _, Nat.le_refl _, f, r, rfl, hlt⟩
    · split at h
      · cases h
      · rename_i v st hst
        split at h
        · cases h
        · rename_i g2 r2
          obtain ⟨h1, h2, h3, h4⟩ := endsM_sg r2 { g2 with st := v :: g2.st } h (fun x hx k hk => by
            rcases List.mem_cons.mp hx with rfl | hx
            · exact hg g2 (by simp) k hk
            · exact hg x (by simp [hx]) k hk)
          refine ⟨h1, ?_, ?_, h4⟩
          · simp only [totS, hst, List.length_cons] at h2 ⊢; omega
          · simp only [List.length_cons] at h3 ⊢; omega
theorem stepM_keep {fs : List Fn} {cs : List Code'} {s s' : Mc} (hc : ∀ c ∈ cs, ∀ k ∈ c.l, sigOk k.sign = true) (hg : FrSg s.fr) (h : stepM fs cs s = some s') (hl : s.fr.length ≤ 32) :
    FrSg s'.fr ∧ totS s'.fr ≤ totS s.fr + 1 ∧ s'.r.asks.length ≤ s.r.asks.length + 1 ∧ s'.fr.length ≤ 32 := by
  cases hfr : s.fr with
  | nil => unfold stepM at h; rw [hfr] at h; cases h
  | cons f r =>
    have one : ∀ f' : Fm, f'.c = f.c → f'.st.length ≤ f.st.length + 1 → FrSg (f' :: r) ∧ totS (f' :: r) ≤ totS (f :: r) + 1 ∧ (f' :: r).length ≤ 32 := fun f' h1 h2 => by
      refine ⟨fun x hx k hk => ?_, by simp only [totS]; omega, by rw [hfr] at hl; exact hl⟩
      rw [hfr] at hg
      rcases List.mem_cons.mp hx with rfl | hx
      · rw [h1] at hk; exact hg f (by simp) k hk
      · exact hg x (by simp [hx]) k hk
    have fin : ∀ f' : Fm, s'.fr = f' :: r → f'.c = f.c → f'.st.length ≤ f.st.length + 1 → s'.r.asks.length ≤ s.r.asks.length + 1 → FrSg s'.fr ∧ totS s'.fr ≤ totS (f :: r) + 1 ∧ s'.r.asks.length ≤ s.r.asks.length + 1 ∧ s'.fr.length ≤ 32 := fun f' h3 h1 h2 h4 => by
      rw [h3]; obtain ⟨a, b, c⟩ := one f' h1 h2; exact ⟨a, b, h4, c⟩
    unfold stepM at h
    rw [hfr] at h
    simp only at h
    split at h
    · cases h
    · split at h
      · cases h; exact fin _ rfl rfl (by simp) (by simp)
      · split at h
        · split at h
          · cases h
          · cases h; exact fin _ rfl rfl (by simp) (by simp)
        · split at h
          · split at h
            · cases h
            · rename_i hst
              cases h; exact fin _ rfl rfl (by simp [hst]; omega) (by simp)
          · split at h
            · split at h
              · cases h
              · rename_i c hcc
                split at h
                · cases h
                · split at h
                  · cases h; exact fin _ rfl rfl (by simp; omega) (by simp)
                  · rename_i hd
                    cases h
                    obtain ⟨a1, a2, a3⟩ := one { f with at' := f.at' + 1, st := f.st.drop c.args.toNat } rfl (by simp; omega)
                    refine ⟨fun x hx k hk => ?_, ?_, by simp, ?_⟩
                    · rcases List.mem_cons.mp hx with rfl | hx
                      · exact hc c (List.mem_of_getElem? hcc) k hk
                      · exact a1 x hx k hk
                    · show 0 + totS _ ≤ _
                      omega
                    · simp at hd ⊢; omega
            · split at h
              · split at h
                · split at h
                  · cases h
                  · rename_i hst
                    split at h
                    · cases h; exact fin _ rfl rfl (by simp [hst]; omega) (by simp)
                    · split at h
                      · cases h
                      · split at h
                        · cases h
                        · cases h; exact fin _ rfl rfl (by simp [hst]; omega) (by simp)
                · split at h
                  · cases h
                  · split at h
                    · cases h
                    · cases h; exact fin _ rfl rfl (by simp) (by simp)
              · split at h
                · split at h
                  · cases h
                  · rename_i hm
                    cases h; exact fin _ rfl rfl (memS_len hm) (by simp)
                · split at h
                  · cases h
                  · rename_i hm
                    cases h; exact fin _ rfl rfl (plainF_len hm).1 (plainF_len hm).2
section
variable {bar b : Nat} {g : H} {own : Nat → Nat} {C : Cx}
theorem XO.cell7 {tr val : Int} {ids : List Nat} (v : XO g b own C tr val ids) : ∃ cs, g.get C.X = some (.cells cs 0) ∧ cs[7]? = some (.int .i64 tr) := by
  obtain ⟨⟨fra, h, _⟩, _⟩ := v; exact ⟨_, h, rfl⟩
/-- What is left behind a run. -/
def RunV (g : H) (b : Nat) (own : Nat → Nat) (C : Cx) (s : Mc) (v : Int) : Prop := (∃ ids, XO g b own C s.trap v ids) ∧ MemO g b own C.M s.m ∧ RowO g b own C.R s.r ∧ b ≤ g.n
theorem run_loop (hb : bar ≤ b) (asked : Int) (rc : Nat) (hcs : ∀ x ∈ C.rows, ∀ k ∈ x.2.2.l, sigOk k.sign = true) (Q : Ex → Env → H → Prop) : ∀ (n : Nat) (g : H) (own : Nat → Nat) (s : Mc) (ids : List Nat) {s' : Mc} {v : Int} {n' : Nat}, XV g b own C s 0 ids → FrSg s.fr → totS s.fr + n < 2999999 → s.r.asks.length + n < 1999999 → s.fr.length ≤ 32 → (n : Int) ≤ 1048576 →
    runM C.fs (C.rows.map (·.2.2)) n s = some (s', v, n') →
    (∀ e g' own', RunV g' b own' C s' v → Kp own tA g g' → Agr g.n own own' → e.get 2 = some (.ptr C.R 0) → e.get 4 = some (.int .i64 n') → e.get 12 = some (.ptr rc 0) → e.get 16 = some (.int .i64 asked) → e.get 17 = some (.ptr C.X 0) → Q (.exit 0) e g') →
    wpL (call tb prim) bar [2, 4, 12, 16, 17] l0_engine_Run [(2, .ptr C.R 0), (4, .int .i64 n), (12, .ptr rc 0), (16, .int .i64 asked), (17, .ptr C.X 0)] g Q := by
  intro n
  induction n with
  | zero =>
    intro g own s ids s' v n' xv hg hT hA hL hn hr hq
    refine M_loop l0_engine_Run.eq_1 ?_
    obtain ⟨cs, c1, c7⟩ := xv.x.cell7
    by_cases ht : s.trap = 0
    · have hd : (s.trap == 0) = true := by simpa using ht
      have xv0 := xv
      cases hfr : s.fr with
      | nil => unfold runM at hr; rw [if_neg (by simpa using ht), hfr] at hr; cases hr
      | cons f r =>
        have hv : FrsV g b own (f :: r) ids := hfr ▸ xv.fr
        cases ids with
        | nil => exact hv.elim
        | cons i l =>
          cases he : endsM f r with
          | none => unfold runM at hr; rw [if_neg (by simpa using ht), hfr] at hr; simp only [he] at hr; cases hr
          | some out =>
            obtain ⟨g1, own1, e1, k1, a1, hE⟩ := ends_ok (bar := bar) hb xv.bn xv.x hv (by rw [hfr] at hT; omega) he
            have m1 := xv.m.mono k1 a1 (by unfold tE; omega)
            have r1 := xv.r.mono k1 a1 (by unfold tE; omega)
            have hbn1 : b ≤ g1.n := by have := k1.1; have := xv.bn; omega
            unfold runM at hr
            rw [if_neg (by simpa using ht), hfr] at hr
            simp only [he] at hr
            match out, hr, e1, hE with
            | (fr, some v2), hr, e1, hE =>
              simp only at hr
              cases hr
              simp only [Option.isNone] at e1
              simp [go_sem, get_alloc, n_alloc, get_set, n_set, get_kill, n_kill, writeAt, a11, a21, a31, a41, a51, a61, a71, isNil, c1, c7, hd, e1]
              refine hq _ g1 own1 ⟨⟨[], ?_⟩, m1, r1, hbn1⟩ (k1.le fun k h => tE_A h) a1 rfl rfl rfl rfl rfl
              exact hE.2
            | (fr, none), hr, e1, hE =>
              simp only at hr
              simp only [Option.isNone] at e1
              obtain ⟨j, ids', x1, f1⟩ := hE
              cases hr
              have x1' := x1
              obtain ⟨⟨fra, q1, q2, q3⟩, qo, qb, ql, qs⟩ := x1'
              have hsp : splice (xC C fra s.trap 0) 7 [.int .i64 1] = xC C fra 1 0 := rfl
              have hle : 7 + 1 ≤ (xC C fra s.trap 0).length := by simp [xC]
              obtain ⟨xc, hxc⟩ : ∃ xc, xc = xC C fra s.trap 0 := ⟨_, rfl⟩
              rw [← hxc] at q1 hsp hle
              have hbx : bar ≤ C.X := Nat.le_trans hb qb
              obtain ⟨g2, hg2⟩ : ∃ g2, g2 = g1.set C.X (.cells (xC C fra 1 0) 0) := ⟨_, rfl⟩
              have k2 : Kp own1 (fun k => k = 1) g1 g2 := ⟨by rw [hg2, n_set]; exact Nat.le_refl _, fun j hj hs => by rw [hg2, get_set_ne (fun q => hs (by rw [q]; exact qo))]⟩
              simp [go_sem, get_alloc, n_alloc, get_set, n_set, get_kill, n_kill, writeAt, a11, a21, a31, a41, a51, a61, a71, isNil, c1, c7, hd, e1, q1, hsp, hle, hbx]
              rw [← hg2]
              refine hq _ g2 own1 ⟨⟨j :: ids', ⟨⟨fra, by rw [hg2, get_set, if_pos rfl], q2.mono k2.1 (fun j hj => by rw [hg2, get_set_ne (fun q => by have := q3 j hj; rw [q, qo] at this; omega)]), q3⟩, qo, qb, by rw [hg2, n_set]; exact ql, qs⟩⟩, m1.mono k2 Agr.refl (by omega), r1.mono k2 Agr.refl (by omega), by have := k2.1; omega⟩ ((k1.le fun k h => tE_A h).trans a1 (k2.le fun k h => by unfold tA; omega)) a1 rfl rfl rfl rfl rfl
    · have hd : (s.trap == 0) = false := by simpa using ht
      unfold runM at hr
      rw [if_pos ht] at hr
      cases hr
      simp [go_sem, get_alloc, n_alloc, get_set, n_set, get_kill, n_kill, writeAt, a11, a21, a31, a41, a51, a61, a71, isNil, c1, c7, hd]
      exact hq _ g own ⟨⟨ids, xv.x⟩, xv.m, xv.r, xv.bn⟩ Kp.refl Agr.refl rfl rfl rfl rfl rfl
  | succ n ih =>
    intro g own s ids s' v n' xv hg hT hA hL hn hr hq
    refine M_loop l0_engine_Run.eq_1 ?_
    obtain ⟨cs, c1, c7⟩ := xv.x.cell7
    by_cases ht : s.trap = 0
    · have hd : (s.trap == 0) = true := by simpa using ht
      have xv0 := xv
      cases hfr : s.fr with
      | nil => unfold runM at hr; rw [if_neg (by simpa using ht), hfr] at hr; cases hr
      | cons f r =>
        have hv : FrsV g b own (f :: r) ids := hfr ▸ xv.fr
        cases ids with
        | nil => exact hv.elim
        | cons i l =>
          cases he : endsM f r with
          | none => unfold runM at hr; rw [if_neg (by simpa using ht), hfr] at hr; simp only [he] at hr; cases hr
          | some out =>
            obtain ⟨g1, own1, e1, k1, a1, hE⟩ := ends_ok (bar := bar) hb xv.bn xv.x hv (by rw [hfr] at hT; omega) he
            have m1 := xv.m.mono k1 a1 (by unfold tE; omega)
            have r1 := xv.r.mono k1 a1 (by unfold tE; omega)
            have hbn1 : b ≤ g1.n := by have := k1.1; have := xv.bn; omega
            unfold runM at hr
            rw [if_neg (by simpa using ht), hfr] at hr
            simp only [he] at hr
            match out, hr, e1, hE with
            | (fr, some v2), hr, e1, hE =>
              simp only at hr
              cases hr
              simp only [Option.isNone] at e1
              simp [go_sem, get_alloc, n_alloc, get_set, n_set, get_kill, n_kill, writeAt, a11, a21, a31, a41, a51, a61, a71, isNil, c1, c7, hd, e1]
              refine hq _ g1 own1 ⟨⟨[], ?_⟩, m1, r1, hbn1⟩ (k1.le fun k h => tE_A h) a1 rfl rfl rfl rfl rfl
              exact hE.2
            | (fr, none), hr, e1, hE =>
              simp only at hr
              simp only [Option.isNone] at e1
              obtain ⟨j, ids', x1, f1⟩ := hE
              obtain ⟨hg1, ht1, hl1, f', r', rfl, hlt⟩ := endsM_sg r f he (by rw [← hfr]; exact hg)
              have cx1 := xv.cx.mono k1 a1 (by unfold tE; omega)
              have xv1 : XV g1 b own1 C { s with fr := f' :: r' } 0 (j :: ids') := ⟨x1, cx1, f1, m1, r1, hbn1⟩
              split at hr
              · cases hr
              · rename_i s2 hs2
                have hT' : totS (f' :: r') + n < 2999998 := by rw [hfr] at hT; omega
                obtain ⟨hg2, ht2, ha2, hl2⟩ := stepM_keep (s := { s with fr := f' :: r' }) (fun c hc k hk => by
                  obtain ⟨x, hx, rfl⟩ := List.mem_map.mp hc
                  exact hcs x hx k hk) hg1 hs2 (by rw [hfr] at hL; simp only [List.length_cons] at hL hl1 ⊢; omega)
                have hil : ids'.length = r'.length := f1.2.len
                obtain ⟨g2, own2, ids2, e2, xv2, k2, a2⟩ := step_ok (bar := bar) xv1 rfl hb hs2 hg1 (by show totS (f' :: r') < _; omega) (by show s.r.asks.length < _; omega) (by rw [hil]; rw [hfr] at hL; simp only [List.length_cons] at hL hl1; omega)
                obtain ⟨sid, all, full, tX, tS, tt, _⟩ := x1.top
                obtain ⟨xc, hxc⟩ : ∃ xc, xc = xC C (.sl sid 0 1 (ids'.length + 1) full) s.trap 0 := ⟨_, rfl⟩
                have h6 : xc[6]? = some (.sl sid 0 1 (ids'.length + 1) full) := by rw [hxc]; rfl
                rw [← hxc] at tX
                have hwi : IntKind.i64.wrap (ids'.length : Int) = (ids'.length : Nat) := w64 (by omega) (by rw [hil]; rw [hfr] at hL; simp only [List.length_cons] at hL hl1; omega)
                have hltI : (ids'.length : Int) < (ids'.length : Int) + 1 := by omega
                have hz : (((n : Int) + 1) == 0) = false := by simp; omega
                have hwn : IntKind.i64.wrap (n : Int) = (n : Nat) := w64 (by omega) (by omega)
                simp [go_sem, get_alloc, n_alloc, get_set, n_set, get_kill, n_kill, writeAt, a11, a21, a31, a41, a51, a61, a71, isNil, c1, c7, hd, e1, hz, hwn, tX, h6, hwi, hltI, indexIn, tS, tt, e2]
                have kk : Kp own tA g g2 := (k1.le fun k h => tE_A h).trans a1 k2
                have aa : Agr g.n own own2 := Agr.trans a1 a2 k1.1
                exact ih g2 own2 s2 ids2 xv2 hg2 (by have : totS s2.fr ≤ totS (f' :: r') + 1 := ht2; omega) (by have : s2.r.asks.length ≤ s.r.asks.length + 1 := ha2; omega) hl2 (by omega) hr (fun e g' own' h1 h2 h3 => hq e g' own' h1 (kk.trans aa h2) (Agr.trans aa h3 kk.1))
    · have hd : (s.trap == 0) = false := by simpa using ht
      unfold runM at hr
      rw [if_pos ht] at hr
      cases hr
      simp [go_sem, get_alloc, n_alloc, get_set, n_set, get_kill, n_kill, writeAt, a11, a21, a31, a41, a51, a61, a71, isNil, c1, c7, hd]
      exact hq _ g own ⟨⟨ids, xv.x⟩, xv.m, xv.r, xv.bn⟩ Kp.refl Agr.refl rfl rfl rfl rfl rfl
end
end Go.Ev
