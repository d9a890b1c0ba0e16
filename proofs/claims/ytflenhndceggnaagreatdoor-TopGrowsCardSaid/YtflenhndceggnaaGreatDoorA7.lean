/- Part 7 of the proof that a law of this seat (the one that GOCLAIM.json names) returns true for every argument; nothing is assumed. -/
import Derived.Test.YtflenhndceggnaaGreatDoorA6
set_option linter.unusedSimpArgs false
set_option linter.unusedVariables false
set_option linter.all false
set_option linter.unusedSectionVars false
namespace Go.Ev
open Go
section
variable {bar : Nat} {g : H}
theorem mask_lt (a : Int) (n : Nat) (hn : 0 < n) : ∃ k : Nat, a % (n : Int) = k ∧ k < n := by
  have h1 : 0 ≤ a % (n : Int) := Int.emod_nonneg _ (by omega)
  have h2 : a % (n : Int) < n := Int.emod_lt_of_pos _ (by omega)
  exact ⟨(a % (n : Int)).toNat, by omega, by omega⟩
theorem m1023 (a : Int) : IntKind.i64.wrap ((BitVec.ofInt 64 a &&& 1023#64).toNat : Nat) = a % 1024 := andI_mask a 10 (by omega)
theorem m63 (a : Int) : IntKind.i64.wrap ((BitVec.ofInt 64 a &&& 63#64).toNat : Nat) = a % 64 := andI_mask a 6 (by omega)
theorem m127 (a : Int) : IntKind.i64.wrap ((BitVec.ofInt 64 a &&& 127#64).toNat : Nat) = a % 128 := andI_mask a 7 (by omega)
theorem m511 (a : Int) : IntKind.i64.wrap ((BitVec.ofInt 64 a &&& 511#64).toNat : Nat) = a % 512 := andI_mask a 9 (by omega)
theorem m255 (a : Int) : IntKind.i64.wrap ((BitVec.ofInt 64 a &&& 255#64).toNat : Nat) = a % 256 := andI_mask a 8 (by omega)
theorem m1023' (a : Int) : IntKind.i64.wrap ((BitVec.ofInt 64 a &&& 1023#64).toNat : Nat) = a % 1024 := andI_mask a 10 (by omega)
theorem m65535 (a : Int) : IntKind.i64.wrap ((BitVec.ofInt 64 a &&& 65535#64).toNat : Nat) = a % 65536 := andI_mask a 16 (by omega)
theorem TopSums_ok {a : Int} : call tb prim n_engramtop_TopSums [.int .i64 a] bar g = some (.bool true, g) := by
  refine call_of tb_engramtop_TopSums (callF_pureW rfl rfl (M_in ?_))
  have eA := fun g' => top_awake_ok (bar := g.n) (g := g')
  obtain ⟨k, hk, hk2⟩ := mask_lt a 1024 (by omega)
  have hm := m1023 a
  rw [show a % 1024 = (k : Int) from hk] at hm
  have eS := says_ends (bar := g.n) (g := g) sums_text (sums_ends (k := k) (by omega) 0)
  have ht : ((tri k : Nat) : Int) = ((k : Int) * ((k : Int) + 1)).tdiv 2 := by
    unfold tri
    rw [Int.natCast_ediv, Int.tdiv_eq_ediv_of_nonneg (Int.mul_nonneg (by omega) (by omega))]
    push_cast; rfl
  have hb : (k : Int) * ((k : Int) + 1) ≤ 1023 * 1024 := Int.mul_le_mul (by omega) (by omega) (by omega) (by omega)
  have hb0 : 0 ≤ (k : Int) * ((k : Int) + 1) := Int.mul_nonneg (by omega) (by omega)
  have w1 : IntKind.i64.wrap ((k : Int) + 1) = (k : Int) + 1 := w64 (by omega) (by omega)
  have w2 : IntKind.i64.wrap ((k : Int) * ((k : Int) + 1)) = (k : Int) * ((k : Int) + 1) := w64 (by omega) (by omega)
  have w3 : IntKind.i64.wrap (((k : Int) * ((k : Int) + 1)).tdiv 2) = ((k : Int) * ((k : Int) + 1)).tdiv 2 := by
    rw [← ht]; have := tri_le (a := k) (b := 1023) (by omega); have h2 : tri 1023 = 523776 := rfl; exact w64 (by omega) (by omega)
  rw [ht] at eS
  simp [f_engramtop_TopSums, env0, go_sem, get_alloc, n_alloc, get_set, n_set, get_kill, n_kill, writeAt, a11, a21, a31, a41, a51, a61, a71, isNil]
  erw [hm]
  simp [go_sem, get_alloc, n_alloc, get_set, n_set, get_kill, n_kill, writeAt, a11, a21, a31, a41, a51, a61, a71, isNil, eS, w1, w2, w3, eA]
  simp [go_sem, endP, endI, resultsA, resultA, freezeL, freezeV, AV.free.freeL, AV.free, packA, dropS]
end
end Go.Ev
set_option linter.unusedSectionVars false
namespace Go.Ev
open Go
section
variable {bar : Nat} {g : H}
theorem top_ends_trap {code : ByteArray} {c : Code'} {a b t : Int} (ht : TextOk code c) (hr : Traps [⟨102, 2, code⟩] [c] 100000 (M1 c (zeroM 1 8) ⟨[], []⟩ 0 (lc a b 0 0 0 0 0 0) []) t) :
    call tb prim n_engramtop_ends [.str code, .int .i64 a, .int .i64 b] bar g = some (.tup [.int .i64 0, .int .i64 t, .bool true], g) := by
  obtain ⟨s', n, h, rfl⟩ := hr
  exact top_ends_ok ht h
theorem prim_text : TextOk ⟨#[50, 66, 49, 67, 91, 98, 98, 42, 97, 60, 33, 63, 126, 59, 97, 98, 37, 33, 63, 48, 67, 59, 98, 32, 49, 43, 66, 93, 98, 98, 42, 97, 61, 63, 48, 58, 99, 59]⟩ primC := ⟨by kernel_rfl, by kernel_rfl, rfl, by kernel_rfl, rfl, rfl⟩
theorem prim_l {a : Int} (ha : 0 ≤ a ∧ a ≤ 513) {j : Nat} (hj : j ≤ 22) (hlt : a < ((j : Int) + 2) * (j + 2)) (hle : ∀ i : Nat, i < j → ((i : Int) + 2) * (i + 2) ≤ a) {v : Int} (Q : Ex → Env → H → Prop) (hq : ∀ e, e.get 4 = some (.int .i64 v) → e.get 5 = some (.bool true) → e.get 6 = some (.int .i64 (primW a j)) → Q (.exit 0) e g) : ∀ (n i : Nat), j = i + n →
    wpL (call tb prim) bar [3, 4, 5, 6, 7] l0_engramtop_TopPrimes [(3, .int .i64 a), (4, .int .i64 v), (5, .bool true), (6, .int .i64 (primW a i)), (7, .int .i64 ((i : Int) + 2))] g Q
  | 0, i, h => by
    have hi : i = j := by omega
    subst hi
    have hb : ((i : Int) + 2) * (i + 2) ≤ 24 * 24 := Int.mul_le_mul (by omega) (by omega) (by omega) (by omega)
    have hb0 : 0 ≤ ((i : Int) + 2) * (i + 2) := Int.mul_nonneg (by omega) (by omega)
    have hw : IntKind.i64.wrap (((i : Int) + 2) * ((i : Int) + 2)) = ((i : Int) + 2) * ((i : Int) + 2) := w64 (by omega) (by omega)
    have hd : decide (((i : Int) + 2) * ((i : Int) + 2) ≤ a) = false := by simp; omega
    refine M_loop l0_engramtop_TopPrimes.eq_1 ?_
    simp [go_sem, hw, hd]
    exact hq _ rfl rfl rfl
  | n + 1, i, h => by
    have hb : ((i : Int) + 2) * (i + 2) ≤ 24 * 24 := Int.mul_le_mul (by omega) (by omega) (by omega) (by omega)
    have hb0 : 0 ≤ ((i : Int) + 2) * (i + 2) := Int.mul_nonneg (by omega) (by omega)
    have hw : IntKind.i64.wrap (((i : Int) + 2) * ((i : Int) + 2)) = ((i : Int) + 2) * ((i : Int) + 2) := w64 (by omega) (by omega)
    have hd : decide (((i : Int) + 2) * ((i : Int) + 2) ≤ a) = true := by have := hle i (by omega); simp; omega
    have ht : a.tmod ((i : Int) + 2) = a % ((i : Int) + 2) := Int.tmod_eq_emod_of_nonneg (by omega)
    have hz : ¬ (i : Int) + 2 = 0 := by omega
    have hw2 : IntKind.i64.wrap ((i : Int) + 2 + 1) = ((i + 1 : Nat) : Int) + 2 := by rw [w64 (by omega) (by omega)]; omega
    refine M_loop l0_engramtop_TopPrimes.eq_1 ?_
    by_cases hm : a % ((i : Int) + 2) = 0
    · have hp : primW a (i + 1) = 0 := by rw [primW, if_pos hm]
      have hc : (a % ((i : Int) + 2) == 0) = true := by simpa using hm
      have := prim_l ha hj hlt hle Q hq n (i + 1) (by omega)
      rw [hp] at this
      simp [go_sem, hw, hd, hz, ht, hc, hw2]
      exact this
    · have hp : primW a (i + 1) = primW a i := by rw [primW, if_neg hm]
      have hc : (a % ((i : Int) + 2) == 0) = false := by simpa using hm
      have := prim_l ha hj hlt hle Q hq n (i + 1) (by omega)
      rw [hp] at this
      simp [go_sem, hw, hd, hz, ht, hc, hw2]
      exact this
theorem TopPrimes_ok {a : Int} : call tb prim n_engramtop_TopPrimes [.int .i64 a] bar g = some (.bool true, g) := by
  refine call_of tb_engramtop_TopPrimes (callF_pureW rfl rfl (M_in ?_))
  have eA := fun g' => top_awake_ok (bar := g.n) (g := g')
  obtain ⟨k, hk, hk2⟩ := mask_lt a 512 (by omega)
  have hm := m511 a
  rw [show a % 512 = (k : Int) from hk] at hm
  have hw : IntKind.i64.wrap (2 + (k : Int)) = 2 + (k : Int) := w64 (by omega) (by omega)
  obtain ⟨j, hj, h1, h2, hE⟩ := prim_ends (fs := [⟨102, 2, _⟩]) (cs := [primC]) (m := zeroM 1 8) (r := ⟨[], []⟩) (a := 2 + (k : Int)) 0 (by omega)
  have eS := says_ends (bar := g.n) (g := g) prim_text hE
  simp [f_engramtop_TopPrimes, env0, go_sem, get_alloc, n_alloc, get_set, n_set, get_kill, n_kill, writeAt, a11, a21, a31, a41, a51, a61, a71, isNil]
  erw [hm]
  simp [go_sem, get_alloc, n_alloc, get_set, n_set, get_kill, n_kill, writeAt, a11, a21, a31, a41, a51, a61, a71, isNil, hw, eS]
  refine prim_l (a := 2 + (k : Int)) (by omega) hj h1 h2 _ (fun e h4 h5 h6 => ?_) j 0 (by omega)
  simp [go_sem, h4, h5, h6, eA]
  simp [go_sem, endP, endI, resultsA, resultA, freezeL, freezeV, AV.free.freeL, AV.free, packA, dropS]
theorem swap_text : TextOk ⟨#[48, 97, 36, 56, 98, 36, 48, 64, 67, 48, 32, 56, 64, 36, 56, 99, 36, 56, 64]⟩ swapC := ⟨by kernel_rfl, by kernel_rfl, rfl, by kernel_rfl, rfl, rfl⟩
theorem swa2_text : TextOk ⟨#[57, 97, 36, 49, 50, 194, 169]⟩ swa2C := ⟨by kernel_rfl, by kernel_rfl, rfl, by kernel_rfl, rfl, rfl⟩
theorem swa3_text : TextOk ⟨#[97, 64]⟩ swa3C := ⟨by kernel_rfl, by kernel_rfl, rfl, by kernel_rfl, rfl, rfl⟩
theorem TopSwaps_ok {a b : Int} (ha : -9223372036854775808 ≤ a ∧ a ≤ 9223372036854775807) : call tb prim n_engramtop_TopSwaps [.int .i64 a, .int .i64 b] bar g = some (.bool true, g) := by
  refine call_of tb_engramtop_TopSwaps (callF_pureW rfl rfl (M_in ?_))
  have eA := fun g' => top_awake_ok (bar := g.n) (g := g')
  obtain ⟨k, hk, hk2⟩ := mask_lt a 1024 (by omega)
  have hm := m1023 a
  rw [show a % 1024 = (k : Int) from hk] at hm
  have hw : IntKind.i64.wrap (57 + (k : Int)) = 57 + (k : Int) := w64 (by omega) (by omega)
  have e1 := says_res (bar := g.n) (g := g) swap_text (swap_ends (b := b) ha)
  have e2 := says_res (bar := g.n) (g := g) swa2_text (swa2_ends (a := a) (b := 0))
  have e3 := top_ends_trap (bar := g.n) (g := g) swa3_text (swa3_ends (a := 57 + (k : Int)) (b := 0) (by omega))
  have hm2 : IntKind.i64.wrap ((BitVec.ofInt 64 (a.fdiv 16777216) &&& 255#64).toNat : Nat) = a / 16777216 % 256 := by
    rw [m255, Int.fdiv_eq_ediv_of_nonneg a (by omega : (0 : Int) ≤ 16777216)]
  simp [f_engramtop_TopSwaps, env0, go_sem, get_alloc, n_alloc, get_set, n_set, get_kill, n_kill, writeAt, a11, a21, a31, a41, a51, a61, a71, isNil, e1, e2]
  erw [hm]
  simp [go_sem, get_alloc, n_alloc, get_set, n_set, get_kill, n_kill, writeAt, a11, a21, a31, a41, a51, a61, a71, isNil, hw, e3, shiftA]
  erw [hm2]
  simp [go_sem, get_alloc, n_alloc, get_set, n_set, get_kill, n_kill, writeAt, a11, a21, a31, a41, a51, a61, a71, isNil, eA]
  simp [go_sem, endP, endI, resultsA, resultA, freezeL, freezeV, AV.free.freeL, AV.free, packA, dropS]
theorem gro1_text : TextOk ⟨#[97, 194, 164, 35, 50, 53, 54, 42, 43]⟩ gro1C := ⟨by kernel_rfl, by kernel_rfl, rfl, by kernel_rfl, rfl, rfl⟩
theorem gro2_text : TextOk ⟨#[49, 194, 164, 44, 54, 52, 64]⟩ gro2C := ⟨by kernel_rfl, by kernel_rfl, rfl, by kernel_rfl, rfl, rfl⟩
theorem TopGrows_ok {a : Int} : call tb prim n_engramtop_TopGrows [.int .i64 a] bar g = some (.bool true, g) := by
  refine call_of tb_engramtop_TopGrows (callF_pureW rfl rfl (M_in ?_))
  have eA := fun g' => top_awake_ok (bar := g.n) (g := g')
  obtain ⟨k, hk, hk2⟩ : ∃ k : Nat, k < 12 ∧ (if a.tmod 12 < 0 then -(a.tmod 12) else a.tmod 12) = (k : Int) := by
    have h1 := Int.tmod_lt_of_pos a (show (0 : Int) < 12 by omega)
    have h2 : -12 < a.tmod 12 := by
      have := Int.tmod_lt_of_pos (-a) (show (0 : Int) < 12 by omega)
      rw [Int.neg_tmod] at this; omega
    split
    · exact ⟨(-(a.tmod 12)).toNat, by omega, by omega⟩
    · exact ⟨(a.tmod 12).toNat, by omega, by omega⟩
  have hr := List.all_eq_true.mp (gro1_all [⟨102, 2, ⟨#[97, 194, 164, 35, 50, 53, 54, 42, 43]⟩⟩] [gro1C]) k (List.mem_range.mpr hk)
  simp only [beq_iff_eq] at hr
  have e1 := says_res (bar := g.n) (g := g) gro1_text hr
  have e2 := says_res (bar := g.n) (g := g) gro2_text (gro2_all _ _)
  have hw1 : IntKind.i64.wrap (1 + (k : Int)) = 1 + (k : Int) := w64 (by omega) (by omega)
  have hw2 : IntKind.i64.wrap ((1 + (k : Int)) * 256) = (1 + (k : Int)) * 256 := w64 (by omega) (by omega)
  have hw3 : IntKind.i64.wrap (1 + (1 + (k : Int)) * 256) = 1 + (1 + (k : Int)) * 256 := w64 (by omega) (by omega)
  by_cases h0 : a.tmod 12 < 0
  · rw [if_pos h0] at hk2
    have d0 : decide (a.tmod 12 < 0) = true := by simpa using h0
    have hw0 : IntKind.i64.wrap (-(a.tmod 12)) = (k : Int) := by rw [← hk2]; exact w64 (by omega) (by omega)
    by_cases h7 : 7 < k
    · have d7 : decide ((7 : Int) < (k : Int)) = true := by simp; omega
      rw [if_pos h7] at e1
      simp [f_engramtop_TopGrows, env0, go_sem, get_alloc, n_alloc, get_set, n_set, get_kill, n_kill, writeAt, a11, a21, a31, a41, a51, a61, a71, isNil, d0, hw0, e1, e2, hw1, hw2, hw3, d7, eA]
      simp [go_sem, endP, endI, resultsA, resultA, freezeL, freezeV, AV.free.freeL, AV.free, packA, dropS]
    · have d7 : decide ((7 : Int) < (k : Int)) = false := by simp; omega
      rw [if_neg h7] at e1
      simp [f_engramtop_TopGrows, env0, go_sem, get_alloc, n_alloc, get_set, n_set, get_kill, n_kill, writeAt, a11, a21, a31, a41, a51, a61, a71, isNil, d0, hw0, e1, e2, hw1, hw2, hw3, d7, eA]
      simp [go_sem, endP, endI, resultsA, resultA, freezeL, freezeV, AV.free.freeL, AV.free, packA, dropS]
  · rw [if_neg h0] at hk2
    have d0 : decide (a.tmod 12 < 0) = false := by simpa using h0
    by_cases h7 : 7 < k
    · have d7 : decide ((7 : Int) < (k : Int)) = true := by simp; omega
      rw [if_pos h7] at e1
      rw [hk2] at d0
      simp [f_engramtop_TopGrows, env0, go_sem, get_alloc, n_alloc, get_set, n_set, get_kill, n_kill, writeAt, a11, a21, a31, a41, a51, a61, a71, isNil, hk2, d0, e1, e2, hw1, hw2, hw3, d7, eA]
      simp [go_sem, endP, endI, resultsA, resultA, freezeL, freezeV, AV.free.freeL, AV.free, packA, dropS]
    · have d7 : decide ((7 : Int) < (k : Int)) = false := by simp; omega
      rw [if_neg h7] at e1
      rw [hk2] at d0
      simp [f_engramtop_TopGrows, env0, go_sem, get_alloc, n_alloc, get_set, n_set, get_kill, n_kill, writeAt, a11, a21, a31, a41, a51, a61, a71, isNil, hk2, d0, e1, e2, hw1, hw2, hw3, d7, eA]
      simp [go_sem, endP, endI, resultsA, resultA, freezeL, freezeV, AV.free.freeL, AV.free, packA, dropS]
end
end Go.Ev
