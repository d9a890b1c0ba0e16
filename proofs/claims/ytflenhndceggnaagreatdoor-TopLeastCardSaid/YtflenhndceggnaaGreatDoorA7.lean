/- Part 7 of the proof that a law of this seat (the one that GOCLAIM.json names) returns true for every argument; nothing is assumed. -/
import Derived.Test.YtflenhndceggnaaGreatDoorA6
set_option linter.unusedSimpArgs false
set_option linter.unusedVariables false
set_option linter.all false
set_option linter.unusedSectionVars false
namespace Go.Ev
open Go
section
variable {bar : Nat} {g : H}
theorem least_text : TextOk ⟨#[97, 98, 60, 63, 97, 58, 98, 59]⟩ leastC := ⟨by kernel_rfl, by kernel_rfl, rfl, by kernel_rfl, rfl, rfl⟩
theorem most_text : TextOk ⟨#[97, 98, 60, 63, 98, 58, 97, 59]⟩ mostC := ⟨by kernel_rfl, by kernel_rfl, rfl, by kernel_rfl, rfl, rfl⟩
theorem arith_text : TextOk ⟨#[97, 98, 60, 67, 32, 99, 97, 42, 99, 33, 98, 42, 43]⟩ arithC := ⟨by kernel_rfl, by kernel_rfl, rfl, by kernel_rfl, rfl, rfl⟩
theorem TopLeast_ok {a b : Int} (ha : -9223372036854775808 ≤ a ∧ a ≤ 9223372036854775807) (hb : -9223372036854775808 ≤ b ∧ b ≤ 9223372036854775807) : call tb prim n_engramtop_TopLeast [.int .i64 a, .int .i64 b] bar g = some (.bool true, g) := by
  refine call_of tb_engramtop_TopLeast (callF_pureW rfl rfl (M_in ?_))
  have eA := fun g' => top_awake_ok (bar := g.n) (g := g')
  have e1 := says_ends (bar := g.n) (g := g) least_text (least_ends a b)
  have e2 := says_ends (bar := g.n) (g := g) most_text (most_ends a b)
  have e3 := says_ends (bar := g.n) (g := g) arith_text (arith_ends ha hb)
  obtain ⟨x, hx⟩ : ∃ x, x = (if a < b then a else b) := ⟨_, rfl⟩
  obtain ⟨y, hy⟩ : ∃ y, y = (if a < b then b else a) := ⟨_, rfl⟩
  have hmin2 : (x == if b < a then b else a) = true := by rw [hx]; simp; split <;> split <;> omega
  have hmax2 : (y == if a < b then b else a) = true := by rw [← hy]; simp
  rw [← hx] at e1 e3
  rw [← hy] at e2
  simp [f_engramtop_TopLeast, env0, go_sem, get_alloc, n_alloc, get_set, n_set, get_kill, n_kill, writeAt, a11, a21, a31, a41, a51, a61, a71, isNil, e1, e2, e3, hmin2, hmax2, eA]
  simp [go_sem, endP, endI, resultsA, resultA, freezeL, freezeV, AV.free.freeL, AV.free, packA, dropS]
theorem bit1 (x : Int) : ((BitVec.ofInt 64 x &&& 1#64).toNat : Int) = x % 2 := by
  rw [BitVec.toNat_and, BitVec.toNat_ofInt]
  have : (1#64 : BitVec 64).toNat = 1 := rfl
  rw [this, Nat.and_one_is_mod]
  omega
theorem bitU {a : Int} {i : Nat} (hi : i < 64) : (IntKind.u64.wrap a).fdiv (2 ^ i) % 2 = a / 2 ^ i % 2 := by
  have hp : (0 : Int) < 2 ^ i := Int.pow_pos (by omega)
  rw [Int.fdiv_eq_ediv_of_nonneg _ (by omega)]
  have h1 : ∃ q, a = IntKind.u64.wrap a + 18446744073709551616 * q := by
    rw [IntKind.wrap_u64]; exact ⟨a / 18446744073709551616, by omega⟩
  obtain ⟨q, hq⟩ := h1
  have h2 : (18446744073709551616 : Int) = 2 ^ i * (2 * 2 ^ (63 - i)) := by
    have : (18446744073709551616 : Int) = 2 ^ 64 := by decide
    rw [this, show (64 : Nat) = i + (1 + (63 - i)) by omega, Int.pow_add, Int.pow_add]; rfl
  have h3 : a / 2 ^ i = IntKind.u64.wrap a / 2 ^ i + 2 * (2 ^ (63 - i) * q) := by
    rw [h2] at hq
    conv => lhs; rw [hq, show (2 : Int) ^ i * (2 * 2 ^ (63 - i)) * q = 2 ^ i * (2 * (2 ^ (63 - i) * q)) by rw [Int.mul_assoc, Int.mul_assoc]]
    rw [Int.add_mul_ediv_left _ _ (by omega)]
  rw [h3]; omega
theorem bits_text : TextOk ⟨#[48, 67, 54, 52, 68, 91, 100, 33, 63, 126, 59, 99, 97, 32, 49, 38, 43, 67, 97, 32, 49, 194, 187, 65, 100, 32, 49, 45, 68, 93, 99]⟩ bitsC := ⟨by kernel_rfl, by kernel_rfl, rfl, by kernel_rfl, rfl, rfl⟩
theorem bits_l {a : Int} (ha : -9223372036854775808 ≤ a ∧ a ≤ 9223372036854775807) {v : Int} (Q : Ex → Env → H → Prop) (hq : ∀ e, e.get 3 = some (.int .i64 v) → e.get 4 = some (.bool true) → e.get 5 = some (.int .i64 (bitsW a 64)) → Q (.exit 0) e g) : ∀ (n i : Nat), 64 = i + n →
    wpL (call tb prim) bar [0, 3, 4, 5, 6] l0_engramtop_TopBits [(0, .int .i64 a), (3, .int .i64 v), (4, .bool true), (5, .int .i64 (bitsW a i)), (6, .int .u64 i)] g Q
  | 0, i, h => by
    have hi : i = 64 := by omega
    subst hi
    refine M_loop l0_engramtop_TopBits.eq_1 ?_
    simp [go_sem]
    exact hq _ rfl rfl rfl
  | n + 1, i, h => by
    refine M_loop l0_engramtop_TopBits.eq_1 ?_
    have hlt : (i : Int) < 64 := by omega
    have hr := bitsW_rng a i
    have hx := bit1 ((IntKind.u64.wrap a).fdiv (2 ^ i))
    rw [bitU (by omega)] at hx
    have hm : min i 64 = i := by omega
    have w1 : IntKind.u64.wrap (a / 2 ^ i % 2) = a / 2 ^ i % 2 := wu64 (by omega) (by omega)
    have w2 : IntKind.i64.wrap (a / 2 ^ i % 2) = a / 2 ^ i % 2 := w64 (by omega) (by omega)
    have w3 : IntKind.i64.wrap (bitsW a i + a / 2 ^ i % 2) = bitsW a i + a / 2 ^ i % 2 := w64 (by omega) (by omega)
    have w4 : IntKind.u64.wrap ((i : Int) + 1) = ((i + 1 : Nat) : Int) := by rw [wu64 (by omega) (by omega)]; omega
    have hi0 : ¬ (i : Int) < 0 := by omega
    simp [go_sem, hlt, shiftA, hm, hi0]
    erw [hx]
    simp [go_sem, w1, w2, w3, w4]
    exact bits_l ha Q hq n (i + 1) (by omega)
theorem TopBits_ok {a : Int} (ha : -9223372036854775808 ≤ a ∧ a ≤ 9223372036854775807) : call tb prim n_engramtop_TopBits [.int .i64 a] bar g = some (.bool true, g) := by
  refine call_of tb_engramtop_TopBits (callF_pureW rfl rfl (M_in ?_))
  have eA := fun g' => top_awake_ok (bar := g.n) (g := g')
  have eS := says_ends (bar := g.n) (g := g) bits_text (bits_ends a 0)
  simp [f_engramtop_TopBits, env0, go_sem, get_alloc, n_alloc, get_set, n_set, get_kill, n_kill, writeAt, a11, a21, a31, a41, a51, a61, a71, isNil, eS]
  refine bits_l (v := bitsW a 64) ha _ (fun e h4 h5 h6 => ?_) 64 0 (by omega)
  simp [go_sem, h4, h5, h6, eA]
  simp [go_sem, endP, endI, resultsA, resultA, freezeL, freezeV, AV.free.freeL, AV.free, packA, dropS]
theorem step_text : TextOk ⟨#[48, 67, 91, 97, 32, 49, 61, 63, 126, 59, 97, 32, 49, 38, 63, 97, 32, 51, 42, 49, 43, 65, 58, 97, 32, 50, 47, 65, 59, 99, 32, 49, 43, 67, 93, 99]⟩ stepC := ⟨by kernel_rfl, by kernel_rfl, rfl, by kernel_rfl, rfl, rfl⟩
theorem step_l {v w : Int} (Q : Ex → Env → H → Prop) (hq : ∀ e, e.get 4 = some (.int .i64 v) → e.get 5 = some (.bool true) → e.get 6 = some (.int .i64 w) → Q (.exit 0) e g) : ∀ (n : Nat) (x c : Int), colOk n x = true → 0 ≤ c → c + n ≤ 1000000 → colW n x c = w →
    wpL (call tb prim) bar [4, 5, 6, 7] l0_engramtop_TopSteps [(4, .int .i64 v), (5, .bool true), (6, .int .i64 c), (7, .int .i64 x)] g Q
  | 0, x, c, h, h0, h1, hw => by
    have hx : x = 1 := by simpa [colOk] using h
    subst hx
    rw [colW] at hw
    subst hw
    refine M_loop l0_engramtop_TopSteps.eq_1 ?_
    simp [go_sem]
    exact hq _ rfl rfl rfl
  | n + 1, x, c, h, h0, h1, hw => by
    refine M_loop l0_engramtop_TopSteps.eq_1 ?_
    by_cases hx : x = 1
    · subst hx
      rw [colW, if_pos rfl] at hw
      subst hw
      simp [go_sem]
      exact hq _ rfl rfl rfl
    · rw [colW, if_neg hx] at hw
      have hxn : (x != 1) = true := by simpa using hx
      have hok : 0 < x ∧ x ≤ 1000000 ∧ colOk n (colN x) = true := by
        simp only [colOk, Bool.or_eq_true, Bool.and_eq_true, decide_eq_true_eq, beq_iff_eq] at h
        rcases h with h | h
        · exact absurd h hx
        · exact ⟨h.1.1, h.1.2, h.2⟩
      have ht : x.tmod 2 = x % 2 := Int.tmod_eq_emod_of_nonneg (by omega)
      have hq2 : x.tdiv 2 = x / 2 := Int.tdiv_eq_ediv_of_nonneg (by omega)
      have w1 : IntKind.i64.wrap (x % 2) = x % 2 := w64 (by omega) (by omega)
      have w2 : IntKind.i64.wrap (x / 2) = x / 2 := w64 (by omega) (by omega)
      have w3 : IntKind.i64.wrap (3 * x) = 3 * x := w64 (by omega) (by omega)
      have w4 : IntKind.i64.wrap (3 * x + 1) = 3 * x + 1 := w64 (by omega) (by omega)
      have w5 : IntKind.i64.wrap (c + 1) = c + 1 := w64 (by omega) (by omega)
      by_cases h2 : x % 2 = 1
      · have hc : colN x = 3 * x + 1 := by unfold colN; rw [if_pos h2]
        have hb : (x % 2 == 1) = true := by simpa using h2
        rw [hc] at hw hok
        simp [go_sem, hxn, ht, w1, hb, w3, w4, w5]
        exact step_l Q hq n (3 * x + 1) (c + 1) hok.2.2 (by omega) (by omega) hw
      · have hc : colN x = x / 2 := by unfold colN; rw [if_neg h2]
        have hb : (x % 2 == 1) = false := by simpa using h2
        rw [hc] at hw hok
        simp [go_sem, hxn, ht, w1, hb, hq2, w2, w5]
        exact step_l Q hq n (x / 2) (c + 1) hok.2.2 (by omega) (by omega) hw
theorem TopSteps_ok {a : Int} : call tb prim n_engramtop_TopSteps [.int .i64 a] bar g = some (.bool true, g) := by
  refine call_of tb_engramtop_TopSteps (callF_pureW rfl rfl (M_in ?_))
  have eA := fun g' => top_awake_ok (bar := g.n) (g := g')
  obtain ⟨k, hk, hk2⟩ := mask_lt a 256 (by omega)
  have hm := m255 a
  rw [show a % 256 = (k : Int) from hk] at hm
  have hw : IntKind.i64.wrap (1 + (k : Int)) = (k : Int) + 1 := by rw [w64 (by omega) (by omega)]; omega
  have eS := says_ends (bar := g.n) (g := g) step_text (step_ends (k := k) (by omega) 0)
  simp [f_engramtop_TopSteps, env0, go_sem, get_alloc, n_alloc, get_set, n_set, get_kill, n_kill, writeAt, a11, a21, a31, a41, a51, a61, a71, isNil]
  erw [hm]
  simp [go_sem, get_alloc, n_alloc, get_set, n_set, get_kill, n_kill, writeAt, a11, a21, a31, a41, a51, a61, a71, isNil, hw, eS]
  refine step_l (v := colW 130 ((k : Int) + 1) 0) _ (fun e h4 h5 h6 => ?_) 130 ((k : Int) + 1) 0 (List.all_eq_true.mp col_all k (List.mem_range.mpr hk2)) (by omega) (by omega) rfl
  simp [go_sem, h4, h5, h6, eA]
  simp [go_sem, endP, endI, resultsA, resultA, freezeL, freezeV, AV.free.freeL, AV.free, packA, dropS]
end
end Go.Ev
