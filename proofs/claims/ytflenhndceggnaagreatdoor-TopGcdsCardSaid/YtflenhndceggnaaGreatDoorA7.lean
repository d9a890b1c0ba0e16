/- Part 7 of 8 of the proof that engramtop.TopGcds returns true for every argument; nothing is assumed. -/
import Derived.Test.YtflenhndceggnaaGreatDoorA6
set_option linter.unusedSimpArgs false
set_option linter.unusedVariables false
set_option linter.all false
set_option linter.unusedSectionVars false
namespace Go.Ev
open Go
section
variable {bar : Nat} {g : H}
theorem fib_text : TextOk ⟨#[48, 67, 49, 68, 91, 97, 33, 63, 126, 59, 99, 100, 43, 100, 67, 68, 97, 32, 49, 45, 65, 93, 99]⟩ fibC := ⟨by kernel_rfl, by kernel_rfl, rfl, by kernel_rfl, rfl, rfl⟩
theorem fib_l {k : Nat} (hk : k ≤ 127) {v : Int} (Q : Ex → Env → H → Prop) (hq : ∀ e, e.get 4 = some (.int .i64 v) → e.get 5 = some (.bool true) → e.get 6 = some (.int .i64 (fibW k).1) → Q (.exit 0) e g) : ∀ (n i : Nat), k = i + n →
    wpL (call tb prim) bar [3, 4, 5, 6, 7, 8] l0_engramtop_TopFibs [(3, .int .i64 k), (4, .int .i64 v), (5, .bool true), (6, .int .i64 (fibW i).1), (7, .int .i64 (fibW i).2), (8, .int .i64 i)] g Q
  | 0, i, h => by
    have hi : i = k := by omega
    subst hi
    refine M_loop l0_engramtop_TopFibs.eq_1 ?_
    simp [go_sem]
    exact hq _ rfl rfl rfl
  | n + 1, i, h => by
    refine M_loop l0_engramtop_TopFibs.eq_1 ?_
    have hlt : (i : Int) < (k : Int) := by omega
    have hw := w64_succ (n := i) (by omega)
    simp [go_sem, hlt, hw]
    exact fib_l hk Q hq n (i + 1) (by omega)
theorem TopFibs_ok {a : Int} : call tb prim n_engramtop_TopFibs [.int .i64 a] bar g = some (.bool true, g) := by
  refine call_of tb_engramtop_TopFibs (callF_pureW rfl rfl (M_in ?_))
  have eA := fun g' => top_awake_ok (bar := g.n) (g := g')
  obtain ⟨k, hk, hk2⟩ := mask_lt a 128 (by omega)
  have hm := m127 a
  rw [show a % 128 = (k : Int) from hk] at hm
  have eS := says_ends (bar := g.n) (g := g) fib_text (fib_ends (k := k) (by omega) 0)
  simp [f_engramtop_TopFibs, env0, go_sem, get_alloc, n_alloc, get_set, n_set, get_kill, n_kill, writeAt, a11, a21, a31, a41, a51, a61, a71, isNil]
  erw [hm]
  simp [go_sem, get_alloc, n_alloc, get_set, n_set, get_kill, n_kill, writeAt, a11, a21, a31, a41, a51, a61, a71, isNil, eS]
  refine fib_l (k := k) (by omega) _ (fun e h4 h5 h6 => ?_) k 0 (by omega)
  simp [go_sem, h4, h5, h6, eA]
  simp [go_sem, endP, endI, resultsA, resultA, freezeL, freezeV, AV.free.freeL, AV.free, packA, dropS]
theorem pow_text : TextOk ⟨#[49, 67, 91, 98, 33, 63, 126, 59, 98, 32, 49, 38, 63, 99, 97, 42, 67, 59, 97, 46, 42, 65, 98, 32, 49, 194, 187, 66, 93, 99]⟩ powsC := ⟨by kernel_rfl, by kernel_rfl, rfl, by kernel_rfl, rfl, rfl⟩
def pwW (a : Int) : Nat → Int
  | 0 => 1
  | n + 1 => wI (pwW a n * a)
theorem pwW_eq (a : Int) : ∀ n, pwW a n = wI (a ^ n)
  | 0 => by simp [pwW, wI_eq]
  | n + 1 => by rw [pwW, pwW_eq a n, wI_mul, Int.pow_succ]
theorem pow_l {a : Int} {k : Nat} (hk : k ≤ 63) {v : Int} (Q : Ex → Env → H → Prop) (hq : ∀ e, e.get 6 = some (.int .i64 v) → e.get 7 = some (.bool true) → e.get 8 = some (.int .i64 (pwW a k)) → Q (.exit 0) e g) : ∀ (n i : Nat), k = i + n →
    wpL (call tb prim) bar [0, 5, 6, 7, 8, 9] l0_engramtop_TopPowers [(0, .int .i64 a), (5, .int .i64 k), (6, .int .i64 v), (7, .bool true), (8, .int .i64 (pwW a i)), (9, .int .i64 i)] g Q
  | 0, i, h => by
    have hi : i = k := by omega
    subst hi
    refine M_loop l0_engramtop_TopPowers.eq_1 ?_
    simp [go_sem]
    exact hq _ rfl rfl rfl
  | n + 1, i, h => by
    refine M_loop l0_engramtop_TopPowers.eq_1 ?_
    have hlt : (i : Int) < (k : Int) := by omega
    have hw := w64_succ (n := i) (by omega)
    simp [go_sem, hlt, hw]
    exact pow_l hk Q hq n (i + 1) (by omega)
theorem TopPowers_ok {a b : Int} : call tb prim n_engramtop_TopPowers [.int .i64 a, .int .i64 b] bar g = some (.bool true, g) := by
  refine call_of tb_engramtop_TopPowers (callF_pureW rfl rfl (M_in ?_))
  have eA := fun g' => top_awake_ok (bar := g.n) (g := g')
  obtain ⟨k, hk, hk2⟩ := mask_lt b 64 (by omega)
  have hm := m63 b
  rw [show b % 64 = (k : Int) from hk] at hm
  have eS := says_ends (bar := g.n) (g := g) pow_text (pow_ends (k := k) (by omega) a)
  rw [← pwW_eq] at eS
  simp [f_engramtop_TopPowers, env0, go_sem, get_alloc, n_alloc, get_set, n_set, get_kill, n_kill, writeAt, a11, a21, a31, a41, a51, a61, a71, isNil]
  erw [hm]
  simp [go_sem, get_alloc, n_alloc, get_set, n_set, get_kill, n_kill, writeAt, a11, a21, a31, a41, a51, a61, a71, isNil, eS]
  refine pow_l (k := k) (by omega) _ (fun e h4 h5 h6 => ?_) k 0 (by omega)
  simp [go_sem, h4, h5, h6, eA]
  simp [go_sem, endP, endI, resultsA, resultA, freezeL, freezeV, AV.free.freeL, AV.free, packA, dropS]
theorem gcd_text : TextOk ⟨#[91, 98, 33, 63, 126, 59, 97, 98, 37, 67, 98, 65, 99, 66, 93, 97]⟩ gcdC := ⟨by kernel_rfl, by kernel_rfl, rfl, by kernel_rfl, rfl, rfl⟩
theorem gcd_l {w : Nat} {v : Int} (Q : Ex → Env → H → Prop) (hq : ∀ e, e.get 5 = some (.int .i64 w) → e.get 7 = some (.int .i64 v) → e.get 8 = some (.bool true) → Q (.exit 0) e g) : ∀ (n x y : Nat), y ≤ n → x ≤ 70000 → y ≤ 70000 → Nat.gcd x y = w →
    wpL (call tb prim) bar [5, 6, 7, 8] l0_engramtop_TopGcds [(5, .int .i64 x), (6, .int .i64 y), (7, .int .i64 v), (8, .bool true)] g Q
  | 0, x, y, h, hx, hy, hg => by
    have hy0 : y = 0 := by omega
    subst hy0
    refine M_loop l0_engramtop_TopGcds.eq_1 ?_
    rw [Nat.gcd_zero_right] at hg
    subst hg
    simp [go_sem]
    exact hq _ rfl rfl rfl
  | n + 1, x, y, h, hx, hy, hg => by
    refine M_loop l0_engramtop_TopGcds.eq_1 ?_
    by_cases hy0 : y = 0
    · subst hy0
      rw [Nat.gcd_zero_right] at hg
      subst hg
      simp [go_sem]
      exact hq _ rfl rfl rfl
    · have hyz : ((y : Int) != 0) = true := by simp; omega
      have hyz2 : ((y : Int) == 0) = false := by simp; omega
      have hyz3 : ¬ (y : Int) = 0 := by omega
      have hlt : x % y < y := Nat.mod_lt _ (by omega)
      have ht : (x : Int).tmod (y : Int) = ((x % y : Nat) : Int) := by
        rw [Int.tmod_eq_emod_of_nonneg (by omega)]; exact (Int.natCast_emod x y).symm
      have hw : IntKind.i64.wrap ((x % y : Nat) : Int) = ((x % y : Nat) : Int) := w64 (by omega) (by omega)
      have hih := gcd_l Q hq n y (x % y) (by omega) (by omega) (by omega) (by rw [← hg, Nat.gcd_comm x y, Nat.gcd_rec y x, Nat.gcd_comm])
      rw [Int.natCast_emod] at hih
      simp [go_sem, hyz, hyz2, hyz3, ht, hw, hy0]
      exact hih
theorem TopGcds_ok {a b : Int} : call tb prim n_engramtop_TopGcds [.int .i64 a, .int .i64 b] bar g = some (.bool true, g) := by
  refine call_of tb_engramtop_TopGcds (callF_pureW rfl rfl (M_in ?_))
  have eA := fun g' => top_awake_ok (bar := g.n) (g := g')
  obtain ⟨x, hx, hx2⟩ := mask_lt a 65536 (by omega)
  obtain ⟨y, hy, hy2⟩ := mask_lt b 65536 (by omega)
  have hm := m65535 a
  rw [show a % 65536 = (x : Int) from hx] at hm
  have hm2 := m65535 b
  rw [show b % 65536 = (y : Int) from hy] at hm2
  have eS := says_ends (bar := g.n) (g := g) gcd_text (gcd_ends (a := x) (b := y) (by omega) (by omega) (by omega))
  have hgc : (((x : Int).gcd (y : Int) : Nat) : Int) = ((Nat.gcd x y : Nat) : Int) := rfl
  rw [hgc] at eS
  simp [f_engramtop_TopGcds, env0, go_sem, get_alloc, n_alloc, get_set, n_set, get_kill, n_kill, writeAt, a11, a21, a31, a41, a51, a61, a71, isNil]
  erw [hm, hm2]
  simp [go_sem, get_alloc, n_alloc, get_set, n_set, get_kill, n_kill, writeAt, a11, a21, a31, a41, a51, a61, a71, isNil, eS]
  refine gcd_l (w := Nat.gcd x y) _ (fun e h4 h5 h6 => ?_) y x y (Nat.le_refl _) (by omega) (by omega) rfl
  simp [go_sem, h4, h5, h6, eA]
  simp [go_sem, endP, endI, resultsA, resultA, freezeL, freezeV, AV.free.freeL, AV.free, packA, dropS]
end
end Go.Ev
