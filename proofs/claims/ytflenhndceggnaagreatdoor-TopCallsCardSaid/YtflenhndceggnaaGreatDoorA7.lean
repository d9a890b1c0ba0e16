/- Part 7 of the proof that a law of this seat (the one that GOCLAIM.json names) returns true for every argument; nothing is assumed. -/
import Derived.Test.YtflenhndceggnaaGreatDoorA6
set_option linter.unusedSimpArgs false
set_option linter.unusedVariables false
set_option linter.all false
namespace Go.Ev
open Go
section
variable {fs : List Fn} {cs : List Code'} {m : Mem} {r : Row}
/-- Steps. -/
def stepC : Code' := ⟨[nu 0, tk 67, tk 91, tk 97, nu 1, tk 61, tk 63, tk 126, tk 59, tk 97, nu 1, tk 38, tk 63, tk 97, nu 3, tk 42, nu 1, tk 43, tk 65, tk 58, tk 97, nu 2, tk 47, tk 65, tk 59, tk 99, nu 1, tk 43, tk 67, tk 93, tk 99], [-1, -1, -1, -1, -1, -1, 8, 30, -1, -1, -1, -1, 20, -1, -1, -1, -1, -1, -1, 24, -1, -1, -1, -1, -1, -1, -1, -1, -1, 2, -1], 2⟩
def colN (x : Int) : Int := if x % 2 = 1 then 3 * x + 1 else x / 2
theorem step_body {a b c : Int} (ha : 0 < a) (ha2 : a ≤ 1000000) (h1 : a ≠ 1) (hc : 0 ≤ c ∧ c ≤ 1000000) : Rb fs cs 25 (M1 stepC m r 2 (lc a b c 0 0 0 0 0) []) (M1 stepC m r 2 (lc (colN a) b (c + 1) 0 0 0 0 0) []) := by
  have e1 : Rn fs cs 4 (M1 stepC m r 2 (lc a b c 0 0 0 0 0) []) (M1 stepC m r 6 (lc a b c 0 0 0 0 0) [bitI (a == 1)]) := fun n => by kernel_rfl
  rw [show (a == 1) = false by simpa using h1] at e1
  have e2 : Rn fs cs 5 (M1 stepC m r 6 (lc a b c 0 0 0 0 0) [bitI false]) (M1 stepC m r 12 (lc a b c 0 0 0 0 0) [andI a 1]) := fun n => by kernel_rfl
  rw [show andI a 1 = a % 2 from andI_mask a 1 (by omega)] at e2
  have e3 := goz (fs := fs) (cs := cs) (m := m) (r := r) (c := stepC) (i := 12) (loc := lc a b c 0 0 0 0 0) (st := []) (v := a % 2) (n := 0) (k := 0) (j := 20) rfl rfl
  have e6 : ∀ a : Int, Rn fs cs 6 (M1 stepC m r 24 (lc a b c 0 0 0 0 0) []) (M1 stepC m r 2 (lc a b (wI (c + 1)) 0 0 0 0 0) []) := fun a n => by kernel_rfl
  rw [wI_eq (by omega) (by omega)] at e6
  unfold colN
  by_cases q : a % 2 = 1
  · rw [if_neg (by omega)] at e3
    have e4 : Rn fs cs 7 (M1 stepC m r 13 (lc a b c 0 0 0 0 0) []) (M1 stepC m r 24 (lc (wI (wI (a * 3) + 1)) b c 0 0 0 0 0) []) := fun n => by kernel_rfl
    rw [wI_eq (x := a * 3) (by omega) (by omega), wI_eq (by omega) (by omega), show a * 3 + 1 = 3 * a + 1 by omega] at e4
    rw [if_pos q]
    exact (((((e1.trans e2).trans e3).trans e4).trans (e6 _)).rb).le (by omega)
  · rw [if_pos (by omega)] at e3
    have e4 : Rn fs cs 2 (M1 stepC m r 20 (lc a b c 0 0 0 0 0) []) (M1 stepC m r 22 (lc a b c 0 0 0 0 0) [2, a]) := fun n => by kernel_rfl
    have e5 := divs (fs := fs) (cs := cs) (m := m) (r := r) (loc := lc a b c 0 0 0 0 0) (a := a) (b := 2) (c := stepC) (i := 22) (n := 0) (k := 0) (st := []) rfl (by omega) (by omega)
    rw [Int.tdiv_eq_ediv_of_nonneg (by omega), wI_eq (by omega) (by omega)] at e5
    have e7 : ∀ x : Int, Rn fs cs 1 (M1 stepC m r 23 (lc a b c 0 0 0 0 0) [x]) (M1 stepC m r 24 (lc x b c 0 0 0 0 0) []) := fun x n => by kernel_rfl
    rw [if_neg q]
    exact (((((((e1.trans e2).trans e3).trans e4).trans e5).trans (e7 _)).trans (e6 _)).rb).le (by omega)
/-- How many steps, in at most n; and that it comes to 1 so. -/
def colW : Nat → Int → Int → Int
  | 0, _, c => c
  | n + 1, x, c => if x = 1 then c else colW n (colN x) (c + 1)
def colOk : Nat → Int → Bool
  | 0, x => x == 1
  | n + 1, x => x == 1 || (decide (0 < x) && decide (x ≤ 1000000) && colOk n (colN x))
theorem step_loop : ∀ (j : Nat) (a b c : Int), colOk j a = true → 0 ≤ c → c + j ≤ 1000000 → Rb fs cs (25 * j) (M1 stepC m r 2 (lc a b c 0 0 0 0 0) []) (M1 stepC m r 2 (lc 1 b (colW j a c) 0 0 0 0 0) [])
  | 0, a, b, c, h, _, _ => by
    have : a = 1 := by simpa [colOk] using h
    subst this
    exact Rb.refl
  | j + 1, a, b, c, h, h0, h1 => by
    by_cases q : a = 1
    · subst q
      simp only [colW, if_true]
      exact Rb.refl.le (by omega)
    · simp only [colOk, Bool.or_eq_true, beq_iff_eq, q, false_or, Bool.and_eq_true, decide_eq_true_eq] at h
      simp only [colW]
      rw [if_neg q]
      have hb := step_body (fs := fs) (cs := cs) (m := m) (r := r) (a := a) (b := b) (c := c) h.1.1 h.1.2 q (by omega)
      exact (hb.trans (step_loop j (colN a) b (c + 1) h.2 (by omega) (by omega))).le (by omega)
theorem col_all : (List.range 256).all (fun k => colOk 130 ((k : Int) + 1)) = true := by decide +kernel
theorem step_ends {k : Nat} (hk : k < 256) (b : Int) : Ends fs cs 100000 (M1 stepC m r 0 (lc ((k : Int) + 1) b 0 0 0 0 0 0) []) (colW 130 ((k : Int) + 1) 0) m r := by
  have e0 : Rn fs cs 2 (M1 stepC m r 0 (lc ((k : Int) + 1) b 0 0 0 0 0 0) []) (M1 stepC m r 2 (lc ((k : Int) + 1) b 0 0 0 0 0 0) []) := fun n => by kernel_rfl
  have hl := step_loop (fs := fs) (cs := cs) (m := m) (r := r) 130 ((k : Int) + 1) b 0 (List.all_eq_true.mp col_all k (List.mem_range.mpr hk)) (by omega) (by omega)
  have e2 : ∀ c : Int, Rn fs cs 7 (M1 stepC m r 2 (lc 1 b c 0 0 0 0 0) []) (M1 stepC m r 31 (lc 1 b c 0 0 0 0 0) [c]) := fun c n => by kernel_rfl
  exact ((e0.rb.trans hl).trans (e2 _).rb).ends (by omega) (Nat.le_refl _)
/-- The lesser and the greater. -/
def leastC : Code' := ⟨[tk 97, tk 98, tk 60, tk 63, tk 97, tk 58, tk 98, tk 59], [-1, -1, -1, 6, -1, 7, -1, -1], 2⟩
def mostC : Code' := ⟨[tk 97, tk 98, tk 60, tk 63, tk 98, tk 58, tk 97, tk 59], [-1, -1, -1, 6, -1, 7, -1, -1], 2⟩
def arithC : Code' := ⟨[tk 97, tk 98, tk 60, tk 67, tk 99, tk 97, tk 42, tk 99, tk 33, tk 98, tk 42, tk 43], [-1, -1, -1, -1, -1, -1, -1, -1, -1, -1, -1, -1], 2⟩
theorem least_ends (a b : Int) : Ends fs cs 100000 (M1 leastC m r 0 (lc a b 0 0 0 0 0 0) []) (if a < b then a else b) m r := by
  have e1 : Rn fs cs 3 (M1 leastC m r 0 (lc a b 0 0 0 0 0 0) []) (M1 leastC m r 3 (lc a b 0 0 0 0 0 0) [bitI (decide (a < b))]) := fun n => by kernel_rfl
  by_cases q : a < b
  · rw [decide_eq_true q] at e1
    have e2 : Rn fs cs 4 (M1 leastC m r 3 (lc a b 0 0 0 0 0 0) [bitI true]) (M1 leastC m r 8 (lc a b 0 0 0 0 0 0) [a]) := fun n => by kernel_rfl
    rw [if_pos q]
    exact (e1.trans e2).rb.ends (by omega) (Nat.le_refl _)
  · rw [decide_eq_false q] at e1
    have e2 : Rn fs cs 3 (M1 leastC m r 3 (lc a b 0 0 0 0 0 0) [bitI false]) (M1 leastC m r 8 (lc a b 0 0 0 0 0 0) [b]) := fun n => by kernel_rfl
    rw [if_neg q]
    exact (e1.trans e2).rb.ends (by omega) (Nat.le_refl _)
theorem most_ends (a b : Int) : Ends fs cs 100000 (M1 mostC m r 0 (lc a b 0 0 0 0 0 0) []) (if a < b then b else a) m r := by
  have e1 : Rn fs cs 3 (M1 mostC m r 0 (lc a b 0 0 0 0 0 0) []) (M1 mostC m r 3 (lc a b 0 0 0 0 0 0) [bitI (decide (a < b))]) := fun n => by kernel_rfl
  by_cases q : a < b
  · rw [decide_eq_true q] at e1
    have e2 : Rn fs cs 4 (M1 mostC m r 3 (lc a b 0 0 0 0 0 0) [bitI true]) (M1 mostC m r 8 (lc a b 0 0 0 0 0 0) [b]) := fun n => by kernel_rfl
    rw [if_pos q]
    exact (e1.trans e2).rb.ends (by omega) (Nat.le_refl _)
  · rw [decide_eq_false q] at e1
    have e2 : Rn fs cs 3 (M1 mostC m r 3 (lc a b 0 0 0 0 0 0) [bitI false]) (M1 mostC m r 8 (lc a b 0 0 0 0 0 0) [a]) := fun n => by kernel_rfl
    rw [if_neg q]
    exact (e1.trans e2).rb.ends (by omega) (Nat.le_refl _)
theorem arith_ends {a b : Int} (ha : -9223372036854775808 ≤ a ∧ a ≤ 9223372036854775807) (hb : -9223372036854775808 ≤ b ∧ b ≤ 9223372036854775807) : Ends fs cs 100000 (M1 arithC m r 0 (lc a b 0 0 0 0 0 0) []) (if a < b then a else b) m r := by
  have e1 : Rn fs cs 4 (M1 arithC m r 0 (lc a b 0 0 0 0 0 0) []) (M1 arithC m r 4 (lc a b (bitI (decide (a < b))) 0 0 0 0 0) []) := fun n => by kernel_rfl
  have e2 : ∀ p : Bool, Rn fs cs 8 (M1 arithC m r 4 (lc a b (bitI p) 0 0 0 0 0) []) (M1 arithC m r 12 (lc a b (bitI p) 0 0 0 0 0) [wI (wI (bitI p * a) + wI (bitI (bitI p == 0) * b))]) := fun p n => by kernel_rfl
  have e3 := (e1.trans (e2 _)).rb.ends (N := 100000) (by omega) (Nat.le_refl _)
  by_cases q : a < b
  · rw [decide_eq_true q] at e3
    rw [if_pos q]
    have : wI (wI (bitI true * a) + wI (bitI (bitI true == 0) * b)) = a := by
      simp only [bitI, if_true]
      rw [Int.one_mul]
      simp [wI_eq ha.1 ha.2, wI_eq (x := 0) (by omega) (by omega)]
    rw [this] at e3; exact e3
  · rw [decide_eq_false q] at e3
    rw [if_neg q]
    have : wI (wI (bitI false * a) + wI (bitI (bitI false == 0) * b)) = b := by
      simp [bitI, wI_eq hb.1 hb.2, wI_eq (x := 0) (by omega) (by omega)]
    rw [this] at e3; exact e3
end
end Go.Ev
namespace Go.Ev
open Go
theorem emod_step (n m : Int) (hm : 0 < m) : n % (256 * m) = n % 256 + 256 * (n / 256 % m) := by
  have h1 := Int.mul_ediv_add_emod n 256
  have h2 := Int.mul_ediv_add_emod (n / 256) m
  have r1 : 0 ≤ n % 256 ∧ n % 256 < 256 := by omega
  have r2 := Int.emod_nonneg (n / 256) (show m ≠ 0 by omega)
  have r3 := Int.emod_lt_of_pos (n / 256) hm
  have e : n = n % 256 + 256 * (n / 256 % m) + 256 * m * (n / 256 / m) := by
    rw [Int.mul_assoc]; omega
  have : (n % 256 + 256 * (n / 256 % m) + 256 * m * (n / 256 / m)) % (256 * m) = (n % 256 + 256 * (n / 256 % m)) % (256 * m) := Int.add_mul_emod_self_left ..
  rw [← e] at this
  rw [this]
  exact Int.emod_eq_of_lt (by omega) (by omega)
theorem leN_leB : ∀ (k : Nat) (n : Int), leN (leB k n) = n % 256 ^ k
  | 0, n => by simp [leB, leN]
  | k + 1, n => by
    have hp : (0 : Int) < 256 ^ k := Int.pow_pos (by omega)
    simp only [leB, leN]
    rw [leN_leB k, Int.pow_succ, Int.mul_comm (256 ^ k), emod_step n _ hp]
theorem leI {n : Int} (h : -9223372036854775808 ≤ n ∧ n ≤ 9223372036854775807) : wI (leN (leB 8 n)) = n := by
  rw [leN_leB]
  have : wI (n % 256 ^ 8) = wI n := wI_cong (-(n / 18446744073709551616)) (by show n % 18446744073709551616 = _; omega)
  rw [this, wI_eq h.1 h.2]
section
variable {fs : List Fn} {cs : List Code'} {m : Mem} {r : Row}
def swapC : Code' := ⟨[nu 0, tk 97, tk 36, nu 8, tk 98, tk 36, nu 0, tk 64, tk 67, nu 0, nu 8, tk 64, tk 36, nu 8, tk 99, tk 36, nu 8, tk 64], [-1, -1, -1, -1, -1, -1, -1, -1, -1, -1, -1, -1, -1, -1, -1, -1, -1, -1], 2⟩
def swa2C : Code' := ⟨[nu 9, tk 97, tk 36, nu 12, tk 169], [-1, -1, -1, -1, -1], 2⟩
def swa3C : Code' := ⟨[tk 97, tk 64], [-1, -1], 2⟩
theorem swap_ends {a b : Int} (ha : -9223372036854775808 ≤ a ∧ a ≤ 9223372036854775807) : resM (runM fs cs 100000 (M1 swapC (zeroM 1 8) r 0 (lc a b 0 0 0 0 0 0) [])) = some (0, a) := by
  have : resM (runM fs cs 100000 (M1 swapC (zeroM 1 8) r 0 (lc a b 0 0 0 0 0 0) [])) = some (0, wI (leN (leB 8 (wI (leN (leB 8 a)))))) := by kernel_rfl
  rw [this, leI ha, leI ha]
theorem swa2_ends {a b : Int} : resM (runM fs cs 100000 (M1 swa2C (zeroM 1 8) r 0 (lc a b 0 0 0 0 0 0) [])) = some (0, a / 16777216 % 256) := by
  have : resM (runM fs cs 100000 (M1 swa2C (zeroM 1 8) r 0 (lc a b 0 0 0 0 0 0) [])) = some (0, wI (leN [a / 256 / 256 / 256 % 256])) := by kernel_rfl
  rw [this]
  simp only [leN]
  rw [wI_eq (by omega) (by omega), show a / 256 / 256 / 256 % 256 + 256 * 0 = a / 16777216 % 256 by omega]
theorem swa3_ends {a b : Int} (ha : 57 ≤ a) : Traps fs cs 100000 (M1 swa3C (zeroM 1 8) r 0 (lc a b 0 0 0 0 0 0) []) 5 := by
  have e0 : Rn fs cs 1 (M1 swa3C (zeroM 1 8) r 0 (lc a b 0 0 0 0 0 0) []) (M1 swa3C (zeroM 1 8) r 1 (lc a b 0 0 0 0 0 0) [a]) := fun n => by kernel_rfl
  have hw : loadM (zeroM 1 8) a true = (0, false) := by
    unfold loadM
    have : withinM (zeroM 1 8) a true = false := by
      simp [withinM, zeroM, wideN]; omega
    rw [this]; rfl
  have e1 : Rn fs cs 1 (M1 swa3C (zeroM 1 8) r 1 (lc a b 0 0 0 0 0 0) [a]) (M1t swa3C (zeroM 1 8) r 2 (lc a b 0 0 0 0 0 0) [0] 5) := fun n => by
    refine run_step (show 1 < 2 by omega) ?_
    have : stepM fs cs (M1 swa3C (zeroM 1 8) r 1 (lc a b 0 0 0 0 0 0) [a]) = some (M1t swa3C (zeroM 1 8) r 2 (lc a b 0 0 0 0 0 0) [(loadM (zeroM 1 8) a true).1] (trapIf (loadM (zeroM 1 8) a true).2 5 0)) := by kernel_rfl
    rw [hw] at this
    exact this
  exact Rn.traps (e0.trans e1) (by omega) (by simp [M1t])
def copyC : Code' := ⟨[nu 0, tk 97, tk 36, nu 8, tk 98, tk 36, nu 0, tk 67, tk 91, tk 99, nu 16, tk 61, tk 63, tk 126, tk 59, tk 99, nu 20, tk 43, tk 99, tk 169, tk 174, tk 99, nu 1, tk 43, tk 67, tk 93, nu 0, tk 68, nu 0, tk 67, tk 91, tk 99, nu 16, tk 61, tk 63, tk 126, tk 59, tk 100, tk 99, nu 20, tk 43, tk 169, tk 43, tk 68, tk 99, nu 1, tk 43, tk 67, tk 93, tk 100], [-1, -1, -1, -1, -1, -1, -1, -1, -1, -1, -1, -1, 14, 26, -1, -1, -1, -1, -1, -1, -1, -1, -1, -1, -1, 8, -1, -1, -1, -1, -1, -1, -1, -1, 36, 49, -1, -1, -1, -1, -1, -1, -1, -1, -1, -1, -1, -1, 30, -1], 2⟩
def copyV (a b : Int) : Int := (leB 8 a ++ leB 8 b).foldl (fun d y => wI (d + wI (leN [(wI (leN [y])) % 256]))) 0
theorem copy_ends {a b : Int} : resM (runM fs cs 100000 (M1 copyC (zeroM 1 8) r 0 (lc a b 0 0 0 0 0 0) [])) = some (0, copyV a b) := by kernel_rfl
def byteC : Code' := ⟨[nu 0, tk 97, tk 36, nu 8, tk 98, tk 36, nu 0, tk 67, tk 91, tk 99, nu 8, tk 61, tk 63, tk 126, tk 59, tk 99, nu 16, tk 43, tk 99, nu 1, tk 38, tk 63, tk 99, nu 8, tk 43, tk 58, tk 99, tk 59, tk 169, tk 174, tk 99, nu 1, tk 43, tk 67, tk 93, nu 16, tk 64], [-1, -1, -1, -1, -1, -1, -1, -1, -1, -1, -1, -1, 14, 35, -1, -1, -1, -1, -1, -1, -1, 26, -1, -1, -1, 27, -1, -1, -1, -1, -1, -1, -1, -1, 8, -1, -1], 2⟩
def byteV (a b : Int) : Int := wI (leN (((leB 8 a).zip (leB 8 b)).zipIdx.map fun x => (wI (leN [if x.2 % 2 = 1 then x.1.2 else x.1.1])) % 256))
theorem byte_ends {a b : Int} : resM (runM fs cs 100000 (M1 byteC (zeroM 1 8) r 0 (lc a b 0 0 0 0 0 0) [])) = some (0, byteV a b) := by kernel_rfl
end
end Go.Ev
set_option linter.unusedSectionVars false
namespace Go.Ev
open Go
section
variable {bar : Nat} {g : H}
theorem mask_lt (a : Int) (n : Nat) (hn : 0 < n) : ∃ k : Nat, a % (n : Int) = k ∧ k < n := by
  have h1 : 0 ≤ a % (n : Int) := Int.emod_nonneg _ (by omega)
  have h2 : a % (n : Int) < n := Int.emod_lt_of_pos _ (by omega)
  exact ⟨(a % (n : Int)).toNat, by omega, by omega⟩
theorem m1023 (a : Int) : IntKind.i64.wrap ((BitVec.ofInt 64 a &&& 1023#64).toNat : Nat) = a % 1024 := andI_mask a 10 (by omega)
theorem m63 (a : Int) : IntKind.i64.wrap ((BitVec.ofInt 64 a &&& 63#64).toNat : Nat) = a % 64 := andI_mask a 6 (by omega)
theorem m127 (a : Int) : IntKind.i64.wrap ((BitVec.ofInt 64 a &&& 127#64).toNat : Nat) = a % 128 := andI_mask a 7 (by omega)
theorem m511 (a : Int) : IntKind.i64.wrap ((BitVec.ofInt 64 a &&& 511#64).toNat : Nat) = a % 512 := andI_mask a 9 (by omega)
theorem m255 (a : Int) : IntKind.i64.wrap ((BitVec.ofInt 64 a &&& 255#64).toNat : Nat) = a % 256 := andI_mask a 8 (by omega)
theorem m1023' (a : Int) : IntKind.i64.wrap ((BitVec.ofInt 64 a &&& 1023#64).toNat : Nat) = a % 1024 := andI_mask a 10 (by omega)
theorem m65535 (a : Int) : IntKind.i64.wrap ((BitVec.ofInt 64 a &&& 65535#64).toNat : Nat) = a % 65536 := andI_mask a 16 (by omega)
theorem TopSums_ok {a : Int} : call tb prim n_engramtop_TopSums [.int .i64 a] bar g = some (.bool true, g) := by
  refine call_of tb_engramtop_TopSums (callF_pureW rfl rfl (M_in ?_))
  have eA := fun g' => top_awake_ok (bar := g.n) (g := g')
  obtain ⟨k, hk, hk2⟩ := mask_lt a 1024 (by omega)
  have hm := m1023 a
  rw [show a % 1024 = (k : Int) from hk] at hm
  have eS := says_ends (bar := g.n) (g := g) sums_text (sums_ends (k := k) (by omega) 0)
  have ht : ((tri k : Nat) : Int) = ((k : Int) * ((k : Int) + 1)).tdiv 2 := by
    unfold tri
    rw [Int.natCast_ediv, Int.tdiv_eq_ediv_of_nonneg (Int.mul_nonneg (by omega) (by omega))]
    push_cast; rfl
  have hb : (k : Int) * ((k : Int) + 1) ≤ 1023 * 1024 := Int.mul_le_mul (by omega) (by omega) (by omega) (by omega)
  have hb0 : 0 ≤ (k : Int) * ((k : Int) + 1) := Int.mul_nonneg (by omega) (by omega)
  have w1 : IntKind.i64.wrap ((k : Int) + 1) = (k : Int) + 1 := w64 (by omega) (by omega)
  have w2 : IntKind.i64.wrap ((k : Int) * ((k : Int) + 1)) = (k : Int) * ((k : Int) + 1) := w64 (by omega) (by omega)
  have w3 : IntKind.i64.wrap (((k : Int) * ((k : Int) + 1)).tdiv 2) = ((k : Int) * ((k : Int) + 1)).tdiv 2 := by
    rw [← ht]; have := tri_le (a := k) (b := 1023) (by omega); have h2 : tri 1023 = 523776 := rfl; exact w64 (by omega) (by omega)
  rw [ht] at eS
  simp [f_engramtop_TopSums, env0, go_sem, get_alloc, n_alloc, get_set, n_set, get_kill, n_kill, writeAt, a11, a21, a31, a41, a51, a61, a71, isNil]
  erw [hm]
  simp [go_sem, get_alloc, n_alloc, get_set, n_set, get_kill, n_kill, writeAt, a11, a21, a31, a41, a51, a61, a71, isNil, eS, w1, w2, w3, eA]
  simp [go_sem, endP, endI, resultsA, resultA, freezeL, freezeV, AV.free.freeL, AV.free, packA, dropS]
end
end Go.Ev
set_option linter.unusedSectionVars false
namespace Go.Ev
open Go
section
variable {bar : Nat} {g : H}
theorem top_ends_trap {code : ByteArray} {c : Code'} {a b t : Int} (ht : TextOk code c) (hr : Traps [⟨102, 2, code⟩] [c] 100000 (M1 c (zeroM 1 8) ⟨[], []⟩ 0 (lc a b 0 0 0 0 0 0) []) t) :
    call tb prim n_engramtop_ends [.str code, .int .i64 a, .int .i64 b] bar g = some (.tup [.int .i64 0, .int .i64 t, .bool true], g) := by
  obtain ⟨s', n, h, rfl⟩ := hr
  exact top_ends_ok ht h
theorem prim_text : TextOk ⟨#[50, 66, 49, 67, 91, 98, 98, 42, 97, 60, 33, 63, 126, 59, 97, 98, 37, 33, 63, 48, 67, 59, 98, 32, 49, 43, 66, 93, 98, 98, 42, 97, 61, 63, 48, 58, 99, 59]⟩ primC := ⟨by kernel_rfl, by kernel_rfl, rfl, by kernel_rfl, rfl, rfl⟩
theorem prim_l {a : Int} (ha : 0 ≤ a ∧ a ≤ 513) {j : Nat} (hj : j ≤ 22) (hlt : a < ((j : Int) + 2) * (j + 2)) (hle : ∀ i : Nat, i < j → ((i : Int) + 2) * (i + 2) ≤ a) {v : Int} (Q : Ex → Env → H → Prop) (hq : ∀ e, e.get 4 = some (.int .i64 v) → e.get 5 = some (.bool true) → e.get 6 = some (.int .i64 (primW a j)) → Q (.exit 0) e g) : ∀ (n i : Nat), j = i + n →
    wpL (call tb prim) bar [3, 4, 5, 6, 7] l0_engramtop_TopPrimes [(3, .int .i64 a), (4, .int .i64 v), (5, .bool true), (6, .int .i64 (primW a i)), (7, .int .i64 ((i : Int) + 2))] g Q
  | 0, i, h => by
    have hi : i = j := by omega
    subst hi
    have hb : ((i : Int) + 2) * (i + 2) ≤ 24 * 24 := Int.mul_le_mul (by omega) (by omega) (by omega) (by omega)
    have hb0 : 0 ≤ ((i : Int) + 2) * (i + 2) := Int.mul_nonneg (by omega) (by omega)
    have hw : IntKind.i64.wrap (((i : Int) + 2) * ((i : Int) + 2)) = ((i : Int) + 2) * ((i : Int) + 2) := w64 (by omega) (by omega)
    have hd : decide (((i : Int) + 2) * ((i : Int) + 2) ≤ a) = false := by simp; omega
    refine M_loop l0_engramtop_TopPrimes.eq_1 ?_
    simp [go_sem, hw, hd]
    exact hq _ rfl rfl rfl
  | n + 1, i, h => by
    have hb : ((i : Int) + 2) * (i + 2) ≤ 24 * 24 := Int.mul_le_mul (by omega) (by omega) (by omega) (by omega)
    have hb0 : 0 ≤ ((i : Int) + 2) * (i + 2) := Int.mul_nonneg (by omega) (by omega)
    have hw : IntKind.i64.wrap (((i : Int) + 2) * ((i : Int) + 2)) = ((i : Int) + 2) * ((i : Int) + 2) := w64 (by omega) (by omega)
    have hd : decide (((i : Int) + 2) * ((i : Int) + 2) ≤ a) = true := by have := hle i (by omega); simp; omega
    have ht : a.tmod ((i : Int) + 2) = a % ((i : Int) + 2) := Int.tmod_eq_emod_of_nonneg (by omega)
    have hz : ¬ (i : Int) + 2 = 0 := by omega
    have hw2 : IntKind.i64.wrap ((i : Int) + 2 + 1) = ((i + 1 : Nat) : Int) + 2 := by rw [w64 (by omega) (by omega)]; omega
    refine M_loop l0_engramtop_TopPrimes.eq_1 ?_
    by_cases hm : a % ((i : Int) + 2) = 0
    · have hp : primW a (i + 1) = 0 := by rw [primW, if_pos hm]
      have hc : (a % ((i : Int) + 2) == 0) = true := by simpa using hm
      have := prim_l ha hj hlt hle Q hq n (i + 1) (by omega)
      rw [hp] at this
      simp [go_sem, hw, hd, hz, ht, hc, hw2]
      exact this
    · have hp : primW a (i + 1) = primW a i := by rw [primW, if_neg hm]
      have hc : (a % ((i : Int) + 2) == 0) = false := by simpa using hm
      have := prim_l ha hj hlt hle Q hq n (i + 1) (by omega)
      rw [hp] at this
      simp [go_sem, hw, hd, hz, ht, hc, hw2]
      exact this
theorem TopPrimes_ok {a : Int} : call tb prim n_engramtop_TopPrimes [.int .i64 a] bar g = some (.bool true, g) := by
  refine call_of tb_engramtop_TopPrimes (callF_pureW rfl rfl (M_in ?_))
  have eA := fun g' => top_awake_ok (bar := g.n) (g := g')
  obtain ⟨k, hk, hk2⟩ := mask_lt a 512 (by omega)
  have hm := m511 a
  rw [show a % 512 = (k : Int) from hk] at hm
  have hw : IntKind.i64.wrap (2 + (k : Int)) = 2 + (k : Int) := w64 (by omega) (by omega)
  obtain ⟨j, hj, h1, h2, hE⟩ := prim_ends (fs := [⟨102, 2, _⟩]) (cs := [primC]) (m := zeroM 1 8) (r := ⟨[], []⟩) (a := 2 + (k : Int)) 0 (by omega)
  have eS := says_ends (bar := g.n) (g := g) prim_text hE
  simp [f_engramtop_TopPrimes, env0, go_sem, get_alloc, n_alloc, get_set, n_set, get_kill, n_kill, writeAt, a11, a21, a31, a41, a51, a61, a71, isNil]
  erw [hm]
  simp [go_sem, get_alloc, n_alloc, get_set, n_set, get_kill, n_kill, writeAt, a11, a21, a31, a41, a51, a61, a71, isNil, hw, eS]
  refine prim_l (a := 2 + (k : Int)) (by omega) hj h1 h2 _ (fun e h4 h5 h6 => ?_) j 0 (by omega)
  simp [go_sem, h4, h5, h6, eA]
  simp [go_sem, endP, endI, resultsA, resultA, freezeL, freezeV, AV.free.freeL, AV.free, packA, dropS]
theorem swap_text : TextOk ⟨#[48, 97, 36, 56, 98, 36, 48, 64, 67, 48, 32, 56, 64, 36, 56, 99, 36, 56, 64]⟩ swapC := ⟨by kernel_rfl, by kernel_rfl, rfl, by kernel_rfl, rfl, rfl⟩
theorem swa2_text : TextOk ⟨#[57, 97, 36, 49, 50, 194, 169]⟩ swa2C := ⟨by kernel_rfl, by kernel_rfl, rfl, by kernel_rfl, rfl, rfl⟩
theorem swa3_text : TextOk ⟨#[97, 64]⟩ swa3C := ⟨by kernel_rfl, by kernel_rfl, rfl, by kernel_rfl, rfl, rfl⟩
theorem TopSwaps_ok {a b : Int} (ha : -9223372036854775808 ≤ a ∧ a ≤ 9223372036854775807) : call tb prim n_engramtop_TopSwaps [.int .i64 a, .int .i64 b] bar g = some (.bool true, g) := by
  refine call_of tb_engramtop_TopSwaps (callF_pureW rfl rfl (M_in ?_))
  have eA := fun g' => top_awake_ok (bar := g.n) (g := g')
  obtain ⟨k, hk, hk2⟩ := mask_lt a 1024 (by omega)
  have hm := m1023 a
  rw [show a % 1024 = (k : Int) from hk] at hm
  have hw : IntKind.i64.wrap (57 + (k : Int)) = 57 + (k : Int) := w64 (by omega) (by omega)
  have e1 := says_res (bar := g.n) (g := g) swap_text (swap_ends (b := b) ha)
  have e2 := says_res (bar := g.n) (g := g) swa2_text (swa2_ends (a := a) (b := 0))
  have e3 := top_ends_trap (bar := g.n) (g := g) swa3_text (swa3_ends (a := 57 + (k : Int)) (b := 0) (by omega))
  have hm2 : IntKind.i64.wrap ((BitVec.ofInt 64 (a.fdiv 16777216) &&& 255#64).toNat : Nat) = a / 16777216 % 256 := by
    rw [m255, Int.fdiv_eq_ediv_of_nonneg a (by omega : (0 : Int) ≤ 16777216)]
  simp [f_engramtop_TopSwaps, env0, go_sem, get_alloc, n_alloc, get_set, n_set, get_kill, n_kill, writeAt, a11, a21, a31, a41, a51, a61, a71, isNil, e1, e2]
  erw [hm]
  simp [go_sem, get_alloc, n_alloc, get_set, n_set, get_kill, n_kill, writeAt, a11, a21, a31, a41, a51, a61, a71, isNil, hw, e3, shiftA]
  erw [hm2]
  simp [go_sem, get_alloc, n_alloc, get_set, n_set, get_kill, n_kill, writeAt, a11, a21, a31, a41, a51, a61, a71, isNil, eA]
  simp [go_sem, endP, endI, resultsA, resultA, freezeL, freezeV, AV.free.freeL, AV.free, packA, dropS]
theorem gro1_text : TextOk ⟨#[97, 194, 164, 35, 50, 53, 54, 42, 43]⟩ gro1C := ⟨by kernel_rfl, by kernel_rfl, rfl, by kernel_rfl, rfl, rfl⟩
theorem gro2_text : TextOk ⟨#[49, 194, 164, 44, 54, 52, 64]⟩ gro2C := ⟨by kernel_rfl, by kernel_rfl, rfl, by kernel_rfl, rfl, rfl⟩
theorem TopGrows_ok {a : Int} : call tb prim n_engramtop_TopGrows [.int .i64 a] bar g = some (.bool true, g) := by
  refine call_of tb_engramtop_TopGrows (callF_pureW rfl rfl (M_in ?_))
  have eA := fun g' => top_awake_ok (bar := g.n) (g := g')
  obtain ⟨k, hk, hk2⟩ : ∃ k : Nat, k < 12 ∧ (if a.tmod 12 < 0 then -(a.tmod 12) else a.tmod 12) = (k : Int) := by
    have h1 := Int.tmod_lt_of_pos a (show (0 : Int) < 12 by omega)
    have h2 : -12 < a.tmod 12 := by
      have := Int.tmod_lt_of_pos (-a) (show (0 : Int) < 12 by omega)
      rw [Int.neg_tmod] at this; omega
    split
    · exact ⟨(-(a.tmod 12)).toNat, by omega, by omega⟩
    · exact ⟨(a.tmod 12).toNat, by omega, by omega⟩
  have hr := List.all_eq_true.mp (gro1_all [⟨102, 2, ⟨#[97, 194, 164, 35, 50, 53, 54, 42, 43]⟩⟩] [gro1C]) k (List.mem_range.mpr hk)
  simp only [beq_iff_eq] at hr
  have e1 := says_res (bar := g.n) (g := g) gro1_text hr
  have e2 := says_res (bar := g.n) (g := g) gro2_text (gro2_all _ _)
  have hw1 : IntKind.i64.wrap (1 + (k : Int)) = 1 + (k : Int) := w64 (by omega) (by omega)
  have hw2 : IntKind.i64.wrap ((1 + (k : Int)) * 256) = (1 + (k : Int)) * 256 := w64 (by omega) (by omega)
  have hw3 : IntKind.i64.wrap (1 + (1 + (k : Int)) * 256) = 1 + (1 + (k : Int)) * 256 := w64 (by omega) (by omega)
  by_cases h0 : a.tmod 12 < 0
  · rw [if_pos h0] at hk2
    have d0 : decide (a.tmod 12 < 0) = true := by simpa using h0
    have hw0 : IntKind.i64.wrap (-(a.tmod 12)) = (k : Int) := by rw [← hk2]; exact w64 (by omega) (by omega)
    by_cases h7 : 7 < k
    · have d7 : decide ((7 : Int) < (k : Int)) = true := by simp; omega
      rw [if_pos h7] at e1
      simp [f_engramtop_TopGrows, env0, go_sem, get_alloc, n_alloc, get_set, n_set, get_kill, n_kill, writeAt, a11, a21, a31, a41, a51, a61, a71, isNil, d0, hw0, e1, e2, hw1, hw2, hw3, d7, eA]
      simp [go_sem, endP, endI, resultsA, resultA, freezeL, freezeV, AV.free.freeL, AV.free, packA, dropS]
    · have d7 : decide ((7 : Int) < (k : Int)) = false := by simp; omega
      rw [if_neg h7] at e1
      simp [f_engramtop_TopGrows, env0, go_sem, get_alloc, n_alloc, get_set, n_set, get_kill, n_kill, writeAt, a11, a21, a31, a41, a51, a61, a71, isNil, d0, hw0, e1, e2, hw1, hw2, hw3, d7, eA]
      simp [go_sem, endP, endI, resultsA, resultA, freezeL, freezeV, AV.free.freeL, AV.free, packA, dropS]
  · rw [if_neg h0] at hk2
    have d0 : decide (a.tmod 12 < 0) = false := by simpa using h0
    by_cases h7 : 7 < k
    · have d7 : decide ((7 : Int) < (k : Int)) = true := by simp; omega
      rw [if_pos h7] at e1
      rw [hk2] at d0
      simp [f_engramtop_TopGrows, env0, go_sem, get_alloc, n_alloc, get_set, n_set, get_kill, n_kill, writeAt, a11, a21, a31, a41, a51, a61, a71, isNil, hk2, d0, e1, e2, hw1, hw2, hw3, d7, eA]
      simp [go_sem, endP, endI, resultsA, resultA, freezeL, freezeV, AV.free.freeL, AV.free, packA, dropS]
    · have d7 : decide ((7 : Int) < (k : Int)) = false := by simp; omega
      rw [if_neg h7] at e1
      rw [hk2] at d0
      simp [f_engramtop_TopGrows, env0, go_sem, get_alloc, n_alloc, get_set, n_set, get_kill, n_kill, writeAt, a11, a21, a31, a41, a51, a61, a71, isNil, hk2, d0, e1, e2, hw1, hw2, hw3, d7, eA]
      simp [go_sem, endP, endI, resultsA, resultA, freezeL, freezeV, AV.free.freeL, AV.free, packA, dropS]
end
end Go.Ev
set_option linter.unusedSectionVars false
namespace Go.Ev
open Go
section
variable {bar : Nat} {h : H}
def inN (n hi : Int) : Int := if 0 ≤ n ∧ n ≤ hi then n else if n.tmod (hi + 1) < 0 then n.tmod (hi + 1) + hi + 1 else n.tmod (hi + 1)
theorem inN_rng (n hi : Int) (h0 : 0 ≤ hi) : 0 ≤ inN n hi ∧ inN n hi ≤ hi := by
  have a := Int.tmod_lt_of_pos n (show 0 < hi + 1 by omega)
  have b : -(hi + 1) < n.tmod (hi + 1) := by
    have := Int.tmod_lt_of_pos (-n) (show 0 < hi + 1 by omega)
    rw [Int.neg_tmod] at this; omega
  unfold inN
  split
  · omega
  · split <;> omega
theorem book_Within_ok (n hi : Int) (h0 : 0 ≤ hi) (h1 : hi ≤ 1099511627776) : call tb prim n_engrambook_Within [.int .i64 n, .int .i64 0, .int .i64 hi] bar h = some (.int .i64 (inN n hi), h) := by
  refine call_of tb_engrambook_Within (callF_pureW rfl rfl (M_in ?_))
  have a := Int.tmod_lt_of_pos n (show 0 < hi + 1 by omega)
  have b : -(hi + 1) < n.tmod (hi + 1) := by
    have := Int.tmod_lt_of_pos (-n) (show 0 < hi + 1 by omega)
    rw [Int.neg_tmod] at this; omega
  have w1 : IntKind.i64.wrap (hi + 1) = hi + 1 := w64 (by omega) (by omega)
  have w0 : IntKind.i64.wrap hi = hi := w64 (by omega) (by omega)
  have w2 : IntKind.i64.wrap (n.tmod (hi + 1)) = n.tmod (hi + 1) := w64 (by omega) (by omega)
  have w3 : IntKind.i64.wrap (n.tmod (hi + 1) + hi) = n.tmod (hi + 1) + hi := w64 (by omega) (by omega)
  have w4 : IntKind.i64.wrap (n.tmod (hi + 1) + hi + 1) = n.tmod (hi + 1) + hi + 1 := w64 (by omega) (by omega)
  have hz : hi + 1 ≠ 0 := by omega
  by_cases c1 : 0 ≤ n
  · by_cases c2 : n ≤ hi
    · simp [f_engrambook_Within, env0, go_sem, endP, endI, resultsA, resultA, freezeL, freezeV, AV.free.freeL, AV.free, packA, dropS, c1, c2, inN]
    · by_cases c3 : n.tmod (hi + 1) < 0
      · simp [f_engrambook_Within, env0, go_sem, endP, endI, resultsA, resultA, freezeL, freezeV, AV.free.freeL, AV.free, packA, dropS, c1, c2, c3, inN, w0, w1, w2, w3, w4, hz]
      · simp [f_engrambook_Within, env0, go_sem, endP, endI, resultsA, resultA, freezeL, freezeV, AV.free.freeL, AV.free, packA, dropS, c1, c2, c3, inN, w0, w1, w2, w3, w4, hz]
  · by_cases c3 : n.tmod (hi + 1) < 0
    · simp [f_engrambook_Within, env0, go_sem, endP, endI, resultsA, resultA, freezeL, freezeV, AV.free.freeL, AV.free, packA, dropS, c1, c3, inN, w0, w1, w2, w3, w4, hz]
    · simp [f_engrambook_Within, env0, go_sem, endP, endI, resultsA, resultA, freezeL, freezeV, AV.free.freeL, AV.free, packA, dropS, c1, c3, inN, w0, w1, w2, w3, w4, hz]
end
end Go.Ev
set_option linter.unusedSectionVars false
namespace Go.Ev
open Go
theorem fill7 {z0 z1 z2 z3 z4 z5 z6 a b c d e f k : AV} (h0 : a.one = true) (h1 : b.one = true) (h2 : c.one = true) (h3 : d.one = true) (h4 : e.one = true) (h5 : f.one = true) (h6 : k.one = true) :
    fillA [z0, z1, z2, z3, z4, z5, z6] [(0, 1, a), (1, 1, b), (2, 1, c), (3, 1, d), (4, 1, e), (5, 1, f), (6, 1, k)] = some [a, b, c, d, e, f, k] := by
  rw [fillA_one h0 (by simp), fillA_one h1 (by simp [splice]), fillA_one h2 (by simp [splice]), fillA_one h3 (by simp [splice]), fillA_one h4 (by simp [splice]), fillA_one h5 (by simp [splice]), fillA_one h6 (by simp [splice])]
  rfl
def trpS : List AV := [.str ⟨#[97, 32, 48, 47]⟩, .str ⟨#[49, 32, 54, 51, 194, 171, 32, 48, 32, 49, 45, 47]⟩, .str ⟨#[54, 52, 194, 169]⟩, .str ⟨#[194, 161]⟩, .str ⟨#[91, 93]⟩, .str ⟨#[57, 32, 48, 32, 49, 45, 36, 49]⟩, .str ⟨#[97, 32, 48, 37]⟩]
def trpI : List AV := [.int .i64 3, .int .i64 4, .int .i64 5, .int .i64 2, .int .i64 1, .int .i64 0, .int .i64 3]
section
variable {bar : Nat} {g : H}
theorem trp0_text : TextOk ⟨#[97, 32, 48, 47]⟩ trp0C := ⟨by kernel_rfl, by kernel_rfl, rfl, by kernel_rfl, rfl, rfl⟩
theorem trp1_text : TextOk ⟨#[49, 32, 54, 51, 194, 171, 32, 48, 32, 49, 45, 47]⟩ trp1C := ⟨by kernel_rfl, by kernel_rfl, rfl, by kernel_rfl, rfl, rfl⟩
theorem trp2_text : TextOk ⟨#[54, 52, 194, 169]⟩ trp2C := ⟨by kernel_rfl, by kernel_rfl, rfl, by kernel_rfl, rfl, rfl⟩
theorem trp3_text : TextOk ⟨#[194, 161]⟩ trp3C := ⟨by kernel_rfl, by kernel_rfl, rfl, by kernel_rfl, rfl, rfl⟩
theorem trp4_text : TextOk ⟨#[91, 93]⟩ trp4C := ⟨by kernel_rfl, by kernel_rfl, rfl, by kernel_rfl, rfl, rfl⟩
theorem trp5_text : TextOk ⟨#[57, 32, 48, 32, 49, 45, 36, 49]⟩ trp5C := ⟨by kernel_rfl, by kernel_rfl, rfl, by kernel_rfl, rfl, rfl⟩
theorem trp6_text : TextOk ⟨#[97, 32, 48, 37]⟩ trp6C := ⟨by kernel_rfl, by kernel_rfl, rfl, by kernel_rfl, rfl, rfl⟩
theorem traps_k {w a v t : Int} {k : Nat} {code : ByteArray} (hk : k < 7) (hw : inN w 6 = k) (hs : trpS[k]? = some (.str code)) (hi : trpI[k]? = some (.int .i64 t)) (he : ∀ g', call tb prim n_engramtop_ends [.str code, .int .i64 a, .int .i64 0] g.n g' = some (.tup [.int .i64 v, .int .i64 t, .bool true], g')) :
    call tb prim n_engramtop_TopTraps [.int .i64 w, .int .i64 a] bar g = some (.bool true, g) := by
  refine call_of tb_engramtop_TopTraps (callF_pureW rfl rfl (M_in ?_))
  have eA := fun g' => top_awake_ok (bar := g.n) (g := g')
  have eW := book_Within_ok (bar := g.n) (h := g) w 6 (by omega) (by omega)
  rw [hw] at eW
  have f1 := fill7 (z0 := .str ⟨#[]⟩) (z1 := .str ⟨#[]⟩) (z2 := .str ⟨#[]⟩) (z3 := .str ⟨#[]⟩) (z4 := .str ⟨#[]⟩) (z5 := .str ⟨#[]⟩) (z6 := .str ⟨#[]⟩) (a := .str ⟨#[97, 32, 48, 47]⟩) (b := .str ⟨#[49, 32, 54, 51, 194, 171, 32, 48, 32, 49, 45, 47]⟩) (c := .str ⟨#[54, 52, 194, 169]⟩) (d := .str ⟨#[194, 161]⟩) (e := .str ⟨#[91, 93]⟩) (f := .str ⟨#[57, 32, 48, 32, 49, 45, 36, 49]⟩) (k := .str ⟨#[97, 32, 48, 37]⟩) rfl rfl rfl rfl rfl rfl rfl
  have f2 := fill7 (z0 := .int .i64 0) (z1 := .int .i64 0) (z2 := .int .i64 0) (z3 := .int .i64 0) (z4 := .int .i64 0) (z5 := .int .i64 0) (z6 := .int .i64 0) (a := .int .i64 3) (b := .int .i64 4) (c := .int .i64 5) (d := .int .i64 2) (e := .int .i64 1) (f := .int .i64 0) (k := .int .i64 3) rfl rfl rfl rfl rfl rfl rfl
  have l1 : trpS.length = 7 := rfl
  have l2 : trpI.length = 7 := rfl
  have o1 : trpS.all AV.one = true := rfl
  have o2 : trpI.all AV.one = true := rfl
  change _ = some trpS at f1
  change _ = some trpI at f2
  obtain ⟨LS, hLS⟩ : ∃ LS, LS = trpS := ⟨_, rfl⟩
  obtain ⟨LI, hLI⟩ : ∃ LI, LI = trpI := ⟨_, rfl⟩
  rw [← hLS] at f1 l1 o1 hs
  rw [← hLI] at f2 l2 o2 hi
  have hix : indexIn (.int .i64 (k : Int)) 7 = some k := by simp only [indexIn]; rw [if_pos (by omega), Int.toNat_natCast]
  simp [f_engramtop_TopTraps, env0, go_sem, get_alloc, n_alloc, get_set, n_set, get_kill, n_kill, writeAt, a11, a21, a31, a41, a51, a61, a71, isNil, eW, evParts, f1, f2, l1, l2, o1, o2, hix, hs, hi, he, eA]
  simp [go_sem, endP, endI, resultsA, resultA, freezeL, freezeV, AV.free.freeL, AV.free, packA, dropS]
theorem TopTraps_ok {w a : Int} : call tb prim n_engramtop_TopTraps [.int .i64 w, .int .i64 a] bar g = some (.bool true, g) := by
  have hr := inN_rng w 6 (by omega)
  have hk : ∃ k : Nat, inN w 6 = k ∧ k < 7 := ⟨(inN w 6).toNat, by omega, by omega⟩
  obtain ⟨k, hk, hk2⟩ := hk
  have hcases : k = 0 ∨ k = 1 ∨ k = 2 ∨ k = 3 ∨ k = 4 ∨ k = 5 ∨ k = 6 := by omega
  rcases hcases with rfl | rfl | rfl | rfl | rfl | rfl | rfl
  · exact traps_k hk2 hk rfl rfl (fun g' => top_ends_trap trp0_text (trp0_ends a 0))
  · exact traps_k hk2 hk rfl rfl (fun g' => top_ends_trap trp1_text (trp1_ends a 0))
  · exact traps_k hk2 hk rfl rfl (fun g' => top_ends_trap trp2_text (trp2_ends a 0))
  · exact traps_k hk2 hk rfl rfl (fun g' => top_ends_trap trp3_text (trp3_ends a 0))
  · exact traps_k hk2 hk rfl rfl (fun g' => top_ends_trap trp4_text (trp4_loop a 0 100000).1)
  · obtain ⟨m, n, hn⟩ := trp5_ends (fs := [⟨102, 2, ⟨#[57, 32, 48, 32, 49, 45, 36, 49]⟩⟩]) (cs := [trp5C]) (r := ⟨[], []⟩) a 0
    exact traps_k hk2 hk rfl rfl (fun g' => top_ends_ok trp5_text hn)
  · exact traps_k hk2 hk rfl rfl (fun g' => top_ends_trap trp6_text (trp6_ends a 0))
theorem call_unit : UnitOk 0 0 [⟨102, 1, ⟨#[97, 63, 97, 32, 49, 45, 206, 187, 102, 32, 49, 43, 58, 48, 59]⟩⟩] [callC] := by
  refine ⟨by kernel_rfl, fun f hf => ?_, fun f hf k hk => ?_, fun f hf => ?_, by simp, by kernel_rfl⟩
  · rw [List.mem_singleton] at hf; subst hf
    refine ⟨callC.to, by kernel_rfl, fun x hx => ?_⟩
    have : callC.to.all (fun x => decide (x ≤ 2000)) = true := rfl
    rw [List.all_eq_true] at this
    simpa using this x hx
  · rw [List.mem_singleton] at hf; subst hf
    have : (gTok ⟨#[97, 63, 97, 32, 49, 45, 206, 187, 102, 32, 49, 43, 58, 48, 59]⟩).1.all (fun k => sigOk k.sign) = true := by kernel_rfl
    rw [List.all_eq_true] at this
    exact this k hk
  · rw [List.mem_singleton] at hf; subst hf; exact ⟨by show (0 : Int) ≤ 1; omega, by show (1 : Int) ≤ 26; omega⟩
theorem fillC (s : ByteArray) : fillA [.int .i32 0, .int .i64 0, .str ⟨#[]⟩] [(0, 1, .int .i32 102), (1, 1, .int .i64 1), (2, 1, .str s)] = some [.int .i32 102, .int .i64 1, .str s] := by
  rw [fillA_one rfl (by simp), fillA_one rfl (by simp [splice]), fillA_one rfl (by simp [splice])]; rfl
theorem fillC3 (s : ByteArray) : fillA [.int .i32 0, .int .i64 0, .str ⟨#[]⟩] [(0, 3, .agg [.int .i32 102, .int .i64 1, .str s])] = some [.int .i32 102, .int .i64 1, .str s] := by
  rw [fillA_cons (n := 3) (v := .agg [.int .i32 102, .int .i64 1, .str s]) rfl (by simp) rfl]; rfl
theorem fillU1 {a : AV} (h : a.one = true) : fillA [.int .i64 0, .int .i64 0, .nilsl] [(2, 1, a)] = some [.int .i64 0, .int .i64 0, a] := by
  rw [fillA_one h (by simp)]; rfl
theorem fill1i (a : Int) : fillA [.int .i64 0] [(0, 1, .int .i64 a)] = some [.int .i64 a] := by
  rw [fillA_one rfl (by simp)]; rfl
theorem TopCalls_ok {a : Int} : call tb prim n_engramtop_TopCalls [.int .i64 a] bar g = some (.bool true, g) := by
  refine call_of tb_engramtop_TopCalls (callF_pureW rfl rfl (M_in ?_))
  have eA := fun g' => top_awake_ok (bar := g.n) (g := g')
  obtain ⟨k, hk, hk2⟩ := mask_lt a 64 (by omega)
  have hm := m63 a
  rw [show a % 64 = (k : Int) from hk] at hm
  have hr := List.all_eq_true.mp (call_all ⟨#[97, 63, 97, 32, 49, 45, 206, 187, 102, 32, 49, 43, 58, 48, 59]⟩) k (List.mem_range.mpr hk2)
  simp only [beq_iff_eq] at hr
  obtain ⟨ga, hga⟩ : ∃ ga, ga = ((g.alloc (.cells [.int .i32 102, .int .i64 1, .str ⟨#[97, 63, 97, 32, 49, 45, 206, 187, 102, 32, 49, 43, 58, 48, 59]⟩] 0)).alloc (.cells [.int .i64 0, .int .i64 0, .nilsl] 0)).set (g.n + 1) (.cells [.int .i64 0, .int .i64 0, .sl g.n 0 3 1 true] 0) := ⟨_, rfl⟩
  have na : ga.n = g.n + 2 := by rw [hga]; rfl
  have gU : ga.get (g.n + 1) = some (.cells [.int .i64 0, .int .i64 0, .sl g.n 0 3 1 true] 0) := by rw [hga, get_set, if_pos rfl]
  have gF : ga.get g.n = some (.cells [.int .i32 102, .int .i64 1, .str ⟨#[97, 63, 97, 32, 49, 45, 206, 187, 102, 32, 49, 43, 58, 48, 59]⟩] 0) := by
    rw [hga, get_set_ne (by omega), get_alloc, if_neg (by rw [n_alloc]; omega), get_alloc, if_pos rfl]
  have hFV : FV ga (.sl g.n 0 3 1 true) [⟨102, 1, ⟨#[97, 63, 97, 32, 49, 45, 206, 187, 102, 32, 49, 43, 58, 48, 59]⟩⟩] := ⟨rfl, by simp, .inr (.inr ⟨g.n, 0, true, _, 0, rfl, by omega, gF, by simp, rfl⟩)⟩
  cases hrun : runM [⟨102, 1, ⟨#[97, 63, 97, 32, 49, 45, 206, 187, 102, 32, 49, 43, 58, 48, 59]⟩⟩] [callC] 9000 (M1 callC (zeroM 0 0) ⟨[], []⟩ 0 (lc k 0 0 0 0 0 0 0) []) with
  | none => rw [hrun] at hr; cases hr
  | some x =>
    obtain ⟨s', v, n'⟩ := x
    rw [hrun] at hr
    have hcode : codeN ⟨102, 1, ⟨#[97, 63, 97, 32, 49, 45, 206, 187, 102, 32, 49, 43, 58, 48, 59]⟩⟩ = callC := by kernel_rfl
    obtain ⟨g2, M, g3, g5, xa, e2, e3, n3, n2, k2, k3, e5, hxa, n5, _⟩ := run_new (bar := g.n) (g := ga) call_unit hFV (by omega) (pages := 0) (most := 0) (by omega) (by omega) (nm := 102) (fuel := 9000) (by omega) (by omega) (k := 0) rfl (f := ⟨102, 1, ⟨#[97, 63, 97, 32, 49, 45, 206, 187, 102, 32, 49, 43, 58, 48, 59]⟩⟩) rfl (args := [(k : Int)]) rfl (by simp) (by rw [hcode]; exact hrun)
    unfold runRes at e5
    rw [show ((0 : Nat) : Int) = 0 from rfl] at e2
    have gU2 : g2.get (g.n + 1) = some (.cells [.int .i64 0, .int .i64 0, .sl g.n 0 3 1 true] 0) := by rw [k2 _ (by omega)]; exact gU
    have gU3 : g3.get (g.n + 1) = some (.cells [.int .i64 0, .int .i64 0, .sl g.n 0 3 1 true] 0) := by rw [k3 _ (by omega)]; exact gU2
    have hall : ([.int .i64 v, .int .i64 s'.trap, .int .i64 n', xa] : List AV).all AV.one = true := by
      show (true && (true && (true && (xa.one && true)))) = true
      rw [hxa.one]; rfl
    have hU1 := fun (x : AV) (h : x.one = true) => fillU1 h
    have hb5 : g.n ≤ g5.n := by omega
    simp [f_engramtop_TopCalls, env0, go_sem, get_alloc, n_alloc, get_set, n_set, get_kill, n_kill, writeAt, a11, a21, a31, a41, a51, a61, a71, isNil, evParts, fillC, fillC3, AV.cells, hU1, spT3]
    erw [hm]
    simp only [← hga]
    have hb3 : ¬ g.n + 1 = g3.n := by omega
    have gU4 : (g3.alloc (.cells [.int .i64 (k : Int)] 0)).get (g.n + 1) = some (.cells [.int .i64 0, .int .i64 0, .sl g.n 0 3 1 true] 0) := by rw [get_alloc, if_neg (by omega)]; exact gU3
    rw [show (List.map (AV.int .i64) [(k : Int)]) = [.int .i64 (k : Int)] from rfl, show [(k : Int)].length = 1 from rfl] at e5
    refine ⟨⟨sees_of rfl ?_, sees_of rfl ?_, sees_of rfl ?_, sees_mk rfl ?_⟩, ?_⟩
    · simp [-getElem?_pos, R_nil, R_cons, RS_some, sameV_some, seesQ_some, List.take, List.take_succ_cons, List.take_zero, go_sem, get_alloc, n_alloc, get_set, n_set, get_kill, n_kill, writeAt, a11, a21, a31, a41, a51, a61, a71, isNil, gU, gU2, gU3, e2, e3, evParts, fill1i, List.getElem?_cons_zero, List.getElem?_cons_succ]
    · simp [-getElem?_pos, R_nil, R_cons, RS_some, sameV_some, seesQ_some, List.take, List.take_succ_cons, List.take_zero, go_sem, get_alloc, n_alloc, get_set, n_set, get_kill, n_kill, writeAt, a11, a21, a31, a41, a51, a61, a71, isNil, gU, gU2, gU3, e2, e3, evParts, fill1i, List.getElem?_cons_zero, List.getElem?_cons_succ]
    · simp [-getElem?_pos, R_nil, R_cons, RS_some, sameV_some, seesQ_some, List.take, List.take_succ_cons, List.take_zero, go_sem, get_alloc, n_alloc, get_set, n_set, get_kill, n_kill, writeAt, a11, a21, a31, a41, a51, a61, a71, isNil, gU, gU2, gU3, hb3, e2, e3, evParts, fill1i, List.getElem?_cons_zero, List.getElem?_cons_succ]
    · simp [-getElem?_pos, R_nil, R_cons, RS_some, sameV_some, seesQ_some, List.take, List.take_succ_cons, List.take_zero, go_sem, get_alloc, n_alloc, get_set, n_set, get_kill, n_kill, writeAt, a11, a21, a31, a41, a51, a61, a71, isNil, gU, gU2, gU3, e2, e3, evParts, fill1i, freesQ_some, freeV_some, AV.free, List.getElem?_cons_zero, List.getElem?_cons_succ]
    simp [go_sem, get_alloc, n_alloc, get_set, n_set, get_kill, n_kill, writeAt, a11, a21, a31, a41, a51, a61, a71, isNil, gU, e2, e3, e5, evParts, fill1i, AV.cells, hall, sp40]
    simp only [resM, Option.map_some, Option.some.injEq, Prod.mk.injEq] at hr
    by_cases hk32 : k < 32
    · rw [if_pos hk32] at hr
      injection hr with hr1 hr2
      simp [go_sem, get_alloc, n_alloc, get_set, n_set, get_kill, n_kill, writeAt, a11, a21, a31, a41, a51, a61, a71, isNil, hb5, hr1, hr2, eA, show ¬ (32 : Int) ≤ (k : Int) by omega]
      trace_state
      simp [go_sem, endP, endI, resultsA, resultA, freezeL, freezeV, AV.free.freeL, AV.free, packA, dropS]
    · rw [if_neg hk32] at hr
      injection hr with hr1 hr2
      simp [go_sem, get_alloc, n_alloc, get_set, n_set, get_kill, n_kill, writeAt, a11, a21, a31, a41, a51, a61, a71, isNil, hb5, hr1, hr2, eA, show (32 : Int) ≤ (k : Int) by omega]
      trace_state
      simp [go_sem, endP, endI, resultsA, resultA, freezeL, freezeV, AV.free.freeL, AV.free, packA, dropS]
end
end Go.Ev
