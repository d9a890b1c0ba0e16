/- Part 5 of the proof that a law of this seat (the one that GOCLAIM.json names) returns true for every argument; nothing is assumed. -/
import Derived.ProofKit
import Derived.Test.YtgcchccjgpiekaaGreatDoorA4
set_option linter.unusedSimpArgs false
set_option linter.unusedVariables false
set_option linter.all false
namespace Go.Ev
open Go
theorem wI_eq {x : Int} (h1 : -9223372036854775808 ≤ x) (h2 : x ≤ 9223372036854775807) : wI x = x := by
  unfold wI; rw [IntKind.wrap_i64]; omega
def M1 (c : Code') (m : Mem) (r : Row) (i : Nat) (loc st : List Int) : Mc := ⟨[⟨c, i, loc, st⟩], m, r, 0⟩
def tk (x : Int) : Tok := ⟨x, 0, 0⟩
def nu (n : Int) : Tok := ⟨48, n, 0⟩
def Rn (fs : List Fn) (cs : List Code') (k : Nat) (s s' : Mc) : Prop := ∀ n, runM fs cs (n + k) s = runM fs cs n s'
def Rb (fs : List Fn) (cs : List Code') (B : Nat) (s s' : Mc) : Prop := ∃ k, k ≤ B ∧ Rn fs cs k s s'
section
variable {fs : List Fn} {cs : List Code'} {k l B C : Nat} {s t u : Mc}
theorem Rn.rb (h : Rn fs cs k s t) : Rb fs cs k s t := ⟨k, Nat.le_refl _, h⟩
theorem Rb.refl : Rb fs cs 0 s s := ⟨0, Nat.le_refl _, fun _ => rfl⟩
theorem Rn.trans (h : Rn fs cs k s t) (g : Rn fs cs l t u) : Rn fs cs (k + l) s u := fun n => by
  rw [show n + (k + l) = n + l + k by omega, h, g]
theorem Rb.trans (h : Rb fs cs B s t) (g : Rb fs cs C t u) : Rb fs cs (B + C) s u := by
  obtain ⟨k, hk, h⟩ := h
  obtain ⟨l, hl, g⟩ := g
  exact ⟨k + l, by omega, h.trans g⟩
theorem Rb.le (h : Rb fs cs B s t) (hB : B ≤ C) : Rb fs cs C s t := by
  obtain ⟨k, hk, h⟩ := h
  exact ⟨k, by omega, h⟩
def Ends (fs : List Fn) (cs : List Code') (N : Nat) (s : Mc) (v : Int) (m : Mem) (r : Row) : Prop := ∃ n, runM fs cs N s = some (⟨[], m, r, 0⟩, v, n)
theorem run_end {n : Nat} {c : Code'} {m : Mem} {r : Row} {i : Nat} {loc st : List Int} {v : Int} (hi : c.l.length ≤ i) : runM fs cs n (M1 c m r i loc (v :: st)) = some (⟨[], m, r, 0⟩, v, n) := by
  have : ¬ i < c.l.length := by omega
  unfold runM M1 endsM
  simp [this]
theorem Rb.ends {N : Nat} {c : Code'} {m : Mem} {r : Row} {i : Nat} {loc st : List Int} {v : Int} (h : Rb fs cs B s (M1 c m r i loc (v :: st))) (hN : B ≤ N) (hi : c.l.length ≤ i) : Ends fs cs N s v m r := by
  obtain ⟨k, hk, h⟩ := h
  have := h (N - k)
  rw [show N - k + k = N by omega, run_end hi] at this
  exact ⟨_, this⟩
end
theorem run_step {fs : List Fn} {cs : List Code'} {n : Nat} {c : Code'} {m : Mem} {r : Row} {i : Nat} {loc st : List Int} {s' : Mc} (hi : i < c.l.length) (h : stepM fs cs (M1 c m r i loc st) = some s') : runM fs cs (n + 1) (M1 c m r i loc st) = runM fs cs n s' := by
  rw [runM]
  simp only [M1, ne_eq, not_true_eq_false, if_false]
  rw [endsM, if_pos hi]
  simp only
  unfold M1 at h
  rw [h]
def lc (a b c d e f g h : Int) : List Int := [a, b, c, d, e, f, g, h] ++ List.replicate 18 0
theorem wI_mod (x : Int) : ∃ q, wI x = x + 18446744073709551616 * q := by
  unfold wI; rw [IntKind.wrap_i64]; exact ⟨-((x + 9223372036854775808) / 18446744073709551616), by omega⟩
theorem wI_cong {x y : Int} (q : Int) (h : x = y + 18446744073709551616 * q) : wI x = wI y := by
  unfold wI; rw [IntKind.wrap_i64, IntKind.wrap_i64]; omega
theorem andI_mask (a : Int) (k : Nat) (hk : k ≤ 62) : andI a (2 ^ k - 1) = a % 2 ^ k := by
  have hp : (2 : Nat) ^ k ≤ 2 ^ 62 := Nat.pow_le_pow_right (by omega) hk
  have h1 : 1 ≤ (2 : Nat) ^ k := Nat.one_le_two_pow
  have hc : ((2 : Int) ^ k - 1) = ((2 ^ k - 1 : Nat) : Int) := by
    rw [Int.natCast_sub h1]; norm_cast
  unfold andI
  rw [BitVec.toNat_and, hc, BitVec.toNat_ofInt, BitVec.toNat_ofInt]
  have e2 : (((2 ^ k - 1 : Nat) : Int) % ((2 ^ 64 : Nat) : Int)).toNat = 2 ^ k - 1 := by
    rw [← Int.natCast_emod, Int.toNat_natCast, Nat.mod_eq_of_lt]
    have : (2 : Nat) ^ 62 < 2 ^ 64 := by decide
    omega
  rw [e2, Nat.and_two_pow_sub_one_eq_mod]
  have e3 : (((a % ((2 ^ 64 : Nat) : Int)).toNat % 2 ^ k : Nat) : Int) = a % 2 ^ k := by
    rw [Int.natCast_emod, Int.toNat_of_nonneg (Int.emod_nonneg _ (by decide))]
    have e4 : ((2 ^ k : Nat) : Int) = (2 : Int) ^ k := Int.natCast_pow 2 k
    have e5 : ((2 ^ 64 : Nat) : Int) = (2 : Int) ^ 64 := Int.natCast_pow 2 64
    rw [e4, e5]
    exact Int.emod_emod_of_dvd a ⟨2 ^ (64 - k), by rw [← Int.pow_add, show k + (64 - k) = 64 by omega]⟩
  rw [e3]
  have b1 : 0 ≤ a % 2 ^ k := Int.emod_nonneg _ (by have : (0 : Int) < 2 ^ k := Int.pow_pos (by omega); omega)
  have b2 : a % 2 ^ k < 2 ^ k := Int.emod_lt_of_pos _ (Int.pow_pos (by omega))
  have b3 : ((2 : Int) ^ k) ≤ 2 ^ 62 := by exact_mod_cast hp
  exact wI_eq (by omega) (by omega)
end Go.Ev
namespace Go.Ev
open Go
def OW (k : Nat) (h : H) (bar : Nat) (a : AV) (n : Nat) (cs : List AV) : Prop :=
  cs.length = n * k ∧ cs.all AV.one = true ∧ ((a = .nilsl ∧ n = 0) ∨ ∃ id rest full, a = .sl id 0 k n full ∧ bar ≤ id ∧ id < h.n ∧ h.get id = some (.cells (cs ++ rest) 0))
section
variable {k : Nat} {h h' : H} {bar : Nat} {a : AV} {n : Nat} {cs : List AV}
theorem OW.nil : OW k h bar .nilsl 0 [] := ⟨by simp, rfl, .inl ⟨rfl, rfl⟩⟩
theorem OS.ow (v : OS k h bar a n cs) : OW k h bar a n cs := by
  obtain ⟨h1, h2, h3 | ⟨id, rest, e1, e2, e3, e4⟩⟩ := v
  · exact ⟨h1, h2, .inl h3⟩
  · exact ⟨h1, h2, .inr ⟨id, rest, false, e1, e2, e3, e4⟩⟩
theorem OW.mono (v : OW k h bar a n cs) (hn : h.n ≤ h'.n) (g : ∀ j, a.isAt j → h'.get j = h.get j) : OW k h' bar a n cs := by
  obtain ⟨h1, h2, h3 | ⟨id, rest, full, e1, e2, e3, e4⟩⟩ := v
  · exact ⟨h1, h2, .inl h3⟩
  · exact ⟨h1, h2, .inr ⟨id, rest, full, e1, e2, by omega, by rw [g id (by rw [e1]; rfl)]; exact e4⟩⟩
theorem OW.bar_le {b : Nat} (v : OW k h bar a n cs) (hb : b ≤ bar) : OW k h b a n cs := by
  obtain ⟨h1, h2, h3 | ⟨id, rest, full, e1, e2, e3, e4⟩⟩ := v
  · exact ⟨h1, h2, .inl h3⟩
  · exact ⟨h1, h2, .inr ⟨id, rest, full, e1, by omega, e3, e4⟩⟩
theorem OW.up {b : Nat} (v : OW k h bar a n cs) (hb : ∀ j, a.isAt j → b ≤ j) : OW k h b a n cs := by
  obtain ⟨h1, h2, h3 | ⟨id, rest, full, e1, e2, e3, e4⟩⟩ := v
  · exact ⟨h1, h2, .inl h3⟩
  · exact ⟨h1, h2, .inr ⟨id, rest, full, e1, hb id (by rw [e1]; rfl), e3, e4⟩⟩
theorem OW.one (v : OW k h bar a n cs) : a.one = true := by
  obtain ⟨_, _, ⟨rfl, _⟩ | ⟨id, rest, full, rfl, _⟩⟩ := v <;> rfl
theorem OW.len (v : OW k h bar a n cs) (g : H) : lenR (some a) g = some (goI n, g) := by
  obtain ⟨_, _, ⟨rfl, rfl⟩ | ⟨id, rest, full, rfl, _⟩⟩ := v <;> rfl
theorem OW.at_lt (v : OW k h bar a n cs) {j : Nat} (hj : a.isAt j) : bar ≤ j ∧ j < h.n := by
  obtain ⟨_, _, ⟨rfl, rfl⟩ | ⟨id, rest, full, rfl, g1, g2, _⟩⟩ := v
  · exact hj.elim
  · cases hj; exact ⟨g1, g2⟩
theorem OW.vw (v : OW k h bar a n cs) (hn : n ≤ 9223372036854775807) : Vw k h a n cs := by
  obtain ⟨h1, h2, ⟨rfl, e⟩ | ⟨id, rest, full, e1, e2, e3, e4⟩⟩ := v
  · exact ⟨h1, hn, .inl ⟨rfl, e⟩⟩
  · refine ⟨h1, hn, .inr (.inr ⟨id, 0, full, _, 0, e1, e3, e4, by rw [List.length_append, h1]; omega, ?_⟩)⟩
    rw [List.drop_zero, ← h1]; exact List.take_left ..
theorem OW.appA (v : OW k h bar a n cs) (hb : bar ≤ h.n) (bytes m : Nat) (xs : List AV) (hm : m ≠ 0) (hx : xs.length = m * k) (hx1 : xs.all AV.one = true) (hs : (n + m) * bytes ≤ 140737488355328) (hs' : n + m ≤ 9223372036854775807) :
    ∃ h', appendA bar k bytes h a m xs = some (.sl h.n 0 k (n + m) false, h') ∧ OW k h' bar (.sl h.n 0 k (n + m) false) (n + m) (cs ++ xs) ∧ h'.n = h.n + 1 ∧ (∀ j, j < h.n → ¬ a.isAt j → h'.get j = h.get j) := by
  obtain ⟨h1, h2, h3⟩ := v
  have hl : (cs ++ xs).length = (n + m) * k := by rw [List.length_append, h1, hx, Nat.add_mul]
  have ha : (cs ++ xs).all AV.one = true := by rw [List.all_append, h2, hx1]; rfl
  rcases h3 with ⟨rfl, rfl⟩ | ⟨id, rest, full, rfl, g1, g2, g3⟩
  · have : cs = [] := List.length_eq_zero_iff.mp (by rw [h1]; simp)
    subst this
    refine ⟨h.alloc (.cells xs 0), ?_, ⟨hl, ha, .inr ⟨h.n, [], false, rfl, hb, by simp [n_alloc], by simp [get_alloc]⟩⟩, by simp [n_alloc], fun j hj _ => by rw [get_alloc, if_neg (by omega)]⟩
    simp only [appendA]
    rw [if_neg hm, if_pos ⟨by simpa using hs, by omega⟩, Nat.zero_add]
  · have ht : ((cs ++ rest).drop 0).take (n * k) = cs := by rw [List.drop_zero, ← h1, List.take_left]
    cases full with
    | true =>
      refine ⟨h.alloc (.cells (cs ++ xs) 0), ?_, ⟨hl, ha, .inr ⟨h.n, [], false, rfl, hb, by simp [n_alloc], by simp [get_alloc]⟩⟩, by simp [n_alloc], fun j hj _ => by rw [get_alloc, if_neg (by omega)]⟩
      simp only [appendA, if_true]
      rw [if_neg hm, g3]
      simp only
      rw [if_pos ⟨by simp [h1], hs, hs'⟩, ht]
    | false =>
      refine ⟨(h.kill id).alloc (.cells (cs ++ xs) 0), ?_, ⟨hl, ha, .inr ⟨h.n, [], false, rfl, hb, by simp [n_alloc, n_kill], by simp [get_alloc, n_kill]⟩⟩, by simp [n_alloc, n_kill], fun j hj hj2 => ?_⟩
      · simp only [appendA, if_true]
        rw [if_neg hm, g3]
        simp only
        rw [if_pos ⟨by simp [h1], hs, hs'⟩, if_neg (by simp), if_pos ⟨g1, by omega⟩, ht, Nat.zero_sub]
      · have : j ≠ id := fun e => hj2 e.symm
        simp only [get_alloc, n_kill, get_kill]
        rw [if_neg (by omega), if_neg this]
theorem OW.app (v : OW k h bar a n cs) (hb : bar ≤ h.n) (bytes : Nat) (xs : List AV) (hx : xs.length = k) (hx1 : xs.all AV.one = true) (hk : 0 < k) (hs : (n + 1) * bytes ≤ 140737488355328) (hs' : n < 9223372036854775807) :
    ∃ h', appR bar k bytes (some a) (some (.sl h.n 0 k 1 true)) (h.alloc (.cells xs 0)) = some (.sl (h.n + 1) 0 k (n + 1) false, h') ∧ OW k h' bar (.sl (h.n + 1) 0 k (n + 1) false) (n + 1) (cs ++ xs) ∧ h'.n = h.n + 2 ∧ (∀ j, j < h.n → ¬ a.isAt j → h'.get j = h.get j) := by
  have hsrc : source k (h.alloc (.cells xs 0)) (.sl h.n 0 k 1 true) = some (1, xs) := by
    simp [source, get_alloc, ← hx]
  have v' : OW k (h.alloc (.cells xs 0)) bar a n cs := v.mono (by simp [n_alloc]) fun j hj => by have := v.at_lt hj; rw [get_alloc, if_neg (by omega)]
  obtain ⟨h', e1, o1, n1, f1⟩ := v'.appA (by rw [n_alloc]; omega) bytes 1 xs (by omega) (by rw [hx]; omega) hx1 hs (by omega)
  simp only [n_alloc] at e1 o1 n1 f1
  refine ⟨h', ?_, o1, by omega, fun j hj hj2 => by rw [f1 j (by omega) hj2, get_alloc, if_neg (by omega)]⟩
  simp only [appR, hsrc, if_pos hk]
  exact e1
theorem OW.cases (v : OW k h bar a n cs) (hn : n ≠ 0) : ∃ id all full, a = .sl id 0 k n full ∧ bar ≤ id ∧ id < h.n ∧ h.get id = some (.cells all 0) ∧ n * k ≤ all.length ∧ all.take (n * k) = cs ∧ cs.length = n * k ∧ (∀ j, j < n * k → all[j]? = cs[j]?) ∧
    (∀ (g : H) (i : Nat) (vs : List AV), i + vs.length ≤ n * k → vs.all AV.one = true → h.n ≤ g.n → g.get id = some (.cells (splice all i vs) 0) → OW k g bar a n (splice cs i vs)) ∧
    (∀ (g : H) (m : Nat) (full' : Bool), m ≤ n → h.n ≤ g.n → g.get id = h.get id → OW k g bar (.sl id 0 k m full') m (cs.take (m * k))) := by
  obtain ⟨h1, h2, ⟨_, e⟩ | ⟨id, rest, full, e1, e2, e3, e4⟩⟩ := v
  · exact absurd e hn
  · refine ⟨id, cs ++ rest, full, e1, e2, e3, e4, by rw [List.length_append]; omega, by rw [← h1]; exact List.take_left .., h1, fun j hj => List.getElem?_append_left (by omega), fun g i vs hi hv hg hget => ?_, fun g m full' hm hg hget => ?_⟩
    · have hsp : splice (cs ++ rest) i vs = splice cs i vs ++ rest := by
        unfold splice
        rw [List.take_append_of_le_length (by omega), List.drop_append_of_le_length (by omega), List.append_assoc, List.append_assoc, List.append_assoc]
      refine ⟨?_, ?_, .inr ⟨id, rest, full, e1, e2, by omega, by rw [hget, hsp]⟩⟩
      · unfold splice; simp; omega
      · unfold splice
        rw [List.all_eq_true] at h2 hv ⊢
        intro x hx
        rw [List.mem_append, List.mem_append] at hx
        rcases hx with (hx | hx) | hx
        · exact h2 x (List.mem_of_mem_take hx)
        · exact hv x hx
        · exact h2 x (List.mem_of_mem_drop hx)
    · have hmk : m * k ≤ n * k := Nat.mul_le_mul_right k hm
      refine ⟨by rw [List.length_take]; omega, ?_, .inr ⟨id, cs.drop (m * k) ++ rest, full', rfl, e2, by omega, by rw [hget, e4, ← List.append_assoc, List.take_append_drop]⟩⟩
      rw [List.all_eq_true] at h2 ⊢
      exact fun x hx => h2 x (List.mem_of_mem_take hx)
end
end Go.Ev
namespace Go.Ev
open Go
section
variable {fs : List Fn} {cs : List Code'} {m : Mem} {r : Row}
theorem Rb_loop {S : Nat → Mc} {B N : Nat} (h : ∀ k, k < N → Rb fs cs B (S (k + 1)) (S k)) : ∀ k, k ≤ N → Rb fs cs (B * k) (S k) (S 0)
  | 0, _ => Rb.refl.le (by omega)
  | k + 1, hk => ((h k (by omega)).trans (Rb_loop h k (by omega))).le (by rw [Nat.mul_succ]; omega)
theorem ne_b0 {x : Int} (h : x ≠ 0) : (x == 0) = false := by simpa using h
def dblC : Code' := ⟨[tk 91, tk 98, tk 33, tk 63, tk 126, tk 59, tk 97, tk 46, tk 43, tk 65, tk 98, nu 1, tk 45, tk 66, tk 93, tk 97], [-1, -1, -1, 5, 15, -1, -1, -1, -1, -1, -1, -1, -1, -1, 0, -1], 2⟩
def dblW (a : Int) : Nat → Int
  | 0 => a
  | n + 1 => wI (dblW a n + dblW a n)
theorem dbl_ends {k : Nat} (hk : k ≤ 127) (a : Int) : Ends fs cs 100000 (M1 dblC m r 0 (lc a k 0 0 0 0 0 0) []) (dblW a k) m r := by
  have hl := Rb_loop (fs := fs) (cs := cs) (S := fun j => M1 dblC m r 0 (lc (dblW a (k - j)) (j : Nat) 0 0 0 0 0 0) []) (B := 14) (N := k) (fun j hj => by
    have e1 : Rn fs cs 3 (M1 dblC m r 0 (lc (dblW a (k - (j + 1))) (j + 1 : Nat) 0 0 0 0 0 0) []) (M1 dblC m r 3 (lc (dblW a (k - (j + 1))) (j + 1 : Nat) 0 0 0 0 0 0) [bitI (((j + 1 : Nat) : Int) == 0)]) := fun n => by kernel_rfl
    rw [ne_b0 (by omega)] at e1
    have e2 : Rn fs cs 11 (M1 dblC m r 3 (lc (dblW a (k - (j + 1))) (j + 1 : Nat) 0 0 0 0 0 0) [bitI false]) (M1 dblC m r 0 (lc (dblW a (k - (j + 1) + 1)) (wI ((j + 1 : Nat) - 1)) 0 0 0 0 0 0) []) := fun n => by kernel_rfl
    rw [wI_eq (by omega) (by omega), show ((j + 1 : Nat) : Int) - 1 = (j : Nat) by omega, show k - (j + 1) + 1 = k - j by omega] at e2
    exact (e1.trans e2).rb) k (Nat.le_refl _)
  simp only [Nat.sub_self, Nat.sub_zero] at hl
  have e2 : Rn fs cs 6 (M1 dblC m r 0 (lc (dblW a k) (0 : Nat) 0 0 0 0 0 0) []) (M1 dblC m r 16 (lc (dblW a k) (0 : Nat) 0 0 0 0 0 0) [dblW a k]) := fun n => by kernel_rfl
  exact (hl.trans e2.rb).ends (by omega) (Nat.le_refl _)
end
end Go.Ev
namespace Go.Ev
open Go
def zeroM (pages : Nat) (most : Int) : Mem := ⟨List.replicate (pages * 64) 0, most, List.replicate pages false⟩
def resM (x : Option (Mc × Int × Nat)) : Option (Int × Int) := x.map fun y => (y.1.trap, y.2.1)
def facC : Code' := ⟨[tk 97, tk 63, tk 97, tk 97, nu 1, tk 45, ⟨955, 0, 102⟩, tk 42, tk 58, nu 1, tk 59], [-1, 9, -1, -1, -1, -1, -1, -1, 10, -1, -1], 1⟩
def facW : Nat → Int
  | 0 => 1
  | n + 1 => wI (facW n * (n + 1))
theorem fac_all (b : ByteArray) : (List.range 30).all (fun k => resM (runM [⟨102, 1, b⟩] [facC] 999 (M1 facC (zeroM 0 0) ⟨[], []⟩ 0 (lc k 0 0 0 0 0 0 0) [])) == some (0, facW k)) = true := by kernel_rfl
def evenC : Code' := ⟨[tk 97, tk 63, tk 97, nu 1, tk 45, tk 63, tk 97, nu 2, tk 45, ⟨955, 0, 111⟩, tk 58, nu 1, tk 59, tk 58, nu 0, tk 59], [-1, 14, -1, -1, -1, 11, -1, -1, -1, -1, 12, -1, -1, 15, -1, -1], 1⟩
theorem even_all (b : ByteArray) : (List.range 16).all (fun k => resM (runM [⟨111, 1, b⟩] [evenC] 999 (M1 evenC (zeroM 0 0) ⟨[], []⟩ 0 (lc k 0 0 0 0 0 0 0) [])) == some (0, (k : Int) % 2)) = true := by kernel_rfl
end Go.Ev
set_option linter.unusedSectionVars false
namespace Go.Ev
open Go
def frC (la ta : AV) (a : Int) (p : Nat) (loc : List Int) (sa : AV) : List AV := la :: ta :: .int .i64 a :: .int .i64 p :: (loc.map (AV.int .i64) ++ [sa])
section
variable {la ta sa v : AV} {a : Int} {p : Nat} {loc : List Int}
theorem frC_len (h : loc.length = 26) : (frC la ta a p loc sa).length = 31 := by simp [frC, h]
theorem frC_30 (h : loc.length = 26) : (frC la ta a p loc sa)[30]? = some sa := by
  simp [frC, h]
theorem frC_0 : (frC la ta a p loc sa)[0]? = some la := rfl
theorem frC_1 : (frC la ta a p loc sa)[1]? = some ta := rfl
theorem frC_3 : (frC la ta a p loc sa)[3]? = some (.int .i64 p) := rfl
theorem frC_loc {i : Nat} {x : Int} (h : loc[i]? = some x) : (frC la ta a p loc sa)[4 + i]? = some (.int .i64 x) := by
  have hi := (List.getElem?_eq_some_iff.mp h).1
  show (la :: ta :: AV.int .i64 a :: AV.int .i64 p :: (loc.map (AV.int .i64) ++ [sa]))[4 + i]? = _
  rw [show 4 + i = i + 1 + 1 + 1 + 1 by omega]
  simp only [List.getElem?_cons_succ]
  rw [List.getElem?_append_left (by simpa using hi)]
  simp [h]
theorem frC_set30 (h : loc.length = 26) : splice (frC la ta a p loc sa) 30 [v] = frC la ta a p loc v := by
  have : (loc.map (AV.int .i64)).length = 26 := by simpa using h
  unfold splice frC
  have e1 : (la :: ta :: AV.int .i64 a :: AV.int .i64 p :: (loc.map (AV.int .i64) ++ [sa])).take 30 = la :: ta :: .int .i64 a :: .int .i64 p :: loc.map (AV.int .i64) := by
    simp only [List.take_succ_cons]
    rw [List.take_append_of_le_length (by omega), List.take_of_length_le (by omega)]
  rw [e1]
  have e2 : (la :: ta :: AV.int .i64 a :: AV.int .i64 p :: (loc.map (AV.int .i64) ++ [sa])).drop (30 + [v].length) = [] := by
    apply List.drop_eq_nil_of_le; simp [h]
  rw [e2]; simp
theorem frC_set3 {q : Nat} : splice (frC la ta a p loc sa) 3 [.int .i64 q] = frC la ta a q loc sa := rfl
theorem frC_setloc {i : Nat} {x : Int} (hi : i < loc.length) : splice (frC la ta a p loc sa) (4 + i) [.int .i64 x] = frC la ta a p (loc.set i x) sa := by
  unfold splice frC
  rw [show 4 + i = i + 1 + 1 + 1 + 1 by omega]
  simp only [List.take_succ_cons]
  rw [List.take_append_of_le_length (by simp; omega)]
  have e2 : (la :: ta :: AV.int .i64 a :: AV.int .i64 p :: (loc.map (AV.int .i64) ++ [sa])).drop (i + 1 + 1 + 1 + 1 + [AV.int .i64 x].length) = (loc.map (AV.int .i64)).drop (i + 1) ++ [sa] := by
    show (la :: ta :: AV.int .i64 a :: AV.int .i64 p :: (loc.map (AV.int .i64) ++ [sa])).drop (i + 1 + 1 + 1 + 1 + 1) = _
    rw [show i + 1 + 1 + 1 + 1 + 1 = (i + 1) + 1 + 1 + 1 + 1 by omega]
    simp only [List.drop_succ_cons]
    rw [List.drop_append_of_le_length (by simp; omega)]
  rw [e2, List.map_set, List.set_eq_take_append_cons_drop, if_pos (by simpa using hi)]
  simp
end
def stC (st : List Int) : List AV := st.reverse.map (AV.int .i64)
theorem stC_len (st : List Int) : (stC st).length = st.length := by simp [stC]
theorem stC_push (n : Int) (st : List Int) : stC (n :: st) = stC st ++ [.int .i64 n] := by simp [stC]
theorem stC_top (n : Int) (st : List Int) : (stC (n :: st))[st.length]? = some (.int .i64 n) := by
  rw [stC_push, List.getElem?_append_right (by rw [stC_len]; omega), stC_len, Nat.sub_self]; rfl
theorem stC_pop (n : Int) (st : List Int) : (stC (n :: st)).take (st.length * 1) = stC st := by
  rw [stC_push, Nat.mul_one, ← stC_len st]; exact List.take_left ..
structure FrV (g : H) (b : Nat) (f : Fm) (id : Nat) (la ta sa : AV) : Prop where
  get : g.get id = some (.cells (frC la ta f.c.args f.at' f.loc sa) 0)
  bid : b ≤ id
  lt : id < g.n
  loc : f.loc.length = 26
  st : OW 1 g b sa f.st.length (stC f.st)
  ne : ¬ sa.isAt id
  small : f.st.length ≤ 3000000
  at1 : f.at' ≤ 100000
section
variable {bar b : Nat} {g : H} {f : Fm} {id : Nat} {la ta sa : AV}
theorem FrV.mono {g' : H} (v : FrV g b f id la ta sa) (hn : g.n ≤ g'.n) (h1 : g'.get id = g.get id) (h2 : ∀ j, sa.isAt j → g'.get j = g.get j) : FrV g' b f id la ta sa :=
  ⟨by rw [h1]; exact v.get, v.bid, by have := v.lt; omega, v.loc, v.st.mono hn h2, v.ne, v.small, v.at1⟩
theorem push_ok (v : FrV g b f id la ta sa) (hb : bar ≤ b) (hbg : b ≤ g.n) (hs : f.st.length < 3000000) (n : Int) :
    ∃ g' sa', call tb prim n_engine_frame_push [.ptr id 0, .int .i64 n] bar g = some (.tup [], g') ∧ FrV g' b { f with st := n :: f.st } id la ta sa' ∧ (∀ j, sa'.isAt j → g.n ≤ j) ∧ g.n ≤ g'.n ∧ ∀ j, j < g.n → j ≠ id → ¬ sa.isAt j → g'.get j = g.get j := by
  obtain ⟨h', e2, o2, n1, f1⟩ := (v.st.bar_le hb).app (bar := bar) (by omega) 8 [.int .i64 n] rfl rfl (by omega) (by omega) (by omega)
  have o1 : OW 1 h' b (.sl (g.n + 1) 0 1 (f.st.length + 1) false) (f.st.length + 1) (stC f.st ++ [.int .i64 n]) := o2.up fun j hj => by cases hj; omega
  have hl := v.loc
  have hid := v.lt
  have hget := v.get
  have h30 : (frC la ta f.c.args f.at' f.loc sa)[30]? = some sa := frC_30 hl
  have hle : 30 + 1 ≤ (frC la ta f.c.args f.at' f.loc sa).length := by rw [frC_len hl]; omega
  have hs30 : splice (frC la ta f.c.args f.at' f.loc sa) 30 [.sl (g.n + 1) 0 1 (f.st.length + 1) false] = frC la ta f.c.args f.at' f.loc (.sl (g.n + 1) 0 1 (f.st.length + 1) false) := frC_set30 hl
  have hg' : h'.get id = some (.cells (frC la ta f.c.args f.at' f.loc sa) 0) := by rw [f1 id hid v.ne]; exact hget
  have hbid : bar ≤ id := Nat.le_trans hb v.bid
  obtain ⟨cs, hcs⟩ : ∃ cs, cs = frC la ta f.c.args f.at' f.loc sa := ⟨_, rfl⟩
  rw [← hcs] at hget h30 hle hs30 hg'
  have hfin : ∃ sa', (AV.tup []) = .tup [] ∧ FrV (h'.set id (.cells (frC la ta f.c.args f.at' f.loc (.sl (g.n + 1) 0 1 (f.st.length + 1) false)) 0)) b { f with st := n :: f.st } id la ta sa' ∧ (∀ j, sa'.isAt j → g.n ≤ j) ∧ g.n ≤ (h'.set id (.cells (frC la ta f.c.args f.at' f.loc (.sl (g.n + 1) 0 1 (f.st.length + 1) false)) 0)).n ∧ ∀ j, j < g.n → j ≠ id → ¬ sa.isAt j → (h'.set id (.cells (frC la ta f.c.args f.at' f.loc (.sl (g.n + 1) 0 1 (f.st.length + 1) false)) 0)).get j = g.get j := by
    refine ⟨.sl (g.n + 1) 0 1 (f.st.length + 1) false, rfl, ⟨by simp [get_set], v.bid, by simp [n_set]; omega, hl, ?_, ?_, by simp; omega, v.at1⟩, fun j hj => by cases hj; omega, by simp [n_set]; omega, fun j h1 h2 h3 => by rw [get_set_ne h2]; exact f1 j h1 h3⟩
    · have : stC (n :: f.st) = stC f.st ++ [.int .i64 n] := stC_push n f.st
      show OW 1 _ b _ (n :: f.st).length _
      rw [this]
      exact o1.mono (by simp [n_set]) (fun j hj => by cases hj; rw [get_set_ne (by omega)])
    · intro hj; cases hj; omega
  obtain ⟨r, g', hc, sa', rfl, k⟩ := callF_K (o := call tb prim) (F := f_engine_frame_push) (bar := bar) (h := g) (args := [.ptr id 0, .int .i64 n]) (P := fun r g' => ∃ sa', r = .tup [] ∧ FrV g' b { f with st := n :: f.st } id la ta sa' ∧ (∀ j, sa'.isAt j → g.n ≤ j) ∧ g.n ≤ g'.n ∧ ∀ j, j < g.n → j ≠ id → ¬ sa.isAt j → g'.get j = g.get j) rfl rfl (fun K hK => by
    simp [f_engine_frame_push, env0, go_sem, get_alloc, n_alloc, get_set, n_set, get_kill, n_kill, writeAt, a11, a21, a31, a41, a51, a61, a71, isNil, hget, h30, evParts, fillA, sp10, e2, hg', hle, hs30, hbid]
    simp [go_sem, endP, endI, resultsA, resultA, freezeL, freezeV, AV.free.freeL, AV.free, packA, dropS]
    exact ⟨_, _, ⟨rfl, rfl⟩, hK _ _ hfin⟩)
  exact ⟨g', sa', call_of tb_engine_frame_push hc, k⟩
theorem pop_ok {n : Int} {st : List Int} (v : FrV g b f id la ta sa) (hst : f.st = n :: st) (hb : bar ≤ b) :
    ∃ g' sa', call tb prim n_engine_frame_pop [.ptr id 0] bar g = some (.int .i64 n, g') ∧ FrV g' b { f with st := st } id la ta sa' ∧ (∀ j, sa'.isAt j → sa.isAt j) ∧ g'.n = g.n ∧ ∀ j, j ≠ id → g'.get j = g.get j := by
  have hl := v.loc
  have hget := v.get
  have hsm := v.small
  have hos := v.st
  rw [hst] at hos hsm
  simp only [List.length_cons] at hos hsm
  obtain ⟨sid, all, full, rfl, hbs, hsl, hgs, hle, htk, hcl, hgi, _, hcut⟩ := hos.cases (by omega)
  have hne : sid ≠ id := v.ne
  have h30 : (frC la ta f.c.args f.at' f.loc (.sl sid 0 1 (st.length + 1) full))[30]? = some (.sl sid 0 1 (st.length + 1) full) := frC_30 hl
  have hle30 : 30 + 1 ≤ (frC la ta f.c.args f.at' f.loc (.sl sid 0 1 (st.length + 1) full)).length := by rw [frC_len hl]; omega
  have hs30 : ∀ v, splice (frC la ta f.c.args f.at' f.loc (.sl sid 0 1 (st.length + 1) full)) 30 [v] = frC la ta f.c.args f.at' f.loc v := fun _ => frC_set30 hl
  have hbid : bar ≤ id := Nat.le_trans hb v.bid
  have htop : all[st.length]? = some (.int .i64 n) := by rw [hgi _ (by omega)]; exact stC_top n st
  have hw : IntKind.i64.wrap (st.length : Int) = (st.length : Nat) := w64 (by omega) (by omega)
  have hlt : st.length < st.length + 1 := by omega
  have hltI : (st.length : Int) < (st.length : Int) + 1 := by omega
  have hc := fun (g' : H) (fl : Bool) (h1 : g.n ≤ g'.n) (h2 : g'.get sid = g.get sid) => hcut g' st.length fl (by omega) h1 h2
  rw [stC_pop] at hc
  have hsl2 : sliceA 1 (.sl sid 0 1 (st.length + 1) full) none (some (.int .i64 (st.length : Nat))) none = some (.sl sid 0 1 st.length (full && decide (st.length = st.length + 1))) := by
    simp [sliceA, optBound, bound]
  obtain ⟨cs, hcs⟩ : ∃ cs, cs = frC la ta f.c.args f.at' f.loc (.sl sid 0 1 (st.length + 1) full) := ⟨_, rfl⟩
  rw [← hcs] at hget h30 hle30 hs30
  obtain ⟨fl, hfl⟩ : ∃ fl, fl = (full && decide (st.length = st.length + 1)) := ⟨_, rfl⟩
  rw [← hfl] at hsl2
  have hfin : ∃ sa', (AV.int .i64 n) = .int .i64 n ∧ FrV (g.set id (.cells (frC la ta f.c.args f.at' f.loc (.sl sid 0 1 st.length fl)) 0)) b { f with st := st } id la ta sa' ∧ (∀ j, sa'.isAt j → (AV.sl sid 0 1 (st.length + 1) full).isAt j) ∧ (g.set id (.cells (frC la ta f.c.args f.at' f.loc (.sl sid 0 1 st.length fl)) 0)).n = g.n ∧ ∀ j, j ≠ id → (g.set id (.cells (frC la ta f.c.args f.at' f.loc (.sl sid 0 1 st.length fl)) 0)).get j = g.get j :=
    ⟨.sl sid 0 1 st.length fl, rfl, ⟨by simp [get_set], v.bid, v.lt, hl, hc _ fl (by simp [n_set]) (get_set_ne hne), hne, by show st.length ≤ _; omega, v.at1⟩, fun j hj => hj, rfl, fun j h1 => get_set_ne h1⟩
  obtain ⟨r, g', hcall, sa', rfl, k⟩ := callF_K (o := call tb prim) (F := f_engine_frame_pop) (bar := bar) (h := g) (args := [.ptr id 0]) (P := fun r g' => ∃ sa', r = .int .i64 n ∧ FrV g' b { f with st := st } id la ta sa' ∧ (∀ j, sa'.isAt j → (AV.sl sid 0 1 (st.length + 1) full).isAt j) ∧ g'.n = g.n ∧ ∀ j, j ≠ id → g'.get j = g.get j) rfl rfl (fun K hK => by
    simp [f_engine_frame_pop, env0, go_sem, get_alloc, n_alloc, get_set, n_set, get_kill, n_kill, writeAt, a11, a21, a31, a41, a51, a61, a71, isNil, hget, h30, hw, hltI, indexIn, hgs, htop, hle30, hs30, hbid, optEv, hsl2]
    simp [go_sem, endP, endI, resultsA, resultA, freezeL, freezeV, AV.free.freeL, AV.free, packA, dropS]
    exact ⟨_, _, ⟨rfl, rfl⟩, hK _ _ hfin⟩)
  exact ⟨g', sa', call_of tb_engine_frame_pop hcall, k⟩
end
end Go.Ev
set_option linter.unusedSectionVars false
namespace Go.Ev
open Go
def byC (l : List Int) : List AV := l.map (AV.int .u8)
def boC (l : List Bool) : List AV := l.map AV.bool
structure MemV (g : H) (b : Nat) (M : Nat) (m : Mem) (ba da : AV) : Prop where
  get : g.get M = some (.cells [ba, .int .i64 m.most, da] 0)
  bM : b ≤ M
  lt : M < g.n
  ob : OW 1 g b ba m.b.length (byC m.b)
  od : OW 1 g b da m.dirty.length (boC m.dirty)
  nb : ¬ ba.isAt M
  nd : ¬ da.isAt M
  ap : ba.apart da
  sz : m.b.length = 64 * m.dirty.length
  m0 : 0 ≤ m.most ∧ m.most ≤ 64
  m1 : (m.dirty.length : Int) ≤ m.most
  rng : ∀ x ∈ m.b, 0 ≤ x ∧ x < 256
theorem MemV.mono {g g' : H} {b M : Nat} {m : Mem} {ba da : AV} (v : MemV g b M m ba da) (hn : g.n ≤ g'.n) (h0 : g'.get M = g.get M) (h1 : ∀ j, ba.isAt j → g'.get j = g.get j) (h2 : ∀ j, da.isAt j → g'.get j = g.get j) : MemV g' b M m ba da :=
  ⟨by rw [h0]; exact v.get, v.bM, by have := v.lt; omega, v.ob.mono hn h1, v.od.mono hn h2, v.nb, v.nd, v.ap, v.sz, v.m0, v.m1, v.rng⟩
section
variable {bar b M : Nat} {g : H} {m : Mem} {ba da : AV}
theorem pages_ok (v : MemV g b M m ba da) : call tb prim n_cells_Memory_Pages [.ptr M 0] bar g = some (.int .i64 m.dirty.length, g) := by
  refine call_of tb_cells_Memory_Pages (callF_pureW rfl rfl (M_in ?_))
  have hg := v.get
  have hl := v.od.len
  simp [f_cells_Memory_Pages, env0, go_sem, get_alloc, n_alloc, get_set, n_set, get_kill, n_kill, writeAt, a11, a21, a31, a41, a51, a61, a71, endP, endI, resultsA, resultA, freezeL, freezeV, AV.free.freeL, AV.free, packA, dropS, isNil, hg, hl]
theorem within_ok (v : MemV g b M m ba da) (at' : Int) (w : Bool) : call tb prim n_cells_Memory_within [.ptr M 0, .int .i64 at', .bool w] bar g = some (.tup [.int .i64 (wideN w), .bool (withinM m at' w)], g) := by
  refine call_of tb_cells_Memory_within (callF_pureW rfl rfl (M_in ?_))
  have hg := v.get
  have hl := v.ob.len
  have hsz : m.b.length ≤ 4096 := by have := v.sz; have := v.m0; have := v.m1; omega
  have w1 : IntKind.i64.wrap ((m.b.length : Int) - 1) = (m.b.length : Int) - 1 := w64 (by omega) (by omega)
  have w8 : IntKind.i64.wrap ((m.b.length : Int) - 8) = (m.b.length : Int) - 8 := w64 (by omega) (by omega)
  by_cases h0 : 0 ≤ at'
  · cases w <;> simp [f_cells_Memory_within, env0, go_sem, get_alloc, n_alloc, get_set, n_set, get_kill, n_kill, writeAt, a11, a21, a31, a41, a51, a61, a71, isNil, hg, hl, h0, goI, w1, w8, wideN, withinM] <;> simp [go_sem, endP, endI, resultsA, resultA, freezeL, freezeV, AV.free.freeL, AV.free, packA, dropS]
  · cases w <;> simp [f_cells_Memory_within, env0, go_sem, get_alloc, n_alloc, get_set, n_set, get_kill, n_kill, writeAt, a11, a21, a31, a41, a51, a61, a71, isNil, hg, hl, h0, goI, w1, w8, wideN, withinM] <;> simp [go_sem, endP, endI, resultsA, resultA, freezeL, freezeV, AV.free.freeL, AV.free, packA, dropS]
end
theorem leN_rng : ∀ (l : List Int) (k : Nat), l.length ≤ k → (∀ x ∈ l, 0 ≤ x ∧ x < 256) → 0 ≤ leN l ∧ leN l < 256 ^ k
  | [], k, _, _ => by
    have : (0 : Int) < 256 ^ k := Int.pow_pos (by omega)
    simp only [leN]; omega
  | x :: r, 0, h, _ => by simp at h
  | x :: r, k + 1, hk, h => by
    have h1 := h x (List.mem_cons_self ..)
    have h2 := leN_rng r k (by simpa using hk) fun y hy => h y (List.mem_cons_of_mem _ hy)
    simp only [leN, Int.pow_succ]
    omega
theorem orU {x y : Int} (hx : 0 ≤ x) (hx2 : x < 72057594037927936) (hy : 0 ≤ y) (hy2 : y < 256) : IntKind.u64.wrap (((BitVec.ofInt 64 (x * 256) ||| BitVec.ofInt 64 y).toNat : Nat) : Int) = x * 256 + y := by
  obtain ⟨x, rfl⟩ := Int.eq_ofNat_of_zero_le hx
  obtain ⟨y, rfl⟩ := Int.eq_ofNat_of_zero_le hy
  rw [BitVec.toNat_or, BitVec.toNat_ofInt, BitVec.toNat_ofInt]
  have e1 : (((x : Int) * 256) % ((2 ^ 64 : Nat) : Int)).toNat = x * 256 := by omega
  have e2 : ((y : Int) % ((2 ^ 64 : Nat) : Int)).toNat = y := by omega
  rw [e1, e2]
  have e3 : x * 256 ||| y = x * 256 + y := by
    have := Nat.shiftLeft_add_eq_or_of_lt (b := y) (i := 8) (by omega) x
    rw [Nat.shiftLeft_eq] at this
    exact this.symm
  rw [e3, wu64 (by omega) (by omega)]
  omega
section
variable {bar b M : Nat} {g : H} {m : Mem} {ba da : AV}
theorem load_loop (v : MemV g b M m ba da) (p n : Nat) (hn : n ≤ 8) (hp : p + n ≤ m.b.length) (Q : Ex → Env → H → Prop) (hq : ∀ e, e.get 10 = some (.int .u64 (leN ((m.b.drop p).take n))) → Q (.exit 0) e g) : ∀ j : Nat, j ≤ n →
    wpL (call tb prim) bar [0, 1, 10, 11] l0_cells_Memory_Load [(0, .ptr M 0), (1, .int .i64 p), (10, .int .u64 (leN ((m.b.drop (p + j)).take (n - j)))), (11, .int .i64 ((j : Int) - 1))] g Q := by
  intro j
  induction j with
  | zero =>
    intro _
    refine M_loop l0_cells_Memory_Load.eq_1 ?_
    simp [go_sem]
    exact hq _ rfl
  | succ j ih =>
    intro hj
    refine M_loop l0_cells_Memory_Load.eq_1 ?_
    have hg := v.get
    have hsz : m.b.length ≤ 4096 := by have := v.sz; have := v.m0; have := v.m1; omega
    have hlt : p + j < m.b.length := by omega
    obtain ⟨id, all, full, rfl, _, _, hgs, _, _, _, hgi, _, _⟩ := v.ob.cases (by omega)
    have hx : all[p + j]? = some (.int .u8 m.b[p + j]) := by rw [hgi _ (by omega)]; simp [byC, hlt]
    have hr := v.rng m.b[p + j] (List.getElem_mem _)
    have hw1 : IntKind.i64.wrap ((p : Int) + (j : Int)) = (p : Int) + (j : Int) := w64 (by omega) (by omega)
    have hix : indexIn (.int .i64 ((p : Int) + (j : Int))) m.b.length = some (p + j) := by
      have c1 : 0 ≤ (p : Int) + (j : Int) ∧ (p : Int) + (j : Int) < (m.b.length : Int) := by omega
      have c2 : ((p : Int) + (j : Int)).toNat = p + j := by omega
      simp only [indexIn]; rw [if_pos c1, c2]
    have hw2 : IntKind.i64.wrap ((j : Int) - 1) = (j : Int) - 1 := w64 (by omega) (by omega)
    have hrl : ∀ x ∈ (m.b.drop (p + (j + 1))).take (n - (j + 1)), 0 ≤ x ∧ x < 256 := fun x hx => v.rng x (List.mem_of_mem_drop (List.mem_of_mem_take hx))
    obtain ⟨r0, r1⟩ := leN_rng _ 7 (by rw [List.length_take]; omega) hrl
    have h7 : (256 : Int) ^ 7 = 72057594037927936 := by decide
    rw [h7] at r1
    have hnext : leN ((m.b.drop (p + j)).take (n - j)) = leN ((m.b.drop (p + (j + 1))).take (n - (j + 1))) * 256 + m.b[p + j] := by
      rw [List.drop_eq_getElem_cons hlt, show n - j = (n - (j + 1)) + 1 by omega, List.take_succ_cons]
      simp only [leN]
      rw [show p + (j + 1) = p + j + 1 by omega]
      omega
    obtain ⟨acc, hacc⟩ : ∃ acc, acc = leN ((m.b.drop (p + (j + 1))).take (n - (j + 1))) := ⟨_, rfl⟩
    rw [← hacc] at r0 r1 hnext ⊢
    have hsh : IntKind.u64.wrap (acc * 256) = acc * 256 := wu64 (by omega) (by omega)
    have hu : IntKind.u64.wrap m.b[p + j] = m.b[p + j] := wu64 (by omega) (by omega)
    have hor := orU r0 (by omega) hr.1 hr.2
    have hgo := ih (by omega)
    rw [hnext] at hgo
    have hjj : ((j + 1 : Nat) : Int) - 1 = (j : Int) := by omega
    rw [hjj]
    have hc : (0 : Int) ≤ (j : Int) := by omega
    simp [go_sem, get_alloc, n_alloc, get_set, n_set, get_kill, n_kill, writeAt, a11, a21, a31, a41, a51, a61, a71, isNil, hg, hc, hw1, hix, hgs, hx, hu, shiftA, hsh, hw2]
    rw [← hor] at hgo
    exact hgo
theorem load_ok (v : MemV g b M m ba da) (at' : Int) (w : Bool) : call tb prim n_cells_Memory_Load [.ptr M 0, .int .i64 at', .bool w] bar g = some (.tup [.int .i64 (loadM m at' w).1, .bool (loadM m at' w).2], g) := by
  refine call_of tb_cells_Memory_Load (callF_pureW rfl rfl (M_in ?_))
  have hwi := within_ok (bar := g.n) v at' w
  have hsz : m.b.length ≤ 4096 := by have := v.sz; have := v.m0; have := v.m1; omega
  unfold loadM
  by_cases hc : withinM m at' w = true
  · rw [hc] at hwi
    simp only [withinM, Bool.and_eq_true, decide_eq_true_eq] at hc
    have hn : wideN w = 1 ∨ wideN w = 8 := by cases w <;> simp [wideN]
    obtain ⟨p, rfl⟩ := Int.eq_ofNat_of_zero_le hc.1
    obtain ⟨n, hn2⟩ : ∃ n : Nat, wideN w = (n : Int) := ⟨(wideN w).toNat, by omega⟩
    rw [hn2] at hwi hc hn
    have hw1 : IntKind.i64.wrap ((n : Int) - 1) = (n : Int) - 1 := w64 (by omega) (by omega)
    have htrue : withinM m (p : Int) w = true := by simp [withinM, hn2]; omega
    rw [htrue]
    simp only [if_true, hn2, Int.toNat_natCast]
    simp [f_cells_Memory_Load, env0, go_sem, get_alloc, n_alloc, get_set, n_set, get_kill, n_kill, writeAt, a11, a21, a31, a41, a51, a61, a71, hwi, hw1]
    have h0 : leN ((m.b.drop (p + n)).take (n - n)) = 0 := by simp [leN]
    rw [← h0]
    refine load_loop (bar := g.n) v p n (by omega) (by omega) _ (fun e he => ?_) n (Nat.le_refl _)
    simp [go_sem, endP, endI, resultsA, resultA, freezeL, freezeV, AV.free.freeL, AV.free, packA, dropS, he, wI]
  · have hcf : withinM m at' w = false := by simpa using hc
    rw [hcf] at hwi ⊢
    simp [f_cells_Memory_Load, env0, go_sem, get_alloc, n_alloc, get_set, n_set, get_kill, n_kill, writeAt, a11, a21, a31, a41, a51, a61, a71, endP, endI, resultsA, resultA, freezeL, freezeV, AV.free.freeL, AV.free, packA, dropS, hwi]
end
end Go.Ev
set_option linter.unusedSectionVars false
namespace Go.Ev
open Go
def putL (b : List Int) : Nat → List Int → List Int
  | _, [] => b
  | p, v :: r => putL (b.set p v) (p + 1) r
theorem putL_eq : ∀ (l : List Int) (b : List Int) (p : Nat), p + l.length ≤ b.length → putL b p l = putB b p l
  | [], b, p, h => by simp [putL, putB]
  | v :: r, b, p, h => by
    simp only [List.length_cons] at h
    simp only [putL]
    rw [putL_eq r _ _ (by simp; omega)]
    unfold putB
    have e1 : (b.set p v).take (p + 1) = b.take p ++ [v] := by
      rw [List.set_eq_take_append_cons_drop, if_pos (by omega), List.take_append, List.take_take]
      simp [show min (p + 1) p = p by omega, show p + 1 - p = 1 by omega, show min p b.length = p by omega]
    have e2 : (b.set p v).drop (p + 1 + r.length) = b.drop (p + (v :: r).length) := by
      rw [List.drop_set_of_lt (by omega)]; simp only [List.length_cons]; congr 1; omega
    rw [e1, e2]; simp
theorem leB_len : ∀ (k : Nat) (n : Int), (leB k n).length = k
  | 0, _ => rfl
  | k + 1, n => by simp [leB, leB_len k]
theorem splice_set {A : Type} {c : A → AV} (l : List A) (i : Nat) (x : A) (hi : i < l.length) : splice (l.map c) i [c x] = (l.set i x).map c := by
  unfold splice
  rw [List.map_set, List.set_eq_take_append_cons_drop, if_pos (by simpa using hi)]
  simp
theorem wu8 (x : Int) : IntKind.u8.wrap x = x % 256 := by
  show IntKind.wrap .u8 x = _
  simp [IntKind.wrap, IntKind.signed, IntKind.bits]
section
variable {bar b M : Nat} {g : H} {m : Mem} {ba da : AV}
theorem MemV.put (v : MemV g b M m ba da) {p : Nat} {x : Int} (hp : p < m.b.length) (hx : 0 ≤ x ∧ x < 256) : ∃ id all full, ba = .sl id 0 1 m.b.length full ∧ b ≤ id ∧ g.get id = some (.cells all 0) ∧ p + 1 ≤ all.length ∧ id ≠ M ∧ ¬ da.isAt id ∧
    MemV (g.set id (.cells (splice all p [.int .u8 x]) 0)) b M ⟨m.b.set p x, m.most, m.dirty⟩ ba da := by
  have hos := v.ob
  obtain ⟨id, all, full, e, hb, hl, hgs, hle, _, _, _, hset, _⟩ := hos.cases (by omega)
  refine ⟨id, all, full, e, hb, hgs, by omega, fun q => v.nb (by rw [e]; exact q), fun q => v.ap id (by rw [e]; rfl) q, ?_⟩
  have hidM : M ≠ id := fun q => v.nb (by rw [e]; exact q.symm)
  refine ⟨by rw [get_set_ne hidM]; exact v.get, v.bM, v.lt, ?_, v.od.mono (Nat.le_refl _) (fun j hj => get_set_ne (fun q => v.ap id (by rw [e]; rfl) (q ▸ hj))), v.nb, v.nd, v.ap, by simpa using v.sz, v.m0, v.m1, fun y hy => ?_⟩
  · have := hset (g.set id (.cells (splice all p [.int .u8 x]) 0)) p [.int .u8 x] (by simp; omega) rfl (Nat.le_refl _) (by rw [get_set, if_pos rfl])
    rw [show splice (byC m.b) p [AV.int .u8 x] = byC (m.b.set p x) from splice_set m.b p x hp] at this
    simpa using this
  · rcases List.mem_or_eq_of_mem_set hy with hy | rfl
    · exact v.rng y hy
    · exact hx
theorem MemV.mark (v : MemV g b M m ba da) {p : Nat} (hp : p < m.dirty.length) : ∃ id all full, da = .sl id 0 1 m.dirty.length full ∧ b ≤ id ∧ g.get id = some (.cells all 0) ∧ p + 1 ≤ all.length ∧ id ≠ M ∧ ¬ ba.isAt id ∧
    MemV (g.set id (.cells (splice all p [.bool true]) 0)) b M ⟨m.b, m.most, m.dirty.set p true⟩ ba da := by
  have hos := v.od
  obtain ⟨id, all, full, e, hb, hl, hgs, hle, _, _, _, hset, _⟩ := hos.cases (by omega)
  refine ⟨id, all, full, e, hb, hgs, by omega, fun q => v.nd (by rw [e]; exact q), fun q => v.ap id q (by rw [e]; rfl), ?_⟩
  have hidM : M ≠ id := fun q => v.nd (by rw [e]; exact q.symm)
  refine ⟨by rw [get_set_ne hidM]; exact v.get, v.bM, v.lt, v.ob.mono (Nat.le_refl _) (fun j hj => get_set_ne (fun q => v.ap j hj (by rw [e, q]; rfl))), ?_, v.nb, v.nd, v.ap, by simpa using v.sz, v.m0, by simpa using v.m1, v.rng⟩
  have := hset (g.set id (.cells (splice all p [.bool true]) 0)) p [.bool true] (by simp; omega) rfl (Nat.le_refl _) (by rw [get_set, if_pos rfl])
  rw [show splice (boC m.dirty) p [AV.bool true] = boC (m.dirty.set p true) from splice_set m.dirty p true hp] at this
  simpa using this
def MKeep (g g' : H) (ba da : AV) : Prop := g'.n = g.n ∧ ∀ j, ¬ ba.isAt j → ¬ da.isAt j → g'.get j = g.get j
theorem store_loop (hb : bar ≤ b) (val : Int) (p n : Nat) (hn : n ≤ 8) (g0 : H) (Q : Ex → Env → H → Prop) : ∀ (k i : Nat) (g : H) (m : Mem) (nv : Int), n = i + k → p + n ≤ m.b.length → nv = val / 256 ^ i → MemV g b M m ba da → MKeep g0 g ba da →
    (∀ e g', MemV g' b M ⟨putL m.b (p + i) (leB k nv), m.most, markD m.dirty (p + i) k⟩ ba da → MKeep g0 g' ba da → Q (.exit 0) e g') →
    wpL (call tb prim) bar [0, 1, 2, 22, 23] l0_cells_Memory_Store [(0, .ptr M 0), (1, .int .i64 p), (2, .int .i64 val), (22, .int .i64 n), (23, .int .i64 i)] g Q := by
  intro k
  induction k with
  | zero =>
    intro i g m nv hk hp hnv v hk0 hq
    refine M_loop l0_cells_Memory_Store.eq_1 ?_
    have c : ¬ (i : Int) < (n : Int) := by omega
    simp [go_sem, c]
    exact hq _ g v hk0
  | succ k ih =>
    intro i g m nv hk hp hnv v hk0 hq
    refine M_loop l0_cells_Memory_Store.eq_1 ?_
    have hsz : m.b.length ≤ 4096 := by have := v.sz; have := v.m0; have := v.m1; omega
    have hlt : p + i < m.b.length := by omega
    have hdl : (p + i) / 64 < m.dirty.length := by have := v.sz; omega
    have c : (i : Int) < (n : Int) := by omega
    have hg := v.get
    have hw1 : IntKind.i64.wrap ((p : Int) + (i : Int)) = ((p + i : Nat) : Int) := by rw [w64 (by omega) (by omega)]; omega
    have hw8 : IntKind.i64.wrap (8 * (i : Int)) = ((8 * i : Nat) : Int) := by rw [w64 (by omega) (by omega)]; omega
    have hwn : IntKind.i64.wrap ((i : Int) + 1) = ((i + 1 : Nat) : Int) := w64_succ (by omega)
    have hsh : shiftA .shr .i64 val ((8 * i : Nat) : Int) = some (.int .i64 nv) := by
      have c0 : ¬ ((8 * i : Nat) : Int) < 0 := by omega
      simp only [shiftA]
      rw [if_neg c0]
      have : min (((8 * i : Nat) : Int).toNat) IntKind.i64.bits = 8 * i := by show min _ 64 = _; omega
      rw [this, Int.fdiv_eq_ediv_of_nonneg _ (Int.pow_nonneg (by omega)), hnv]
      have : (2 : Int) ^ (8 * i) = 256 ^ i := by rw [Int.pow_mul]; rfl
      rw [this]
    have hsh' : shiftA .shr .i64 val (8 * (i : Int)) = some (.int .i64 nv) := by rw [← hsh]; congr 1
    have hu8 : IntKind.u8.wrap nv = nv % 256 := wu8 nv
    obtain ⟨id, all, full, e1, hbi, hgs, hal, hidM, hidd, v1⟩ := v.put (p := p + i) (x := nv % 256) hlt (by omega)
    obtain ⟨id2, all2, full2, e2, hbi2, hgs2, hal2, hidM2, hidb2, v2⟩ := v1.mark (p := (p + i) / 64) hdl
    simp only at e2 v2
    have hix : indexIn (.int .i64 ((p + i : Nat) : Int)) m.b.length = some (p + i) := by
      simp only [indexIn]; rw [if_pos (by omega), Int.toNat_natCast]
    have hq64 : IntKind.i64.wrap (((p + i : Nat) : Int) / 64) = ((p + i : Nat) : Int) / 64 := w64 (by omega) (by omega)
    have hix2 : indexIn (.int .i64 (((p + i : Nat) : Int) / 64)) m.dirty.length = some ((p + i) / 64) := by
      have : (((p + i : Nat) : Int) / 64).toNat = (p + i) / 64 := by omega
      simp only [indexIn]; rw [if_pos (by omega), this]
    have hne2 : ¬ id2 = id := fun q => hidb2 (by rw [e1, q]; rfl)
    have hgs3 : g.get id2 = some (.cells all2 0) := by rw [← hgs2, get_set_ne hne2]
    have hbid : bar ≤ id := Nat.le_trans hb hbi
    have hbid2 : bar ≤ id2 := Nat.le_trans hb hbi2
    have hMid : ¬ M = id := fun q => hidM q.symm
    have hkeep : MKeep g0 ((g.set id (.cells (splice all (p + i) [.int .u8 (nv % 256)]) 0)).set id2 (.cells (splice all2 ((p + i) / 64) [.bool true]) 0)) ba da := by
      refine ⟨by simp only [n_set]; exact hk0.1, fun j h1 h2 => ?_⟩
      rw [get_set_ne (fun q => h2 (by rw [e2, q]; rfl)), get_set_ne (fun q => h1 (by rw [e1, q]; rfl))]
      exact hk0.2 j h1 h2
    have hgo := ih (i + 1) _ ⟨m.b.set (p + i) (nv % 256), m.most, m.dirty.set ((p + i) / 64) true⟩ (nv / 256) (by omega) (by simp; omega) (by rw [hnv, Int.ediv_ediv_of_nonneg (Int.pow_nonneg (by omega)), ← Int.pow_succ]) v2 hkeep (fun e g' h1 h2 => hq e g' (by
      rw [show p + i + 1 = p + (i + 1) by omega] at *
      simpa [putL, leB, markD, Nat.add_assoc] using h1) h2)
    obtain ⟨P, hP⟩ : ∃ P, P = p + i := ⟨_, rfl⟩
    rw [← hP] at hw1 hix hq64 hix2 hal hgs2 hal2 hgo
    subst e1 e2
    have hd64 : ¬ (64 : Int) = 0 := by omega
    simp [go_sem, get_alloc, n_alloc, get_set, n_set, get_kill, n_kill, writeAt, a11, a21, a31, a41, a51, a61, a71, c, isNil, hg, hw1, hw8, hsh', hu8, hix, hgs, hbid, hal, hMid, hq64, hix2, hgs3, hne2, hbid2, hal2, hwn, o_int]
    exact hgo
theorem store_ok (v : MemV g b M m ba da) (hb : bar ≤ b) (at' n : Int) (w : Bool) : ∃ g', call tb prim n_cells_Memory_Store [.ptr M 0, .int .i64 at', .int .i64 n, .bool w] bar g = some (.bool (storeM m at' n w).2, g') ∧ MemV g' b M (storeM m at' n w).1 ba da ∧ MKeep g g' ba da := by
  have hwi := fun g' : H => within_ok (bar := bar) v at' w
  have hsz : m.b.length ≤ 4096 := by have := v.sz; have := v.m0; have := v.m1; omega
  unfold storeM
  by_cases hc : withinM m at' w = true
  · have hc0 := hc
    rw [hc]
    simp only [withinM, Bool.and_eq_true, decide_eq_true_eq] at hc
    have hn : wideN w = 1 ∨ wideN w = 8 := by cases w <;> simp [wideN]
    obtain ⟨p, rfl⟩ := Int.eq_ofNat_of_zero_le hc.1
    obtain ⟨k, hk2⟩ : ∃ k : Nat, wideN w = (k : Int) := ⟨(wideN w).toNat, by omega⟩
    rw [hk2] at hc hn
    simp only [if_true, hk2, Int.toNat_natCast]
    have hwi' : call tb prim n_cells_Memory_within [.ptr M 0, .int .i64 (p : Int), .bool w] bar g = some (.tup [.int .i64 k, .bool true], g) := by rw [within_ok v, hc0, hk2]
    obtain ⟨r, g', hcall, rfl, h1, h2⟩ := callF_K (o := call tb prim) (F := f_cells_Memory_Store) (bar := bar) (h := g) (args := [.ptr M 0, .int .i64 (p : Int), .int .i64 n, .bool w]) (P := fun r g' => r = .bool true ∧ MemV g' b M ⟨putB m.b p (leB k n), m.most, markD m.dirty p k⟩ ba da ∧ MKeep g g' ba da) rfl rfl (fun K hK => by
      simp [f_cells_Memory_Store, env0, go_sem, get_alloc, n_alloc, get_set, n_set, get_kill, n_kill, writeAt, a11, a21, a31, a41, a51, a61, a71, hwi']
      refine store_loop hb n p k (by omega) g _ k 0 g m n (by omega) (by omega) (by simp) v ⟨rfl, fun _ _ _ => rfl⟩ (fun e g' h1 h2 => ?_)
      rw [Nat.add_zero, putL_eq _ _ _ (by rw [leB_len]; omega)] at h1
      simp [go_sem, endP, endI, resultsA, resultA, freezeL, freezeV, AV.free.freeL, AV.free, packA, dropS]
      exact ⟨_, _, ⟨rfl, rfl⟩, hK _ _ ⟨rfl, h1, h2⟩⟩)
    exact ⟨g', call_of tb_cells_Memory_Store hcall, h1, h2⟩
  · have hcf : withinM m at' w = false := by simpa using hc
    rw [hcf]
    have hwi' : call tb prim n_cells_Memory_within [.ptr M 0, .int .i64 at', .bool w] bar g = some (.tup [.int .i64 (wideN w), .bool false], g) := by rw [within_ok v, hcf]
    obtain ⟨r, g', hcall, rfl, rfl⟩ := callF_K (o := call tb prim) (F := f_cells_Memory_Store) (bar := bar) (h := g) (args := [.ptr M 0, .int .i64 at', .int .i64 n, .bool w]) (P := fun r g' => r = .bool false ∧ g' = g) rfl rfl (fun K hK => by
      simp [f_cells_Memory_Store, env0, go_sem, get_alloc, n_alloc, get_set, n_set, get_kill, n_kill, writeAt, a11, a21, a31, a41, a51, a61, a71, hwi']
      simp [go_sem, endP, endI, resultsA, resultA, freezeL, freezeV, AV.free.freeL, AV.free, packA, dropS]
      exact ⟨_, _, ⟨rfl, rfl⟩, hK _ _ ⟨rfl, rfl⟩⟩)
    exact ⟨_, call_of tb_cells_Memory_Store hcall, v, ⟨rfl, fun _ _ _ => rfl⟩⟩
end
end Go.Ev
set_option linter.unusedSectionVars false
namespace Go.Ev
open Go
theorem vw_source {k : Nat} {h : H} {a : AV} {n : Nat} {cs : List AV} (v : Vw k h a n cs) : source k h a = some (n, cs) := by
  obtain ⟨h1, h2, ⟨rfl, rfl⟩ | ⟨full, rfl⟩ | ⟨id, off, full, all, p, rfl, e2, e3, e4, e5⟩⟩ := v
  · have : cs = [] := List.length_eq_zero_iff.mp (by rw [h1]; simp)
    subst this; rfl
  · simp [Go.Ev.source, h1]
  · simp [Go.Ev.source, e3, e4, e5]
theorem appR_empty {k : Nat} {h : H} {bar : Nat} {a : AV} {n : Nat} {cs : List AV} (v : Vw k h a n cs) (hc : cs.all AV.one = true) (hk : 0 < k) (bytes : Nat) (hs : n * bytes ≤ 140737488355328) (E : Nat) (hE : h.get E = some (.cells [] 0)) (hbE : bar ≤ E) (hEn : E < h.n) (hb : bar ≤ h.n) :
    ∃ a' h', appR bar k bytes (some (.sl E 0 k 0 true)) (some a) h = some (a', h') ∧ OW k h' bar a' n cs ∧ h.n ≤ h'.n ∧ (∀ j, j < h.n → h'.get j = h.get j) ∧ (∀ j, a'.isAt j → E ≤ j) ∧ a' ≠ .nilsl := by
  by_cases hn : n = 0
  · subst hn
    have : cs = [] := List.length_eq_zero_iff.mp (by rw [v.1]; simp)
    subst this
    refine ⟨.sl E 0 k 0 true, h, ?_, ⟨by simp, rfl, .inr ⟨E, [], true, rfl, hbE, hEn, by simpa using hE⟩⟩, Nat.le_refl _, fun _ _ => rfl, fun j hj => by cases hj; exact Nat.le_refl _, by simp⟩
    simp only [appR, vw_source v, if_pos hk, appendA, if_true]
  · refine ⟨.sl h.n 0 k n false, h.alloc (.cells cs 0), ?_, ⟨v.1, hc, .inr ⟨h.n, [], false, rfl, hb, by simp [n_alloc], by simp [get_alloc]⟩⟩, by simp [n_alloc], fun j hj => by rw [get_alloc, if_neg (by omega)], fun j hj => by cases hj; omega, by simp⟩
    simp only [appR, vw_source v, if_pos hk, appendA, if_true]
    rw [if_neg hn, hE]
    simp only
    rw [if_pos ⟨by simp, by simpa using hs, by have := v.2.1; omega⟩]
    simp
section
variable {bar : Nat} {g : H} {a : AV} {n : Nat} {cs : List AV}
theorem clone_byte_ok (v : Vw 1 g a n cs) (ha : isNilK 1 a = some false) (hc : cs.all AV.one = true) (hn : n ≤ 100000) (hb : bar ≤ g.n) :
    ∃ g' r, call tb prim n_slices_Clone_byte_byte [a] bar g = some (r, g') ∧ OW 1 g' g.n r n cs ∧ g.n ≤ g'.n ∧ ∀ j, j < g.n → g'.get j = g.get j := by
  have v2 : Vw 1 (g.alloc (.cells [] 0)) a n cs := v.mono (Ag.alloc _ (Nat.le_refl _)) (Nat.le_refl _)
  obtain ⟨r, g', e1, o1, n1, f1, i1, hnn⟩ := appR_empty (bar := bar) v2 hc (by omega) 1 (by omega) g.n (by rw [get_alloc, if_pos rfl]) hb (by simp [n_alloc]) (by simp [n_alloc]; omega)
  have hone : r.one = true := o1.one
  have hfin : OW 1 g' g.n r n cs ∧ g.n ≤ g'.n ∧ ∀ j, j < g.n → g'.get j = g.get j :=
    ⟨o1.up i1, by simp [n_alloc] at n1; omega, fun j hj => by rw [f1 j (by simp [n_alloc]; omega), get_alloc, if_neg (by omega)]⟩
  obtain ⟨x, g2, hcall, hr, h1⟩ := callF_K (o := call tb prim) (F := f_slices_Clone_byte_byte) (bar := bar) (h := g) (args := [a]) (P := fun x g2 => x = r ∧ g2 = g') rfl rfl (fun K hK => by
    simp [f_slices_Clone_byte_byte, env0, go_sem, get_alloc, n_alloc, get_set, n_set, get_kill, n_kill, writeAt, a11, a21, a31, a41, a51, a61, a71, ha, evParts, fillA, e1]
    simp [go_sem, endP, endI, resultsA, resultA, freezeL, freezeV, AV.free.freeL, AV.free, packA, dropS]
    exact ⟨_, _, ⟨rfl, rfl⟩, hK _ _ ⟨rfl, rfl⟩⟩)
  subst hr h1
  exact ⟨_, _, call_of tb_slices_Clone_byte_byte hcall, hfin⟩
theorem may_ok (p mo : Int) : call tb prim n_cells_may [.int .i64 p, .int .i64 mo] bar g = some (.bool (decide (0 ≤ p) && decide (p ≤ mo) && decide (mo ≤ 64)), g) := by
  refine call_of tb_cells_may (callF_pureW rfl rfl (M_in ?_))
  by_cases h0 : 0 ≤ p
  · by_cases h1 : p ≤ mo
    · simp [f_cells_may, env0, go_sem, get_alloc, n_alloc, get_set, n_set, get_kill, n_kill, writeAt, a11, a21, a31, a41, a51, a61, a71, endP, endI, resultsA, resultA, freezeL, freezeV, AV.free.freeL, AV.free, packA, dropS, h0, h1]
    · simp [f_cells_may, env0, go_sem, get_alloc, n_alloc, get_set, n_set, get_kill, n_kill, writeAt, a11, a21, a31, a41, a51, a61, a71, endP, endI, resultsA, resultA, freezeL, freezeV, AV.free.freeL, AV.free, packA, dropS, h0, h1]
  · simp [f_cells_may, env0, go_sem, get_alloc, n_alloc, get_set, n_set, get_kill, n_kill, writeAt, a11, a21, a31, a41, a51, a61, a71, endP, endI, resultsA, resultA, freezeL, freezeV, AV.free.freeL, AV.free, packA, dropS, h0]
theorem rep_byte (n : Nat) : rep [AV.int .u8 0] n = byC (List.replicate n 0) := by
  induction n with
  | zero => rfl
  | succ n ih => simp only [rep, ih, List.replicate_succ]; rfl
theorem rep_bool (n : Nat) : rep [AV.bool false] n = boC (List.replicate n false) := by
  induction n with
  | zero => rfl
  | succ n ih => simp only [rep, ih, List.replicate_succ]; rfl
theorem of_ok {l : List Int} {q : Nat} {mo : Int} (v : Vw 1 g a (64 * q) (byC l)) (ha : isNilK 1 a = some false) (hq : (q : Int) ≤ mo) (hmo : mo ≤ 64) (hl : l.length = 64 * q) (hr : ∀ x ∈ l, 0 ≤ x ∧ x < 256) (hb : bar ≤ g.n) :
    ∃ g' M ba da, call tb prim n_cells_Of [a, .int .i64 mo] bar g = some (.ptr M 0, g') ∧ MemV g' g.n M ⟨l, mo, List.replicate q false⟩ ba da ∧ g.n ≤ g'.n ∧ ∀ j, j < g.n → g'.get j = g.get j := by
  have hlen := v.len
  have hone : (byC l).all AV.one = true := by rw [List.all_eq_true]; intro x hx; simp only [byC, List.mem_map] at hx; obtain ⟨y, _, rfl⟩ := hx; rfl
  obtain ⟨g1, ba, ec, ob, n1, f1⟩ := clone_byte_ok (bar := bar) v ha hone (by omega) hb
  have hone2 : ba.one = true := ob.one
  have hmay := fun g : H => may_ok (bar := bar) (g := g) (q : Int) mo
  have hm : (decide (0 ≤ (q : Int)) && decide ((q : Int) ≤ mo) && decide (mo ≤ 64)) = true := by simp; omega
  rw [hm] at hmay
  have hrem : (((64 * q : Nat) : Int)).tmod 64 = 0 := by rw [Int.tmod_eq_emod_of_nonneg (by omega)]; omega
  have hquo : IntKind.i64.wrap ((((64 * q : Nat) : Int)).tdiv 64) = (q : Int) := by rw [Int.tdiv_eq_ediv_of_nonneg (by omega), w64 (by omega) (by omega)]; omega
  obtain ⟨N, hN⟩ : ∃ N : Int, N = ((64 * q : Nat) : Int) := ⟨_, rfl⟩
  rw [← hN] at hrem hquo hlen
  have hq0 : (0 : Int) ≤ (q : Int) := by omega
  have hq1 : (q : Int) ≤ 140737488355328 := by omega
  have hq2 : (q : Int) ≤ 9223372036854775807 := by omega
  obtain ⟨g3, hg3⟩ : ∃ g3, g3 = (g1.alloc (.cells (boC (List.replicate q false)) 0)).alloc (.cells [ba, .int .i64 mo, .sl g1.n 0 1 q true] 0) := ⟨_, rfl⟩
  have n3 : g3.n = g1.n + 2 := by rw [hg3]; simp [n_alloc]
  have k3 : ∀ j, j < g1.n → g3.get j = g1.get j := fun j hj => by rw [hg3, get_alloc, if_neg (by simp [n_alloc]; omega), get_alloc, if_neg (by omega)]
  have ga : g3.get (g1.n + 1) = some (.cells [ba, .int .i64 mo, .sl g1.n 0 1 q true] 0) := by rw [hg3, get_alloc, if_pos (by simp [n_alloc])]
  have gd : g3.get g1.n = some (.cells (boC (List.replicate q false)) 0) := by rw [hg3, get_alloc, if_neg (by simp [n_alloc]), get_alloc, if_pos rfl]
  have hba : ∀ j, ba.isAt j → g.n ≤ j ∧ j < g1.n := fun j hj => ob.at_lt hj
  have hM : MemV g3 g.n (g1.n + 1) ⟨l, mo, List.replicate q false⟩ ba (.sl g1.n 0 1 q true) := by
    refine ⟨ga, by omega, by omega, ?_, ?_, fun h => by have := hba _ h; omega, fun h => by have h' : g1.n = g1.n + 1 := h; omega, fun j h1 h2 => by have h' : g1.n = j := h2; have := hba _ h1; omega, by simp [hl], ⟨by simp only; omega, hmo⟩, by simp; exact hq, hr⟩
    · have := ob.mono (h' := g3) (by omega) (fun j hj => k3 j (hba j hj).2)
      show OW 1 g3 g.n ba l.length _
      rw [hl]; exact this
    · refine ⟨by simp [boC], ?_, .inr ⟨g1.n, [], true, by simp, by omega, by omega, by simpa using gd⟩⟩
      rw [List.all_eq_true]; intro x hx; simp only [boC, List.mem_map] at hx; obtain ⟨y, _, rfl⟩ := hx; rfl
  obtain ⟨x, g2, hcall, hr2, h1⟩ := callF_K (o := call tb prim) (F := f_cells_Of) (bar := bar) (h := g) (args := [a, .int .i64 mo]) (P := fun x g2 => x = .ptr (g1.n + 1) 0 ∧ g2 = g3) rfl rfl (fun K hK => by
    simp [f_cells_Of, env0, go_sem, get_alloc, n_alloc, get_set, n_set, get_kill, n_kill, writeAt, a11, a21, a31, a41, a51, a61, a71, hlen, goI, ← hN, hrem, hquo, hmay, ec, hq0, hq1, hq2, rep_bool, evParts, fillA, hone2, sp30, sp31, sp32]
    rw [← hg3]
    simp [go_sem, endP, endI, resultsA, resultA, freezeL, freezeV, AV.free.freeL, AV.free, packA, dropS]
    exact ⟨_, _, ⟨rfl, rfl⟩, hK _ _ ⟨rfl, rfl⟩⟩)
  subst hr2 h1
  exact ⟨_, _, _, _, call_of tb_cells_Of hcall, hM, by omega, fun j hj => by rw [k3 j (by omega), f1 j hj]⟩
theorem new_ok (p : Nat) (mo : Int) (hp : (p : Int) ≤ mo) (hmo : mo ≤ 64) (hb : bar ≤ g.n) :
    ∃ g' M ba da, call tb prim n_cells_New [.int .i64 p, .int .i64 mo] bar g = some (.ptr M 0, g') ∧ MemV g' g.n M (zeroM p mo) ba da ∧ g.n ≤ g'.n ∧ ∀ j, j < g.n → g'.get j = g.get j := by
  have hmay := fun g : H => may_ok (bar := bar) (g := g) (p : Int) mo
  have hm : (decide (0 ≤ (p : Int)) && decide ((p : Int) ≤ mo) && decide (mo ≤ 64)) = true := by simp; omega
  rw [hm] at hmay
  have hmul : IntKind.i64.wrap ((p : Int) * 64) = ((64 * p : Nat) : Int) := by rw [w64 (by omega) (by omega)]; omega
  obtain ⟨h1, hh1⟩ : ∃ h1, h1 = g.alloc (.cells (byC (List.replicate (64 * p) 0)) 0) := ⟨_, rfl⟩
  have n1 : h1.n = g.n + 1 := by rw [hh1]; simp [n_alloc]
  have hv : Vw 1 h1 (.sl g.n 0 1 (64 * p) true) (64 * p) (byC (List.replicate (64 * p) 0)) :=
    ⟨by simp [byC], by omega, .inr (.inr ⟨g.n, 0, true, _, 0, rfl, by omega, by rw [hh1, get_alloc, if_pos rfl], by simp [byC], by simp [byC]⟩)⟩
  obtain ⟨g', M, ba, da, e1, m1, n2, f2⟩ := of_ok (bar := bar) (q := p) (mo := mo) hv rfl hp hmo (by simp) (fun x hx => by rw [List.mem_replicate] at hx; omega) (by omega)
  have hz : zeroM p mo = ⟨List.replicate (64 * p) 0, mo, List.replicate p false⟩ := by simp [zeroM, Nat.mul_comm]
  obtain ⟨N, hN⟩ : ∃ N : Int, N = ((64 * p : Nat) : Int) := ⟨_, rfl⟩
  have hNn : N.toNat = 64 * p := by omega
  rw [← hN] at hmul
  have hq0 : (0 : Int) ≤ N := by omega
  have hq1 : N ≤ 140737488355328 := by omega
  have hq2 : N ≤ 9223372036854775807 := by omega
  rw [hh1] at e1
  obtain ⟨x, g2, hcall, hr2, h2⟩ := callF_K (o := call tb prim) (F := f_cells_New) (bar := bar) (h := g) (args := [.int .i64 p, .int .i64 mo]) (P := fun x g2 => x = .ptr M 0 ∧ g2 = g') rfl rfl (fun K hK => by
    simp [f_cells_New, env0, go_sem, get_alloc, n_alloc, get_set, n_set, get_kill, n_kill, writeAt, a11, a21, a31, a41, a51, a61, a71, hmay, hmul, hq0, hq1, hq2, hNn, rep_byte, e1]
    simp [go_sem, endP, endI, resultsA, resultA, freezeL, freezeV, AV.free.freeL, AV.free, packA, dropS]
    exact ⟨_, _, ⟨rfl, rfl⟩, hK _ _ ⟨rfl, rfl⟩⟩)
  subst hr2 h2
  refine ⟨_, M, ba, da, call_of tb_cells_New hcall, ?_, by omega, fun j hj => by rw [f2 j (by omega), hh1, get_alloc, if_neg (by omega)]⟩
  rw [hz]
  exact ⟨m1.get, by have := m1.bM; omega, m1.lt, m1.ob.bar_le (by omega), m1.od.bar_le (by omega), m1.nb, m1.nd, m1.ap, m1.sz, m1.m0, m1.m1, m1.rng⟩
end
end Go.Ev
set_option linter.unusedSectionVars false
namespace Go.Ev
open Go
def anC (x : Int × Bool) : List AV := [.int .i64 x.1, .bool x.2]
def asC (x : Int × Int) : List AV := [.int .i32 x.1, .int .i64 x.2]
structure RowV (g : H) (b : Nat) (R : Nat) (r : Row) (la aa : AV) : Prop where
  get : g.get R = some (.cells [la, aa] 0)
  bR : b ≤ R
  lt : R < g.n
  l : Vw 2 g la r.l.length (r.l.flatMap anC)
  asks : OW 2 g b aa r.asks.length (r.asks.flatMap asC)
  nl : ¬ la.isAt R
  na : ¬ aa.isAt R
  ap : la.apart aa
  sm : r.asks.length ≤ 2000000
theorem Vw.at_lt' {k : Nat} {h : H} {a : AV} {n : Nat} {cs : List AV} (v : Vw k h a n cs) {j : Nat} (hj : a.isAt j) : j < h.n := by
  obtain ⟨_, _, ⟨rfl, _⟩ | ⟨full, rfl⟩ | ⟨id, off, full, all, p, rfl, e2, _⟩⟩ := v
  · exact hj.elim
  · exact hj.elim
  · cases hj; exact e2
theorem Vw.keep {k : Nat} {h h' : H} {a : AV} {n : Nat} {cs : List AV} (v : Vw k h a n cs) (hn : h.n ≤ h'.n) (hf : ∀ j, a.isAt j → h'.get j = h.get j) : Vw k h' a n cs := by
  obtain ⟨h1, h2, h3 | h3 | ⟨id, off, full, all, p, e1, e2, e3, e4, e5⟩⟩ := v
  · exact ⟨h1, h2, .inl h3⟩
  · exact ⟨h1, h2, .inr (.inl h3)⟩
  · exact ⟨h1, h2, .inr (.inr ⟨id, off, full, all, p, e1, by omega, by rw [hf id (by rw [e1]; rfl)]; exact e3, e4, e5⟩)⟩
theorem RowV.mono {g g' : H} {b R : Nat} {r : Row} {la aa : AV} (v : RowV g b R r la aa) (hn : g.n ≤ g'.n) (h0 : g'.get R = g.get R) (h1 : ∀ j, la.isAt j → g'.get j = g.get j) (h2 : ∀ j, aa.isAt j → g'.get j = g.get j) : RowV g' b R r la aa :=
  ⟨by rw [h0]; exact v.get, v.bR, by have := v.lt; omega, v.l.keep hn h1, v.asks.mono hn h2, v.nl, v.na, v.ap, v.sm⟩
section
variable {bar b R : Nat} {g : H} {r : Row} {la aa : AV}
theorem row_new_nil (hb : bar ≤ g.n) : ∃ g', call tb prim n_reply_New [.nilsl] bar g = some (.ptr g.n 0, g') ∧ RowV g' g.n g.n ⟨[], []⟩ .nilsl .nilsl ∧ g'.n = g.n + 1 ∧ ∀ j, j < g.n → g'.get j = g.get j := by
  obtain ⟨x, g2, hcall, hr2, h2⟩ := callF_K (o := call tb prim) (F := f_reply_New) (bar := bar) (h := g) (args := [.nilsl]) (P := fun x g2 => x = .ptr g.n 0 ∧ g2 = g.alloc (.cells [.nilsl, .nilsl] 0)) rfl rfl (fun K hK => by
    simp [f_reply_New, env0, go_sem, get_alloc, n_alloc, get_set, n_set, get_kill, n_kill, writeAt, a11, a21, a31, a41, a51, a61, a71, evParts, fillA, optEv, sliceA, optBound, bound]
    refine M_loop l0_reply_New.eq_1 ?_
    simp [go_sem]
    simp [go_sem, endP, endI, resultsA, resultA, freezeL, freezeV, AV.free.freeL, AV.free, packA, dropS]
    exact ⟨_, _, ⟨rfl, rfl⟩, hK _ _ ⟨rfl, rfl⟩⟩)
  subst hr2 h2
  refine ⟨_, call_of tb_reply_New hcall, ⟨by simp [get_alloc], Nat.le_refl _, by simp [n_alloc], Vw.nil, OW.nil, fun h => h, fun h => h, fun j h => h.elim, by simp⟩, by simp [n_alloc], fun j hj => by rw [get_alloc, if_neg (by omega)]⟩
theorem clone_ask_ok {l : List (Int × Int)} {a : AV} {g0 : H} (v : OW 2 g b a l.length (l.flatMap asC)) (hs : l.length ≤ 2000000) :
    ∃ r, call tb prim n_slices_Clone_api_Ask_api_Ask [a] bar g = some (r, g) ∧ FzV 2 r l.length (l.flatMap asC) := by
  obtain ⟨r, hc, h⟩ := callF_pureK (o := call tb prim) (F := f_slices_Clone_api_Ask_api_Ask) (bar := bar) (h := g) (args := [a]) (P := fun r => FzV 2 r l.length (l.flatMap asC)) rfl rfl (fun K hK => by
    have hone : (l.flatMap asC).all AV.one = true := v.2.1
    have hstill : (l.flatMap asC).all AV.still = true := by
      rw [List.all_eq_true]; intro y hy; rw [List.mem_flatMap] at hy; obtain ⟨u, _, hy⟩ := hy; simp [asC] at hy; rcases hy with rfl | rfl <;> rfl
    by_cases hz : a = .nilsl
    · subst hz
      have hl : l.length = 0 := by
        obtain ⟨_, _, ⟨_, e⟩ | ⟨id, rest, full, e, _⟩⟩ := v
        · exact e
        · cases e
      have hl0 : l = [] := List.length_eq_zero_iff.mp hl
      subst hl0
      simp [f_slices_Clone_api_Ask_api_Ask, env0, go_sem, get_alloc, n_alloc, get_set, n_set, get_kill, n_kill, writeAt, a11, a21, a31, a41, a51, a61, a71, isNilK]
      simp [go_sem, endX, resultsA, resultA, freezeL, AV.free.freeL, packA, freezeV, AV.free]
      exact hK _ ⟨rfl, by simp, .inl ⟨rfl, rfl⟩⟩
    · have ha : isNilK 1 a = some false := by
        obtain ⟨_, _, ⟨e, _⟩ | ⟨id, rest, full, e, _⟩⟩ := v
        · exact absurd e hz
        · subst e; rfl
      have v2 : Vw 2 (g.alloc (.cells [] 0)) a l.length (l.flatMap asC) := (v.vw (by omega)).mono (Ag.alloc _ (Nat.le_refl _)) (Nat.le_refl _)
      obtain ⟨x, g', e1, o1, n1, f1, i1, hnn⟩ := appR_empty (bar := g.n) v2 hone (by omega) 16 (by omega) g.n (by rw [get_alloc, if_pos rfl]) (Nat.le_refl _) (by simp [n_alloc]) (by simp [n_alloc])
      have hone2 : x.one = true := o1.one
      obtain ⟨a', h', hfz, hfv⟩ : ∃ a' h', freezeV g.n 4 g' x = some (a', h') ∧ FzV 2 a' l.length (l.flatMap asC) := by
        obtain ⟨h1, h2, ⟨rfl, e⟩ | ⟨id, rest, full, rfl, g1, g2, g3⟩⟩ := o1
        · exact absurd rfl hnn
        · refine ⟨.fz 2 l.length (l.flatMap asC) full, g'.set id (.cells (l.flatMap asC ++ rest) (max 0 (0 + l.length * 2))), ?_, h1, by omega, .inr ⟨full, rfl⟩⟩
          have hcs : ((l.flatMap asC ++ rest).drop 0).take (l.length * 2) = l.flatMap asC := by rw [List.drop_zero, ← h1, List.take_left]
          have hf : (l.flatMap asC).all AV.free = true := by rw [List.all_eq_true] at hstill ⊢; exact fun x hx => still_free (hstill x hx)
          simp only [freezeV, g3]
          rw [if_pos ⟨g1, by simp [h1]⟩, hcs, freezeL_still hstill]
          simp only
          rw [if_pos ⟨hf, h2⟩]
      simp [f_slices_Clone_api_Ask_api_Ask, env0, go_sem, get_alloc, n_alloc, get_set, n_set, get_kill, n_kill, writeAt, a11, a21, a31, a41, a51, a61, a71, ha, evParts, fillA, e1]
      simp [go_sem, endX, resultsA, resultA, freezeL, AV.free.freeL, packA, hfz, hfv.free]
      exact hK _ hfv)
  exact ⟨r, call_of tb_slices_Clone_api_Ask_api_Ask hc, h⟩
theorem asks_ok (v : RowV g b R r la aa) : ∃ x, call tb prim n_reply_Row_Asks [.ptr R 0] bar g = some (x, g) ∧ FzV 2 x r.asks.length (r.asks.flatMap asC) := by
  obtain ⟨x, hc, h⟩ := callF_pureK (o := call tb prim) (F := f_reply_Row_Asks) (bar := bar) (h := g) (args := [.ptr R 0]) (P := fun x => FzV 2 x r.asks.length (r.asks.flatMap asC)) rfl rfl (fun K hK => by
    obtain ⟨x, e1, h1⟩ := clone_ask_ok (bar := g.n) (g0 := g) v.asks v.sm
    have hg := v.get
    simp [f_reply_Row_Asks, env0, go_sem, get_alloc, n_alloc, get_set, n_set, get_kill, n_kill, writeAt, a11, a21, a31, a41, a51, a61, a71, isNil, hg, e1]
    have hfz : freezeV g.n 4 g x = some (x, g) := by
      obtain ⟨h1, h2, ⟨rfl, _⟩ | ⟨f, rfl⟩⟩ := h1 <;> simp [freezeV]
    simp [go_sem, endX, resultsA, resultA, freezeL, AV.free.freeL, packA, hfz, h1.free]
    exact hK _ h1)
  exact ⟨x, call_of tb_reply_Row_Asks hc, h⟩
end
end Go.Ev
set_option linter.unusedSectionVars false
namespace Go.Ev
open Go
theorem spR0 (a b v : AV) : splice [a, b] 0 [v] = [v, b] := Eq.trans rfl rfl
theorem spR1 (a b v : AV) : splice [a, b] 1 [v] = [a, v] := Eq.trans rfl rfl
theorem spR01 (a b u v : AV) : splice [a, b] 0 [u, v] = [u, v] := Eq.trans rfl rfl
theorem Vw.tail {A : Type} {c : A → List AV} {k : Nat} (hk : ∀ x, (c x).length = k) {h : H} {a : AV} {x : A} {l : List A} (v : Vw k h a (x :: l).length ((x :: l).flatMap c)) :
    ∃ a', sliceA k a (some (.int .i64 1)) none none = some a' ∧ a'.one = true ∧ (∀ j, a'.isAt j → a.isAt j) ∧ Vw k h a' l.length (l.flatMap c) := by
  have e1 : optBound 0 (some (AV.int .i64 1)) = some 1 := rfl
  have e2 : ∀ n, optBound n none = some n := fun _ => rfl
  have hd : ((x :: l).flatMap c).drop (1 * k) = l.flatMap c := by rw [flat_drop hk]; rfl
  have hll : (l.flatMap c).length = l.length * k := flat_len hk l
  obtain ⟨hl, hn, ⟨_, e⟩ | ⟨full, rfl⟩ | ⟨id, off, full, all, q, rfl, hid, hgi, hle, hc⟩⟩ := v
  · simp at e
  · refine ⟨.fz k ((x :: l).length - 1) ((((x :: l).flatMap c).drop (1 * k)).take (((x :: l).length - 1) * k)) (full && decide ((x :: l).length = (x :: l).length)), ?_, rfl, fun j hj => hj, ?_⟩
    · simp only [sliceA, e1, e2]
      rw [if_pos ⟨trivial, hl, by simp, Nat.le_refl _⟩]
    · rw [hd, List.take_of_length_le (by rw [hll]; simp)]
      exact Vw.fz hll (by have : (x :: l).length = l.length + 1 := rfl; omega)
  · refine ⟨.sl id (off + 1 * k) k ((x :: l).length - 1) (full && decide ((x :: l).length = (x :: l).length)), ?_, rfl, fun j hj => hj, ?_⟩
    · simp only [sliceA, e1, e2]
      rw [if_pos ⟨trivial, by simp, Nat.le_refl _⟩]
    · refine ⟨hll, by have : (x :: l).length = l.length + 1 := rfl; omega, .inr (.inr ⟨id, off + 1 * k, _, all, q, rfl, hid, hgi, ?_, ?_⟩)⟩
      · simp only [List.length_cons, Nat.succ_mul] at hle; omega
      · rw [← hd, ← hc, List.drop_take, List.drop_drop]
        congr 1
        simp only [List.length_cons, Nat.succ_mul]; omega
theorem S_vrow0 {o : Oracle} {bar : Nat} {g : H} {v : AV} {x : Int × Bool} {l : List (Int × Bool)} {n : Nat} (hv : Vw 2 g v n ((x :: l).flatMap anC)) (hn : n = l.length + 1) {c d : Nat} {r : List IOper} {ks : List Fr} {e : Env} {Q : Ex → Env → H → Prop}
    (hw : ∀ u, wpX o bar r ks ((d, .agg (anC x)) :: (c, u) :: e) g Q) : wpS o bar (iadrR 2 (some v) (some (.int .i64 0)) g) (some c) (⟨some d, .ld true 2 (.t c), none⟩ :: r) ks e Q := by
  have hrow := flat_row (c := anC) (k := 2) (fun _ => rfl) (x :: l) 0 x rfl
  have hix : indexIn (.int .i64 0) n = some 0 := by
    simp only [indexIn]; rw [if_pos ⟨by omega, by omega⟩]; rfl
  have hlen : ((x :: l).flatMap anC).length = n * 2 := hv.1
  have h2 : 2 ≤ ((x :: l).flatMap anC).length := by rw [hlen]; omega
  simp only [Nat.zero_mul, List.drop_zero] at hrow
  obtain ⟨hl, _, ⟨rfl, h2'⟩ | ⟨full, rfl⟩ | ⟨id, off, full, all, q, rfl, hid, hg, hle2, hc⟩⟩ := hv
  · omega
  · generalize (x :: l).flatMap anC = cs at *
    have hl' : (cs.length = n * 2) = True := by simpa using hl
    simp [go_sem, hix, hl', h2, hrow]
    exact hw _
  · have hrow2 : (all.drop off).take 2 = anC x := by
      rw [← hrow, ← hc, List.take_take]
      congr 1; omega
    have h3 : off + 2 ≤ all.length := by omega
    simp [go_sem, hix, hg, hrow2, h3]
    exact hw _
section
variable {bar b R : Nat} {g : H} {r : Row} {la aa : AV}
theorem ask_ok (v : RowV g b R r la aa) (hb : bar ≤ b) (hbg : b ≤ g.n) (hs : r.asks.length < 2000000) (nm n : Int) :
    ∃ g' la' aa', call tb prim n_reply_Row_Ask [.ptr R 0, .int .i32 nm, .int .i64 n] bar g = some (.tup [.int .i64 (askR r nm n).2.1, .bool (askR r nm n).2.2], g') ∧ RowV g' b R (askR r nm n).1 la' aa' ∧ (∀ j, la'.isAt j → la.isAt j) ∧ (∀ j, aa'.isAt j → g.n ≤ j) ∧ g.n ≤ g'.n ∧ ∀ j, j < g.n → j ≠ R → ¬ aa.isAt j → g'.get j = g.get j := by
  obtain ⟨h', e2, o2, n1, f1⟩ := (v.asks.bar_le hb).app (bar := bar) (by omega) 16 [.int .i32 nm, .int .i64 n] rfl rfl (by omega) (by omega) (by omega)
  have o1 : OW 2 h' b (.sl (g.n + 1) 0 2 (r.asks.length + 1) false) (r.asks ++ [(nm, n)]).length ((r.asks ++ [(nm, n)]).flatMap asC) := by
    have := o2.up (b := b) fun j hj => by cases hj; omega
    simpa [asC] using this
  have hg := v.get
  have hR := v.lt
  have hbR : bar ≤ R := Nat.le_trans hb v.bR
  have hgR : h'.get R = some (.cells [la, aa] 0) := by rw [f1 R hR v.na]; exact hg
  have hla : la.one = true := v.l.one
  have hll := v.l.len
  have hRn : ¬ R = g.n + 2 := by omega
  have hRn' : R ≠ h'.n := by omega
  obtain ⟨h2, hh2⟩ : ∃ h2, h2 = h'.set R (.cells [la, .sl (g.n + 1) 0 2 (r.asks.length + 1) false] 0) := ⟨_, rfl⟩
  have n2 : h2.n = g.n + 2 := by rw [hh2, n_set]; exact n1
  have k2 : ∀ j, j < g.n → j ≠ R → ¬ aa.isAt j → h2.get j = g.get j := fun j h1 h3 h4 => by rw [hh2, get_set_ne h3]; exact f1 j h1 h4
  have hl2 : Vw 2 h2 la r.l.length (r.l.flatMap anC) := v.l.keep (by omega) fun j hj => k2 j (v.l.at_lt' hj) (fun q => v.nl (q ▸ hj)) (v.ap j hj)
  have o3 : OW 2 h2 b (.sl (g.n + 1) 0 2 (r.asks.length + 1) false) (r.asks ++ [(nm, n)]).length ((r.asks ++ [(nm, n)]).flatMap asC) := o1.mono (by omega) fun j hj => by cases hj; rw [hh2, get_set_ne (by omega)]
  cases hr : r.l with
  | nil =>
    have e0 : askR r nm n = (⟨[], r.asks ++ [(nm, n)]⟩, 0, true) := by simp [askR, hr]
    rw [e0]
    rw [hr] at hll hl2
    have hz : ((0 : Int) == 0) = true := rfl
    have hfin : RowV h2 b R ⟨[], r.asks ++ [(nm, n)]⟩ la (.sl (g.n + 1) 0 2 (r.asks.length + 1) false) ∧ (∀ j, la.isAt j → la.isAt j) ∧ (∀ j, (AV.sl (g.n + 1) 0 2 (r.asks.length + 1) false).isAt j → g.n ≤ j) ∧ g.n ≤ h2.n ∧ ∀ j, j < g.n → j ≠ R → ¬ aa.isAt j → h2.get j = g.get j :=
      ⟨⟨by rw [hh2, get_set, if_pos rfl], v.bR, by omega, hl2, o3, v.nl, fun h => by cases h; omega, fun j h1 h3 => by cases h3; have := v.l.at_lt' h1; omega, by simp; omega⟩, fun j h => h, fun j h => by cases h; omega, by omega, k2⟩
    obtain ⟨x, g2, hcall, hr2, h2'⟩ := callF_K (o := call tb prim) (F := f_reply_Row_Ask) (bar := bar) (h := g) (args := [.ptr R 0, .int .i32 nm, .int .i64 n]) (P := fun x g2 => x = .tup [.int .i64 0, .bool true] ∧ g2 = h2) rfl rfl (fun K hK => by
      simp [f_reply_Row_Ask, env0, go_sem, get_alloc, n_alloc, get_set, n_set, get_kill, n_kill, writeAt, a11, a21, a31, a41, a51, a61, a71, isNil, hg, evParts, fillA, spR0, spR1, spR01, e2, hgR, hbR, hll, goI]
      rw [← hh2]
      simp [go_sem, endP, endI, resultsA, resultA, freezeL, freezeV, AV.free.freeL, AV.free, packA, dropS]
      exact ⟨_, _, ⟨rfl, rfl⟩, hK _ _ ⟨rfl, rfl⟩⟩)
    subst hr2 h2'
    exact ⟨_, _, _, call_of tb_reply_Row_Ask hcall, hfin⟩
  | cons x l =>
    have e0 : askR r nm n = (⟨l, r.asks ++ [(nm, n)]⟩, x.1, x.2) := by simp [askR, hr]
    rw [e0]
    rw [hr] at hll hl2
    have hz : (((l.length : Int) + 1) == 0) = false := by simp; omega
    obtain ⟨la', htl, hla1, hat, hv2⟩ := Vw.tail (c := anC) (k := 2) (fun _ => rfl) hl2
    obtain ⟨h3, hh3⟩ : ∃ h3, h3 = (h2.alloc (.cells [.int .i64 0, .bool false] 0)).set h2.n (.cells [.int .i64 x.1, .bool x.2] 0) := ⟨_, rfl⟩
    have n3 : h3.n = g.n + 3 := by rw [hh3]; simp [n_set, n_alloc, n2]
    have k3 : ∀ j, j < h2.n → h3.get j = h2.get j := fun j hj => by rw [hh3, get_set_ne (by omega), get_alloc, if_neg (by omega)]
    obtain ⟨h4, hh4⟩ : ∃ h4, h4 = h3.set R (.cells [la', .sl (g.n + 1) 0 2 (r.asks.length + 1) false] 0) := ⟨_, rfl⟩
    have n4 : h4.n = g.n + 3 := by rw [hh4, n_set]; exact n3
    have k4 : ∀ j, j < h2.n → j ≠ R → h4.get j = h2.get j := fun j h1 h3 => by rw [hh4, get_set_ne h3]; exact k3 j h1
    have hfin : RowV h4 b R ⟨l, r.asks ++ [(nm, n)]⟩ la' (.sl (g.n + 1) 0 2 (r.asks.length + 1) false) ∧ (∀ j, la'.isAt j → la.isAt j) ∧ (∀ j, (AV.sl (g.n + 1) 0 2 (r.asks.length + 1) false).isAt j → g.n ≤ j) ∧ g.n ≤ h4.n ∧ ∀ j, j < g.n → j ≠ R → ¬ aa.isAt j → h4.get j = g.get j :=
      ⟨⟨by rw [hh4, get_set, if_pos rfl], v.bR, by omega, hv2.keep (by omega) (fun j hj => k4 j (by have := v.l.at_lt' (hat j hj); omega) (fun q => v.nl (q ▸ hat j hj))), o3.mono (by omega) (fun j hj => by cases hj; exact k4 _ (by omega) (by omega)), fun h => v.nl (hat _ h), fun h => by cases h; omega, fun j h1 h5 => by cases h5; have := v.l.at_lt' (hat _ h1); omega, by simp; omega⟩, hat, fun j h => by cases h; omega, by omega, fun j h1 h5 h6 => by rw [k4 j (by omega) h5]; exact k2 j h1 h5 h6⟩
    have hrow := fun {c d : Nat} {rr : List IOper} {ks : List Fr} {e : Env} {Q : Ex → Env → H → Prop} => S_vrow0 (o := call tb prim) (bar := bar) (c := c) (d := d) (r := rr) (ks := ks) (e := e) (Q := Q) hl2 rfl
    have hg2 : h2.get R = some (.cells [la, .sl (g.n + 1) 0 2 (r.asks.length + 1) false] 0) := by rw [hh2, get_set, if_pos rfl]
    have hg3 : h3.get R = some (.cells [la, .sl (g.n + 1) 0 2 (r.asks.length + 1) false] 0) := by rw [k3 R (by omega)]; exact hg2
    obtain ⟨y, g2, hcall, hr2, h2'⟩ := callF_K (o := call tb prim) (F := f_reply_Row_Ask) (bar := bar) (h := g) (args := [.ptr R 0, .int .i32 nm, .int .i64 n]) (P := fun y g2 => y = .tup [.int .i64 x.1, .bool x.2] ∧ g2 = h4) rfl rfl (fun K hK => by
      simp [f_reply_Row_Ask, env0, go_sem, get_alloc, n_alloc, get_set, n_set, get_kill, n_kill, writeAt, a11, a21, a31, a41, a51, a61, a71, isNil, hg, evParts, fillA, spR0, spR1, spR01, e2, hgR, hbR, hll, goI, hz]
      rw [← hh2]
      refine hrow fun u => ?_
      have hb2 : bar ≤ h2.n := by omega
      have hRn2 : ¬ R = h2.n := by omega
      have hRn3 : ¬ h2.n = R := by omega
      simp [go_sem, get_alloc, n_alloc, get_set, n_set, get_kill, n_kill, writeAt, a11, a21, a31, a41, a51, a61, a71, isNil, anC, spR01, spR0, hb2, hRn2, hRn3, hg2, optEv, htl, hbR, hla1]
      rw [← hh3, ← hh4]
      simp [go_sem, endP, endI, resultsA, resultA, freezeL, freezeV, AV.free.freeL, AV.free, packA, dropS]
      exact ⟨_, _, ⟨rfl, rfl⟩, hK _ _ ⟨rfl, rfl⟩⟩)
    subst hr2 h2'
    exact ⟨_, _, _, call_of tb_reply_Row_Ask hcall, hfin⟩
end
end Go.Ev
set_option linter.unusedSectionVars false
namespace Go.Ev
open Go
section
variable {bar : Nat} {g : H}
theorem bit_ok (p : Bool) : call tb prim n_word_bit [.bool p] bar g = some (.int .i64 (bitI p), g) := by
  refine call_of tb_word_bit (callF_pureW rfl rfl (M_in ?_))
  cases p <;> simp [f_word_bit, env0, go_sem, get_alloc, n_alloc, get_set, n_set, get_kill, n_kill, writeAt, a11, a21, a31, a41, a51, a61, a71, endP, endI, resultsA, resultA, freezeL, freezeV, AV.free.freeL, AV.free, packA, dropS, bitI]
theorem parted_ok (sg a b : Int) : call tb prim n_word_parted [.int .i32 sg, .int .i64 a, .int .i64 b] bar g = some (.tup [.int .i64 (partedN sg a b).1, .int .i64 (partedN sg a b).2], g) := by
  refine call_of tb_word_parted (callF_pureW rfl rfl (M_in ?_))
  unfold partedN
  by_cases h0 : b = 0
  · subst h0; simp [f_word_parted, env0, go_sem, get_alloc, n_alloc, get_set, n_set, get_kill, n_kill, writeAt, a11, a21, a31, a41, a51, a61, a71, endP, endI, resultsA, resultA, freezeL, freezeV, AV.free.freeL, AV.free, packA, dropS]
  have h0' : (b == 0) = false := by simpa using h0
  by_cases h1 : sg = 37
  · subst h1
    by_cases h2 : b = -1
    · subst h2; simp [f_word_parted, env0, go_sem, get_alloc, n_alloc, get_set, n_set, get_kill, n_kill, writeAt, a11, a21, a31, a41, a51, a61, a71, endP, endI, resultsA, resultA, freezeL, freezeV, AV.free.freeL, AV.free, packA, dropS]
    · have h2' : (b == -1) = false := by simpa using h2
      simp [f_word_parted, env0, go_sem, get_alloc, n_alloc, get_set, n_set, get_kill, n_kill, writeAt, a11, a21, a31, a41, a51, a61, a71, endP, endI, resultsA, resultA, freezeL, freezeV, AV.free.freeL, AV.free, packA, dropS, h0', h2', h0, h2]
  · have h1' : (sg == 37) = false := by simpa using h1
    by_cases h3 : a = -9223372036854775808
    · subst h3
      by_cases h2 : b = -1
      · subst h2; simp [f_word_parted, env0, go_sem, get_alloc, n_alloc, get_set, n_set, get_kill, n_kill, writeAt, a11, a21, a31, a41, a51, a61, a71, endP, endI, resultsA, resultA, freezeL, freezeV, AV.free.freeL, AV.free, packA, dropS, h1', h1]
      · have h2' : (b == -1) = false := by simpa using h2
        simp [f_word_parted, env0, go_sem, get_alloc, n_alloc, get_set, n_set, get_kill, n_kill, writeAt, a11, a21, a31, a41, a51, a61, a71, endP, endI, resultsA, resultA, freezeL, freezeV, AV.free.freeL, AV.free, packA, dropS, h0', h1', h2', h0, h1, h2, wI]
    · have h3' : (a == -9223372036854775808) = false := by simpa using h3
      simp [f_word_parted, env0, go_sem, get_alloc, n_alloc, get_set, n_set, get_kill, n_kill, writeAt, a11, a21, a31, a41, a51, a61, a71, endP, endI, resultsA, resultA, freezeL, freezeV, AV.free.freeL, AV.free, packA, dropS, h0', h1', h3', h0, h1, h3, wI]
theorem shl_i64 (a b : Int) : shiftA .shl .i64 a (b % 64) = some (.int .i64 (wI (a * 2 ^ (b % 64).toNat))) := by
  have c0 : ¬ (b % 64) < 0 := by omega
  simp only [shiftA]
  rw [if_neg c0]
  have : min (b % 64).toNat IntKind.i64.bits = (b % 64).toNat := by show min _ 64 = _; omega
  rw [this]; rfl
theorem shr_i64 (a b : Int) : shiftA .shr .i64 a (b % 64) = some (.int .i64 (a.fdiv (2 ^ (b % 64).toNat))) := by
  have c0 : ¬ (b % 64) < 0 := by omega
  simp only [shiftA]
  rw [if_neg c0]
  have : min (b % 64).toNat IntKind.i64.bits = (b % 64).toNat := by show min _ 64 = _; omega
  rw [this]
theorem do_ok (sg a b : Int) : call tb prim n_word_Do [.int .i32 sg, .int .i64 a, .int .i64 b] bar g = some (.tup [.int .i64 (doN sg a b).1, .int .i64 (doN sg a b).2], g) := by
  refine call_of tb_word_Do (callF_pureW rfl rfl (M_in ?_))
  by_cases h1 : sg = 43
  · subst h1; simp [f_word_Do, env0, go_sem, get_alloc, n_alloc, get_set, n_set, get_kill, n_kill, writeAt, a11, a21, a31, a41, a51, a61, a71, endP, endI, resultsA, resultA, freezeL, freezeV, AV.free.freeL, AV.free, packA, dropS, doN, wI]
  by_cases h2 : sg = 45
  · subst h2; simp [f_word_Do, env0, go_sem, get_alloc, n_alloc, get_set, n_set, get_kill, n_kill, writeAt, a11, a21, a31, a41, a51, a61, a71, endP, endI, resultsA, resultA, freezeL, freezeV, AV.free.freeL, AV.free, packA, dropS, doN, wI]
  by_cases h3 : sg = 42
  · subst h3; simp [f_word_Do, env0, go_sem, get_alloc, n_alloc, get_set, n_set, get_kill, n_kill, writeAt, a11, a21, a31, a41, a51, a61, a71, endP, endI, resultsA, resultA, freezeL, freezeV, AV.free.freeL, AV.free, packA, dropS, doN, wI]
  by_cases h4 : sg = 47
  · subst h4; simp [f_word_Do, env0, go_sem, get_alloc, n_alloc, get_set, n_set, get_kill, n_kill, writeAt, a11, a21, a31, a41, a51, a61, a71, endP, endI, resultsA, resultA, freezeL, freezeV, AV.free.freeL, AV.free, packA, dropS, doN, parted_ok]
  by_cases h5 : sg = 37
  · subst h5; simp [f_word_Do, env0, go_sem, get_alloc, n_alloc, get_set, n_set, get_kill, n_kill, writeAt, a11, a21, a31, a41, a51, a61, a71, endP, endI, resultsA, resultA, freezeL, freezeV, AV.free.freeL, AV.free, packA, dropS, doN, parted_ok]
  by_cases h6 : sg = 38
  · subst h6
    simp [f_word_Do, env0, go_sem, get_alloc, n_alloc, get_set, n_set, get_kill, n_kill, writeAt, a11, a21, a31, a41, a51, a61, a71, endP, endI, resultsA, resultA, freezeL, freezeV, AV.free.freeL, AV.free, packA, dropS, doN]
    rfl
  by_cases h7 : sg = 124
  · subst h7
    simp [f_word_Do, env0, go_sem, get_alloc, n_alloc, get_set, n_set, get_kill, n_kill, writeAt, a11, a21, a31, a41, a51, a61, a71, endP, endI, resultsA, resultA, freezeL, freezeV, AV.free.freeL, AV.free, packA, dropS, doN]
    rfl
  by_cases h8 : sg = 94
  · subst h8
    simp [f_word_Do, env0, go_sem, get_alloc, n_alloc, get_set, n_set, get_kill, n_kill, writeAt, a11, a21, a31, a41, a51, a61, a71, endP, endI, resultsA, resultA, freezeL, freezeV, AV.free.freeL, AV.free, packA, dropS, doN]
    rfl
  by_cases h9 : sg = 60
  · subst h9; simp [f_word_Do, env0, go_sem, get_alloc, n_alloc, get_set, n_set, get_kill, n_kill, writeAt, a11, a21, a31, a41, a51, a61, a71, endP, endI, resultsA, resultA, freezeL, freezeV, AV.free.freeL, AV.free, packA, dropS, doN, bit_ok]
  by_cases h10 : sg = 61
  · subst h10; simp [f_word_Do, env0, go_sem, get_alloc, n_alloc, get_set, n_set, get_kill, n_kill, writeAt, a11, a21, a31, a41, a51, a61, a71, endP, endI, resultsA, resultA, freezeL, freezeV, AV.free.freeL, AV.free, packA, dropS, doN, bit_ok]
  by_cases h11 : sg = 33
  · subst h11; simp [f_word_Do, env0, go_sem, get_alloc, n_alloc, get_set, n_set, get_kill, n_kill, writeAt, a11, a21, a31, a41, a51, a61, a71, endP, endI, resultsA, resultA, freezeL, freezeV, AV.free.freeL, AV.free, packA, dropS, doN, bit_ok]
  by_cases h12 : sg = 171
  · subst h12
    have e := shl_i64 a b
    have e2 : IntKind.i64.wrap (((BitVec.ofInt 64 b &&& 63#64).toNat : Nat) : Int) = b % 64 := andI_mask b 6 (by omega)
    simp [f_word_Do, env0, go_sem, get_alloc, n_alloc, get_set, n_set, get_kill, n_kill, writeAt, a11, a21, a31, a41, a51, a61, a71, doN]
    erw [e2]
    rw [e]
    simp [go_sem, endP, endI, resultsA, resultA, freezeL, freezeV, AV.free.freeL, AV.free, packA, dropS]
  by_cases h13 : sg = 187
  · subst h13
    have e := shr_i64 a b
    have e2 : IntKind.i64.wrap (((BitVec.ofInt 64 b &&& 63#64).toNat : Nat) : Int) = b % 64 := andI_mask b 6 (by omega)
    simp [f_word_Do, env0, go_sem, get_alloc, n_alloc, get_set, n_set, get_kill, n_kill, writeAt, a11, a21, a31, a41, a51, a61, a71, doN]
    erw [e2]
    rw [e]
    simp [go_sem, endP, endI, resultsA, resultA, freezeL, freezeV, AV.free.freeL, AV.free, packA, dropS]
  have q1 : (sg == 43) = false := by simpa using h1
  have q2 : (sg == 45) = false := by simpa using h2
  have q3 : (sg == 42) = false := by simpa using h3
  have q4 : (sg == 47) = false := by simpa using h4
  have q5 : (sg == 37) = false := by simpa using h5
  have q6 : (sg == 38) = false := by simpa using h6
  have q7 : (sg == 124) = false := by simpa using h7
  have q8 : (sg == 94) = false := by simpa using h8
  have q9 : (sg == 60) = false := by simpa using h9
  have q10 : (sg == 61) = false := by simpa using h10
  have q11 : (sg == 33) = false := by simpa using h11
  have q12 : (sg == 171) = false := by simpa using h12
  have q13 : (sg == 187) = false := by simpa using h13
  simp [f_word_Do, env0, go_sem, get_alloc, n_alloc, get_set, n_set, get_kill, n_kill, writeAt, a11, a21, a31, a41, a51, a61, a71, endP, endI, resultsA, resultA, freezeL, freezeV, AV.free.freeL, AV.free, packA, dropS, doN, q1, q2, q3, q4, q5, q6, q7, q8, q9, q10, q11, q12, q13, h1, h2, h3, h4, h5, h6, h7, h8, h9, h10, h11, h12, h13]
end
end Go.Ev
set_option linter.unusedSectionVars false
namespace Go.Ev
open Go
section
variable {bar : Nat} {g : H}
theorem ir_ascii (s : ByteArray) (r : Int) (h0 : 0 ≤ r) (h1 : r < 128) : call tb prim n_strings_IndexRune [.str s, .int .i32 r] bar g = some (.int .i64 (Lib.indexByte s.data.toList r.toNat.toUInt8), g) := by
  refine call_of tb_strings_IndexRune (callF_pureW rfl rfl (M_in ?_))
  have hu : IntKind.u8.wrap r = r := by rw [wu8]; omega
  have hi2 := fun (b : Nat) (g : H) => strings_IndexByte_ok (bar := b) (h := g) s r
  simp [f_strings_IndexRune, env0, go_sem, get_alloc, n_alloc, get_set, n_set, get_kill, n_kill, writeAt, a11, a21, a31, a41, a51, a61, a71, endP, endI, resultsA, resultA, freezeL, freezeV, AV.free.freeL, AV.free, packA, dropS, h0, h1, hu, hi2]
theorem wl0 : IntKind.i64.wrap 0 = 0 := rfl
theorem wl1 : IntKind.i64.wrap 1 = 1 := rfl
theorem wl2 : IntKind.i64.wrap 2 = 2 := rfl
theorem wl3 : IntKind.i64.wrap 3 = 3 := rfl
theorem wl4 : IntKind.i64.wrap 4 = 4 := rfl
theorem wl5 : IntKind.i64.wrap 5 = 5 := rfl
theorem wl6 : IntKind.i64.wrap 6 = 6 := rfl
theorem wl7 : IntKind.i64.wrap 7 = 7 := rfl
theorem wl8 : IntKind.i64.wrap 8 = 8 := rfl
theorem ir_a171 : call tb prim n_strings_IndexRune [.str ⟨#[63, 58, 93, 126]⟩, .int .i32 171] bar g = some (.int .i64 (-1), g) := by
  refine call_of tb_strings_IndexRune (callF_pureW rfl rfl (M_in ?_))
  have hv := fun (b : Nat) (g : H) => utf8_ValidRune_ok (pr := prim) (bar := b) (h := g) 171
  have hvr : validR 171 = true := rfl
  have he : Utf8.encode 171 = ⟨#[194, 171]⟩ := by decide +kernel
  have hz : (ByteArray.mk #[194, 171]).size = 2 := rfl
  have hz4 : (ByteArray.mk #[63, 58, 93, 126]).size = 4 := rfl
  have hib := fun (b : Nat) (g : H) => strings_IndexByte_ok (bar := b) (h := g) ⟨#[93, 126]⟩ 171
  have hx : Lib.indexByte (ByteArray.mk #[93, 126]).data.toList (171 : Int).toNat.toUInt8 = -1 := by decide +kernel
  have hex : (ByteArray.mk #[63, 58, 93, 126]).extract 2 4 = ⟨#[93, 126]⟩ := by decide +kernel
  have hsl : sliceS ⟨#[63, 58, 93, 126]⟩ (some (.int .i64 2)) none = some (.str ⟨#[93, 126]⟩) := by
    simp [sliceS, optBound, bound, hz4, hex]
  rw [hx] at hib
  simp [f_strings_IndexRune, env0, go_sem, get_alloc, n_alloc, get_set, n_set, get_kill, n_kill, writeAt, a11, a21, a31, a41, a51, a61, a71, hv, hvr, he, hz, wl1, wl2]
  refine M_loop l2_strings_IndexRune.eq_1 ?_
  simp [go_sem, get_alloc, n_alloc, get_set, n_set, get_kill, n_kill, writeAt, a11, a21, a31, a41, a51, a61, a71, hz, hz4, indexIn, optEv, hsl, hib, wl0, wl1, wl2, wl3, wl4, wl5, wl6, wl7, wl8]
  simp [go_sem, endP, endI, resultsA, resultA, freezeL, freezeV, AV.free.freeL, AV.free, packA, dropS]
theorem ir_a187 : call tb prim n_strings_IndexRune [.str ⟨#[63, 58, 93, 126]⟩, .int .i32 187] bar g = some (.int .i64 (-1), g) := by
  refine call_of tb_strings_IndexRune (callF_pureW rfl rfl (M_in ?_))
  have hv := fun (b : Nat) (g : H) => utf8_ValidRune_ok (pr := prim) (bar := b) (h := g) 187
  have hvr : validR 187 = true := rfl
  have he : Utf8.encode 187 = ⟨#[194, 187]⟩ := by decide +kernel
  have hz : (ByteArray.mk #[194, 187]).size = 2 := rfl
  have hz4 : (ByteArray.mk #[63, 58, 93, 126]).size = 4 := rfl
  have hib := fun (b : Nat) (g : H) => strings_IndexByte_ok (bar := b) (h := g) ⟨#[93, 126]⟩ 187
  have hx : Lib.indexByte (ByteArray.mk #[93, 126]).data.toList (187 : Int).toNat.toUInt8 = -1 := by decide +kernel
  have hex : (ByteArray.mk #[63, 58, 93, 126]).extract 2 4 = ⟨#[93, 126]⟩ := by decide +kernel
  have hsl : sliceS ⟨#[63, 58, 93, 126]⟩ (some (.int .i64 2)) none = some (.str ⟨#[93, 126]⟩) := by
    simp [sliceS, optBound, bound, hz4, hex]
  rw [hx] at hib
  simp [f_strings_IndexRune, env0, go_sem, get_alloc, n_alloc, get_set, n_set, get_kill, n_kill, writeAt, a11, a21, a31, a41, a51, a61, a71, hv, hvr, he, hz, wl1, wl2]
  refine M_loop l2_strings_IndexRune.eq_1 ?_
  simp [go_sem, get_alloc, n_alloc, get_set, n_set, get_kill, n_kill, writeAt, a11, a21, a31, a41, a51, a61, a71, hz, hz4, indexIn, optEv, hsl, hib, wl0, wl1, wl2, wl3, wl4, wl5, wl6, wl7, wl8]
  simp [go_sem, endP, endI, resultsA, resultA, freezeL, freezeV, AV.free.freeL, AV.free, packA, dropS]
theorem ir_a169 : call tb prim n_strings_IndexRune [.str ⟨#[63, 58, 93, 126]⟩, .int .i32 169] bar g = some (.int .i64 (-1), g) := by
  refine call_of tb_strings_IndexRune (callF_pureW rfl rfl (M_in ?_))
  have hv := fun (b : Nat) (g : H) => utf8_ValidRune_ok (pr := prim) (bar := b) (h := g) 169
  have hvr : validR 169 = true := rfl
  have he : Utf8.encode 169 = ⟨#[194, 169]⟩ := by decide +kernel
  have hz : (ByteArray.mk #[194, 169]).size = 2 := rfl
  have hz4 : (ByteArray.mk #[63, 58, 93, 126]).size = 4 := rfl
  have hib := fun (b : Nat) (g : H) => strings_IndexByte_ok (bar := b) (h := g) ⟨#[93, 126]⟩ 169
  have hx : Lib.indexByte (ByteArray.mk #[93, 126]).data.toList (169 : Int).toNat.toUInt8 = -1 := by decide +kernel
  have hex : (ByteArray.mk #[63, 58, 93, 126]).extract 2 4 = ⟨#[93, 126]⟩ := by decide +kernel
  have hsl : sliceS ⟨#[63, 58, 93, 126]⟩ (some (.int .i64 2)) none = some (.str ⟨#[93, 126]⟩) := by
    simp [sliceS, optBound, bound, hz4, hex]
  rw [hx] at hib
  simp [f_strings_IndexRune, env0, go_sem, get_alloc, n_alloc, get_set, n_set, get_kill, n_kill, writeAt, a11, a21, a31, a41, a51, a61, a71, hv, hvr, he, hz, wl1, wl2]
  refine M_loop l2_strings_IndexRune.eq_1 ?_
  simp [go_sem, get_alloc, n_alloc, get_set, n_set, get_kill, n_kill, writeAt, a11, a21, a31, a41, a51, a61, a71, hz, hz4, indexIn, optEv, hsl, hib, wl0, wl1, wl2, wl3, wl4, wl5, wl6, wl7, wl8]
  simp [go_sem, endP, endI, resultsA, resultA, freezeL, freezeV, AV.free.freeL, AV.free, packA, dropS]
theorem ir_a174 : call tb prim n_strings_IndexRune [.str ⟨#[63, 58, 93, 126]⟩, .int .i32 174] bar g = some (.int .i64 (-1), g) := by
  refine call_of tb_strings_IndexRune (callF_pureW rfl rfl (M_in ?_))
  have hv := fun (b : Nat) (g : H) => utf8_ValidRune_ok (pr := prim) (bar := b) (h := g) 174
  have hvr : validR 174 = true := rfl
  have he : Utf8.encode 174 = ⟨#[194, 174]⟩ := by decide +kernel
  have hz : (ByteArray.mk #[194, 174]).size = 2 := rfl
  have hz4 : (ByteArray.mk #[63, 58, 93, 126]).size = 4 := rfl
  have hib := fun (b : Nat) (g : H) => strings_IndexByte_ok (bar := b) (h := g) ⟨#[93, 126]⟩ 174
  have hx : Lib.indexByte (ByteArray.mk #[93, 126]).data.toList (174 : Int).toNat.toUInt8 = -1 := by decide +kernel
  have hex : (ByteArray.mk #[63, 58, 93, 126]).extract 2 4 = ⟨#[93, 126]⟩ := by decide +kernel
  have hsl : sliceS ⟨#[63, 58, 93, 126]⟩ (some (.int .i64 2)) none = some (.str ⟨#[93, 126]⟩) := by
    simp [sliceS, optBound, bound, hz4, hex]
  rw [hx] at hib
  simp [f_strings_IndexRune, env0, go_sem, get_alloc, n_alloc, get_set, n_set, get_kill, n_kill, writeAt, a11, a21, a31, a41, a51, a61, a71, hv, hvr, he, hz, wl1, wl2]
  refine M_loop l2_strings_IndexRune.eq_1 ?_
  simp [go_sem, get_alloc, n_alloc, get_set, n_set, get_kill, n_kill, writeAt, a11, a21, a31, a41, a51, a61, a71, hz, hz4, indexIn, optEv, hsl, hib, wl0, wl1, wl2, wl3, wl4, wl5, wl6, wl7, wl8]
  simp [go_sem, endP, endI, resultsA, resultA, freezeL, freezeV, AV.free.freeL, AV.free, packA, dropS]
theorem ir_a164 : call tb prim n_strings_IndexRune [.str ⟨#[63, 58, 93, 126]⟩, .int .i32 164] bar g = some (.int .i64 (-1), g) := by
  refine call_of tb_strings_IndexRune (callF_pureW rfl rfl (M_in ?_))
  have hv := fun (b : Nat) (g : H) => utf8_ValidRune_ok (pr := prim) (bar := b) (h := g) 164
  have hvr : validR 164 = true := rfl
  have he : Utf8.encode 164 = ⟨#[194, 164]⟩ := by decide +kernel
  have hz : (ByteArray.mk #[194, 164]).size = 2 := rfl
  have hz4 : (ByteArray.mk #[63, 58, 93, 126]).size = 4 := rfl
  have hib := fun (b : Nat) (g : H) => strings_IndexByte_ok (bar := b) (h := g) ⟨#[93, 126]⟩ 164
  have hx : Lib.indexByte (ByteArray.mk #[93, 126]).data.toList (164 : Int).toNat.toUInt8 = -1 := by decide +kernel
  have hex : (ByteArray.mk #[63, 58, 93, 126]).extract 2 4 = ⟨#[93, 126]⟩ := by decide +kernel
  have hsl : sliceS ⟨#[63, 58, 93, 126]⟩ (some (.int .i64 2)) none = some (.str ⟨#[93, 126]⟩) := by
    simp [sliceS, optBound, bound, hz4, hex]
  rw [hx] at hib
  simp [f_strings_IndexRune, env0, go_sem, get_alloc, n_alloc, get_set, n_set, get_kill, n_kill, writeAt, a11, a21, a31, a41, a51, a61, a71, hv, hvr, he, hz, wl1, wl2]
  refine M_loop l2_strings_IndexRune.eq_1 ?_
  simp [go_sem, get_alloc, n_alloc, get_set, n_set, get_kill, n_kill, writeAt, a11, a21, a31, a41, a51, a61, a71, hz, hz4, indexIn, optEv, hsl, hib, wl0, wl1, wl2, wl3, wl4, wl5, wl6, wl7, wl8]
  simp [go_sem, endP, endI, resultsA, resultA, freezeL, freezeV, AV.free.freeL, AV.free, packA, dropS]
theorem ir_a161 : call tb prim n_strings_IndexRune [.str ⟨#[63, 58, 93, 126]⟩, .int .i32 161] bar g = some (.int .i64 (-1), g) := by
  refine call_of tb_strings_IndexRune (callF_pureW rfl rfl (M_in ?_))
  have hv := fun (b : Nat) (g : H) => utf8_ValidRune_ok (pr := prim) (bar := b) (h := g) 161
  have hvr : validR 161 = true := rfl
  have he : Utf8.encode 161 = ⟨#[194, 161]⟩ := by decide +kernel
  have hz : (ByteArray.mk #[194, 161]).size = 2 := rfl
  have hz4 : (ByteArray.mk #[63, 58, 93, 126]).size = 4 := rfl
  have hib := fun (b : Nat) (g : H) => strings_IndexByte_ok (bar := b) (h := g) ⟨#[93, 126]⟩ 161
  have hx : Lib.indexByte (ByteArray.mk #[93, 126]).data.toList (161 : Int).toNat.toUInt8 = -1 := by decide +kernel
  have hex : (ByteArray.mk #[63, 58, 93, 126]).extract 2 4 = ⟨#[93, 126]⟩ := by decide +kernel
  have hsl : sliceS ⟨#[63, 58, 93, 126]⟩ (some (.int .i64 2)) none = some (.str ⟨#[93, 126]⟩) := by
    simp [sliceS, optBound, bound, hz4, hex]
  rw [hx] at hib
  simp [f_strings_IndexRune, env0, go_sem, get_alloc, n_alloc, get_set, n_set, get_kill, n_kill, writeAt, a11, a21, a31, a41, a51, a61, a71, hv, hvr, he, hz, wl1, wl2]
  refine M_loop l2_strings_IndexRune.eq_1 ?_
  simp [go_sem, get_alloc, n_alloc, get_set, n_set, get_kill, n_kill, writeAt, a11, a21, a31, a41, a51, a61, a71, hz, hz4, indexIn, optEv, hsl, hib, wl0, wl1, wl2, wl3, wl4, wl5, wl6, wl7, wl8]
  simp [go_sem, endP, endI, resultsA, resultA, freezeL, freezeV, AV.free.freeL, AV.free, packA, dropS]
theorem ir_a960 : call tb prim n_strings_IndexRune [.str ⟨#[63, 58, 93, 126]⟩, .int .i32 960] bar g = some (.int .i64 (-1), g) := by
  refine call_of tb_strings_IndexRune (callF_pureW rfl rfl (M_in ?_))
  have hv := fun (b : Nat) (g : H) => utf8_ValidRune_ok (pr := prim) (bar := b) (h := g) 960
  have hvr : validR 960 = true := rfl
  have he : Utf8.encode 960 = ⟨#[207, 128]⟩ := by decide +kernel
  have hz : (ByteArray.mk #[207, 128]).size = 2 := rfl
  have hz4 : (ByteArray.mk #[63, 58, 93, 126]).size = 4 := rfl
  have hib := fun (b : Nat) (g : H) => strings_IndexByte_ok (bar := b) (h := g) ⟨#[93, 126]⟩ 128
  have hx : Lib.indexByte (ByteArray.mk #[93, 126]).data.toList (128 : Int).toNat.toUInt8 = -1 := by decide +kernel
  have hex : (ByteArray.mk #[63, 58, 93, 126]).extract 2 4 = ⟨#[93, 126]⟩ := by decide +kernel
  have hsl : sliceS ⟨#[63, 58, 93, 126]⟩ (some (.int .i64 2)) none = some (.str ⟨#[93, 126]⟩) := by
    simp [sliceS, optBound, bound, hz4, hex]
  rw [hx] at hib
  simp [f_strings_IndexRune, env0, go_sem, get_alloc, n_alloc, get_set, n_set, get_kill, n_kill, writeAt, a11, a21, a31, a41, a51, a61, a71, hv, hvr, he, hz, wl1, wl2]
  refine M_loop l2_strings_IndexRune.eq_1 ?_
  simp [go_sem, get_alloc, n_alloc, get_set, n_set, get_kill, n_kill, writeAt, a11, a21, a31, a41, a51, a61, a71, hz, hz4, indexIn, optEv, hsl, hib, wl0, wl1, wl2, wl3, wl4, wl5, wl6, wl7, wl8]
  simp [go_sem, endP, endI, resultsA, resultA, freezeL, freezeV, AV.free.freeL, AV.free, packA, dropS]
theorem ir_b171 : call tb prim n_strings_IndexRune [.str ⟨#[64, 194, 169, 36, 194, 174, 35, 194, 164]⟩, .int .i32 171] bar g = some (.int .i64 (-1), g) := by
  refine call_of tb_strings_IndexRune (callF_pureW rfl rfl (M_in ?_))
  have hv := fun (b : Nat) (g : H) => utf8_ValidRune_ok (pr := prim) (bar := b) (h := g) 171
  have hvr : validR 171 = true := rfl
  have he : Utf8.encode 171 = ⟨#[194, 171]⟩ := by decide +kernel
  have hz : (ByteArray.mk #[194, 171]).size = 2 := rfl
  have hz4 : (ByteArray.mk #[64, 194, 169, 36, 194, 174, 35, 194, 164]).size = 9 := rfl
  have hib := fun (b : Nat) (g : H) => strings_IndexByte_ok (bar := b) (h := g) ⟨#[169, 36, 194, 174, 35, 194, 164]⟩ 171
  have hx : Lib.indexByte (ByteArray.mk #[169, 36, 194, 174, 35, 194, 164]).data.toList (171 : Int).toNat.toUInt8 = -1 := by decide +kernel
  have hex : (ByteArray.mk #[64, 194, 169, 36, 194, 174, 35, 194, 164]).extract 2 9 = ⟨#[169, 36, 194, 174, 35, 194, 164]⟩ := by decide +kernel
  have hsl : sliceS ⟨#[64, 194, 169, 36, 194, 174, 35, 194, 164]⟩ (some (.int .i64 2)) none = some (.str ⟨#[169, 36, 194, 174, 35, 194, 164]⟩) := by
    simp [sliceS, optBound, bound, hz4, hex]
  rw [hx] at hib
  simp [f_strings_IndexRune, env0, go_sem, get_alloc, n_alloc, get_set, n_set, get_kill, n_kill, writeAt, a11, a21, a31, a41, a51, a61, a71, hv, hvr, he, hz, wl1, wl2]
  refine M_loop l2_strings_IndexRune.eq_1 ?_
  simp [go_sem, get_alloc, n_alloc, get_set, n_set, get_kill, n_kill, writeAt, a11, a21, a31, a41, a51, a61, a71, hz, hz4, indexIn, optEv, hsl, hib, wl0, wl1, wl2, wl3, wl4, wl5, wl6, wl7, wl8]
  simp [go_sem, endP, endI, resultsA, resultA, freezeL, freezeV, AV.free.freeL, AV.free, packA, dropS]
theorem ir_b187 : call tb prim n_strings_IndexRune [.str ⟨#[64, 194, 169, 36, 194, 174, 35, 194, 164]⟩, .int .i32 187] bar g = some (.int .i64 (-1), g) := by
  refine call_of tb_strings_IndexRune (callF_pureW rfl rfl (M_in ?_))
  have hv := fun (b : Nat) (g : H) => utf8_ValidRune_ok (pr := prim) (bar := b) (h := g) 187
  have hvr : validR 187 = true := rfl
  have he : Utf8.encode 187 = ⟨#[194, 187]⟩ := by decide +kernel
  have hz : (ByteArray.mk #[194, 187]).size = 2 := rfl
  have hz4 : (ByteArray.mk #[64, 194, 169, 36, 194, 174, 35, 194, 164]).size = 9 := rfl
  have hib := fun (b : Nat) (g : H) => strings_IndexByte_ok (bar := b) (h := g) ⟨#[169, 36, 194, 174, 35, 194, 164]⟩ 187
  have hx : Lib.indexByte (ByteArray.mk #[169, 36, 194, 174, 35, 194, 164]).data.toList (187 : Int).toNat.toUInt8 = -1 := by decide +kernel
  have hex : (ByteArray.mk #[64, 194, 169, 36, 194, 174, 35, 194, 164]).extract 2 9 = ⟨#[169, 36, 194, 174, 35, 194, 164]⟩ := by decide +kernel
  have hsl : sliceS ⟨#[64, 194, 169, 36, 194, 174, 35, 194, 164]⟩ (some (.int .i64 2)) none = some (.str ⟨#[169, 36, 194, 174, 35, 194, 164]⟩) := by
    simp [sliceS, optBound, bound, hz4, hex]
  rw [hx] at hib
  simp [f_strings_IndexRune, env0, go_sem, get_alloc, n_alloc, get_set, n_set, get_kill, n_kill, writeAt, a11, a21, a31, a41, a51, a61, a71, hv, hvr, he, hz, wl1, wl2]
  refine M_loop l2_strings_IndexRune.eq_1 ?_
  simp [go_sem, get_alloc, n_alloc, get_set, n_set, get_kill, n_kill, writeAt, a11, a21, a31, a41, a51, a61, a71, hz, hz4, indexIn, optEv, hsl, hib, wl0, wl1, wl2, wl3, wl4, wl5, wl6, wl7, wl8]
  simp [go_sem, endP, endI, resultsA, resultA, freezeL, freezeV, AV.free.freeL, AV.free, packA, dropS]
theorem ir_b169 : call tb prim n_strings_IndexRune [.str ⟨#[64, 194, 169, 36, 194, 174, 35, 194, 164]⟩, .int .i32 169] bar g = some (.int .i64 1, g) := by
  refine call_of tb_strings_IndexRune (callF_pureW rfl rfl (M_in ?_))
  have hv := fun (b : Nat) (g : H) => utf8_ValidRune_ok (pr := prim) (bar := b) (h := g) 169
  have hvr : validR 169 = true := rfl
  have he : Utf8.encode 169 = ⟨#[194, 169]⟩ := by decide +kernel
  have hz : (ByteArray.mk #[194, 169]).size = 2 := rfl
  have hz4 : (ByteArray.mk #[64, 194, 169, 36, 194, 174, 35, 194, 164]).size = 9 := rfl
  have hib := fun (b : Nat) (g : H) => strings_IndexByte_ok (bar := b) (h := g) ⟨#[169, 36, 194, 174, 35, 194, 164]⟩ 169
  have hx : Lib.indexByte (ByteArray.mk #[169, 36, 194, 174, 35, 194, 164]).data.toList (169 : Int).toNat.toUInt8 = 0 := by decide +kernel
  have hex : (ByteArray.mk #[64, 194, 169, 36, 194, 174, 35, 194, 164]).extract 2 9 = ⟨#[169, 36, 194, 174, 35, 194, 164]⟩ := by decide +kernel
  have hsl : sliceS ⟨#[64, 194, 169, 36, 194, 174, 35, 194, 164]⟩ (some (.int .i64 2)) none = some (.str ⟨#[169, 36, 194, 174, 35, 194, 164]⟩) := by
    simp [sliceS, optBound, bound, hz4, hex]
  rw [hx] at hib
  simp [f_strings_IndexRune, env0, go_sem, get_alloc, n_alloc, get_set, n_set, get_kill, n_kill, writeAt, a11, a21, a31, a41, a51, a61, a71, hv, hvr, he, hz, wl1, wl2]
  refine M_loop l2_strings_IndexRune.eq_1 ?_
  simp [go_sem, get_alloc, n_alloc, get_set, n_set, get_kill, n_kill, writeAt, a11, a21, a31, a41, a51, a61, a71, hz, hz4, indexIn, optEv, hsl, hib, wl0, wl1, wl2, wl3, wl4, wl5, wl6, wl7, wl8]
  refine M_loop l1_strings_IndexRune.eq_1 ?_
  simp [go_sem, get_alloc, n_alloc, get_set, n_set, get_kill, n_kill, writeAt, a11, a21, a31, a41, a51, a61, a71, hz, hz4, indexIn, wl0, wl1, wl2, wl3, wl4, wl5, wl6, wl7, wl8]
  refine M_loop l1_strings_IndexRune.eq_1 ?_
  simp [go_sem, get_alloc, n_alloc, get_set, n_set, get_kill, n_kill, writeAt, a11, a21, a31, a41, a51, a61, a71, hz, hz4, indexIn, wl0, wl1, wl2, wl3, wl4, wl5, wl6, wl7, wl8]
  simp [go_sem, endP, endI, resultsA, resultA, freezeL, freezeV, AV.free.freeL, AV.free, packA, dropS]
theorem ir_b174 : call tb prim n_strings_IndexRune [.str ⟨#[64, 194, 169, 36, 194, 174, 35, 194, 164]⟩, .int .i32 174] bar g = some (.int .i64 4, g) := by
  refine call_of tb_strings_IndexRune (callF_pureW rfl rfl (M_in ?_))
  have hv := fun (b : Nat) (g : H) => utf8_ValidRune_ok (pr := prim) (bar := b) (h := g) 174
  have hvr : validR 174 = true := rfl
  have he : Utf8.encode 174 = ⟨#[194, 174]⟩ := by decide +kernel
  have hz : (ByteArray.mk #[194, 174]).size = 2 := rfl
  have hz4 : (ByteArray.mk #[64, 194, 169, 36, 194, 174, 35, 194, 164]).size = 9 := rfl
  have hib := fun (b : Nat) (g : H) => strings_IndexByte_ok (bar := b) (h := g) ⟨#[169, 36, 194, 174, 35, 194, 164]⟩ 174
  have hx : Lib.indexByte (ByteArray.mk #[169, 36, 194, 174, 35, 194, 164]).data.toList (174 : Int).toNat.toUInt8 = 3 := by decide +kernel
  have hex : (ByteArray.mk #[64, 194, 169, 36, 194, 174, 35, 194, 164]).extract 2 9 = ⟨#[169, 36, 194, 174, 35, 194, 164]⟩ := by decide +kernel
  have hsl : sliceS ⟨#[64, 194, 169, 36, 194, 174, 35, 194, 164]⟩ (some (.int .i64 2)) none = some (.str ⟨#[169, 36, 194, 174, 35, 194, 164]⟩) := by
    simp [sliceS, optBound, bound, hz4, hex]
  rw [hx] at hib
  simp [f_strings_IndexRune, env0, go_sem, get_alloc, n_alloc, get_set, n_set, get_kill, n_kill, writeAt, a11, a21, a31, a41, a51, a61, a71, hv, hvr, he, hz, wl1, wl2]
  refine M_loop l2_strings_IndexRune.eq_1 ?_
  simp [go_sem, get_alloc, n_alloc, get_set, n_set, get_kill, n_kill, writeAt, a11, a21, a31, a41, a51, a61, a71, hz, hz4, indexIn, optEv, hsl, hib, wl0, wl1, wl2, wl3, wl4, wl5, wl6, wl7, wl8]
  refine M_loop l1_strings_IndexRune.eq_1 ?_
  simp [go_sem, get_alloc, n_alloc, get_set, n_set, get_kill, n_kill, writeAt, a11, a21, a31, a41, a51, a61, a71, hz, hz4, indexIn, wl0, wl1, wl2, wl3, wl4, wl5, wl6, wl7, wl8]
  refine M_loop l1_strings_IndexRune.eq_1 ?_
  simp [go_sem, get_alloc, n_alloc, get_set, n_set, get_kill, n_kill, writeAt, a11, a21, a31, a41, a51, a61, a71, hz, hz4, indexIn, wl0, wl1, wl2, wl3, wl4, wl5, wl6, wl7, wl8]
  simp [go_sem, endP, endI, resultsA, resultA, freezeL, freezeV, AV.free.freeL, AV.free, packA, dropS]
theorem ir_b164 : call tb prim n_strings_IndexRune [.str ⟨#[64, 194, 169, 36, 194, 174, 35, 194, 164]⟩, .int .i32 164] bar g = some (.int .i64 7, g) := by
  refine call_of tb_strings_IndexRune (callF_pureW rfl rfl (M_in ?_))
  have hv := fun (b : Nat) (g : H) => utf8_ValidRune_ok (pr := prim) (bar := b) (h := g) 164
  have hvr : validR 164 = true := rfl
  have he : Utf8.encode 164 = ⟨#[194, 164]⟩ := by decide +kernel
  have hz : (ByteArray.mk #[194, 164]).size = 2 := rfl
  have hz4 : (ByteArray.mk #[64, 194, 169, 36, 194, 174, 35, 194, 164]).size = 9 := rfl
  have hib := fun (b : Nat) (g : H) => strings_IndexByte_ok (bar := b) (h := g) ⟨#[169, 36, 194, 174, 35, 194, 164]⟩ 164
  have hx : Lib.indexByte (ByteArray.mk #[169, 36, 194, 174, 35, 194, 164]).data.toList (164 : Int).toNat.toUInt8 = 6 := by decide +kernel
  have hex : (ByteArray.mk #[64, 194, 169, 36, 194, 174, 35, 194, 164]).extract 2 9 = ⟨#[169, 36, 194, 174, 35, 194, 164]⟩ := by decide +kernel
  have hsl : sliceS ⟨#[64, 194, 169, 36, 194, 174, 35, 194, 164]⟩ (some (.int .i64 2)) none = some (.str ⟨#[169, 36, 194, 174, 35, 194, 164]⟩) := by
    simp [sliceS, optBound, bound, hz4, hex]
  rw [hx] at hib
  simp [f_strings_IndexRune, env0, go_sem, get_alloc, n_alloc, get_set, n_set, get_kill, n_kill, writeAt, a11, a21, a31, a41, a51, a61, a71, hv, hvr, he, hz, wl1, wl2]
  refine M_loop l2_strings_IndexRune.eq_1 ?_
  simp [go_sem, get_alloc, n_alloc, get_set, n_set, get_kill, n_kill, writeAt, a11, a21, a31, a41, a51, a61, a71, hz, hz4, indexIn, optEv, hsl, hib, wl0, wl1, wl2, wl3, wl4, wl5, wl6, wl7, wl8]
  refine M_loop l1_strings_IndexRune.eq_1 ?_
  simp [go_sem, get_alloc, n_alloc, get_set, n_set, get_kill, n_kill, writeAt, a11, a21, a31, a41, a51, a61, a71, hz, hz4, indexIn, wl0, wl1, wl2, wl3, wl4, wl5, wl6, wl7, wl8]
  refine M_loop l1_strings_IndexRune.eq_1 ?_
  simp [go_sem, get_alloc, n_alloc, get_set, n_set, get_kill, n_kill, writeAt, a11, a21, a31, a41, a51, a61, a71, hz, hz4, indexIn, wl0, wl1, wl2, wl3, wl4, wl5, wl6, wl7, wl8]
  simp [go_sem, endP, endI, resultsA, resultA, freezeL, freezeV, AV.free.freeL, AV.free, packA, dropS]
theorem ir_b161 : call tb prim n_strings_IndexRune [.str ⟨#[64, 194, 169, 36, 194, 174, 35, 194, 164]⟩, .int .i32 161] bar g = some (.int .i64 (-1), g) := by
  refine call_of tb_strings_IndexRune (callF_pureW rfl rfl (M_in ?_))
  have hv := fun (b : Nat) (g : H) => utf8_ValidRune_ok (pr := prim) (bar := b) (h := g) 161
  have hvr : validR 161 = true := rfl
  have he : Utf8.encode 161 = ⟨#[194, 161]⟩ := by decide +kernel
  have hz : (ByteArray.mk #[194, 161]).size = 2 := rfl
  have hz4 : (ByteArray.mk #[64, 194, 169, 36, 194, 174, 35, 194, 164]).size = 9 := rfl
  have hib := fun (b : Nat) (g : H) => strings_IndexByte_ok (bar := b) (h := g) ⟨#[169, 36, 194, 174, 35, 194, 164]⟩ 161
  have hx : Lib.indexByte (ByteArray.mk #[169, 36, 194, 174, 35, 194, 164]).data.toList (161 : Int).toNat.toUInt8 = -1 := by decide +kernel
  have hex : (ByteArray.mk #[64, 194, 169, 36, 194, 174, 35, 194, 164]).extract 2 9 = ⟨#[169, 36, 194, 174, 35, 194, 164]⟩ := by decide +kernel
  have hsl : sliceS ⟨#[64, 194, 169, 36, 194, 174, 35, 194, 164]⟩ (some (.int .i64 2)) none = some (.str ⟨#[169, 36, 194, 174, 35, 194, 164]⟩) := by
    simp [sliceS, optBound, bound, hz4, hex]
  rw [hx] at hib
  simp [f_strings_IndexRune, env0, go_sem, get_alloc, n_alloc, get_set, n_set, get_kill, n_kill, writeAt, a11, a21, a31, a41, a51, a61, a71, hv, hvr, he, hz, wl1, wl2]
  refine M_loop l2_strings_IndexRune.eq_1 ?_
  simp [go_sem, get_alloc, n_alloc, get_set, n_set, get_kill, n_kill, writeAt, a11, a21, a31, a41, a51, a61, a71, hz, hz4, indexIn, optEv, hsl, hib, wl0, wl1, wl2, wl3, wl4, wl5, wl6, wl7, wl8]
  simp [go_sem, endP, endI, resultsA, resultA, freezeL, freezeV, AV.free.freeL, AV.free, packA, dropS]
theorem ir_b960 : call tb prim n_strings_IndexRune [.str ⟨#[64, 194, 169, 36, 194, 174, 35, 194, 164]⟩, .int .i32 960] bar g = some (.int .i64 (-1), g) := by
  refine call_of tb_strings_IndexRune (callF_pureW rfl rfl (M_in ?_))
  have hv := fun (b : Nat) (g : H) => utf8_ValidRune_ok (pr := prim) (bar := b) (h := g) 960
  have hvr : validR 960 = true := rfl
  have he : Utf8.encode 960 = ⟨#[207, 128]⟩ := by decide +kernel
  have hz : (ByteArray.mk #[207, 128]).size = 2 := rfl
  have hz4 : (ByteArray.mk #[64, 194, 169, 36, 194, 174, 35, 194, 164]).size = 9 := rfl
  have hib := fun (b : Nat) (g : H) => strings_IndexByte_ok (bar := b) (h := g) ⟨#[169, 36, 194, 174, 35, 194, 164]⟩ 128
  have hx : Lib.indexByte (ByteArray.mk #[169, 36, 194, 174, 35, 194, 164]).data.toList (128 : Int).toNat.toUInt8 = -1 := by decide +kernel
  have hex : (ByteArray.mk #[64, 194, 169, 36, 194, 174, 35, 194, 164]).extract 2 9 = ⟨#[169, 36, 194, 174, 35, 194, 164]⟩ := by decide +kernel
  have hsl : sliceS ⟨#[64, 194, 169, 36, 194, 174, 35, 194, 164]⟩ (some (.int .i64 2)) none = some (.str ⟨#[169, 36, 194, 174, 35, 194, 164]⟩) := by
    simp [sliceS, optBound, bound, hz4, hex]
  rw [hx] at hib
  simp [f_strings_IndexRune, env0, go_sem, get_alloc, n_alloc, get_set, n_set, get_kill, n_kill, writeAt, a11, a21, a31, a41, a51, a61, a71, hv, hvr, he, hz, wl1, wl2]
  refine M_loop l2_strings_IndexRune.eq_1 ?_
  simp [go_sem, get_alloc, n_alloc, get_set, n_set, get_kill, n_kill, writeAt, a11, a21, a31, a41, a51, a61, a71, hz, hz4, indexIn, optEv, hsl, hib, wl0, wl1, wl2, wl3, wl4, wl5, wl6, wl7, wl8]
  simp [go_sem, endP, endI, resultsA, resultA, freezeL, freezeV, AV.free.freeL, AV.free, packA, dropS]
def sgG (r : Int) : Bool := decide (r = 43 ∨ r = 45 ∨ r = 42 ∨ r = 47 ∨ r = 37 ∨ r = 38 ∨ r = 124 ∨ r = 94 ∨ r = 60 ∨ r = 61 ∨ r = 33 ∨ r = 46 ∨ r = 44 ∨ r = 64 ∨ r = 36 ∨ r = 35 ∨ r = 63 ∨ r = 58 ∨ r = 59 ∨ r = 91 ∨ r = 93 ∨ r = 126 ∨ r = 171 ∨ r = 187 ∨ r = 169 ∨ r = 174 ∨ r = 164 ∨ r = 161 ∨ r = 960)
theorem con_of {s : ByteArray} {r i : Int} (h : ∀ (b : Nat) (g : H), call tb prim n_strings_IndexRune [.str s, .int .i32 r] b g = some (.int .i64 i, g)) : call tb prim n_strings_ContainsRune [.str s, .int .i32 r] bar g = some (.bool (decide (0 ≤ i)), g) := by
  refine call_of tb_strings_ContainsRune (callF_pureW rfl rfl (M_in ?_))
  simp [f_strings_ContainsRune, env0, go_sem, get_alloc, n_alloc, get_set, n_set, get_kill, n_kill, writeAt, a11, a21, a31, a41, a51, a61, a71, endP, endI, resultsA, resultA, freezeL, freezeV, AV.free.freeL, AV.free, packA, dropS, h]
theorem con_a {r : Int} (h : sgG r = true) : call tb prim n_strings_ContainsRune [.str ⟨#[63, 58, 93, 126]⟩, .int .i32 r] bar g = some (.bool (isGo r), g) := by
  have h' : r = 43 ∨ r = 45 ∨ r = 42 ∨ r = 47 ∨ r = 37 ∨ r = 38 ∨ r = 124 ∨ r = 94 ∨ r = 60 ∨ r = 61 ∨ r = 33 ∨ r = 46 ∨ r = 44 ∨ r = 64 ∨ r = 36 ∨ r = 35 ∨ r = 63 ∨ r = 58 ∨ r = 59 ∨ r = 91 ∨ r = 93 ∨ r = 126 ∨ r = 171 ∨ r = 187 ∨ r = 169 ∨ r = 174 ∨ r = 164 ∨ r = 161 ∨ r = 960 := by simpa [sgG] using h
  rcases h' with rfl | rfl | rfl | rfl | rfl | rfl | rfl | rfl | rfl | rfl | rfl | rfl | rfl | rfl | rfl | rfl | rfl | rfl | rfl | rfl | rfl | rfl | rfl | rfl | rfl | rfl | rfl | rfl | rfl
  · exact (con_of (i := Lib.indexByte (ByteArray.mk #[63, 58, 93, 126]).data.toList (43 : Int).toNat.toUInt8) (fun b g => ir_ascii _ 43 (by omega) (by omega))).trans (by rw [show (decide (0 ≤ Lib.indexByte (ByteArray.mk #[63, 58, 93, 126]).data.toList (43 : Int).toNat.toUInt8)) = isGo 43 from by decide +kernel])
  · exact (con_of (i := Lib.indexByte (ByteArray.mk #[63, 58, 93, 126]).data.toList (45 : Int).toNat.toUInt8) (fun b g => ir_ascii _ 45 (by omega) (by omega))).trans (by rw [show (decide (0 ≤ Lib.indexByte (ByteArray.mk #[63, 58, 93, 126]).data.toList (45 : Int).toNat.toUInt8)) = isGo 45 from by decide +kernel])
  · exact (con_of (i := Lib.indexByte (ByteArray.mk #[63, 58, 93, 126]).data.toList (42 : Int).toNat.toUInt8) (fun b g => ir_ascii _ 42 (by omega) (by omega))).trans (by rw [show (decide (0 ≤ Lib.indexByte (ByteArray.mk #[63, 58, 93, 126]).data.toList (42 : Int).toNat.toUInt8)) = isGo 42 from by decide +kernel])
  · exact (con_of (i := Lib.indexByte (ByteArray.mk #[63, 58, 93, 126]).data.toList (47 : Int).toNat.toUInt8) (fun b g => ir_ascii _ 47 (by omega) (by omega))).trans (by rw [show (decide (0 ≤ Lib.indexByte (ByteArray.mk #[63, 58, 93, 126]).data.toList (47 : Int).toNat.toUInt8)) = isGo 47 from by decide +kernel])
  · exact (con_of (i := Lib.indexByte (ByteArray.mk #[63, 58, 93, 126]).data.toList (37 : Int).toNat.toUInt8) (fun b g => ir_ascii _ 37 (by omega) (by omega))).trans (by rw [show (decide (0 ≤ Lib.indexByte (ByteArray.mk #[63, 58, 93, 126]).data.toList (37 : Int).toNat.toUInt8)) = isGo 37 from by decide +kernel])
  · exact (con_of (i := Lib.indexByte (ByteArray.mk #[63, 58, 93, 126]).data.toList (38 : Int).toNat.toUInt8) (fun b g => ir_ascii _ 38 (by omega) (by omega))).trans (by rw [show (decide (0 ≤ Lib.indexByte (ByteArray.mk #[63, 58, 93, 126]).data.toList (38 : Int).toNat.toUInt8)) = isGo 38 from by decide +kernel])
  · exact (con_of (i := Lib.indexByte (ByteArray.mk #[63, 58, 93, 126]).data.toList (124 : Int).toNat.toUInt8) (fun b g => ir_ascii _ 124 (by omega) (by omega))).trans (by rw [show (decide (0 ≤ Lib.indexByte (ByteArray.mk #[63, 58, 93, 126]).data.toList (124 : Int).toNat.toUInt8)) = isGo 124 from by decide +kernel])
  · exact (con_of (i := Lib.indexByte (ByteArray.mk #[63, 58, 93, 126]).data.toList (94 : Int).toNat.toUInt8) (fun b g => ir_ascii _ 94 (by omega) (by omega))).trans (by rw [show (decide (0 ≤ Lib.indexByte (ByteArray.mk #[63, 58, 93, 126]).data.toList (94 : Int).toNat.toUInt8)) = isGo 94 from by decide +kernel])
  · exact (con_of (i := Lib.indexByte (ByteArray.mk #[63, 58, 93, 126]).data.toList (60 : Int).toNat.toUInt8) (fun b g => ir_ascii _ 60 (by omega) (by omega))).trans (by rw [show (decide (0 ≤ Lib.indexByte (ByteArray.mk #[63, 58, 93, 126]).data.toList (60 : Int).toNat.toUInt8)) = isGo 60 from by decide +kernel])
  · exact (con_of (i := Lib.indexByte (ByteArray.mk #[63, 58, 93, 126]).data.toList (61 : Int).toNat.toUInt8) (fun b g => ir_ascii _ 61 (by omega) (by omega))).trans (by rw [show (decide (0 ≤ Lib.indexByte (ByteArray.mk #[63, 58, 93, 126]).data.toList (61 : Int).toNat.toUInt8)) = isGo 61 from by decide +kernel])
  · exact (con_of (i := Lib.indexByte (ByteArray.mk #[63, 58, 93, 126]).data.toList (33 : Int).toNat.toUInt8) (fun b g => ir_ascii _ 33 (by omega) (by omega))).trans (by rw [show (decide (0 ≤ Lib.indexByte (ByteArray.mk #[63, 58, 93, 126]).data.toList (33 : Int).toNat.toUInt8)) = isGo 33 from by decide +kernel])
  · exact (con_of (i := Lib.indexByte (ByteArray.mk #[63, 58, 93, 126]).data.toList (46 : Int).toNat.toUInt8) (fun b g => ir_ascii _ 46 (by omega) (by omega))).trans (by rw [show (decide (0 ≤ Lib.indexByte (ByteArray.mk #[63, 58, 93, 126]).data.toList (46 : Int).toNat.toUInt8)) = isGo 46 from by decide +kernel])
  · exact (con_of (i := Lib.indexByte (ByteArray.mk #[63, 58, 93, 126]).data.toList (44 : Int).toNat.toUInt8) (fun b g => ir_ascii _ 44 (by omega) (by omega))).trans (by rw [show (decide (0 ≤ Lib.indexByte (ByteArray.mk #[63, 58, 93, 126]).data.toList (44 : Int).toNat.toUInt8)) = isGo 44 from by decide +kernel])
  · exact (con_of (i := Lib.indexByte (ByteArray.mk #[63, 58, 93, 126]).data.toList (64 : Int).toNat.toUInt8) (fun b g => ir_ascii _ 64 (by omega) (by omega))).trans (by rw [show (decide (0 ≤ Lib.indexByte (ByteArray.mk #[63, 58, 93, 126]).data.toList (64 : Int).toNat.toUInt8)) = isGo 64 from by decide +kernel])
  · exact (con_of (i := Lib.indexByte (ByteArray.mk #[63, 58, 93, 126]).data.toList (36 : Int).toNat.toUInt8) (fun b g => ir_ascii _ 36 (by omega) (by omega))).trans (by rw [show (decide (0 ≤ Lib.indexByte (ByteArray.mk #[63, 58, 93, 126]).data.toList (36 : Int).toNat.toUInt8)) = isGo 36 from by decide +kernel])
  · exact (con_of (i := Lib.indexByte (ByteArray.mk #[63, 58, 93, 126]).data.toList (35 : Int).toNat.toUInt8) (fun b g => ir_ascii _ 35 (by omega) (by omega))).trans (by rw [show (decide (0 ≤ Lib.indexByte (ByteArray.mk #[63, 58, 93, 126]).data.toList (35 : Int).toNat.toUInt8)) = isGo 35 from by decide +kernel])
  · exact (con_of (i := Lib.indexByte (ByteArray.mk #[63, 58, 93, 126]).data.toList (63 : Int).toNat.toUInt8) (fun b g => ir_ascii _ 63 (by omega) (by omega))).trans (by rw [show (decide (0 ≤ Lib.indexByte (ByteArray.mk #[63, 58, 93, 126]).data.toList (63 : Int).toNat.toUInt8)) = isGo 63 from by decide +kernel])
  · exact (con_of (i := Lib.indexByte (ByteArray.mk #[63, 58, 93, 126]).data.toList (58 : Int).toNat.toUInt8) (fun b g => ir_ascii _ 58 (by omega) (by omega))).trans (by rw [show (decide (0 ≤ Lib.indexByte (ByteArray.mk #[63, 58, 93, 126]).data.toList (58 : Int).toNat.toUInt8)) = isGo 58 from by decide +kernel])
  · exact (con_of (i := Lib.indexByte (ByteArray.mk #[63, 58, 93, 126]).data.toList (59 : Int).toNat.toUInt8) (fun b g => ir_ascii _ 59 (by omega) (by omega))).trans (by rw [show (decide (0 ≤ Lib.indexByte (ByteArray.mk #[63, 58, 93, 126]).data.toList (59 : Int).toNat.toUInt8)) = isGo 59 from by decide +kernel])
  · exact (con_of (i := Lib.indexByte (ByteArray.mk #[63, 58, 93, 126]).data.toList (91 : Int).toNat.toUInt8) (fun b g => ir_ascii _ 91 (by omega) (by omega))).trans (by rw [show (decide (0 ≤ Lib.indexByte (ByteArray.mk #[63, 58, 93, 126]).data.toList (91 : Int).toNat.toUInt8)) = isGo 91 from by decide +kernel])
  · exact (con_of (i := Lib.indexByte (ByteArray.mk #[63, 58, 93, 126]).data.toList (93 : Int).toNat.toUInt8) (fun b g => ir_ascii _ 93 (by omega) (by omega))).trans (by rw [show (decide (0 ≤ Lib.indexByte (ByteArray.mk #[63, 58, 93, 126]).data.toList (93 : Int).toNat.toUInt8)) = isGo 93 from by decide +kernel])
  · exact (con_of (i := Lib.indexByte (ByteArray.mk #[63, 58, 93, 126]).data.toList (126 : Int).toNat.toUInt8) (fun b g => ir_ascii _ 126 (by omega) (by omega))).trans (by rw [show (decide (0 ≤ Lib.indexByte (ByteArray.mk #[63, 58, 93, 126]).data.toList (126 : Int).toNat.toUInt8)) = isGo 126 from by decide +kernel])
  · exact (con_of (fun b g => ir_a171)).trans rfl
  · exact (con_of (fun b g => ir_a187)).trans rfl
  · exact (con_of (fun b g => ir_a169)).trans rfl
  · exact (con_of (fun b g => ir_a174)).trans rfl
  · exact (con_of (fun b g => ir_a164)).trans rfl
  · exact (con_of (fun b g => ir_a161)).trans rfl
  · exact (con_of (fun b g => ir_a960)).trans rfl
theorem con_b {r : Int} (h : sgG r = true) : call tb prim n_strings_ContainsRune [.str ⟨#[64, 194, 169, 36, 194, 174, 35, 194, 164]⟩, .int .i32 r] bar g = some (.bool (isMemS r), g) := by
  have h' : r = 43 ∨ r = 45 ∨ r = 42 ∨ r = 47 ∨ r = 37 ∨ r = 38 ∨ r = 124 ∨ r = 94 ∨ r = 60 ∨ r = 61 ∨ r = 33 ∨ r = 46 ∨ r = 44 ∨ r = 64 ∨ r = 36 ∨ r = 35 ∨ r = 63 ∨ r = 58 ∨ r = 59 ∨ r = 91 ∨ r = 93 ∨ r = 126 ∨ r = 171 ∨ r = 187 ∨ r = 169 ∨ r = 174 ∨ r = 164 ∨ r = 161 ∨ r = 960 := by simpa [sgG] using h
  rcases h' with rfl | rfl | rfl | rfl | rfl | rfl | rfl | rfl | rfl | rfl | rfl | rfl | rfl | rfl | rfl | rfl | rfl | rfl | rfl | rfl | rfl | rfl | rfl | rfl | rfl | rfl | rfl | rfl | rfl
  · exact (con_of (i := Lib.indexByte (ByteArray.mk #[64, 194, 169, 36, 194, 174, 35, 194, 164]).data.toList (43 : Int).toNat.toUInt8) (fun b g => ir_ascii _ 43 (by omega) (by omega))).trans (by rw [show (decide (0 ≤ Lib.indexByte (ByteArray.mk #[64, 194, 169, 36, 194, 174, 35, 194, 164]).data.toList (43 : Int).toNat.toUInt8)) = isMemS 43 from by decide +kernel])
  · exact (con_of (i := Lib.indexByte (ByteArray.mk #[64, 194, 169, 36, 194, 174, 35, 194, 164]).data.toList (45 : Int).toNat.toUInt8) (fun b g => ir_ascii _ 45 (by omega) (by omega))).trans (by rw [show (decide (0 ≤ Lib.indexByte (ByteArray.mk #[64, 194, 169, 36, 194, 174, 35, 194, 164]).data.toList (45 : Int).toNat.toUInt8)) = isMemS 45 from by decide +kernel])
  · exact (con_of (i := Lib.indexByte (ByteArray.mk #[64, 194, 169, 36, 194, 174, 35, 194, 164]).data.toList (42 : Int).toNat.toUInt8) (fun b g => ir_ascii _ 42 (by omega) (by omega))).trans (by rw [show (decide (0 ≤ Lib.indexByte (ByteArray.mk #[64, 194, 169, 36, 194, 174, 35, 194, 164]).data.toList (42 : Int).toNat.toUInt8)) = isMemS 42 from by decide +kernel])
  · exact (con_of (i := Lib.indexByte (ByteArray.mk #[64, 194, 169, 36, 194, 174, 35, 194, 164]).data.toList (47 : Int).toNat.toUInt8) (fun b g => ir_ascii _ 47 (by omega) (by omega))).trans (by rw [show (decide (0 ≤ Lib.indexByte (ByteArray.mk #[64, 194, 169, 36, 194, 174, 35, 194, 164]).data.toList (47 : Int).toNat.toUInt8)) = isMemS 47 from by decide +kernel])
  · exact (con_of (i := Lib.indexByte (ByteArray.mk #[64, 194, 169, 36, 194, 174, 35, 194, 164]).data.toList (37 : Int).toNat.toUInt8) (fun b g => ir_ascii _ 37 (by omega) (by omega))).trans (by rw [show (decide (0 ≤ Lib.indexByte (ByteArray.mk #[64, 194, 169, 36, 194, 174, 35, 194, 164]).data.toList (37 : Int).toNat.toUInt8)) = isMemS 37 from by decide +kernel])
  · exact (con_of (i := Lib.indexByte (ByteArray.mk #[64, 194, 169, 36, 194, 174, 35, 194, 164]).data.toList (38 : Int).toNat.toUInt8) (fun b g => ir_ascii _ 38 (by omega) (by omega))).trans (by rw [show (decide (0 ≤ Lib.indexByte (ByteArray.mk #[64, 194, 169, 36, 194, 174, 35, 194, 164]).data.toList (38 : Int).toNat.toUInt8)) = isMemS 38 from by decide +kernel])
  · exact (con_of (i := Lib.indexByte (ByteArray.mk #[64, 194, 169, 36, 194, 174, 35, 194, 164]).data.toList (124 : Int).toNat.toUInt8) (fun b g => ir_ascii _ 124 (by omega) (by omega))).trans (by rw [show (decide (0 ≤ Lib.indexByte (ByteArray.mk #[64, 194, 169, 36, 194, 174, 35, 194, 164]).data.toList (124 : Int).toNat.toUInt8)) = isMemS 124 from by decide +kernel])
  · exact (con_of (i := Lib.indexByte (ByteArray.mk #[64, 194, 169, 36, 194, 174, 35, 194, 164]).data.toList (94 : Int).toNat.toUInt8) (fun b g => ir_ascii _ 94 (by omega) (by omega))).trans (by rw [show (decide (0 ≤ Lib.indexByte (ByteArray.mk #[64, 194, 169, 36, 194, 174, 35, 194, 164]).data.toList (94 : Int).toNat.toUInt8)) = isMemS 94 from by decide +kernel])
  · exact (con_of (i := Lib.indexByte (ByteArray.mk #[64, 194, 169, 36, 194, 174, 35, 194, 164]).data.toList (60 : Int).toNat.toUInt8) (fun b g => ir_ascii _ 60 (by omega) (by omega))).trans (by rw [show (decide (0 ≤ Lib.indexByte (ByteArray.mk #[64, 194, 169, 36, 194, 174, 35, 194, 164]).data.toList (60 : Int).toNat.toUInt8)) = isMemS 60 from by decide +kernel])
  · exact (con_of (i := Lib.indexByte (ByteArray.mk #[64, 194, 169, 36, 194, 174, 35, 194, 164]).data.toList (61 : Int).toNat.toUInt8) (fun b g => ir_ascii _ 61 (by omega) (by omega))).trans (by rw [show (decide (0 ≤ Lib.indexByte (ByteArray.mk #[64, 194, 169, 36, 194, 174, 35, 194, 164]).data.toList (61 : Int).toNat.toUInt8)) = isMemS 61 from by decide +kernel])
  · exact (con_of (i := Lib.indexByte (ByteArray.mk #[64, 194, 169, 36, 194, 174, 35, 194, 164]).data.toList (33 : Int).toNat.toUInt8) (fun b g => ir_ascii _ 33 (by omega) (by omega))).trans (by rw [show (decide (0 ≤ Lib.indexByte (ByteArray.mk #[64, 194, 169, 36, 194, 174, 35, 194, 164]).data.toList (33 : Int).toNat.toUInt8)) = isMemS 33 from by decide +kernel])
  · exact (con_of (i := Lib.indexByte (ByteArray.mk #[64, 194, 169, 36, 194, 174, 35, 194, 164]).data.toList (46 : Int).toNat.toUInt8) (fun b g => ir_ascii _ 46 (by omega) (by omega))).trans (by rw [show (decide (0 ≤ Lib.indexByte (ByteArray.mk #[64, 194, 169, 36, 194, 174, 35, 194, 164]).data.toList (46 : Int).toNat.toUInt8)) = isMemS 46 from by decide +kernel])
  · exact (con_of (i := Lib.indexByte (ByteArray.mk #[64, 194, 169, 36, 194, 174, 35, 194, 164]).data.toList (44 : Int).toNat.toUInt8) (fun b g => ir_ascii _ 44 (by omega) (by omega))).trans (by rw [show (decide (0 ≤ Lib.indexByte (ByteArray.mk #[64, 194, 169, 36, 194, 174, 35, 194, 164]).data.toList (44 : Int).toNat.toUInt8)) = isMemS 44 from by decide +kernel])
  · exact (con_of (i := Lib.indexByte (ByteArray.mk #[64, 194, 169, 36, 194, 174, 35, 194, 164]).data.toList (64 : Int).toNat.toUInt8) (fun b g => ir_ascii _ 64 (by omega) (by omega))).trans (by rw [show (decide (0 ≤ Lib.indexByte (ByteArray.mk #[64, 194, 169, 36, 194, 174, 35, 194, 164]).data.toList (64 : Int).toNat.toUInt8)) = isMemS 64 from by decide +kernel])
  · exact (con_of (i := Lib.indexByte (ByteArray.mk #[64, 194, 169, 36, 194, 174, 35, 194, 164]).data.toList (36 : Int).toNat.toUInt8) (fun b g => ir_ascii _ 36 (by omega) (by omega))).trans (by rw [show (decide (0 ≤ Lib.indexByte (ByteArray.mk #[64, 194, 169, 36, 194, 174, 35, 194, 164]).data.toList (36 : Int).toNat.toUInt8)) = isMemS 36 from by decide +kernel])
  · exact (con_of (i := Lib.indexByte (ByteArray.mk #[64, 194, 169, 36, 194, 174, 35, 194, 164]).data.toList (35 : Int).toNat.toUInt8) (fun b g => ir_ascii _ 35 (by omega) (by omega))).trans (by rw [show (decide (0 ≤ Lib.indexByte (ByteArray.mk #[64, 194, 169, 36, 194, 174, 35, 194, 164]).data.toList (35 : Int).toNat.toUInt8)) = isMemS 35 from by decide +kernel])
  · exact (con_of (i := Lib.indexByte (ByteArray.mk #[64, 194, 169, 36, 194, 174, 35, 194, 164]).data.toList (63 : Int).toNat.toUInt8) (fun b g => ir_ascii _ 63 (by omega) (by omega))).trans (by rw [show (decide (0 ≤ Lib.indexByte (ByteArray.mk #[64, 194, 169, 36, 194, 174, 35, 194, 164]).data.toList (63 : Int).toNat.toUInt8)) = isMemS 63 from by decide +kernel])
  · exact (con_of (i := Lib.indexByte (ByteArray.mk #[64, 194, 169, 36, 194, 174, 35, 194, 164]).data.toList (58 : Int).toNat.toUInt8) (fun b g => ir_ascii _ 58 (by omega) (by omega))).trans (by rw [show (decide (0 ≤ Lib.indexByte (ByteArray.mk #[64, 194, 169, 36, 194, 174, 35, 194, 164]).data.toList (58 : Int).toNat.toUInt8)) = isMemS 58 from by decide +kernel])
  · exact (con_of (i := Lib.indexByte (ByteArray.mk #[64, 194, 169, 36, 194, 174, 35, 194, 164]).data.toList (59 : Int).toNat.toUInt8) (fun b g => ir_ascii _ 59 (by omega) (by omega))).trans (by rw [show (decide (0 ≤ Lib.indexByte (ByteArray.mk #[64, 194, 169, 36, 194, 174, 35, 194, 164]).data.toList (59 : Int).toNat.toUInt8)) = isMemS 59 from by decide +kernel])
  · exact (con_of (i := Lib.indexByte (ByteArray.mk #[64, 194, 169, 36, 194, 174, 35, 194, 164]).data.toList (91 : Int).toNat.toUInt8) (fun b g => ir_ascii _ 91 (by omega) (by omega))).trans (by rw [show (decide (0 ≤ Lib.indexByte (ByteArray.mk #[64, 194, 169, 36, 194, 174, 35, 194, 164]).data.toList (91 : Int).toNat.toUInt8)) = isMemS 91 from by decide +kernel])
  · exact (con_of (i := Lib.indexByte (ByteArray.mk #[64, 194, 169, 36, 194, 174, 35, 194, 164]).data.toList (93 : Int).toNat.toUInt8) (fun b g => ir_ascii _ 93 (by omega) (by omega))).trans (by rw [show (decide (0 ≤ Lib.indexByte (ByteArray.mk #[64, 194, 169, 36, 194, 174, 35, 194, 164]).data.toList (93 : Int).toNat.toUInt8)) = isMemS 93 from by decide +kernel])
  · exact (con_of (i := Lib.indexByte (ByteArray.mk #[64, 194, 169, 36, 194, 174, 35, 194, 164]).data.toList (126 : Int).toNat.toUInt8) (fun b g => ir_ascii _ 126 (by omega) (by omega))).trans (by rw [show (decide (0 ≤ Lib.indexByte (ByteArray.mk #[64, 194, 169, 36, 194, 174, 35, 194, 164]).data.toList (126 : Int).toNat.toUInt8)) = isMemS 126 from by decide +kernel])
  · exact (con_of (fun b g => ir_b171)).trans rfl
  · exact (con_of (fun b g => ir_b187)).trans rfl
  · exact (con_of (fun b g => ir_b169)).trans rfl
  · exact (con_of (fun b g => ir_b174)).trans rfl
  · exact (con_of (fun b g => ir_b164)).trans rfl
  · exact (con_of (fun b g => ir_b161)).trans rfl
  · exact (con_of (fun b g => ir_b960)).trans rfl
end
end Go.Ev
set_option linter.unusedSectionVars false
namespace Go.Ev
open Go
def ext (own : Nat → Nat) (n k : Nat) : Nat → Nat := fun j => if j < n then own j else k
def At (own : Nat → Nat) (a : AV) (k : Nat) : Prop := ∀ j, a.isAt j → own j = k
def Kp (own : Nat → Nat) (S : Nat → Prop) (g g' : H) : Prop := g.n ≤ g'.n ∧ ∀ j, j < g.n → ¬ S (own j) → g'.get j = g.get j
def Agr (n : Nat) (own own' : Nat → Nat) : Prop := ∀ j, j < n → own' j = own j
theorem Agr.ext {own : Nat → Nat} {n k : Nat} : Agr n own (ext own n k) := fun j hj => by simp [Go.Ev.ext, hj]
theorem Agr.refl {own : Nat → Nat} {n : Nat} : Agr n own own := fun _ _ => rfl
theorem Agr.trans {a b c : Nat → Nat} {n m : Nat} (h : Agr n a b) (h2 : Agr m b c) (hn : n ≤ m) : Agr n a c := fun j hj => (h2 j (by omega)).trans (h j hj)
theorem Kp.trans {own own' : Nat → Nat} {S : Nat → Prop} {g g' g'' : H} (h : Kp own S g g') (ha : Agr g.n own own') (h2 : Kp own' S g' g'') : Kp own S g g'' :=
  ⟨by have := h.1; have := h2.1; omega, fun j hj hs => by rw [h2.2 j (by have := h.1; omega) (by rw [ha j hj]; exact hs), h.2 j hj hs]⟩
theorem Kp.le {own : Nat → Nat} {S T : Nat → Prop} {g g' : H} (h : Kp own S g g') (hst : ∀ k, S k → T k) : Kp own T g g' := ⟨h.1, fun j hj hs => h.2 j hj fun q => hs (hst _ q)⟩
theorem Kp.refl {own : Nat → Nat} {S : Nat → Prop} {g : H} : Kp own S g g := ⟨Nat.le_refl _, fun _ _ _ => rfl⟩
def CodeV (c : Code') (la ta : AV) : Prop := (FzV 3 la c.l.length (c.l.flatMap Tok.cells) ∧ FzV 1 ta c.to.length (c.to.flatMap i64c)) ∧ c.l.length ≤ 2000 ∧ c.to.length ≤ 2000 ∧ ∀ x ∈ c.to, x ≤ 2000
structure FrO (g : H) (b : Nat) (own : Nat → Nat) (t : Nat) (f : Fm) (id : Nat) : Prop where
  ex : ∃ la ta sa, FrV g b f id la ta sa ∧ At own sa (2 * t + 11) ∧ CodeV f.c la ta
  own : own id = 2 * t + 10
theorem FrO.mono {g g' : H} {b : Nat} {own own' : Nat → Nat} {S : Nat → Prop} {t : Nat} {f : Fm} {id : Nat} (v : FrO g b own t f id) (k : Kp own S g g') (a : Agr g.n own own') (h1 : ¬ S (2 * t + 10)) (h2 : ¬ S (2 * t + 11)) : FrO g' b own' t f id := by
  obtain ⟨⟨la, ta, sa, hv, hs, hc⟩, ho⟩ := v
  refine ⟨⟨la, ta, sa, hv.mono k.1 (k.2 id hv.lt (by rw [ho]; exact h1)) (fun j hj => k.2 j (hv.st.at_lt hj).2 (by rw [hs j hj]; exact h2)), fun j hj => by rw [a j (hv.st.at_lt hj).2]; exact hs j hj, hc⟩, by rw [a id hv.lt]; exact ho⟩
def FrsV (g : H) (b : Nat) (own : Nat → Nat) : List Fm → List Nat → Prop
  | [], [] => True
  | f :: r, id :: l => FrO g b own r.length f id ∧ FrsV g b own r l
  | _, _ => False
theorem FrsV.len {g : H} {b : Nat} {own : Nat → Nat} : ∀ {fr : List Fm} {l : List Nat}, FrsV g b own fr l → l.length = fr.length
  | [], [], _ => rfl
  | _ :: r, _ :: l, h => by simp [FrsV.len h.2]
theorem FrsV.mono {g g' : H} {b : Nat} {own own' : Nat → Nat} {S : Nat → Prop} (k : Kp own S g g') (a : Agr g.n own own') : ∀ {fr : List Fm} {l : List Nat}, FrsV g b own fr l → (∀ t, t < fr.length → ¬ S (2 * t + 10) ∧ ¬ S (2 * t + 11)) → FrsV g' b own' fr l
  | [], [], _, _ => trivial
  | f :: r, id :: l, h, hs => ⟨h.1.mono k a (hs r.length (by simp)).1 (hs r.length (by simp)).2, FrsV.mono k a h.2 fun t ht => hs t (by simp; omega)⟩
structure MemO (g : H) (b : Nat) (own : Nat → Nat) (M : Nat) (m : Mem) : Prop where
  ex : ∃ ba da, MemV g b M m ba da ∧ At own ba 4 ∧ At own da 5
  own : own M = 3
theorem MemO.mono {g g' : H} {b : Nat} {own own' : Nat → Nat} {S : Nat → Prop} {M : Nat} {m : Mem} (v : MemO g b own M m) (k : Kp own S g g') (a : Agr g.n own own') (h : ¬ S 3 ∧ ¬ S 4 ∧ ¬ S 5) : MemO g' b own' M m := by
  obtain ⟨⟨ba, da, hv, h1, h2⟩, ho⟩ := v
  refine ⟨⟨ba, da, hv.mono k.1 (k.2 M hv.lt (by rw [ho]; exact h.1)) (fun j hj => k.2 j (hv.ob.at_lt hj).2 (by rw [h1 j hj]; exact h.2.1)) (fun j hj => k.2 j (hv.od.at_lt hj).2 (by rw [h2 j hj]; exact h.2.2)), fun j hj => by rw [a j (hv.ob.at_lt hj).2]; exact h1 j hj, fun j hj => by rw [a j (hv.od.at_lt hj).2]; exact h2 j hj⟩, by rw [a M hv.lt]; exact ho⟩
structure RowO (g : H) (b : Nat) (own : Nat → Nat) (R : Nat) (r : Row) : Prop where
  ex : ∃ la aa, RowV g b R r la aa ∧ At own la 7 ∧ At own aa 8
  own : own R = 6
theorem RowO.mono {g g' : H} {b : Nat} {own own' : Nat → Nat} {S : Nat → Prop} {R : Nat} {r : Row} (v : RowO g b own R r) (k : Kp own S g g') (a : Agr g.n own own') (h : ¬ S 6 ∧ ¬ S 7 ∧ ¬ S 8) : RowO g' b own' R r := by
  obtain ⟨⟨la, aa, hv, h1, h2⟩, ho⟩ := v
  refine ⟨⟨la, aa, hv.mono k.1 (k.2 R hv.lt (by rw [ho]; exact h.1)) (fun j hj => k.2 j (hv.l.at_lt' hj) (by rw [h1 j hj]; exact h.2.1)) (fun j hj => k.2 j (hv.asks.at_lt hj).2 (by rw [h2 j hj]; exact h.2.2)), fun j hj => by rw [a j (hv.l.at_lt' hj)]; exact h1 j hj, fun j hj => by rw [a j (hv.asks.at_lt hj).2]; exact h2 j hj⟩, by rw [a R hv.lt]; exact ho⟩
structure Cx where
  X : Nat
  p : Int
  mo : Int
  fa : AV
  fs : List Fn
  ca : AV
  rows : List (AV × AV × Code')
  M : Nat
  R : Nat
def cdC (x : AV × AV × Code') : List AV := [x.1, x.2.1, .int .i64 x.2.2.args]
structure CxV (g : H) (own : Nat → Nat) (C : Cx) : Prop where
  fs : FV g C.fa C.fs
  fo : At own C.fa 0
  ca : FzV 3 C.ca C.rows.length (C.rows.flatMap cdC)
  cd : ∀ x ∈ C.rows, CodeV x.2.2 x.1 x.2.1 ∧ 0 ≤ x.2.2.args ∧ x.2.2.args ≤ 26
theorem CxV.mono {g g' : H} {own own' : Nat → Nat} {S : Nat → Prop} {C : Cx} (v : CxV g own C) (k : Kp own S g g') (a : Agr g.n own own') (h : ¬ S 0) : CxV g' own' C :=
  ⟨v.fs.keep k.1 (fun j hj => k.2 j (v.fs.at_lt' hj) (by rw [v.fo j hj]; exact h)), fun j hj => by rw [a j (v.fs.at_lt' hj)]; exact v.fo j hj, v.ca, v.cd⟩
def xC (C : Cx) (fra : AV) (tr val : Int) : List AV := [.int .i64 C.p, .int .i64 C.mo, C.fa, C.ca, .ptr C.M 0, .ptr C.R 0, fra, .int .i64 tr, .int .i64 val]
structure XO (g : H) (b : Nat) (own : Nat → Nat) (C : Cx) (tr val : Int) (ids : List Nat) : Prop where
  ex : ∃ fra, g.get C.X = some (.cells (xC C fra tr val) 0) ∧ OW 1 g b fra ids.length (ids.reverse.map fun i => .ptr i 0) ∧ At own fra 2
  own : own C.X = 1
  bX : b ≤ C.X
  lt : C.X < g.n
  sm : ids.length ≤ 1000
theorem XO.mono {g g' : H} {b : Nat} {own own' : Nat → Nat} {S : Nat → Prop} {C : Cx} {tr val : Int} {ids : List Nat} (v : XO g b own C tr val ids) (k : Kp own S g g') (a : Agr g.n own own') (h : ¬ S 1 ∧ ¬ S 2) : XO g' b own' C tr val ids := by
  obtain ⟨⟨fra, h1, h2, h3⟩, ho, hb, hl, hs⟩ := v
  exact ⟨⟨fra, by rw [k.2 _ hl (by rw [ho]; exact h.1)]; exact h1, h2.mono k.1 (fun j hj => k.2 j (h2.at_lt hj).2 (by rw [h3 j hj]; exact h.2)), fun j hj => by rw [a j (h2.at_lt hj).2]; exact h3 j hj⟩, by rw [a _ hl]; exact ho, hb, by have := k.1; omega, hs⟩
structure XV (g : H) (b : Nat) (own : Nat → Nat) (C : Cx) (s : Mc) (val : Int) (ids : List Nat) : Prop where
  x : XO g b own C s.trap val ids
  cx : CxV g own C
  fr : FrsV g b own s.fr ids
  m : MemO g b own C.M s.m
  r : RowO g b own C.R s.r
  bn : b ≤ g.n
section
variable {bar b : Nat} {g : H} {own : Nat → Nat} {C : Cx} {tr val : Int} {ids : List Nat}
theorem stop_ok (v : XO g b own C tr val ids) (hb : bar ≤ b) (ok : Bool) (t : Int) :
    ∃ g', call tb prim n_engine_runner_stop [.ptr C.X 0, .bool ok, .int .i64 t] bar g = some (.tup [], g') ∧ XO g' b own C (trapIf ok t tr) val ids ∧ Kp own (fun k => k = 1) g g' ∧ g'.n = g.n := by
  obtain ⟨⟨fra, h1, h2, h3⟩, ho, hbX, hl, hs⟩ := v
  have hbx : bar ≤ C.X := Nat.le_trans hb hbX
  cases ok with
  | true =>
    obtain ⟨x, g2, hcall, rfl, rfl⟩ := callF_K (o := call tb prim) (F := f_engine_runner_stop) (bar := bar) (h := g) (args := [.ptr C.X 0, .bool true, .int .i64 t]) (P := fun x g2 => x = .tup [] ∧ g2 = g) rfl rfl (fun K hK => by
      simp [f_engine_runner_stop, env0, go_sem, get_alloc, n_alloc, get_set, n_set, get_kill, n_kill, writeAt, a11, a21, a31, a41, a51, a61, a71]
      simp [go_sem, endP, endI, resultsA, resultA, freezeL, freezeV, AV.free.freeL, AV.free, packA, dropS]
      exact ⟨_, _, ⟨rfl, rfl⟩, hK _ _ ⟨rfl, rfl⟩⟩)
    exact ⟨_, call_of tb_engine_runner_stop hcall, ⟨⟨fra, h1, h2, h3⟩, ho, hbX, hl, hs⟩, Kp.refl, rfl⟩
  | false =>
    have hsp : splice (xC C fra tr val) 7 [.int .i64 t] = xC C fra t val := rfl
    have hle : 7 + 1 ≤ (xC C fra tr val).length := by simp [xC]
    obtain ⟨cs, hcs⟩ : ∃ cs, cs = xC C fra tr val := ⟨_, rfl⟩
    rw [← hcs] at h1 hsp hle
    obtain ⟨x, g2, hcall, rfl, rfl⟩ := callF_K (o := call tb prim) (F := f_engine_runner_stop) (bar := bar) (h := g) (args := [.ptr C.X 0, .bool false, .int .i64 t]) (P := fun x g2 => x = .tup [] ∧ g2 = g.set C.X (.cells (xC C fra t val) 0)) rfl rfl (fun K hK => by
      simp [f_engine_runner_stop, env0, go_sem, get_alloc, n_alloc, get_set, n_set, get_kill, n_kill, writeAt, a11, a21, a31, a41, a51, a61, a71, isNil, h1, hle, hsp, hbx]
      simp [go_sem, endP, endI, resultsA, resultA, freezeL, freezeV, AV.free.freeL, AV.free, packA, dropS]
      exact ⟨_, _, ⟨rfl, rfl⟩, hK _ _ ⟨rfl, rfl⟩⟩)
    refine ⟨_, call_of tb_engine_runner_stop hcall, ⟨⟨fra, by rw [get_set, if_pos rfl]; rfl, h2.mono (Nat.le_refl _) (fun j hj => get_set_ne (fun q => by have := h3 j hj; rw [q, ho] at this; omega)), h3⟩, ho, hbX, hl, hs⟩, ⟨Nat.le_refl _, fun j hj hsj => get_set_ne (fun q => hsj (by rw [q]; exact ho))⟩, rfl⟩
end
end Go.Ev
set_option linter.unusedSectionVars false
namespace Go.Ev
open Go
def tS (t : Nat) : Nat → Prop := fun k => k = 2 * t + 10 ∨ k = 2 * t + 11
section
variable {bar b : Nat} {g : H} {own : Nat → Nat} {t : Nat} {f : Fm} {id : Nat}
theorem push_o (v : FrO g b own t f id) (hb : bar ≤ b) (hbg : b ≤ g.n) (hs : f.st.length < 3000000) (n : Int) :
    ∃ g' own', call tb prim n_engine_frame_push [.ptr id 0, .int .i64 n] bar g = some (.tup [], g') ∧ FrO g' b own' t { f with st := n :: f.st } id ∧ Kp own (tS t) g g' ∧ Agr g.n own own' := by
  obtain ⟨⟨la, ta, sa, hv, hsa, hc⟩, ho⟩ := v
  obtain ⟨g', sa', e, hv', hge, hn, hk⟩ := push_ok (bar := bar) hv hb hbg hs n
  refine ⟨g', ext own g.n (2 * t + 11), e, ⟨⟨la, ta, sa', hv', fun j hj => by have := hge j hj; simp [ext]; omega, hc⟩, by rw [Agr.ext id hv.lt]; exact ho⟩, ⟨hn, fun j hj hns => hk j hj (fun q => hns (.inl (by rw [q]; exact ho))) (fun q => hns (.inr (hsa j q)))⟩, Agr.ext⟩
theorem pop_o {n : Int} {st : List Int} (v : FrO g b own t f id) (hst : f.st = n :: st) (hb : bar ≤ b) :
    ∃ g', call tb prim n_engine_frame_pop [.ptr id 0] bar g = some (.int .i64 n, g') ∧ FrO g' b own t { f with st := st } id ∧ Kp own (tS t) g g' := by
  obtain ⟨⟨la, ta, sa, hv, hsa, hc⟩, ho⟩ := v
  obtain ⟨g', sa', e, hv', hge, hn, hk⟩ := pop_ok (bar := bar) hv hst hb
  exact ⟨g', e, ⟨⟨la, ta, sa', hv', fun j hj => hsa j (hge j hj), hc⟩, ho⟩, ⟨by omega, fun j hj hns => hk j (fun q => hns (.inl (by rw [q]; exact ho)))⟩⟩
theorem FrO.setC {g' : H} {p : Nat} {loc : List Int} {la ta sa : AV} (hv : FrV g b f id la ta sa) (hsa : At own sa (2 * t + 11)) (hc : CodeV f.c la ta) (ho : own id = 2 * t + 10) (hl : loc.length = 26) (hp : p ≤ 100000) (hg : g' = g.set id (.cells (frC la ta f.c.args p loc sa) 0)) :
    FrO g' b own t { f with at' := p, loc := loc } id ∧ Kp own (tS t) g g' := by
  subst hg
  exact ⟨⟨⟨la, ta, sa, ⟨by simp [get_set], hv.bid, hv.lt, hl, hv.st.mono (Nat.le_refl _) (fun j hj => get_set_ne (fun q => hv.ne (q ▸ hj))), hv.ne, hv.small, hp⟩, hsa, hc⟩, ho⟩, ⟨Nat.le_refl _, fun j hj hns => get_set_ne (fun q => hns (.inl (by rw [q]; exact ho)))⟩⟩
theorem to_get {ta : AV} {l : List Int} (hz : FzV 1 ta l.length (l.flatMap i64c)) {i : Nat} {j : Int} (hi : l[i]? = some j) : ∃ n cs full, ta = .fz 1 n cs full ∧ (cs.length = n) = True ∧ cs[i]? = some (.int .i64 j) ∧ i < n := by
  have hlt := (List.getElem?_eq_some_iff.mp hi).1
  obtain ⟨h1, h2, ⟨_, e⟩ | ⟨full, e⟩⟩ := hz
  · omega
  · refine ⟨l.length, _, full, e, by simpa using h1, ?_, hlt⟩
    have := flat_get0 (c := i64c) (k := 1) (fun _ => rfl) l i j (by omega) hi
    rw [Nat.mul_one] at this; rw [this]; rfl
theorem goes_to (v : FrO g b own t f id) (hb : bar ≤ b) {j : Nat} (hj : f.c.to[f.at']? = some (j : Int)) (X : AV) {s : Int} (hs : s ≠ 63) :
    ∃ g', call tb prim n_engine_runner_goes [X, .ptr id 0, .int .i32 s] bar g = some (.tup [], g') ∧ FrO g' b own t { f with at' := j } id ∧ Kp own (tS t) g g' := by
  obtain ⟨⟨la, ta, sa, hv, hsa, hc⟩, ho⟩ := v
  have hc' := hc
  obtain ⟨⟨hc1, hc2⟩, hc3, hc4, hc5⟩ := hc'
  obtain ⟨n, cs, full, rfl, hcl, hcj, hin⟩ := to_get hc2 hj
  have hjb := hc5 _ (List.mem_of_getElem? hj)
  have hfin := FrO.setC (g' := g.set id (.cells (frC la (.fz 1 n cs full) f.c.args j f.loc sa) 0)) hv hsa hc ho hv.loc (by omega : j ≤ 100000) rfl
  have hl := hv.loc
  have hget := hv.get
  have h1 : (frC la (.fz 1 n cs full) f.c.args f.at' f.loc sa)[1]? = some (.fz 1 n cs full) := frC_1
  have h3 : (frC la (.fz 1 n cs full) f.c.args f.at' f.loc sa)[3]? = some (.int .i64 f.at') := frC_3
  have hle : 3 + 1 ≤ (frC la (.fz 1 n cs full) f.c.args f.at' f.loc sa).length := by rw [frC_len hl]; omega
  have hsp : splice (frC la (.fz 1 n cs full) f.c.args f.at' f.loc sa) 3 [.int .i64 (j : Int)] = frC la (.fz 1 n cs full) f.c.args j f.loc sa := frC_set3
  have hix : indexIn (.int .i64 (f.at' : Int)) n = some f.at' := by simp only [indexIn]; rw [if_pos (by omega), Int.toNat_natCast]
  have hbid : bar ≤ id := Nat.le_trans hb hv.bid
  have hs' : (s == 63) = false := by simpa using hs
  obtain ⟨fc, hfc⟩ : ∃ fc, fc = frC la (.fz 1 n cs full) f.c.args f.at' f.loc sa := ⟨_, rfl⟩
  rw [← hfc] at hget h1 h3 hle hsp
  obtain ⟨x, g2, hcall, rfl, rfl⟩ := callF_K (o := call tb prim) (F := f_engine_runner_goes) (bar := bar) (h := g) (args := [X, .ptr id 0, .int .i32 s]) (P := fun x g2 => x = .tup [] ∧ g2 = g.set id (.cells (frC la (.fz 1 n cs full) f.c.args j f.loc sa) 0)) rfl rfl (fun K hK => by
    simp [f_engine_runner_goes, env0, go_sem, get_alloc, n_alloc, get_set, n_set, get_kill, n_kill, writeAt, a11, a21, a31, a41, a51, a61, a71, isNil, hs', hget, h1, h3, hix, hcl, hcj, hle, hsp, hbid]
    simp [go_sem, endP, endI, resultsA, resultA, freezeL, freezeV, AV.free.freeL, AV.free, packA, dropS]
    exact ⟨_, _, ⟨rfl, rfl⟩, hK _ _ ⟨rfl, rfl⟩⟩)
  exact ⟨_, call_of tb_engine_runner_goes hcall, hfin⟩
theorem goes_0 {st : List Int} (v : FrO g b own t f id) (hst : f.st = 0 :: st) (hb : bar ≤ b) {j : Nat} (hj : f.c.to[f.at']? = some (j : Int)) (X : AV) :
    ∃ g', call tb prim n_engine_runner_goes [X, .ptr id 0, .int .i32 63] bar g = some (.tup [], g') ∧ FrO g' b own t { f with at' := j, st := st } id ∧ Kp own (tS t) g g' := by
  obtain ⟨g1, e1, v1, k1⟩ := pop_o v hst hb
  obtain ⟨⟨la, ta, sa, hv, hsa, hc⟩, ho⟩ := v1
  have hc' := hc
  obtain ⟨⟨hc1, hc2⟩, hc3, hc4, hc5⟩ := hc'
  simp only at hc2 hc5
  obtain ⟨n, cs, full, rfl, hcl, hcj, hin⟩ := to_get hc2 hj
  have hjb := hc5 _ (List.mem_of_getElem? hj)
  have hfin := FrO.setC (g' := g1.set id (.cells (frC la (.fz 1 n cs full) f.c.args j f.loc sa) 0)) hv hsa hc ho hv.loc (by omega : j ≤ 100000) rfl
  have hl := hv.loc
  have hget := hv.get
  simp only at hl hget
  have h1 : (frC la (.fz 1 n cs full) f.c.args f.at' f.loc sa)[1]? = some (.fz 1 n cs full) := frC_1
  have h3 : (frC la (.fz 1 n cs full) f.c.args f.at' f.loc sa)[3]? = some (.int .i64 f.at') := frC_3
  have hle : 3 + 1 ≤ (frC la (.fz 1 n cs full) f.c.args f.at' f.loc sa).length := by rw [frC_len hl]; omega
  have hsp : splice (frC la (.fz 1 n cs full) f.c.args f.at' f.loc sa) 3 [.int .i64 (j : Int)] = frC la (.fz 1 n cs full) f.c.args j f.loc sa := frC_set3
  have hix : indexIn (.int .i64 (f.at' : Int)) n = some f.at' := by simp only [indexIn]; rw [if_pos (by omega), Int.toNat_natCast]
  have hbid : bar ≤ id := Nat.le_trans hb hv.bid
  obtain ⟨fc, hfc⟩ : ∃ fc, fc = frC la (.fz 1 n cs full) f.c.args f.at' f.loc sa := ⟨_, rfl⟩
  rw [← hfc] at hget h1 h3 hle hsp
  obtain ⟨x, g2, hcall, rfl, rfl⟩ := callF_K (o := call tb prim) (F := f_engine_runner_goes) (bar := bar) (h := g) (args := [X, .ptr id 0, .int .i32 63]) (P := fun x g2 => x = .tup [] ∧ g2 = g1.set id (.cells (frC la (.fz 1 n cs full) f.c.args j f.loc sa) 0)) rfl rfl (fun K hK => by
    simp [f_engine_runner_goes, env0, go_sem, get_alloc, n_alloc, get_set, n_set, get_kill, n_kill, writeAt, a11, a21, a31, a41, a51, a61, a71, isNil, e1, hget, h1, h3, hix, hcl, hcj, hle, hsp, hbid]
    simp [go_sem, endP, endI, resultsA, resultA, freezeL, freezeV, AV.free.freeL, AV.free, packA, dropS]
    exact ⟨_, _, ⟨rfl, rfl⟩, hK _ _ ⟨rfl, rfl⟩⟩)
  exact ⟨_, call_of tb_engine_runner_goes hcall, hfin.1, k1.trans Agr.refl hfin.2⟩
theorem goes_1 {n : Int} {st : List Int} (v : FrO g b own t f id) (hst : f.st = n :: st) (hn : n ≠ 0) (hb : bar ≤ b) (ha : f.at' < f.c.l.length) (X : AV) :
    ∃ g', call tb prim n_engine_runner_goes [X, .ptr id 0, .int .i32 63] bar g = some (.tup [], g') ∧ FrO g' b own t { f with at' := f.at' + 1, st := st } id ∧ Kp own (tS t) g g' := by
  obtain ⟨g1, e1, v1, k1⟩ := pop_o v hst hb
  obtain ⟨⟨la, ta, sa, hv, hsa, hc⟩, ho⟩ := v1
  have hc' := hc
  obtain ⟨⟨hc1, hc2⟩, hc3, hc4, hc5⟩ := hc'
  simp only at hc3
  have hfin := FrO.setC (g' := g1.set id (.cells (frC la ta f.c.args (f.at' + 1) f.loc sa) 0)) hv hsa hc ho hv.loc (by omega : f.at' + 1 ≤ 100000) rfl
  have hl := hv.loc
  have hget := hv.get
  simp only at hl hget
  have h3 : (frC la ta f.c.args f.at' f.loc sa)[3]? = some (.int .i64 f.at') := frC_3
  have hle : 3 + 1 ≤ (frC la ta f.c.args f.at' f.loc sa).length := by rw [frC_len hl]; omega
  have hsp : splice (frC la ta f.c.args f.at' f.loc sa) 3 [.int .i64 ((f.at' + 1 : Nat) : Int)] = frC la ta f.c.args (f.at' + 1) f.loc sa := frC_set3
  have hw : IntKind.i64.wrap ((f.at' : Int) + 1) = ((f.at' + 1 : Nat) : Int) := w64_succ (by omega)
  have hbid : bar ≤ id := Nat.le_trans hb hv.bid
  have hn' : (n != 0) = true := by simpa using hn
  obtain ⟨fc, hfc⟩ : ∃ fc, fc = frC la ta f.c.args f.at' f.loc sa := ⟨_, rfl⟩
  rw [← hfc] at hget h3 hle hsp
  obtain ⟨A, hA⟩ : ∃ A, A = f.at' + 1 := ⟨_, rfl⟩
  rw [← hA] at hw hsp hfin
  obtain ⟨x, g2, hcall, rfl, rfl⟩ := callF_K (o := call tb prim) (F := f_engine_runner_goes) (bar := bar) (h := g) (args := [X, .ptr id 0, .int .i32 63]) (P := fun x g2 => x = .tup [] ∧ g2 = g1.set id (.cells (frC la ta f.c.args A f.loc sa) 0)) rfl rfl (fun K hK => by
    simp [f_engine_runner_goes, env0, go_sem, get_alloc, n_alloc, get_set, n_set, get_kill, n_kill, writeAt, a11, a21, a31, a41, a51, a61, a71, isNil, e1, hn', hget, h3, hw, hle, hsp, hbid]
    simp [go_sem, endP, endI, resultsA, resultA, freezeL, freezeV, AV.free.freeL, AV.free, packA, dropS]
    exact ⟨_, _, ⟨rfl, rfl⟩, hK _ _ ⟨rfl, rfl⟩⟩)
  rw [← hA]
  exact ⟨_, call_of tb_engine_runner_goes hcall, hfin.1, k1.trans Agr.refl hfin.2⟩
end
end Go.Ev
set_option linter.unusedSectionVars false
namespace Go.Ev
open Go
def tX (t : Nat) : Nat → Prop := fun k => k = 1 ∨ tS t k
def tM (t : Nat) : Nat → Prop := fun k => k = 1 ∨ k = 3 ∨ k = 4 ∨ k = 5 ∨ tS t k
theorem tS1 (t : Nat) : ¬ tS t 1 ∧ ¬ tS t 2 := by unfold tS; omega
theorem tS3 (t : Nat) : ¬ tS t 3 ∧ ¬ tS t 4 ∧ ¬ tS t 5 := by unfold tS; omega
section
variable {bar b : Nat} {g : H} {own : Nat → Nat} {C : Cx} {tr val : Int} {ids : List Nat} {t : Nat} {f : Fm} {id : Nat} {m : Mem}
def MemR (bar b : Nat) (g : H) (own : Nat → Nat) (C : Cx) (val : Int) (ids : List Nat) (t : Nat) (f : Fm) (id : Nat) (sg : Int) (x : Option (List Int × Mem × Int)) : Prop :=
  ∀ st m' tr', x = some (st, m', tr') → ∃ g' own', call tb prim n_engine_runner_memory [.ptr C.X 0, .ptr id 0, .int .i32 sg] bar g = some (.tup [], g') ∧ FrO g' b own' t { f with st := st } id ∧ XO g' b own' C tr' val ids ∧ MemO g' b own' C.M m' ∧ Kp own (tM t) g g' ∧ Agr g.n own own'
theorem FrO.sm (v : FrO g b own t f id) : f.st.length ≤ 3000000 := by obtain ⟨⟨_, _, _, hv, _⟩, _⟩ := v; exact hv.small
theorem XO.cell4 (v : XO g b own C tr val ids) : ∃ cs, g.get C.X = some (.cells cs 0) ∧ cs[4]? = some (.ptr C.M 0) ∧ cs[5]? = some (.ptr C.R 0) := by
  obtain ⟨⟨fra, h, _⟩, _⟩ := v; exact ⟨_, h, rfl, rfl⟩
theorem tS_M {t k : Nat} (h : tS t k) : tM t k := .inr (.inr (.inr (.inr h)))
theorem mem_load {a : Int} {st : List Int} (vx : XO g b own C tr val ids) (vf : FrO g b own t f id) (vm : MemO g b own C.M m) (hb : bar ≤ b) (hbg : b ≤ g.n) (hst : f.st = a :: st) {sg : Int} (hsg : sg = 64 ∨ sg = 169) :
    MemR bar b g own C val ids t f id sg (some ((loadM m a (sg == 64)).1 :: st, m, trapIf (loadM m a (sg == 64)).2 5 tr)) := by
  rintro st0 m0 tr0 h
  cases h
  have hsm := vf.sm
  rw [hst] at hsm
  obtain ⟨g1, e1, v1, k1⟩ := pop_o vf hst hb
  have x1 := vx.mono k1 Agr.refl (tS1 t)
  have m1 := vm.mono k1 Agr.refl (tS3 t)
  have hbg1 : b ≤ g1.n := Nat.le_trans hbg k1.1
  have m1' := m1
  obtain ⟨⟨ba, da, hmv, _, _⟩, _⟩ := m1'
  have e2 := load_ok (bar := bar) hmv a (sg == 64)
  obtain ⟨g2, e3, x2, k2, n2⟩ := stop_ok x1 hb (loadM m a (sg == 64)).2 5
  have v2 := v1.mono k2 Agr.refl (by omega) (by omega)
  have m2 := m1.mono k2 Agr.refl (by omega)
  obtain ⟨g3, own3, e4, v3, k3, a3⟩ := push_o v2 hb (by omega) (by simp at hsm ⊢; omega) (loadM m a (sg == 64)).1
  have x3 := x2.mono k3 a3 (tS1 t)
  have m3 := m2.mono k3 a3 (tS3 t)
  have hk : Kp own (tM t) g g3 := (k1.le fun k h => tS_M h).trans Agr.refl ((k2.le fun k h => .inl h).trans Agr.refl (k3.le fun k h => tS_M h))
  obtain ⟨cs, c1, c2, _⟩ := vx.cell4
  obtain ⟨cs', c1', c2', _⟩ := x1.cell4
  obtain ⟨x, g4, hcall, rfl, rfl⟩ := callF_K (o := call tb prim) (F := f_engine_runner_memory) (bar := bar) (h := g) (args := [.ptr C.X 0, .ptr id 0, .int .i32 sg]) (P := fun x g4 => x = .tup [] ∧ g4 = g3) rfl rfl (fun K hK => by
    rcases hsg with rfl | rfl
    · have hz : ((64 : Int) == 64) = true := rfl
      rw [hz] at e2 e3 e4
      simp [f_engine_runner_memory, env0, go_sem, get_alloc, n_alloc, get_set, n_set, get_kill, n_kill, writeAt, a11, a21, a31, a41, a51, a61, a71, isNil, c1, c2, e1, e2, e3, e4]
      refine ⟨sees_of rfl ?_, ?_⟩
      · simp [-getElem?_pos, R_nil, R_cons, RS_some, sameV_some, seesQ_some, List.take, List.take_succ_cons, List.take_zero, go_sem, get_alloc, n_alloc, get_set, n_set, get_kill, n_kill, writeAt, a11, a21, a31, a41, a51, a61, a71, isNil, c1, c2, c1', c2', e1, e2, List.getElem?_cons_zero, List.getElem?_cons_succ]
      · simp [go_sem, endP, endI, resultsA, resultA, freezeL, freezeV, AV.free.freeL, AV.free, packA, dropS]
        exact ⟨_, _, ⟨rfl, rfl⟩, hK _ _ ⟨rfl, rfl⟩⟩
    · have hz : ((169 : Int) == 64) = false := rfl
      rw [hz] at e2 e3 e4
      simp [f_engine_runner_memory, env0, go_sem, get_alloc, n_alloc, get_set, n_set, get_kill, n_kill, writeAt, a11, a21, a31, a41, a51, a61, a71, isNil, c1, c2, e1, e2, e3, e4]
      refine ⟨sees_of rfl ?_, ?_⟩
      · simp [-getElem?_pos, R_nil, R_cons, RS_some, sameV_some, seesQ_some, List.take, List.take_succ_cons, List.take_zero, go_sem, get_alloc, n_alloc, get_set, n_set, get_kill, n_kill, writeAt, a11, a21, a31, a41, a51, a61, a71, isNil, c1, c2, c1', c2', e1, e2, List.getElem?_cons_zero, List.getElem?_cons_succ]
      · simp [go_sem, endP, endI, resultsA, resultA, freezeL, freezeV, AV.free.freeL, AV.free, packA, dropS]
        exact ⟨_, _, ⟨rfl, rfl⟩, hK _ _ ⟨rfl, rfl⟩⟩)
  exact ⟨_, own3, call_of tb_engine_runner_memory hcall, v3, x3, m3, hk, Agr.trans Agr.refl a3 (by have := k1.1; have := k2.1; omega)⟩
theorem mem_store {n a : Int} {st : List Int} (vx : XO g b own C tr val ids) (vf : FrO g b own t f id) (vm : MemO g b own C.M m) (hb : bar ≤ b) (hbg : b ≤ g.n) (hst : f.st = n :: a :: st) {sg : Int} (hsg : sg = 36 ∨ sg = 174) :
    MemR bar b g own C val ids t f id sg (some (st, (storeM m a n (sg == 36)).1, trapIf (storeM m a n (sg == 36)).2 5 tr)) := by
  rintro st0 m0 tr0 h
  cases h
  obtain ⟨g1, e1, v1, k1⟩ := pop_o vf hst hb
  have x1 := vx.mono k1 Agr.refl (tS1 t)
  have m1 := vm.mono k1 Agr.refl (tS3 t)
  obtain ⟨g2, e2, v2, k2⟩ := pop_o v1 rfl hb
  have x2 := x1.mono k2 Agr.refl (tS1 t)
  have m2 := m1.mono k2 Agr.refl (tS3 t)
  obtain ⟨⟨ba, da, hmv, hba, hda⟩, hoM⟩ := m2
  obtain ⟨g3, e3, hmv3, hn3, hk3⟩ := store_ok (bar := bar) hmv hb a n (sg == 36)
  have k3 : Kp own (fun k => k = 4 ∨ k = 5) g2 g3 := ⟨by omega, fun j hj hs => hk3 j (fun q => hs (.inl (hba j q))) (fun q => hs (.inr (hda j q)))⟩
  have m3 : MemO g3 b own C.M (storeM m a n (sg == 36)).1 := ⟨⟨ba, da, hmv3, hba, hda⟩, hoM⟩
  have v3 := v2.mono k3 Agr.refl (by omega) (by omega)
  have x3 := x2.mono k3 Agr.refl (by omega)
  obtain ⟨g4, e4, x4, k4, n4⟩ := stop_ok x3 hb (storeM m a n (sg == 36)).2 5
  have v4 := v3.mono k4 Agr.refl (by omega) (by omega)
  have m4 := m3.mono k4 Agr.refl (by omega)
  have hk : Kp own (tM t) g g4 := (k1.le fun k h => tS_M h).trans Agr.refl ((k2.le fun k h => tS_M h).trans Agr.refl ((k3.le fun k h => by unfold tM; omega).trans Agr.refl (k4.le fun k h => .inl h)))
  obtain ⟨cs, c1, c2, _⟩ := x1.cell4
  obtain ⟨cs', c1', c2', _⟩ := x2.cell4
  obtain ⟨x, g5, hcall, rfl, rfl⟩ := callF_K (o := call tb prim) (F := f_engine_runner_memory) (bar := bar) (h := g) (args := [.ptr C.X 0, .ptr id 0, .int .i32 sg]) (P := fun x g5 => x = .tup [] ∧ g5 = g4) rfl rfl (fun K hK => by
    rcases hsg with rfl | rfl
    · have hz : ((36 : Int) == 36) = true := rfl
      rw [hz] at e3 e4
      simp [f_engine_runner_memory, env0, go_sem, get_alloc, n_alloc, get_set, n_set, get_kill, n_kill, writeAt, a11, a21, a31, a41, a51, a61, a71, isNil, c1, c2, e1, e2, e3, e4]
      refine ⟨sees_of rfl ?_, ?_⟩
      · simp [-getElem?_pos, R_nil, R_cons, RS_some, sameV_some, seesQ_some, List.take, List.take_succ_cons, List.take_zero, go_sem, get_alloc, n_alloc, get_set, n_set, get_kill, n_kill, writeAt, a11, a21, a31, a41, a51, a61, a71, isNil, c1, c2, c1', c2', e2, List.getElem?_cons_zero, List.getElem?_cons_succ]
      · simp [go_sem, endP, endI, resultsA, resultA, freezeL, freezeV, AV.free.freeL, AV.free, packA, dropS]
        exact ⟨_, _, ⟨rfl, rfl⟩, hK _ _ ⟨rfl, rfl⟩⟩
    · have hz : ((174 : Int) == 36) = false := rfl
      rw [hz] at e3 e4
      simp [f_engine_runner_memory, env0, go_sem, get_alloc, n_alloc, get_set, n_set, get_kill, n_kill, writeAt, a11, a21, a31, a41, a51, a61, a71, isNil, c1, c2, e1, e2, e3, e4]
      refine ⟨sees_of rfl ?_, ?_⟩
      · simp [-getElem?_pos, R_nil, R_cons, RS_some, sameV_some, seesQ_some, List.take, List.take_succ_cons, List.take_zero, go_sem, get_alloc, n_alloc, get_set, n_set, get_kill, n_kill, writeAt, a11, a21, a31, a41, a51, a61, a71, isNil, c1, c2, c1', c2', e2, List.getElem?_cons_zero, List.getElem?_cons_succ]
      · simp [go_sem, endP, endI, resultsA, resultA, freezeL, freezeV, AV.free.freeL, AV.free, packA, dropS]
        exact ⟨_, _, ⟨rfl, rfl⟩, hK _ _ ⟨rfl, rfl⟩⟩)
  exact ⟨_, own, call_of tb_engine_runner_memory hcall, v4, x4, m4, hk, Agr.refl⟩
theorem mem_pages (vx : XO g b own C tr val ids) (vf : FrO g b own t f id) (vm : MemO g b own C.M m) (hb : bar ≤ b) (hbg : b ≤ g.n) (hsm : f.st.length < 3000000) :
    MemR bar b g own C val ids t f id 35 (some ((m.dirty.length : Int) :: f.st, m, tr)) := by
  rintro st0 m0 tr0 h
  cases h
  have vm' := vm
  obtain ⟨⟨ba, da, hmv, _, _⟩, _⟩ := vm'
  have e2 := pages_ok (bar := bar) hmv
  obtain ⟨g3, own3, e4, v3, k3, a3⟩ := push_o vf hb hbg hsm (m.dirty.length : Int)
  have x3 := vx.mono k3 a3 (tS1 t)
  have m3 := vm.mono k3 a3 (tS3 t)
  obtain ⟨cs, c1, c2, _⟩ := vx.cell4
  obtain ⟨x, g4, hcall, rfl, rfl⟩ := callF_K (o := call tb prim) (F := f_engine_runner_memory) (bar := bar) (h := g) (args := [.ptr C.X 0, .ptr id 0, .int .i32 35]) (P := fun x g4 => x = .tup [] ∧ g4 = g3) rfl rfl (fun K hK => by
    simp [f_engine_runner_memory, env0, go_sem, get_alloc, n_alloc, get_set, n_set, get_kill, n_kill, writeAt, a11, a21, a31, a41, a51, a61, a71, isNil, c1, c2, e2, e4]
    simp [go_sem, endP, endI, resultsA, resultA, freezeL, freezeV, AV.free.freeL, AV.free, packA, dropS]
    exact ⟨_, _, ⟨rfl, rfl⟩, hK _ _ ⟨rfl, rfl⟩⟩)
  exact ⟨_, own3, call_of tb_engine_runner_memory hcall, v3, x3, m3, k3.le fun k h => tS_M h, a3⟩
end
end Go.Ev
set_option linter.unusedSectionVars false
namespace Go.Ev
open Go
def tP (t : Nat) : Nat → Prop := fun k => k = 1 ∨ k = 6 ∨ k = 7 ∨ k = 8 ∨ tS t k
theorem tS6 (t : Nat) : ¬ tS t 6 ∧ ¬ tS t 7 ∧ ¬ tS t 8 := by unfold tS; omega
theorem tS0 (t : Nat) : ¬ tS t 0 := by unfold tS; omega
theorem tS_P {t k : Nat} (h : tS t k) : tP t k := .inr (.inr (.inr (.inr h)))
theorem alloc_kp {own : Nat → Nat} {S : Nat → Prop} {g : H} {o : HObj} : Kp own S g (g.alloc o) := ⟨by simp [n_alloc], fun j hj _ => by rw [get_alloc, if_neg (by omega)]⟩
section
variable {bar b : Nat} {g : H} {own : Nat → Nat} {C : Cx} {tr val : Int} {ids : List Nat} {t : Nat} {f : Fm} {id : Nat} {r : Row}
def tokA (k : Tok) : AV := .agg [.int .i32 k.sign, .int .i64 k.n, .int .i32 k.name]
def tokH (g : H) (k : Tok) : H := g.alloc (.cells [.int .i32 k.sign, .int .i64 k.n, .int .i32 k.name] 0)
def PlainR (bar b : Nat) (g : H) (own : Nat → Nat) (C : Cx) (val : Int) (ids : List Nat) (t : Nat) (f : Fm) (id : Nat) (k : Tok) (x : Option (List Int × Row × Int)) : Prop :=
  ∀ st r' tr', x = some (st, r', tr') → ∃ g' own', call tb prim n_engine_runner_plain [.ptr C.X 0, .ptr id 0, tokA k] bar g = some (.tup [], g') ∧ FrO g' b own' t { f with st := st } id ∧ XO g' b own' C tr' val ids ∧ RowO g' b own' C.R r' ∧ Kp own (tP t) g g' ∧ Agr g.n own own'
theorem plain_in {k : Tok} {x : Option (List Int × Row × Int)} (vx : XO g b own C tr val ids) (vf : FrO g b own t f id) (vr : RowO g b own C.R r)
    (h : XO (tokH g k) b (ext own g.n 0) C tr val ids → FrO (tokH g k) b (ext own g.n 0) t f id → RowO (tokH g k) b (ext own g.n 0) C.R r → (tokH g k).n = g.n + 1 → ext own g.n 0 g.n = 0 → (tokH g k).get g.n = some (.cells [.int .i32 k.sign, .int .i64 k.n, .int .i32 k.name] 0) →
      ∀ st r' tr', x = some (st, r', tr') → ∃ g' own', call tb prim n_engine_runner_plain [.ptr C.X 0, .ptr id 0, tokA k] bar g = some (.tup [], g') ∧ FrO g' b own' t { f with st := st } id ∧ XO g' b own' C tr' val ids ∧ RowO g' b own' C.R r' ∧ Kp (ext own g.n 0) (tP t) (tokH g k) g' ∧ Agr (g.n + 1) (ext own g.n 0) own') : PlainR bar b g own C val ids t f id k x := by
  intro st r' tr' hx
  have kp : Kp own (fun _ => False) g (tokH g k) := alloc_kp
  obtain ⟨g', own', h1, h2, h3, h4, h5, h6⟩ := h (vx.mono kp Agr.ext (by simp)) (vf.mono kp Agr.ext (by simp) (by simp)) (vr.mono kp Agr.ext (by simp)) (by simp [tokH, n_alloc]) (by simp [ext]) (by simp [tokH, get_alloc]) st r' tr' hx
  exact ⟨g', own', h1, h2, h3, h4, (kp.le fun _ q => q.elim).trans Agr.ext h5, Agr.trans Agr.ext h6 (by omega)⟩
theorem plain_dup {k : Tok} {a : Int} {st : List Int} (vx : XO g b own C tr val ids) (vf : FrO g b own t f id) (vr : RowO g b own C.R r) (hb : bar ≤ b) (hbg : b ≤ g.n) (hst : f.st = a :: st) (hsm : f.st.length < 3000000) (hk : k.sign = 46) :
    PlainR bar b g own C val ids t f id k (some (a :: a :: st, r, tr)) := by
  refine plain_in vx vf vr fun vx vf vr hn ho hg st0 r0 tr0 h => ?_
  cases h
  obtain ⟨g3, own3, e4, v3, k3, a3⟩ := push_o vf hb (by omega) hsm a
  have x3 := vx.mono k3 a3 (tS1 t)
  have r3 := vr.mono k3 a3 (tS6 t)
  have vf' := vf
  obtain ⟨⟨la, ta, sa, hv, _, _⟩, _⟩ := vf'
  have hget := hv.get
  have hl := hv.loc
  have hos := hv.st
  rw [hst] at hos hsm
  simp only [List.length_cons] at hos hsm
  obtain ⟨sid, all, full, rfl, hbs, hsl, hgs, hle, htk, hcl, hgi, _, hcut⟩ := hos.cases (by omega)
  have h30 : (frC la ta f.c.args f.at' f.loc (.sl sid 0 1 (st.length + 1) full))[30]? = some (.sl sid 0 1 (st.length + 1) full) := frC_30 hl
  have htop : all[st.length]? = some (.int .i64 a) := by rw [hgi _ (by omega)]; exact stC_top a st
  have hw : IntKind.i64.wrap (st.length : Int) = (st.length : Nat) := w64 (by omega) (by omega)
  have hltI : (st.length : Int) < (st.length : Int) + 1 := by omega
  obtain ⟨cs, hcs⟩ : ∃ cs, cs = frC la ta f.c.args f.at' f.loc (.sl sid 0 1 (st.length + 1) full) := ⟨_, rfl⟩
  rw [← hcs] at hget h30
  rw [show f.st = a :: st from hst] at v3
  obtain ⟨x, g4, hcall, rfl, rfl⟩ := callF_K (o := call tb prim) (F := f_engine_runner_plain) (bar := bar) (h := g) (args := [.ptr C.X 0, .ptr id 0, tokA k]) (P := fun x g4 => x = .tup [] ∧ g4 = g3) rfl rfl (fun K hK => by
    simp [f_engine_runner_plain, env0, go_sem, get_alloc, n_alloc, get_set, n_set, get_kill, n_kill, writeAt, a11, a21, a31, a41, a51, a61, a71, isNil, tokA]
    rw [show (g.alloc (.cells [.int .i32 k.sign, .int .i64 k.n, .int .i32 k.name] 0)) = tokH g k from rfl, hk]
    simp [go_sem, get_alloc, n_alloc, get_set, n_set, get_kill, n_kill, writeAt, a11, a21, a31, a41, a51, a61, a71, isNil, hget, h30, hw, hltI, indexIn, hgs, htop, e4]
    simp [go_sem, endP, endI, resultsA, resultA, freezeL, freezeV, AV.free.freeL, AV.free, packA, dropS]
    exact ⟨_, _, ⟨rfl, rfl⟩, hK _ _ ⟨rfl, rfl⟩⟩)
  exact ⟨_, own3, call_of tb_engine_runner_plain hcall, v3, x3, r3, k3.le fun k h => tS_P h, by rw [← hn]; exact a3⟩
theorem plain_drop {k : Tok} {a : Int} {st : List Int} (vx : XO g b own C tr val ids) (vf : FrO g b own t f id) (vr : RowO g b own C.R r) (hb : bar ≤ b) (hbg : b ≤ g.n) (hst : f.st = a :: st) (hk : k.sign = 44) :
    PlainR bar b g own C val ids t f id k (some (st, r, tr)) := by
  refine plain_in vx vf vr fun vx vf vr hn ho hg st0 r0 tr0 h => ?_
  cases h
  obtain ⟨g1, e1, v1, k1⟩ := pop_o vf hst hb
  have x1 := vx.mono k1 Agr.refl (tS1 t)
  have r1 := vr.mono k1 Agr.refl (tS6 t)
  obtain ⟨x, g9, hcall, rfl, rfl⟩ := callF_K (o := call tb prim) (F := f_engine_runner_plain) (bar := bar) (h := g) (args := [.ptr C.X 0, .ptr id 0, tokA k]) (P := fun x g9 => x = .tup [] ∧ g9 = g1) rfl rfl (fun K hK => by
    simp [f_engine_runner_plain, env0, go_sem, get_alloc, n_alloc, get_set, n_set, get_kill, n_kill, writeAt, a11, a21, a31, a41, a51, a61, a71, isNil, tokA]
    rw [show (g.alloc (.cells [.int .i32 k.sign, .int .i64 k.n, .int .i32 k.name] 0)) = tokH g k from rfl]
    rw [hk]
    simp [go_sem, get_alloc, n_alloc, get_set, n_set, get_kill, n_kill, writeAt, a11, a21, a31, a41, a51, a61, a71, isNil, e1]
    simp [go_sem, endP, endI, resultsA, resultA, freezeL, freezeV, AV.free.freeL, AV.free, packA, dropS]
    exact ⟨_, _, ⟨rfl, rfl⟩, hK _ _ ⟨rfl, rfl⟩⟩)
  exact ⟨_, _, call_of tb_engine_runner_plain hcall, v1, x1, r1, k1.le fun k h => tS_P h, Agr.refl⟩
theorem plain_skip {k : Tok} (vx : XO g b own C tr val ids) (vf : FrO g b own t f id) (vr : RowO g b own C.R r) (hk : k.sign = 59 ∨ k.sign = 91) :
    PlainR bar b g own C val ids t f id k (some (f.st, r, tr)) := by
  refine plain_in vx vf vr fun vx vf vr hn ho hg st0 r0 tr0 h => ?_
  cases h
  obtain ⟨x, g9, hcall, rfl, rfl⟩ := callF_K (o := call tb prim) (F := f_engine_runner_plain) (bar := bar) (h := g) (args := [.ptr C.X 0, .ptr id 0, tokA k]) (P := fun x g9 => x = .tup [] ∧ g9 = tokH g k) rfl rfl (fun K hK => by
    rcases hk with hk | hk
    · simp [f_engine_runner_plain, env0, go_sem, get_alloc, n_alloc, get_set, n_set, get_kill, n_kill, writeAt, a11, a21, a31, a41, a51, a61, a71, isNil, tokA]
      rw [show (g.alloc (.cells [.int .i32 k.sign, .int .i64 k.n, .int .i32 k.name] 0)) = tokH g k from rfl, hk]
      simp [go_sem, endP, endI, resultsA, resultA, freezeL, freezeV, AV.free.freeL, AV.free, packA, dropS]
      exact ⟨_, _, ⟨rfl, rfl⟩, hK _ _ ⟨rfl, rfl⟩⟩
    · simp [f_engine_runner_plain, env0, go_sem, get_alloc, n_alloc, get_set, n_set, get_kill, n_kill, writeAt, a11, a21, a31, a41, a51, a61, a71, isNil, tokA]
      rw [show (g.alloc (.cells [.int .i32 k.sign, .int .i64 k.n, .int .i32 k.name] 0)) = tokH g k from rfl, hk]
      simp [go_sem, endP, endI, resultsA, resultA, freezeL, freezeV, AV.free.freeL, AV.free, packA, dropS]
      exact ⟨_, _, ⟨rfl, rfl⟩, hK _ _ ⟨rfl, rfl⟩⟩)
  exact ⟨_, _, call_of tb_engine_runner_plain hcall, vf, vx, vr, Kp.refl, Agr.refl⟩
theorem plain_halt {k : Tok} (vx : XO g b own C tr val ids) (vf : FrO g b own t f id) (vr : RowO g b own C.R r) (hb : bar ≤ b) (hk : k.sign = 161) :
    PlainR bar b g own C val ids t f id k (some (f.st, r, 2)) := by
  refine plain_in vx vf vr fun vx vf vr hn ho hg st0 r0 tr0 h => ?_
  cases h
  have vx' := vx
  obtain ⟨⟨fra, h1, h2, h3⟩, hoX, hbX, hl, hs⟩ := vx'
  have hbx : bar ≤ C.X := Nat.le_trans hb hbX
  have hsp : splice (xC C fra tr val) 7 [.int .i64 2] = xC C fra 2 val := rfl
  have hle : 7 + 1 ≤ (xC C fra tr val).length := by simp [xC]
  obtain ⟨g1, hg1⟩ : ∃ g1, g1 = (tokH g k).set C.X (.cells (xC C fra 2 val) 0) := ⟨_, rfl⟩
  have k1 : Kp (ext own g.n 0) (fun k => k = 1) (tokH g k) g1 := ⟨by rw [hg1, n_set]; exact Nat.le_refl _, fun j hj hsj => by rw [hg1, get_set_ne (fun q => hsj (by rw [q]; exact hoX))]⟩
  have x1 : XO g1 b (ext own g.n 0) C 2 val ids := ⟨⟨fra, by rw [hg1, get_set, if_pos rfl], h2.mono k1.1 (fun j hj => by rw [hg1, get_set_ne (fun q => by have := h3 j hj; rw [q, hoX] at this; omega)]), h3⟩, hoX, hbX, by rw [hg1, n_set]; exact hl, hs⟩
  have v1 := vf.mono k1 Agr.refl (by omega) (by omega)
  have r1 := vr.mono k1 Agr.refl (by omega)
  obtain ⟨cs, hcs⟩ : ∃ cs, cs = xC C fra tr val := ⟨_, rfl⟩
  rw [← hcs] at h1 hsp hle
  obtain ⟨x, g9, hcall, rfl, rfl⟩ := callF_K (o := call tb prim) (F := f_engine_runner_plain) (bar := bar) (h := g) (args := [.ptr C.X 0, .ptr id 0, tokA k]) (P := fun x g9 => x = .tup [] ∧ g9 = g1) rfl rfl (fun K hK => by
    simp [f_engine_runner_plain, env0, go_sem, get_alloc, n_alloc, get_set, n_set, get_kill, n_kill, writeAt, a11, a21, a31, a41, a51, a61, a71, isNil, tokA]
    rw [show (g.alloc (.cells [.int .i32 k.sign, .int .i64 k.n, .int .i32 k.name] 0)) = tokH g k from rfl]
    rw [hk]
    simp [go_sem, get_alloc, n_alloc, get_set, n_set, get_kill, n_kill, writeAt, a11, a21, a31, a41, a51, a61, a71, isNil, h1, hle, hsp, hbx, ← hg1]
    simp [go_sem, endP, endI, resultsA, resultA, freezeL, freezeV, AV.free.freeL, AV.free, packA, dropS]
    exact ⟨_, _, ⟨rfl, rfl⟩, hK _ _ ⟨rfl, rfl⟩⟩)
  exact ⟨_, _, call_of tb_engine_runner_plain hcall, v1, x1, r1, k1.le fun k h => .inl h, Agr.refl⟩
theorem plain_not {k : Tok} {a : Int} {st : List Int} (vx : XO g b own C tr val ids) (vf : FrO g b own t f id) (vr : RowO g b own C.R r) (hb : bar ≤ b) (hbg : b ≤ g.n) (hst : f.st = a :: st) (hk : k.sign = 33) :
    PlainR bar b g own C val ids t f id k (some ((doN k.sign a 0).1 :: st, r, trapIf ((doN k.sign a 0).2 == 0) (doN k.sign a 0).2 tr)) := by
  have hsm := vf.sm
  rw [hst] at hsm
  refine plain_in vx vf vr fun vx vf vr hn ho hg st0 r0 tr0 h => ?_
  cases h
  obtain ⟨g1, e1, v1, k1⟩ := pop_o vf hst hb
  have x1 := vx.mono k1 Agr.refl (tS1 t)
  have r1 := vr.mono k1 Agr.refl (tS6 t)
  have hg1 : g1.get g.n = some (.cells [.int .i32 k.sign, .int .i64 k.n, .int .i32 k.name] 0) := by rw [k1.2 g.n (by omega) (by rw [ho]; exact tS0 t)]; exact hg
  have e2 := do_ok (bar := bar) (g := g1) k.sign a 0
  obtain ⟨g2, e3, x2, k2, n2⟩ := stop_ok x1 hb ((doN k.sign a 0).2 == 0) (doN k.sign a 0).2
  have v2 := v1.mono k2 Agr.refl (by omega) (by omega)
  have r2 := r1.mono k2 Agr.refl (by omega)
  obtain ⟨g3, own3, e4, v3, k3, a3⟩ := push_o v2 hb (by have := k1.1; have := k2.1; omega) (by simp at hsm ⊢; omega) (doN k.sign a 0).1
  have x3 := x2.mono k3 a3 (tS1 t)
  have r3 := r2.mono k3 a3 (tS6 t)
  have hkp : Kp (ext own g.n 0) (tP t) (tokH g k) g3 := (k1.le fun k h => tS_P h).trans Agr.refl ((k2.le fun k h => .inl h).trans Agr.refl (k3.le fun k h => tS_P h))
  rw [hk] at e2 e3 e4 hg hg1
  obtain ⟨x, g9, hcall, rfl, rfl⟩ := callF_K (o := call tb prim) (F := f_engine_runner_plain) (bar := bar) (h := g) (args := [.ptr C.X 0, .ptr id 0, tokA k]) (P := fun x g9 => x = .tup [] ∧ g9 = g3) rfl rfl (fun K hK => by
    simp [f_engine_runner_plain, env0, go_sem, get_alloc, n_alloc, get_set, n_set, get_kill, n_kill, writeAt, a11, a21, a31, a41, a51, a61, a71, isNil, tokA]
    rw [show (g.alloc (.cells [.int .i32 k.sign, .int .i64 k.n, .int .i32 k.name] 0)) = tokH g k from rfl]
    rw [hk]
    simp [go_sem, get_alloc, n_alloc, get_set, n_set, get_kill, n_kill, writeAt, a11, a21, a31, a41, a51, a61, a71, isNil, hg, e1, e2]
    refine ⟨sees_of rfl ?_, ?_⟩
    · simp [-getElem?_pos, R_nil, R_cons, RS_some, sameV_some, seesQ_some, List.take, List.take_succ_cons, List.take_zero, go_sem, get_alloc, n_alloc, get_set, n_set, get_kill, n_kill, writeAt, a11, a21, a31, a41, a51, a61, a71, isNil, hg, hg1, e1, e2, List.getElem?_cons_zero, List.getElem?_cons_succ]
    simp [go_sem, get_alloc, n_alloc, get_set, n_set, get_kill, n_kill, writeAt, a11, a21, a31, a41, a51, a61, a71, isNil, e1, e2, e3, e4]
    simp [go_sem, endP, endI, resultsA, resultA, freezeL, freezeV, AV.free.freeL, AV.free, packA, dropS]
    exact ⟨_, _, ⟨rfl, rfl⟩, hK _ _ ⟨rfl, rfl⟩⟩)
  exact ⟨_, own3, call_of tb_engine_runner_plain hcall, v3, x3, r3, hkp, Agr.trans Agr.refl a3 (by have := k1.1; have := k2.1; omega)⟩
theorem plain_two {k : Tok} {a c : Int} {st : List Int} (vx : XO g b own C tr val ids) (vf : FrO g b own t f id) (vr : RowO g b own C.R r) (hb : bar ≤ b) (hbg : b ≤ g.n) (hst : f.st = c :: a :: st) (hk : k.sign ≠ 46 ∧ k.sign ≠ 44 ∧ k.sign ≠ 59 ∧ k.sign ≠ 91 ∧ k.sign ≠ 161 ∧ k.sign ≠ 960 ∧ k.sign ≠ 33) :
    PlainR bar b g own C val ids t f id k (some ((doN k.sign a c).1 :: st, r, trapIf ((doN k.sign a c).2 == 0) (doN k.sign a c).2 tr)) := by
  have hsm := vf.sm
  rw [hst] at hsm
  refine plain_in vx vf vr fun vx vf vr hn ho hg st0 r0 tr0 h => ?_
  cases h
  obtain ⟨g0, e0, v0, k0⟩ := pop_o vf hst hb
  have x0 := vx.mono k0 Agr.refl (tS1 t)
  have r0 := vr.mono k0 Agr.refl (tS6 t)
  obtain ⟨g1, e1, v1, k1⟩ := pop_o v0 rfl hb
  have x1 := x0.mono k1 Agr.refl (tS1 t)
  have r1 := r0.mono k1 Agr.refl (tS6 t)
  have hg0 : g0.get g.n = some (.cells [.int .i32 k.sign, .int .i64 k.n, .int .i32 k.name] 0) := by rw [k0.2 g.n (by omega) (by rw [ho]; exact tS0 t)]; exact hg
  have hg1 : g1.get g.n = some (.cells [.int .i32 k.sign, .int .i64 k.n, .int .i32 k.name] 0) := by rw [k1.2 g.n (by have := k0.1; omega) (by rw [ho]; exact tS0 t)]; exact hg0
  have e2 := do_ok (bar := bar) (g := g1) k.sign a c
  obtain ⟨g2, e3, x2, k2, n2⟩ := stop_ok x1 hb ((doN k.sign a c).2 == 0) (doN k.sign a c).2
  have v2 := v1.mono k2 Agr.refl (by omega) (by omega)
  have r2 := r1.mono k2 Agr.refl (by omega)
  obtain ⟨g3, own3, e4, v3, k3, a3⟩ := push_o v2 hb (by have := k0.1; have := k1.1; have := k2.1; omega) (by simp at hsm ⊢; omega) (doN k.sign a c).1
  have x3 := x2.mono k3 a3 (tS1 t)
  have r3 := r2.mono k3 a3 (tS6 t)
  have hkp : Kp (ext own g.n 0) (tP t) (tokH g k) g3 := (k0.le fun k h => tS_P h).trans Agr.refl ((k1.le fun k h => tS_P h).trans Agr.refl ((k2.le fun k h => .inl h).trans Agr.refl (k3.le fun k h => tS_P h)))
  obtain ⟨q1, q2, q3, q4, q5, q6, q7⟩ := hk
  obtain ⟨sg, hsg⟩ : ∃ sg, sg = k.sign := ⟨_, rfl⟩
  rw [← hsg] at q1 q2 q3 q4 q5 q6 q7 hg0 hg1 e2 e3 e4
  have p1 : (sg == 46) = false := by simpa using q1
  have p2 : (sg == 44) = false := by simpa using q2
  have p3 : (sg == 59) = false := by simpa using q3
  have p4 : (sg == 91) = false := by simpa using q4
  have p5 : (sg == 161) = false := by simpa using q5
  have p6 : (sg == 960) = false := by simpa using q6
  have p7 : (sg == 33) = false := by simpa using q7
  obtain ⟨x, g9, hcall, rfl, rfl⟩ := callF_K (o := call tb prim) (F := f_engine_runner_plain) (bar := bar) (h := g) (args := [.ptr C.X 0, .ptr id 0, tokA k]) (P := fun x g9 => x = .tup [] ∧ g9 = g3) rfl rfl (fun K hK => by
    simp [f_engine_runner_plain, env0, go_sem, get_alloc, n_alloc, get_set, n_set, get_kill, n_kill, writeAt, a11, a21, a31, a41, a51, a61, a71, isNil, tokA]
    rw [show (g.alloc (.cells [.int .i32 k.sign, .int .i64 k.n, .int .i32 k.name] 0)) = tokH g k from rfl]
    rw [← hsg]
    simp [go_sem, get_alloc, n_alloc, get_set, n_set, get_kill, n_kill, writeAt, a11, a21, a31, a41, a51, a61, a71, isNil, p1, p2, p3, p4, p5, p6, p7, e0, hg0, e1, e2]
    refine ⟨sees_of rfl ?_, ?_⟩
    · simp [-getElem?_pos, R_nil, R_cons, RS_some, sameV_some, seesQ_some, List.take, List.take_succ_cons, List.take_zero, go_sem, get_alloc, n_alloc, get_set, n_set, get_kill, n_kill, writeAt, a11, a21, a31, a41, a51, a61, a71, isNil, hg0, hg1, e1, e2, List.getElem?_cons_zero, List.getElem?_cons_succ]
    simp [go_sem, get_alloc, n_alloc, get_set, n_set, get_kill, n_kill, writeAt, a11, a21, a31, a41, a51, a61, a71, isNil, e0, e1, e2, e3, e4]
    simp [go_sem, endP, endI, resultsA, resultA, freezeL, freezeV, AV.free.freeL, AV.free, packA, dropS]
    exact ⟨_, _, ⟨rfl, rfl⟩, hK _ _ ⟨rfl, rfl⟩⟩)
  exact ⟨_, own3, call_of tb_engine_runner_plain hcall, v3, x3, r3, hkp, Agr.trans Agr.refl a3 (by have := k0.1; have := k1.1; have := k2.1; omega)⟩
theorem plain_ask {k : Tok} {a : Int} {st : List Int} (vx : XO g b own C tr val ids) (vf : FrO g b own t f id) (vr : RowO g b own C.R r) (hb : bar ≤ b) (hbg : b ≤ g.n) (hst : f.st = a :: st) (hsr : r.asks.length < 2000000) (hk : k.sign = 960) :
    PlainR bar b g own C val ids t f id k (some ((askR r k.name a).2.1 :: st, (askR r k.name a).1, trapIf (askR r k.name a).2.2 7 tr)) := by
  have hsm := vf.sm
  rw [hst] at hsm
  refine plain_in vx vf vr fun vx vf vr hn ho hg st0 r0 tr0 h => ?_
  cases h
  obtain ⟨g1, e1, v1, k1⟩ := pop_o vf hst hb
  have x1 := vx.mono k1 Agr.refl (tS1 t)
  have r1 := vr.mono k1 Agr.refl (tS6 t)
  have hg1 : g1.get g.n = some (.cells [.int .i32 k.sign, .int .i64 k.n, .int .i32 k.name] 0) := by rw [k1.2 g.n (by omega) (by rw [ho]; exact tS0 t)]; exact hg
  obtain ⟨⟨la, aa, hrv, hla, haa⟩, hoR⟩ := r1
  obtain ⟨g2, la', aa', e2, hrv', hlat, haat, hn2, hk2⟩ := ask_ok (bar := bar) hrv hb (by have := k1.1; omega) hsr k.name a
  have k2 : Kp (ext own g.n 0) (fun k => k = 6 ∨ k = 8) g1 g2 := ⟨hn2, fun j hj hs => hk2 j hj (fun q => hs (.inl (by rw [q]; exact hoR))) (fun q => hs (.inr (haa j q)))⟩
  have a2 : Agr g1.n (ext own g.n 0) (ext (ext own g.n 0) g1.n 8) := Agr.ext
  have r2 : RowO g2 b (ext (ext own g.n 0) g1.n 8) C.R (askR r k.name a).1 := ⟨⟨la', aa', hrv', fun j hj => by rw [a2 j (hrv.l.at_lt' (hlat j hj))]; exact hla j (hlat j hj), fun j hj => by have := haat j hj; simp only [ext]; rw [if_neg (by omega)]⟩, by rw [a2 _ hrv.lt]; exact hoR⟩
  have v2 := v1.mono k2 a2 (by omega) (by omega)
  have x2 := x1.mono k2 a2 (by omega)
  obtain ⟨g3, e3, x3, k3, n3⟩ := stop_ok x2 hb (askR r k.name a).2.2 7
  have v3 := v2.mono k3 Agr.refl (by omega) (by omega)
  have r3 := r2.mono k3 Agr.refl (by omega)
  obtain ⟨g4, own4, e4, v4, k4, a4⟩ := push_o v3 hb (by have := k1.1; have := k2.1; have := k3.1; omega) (by simp at hsm ⊢; omega) (askR r k.name a).2.1
  have x4 := x3.mono k4 a4 (tS1 t)
  have r4 := r3.mono k4 a4 (tS6 t)
  have hkp : Kp (ext own g.n 0) (tP t) (tokH g k) g4 := (k1.le fun k h => tS_P h).trans Agr.refl ((k2.le fun k h => by unfold tP; omega).trans a2 ((k3.le fun k h => .inl h).trans Agr.refl (k4.le fun k h => tS_P h)))
  obtain ⟨cs, c1, _, c2⟩ := vx.cell4
  obtain ⟨cs', c1', _, c2'⟩ := x1.cell4
  obtain ⟨x, g9, hcall, rfl, rfl⟩ := callF_K (o := call tb prim) (F := f_engine_runner_plain) (bar := bar) (h := g) (args := [.ptr C.X 0, .ptr id 0, tokA k]) (P := fun x g9 => x = .tup [] ∧ g9 = g4) rfl rfl (fun K hK => by
    simp [f_engine_runner_plain, env0, go_sem, get_alloc, n_alloc, get_set, n_set, get_kill, n_kill, writeAt, a11, a21, a31, a41, a51, a61, a71, isNil, tokA]
    rw [show (g.alloc (.cells [.int .i32 k.sign, .int .i64 k.n, .int .i32 k.name] 0)) = tokH g k from rfl]
    rw [hk]
    simp [go_sem, get_alloc, n_alloc, get_set, n_set, get_kill, n_kill, writeAt, a11, a21, a31, a41, a51, a61, a71, isNil, c1, c2, hg, e1, e2]
    refine ⟨⟨sees_of rfl ?_, sees_of rfl ?_⟩, ?_⟩
    · simp [-getElem?_pos, R_nil, R_cons, RS_some, sameV_some, seesQ_some, List.take, List.take_succ_cons, List.take_zero, go_sem, get_alloc, n_alloc, get_set, n_set, get_kill, n_kill, writeAt, a11, a21, a31, a41, a51, a61, a71, isNil, c1, c2, c1', c2', hg, hg1, e1, e2, List.getElem?_cons_zero, List.getElem?_cons_succ]
    · simp [-getElem?_pos, R_nil, R_cons, RS_some, sameV_some, seesQ_some, List.take, List.take_succ_cons, List.take_zero, go_sem, get_alloc, n_alloc, get_set, n_set, get_kill, n_kill, writeAt, a11, a21, a31, a41, a51, a61, a71, isNil, c1, c2, c1', c2', hg, hg1, e1, e2, List.getElem?_cons_zero, List.getElem?_cons_succ]
    simp [go_sem, get_alloc, n_alloc, get_set, n_set, get_kill, n_kill, writeAt, a11, a21, a31, a41, a51, a61, a71, isNil, e1, e2, e3, e4]
    simp [go_sem, endP, endI, resultsA, resultA, freezeL, freezeV, AV.free.freeL, AV.free, packA, dropS]
    exact ⟨_, _, ⟨rfl, rfl⟩, hK _ _ ⟨rfl, rfl⟩⟩)
  exact ⟨_, own4, call_of tb_engine_runner_plain hcall, v4, x4, r4, hkp, Agr.trans (Agr.trans Agr.refl a2 (by have := k1.1; omega)) a4 (by have := k1.1; have := k2.1; have := k3.1; omega)⟩
end
end Go.Ev
set_option linter.unusedSectionVars false
namespace Go.Ev
open Go
theorem fillF (la ta : AV) (a : Int) (h1 : la.one = true) (h2 : ta.one = true) : fillA [.nilsl, .nilsl, .int .i64 0, .int .i64 0, .int .i64 0, .int .i64 0, .int .i64 0, .int .i64 0, .int .i64 0, .int .i64 0, .int .i64 0, .int .i64 0, .int .i64 0, .int .i64 0, .int .i64 0, .int .i64 0, .int .i64 0, .int .i64 0, .int .i64 0, .int .i64 0, .int .i64 0, .int .i64 0, .int .i64 0, .int .i64 0, .int .i64 0, .int .i64 0, .int .i64 0, .int .i64 0, .int .i64 0, .int .i64 0, .nilsl] [(0, 3, .agg [la, ta, .int .i64 a])] = some (frC la ta a 0 (List.replicate 26 0) .nilsl) := by
  have : (AV.cells (.agg [la, ta, .int .i64 a])).length = 3 ∧ 0 + 3 ≤ ([.nilsl, .nilsl, .int .i64 0, .int .i64 0, .int .i64 0, .int .i64 0, .int .i64 0, .int .i64 0, .int .i64 0, .int .i64 0, .int .i64 0, .int .i64 0, .int .i64 0, .int .i64 0, .int .i64 0, .int .i64 0, .int .i64 0, .int .i64 0, .int .i64 0, .int .i64 0, .int .i64 0, .int .i64 0, .int .i64 0, .int .i64 0, .int .i64 0, .int .i64 0, .int .i64 0, .int .i64 0, .int .i64 0, .int .i64 0, .nilsl] : List AV).length ∧ (AV.cells (.agg [la, ta, .int .i64 a])).all AV.one = true := ⟨rfl, by simp, by
    show (la.one && (ta.one && (true && true))) = true
    rw [h1, h2]; rfl⟩
  simp only [fillA]
  rw [if_pos this]
  rfl
theorem frC_args {la ta sa : AV} {a : Int} {p : Nat} {l : List Int} (h : l.length ≤ 26) : splice (frC la ta a p (List.replicate 26 0) sa) 4 (l.map (AV.int .i64)) = frC la ta a p (l ++ List.replicate (26 - l.length) 0) sa := by
  unfold splice frC
  simp only [List.take_succ_cons, List.take_zero, List.length_map]
  have : (la :: ta :: AV.int .i64 a :: AV.int .i64 p :: ((List.replicate 26 0).map (AV.int .i64) ++ [sa])).drop (4 + l.length) = (List.replicate (26 - l.length) 0).map (AV.int .i64) ++ [sa] := by
    rw [show 4 + l.length = l.length + 1 + 1 + 1 + 1 by omega]
    simp only [List.drop_succ_cons]
    rw [List.drop_append_of_le_length (by simp; omega), List.map_replicate, List.map_replicate, List.drop_replicate]
  rw [this]; simp
theorem all_one_int (l : List Int) : (l.map (AV.int .i64)).all AV.one = true := by
  rw [List.all_eq_true]; intro x hx; rw [List.mem_map] at hx; obtain ⟨y, _, rfl⟩ := hx; rfl
theorem frC_one {la ta sa : AV} {a : Int} {p : Nat} {l : List Int} (h1 : la.one = true) (h2 : ta.one = true) (h3 : sa.one = true) : (frC la ta a p l sa).all AV.one = true := by
  show (la.one && (ta.one && (true && (true && (l.map (AV.int .i64) ++ [sa]).all AV.one)))) = true
  rw [List.all_append, all_one_int, h1, h2]
  show (true && (true && (true && (true && (true && (sa.one && true)))))) = true
  rw [h3]; rfl
theorem FzV.one {k : Nat} {a : AV} {n : Nat} {cs : List AV} (v : FzV k a n cs) : a.one = true := by
  obtain ⟨h1, h2, ⟨rfl, _⟩ | ⟨f, rfl⟩⟩ := v <;> rfl
section
variable {bar b : Nat} {g : H} {own : Nat → Nat} {C : Cx} {tr val : Int} {ids : List Nat}
theorem row_get (cx : CxV g own C) {k : Nat} {x : AV × AV × Code'} (hx : C.rows[k]? = some x) : ∃ cs full, C.ca = .fz 3 C.rows.length cs full ∧ (cs.length = C.rows.length * 3) = True ∧ k < C.rows.length ∧ k * 3 + 3 ≤ cs.length ∧ (cs.drop (k * 3)).take 3 = [x.1, x.2.1, .int .i64 x.2.2.args] ∧ cs[k * 3 + 2]? = some (.int .i64 x.2.2.args) := by
  have hlt := (List.getElem?_eq_some_iff.mp hx).1
  obtain ⟨h1, h2, ⟨_, e⟩ | ⟨full, e⟩⟩ := cx.ca
  · omega
  · exact ⟨_, full, e, by simpa using h1, hlt, by rw [h1]; omega, flat_row (c := cdC) (k := 3) (fun _ => rfl) C.rows k x hx, flat_get (c := cdC) (k := 3) (fun _ => rfl) C.rows k 2 x (by omega) hx⟩
theorem call_ok' (vx : XO g b own C tr val ids) (cx : CxV g own C) (hb : bar ≤ b) (hbg : b ≤ g.n) {k : Nat} {x : AV × AV × Code'} (hx : C.rows[k]? = some x) {aa : AV} {args : List Int} (hv : Vw 1 g aa args.length (args.map (AV.int .i64))) (hl : args.length ≤ 26) (hids : ids.length < 1000) :
    ∃ g' own', call tb prim n_engine_runner_call [.ptr C.X 0, .int .i64 k, aa] bar g = some (.tup [], g') ∧ XO g' b own' C tr val (g.n :: ids) ∧ FrO g' b own' ids.length (newF x.2.2 args) g.n ∧ Kp own (fun k => k = 1 ∨ k = 2) g g' ∧ Agr g.n own own' := by
  obtain ⟨⟨fra, h1, h2, h3⟩, hoX, hbX, hlX, hs⟩ := vx
  obtain ⟨cs, full, hca, hcl, hkl, hk3, hrow, _⟩ := row_get cx hx
  obtain ⟨hcd, ha0, ha1⟩ := cx.cd x (List.mem_of_getElem? hx)
  have ho1 : x.1.one = true := hcd.1.1.one
  have ho2 : x.2.1.one = true := hcd.1.2.one
  have hnf : newF x.2.2 args = ⟨x.2.2, 0, args ++ List.replicate (26 - args.length) 0, []⟩ := by
    unfold newF; rw [List.take_of_length_le hl]
  
  obtain ⟨g1, hg1⟩ : ∃ g1, g1 = g.alloc (.cells (frC x.1 x.2.1 x.2.2.args 0 (List.replicate 26 0) .nilsl) 0) := ⟨_, rfl⟩
  obtain ⟨g2, hg2⟩ : ∃ g2, g2 = g1.set g.n (.cells (frC x.1 x.2.1 x.2.2.args 0 (args ++ List.replicate (26 - args.length) 0) .nilsl) 0) := ⟨_, rfl⟩
  have n1 : g1.n = g.n + 1 := by rw [hg1]; simp [n_alloc]
  have n2 : g2.n = g.n + 1 := by rw [hg2, n_set]; exact n1
  have k2 : ∀ j, j < g.n → g2.get j = g.get j := fun j hj => by rw [hg2, get_set_ne (by omega), hg1, get_alloc, if_neg (by omega)]
  have gF1 : g1.get g.n = some (.cells (frC x.1 x.2.1 x.2.2.args 0 (List.replicate 26 0) .nilsl) 0) := by rw [hg1, get_alloc, if_pos rfl]
  have gF2 : g2.get g.n = some (.cells (frC x.1 x.2.1 x.2.2.args 0 (args ++ List.replicate (26 - args.length) 0) .nilsl) 0) := by rw [hg2, get_set, if_pos rfl]
  have gX2 : g2.get C.X = some (.cells (xC C fra tr val) 0) := by rw [k2 _ hlX]; exact h1
  have o2 : OW 1 g2 bar fra ids.length (ids.reverse.map fun i => .ptr i 0) := (h2.mono (by omega) (fun j hj => k2 j (h2.at_lt hj).2)).bar_le hb
  obtain ⟨g3, e3, o3, n3, f3⟩ := o2.app (by omega) 8 [.ptr g.n 0] rfl rfl (by omega) (by omega) (by omega)
  obtain ⟨g4, hg4⟩ : ∃ g4, g4 = g3.set C.X (.cells (xC C (.sl (g2.n + 1) 0 1 (ids.length + 1) false) tr val) 0) := ⟨_, rfl⟩
  have hXn : ¬ fra.isAt C.X := fun q => by have := h3 _ q; omega
  have gX3 : g3.get C.X = some (.cells (xC C fra tr val) 0) := by rw [f3 _ (by omega) hXn]; exact gX2
  have hFn : ¬ fra.isAt g.n := fun q => by have := (h2.at_lt q).2; omega
  have gF3 : g3.get g.n = some (.cells (frC x.1 x.2.1 x.2.2.args 0 (args ++ List.replicate (26 - args.length) 0) .nilsl) 0) := by rw [f3 _ (by omega) hFn]; exact gF2
  have n4 : g4.n = g.n + 3 := by rw [hg4, n_set]; omega
  have gF4 : g4.get g.n = some (.cells (frC x.1 x.2.1 x.2.2.args 0 (args ++ List.replicate (26 - args.length) 0) .nilsl) 0) := by rw [hg4, get_set_ne (by omega)]; exact gF3
  obtain ⟨own', hown⟩ : ∃ own', own' = ext (ext own g.n (2 * ids.length + 10)) (g.n + 1) 2 := ⟨_, rfl⟩
  have hag : Agr g.n own own' := by rw [hown]; exact Agr.trans Agr.ext Agr.ext (by omega)
  have hoF : own' g.n = 2 * ids.length + 10 := by rw [hown]; simp [ext]
  have ho3 : ∀ j, g.n + 1 ≤ j → own' j = 2 := fun j hj => by rw [hown]; simp only [ext]; rw [if_neg (by omega)]
  have hXO : XO g4 b own' C tr val (g.n :: ids) := by
    refine ⟨⟨.sl (g2.n + 1) 0 1 (ids.length + 1) false, by rw [hg4, get_set, if_pos rfl], ?_, fun j hj => by cases hj; exact ho3 _ (by omega)⟩, by rw [hag _ hlX]; exact hoX, hbX, by omega, by simp; omega⟩
    have := (o3.up (b := b) (fun j hj => by cases hj; omega)).mono (h' := g4) (by omega) (fun j hj => by cases hj; rw [hg4, get_set_ne (by omega)])
    simpa using this
  have hFO : FrO g4 b own' ids.length (newF x.2.2 args) g.n := by
    rw [hnf]
    exact ⟨⟨x.1, x.2.1, .nilsl, ⟨gF4, hbg, by omega, by simp; omega, OW.nil, fun h => h, by simp, by simp⟩, fun j hj => hj.elim, hcd⟩, hoF⟩
  have hkp : Kp own (fun k => k = 1 ∨ k = 2) g g4 := ⟨by omega, fun j hj hs => by
    rw [hg4, get_set_ne (fun q => hs (.inl (by rw [q]; exact hoX))), f3 j (by omega) (fun q => hs (.inr (h3 j q)))]; exact k2 j hj⟩
  have hsrc : source 1 g1 aa = some (args.length, args.map (AV.int .i64)) := vw_source (hv.keep (by omega) (fun j hj => by rw [hg1, get_alloc, if_neg (by have := hv.at_lt' hj; omega)]))
  have hsp4 : splice (frC x.1 x.2.1 x.2.2.args 0 (List.replicate 26 0) .nilsl) 4 ((args.map (AV.int .i64)).take (min args.length 26 * 1)) = frC x.1 x.2.1 x.2.2.args 0 (args ++ List.replicate (26 - args.length) 0) .nilsl := by
    rw [List.take_of_length_le (by simp; omega)]; exact frC_args hl
  have hcpy : cpyA bar 1 g1 (.sl g.n 4 1 26 true) args.length (args.map (AV.int .i64)) = some (goI (min args.length 26 : Nat), g2) := by
    have hbn : bar ≤ g.n := by omega
    have hle : 4 + ((args.map (AV.int .i64)).take (min args.length 26 * 1)).length ≤ (frC x.1 x.2.1 x.2.2.args 0 (List.replicate 26 0) .nilsl).length := by
      rw [frC_len (by simp)]; simp; omega
    have hone : ((args.map (AV.int .i64)).take (min args.length 26 * 1)).all AV.one = true := by
      have := all_one_int args
      rw [List.all_eq_true] at this ⊢
      exact fun y hy => this y (List.mem_of_mem_take hy)
    simp only [cpyA, if_true]
    unfold writeAt
    rw [gF1]
    simp only
    rw [if_pos ⟨hbn, hle, by omega, hone⟩, hsp4, hg2]
    rfl
  have hle31 : 4 + 26 * 1 ≤ (frC x.1 x.2.1 x.2.2.args 0 (List.replicate 26 0) .nilsl).length := by rw [frC_len (by simp)]; omega
  have hfone : (frC x.1 x.2.1 x.2.2.args 0 (List.replicate 26 0) .nilsl).all AV.one = true := frC_one ho1 ho2 rfl
  have hX6 : splice (xC C fra tr val) 6 [.sl (g2.n + 1) 0 1 (ids.length + 1) false] = xC C (.sl (g2.n + 1) 0 1 (ids.length + 1) false) tr val := rfl
  have hX3 : (xC C fra tr val)[3]? = some C.ca := rfl
  have hX6' : (xC C fra tr val)[6]? = some fra := rfl
  have hXl : 6 + 1 ≤ (xC C fra tr val).length := by simp [xC]
  have hbx : bar ≤ C.X := Nat.le_trans hb hbX
  have hfr1 : fra.one = true := h2.one
  rw [hca] at hX3
  obtain ⟨xc, hxc⟩ : ∃ xc, xc = xC C fra tr val := ⟨_, rfl⟩
  obtain ⟨f0, hf0⟩ : ∃ f0, f0 = frC x.1 x.2.1 x.2.2.args 0 (List.replicate 26 0) .nilsl := ⟨_, rfl⟩
  have hfill := fillF x.1 x.2.1 x.2.2.args ho1 ho2
  rw [← hf0] at hg1 gF1 hle31 hfone hfill
  rw [← hxc] at h1 gX2 gX3 hX6 hX3 hX6' hXl
  have hix : indexIn (.int .i64 (k : Int)) C.rows.length = some k := by simp only [indexIn]; rw [if_pos (by omega), Int.toNat_natCast]
  have gX1 : g1.get C.X = some (.cells xc 0) := by rw [hg1, get_alloc, if_neg (by omega)]; exact h1
  obtain ⟨y, g9, hcall, rfl, rfl⟩ := callF_K (o := call tb prim) (F := f_engine_runner_call) (bar := bar) (h := g) (args := [.ptr C.X 0, .int .i64 k, aa]) (P := fun y g9 => y = .tup [] ∧ g9 = g4) rfl rfl (fun K hK => by
    simp [f_engine_runner_call, env0, go_sem, isNil, h1, hX3, hcl, hix, hk3, hrow, evParts, hfill, hfone, AV.cells]
    rw [← hg1]
    simp [go_sem, isNil, optEv, optBound, evParts, gF1, hle31, hcpy, hsrc, gX2, hX6', fillA, sp10]
    rw [e3]
    simp [go_sem, get_alloc, n_alloc, get_set, n_set, get_kill, n_kill, writeAt, a11, a21, a31, a41, a51, a61, a71, isNil, gX3, hX6, hXl, hbx]
    rw [← hg4]
    simp [go_sem, endP, endI, resultsA, resultA, freezeL, freezeV, AV.free.freeL, AV.free, packA, dropS]
    exact ⟨_, _, ⟨rfl, rfl⟩, hK _ _ ⟨rfl, rfl⟩⟩)
  exact ⟨_, own', call_of tb_engine_runner_call hcall, hXO, hFO, hkp, hag⟩
end
end Go.Ev
set_option linter.unusedSectionVars false
namespace Go.Ev
open Go
def tC (t : Nat) : Nat → Prop := fun k => k = 1 ∨ k = 2 ∨ tS t k
theorem argsOf_len {a : Nat} {st : List Int} (h : a ≤ st.length) : (argsOf a st).length = a := by simp [argsOf, h]
theorem OW.split {g : H} {b : Nat} {sa : AV} {st : List Int} (v : OW 1 g b sa st.length (stC st)) {a : Nat} (ha : a ≤ st.length) (hs : st.length ≤ 3000000) :
    ∃ aa sa', sliceA 1 sa (some (.int .i64 ((st.length - a : Nat) : Int))) none none = some aa ∧ sliceA 1 sa none (some (.int .i64 ((st.length - a : Nat) : Int))) none = some sa' ∧ (∀ j, sa'.isAt j → sa.isAt j) ∧ Vw 1 g aa a ((argsOf a st).map (AV.int .i64)) ∧ sa'.one = true ∧ (∀ j, aa.isAt j → sa.isAt j) ∧
    (∀ g' : H, g.n ≤ g'.n → (∀ j, sa.isAt j → g'.get j = g.get j) → OW 1 g' b sa' (st.length - a) (stC (st.drop a))) := by
  by_cases hz : st.length = 0
  · have : st = [] := List.length_eq_zero_iff.mp hz
    subst this
    have ha0 : a = 0 := by simpa using ha
    subst ha0
    obtain ⟨_, _, ⟨rfl, _⟩ | ⟨id, rest, full, rfl, h1, h2, h3⟩⟩ := v
    · exact ⟨.nilsl, .nilsl, rfl, rfl, fun j hj => hj, ⟨rfl, by omega, .inl ⟨rfl, rfl⟩⟩, rfl, fun j hj => hj, fun g' _ _ => OW.nil⟩
    · refine ⟨.sl id 0 1 0 full, .sl id 0 1 0 full, by simp [sliceA, optBound, bound], by simp [sliceA, optBound, bound], fun j hj => hj, ⟨rfl, by omega, .inr (.inr ⟨id, 0, full, _, 0, rfl, h2, h3, by simp, by simp [argsOf]⟩)⟩, rfl, fun j hj => hj, fun g' hn hg => ⟨rfl, rfl, .inr ⟨id, rest, full, rfl, h1, by omega, by rw [hg id rfl]; exact h3⟩⟩⟩
  · obtain ⟨sid, all, full, rfl, hbs, hsl, hgs, hle, htk, hcl, hgi, _, hcut⟩ := v.cases hz
    have hne : st.length - (st.length - a) = a := by omega
    refine ⟨.sl sid (0 + (st.length - a) * 1) 1 (st.length - (st.length - a)) (full && decide (st.length = st.length)), .sl sid 0 1 (st.length - a) (full && decide (st.length - a = st.length)), ?_, ?_, fun j hj => hj, ?_, rfl, fun j hj => hj, fun g' hn hg => ?_⟩
    · have e1 : optBound 0 (some (AV.int .i64 ((st.length - a : Nat) : Int))) = some (st.length - a) := by simp [optBound, bound]
      have e2 : ∀ n, optBound n none = some n := fun _ => rfl
      simp only [sliceA, e1, e2]
      rw [if_pos ⟨trivial, by omega, Nat.le_refl _⟩]
    · have e1 : optBound st.length (some (AV.int .i64 ((st.length - a : Nat) : Int))) = some (st.length - a) := by simp [optBound, bound]
      have e2 : ∀ n, optBound n none = some n := fun _ => rfl
      simp only [sliceA, e1, e2]
      rw [if_pos ⟨trivial, by omega, by omega⟩]
      simp
    · rw [hne]
      refine ⟨by simp [argsOf_len ha], by omega, .inr (.inr ⟨sid, 0 + (st.length - a) * 1, _, all, 0, rfl, hsl, hgs, by omega, ?_⟩)⟩
      have : (argsOf a st).map (AV.int .i64) = (stC st).drop (st.length - a) := by
        unfold stC argsOf; rw [← List.map_drop, List.drop_reverse, hne]
      rw [this, ← htk, List.drop_take]
      congr 1
      · omega
      · congr 1; omega
    · have := hcut g' (st.length - a) (full && decide (st.length - a = st.length)) (by omega) hn (hg sid rfl)
      have e : (stC st).take ((st.length - a) * 1) = stC (st.drop a) := by
        unfold stC; rw [Nat.mul_one, ← List.map_take, List.take_reverse, hne]
      rw [e] at this
      exact this
section
variable {bar b : Nat} {g : H} {own : Nat → Nat} {C : Cx} {tr val : Int} {ids : List Nat} {t : Nat} {f : Fm} {id : Nat}
theorem calls_ok (vx : XO g b own C tr val ids) (cx : CxV g own C) (vf : FrO g b own t f id) (hb : bar ≤ b) (hbg : b ≤ g.n) {nm : Int} {k : Nat} (hk : findN nm C.fs 0 = k) {x : AV × AV × Code'} (hx : C.rows[k]? = some x) {a : Nat} (ha : x.2.2.args = a) (hal : a ≤ f.st.length) (hids : ids.length < 1000) :
    ∃ g' own', call tb prim n_engine_runner_calls [.ptr C.X 0, .ptr id 0, .int .i32 nm] bar g = some (.tup [], g') ∧ FrO g' b own' t { f with st := f.st.drop a } id ∧ Kp own (tC t) g g' ∧ Agr g.n own own' ∧
      ((32 ≤ ids.length ∧ XO g' b own' C 6 val ids) ∨ (ids.length < 32 ∧ ∃ i, XO g' b own' C tr val (i :: ids) ∧ FrO g' b own' ids.length (newF x.2.2 (argsOf a f.st)) i)) := by
  have vx' := vx
  obtain ⟨⟨fra, h1, h2, h3⟩, hoX, hbX, hlX, hs⟩ := vx'
  have vf' := vf
  obtain ⟨⟨la, ta, sa, hv, hsa, hc⟩, ho⟩ := vf'
  have hst := hv.st
  have hsm := hv.small
  obtain ⟨aa, sa', es1, es2, hat, hvw, hone, hat2, hcut⟩ := hst.split hal hsm
  have hl := hv.loc
  have hget := hv.get
  have hbid : bar ≤ id := Nat.le_trans hb hv.bid
  obtain ⟨cs, full, hca, hcl, hkl, hk3, hrow, hk2⟩ := row_get cx hx
  obtain ⟨hcd, ha0, ha1⟩ := cx.cd x (List.mem_of_getElem? hx)
  have eF := check_Find_ok (pr := prim) (bar := bar) (h := g) C.fs C.fa nm C.p C.mo cx.fs
  rw [hk] at eF
  
  obtain ⟨g1, hg1⟩ : ∃ g1, g1 = g.set id (.cells (frC la ta f.c.args f.at' f.loc sa') 0) := ⟨_, rfl⟩
  have n1 : g1.n = g.n := by rw [hg1, n_set]
  have k1 : Kp own (tS t) g g1 := ⟨by omega, fun j hj hns => by rw [hg1]; exact get_set_ne (fun q => hns (.inl (by rw [q]; exact ho)))⟩
  have hsne : ∀ j, sa.isAt j → g1.get j = g.get j := fun j hj => by rw [hg1]; exact get_set_ne (fun q => hv.ne (q ▸ hj))
  have v1 : FrO g1 b own t { f with st := f.st.drop a } id := ⟨⟨la, ta, sa', ⟨by rw [hg1]; simp [get_set], hv.bid, by have := hv.lt; omega, hl, by
      have := hcut g1 (by omega) hsne
      show OW 1 g1 b sa' (f.st.drop a).length (stC (f.st.drop a))
      rw [List.length_drop]; exact this, fun q => hv.ne (hat _ q), by show (f.st.drop a).length ≤ _; rw [List.length_drop]; omega, hv.at1⟩, fun j hj => hsa j (hat j hj), hc⟩, ho⟩
  have x1 := vx.mono k1 Agr.refl (tS1 t)
  have c1 := cx.mono k1 Agr.refl (tS0 t)
  have hvw1 : Vw 1 g1 aa a ((argsOf a f.st).map (AV.int .i64)) := hvw.keep (by omega) (fun j hj => hsne j (hat2 j hj))
  
  have h30 : (frC la ta f.c.args f.at' f.loc sa)[30]? = some sa := frC_30 hl
  have hle30 : 30 + 1 ≤ (frC la ta f.c.args f.at' f.loc sa).length := by rw [frC_len hl]; omega
  have hs30 : ∀ v, splice (frC la ta f.c.args f.at' f.loc sa) 30 [v] = frC la ta f.c.args f.at' f.loc v := fun _ => frC_set30 hl
  have hlenS : lenR (some sa) g = some (goI f.st.length, g) := hst.len g
  have hix : indexIn (.int .i64 (k : Int)) C.rows.length = some k := by simp only [indexIn]; rw [if_pos (by omega), Int.toNat_natCast]
  have hw : IntKind.i64.wrap ((f.st.length : Int) - (a : Int)) = ((f.st.length - a : Nat) : Int) := by rw [w64 (by omega) (by omega)]; omega
  have hX02 : (xC C fra tr val).take 3 = [.int .i64 C.p, .int .i64 C.mo, C.fa] := rfl
  have hX3 : (xC C fra tr val)[3]? = some C.ca := rfl
  have hX6 : (xC C fra tr val)[6]? = some fra := rfl
  have hX7 : splice (xC C fra tr val) 7 [.int .i64 6] = xC C fra 6 val := rfl
  have hXl : (xC C fra tr val).length = 9 := rfl
  have hX0l : 3 ≤ (xC C fra tr val).length := by rw [hXl]; omega
  have hXle : 7 + 1 ≤ (xC C fra tr val).length := by rw [hXl]; omega
  have hlenF : ∀ g', lenR (some fra) g' = some (goI ids.length, g') := fun g' => h2.len g'
  have hbx : bar ≤ C.X := Nat.le_trans hb hbX
  have hXn : ¬ C.X = id := fun q => by rw [q, ho] at hoX; omega
  have g1X : g1.get C.X = some (.cells (xC C fra tr val) 0) := by rw [hg1, get_set_ne hXn]; exact h1
  rw [hca] at hX3
  obtain ⟨xc, hxc⟩ : ∃ xc, xc = xC C fra tr val := ⟨_, rfl⟩
  rw [← hxc] at h1 hX02 hX3 hX6 hX7 hXl hX0l hXle g1X
  obtain ⟨fc, hfc⟩ : ∃ fc, fc = frC la ta f.c.args f.at' f.loc sa := ⟨_, rfl⟩
  rw [← hfc] at hget h30 hle30 hs30
  rw [ha] at hk2
  by_cases hd : 32 ≤ ids.length
  · obtain ⟨g2, hg2⟩ : ∃ g2, g2 = g1.set C.X (.cells (xC C fra 6 val) 0) := ⟨_, rfl⟩
    have k2 : Kp own (fun k => k = 1) g1 g2 := ⟨by rw [hg2, n_set]; exact Nat.le_refl _, fun j hj hsj => by rw [hg2, get_set_ne (fun q => hsj (by rw [q]; exact hoX))]⟩
    have hge : decide ((32 : Int) ≤ (ids.length : Int)) = true := by simpa using (by omega : (32 : Int) ≤ (ids.length : Int))
    obtain ⟨y, g9, hcall, rfl, rfl⟩ := callF_K (o := call tb prim) (F := f_engine_runner_calls) (bar := bar) (h := g) (args := [.ptr C.X 0, .ptr id 0, .int .i32 nm]) (P := fun y g9 => y = .tup [] ∧ g9 = g2) rfl rfl (fun K hK => by
      simp [f_engine_runner_calls, env0, go_sem, get_alloc, n_alloc, get_set, n_set, get_kill, n_kill, writeAt, a11, a21, a31, a41, a51, a61, a71, isNil, h1, hX0l, hX02, eF, hget, h30, hX3, hlenS, goI, hcl, hix, hk2, hw, optEv, es1, es2, hle30, hs30, hbid, hone]
      simp [go_sem, get_alloc, n_alloc, get_set, n_set, get_kill, n_kill, writeAt, a11, a21, a31, a41, a51, a61, a71, isNil, hXn, h1, hX6, hlenF, goI, hge]
      simp [go_sem, get_alloc, n_alloc, get_set, n_set, get_kill, n_kill, writeAt, a11, a21, a31, a41, a51, a61, a71, isNil, hXn, h1, hX7, hXle, hbx]
      rw [← hg1, ← hg2]
      simp [go_sem, endP, endI, resultsA, resultA, freezeL, freezeV, AV.free.freeL, AV.free, packA, dropS]
      exact ⟨_, _, ⟨rfl, rfl⟩, hK _ _ ⟨rfl, rfl⟩⟩)
    refine ⟨_, own, call_of tb_engine_runner_calls hcall, v1.mono k2 Agr.refl (by omega) (by omega), (k1.le fun k h => .inr (.inr h)).trans Agr.refl (k2.le fun k h => .inl h), Agr.refl, .inl ⟨hd, ?_⟩⟩
    exact ⟨⟨fra, by rw [hg2, get_set, if_pos rfl], h2.mono (by rw [hg2, n_set]; omega) (fun j hj => by rw [hg2, get_set_ne (fun q => by have := h3 j hj; rw [q, hoX] at this; omega), hg1, get_set_ne (fun q => by have := h3 j hj; rw [q, ho] at this; omega)]), h3⟩, hoX, hbX, by rw [hg2, n_set, n1]; exact hlX, hs⟩
  · have hge : decide ((32 : Int) ≤ (ids.length : Int)) = false := by simpa using (by omega : ¬ (32 : Int) ≤ (ids.length : Int))
    obtain ⟨g2, own2, e2, x2, f2, k2, a2⟩ := call_ok' (bar := bar) (args := argsOf a f.st) x1 c1 hb (by omega) hx (by rw [argsOf_len hal]; exact hvw1) (by rw [argsOf_len hal]; omega) hids
    obtain ⟨y, g9, hcall, rfl, rfl⟩ := callF_K (o := call tb prim) (F := f_engine_runner_calls) (bar := bar) (h := g) (args := [.ptr C.X 0, .ptr id 0, .int .i32 nm]) (P := fun y g9 => y = .tup [] ∧ g9 = g2) rfl rfl (fun K hK => by
      simp [f_engine_runner_calls, env0, go_sem, get_alloc, n_alloc, get_set, n_set, get_kill, n_kill, writeAt, a11, a21, a31, a41, a51, a61, a71, isNil, h1, hX0l, hX02, eF, hget, h30, hX3, hlenS, goI, hcl, hix, hk2, hw, optEv, es1, es2, hle30, hs30, hbid, hone]
      simp [go_sem, get_alloc, n_alloc, get_set, n_set, get_kill, n_kill, writeAt, a11, a21, a31, a41, a51, a61, a71, isNil, hXn, h1, hX6, hlenF, goI, hge]
      rw [← hg1]
      simp [go_sem, get_alloc, n_alloc, get_set, n_set, get_kill, n_kill, writeAt, a11, a21, a31, a41, a51, a61, a71, isNil, e2]
      simp [go_sem, endP, endI, resultsA, resultA, freezeL, freezeV, AV.free.freeL, AV.free, packA, dropS]
      exact ⟨_, _, ⟨rfl, rfl⟩, hK _ _ ⟨rfl, rfl⟩⟩)
    refine ⟨_, own2, call_of tb_engine_runner_calls hcall, v1.mono k2 a2 (by omega) (by omega), (k1.le fun k h => .inr (.inr h)).trans Agr.refl (k2.le fun k h => by unfold tC; omega), by rw [← n1]; exact a2, .inr ⟨by omega, g1.n, x2, f2⟩⟩
end
end Go.Ev
set_option linter.unusedSectionVars false
namespace Go.Ev
open Go
theorem FzV.len {k : Nat} {a : AV} {n : Nat} {cs : List AV} (v : FzV k a n cs) (g : H) : lenR (some a) g = some (goI n, g) := by
  obtain ⟨_, _, ⟨rfl, rfl⟩ | ⟨full, rfl⟩⟩ := v <;> rfl
theorem Agr.mono {n m : Nat} {own own' : Nat → Nat} (h : Agr n own own') (hm : m ≤ n) : Agr m own own' := fun j hj => h j (by omega)
def totS : List Fm → Nat
  | [] => 0
  | f :: r => f.st.length + totS r
def tE : Nat → Prop := fun k => k = 1 ∨ k = 2 ∨ 10 ≤ k
section
variable {bar b : Nat} {g : H} {own : Nat → Nat} {C : Cx} {tr val : Int} {ids : List Nat} {t : Nat} {f : Fm} {id i : Nat}
theorem XO.top (v : XO g b own C tr val (i :: ids)) : ∃ sid all full, g.get C.X = some (.cells (xC C (.sl sid 0 1 (ids.length + 1) full) tr val) 0) ∧ g.get sid = some (.cells all 0) ∧ all[ids.length]? = some (.ptr i 0) ∧ own sid = 2 ∧ sid < g.n ∧ b ≤ sid ∧
    (∀ (g' : H) (full' : Bool) (val' : Int), g.n ≤ g'.n → g'.get sid = g.get sid → g'.get C.X = some (.cells (xC C (.sl sid 0 1 ids.length full') tr val') 0) → XO g' b own C tr val' ids) := by
  obtain ⟨⟨fra, h1, h2, h3⟩, hoX, hbX, hlX, hs⟩ := v
  obtain ⟨sid, all, full, rfl, hbs, hsl, hgs, hle, htk, hcl, hgi, _, hcut⟩ := h2.cases (by simp)
  refine ⟨sid, all, full, h1, hgs, ?_, h3 sid rfl, hsl, hbs, fun g' full' val' hn hg hX => ⟨⟨_, hX, ?_, fun j hj => by cases hj; exact h3 sid rfl⟩, hoX, hbX, by omega, by simp at hs; omega⟩⟩
  · rw [hgi _ (by simp), List.reverse_cons, List.map_append, List.getElem?_append_right (by simp)]; simp
  · have := hcut g' ids.length full' (by simp) hn hg
    have e : ((i :: ids).reverse.map fun i => AV.ptr i 0).take (ids.length * 1) = ids.reverse.map fun i => AV.ptr i 0 := by
      rw [List.reverse_cons, List.map_append, Nat.mul_one]
      have : (ids.reverse.map fun i => AV.ptr i 0).length = ids.length := by simp
      rw [← this]; exact List.take_left ..
    rw [e] at this
    exact this
theorem ends_loop (C : Cx) (b bar : Nat) (hb : bar ≤ b) (tr val : Int) (Q : Ex → Env → H → Prop) : ∀ (r : List Fm) (f : Fm) (i : Nat) (ids : List Nat) (g : H) (own : Nat → Nat), b ≤ g.n → XO g b own C tr val (i :: ids) → FrsV g b own (f :: r) (i :: ids) →
    (∀ fr, endsM f r = some (fr, none) → ∀ e g' own' j ids', Kp own tE g g' → Agr g.n own own' → XO g' b own' C tr val (j :: ids') → FrsV g' b own' fr (j :: ids') → e.get 2 = some (.bool true) → Q .ret e g') →
    (∀ fr v, endsM f r = some (fr, some v) → ∀ e g' own', fr = [] → Kp own tE g g' → Agr g.n own own' → XO g' b own' C tr v [] → Q (.exit 0) e g') →
    (∃ out, endsM f r = some out) → totS (f :: r) < 3000000 →
    wpL (call tb prim) bar [0] l0_engine_runner_ends [(0, .ptr C.X 0)] g Q
  | r, f, i, ids, g, own, hbg, vx, vf, hA, hB, hE, hT => by
    obtain ⟨sid, all, full, hX, hS, htop, hoS, hlS, hbS, hcut⟩ := vx.top
    have hf := vf.1
    have hr := vf.2
    obtain ⟨⟨la, ta, sa, hv, hsa, hc⟩, ho⟩ := hf
    have hget := hv.get
    have h3 : (frC la ta f.c.args f.at' f.loc sa)[3]? = some (.int .i64 f.at') := frC_3
    have h0 : (frC la ta f.c.args f.at' f.loc sa)[0]? = some la := frC_0
    have hlen : ∀ g, lenR (some la) g = some (goI f.c.l.length, g) := fun g => hc.1.1.len g
    have hsm := vx.sm
    have hw : IntKind.i64.wrap (ids.length : Int) = (ids.length : Nat) := by simp at hsm; exact w64 (by omega) (by omega)
    have hX6 : ∀ fra, (xC C fra tr val)[6]? = some fra := fun _ => rfl
    have hltI : (ids.length : Int) < (ids.length : Int) + 1 := by omega
    obtain ⟨xc, hxc⟩ : ∃ xc, xc = xC C (.sl sid 0 1 (ids.length + 1) full) tr val := ⟨_, rfl⟩
    have hx6 : xc[6]? = some (.sl sid 0 1 (ids.length + 1) full) := by rw [hxc]; rfl
    rw [← hxc] at hX
    obtain ⟨fc, hfc⟩ : ∃ fc, fc = frC la ta f.c.args f.at' f.loc sa := ⟨_, rfl⟩
    rw [← hfc] at hget h3 h0
    refine M_loop l0_engine_runner_ends.eq_1 ?_
    by_cases hlt : f.at' < f.c.l.length
    · have hlt' : (f.at' : Int) < (f.c.l.length : Int) := by omega
      simp [go_sem, get_alloc, n_alloc, get_set, n_set, get_kill, n_kill, writeAt, a11, a21, a31, a41, a51, a61, a71, isNil, hX, hx6, hw, hltI, indexIn, hS, htop, hget, h3, h0, hlen, goI, hlt']
      exact hA (f :: r) (by unfold endsM; rw [if_pos hlt]) _ _ own i ids Kp.refl Agr.refl (by rw [hxc] at hX; exact vx) vf rfl
    · have hlt' : ¬ (f.at' : Int) < (f.c.l.length : Int) := by omega
      obtain ⟨v, st', hst⟩ : ∃ v st', f.st = v :: st' := by
        obtain ⟨out, ho⟩ := hE
        unfold endsM at ho
        rw [if_neg hlt] at ho
        cases hs : f.st with
        | nil => rw [hs] at ho; cases ho
        | cons v st' => exact ⟨v, st', rfl⟩
      obtain ⟨g1, e1, v1, k1⟩ := pop_o vf.1 hst hb
      have x1 := vx.mono k1 Agr.refl (tS1 _)
      have r1 := FrsV.mono k1 Agr.refl hr (fun t ht => by unfold tS; omega)
      have hXg1 : g1.get C.X = some (.cells xc 0) := by rw [k1.2 _ vx.lt (by rw [vx.own]; exact (tS1 _).1)]; exact hX
      have hSg1 : g1.get sid = some (.cells all 0) := by rw [k1.2 _ hlS (by rw [hoS]; exact (tS1 _).2)]; exact hS
      have hsl : ∀ g : H, sliceA 1 (.sl sid 0 1 (ids.length + 1) full) none (some (.int .i64 (ids.length : Nat))) none = some (.sl sid 0 1 ids.length (full && decide (ids.length = ids.length + 1))) := fun _ => by
        simp [sliceA, optBound, bound]
      have hsl2 := hsl g1
      obtain ⟨fl, hfl⟩ : ∃ fl, fl = (full && decide (ids.length = ids.length + 1)) := ⟨_, rfl⟩
      rw [← hfl] at hsl2
      obtain ⟨xd, hxd⟩ : ∃ xd, xd = xC C (.sl sid 0 1 ids.length fl) tr val := ⟨_, rfl⟩
      have hsp : splice xc 6 [.sl sid 0 1 ids.length fl] = xd := by rw [hxc, hxd]; rfl
      have hle : 6 + 1 ≤ xc.length := by rw [hxc]; simp [xC]
      have hbx : bar ≤ C.X := Nat.le_trans hb vx.bX
      obtain ⟨g2, hg2⟩ : ∃ g2, g2 = g1.set C.X (.cells xd 0) := ⟨_, rfl⟩
      have n2 : g2.n = g1.n := by rw [hg2, n_set]
      have k2 : Kp own (fun k => k = 1) g1 g2 := ⟨by omega, fun j hj hs => by rw [hg2, get_set_ne (fun q => hs (by rw [q]; exact vx.own))]⟩
      have hSX : sid ≠ C.X := fun q => by have := vx.own; rw [← q, hoS] at this; omega
      have hX2 : g2.get C.X = some (.cells xd 0) := by rw [hg2, get_set, if_pos rfl]
      have hS2 : g2.get sid = some (.cells all 0) := by rw [hg2, get_set_ne hSX]; exact hSg1
      have x2 : XO g2 b own C tr val ids := hcut g2 fl val (by have := k1.1; omega) (by rw [hS2, hS]) (by rw [hX2, hxd])
      have r2 := FrsV.mono k2 Agr.refl r1 (fun t ht => by omega)
      have k12 : Kp own tE g g2 := (k1.le fun k h => by unfold tS at h; unfold tE; omega).trans Agr.refl (k2.le fun k h => .inl h)
      have hxd6 : xd[6]? = some (.sl sid 0 1 ids.length fl) := by rw [hxd]; rfl
      obtain ⟨n, hn⟩ : ∃ n, n = ids.length := ⟨_, rfl⟩
      rw [← hn] at hw hltI htop hsl2 hsp hxd6 hx6
      simp [go_sem, get_alloc, n_alloc, get_set, n_set, get_kill, n_kill, writeAt, a11, a21, a31, a41, a51, a61, a71, isNil, hX, hx6, hw, hltI, indexIn, hS, htop, hget, h3, h0, hlen, goI, hlt', e1, hXg1, hSg1, optEv, hsl2, hsp, hle, hbx]
      rw [← hg2]
      cases r with
      | nil =>
        cases ids with
        | cons j l => exact hr.elim
        | nil =>
          obtain ⟨g3, hg3⟩ : ∃ g3, g3 = g2.set C.X (.cells (xC C (.sl sid 0 1 n fl) tr v) 0) := ⟨_, rfl⟩
          have hsp8 : splice xd 8 [.int .i64 v] = xC C (.sl sid 0 1 n fl) tr v := by rw [hxd, hn]; rfl
          have hle8 : 8 + 1 ≤ xd.length := by rw [hxd]; simp [xC]
          have hn0 : n = 0 := hn
          have hz : ((n : Int) == 0) = true := by rw [hn0]; rfl
          simp [go_sem, get_alloc, n_alloc, get_set, n_set, get_kill, n_kill, writeAt, a11, a21, a31, a41, a51, a61, a71, isNil, hX2, hxd6, hz, hsp8, hle8, hbx, goI]
          rw [← hg3]
          refine hB [] v (by unfold endsM; rw [if_neg hlt, hst]) _ g3 own rfl (k12.trans Agr.refl ⟨by rw [hg3, n_set]; exact Nat.le_refl _, fun j hj hs => by rw [hg3, get_set_ne (fun q => hs (.inl (by rw [q]; exact vx.own)))]⟩) Agr.refl ?_
          exact hcut g3 fl v (by have := k1.1; rw [hg3, n_set]; omega) (by rw [hg3, get_set_ne hSX, hS2, hS]) (by rw [hg3, get_set, if_pos rfl, hn])
      | cons f2 r2' =>
        cases ids with
        | nil => exact hr.elim
        | cons j l =>
          have hn0 : n = l.length + 1 := hn
          have hz : ((n : Int) == 0) = false := by rw [hn0]; simp; omega
          obtain ⟨g3, own3, e3, v3, k3, a3⟩ := push_o r2.1 hb (by have := k1.1; omega) (by simp only [totS, hst, List.length_cons] at hT; omega) v
          have x3 := x2.mono k3 a3 (tS1 _)
          have r3 := FrsV.mono k3 a3 r2.2 (fun t ht => by unfold tS; omega)
          have htop2 : all[l.length]? = some (.ptr j 0) := by
            obtain ⟨sid', all', full', hX', hS', ht', _⟩ := x2.top
            rw [hX2] at hX'
            have e := congrArg (fun x => match x with | some (.cells cs _) => cs[6]? | _ => none) hX'
            simp only [hxd6] at e
            have e' : some (AV.sl sid 0 1 n fl) = some (.sl sid' 0 1 (l.length + 1) full') := e
            cases e'
            rw [hS2] at hS'
            cases hS'
            exact ht'
          have hw2 : IntKind.i64.wrap ((n : Int) - 1) = (l.length : Nat) := by rw [w64 (by omega) (by simp at hsm; omega)]; omega
          have hix : indexIn (.int .i64 (l.length : Int)) n = some l.length := by simp only [indexIn]; rw [if_pos (by omega), Int.toNat_natCast]
          simp [go_sem, get_alloc, n_alloc, get_set, n_set, get_kill, n_kill, writeAt, a11, a21, a31, a41, a51, a61, a71, isNil, hX2, hxd6, hz, hbx, goI]
          simp [go_sem, get_alloc, n_alloc, get_set, n_set, get_kill, n_kill, writeAt, a11, a21, a31, a41, a51, a61, a71, isNil, hw2, hix, hS2, htop2, e3]
          have hstep : endsM f (f2 :: r2') = endsM { f2 with st := v :: f2.st } r2' := by conv => lhs; unfold endsM; rw [if_neg hlt, hst]
          refine ends_loop C b bar hb tr val Q r2' { f2 with st := v :: f2.st } j l g3 own3 (by have := k1.1; have := k3.1; omega) x3 ⟨v3, r3⟩ (fun fr he e g' own' j' ids' kk aa xx ff ee => ?_) (fun fr v' he e g' own' h0 kk aa xx => ?_) (by rw [← hstep]; exact hE) ?_
          · exact hA fr (by rw [hstep]; exact he) e g' own' j' ids' (k12.trans Agr.refl ((k3.le fun k h => by unfold tS at h; unfold tE; omega).trans a3 kk)) (Agr.trans (Agr.mono a3 (by have := k1.1; omega)) aa (by have := k1.1; have := k3.1; omega)) xx ff ee
          · exact hB fr v' (by rw [hstep]; exact he) e g' own' h0 (k12.trans Agr.refl ((k3.le fun k h => by unfold tS at h; unfold tE; omega).trans a3 kk)) (Agr.trans (Agr.mono a3 (by have := k1.1; omega)) aa (by have := k1.1; have := k3.1; omega)) xx
          · simp only [totS, hst, List.length_cons] at hT ⊢; omega
end
end Go.Ev
set_option linter.unusedSectionVars false
namespace Go.Ev
open Go
theorem spT3 (a b c u v w : AV) : splice [a, b, c] 0 [u, v, w] = [u, v, w] := Eq.trans rfl rfl
def tA : Nat → Prop := fun k => k ≠ 0 ∧ k ≠ 9
theorem tE_A {k : Nat} (h : tE k) : tA k := by unfold tE at h; unfold tA; omega
theorem tS_A {t k : Nat} (h : tS t k) : tA k := by unfold tS at h; unfold tA; omega
section
variable {bar b : Nat} {g : H} {own : Nat → Nat} {C : Cx} {tr val : Int} {ids : List Nat} {t : Nat} {f : Fm} {id i : Nat}
def EndsV (g' : H) (b : Nat) (own' : Nat → Nat) (C : Cx) (tr val : Int) : List Fm × Option Int → Prop
  | (fr, none) => ∃ j ids', XO g' b own' C tr val (j :: ids') ∧ FrsV g' b own' fr (j :: ids')
  | (fr, some v) => fr = [] ∧ XO g' b own' C tr v []
theorem ends_ok {r : List Fm} (hb : bar ≤ b) (hbg : b ≤ g.n) (vx : XO g b own C tr val (i :: ids)) (vf : FrsV g b own (f :: r) (i :: ids)) (hT : totS (f :: r) < 3000000) {out : List Fm × Option Int} (he : endsM f r = some out) :
    ∃ g' own', call tb prim n_engine_runner_ends [.ptr C.X 0] bar g = some (.bool out.2.isNone, g') ∧ Kp own tE g g' ∧ Agr g.n own own' ∧ EndsV g' b own' C tr val out := by
  obtain ⟨y, g9, hcall, rfl, own', h1, h2, h3⟩ := callF_K (o := call tb prim) (F := f_engine_runner_ends) (bar := bar) (h := g) (args := [.ptr C.X 0]) (P := fun y g9 => y = .bool out.2.isNone ∧ ∃ own', Kp own tE g g9 ∧ Agr g.n own own' ∧ EndsV g9 b own' C tr val out) rfl rfl (fun K hK => by
    simp [f_engine_runner_ends, env0, go_sem, get_alloc, n_alloc, get_set, n_set, get_kill, n_kill, writeAt, a11, a21, a31, a41, a51, a61, a71, isNil]
    refine ends_loop C b bar hb tr val _ r f i ids g own hbg vx vf (fun fr h e g' own' j ids' k1 k2 k3 k4 k5 => ?_) (fun fr v h e g' own' k0 k1 k2 k3 => ?_) ⟨out, he⟩ hT
    · rw [he] at h
      cases h
      simp [go_sem, endP, endI, resultsA, resultA, freezeL, freezeV, AV.free.freeL, AV.free, packA, dropS, k5]
      exact ⟨_, _, ⟨rfl, rfl⟩, hK _ _ ⟨rfl, own', k1, k2, j, ids', k3, k4⟩⟩
    · rw [he] at h
      cases h
      simp [go_sem, endP, endI, resultsA, resultA, freezeL, freezeV, AV.free.freeL, AV.free, packA, dropS]
      exact ⟨_, _, ⟨rfl, rfl⟩, hK _ _ ⟨rfl, own', k1, k2, k0, k3⟩⟩)
  exact ⟨_, own', call_of tb_engine_runner_ends hcall, h1, h2, h3⟩
def tokC (k : Tok) : List AV := [.int .i32 k.sign, .int .i64 k.n, .int .i32 k.name]
def tokZ (g : H) (k : Tok) : H := (g.alloc (.cells [.int .i32 0, .int .i64 0, .int .i32 0] 0)).set g.n (.cells (tokC k) 0)
theorem tokZ_n {k : Tok} : (tokZ g k).n = g.n + 1 := rfl
theorem tokZ_ne {k : Tok} {j : Nat} (h : j ≠ g.n) : (tokZ g k).get j = g.get j := by rw [tokZ, get_set_ne h, get_alloc, if_neg h]
theorem tokZ_kp {k : Tok} {S : Nat → Prop} : Kp own S g (tokZ g k) := ⟨by rw [tokZ_n]; omega, fun j hj _ => tokZ_ne (by omega)⟩
theorem FrO.head (v : FrO g b own t f id) {k : Tok} (hk : f.c.l[f.at']? = some k) : ∃ fc n cs full, g.get id = some (.cells fc 0) ∧ fc[0]? = some (.fz 3 n cs full) ∧ fc[3]? = some (.int .i64 f.at') ∧ (cs.length = n * 3) = True ∧ indexIn (.int .i64 (f.at' : Int)) n = some f.at' ∧ f.at' * 3 + 3 ≤ cs.length ∧ (cs.drop (f.at' * 3)).take 3 = tokC k ∧ id < g.n ∧ f.at' < 2000 := by
  obtain ⟨⟨la, ta, sa, hv, hsa, hc⟩, ho⟩ := v
  have hlt := (List.getElem?_eq_some_iff.mp hk).1
  obtain ⟨⟨hc1, hc2⟩, hc3, _⟩ := hc
  obtain ⟨h1, h2, ⟨_, e⟩ | ⟨full, rfl⟩⟩ := hc1
  · omega
  · refine ⟨_, _, _, full, hv.get, frC_0, frC_3, by simpa using h1, by simp only [indexIn]; rw [if_pos (by omega), Int.toNat_natCast], by rw [h1]; omega, ?_, hv.lt, by omega⟩
    rw [flat_row Tok.cells_len f.c.l _ k hk]; rfl
theorem FrO.next (v : FrO g b own t f id) (hb : bar ≤ b) (ha : f.at' < 2000) : ∃ fc fc', g.get id = some (.cells fc 0) ∧ fc[3]? = some (.int .i64 f.at') ∧ 3 + 1 ≤ fc.length ∧ splice fc 3 [.int .i64 ((f.at' : Int) + 1)] = fc' ∧ bar ≤ id ∧ FrO (g.set id (.cells fc' 0)) b own t { f with at' := f.at' + 1 } id ∧ Kp own (tS t) g (g.set id (.cells fc' 0)) := by
  obtain ⟨⟨la, ta, sa, hv, hsa, hc⟩, ho⟩ := v
  have := FrO.setC (g' := g.set id (.cells (frC la ta f.c.args (f.at' + 1) f.loc sa) 0)) (p := f.at' + 1) hv hsa hc ho hv.loc (by omega) rfl
  exact ⟨_, _, hv.get, frC_3, by rw [frC_len hv.loc]; omega, frC_set3, Nat.le_trans hb hv.bid, this.1, this.2⟩
theorem sg_cases {s : Int} (h1 : ¬ (97 ≤ s ∧ s ≤ 122)) (h2 : ¬ (65 ≤ s ∧ s ≤ 90)) : (decide (97 ≤ s) = false ∧ decide (65 ≤ s) = false) ∨ (decide (97 ≤ s) = false ∧ decide (65 ≤ s) = true ∧ decide (s ≤ 90) = false) ∨ (decide (97 ≤ s) = true ∧ decide (s ≤ 122) = false ∧ decide (65 ≤ s) = true ∧ decide (s ≤ 90) = false) := by
  simp only [decide_eq_true_eq, decide_eq_false_iff_not]; omega
theorem FrO.local (v : FrO g b own t f id) {j : Nat} {x : Int} (hx : f.loc[j]? = some x) : ∃ fc, g.get id = some (.cells fc 0) ∧ fc[4 + j]? = some (.int .i64 x) ∧ j < 26 := by
  obtain ⟨⟨la, ta, sa, hv, hsa, hc⟩, ho⟩ := v
  exact ⟨_, hv.get, frC_loc hx, by have := (List.getElem?_eq_some_iff.mp hx).1; rw [hv.loc] at this; exact this⟩
theorem FrO.setLocal (v : FrO g b own t f id) (hb : bar ≤ b) {j : Nat} (hj : j < 26) (x : Int) : ∃ fc fc', g.get id = some (.cells fc 0) ∧ (4 + j) + 1 ≤ fc.length ∧ splice fc (4 + j) [.int .i64 x] = fc' ∧ bar ≤ id ∧ FrO (g.set id (.cells fc' 0)) b own t { f with loc := f.loc.set j x } id ∧ Kp own (tS t) g (g.set id (.cells fc' 0)) := by
  obtain ⟨⟨la, ta, sa, hv, hsa, hc⟩, ho⟩ := v
  have := FrO.setC (g' := g.set id (.cells (frC la ta f.c.args f.at' (f.loc.set j x) sa) 0)) (p := f.at') (loc := f.loc.set j x) hv hsa hc ho (by rw [List.length_set]; exact hv.loc) hv.at1 rfl
  exact ⟨_, _, hv.get, by rw [frC_len hv.loc]; omega, frC_setloc (by rw [hv.loc]; exact hj), Nat.le_trans hb hv.bid, this.1, this.2⟩
theorem step_num {k : Tok} (vf : FrO g b own t f id) (hb : bar ≤ b) (hbg : b ≤ g.n) (hk : f.c.l[f.at']? = some k) (hs : k.sign = 48) (hsm : f.st.length < 3000000) (X : AV) :
    ∃ g' own', call tb prim n_engine_runner_step [X, .ptr id 0] bar g = some (.tup [], g') ∧ FrO g' b own' t { f with at' := f.at' + 1, st := k.n :: f.st } id ∧ Kp own (tS t) g g' ∧ Agr g.n own own' := by
  obtain ⟨fc, n, cs, full, hget, h0, h3, hcl, hix, hle, hrow, hlt, ha6⟩ := vf.head hk
  have vz := vf.mono (tokZ_kp (k := k) (S := fun _ => False)) (Agr.ext (k := 0)) (by simp) (by simp)
  have hne : id ≠ g.n := by omega
  have hbn : bar ≤ g.n := by omega
  have hw : IntKind.i64.wrap ((f.at' : Int) + 1) = ((f.at' + 1 : Nat) : Int) := w64_succ (by omega)
  obtain ⟨g1, own1, e1, v1, k1, a1⟩ := push_o (bar := bar) vz hb (by rw [tokZ_n]; omega) hsm k.n
  obtain ⟨fd, fe, hget1, h31, hle1, hsp1, hbid, v2, k2⟩ := v1.next hb ha6
  simp only at h31 hsp1
  simp only [tokZ, tokC] at e1
  have hq : (k.sign == 48) = true := by simp [hs]
  obtain ⟨y, g9, hcall, rfl, rfl⟩ := callF_K (o := call tb prim) (F := f_engine_runner_step) (bar := bar) (h := g) (args := [X, .ptr id 0]) (P := fun y g9 => y = .tup [] ∧ g9 = g1.set id (.cells fe 0)) rfl rfl (fun K hK => by
    simp [f_engine_runner_step, env0, go_sem, get_alloc, n_alloc, get_set, n_set, get_kill, n_kill, writeAt, a11, a21, a31, a41, a51, a61, a71, isNil, hget, h0, h3, hcl, hix, hle, hrow]
    refine ⟨⟨sees_of rfl ?_, sees_of rfl ?_, sees_of rfl ?_⟩, ?_⟩
    · simp [-getElem?_pos, R_nil, R_cons, RS_some, sameV_some, seesQ_some, List.take, List.take_succ_cons, List.take_zero, go_sem, get_alloc, n_alloc, get_set, n_set, get_kill, n_kill, writeAt, a11, a21, a31, a41, a51, a61, a71, isNil, hget, h0, h3, hcl, hix, hle, hrow, hne, hbn, tokC, spT3, List.getElem?_cons_zero, List.getElem?_cons_succ]
    · simp [-getElem?_pos, R_nil, R_cons, RS_some, sameV_some, seesQ_some, List.take, List.take_succ_cons, List.take_zero, go_sem, get_alloc, n_alloc, get_set, n_set, get_kill, n_kill, writeAt, a11, a21, a31, a41, a51, a61, a71, isNil, hget, h0, h3, hcl, hix, hle, hrow, hne, hbn, tokC, spT3, List.getElem?_cons_zero, List.getElem?_cons_succ]
    · simp [-getElem?_pos, R_nil, R_cons, RS_some, sameV_some, seesQ_some, List.take, List.take_succ_cons, List.take_zero, go_sem, get_alloc, n_alloc, get_set, n_set, get_kill, n_kill, writeAt, a11, a21, a31, a41, a51, a61, a71, isNil, hget, h0, h3, hcl, hix, hle, hrow, hne, hbn, tokC, spT3, List.getElem?_cons_zero, List.getElem?_cons_succ]
    simp [go_sem, get_alloc, n_alloc, get_set, n_set, get_kill, n_kill, writeAt, a11, a21, a31, a41, a51, a61, a71, isNil, hget, h0, h3, hcl, hix, hle, hrow, hbn, tokC, spT3, hq, e1, hget1, h31, hw, hle1, hsp1, hbid]
    simp [go_sem, endP, endI, resultsA, resultA, freezeL, freezeV, AV.free.freeL, AV.free, packA, dropS]
    exact ⟨_, _, ⟨rfl, rfl⟩, hK _ _ ⟨rfl, rfl⟩⟩)
  exact ⟨_, own1, call_of tb_engine_runner_step hcall, v2, (tokZ_kp (k := k)).trans Agr.ext (k1.trans a1 k2), Agr.trans Agr.ext a1 (by rw [tokZ_n]; omega)⟩
theorem step_get {k : Tok} (vf : FrO g b own t f id) (hb : bar ≤ b) (hbg : b ≤ g.n) (hk : f.c.l[f.at']? = some k) (hs : 97 ≤ k.sign ∧ k.sign ≤ 122) {x : Int} (hx : f.loc[(k.sign - 97).toNat]? = some x) (hsm : f.st.length < 3000000) (X : AV) :
    ∃ g' own', call tb prim n_engine_runner_step [X, .ptr id 0] bar g = some (.tup [], g') ∧ FrO g' b own' t { f with at' := f.at' + 1, st := x :: f.st } id ∧ Kp own (tS t) g g' ∧ Agr g.n own own' := by
  obtain ⟨fc, n, cs, full, hget, h0, h3, hcl, hix, hle, hrow, hlt, ha6⟩ := vf.head hk
  have vz := vf.mono (tokZ_kp (k := k) (S := fun _ => False)) (Agr.ext (k := 0)) (by simp) (by simp)
  have hne : id ≠ g.n := by omega
  have hbn : bar ≤ g.n := by omega
  have hw : IntKind.i64.wrap ((f.at' : Int) + 1) = ((f.at' + 1 : Nat) : Int) := w64_succ (by omega)
  obtain ⟨g1, own1, e1, v1, k1, a1⟩ := push_o (bar := bar) vz hb (by rw [tokZ_n]; omega) hsm x
  obtain ⟨fd, fe, hget1, h31, hle1, hsp1, hbid, v2, k2⟩ := v1.next hb ha6
  simp only at h31 hsp1
  obtain ⟨fg, hfg, hloc, hj⟩ := vf.local hx
  rw [hget] at hfg
  cases hfg
  simp only [tokZ, tokC] at e1
  have hq : (k.sign == 48) = false := by simp; omega
  have hq2 : decide (97 ≤ k.sign) = true := by simp; omega
  have hq3 : decide (k.sign ≤ 122) = true := by simp; omega
  have hq4 : IntKind.i32.wrap (k.sign - 97) = k.sign - 97 := w32 (by omega) (by omega)
  have hq5 : indexIn (.int .i32 (k.sign - 97)) 26 = some (k.sign - 97).toNat := by simp only [indexIn]; rw [if_pos (by omega)]
  obtain ⟨y, g9, hcall, rfl, rfl⟩ := callF_K (o := call tb prim) (F := f_engine_runner_step) (bar := bar) (h := g) (args := [X, .ptr id 0]) (P := fun y g9 => y = .tup [] ∧ g9 = g1.set id (.cells fe 0)) rfl rfl (fun K hK => by
    simp [f_engine_runner_step, env0, go_sem, get_alloc, n_alloc, get_set, n_set, get_kill, n_kill, writeAt, a11, a21, a31, a41, a51, a61, a71, isNil, hget, h0, h3, hcl, hix, hle, hrow]
    refine ⟨⟨sees_of rfl ?_, sees_of rfl ?_, sees_of rfl ?_⟩, ?_⟩
    · simp [-getElem?_pos, R_nil, R_cons, RS_some, sameV_some, seesQ_some, List.take, List.take_succ_cons, List.take_zero, go_sem, get_alloc, n_alloc, get_set, n_set, get_kill, n_kill, writeAt, a11, a21, a31, a41, a51, a61, a71, isNil, hget, h0, h3, hcl, hix, hle, hrow, hne, hbn, tokC, spT3, List.getElem?_cons_zero, List.getElem?_cons_succ]
    · simp [-getElem?_pos, R_nil, R_cons, RS_some, sameV_some, seesQ_some, List.take, List.take_succ_cons, List.take_zero, go_sem, get_alloc, n_alloc, get_set, n_set, get_kill, n_kill, writeAt, a11, a21, a31, a41, a51, a61, a71, isNil, hget, h0, h3, hcl, hix, hle, hrow, hne, hbn, tokC, spT3, List.getElem?_cons_zero, List.getElem?_cons_succ]
    · simp [-getElem?_pos, R_nil, R_cons, RS_some, sameV_some, seesQ_some, List.take, List.take_succ_cons, List.take_zero, go_sem, get_alloc, n_alloc, get_set, n_set, get_kill, n_kill, writeAt, a11, a21, a31, a41, a51, a61, a71, isNil, hget, h0, h3, hcl, hix, hle, hrow, hne, hbn, tokC, spT3, List.getElem?_cons_zero, List.getElem?_cons_succ]
    simp [go_sem, get_alloc, n_alloc, get_set, n_set, get_kill, n_kill, writeAt, a11, a21, a31, a41, a51, a61, a71, isNil, hget, h0, h3, hcl, hix, hle, hrow, hbn, tokC, spT3, hq, hq2, hq3, hq4, hq5, hne, hloc, e1, hget1, h31, hw, hle1, hsp1, hbid]
    simp [go_sem, endP, endI, resultsA, resultA, freezeL, freezeV, AV.free.freeL, AV.free, packA, dropS]
    exact ⟨_, _, ⟨rfl, rfl⟩, hK _ _ ⟨rfl, rfl⟩⟩)
  exact ⟨_, own1, call_of tb_engine_runner_step hcall, v2, (tokZ_kp (k := k)).trans Agr.ext (k1.trans a1 k2), Agr.trans Agr.ext a1 (by rw [tokZ_n]; omega)⟩
theorem step_set {k : Tok} (vf : FrO g b own t f id) (hb : bar ≤ b) (hbg : b ≤ g.n) (hk : f.c.l[f.at']? = some k) (hs : 65 ≤ k.sign ∧ k.sign ≤ 90) {x : Int} {st : List Int} (hst : f.st = x :: st) (X : AV) :
    ∃ g' own', call tb prim n_engine_runner_step [X, .ptr id 0] bar g = some (.tup [], g') ∧ FrO g' b own' t { f with at' := f.at' + 1, st := st, loc := f.loc.set (k.sign - 65).toNat x } id ∧ Kp own (tS t) g g' ∧ Agr g.n own own' := by
  obtain ⟨fc, n, cs, full, hget, h0, h3, hcl, hix, hle, hrow, hlt, ha6⟩ := vf.head hk
  have vz := vf.mono (tokZ_kp (k := k) (S := fun _ => False)) (Agr.ext (k := 0)) (by simp) (by simp)
  have hne : id ≠ g.n := by omega
  have hbn : bar ≤ g.n := by omega
  have hw : IntKind.i64.wrap ((f.at' : Int) + 1) = ((f.at' + 1 : Nat) : Int) := w64_succ (by omega)
  obtain ⟨g1, e1, w1, l1⟩ := pop_o (bar := bar) vz hst hb
  obtain ⟨fg, fh, hgetL, hleL, hspL, hbid', v1, l2⟩ := w1.setLocal (bar := bar) (j := (k.sign - 65).toNat) hb (by omega) x
  obtain ⟨g2, hg2⟩ : ∃ g2, g2 = g1.set id (.cells fh 0) := ⟨_, rfl⟩
  rw [← hg2] at v1 l2
  obtain ⟨fd, fe, hget1, h31, hle1, hsp1, hbid, v2, k2⟩ := v1.next hb ha6
  simp only at h31 hsp1
  simp only [tokZ, tokC] at e1
  have hfd : fd = fh := by rw [hg2, get_set, if_pos rfl] at hget1; cases hget1; rfl
  subst hfd
  have hq : (k.sign == 48) = false := by simp; omega
  have hq2 : decide (97 ≤ k.sign) = false := by simp; omega
  have hq3 : decide (65 ≤ k.sign) = true := by simp; omega
  have hq4 : IntKind.i32.wrap (k.sign - 65) = k.sign - 65 := w32 (by omega) (by omega)
  have hq5 : indexIn (.int .i32 (k.sign - 65)) 26 = some (k.sign - 65).toNat := by simp only [indexIn]; rw [if_pos (by omega)]
  have hq6 : decide (k.sign ≤ 90) = true := by simp; omega
  obtain ⟨y, g9, hcall, rfl, rfl⟩ := callF_K (o := call tb prim) (F := f_engine_runner_step) (bar := bar) (h := g) (args := [X, .ptr id 0]) (P := fun y g9 => y = .tup [] ∧ g9 = g2.set id (.cells fe 0)) rfl rfl (fun K hK => by
    simp [f_engine_runner_step, env0, go_sem, get_alloc, n_alloc, get_set, n_set, get_kill, n_kill, writeAt, a11, a21, a31, a41, a51, a61, a71, isNil, hget, h0, h3, hcl, hix, hle, hrow]
    refine ⟨⟨sees_of rfl ?_, sees_of rfl ?_, sees_of rfl ?_⟩, ?_⟩
    · simp [-getElem?_pos, R_nil, R_cons, RS_some, sameV_some, seesQ_some, List.take, List.take_succ_cons, List.take_zero, go_sem, get_alloc, n_alloc, get_set, n_set, get_kill, n_kill, writeAt, a11, a21, a31, a41, a51, a61, a71, isNil, hget, h0, h3, hcl, hix, hle, hrow, hne, hbn, tokC, spT3, List.getElem?_cons_zero, List.getElem?_cons_succ]
    · simp [-getElem?_pos, R_nil, R_cons, RS_some, sameV_some, seesQ_some, List.take, List.take_succ_cons, List.take_zero, go_sem, get_alloc, n_alloc, get_set, n_set, get_kill, n_kill, writeAt, a11, a21, a31, a41, a51, a61, a71, isNil, hget, h0, h3, hcl, hix, hle, hrow, hne, hbn, tokC, spT3, List.getElem?_cons_zero, List.getElem?_cons_succ]
    · simp [-getElem?_pos, R_nil, R_cons, RS_some, sameV_some, seesQ_some, List.take, List.take_succ_cons, List.take_zero, go_sem, get_alloc, n_alloc, get_set, n_set, get_kill, n_kill, writeAt, a11, a21, a31, a41, a51, a61, a71, isNil, hget, h0, h3, hcl, hix, hle, hrow, hne, hbn, tokC, spT3, List.getElem?_cons_zero, List.getElem?_cons_succ]
    simp [go_sem, get_alloc, n_alloc, get_set, n_set, get_kill, n_kill, writeAt, a11, a21, a31, a41, a51, a61, a71, isNil, hget, h0, h3, hcl, hix, hle, hrow, hbn, tokC, spT3, hq, hq2, hq3, hq4, hq5, hq6, e1, hgetL, hleL, hspL, hbid']
    rw [← hg2]
    simp [go_sem, get_alloc, n_alloc, get_set, n_set, get_kill, n_kill, writeAt, a11, a21, a31, a41, a51, a61, a71, isNil, hget1, h31, hw, hle1, hsp1, hbid]
    simp [go_sem, endP, endI, resultsA, resultA, freezeL, freezeV, AV.free.freeL, AV.free, packA, dropS]
    exact ⟨_, _, ⟨rfl, rfl⟩, hK _ _ ⟨rfl, rfl⟩⟩)
  exact ⟨_, _, call_of tb_engine_runner_step hcall, v2, (tokZ_kp (k := k)).trans Agr.ext (l1.trans Agr.refl (l2.trans Agr.refl k2)), Agr.ext⟩
end
end Go.Ev
