/- Arguments of laws: lists of numbers, texts, structs of such. -/
import Derived.Test.YtliegbpmmjkmkaaDoorB3
set_option linter.unusedSimpArgs false
set_option linter.unusedVariables false
set_option linter.all false
namespace Go.Ev
open Go
/-- A function's own list, or the empty one that is full. -/
def OSf (k : Nat) (h : H) (bar : Nat) (a : AV) (n : Nat) (cs : List AV) : Prop :=
  OS k h bar a n cs ∨ (n = 0 ∧ cs = [] ∧ ∃ id, a = .sl id 0 k 0 true ∧ bar ≤ id ∧ id < h.n ∧ h.get id = some (.cells [] 0))
section
variable {k : Nat} {h h' : H} {bar : Nat} {a : AV} {n : Nat} {cs : List AV}
theorem OSf.len (v : OSf k h bar a n cs) (g : H) : lenR (some a) g = some (goI n, g) := by
  rcases v with v | ⟨rfl, _, id, rfl, _⟩
  · exact v.len g
  · rfl
theorem OSf.one (v : OSf k h bar a n cs) : a.one = true := by
  rcases v with v | ⟨rfl, _, id, rfl, _⟩
  · exact v.one
  · rfl
theorem OSf.mono (v : OSf k h bar a n cs) (hn : h.n ≤ h'.n) (g : ∀ j, a.isAt j → h'.get j = h.get j) : OSf k h' bar a n cs := by
  rcases v with v | ⟨e, c, id, rfl, h1, h2, h3⟩
  · exact .inl (v.mono hn g)
  · exact .inr ⟨e, c, id, rfl, h1, by omega, by rw [g id rfl]; exact h3⟩
theorem OSf.at_lt (v : OSf k h bar a n cs) {j : Nat} (hj : a.isAt j) : bar ≤ j ∧ j < h.n := by
  rcases v with v | ⟨e, c, id, rfl, h1, h2, h3⟩
  · exact v.at_lt hj
  · cases hj; exact ⟨h1, h2⟩
theorem OSf.set (v : OSf k h bar a n cs) {id : Nat} (o : HObj) (hat : ¬ a.isAt id) : OSf k (h.set id o) bar a n cs :=
  v.mono (Nat.le_refl _) (fun _ hj => get_set_ne (fun e => hat (e ▸ hj)))
theorem OSf.freeze (v : OSf k h bar a n cs) (hc : cs.all AV.still = true) (hn : n ≤ 9223372036854775807) (d : Nat) : ∃ a' h', freezeV bar (d + 2) h a = some (a', h') ∧ FzV k a' n cs := by
  rcases v with v | ⟨rfl, rfl, id, rfl, h1, h2, h3⟩
  · exact v.freeze hc hn d
  · refine ⟨.fz k 0 [] true, h.set id (.cells [] 0), ?_, by simp, by omega, .inr ⟨true, rfl⟩⟩
    simp [freezeV, h3, h1, freezeL]
theorem OSf.app (v : OSf k h bar a n cs) (hb : bar ≤ h.n) (bytes : Nat) (xs : List AV) (hx : xs.length = k) (hx1 : xs.all AV.one = true) (hk : 0 < k) (hs : (n + 1) * bytes ≤ 140737488355328) (hs' : n < 9223372036854775807) :
    ∃ a' h', appR bar k bytes (some a) (some (.sl h.n 0 k 1 true)) (h.alloc (.cells xs 0)) = some (a', h') ∧ OS k h' bar a' (n + 1) (cs ++ xs) ∧ h'.n = h.n + 2 ∧ (∀ j, j < h.n → ¬ a.isAt j → h'.get j = h.get j) ∧ (∀ j, a'.isAt j → h.n < j) := by
  rcases v with v | ⟨rfl, rfl, id, rfl, h1, h2, h3⟩
  · exact v.app hb bytes xs hx hx1 hk hs hs'
  · have hsrc : source k (h.alloc (.cells xs 0)) (.sl h.n 0 k 1 true) = some (1, xs) := by
      simp [source, get_alloc, ← hx]
    have hid : id ≠ h.n := by omega
    refine ⟨.sl (h.n + 1) 0 k 1 false, (h.alloc (.cells xs 0)).alloc (.cells xs 0), ?_, ⟨by simp [hx], by simpa using hx1, .inr ⟨h.n + 1, [], rfl, by omega, by simp [n_alloc], by simp [get_alloc, n_alloc]⟩⟩, by simp [n_alloc], fun j hj _ => by simp [get_alloc, n_alloc]; rw [if_neg (by omega), if_neg (by omega)], fun j hj => by cases hj; omega⟩
    simp only [appR, hsrc, if_pos hk, appendA, if_true]
    rw [if_neg (by omega), get_alloc, if_neg hid, h3]
    simp only
    rw [if_pos ⟨by simp, by simpa using hs, by omega⟩]
    simp [n_alloc]
theorem Vw.source {k : Nat} {h : H} {a : AV} {n : Nat} {cs : List AV} (v : Vw k h a n cs) : source k h a = some (n, cs) := by
  obtain ⟨h1, h2, ⟨rfl, rfl⟩ | ⟨full, rfl⟩ | ⟨id, off, full, all, p, rfl, e2, e3, e4, e5⟩⟩ := v
  · have : cs = [] := List.length_eq_zero_iff.mp (by rw [h1]; simp)
    subst this; rfl
  · simp [Go.Ev.source, h1]
  · simp [Go.Ev.source, e3, e4, e5]
/-- A list of all that another one has. -/
theorem app_all {k : Nat} {h : H} {bar : Nat} {a : AV} {n : Nat} {cs : List AV} (v : Vw k h a n cs) (hc : cs.all AV.one = true) (hk : 0 < k) (bytes : Nat) (hs : n * bytes ≤ 140737488355328) (E : Nat) (hE : h.get E = some (.cells [] 0)) (hbE : bar ≤ E) (hEn : E < h.n) (hb : bar ≤ h.n) :
    ∃ a' h', appR bar k bytes (some (.sl E 0 k 0 true)) (some a) h = some (a', h') ∧ OSf k h' bar a' n cs ∧ h.n ≤ h'.n ∧ (∀ j, j < h.n → h'.get j = h.get j) ∧ (∀ j, a'.isAt j → E ≤ j) := by
  by_cases hn : n = 0
  · subst hn
    have : cs = [] := List.length_eq_zero_iff.mp (by rw [v.1]; simp)
    subst this
    refine ⟨.sl E 0 k 0 true, h, ?_, .inr ⟨rfl, rfl, E, rfl, hbE, hEn, hE⟩, Nat.le_refl _, fun _ _ => rfl, fun j hj => by cases hj; exact Nat.le_refl _⟩
    simp only [appR, v.source, if_pos hk, appendA, if_true]
  · refine ⟨.sl h.n 0 k n false, h.alloc (.cells cs 0), ?_, .inl ⟨v.1, hc, .inr ⟨h.n, [], rfl, hb, by simp [n_alloc], by simp [get_alloc]⟩⟩, by simp [n_alloc], fun j hj => by rw [get_alloc, if_neg (by omega)], fun j hj => by cases hj; omega⟩
    simp only [appR, v.source, if_pos hk, appendA, if_true]
    rw [if_neg hn, hE]
    simp only
    rw [if_pos ⟨by simp, by simpa using hs, by have := v.2.1; omega⟩]
    simp
end
end Go.Ev
namespace Go.Ev
open Go
def FnB (fs : List Fn) (n k : Nat) : Prop := fs.length ≤ n ∧ ∀ f ∈ fs, f.code.size ≤ k
theorem FnB.le {fs : List Fn} {n k n' k' : Nat} (h : FnB fs n k) (h1 : n ≤ n') (h2 : k ≤ k') : FnB fs n' k' := ⟨Nat.le_trans h.1 h1, fun f hf => Nat.le_trans (h.2 f hf) h2⟩
theorem FnB.app {fs : List Fn} {n k : Nat} (h : FnB fs n k) {f : Fn} (hf : f.code.size ≤ k + 12) : FnB (fs ++ [f]) (n + 1) (k + 12) := by
  refine ⟨by have := h.1; simp; omega, fun g hg => ?_⟩
  rcases List.mem_append.mp hg with q | q
  · exact Nat.le_trans (h.2 g q) (by omega)
  · simp at q; subst q; exact hf
theorem FnB.set {fs : List Fn} {n k : Nat} (h : FnB fs n k) {f : Fn} (i : Nat) (hf : f.code.size ≤ k + 12) : FnB (fs.set i f) (n + 1) (k + 12) := by
  refine ⟨by have := h.1; simp; omega, fun g hg => ?_⟩
  rcases List.mem_or_eq_of_mem_set hg with q | rfl
  · exact Nat.le_trans (h.2 g q) (by omega)
  · exact hf
theorem ext_sz (s : ByteArray) (a b : Nat) : (s.extract a b).size ≤ b - a ∧ (s.extract a b).size ≤ s.size := by
  rw [ByteArray.size_extract]; omega
def cutT (t : ByteArray) : ByteArray := if 12 < t.size then t.extract 0 12 else t
theorem cutT_sz (t : ByteArray) : (cutT t).size ≤ 12 := by
  unfold cutT
  split
  · exact (ext_sz t 0 12).1
  · omega
section
variable {bar : Nat} {h : H} {fa : AV} {fs : List Fn} {n k : Nat} {p m w f a N : Int} {t : ByteArray}
def OdP (n k : Nat) (r : AV) : Prop := ∃ p m fa fs, r = .agg [.int .i64 p, .int .i64 m, fa] ∧ FzV 3 fa fs.length (fs.flatMap Fn.cells) ∧ FnB fs n k
theorem odd_A (hv : FV h fa fs) (hB : FnB fs n k) (hn : n ≤ 100) (hk : k ≤ 10000) (hA : fs = [] ∨ w.tmod 5 = 4) : ∃ r, call tb prim n_engramkeep_odd [.agg [.int .i64 p, .int .i64 m, fa], .agg [.int .i64 w, .int .i64 f, .int .i64 a, .int .i64 N, .str t]] bar h = some (r, h) ∧ OdP (n + 1) (k + 12) r := by
  obtain ⟨r, hc, hr⟩ := callF_pureK (o := call tb prim) (F := f_engramkeep_odd) (bar := bar) (h := h) (args := [.agg [.int .i64 p, .int .i64 m, fa], .agg [.int .i64 w, .int .i64 f, .int .i64 a, .int .i64 N, .str t]]) (P := OdP (n + 1) (k + 12)) rfl rfl (fun K hK => by
    have hfa := Vw.one hv
    have hlen := hB.1
    obtain ⟨h1, hh1⟩ : ∃ h1, h1 = (((h.alloc (.cells [.int .i64 p, .int .i64 m, fa] 0)).alloc (.cells [.int .i64 w, .int .i64 f, .int .i64 a, .int .i64 N, .str t] 0)).alloc (.cells [.int .i64 0, .int .i64 0, .nilsl] 0)).alloc (.cells [] 0) := ⟨_, rfl⟩
    have n1 : h1.n = h.n + 4 := by rw [hh1]; simp [n_alloc]
    have hag : Ag h.n h h1 := by rw [hh1]; exact (((Ag.alloc _ (Nat.le_refl _)).trans (Ag.alloc _ (by simp [n_alloc]))).trans (Ag.alloc _ (by simp only [n_alloc]; omega))).trans (Ag.alloc _ (by simp only [n_alloc]; omega))
    have g0 : h1.get h.n = some (.cells [.int .i64 p, .int .i64 m, fa] 0) := by rw [hh1]; simp [get_alloc, n_alloc, Nat.add_assoc]
    have g1 : h1.get (h.n + 1) = some (.cells [.int .i64 w, .int .i64 f, .int .i64 a, .int .i64 N, .str t] 0) := by rw [hh1]; simp [get_alloc, n_alloc, Nat.add_assoc]
    have g2 : h1.get (h.n + 2) = some (.cells [.int .i64 0, .int .i64 0, .nilsl] 0) := by rw [hh1]; simp [get_alloc, n_alloc, Nat.add_assoc]
    have g3 : h1.get (h.n + 3) = some (.cells [] 0) := by rw [hh1]; simp [get_alloc, n_alloc, Nat.add_assoc]
    obtain ⟨a', h2, e1, o1, n2, f2, ge2⟩ := app_all (hv.mono hag (Nat.le_refl _)) (fn_one fs) (by omega) 32 (by omega) (h.n + 3) g3 (bar := h.n) (by omega) (by omega) (by omega)
    have g20 := (f2 h.n (by omega)).trans g0
    have g21 := (f2 (h.n + 1) (by omega)).trans g1
    have g22 := (f2 (h.n + 2) (by omega)).trans g2
    rw [hh1] at e1
    have hl1 := o1.len
    have hone := o1.one
    have ct : t.size ≤ 12 ∨ 12 < t.size := by omega
    obtain ⟨v, hat, v0, v1⟩ := at_ok (bar := h.n) (h := h2.set h.n (.cells [.int .i64 p, .int .i64 m, a'] 0)) (IntKind.i64.wrap (w.tdiv 5)) 3 (by omega)
    obtain ⟨b', h4, e4, o4, n4, f4, ge4⟩ := (o1.set (id := h.n) (.cells [.int .i64 p, .int .i64 m, a'] 0) (fun q => by have := ge2 _ q; omega)).app (by rw [n_set]; omega) 32 [.int .i32 107, .int .i64 0, .str (cutT t)] rfl rfl (by omega) (by omega) (by omega)
    simp only [n_set] at e4
    have hA' : ((fs.length : Int) == 0) = true ∨ ((fs.length : Int) == 0) = false ∧ w.tmod 5 = 4 := by
      cases hz : ((fs.length : Int) == 0) with
      | true => exact .inl rfl
      | false =>
        rcases hA with rfl | hA
        · simp at hz
        · exact .inr ⟨rfl, hA⟩
    have bU : h.n ≤ h.n := Nat.le_refl _
    have hT : sliceS t none (some (.int .i64 12)) = some (.str (t.extract 0 12)) ∨ t.size ≤ 12 := by
      rcases ct with ct | ct
      · exact .inr ct
      · left
        have : 12 ≤ t.size := by omega
        simp [sliceS, optBound, bound, this]
    have hv3 : v = 0 ∨ v = 1 ∨ v = 2 := by omega
    have x1 : ¬ h.n = h.n + 1 + 2 := by omega
    have x2 : ¬ h.n = h.n + 2 := by omega
    have x3 : ¬ h.n + 2 = h.n := by omega
    have x4 : ¬ h.n + 1 = h.n := by omega
    have b0 : h.n ≤ h.n := Nat.le_refl _
    have b2 : h.n ≤ h.n + 2 := by omega
    have fza : ∀ g : H, h2.n ≤ g.n → (∀ j, a'.isAt j → g.get j = h2.get j) → ∃ x g', freezeV h.n 3 g a' = some (x, g') ∧ FzV 3 x fs.length (fs.flatMap Fn.cells) := fun g q1 q2 => (o1.mono q1 q2).freeze (still_fn fs) (by omega) 1
    have cells107 : [AV.int .i32 107, .int .i64 0, .str (cutT t)] = (Fn.mk 107 0 (cutT t)).cells := rfl
    have o4' : OS 3 h4 h.n b' (fs ++ [Fn.mk 107 0 (cutT t)]).length ((fs ++ [Fn.mk 107 0 (cutT t)]).flatMap Fn.cells) := by
      rw [List.length_append, List.flatMap_append]; exact o4
    have fzb : ∀ g : H, h4.n ≤ g.n → (∀ j, b'.isAt j → g.get j = h4.get j) → ∃ x g', freezeV h.n 3 g b' = some (x, g') ∧ FzV 3 x (fs ++ [Fn.mk 107 0 (cutT t)]).length ((fs ++ [Fn.mk 107 0 (cutT t)]).flatMap Fn.cells) := fun g q1 q2 => (o4'.mono q1 q2).freeze (still_fn _) (by simp; omega) 1
    have na : ∀ j, j < h.n + 3 → ¬ a'.isAt j := fun j hj q => by have := ge2 j q; omega
    have gU4 : h4.get h.n = some (.cells [.int .i64 p, .int .i64 m, a'] 0) := by rw [f4 h.n (by rw [n_set]; omega) (na _ (by omega)), get_set, if_pos rfl]
    have gR4 : h4.get (h.n + 2) = some (.cells [.int .i64 0, .int .i64 0, .nilsl] 0) := by rw [f4 _ (by rw [n_set]; omega) (na _ (by omega)), get_set_ne (by omega)]; exact g22
    have g21' := g21
    have g22' := g22
    simp only [n_set] at ge4
    rcases ct with ct | ct
    · have ct' : ¬ (12 : Int) < (t.size : Int) := by omega
      have ec : cutT t = t := by unfold cutT; rw [if_neg (by omega)]
      have ec' := ec
      rw [ec] at e4
      rcases hA' with hA' | ⟨hA', hA''⟩
      · simp [f_engramkeep_odd, env0, go_sem, get_alloc, n_alloc, get_set, n_set, get_kill, n_kill, writeAt, a11, a21, a31, a41, a51, a61, a71, hfa, fillA, evParts, e1, g20, sp32, g21, hone, ct', hl1, hA', hat, x1, x4]
        rcases hv3 with rfl | rfl | rfl
        · simp [go_sem, get_alloc, n_alloc, get_set, n_set, get_kill, n_kill, writeAt, a11, a21, a31, a41, a51, a61, a71, g21', b0, sp30]
          simp [go_sem, get_alloc, n_alloc, get_set, n_set, get_kill, n_kill, writeAt, a11, a21, a31, a41, a51, a61, a71, g22', b2, sp33, x2, x3, x4, hone]
          obtain ⟨c, g, ez, fz⟩ := fza (((h2.set h.n (.cells [.int .i64 p, .int .i64 m, a'] 0)).set h.n (.cells [.int .i64 N, .int .i64 m, a'] 0)).set (h.n + 2) (.cells [.int .i64 N, .int .i64 m, a'] 0)) (by simp [n_set]) (fun j hj => by have := ge2 j hj; rw [get_set_ne (by omega), get_set_ne (by omega), get_set_ne (by omega)])
          simp [go_sem, endX, resultsA, resultA, freezeL, AV.free.freeL, packA, freezeV, freezeL, get_set, ez, fz.free, AV.free]
          exact hK _ ⟨_, _, _, _, rfl, fz, hB.le (by omega) (by omega)⟩
        · simp [go_sem, get_alloc, n_alloc, get_set, n_set, get_kill, n_kill, writeAt, a11, a21, a31, a41, a51, a61, a71, g21', b0, sp31]
          simp [go_sem, get_alloc, n_alloc, get_set, n_set, get_kill, n_kill, writeAt, a11, a21, a31, a41, a51, a61, a71, g22', b2, sp33, x2, x3, x4, hone]
          obtain ⟨c, g, ez, fz⟩ := fza (((h2.set h.n (.cells [.int .i64 p, .int .i64 m, a'] 0)).set h.n (.cells [.int .i64 p, .int .i64 N, a'] 0)).set (h.n + 2) (.cells [.int .i64 p, .int .i64 N, a'] 0)) (by simp [n_set]) (fun j hj => by have := ge2 j hj; rw [get_set_ne (by omega), get_set_ne (by omega), get_set_ne (by omega)])
          simp [go_sem, endX, resultsA, resultA, freezeL, AV.free.freeL, packA, freezeV, freezeL, get_set, ez, fz.free, AV.free]
          exact hK _ ⟨_, _, _, _, rfl, fz, hB.le (by omega) (by omega)⟩
        · simp [go_sem, get_alloc, n_alloc, get_set, n_set, get_kill, n_kill, writeAt, a11, a21, a31, a41, a51, a61, a71, g21', evParts, fillA, splice, e4, gU4, b0, o4.one]
          simp [go_sem, get_alloc, n_alloc, get_set, n_set, get_kill, n_kill, writeAt, a11, a21, a31, a41, a51, a61, a71, gR4, sp33, x2, x3, x4, o4.one]
          obtain ⟨c, g, ez, fz⟩ := fzb ((h4.set h.n (.cells [.int .i64 p, .int .i64 m, b'] 0)).set (h.n + 2) (.cells [.int .i64 p, .int .i64 m, b'] 0)) (by simp [n_set]) (fun j hj => by have := ge4 j hj; rw [get_set_ne (by omega), get_set_ne (by omega)])
          simp [go_sem, endX, resultsA, resultA, freezeL, AV.free.freeL, packA, freezeV, freezeL, get_set, ez, fz.free, AV.free]
          exact hK _ ⟨_, _, _, _, rfl, fz, hB.app (f := Fn.mk 107 0 (cutT t)) (show (cutT t).size ≤ k + 12 from by have := cutT_sz t; omega)⟩
      · simp [f_engramkeep_odd, env0, go_sem, get_alloc, n_alloc, get_set, n_set, get_kill, n_kill, writeAt, a11, a21, a31, a41, a51, a61, a71, hfa, fillA, evParts, e1, g20, sp32, g21, hone, ct', hl1, hA', hA'', hat, x1, x4]
        rcases hv3 with rfl | rfl | rfl
        · simp [go_sem, get_alloc, n_alloc, get_set, n_set, get_kill, n_kill, writeAt, a11, a21, a31, a41, a51, a61, a71, g21', b0, sp30]
          simp [go_sem, get_alloc, n_alloc, get_set, n_set, get_kill, n_kill, writeAt, a11, a21, a31, a41, a51, a61, a71, g22', b2, sp33, x2, x3, x4, hone]
          obtain ⟨c, g, ez, fz⟩ := fza (((h2.set h.n (.cells [.int .i64 p, .int .i64 m, a'] 0)).set h.n (.cells [.int .i64 N, .int .i64 m, a'] 0)).set (h.n + 2) (.cells [.int .i64 N, .int .i64 m, a'] 0)) (by simp [n_set]) (fun j hj => by have := ge2 j hj; rw [get_set_ne (by omega), get_set_ne (by omega), get_set_ne (by omega)])
          simp [go_sem, endX, resultsA, resultA, freezeL, AV.free.freeL, packA, freezeV, freezeL, get_set, ez, fz.free, AV.free]
          exact hK _ ⟨_, _, _, _, rfl, fz, hB.le (by omega) (by omega)⟩
        · simp [go_sem, get_alloc, n_alloc, get_set, n_set, get_kill, n_kill, writeAt, a11, a21, a31, a41, a51, a61, a71, g21', b0, sp31]
          simp [go_sem, get_alloc, n_alloc, get_set, n_set, get_kill, n_kill, writeAt, a11, a21, a31, a41, a51, a61, a71, g22', b2, sp33, x2, x3, x4, hone]
          obtain ⟨c, g, ez, fz⟩ := fza (((h2.set h.n (.cells [.int .i64 p, .int .i64 m, a'] 0)).set h.n (.cells [.int .i64 p, .int .i64 N, a'] 0)).set (h.n + 2) (.cells [.int .i64 p, .int .i64 N, a'] 0)) (by simp [n_set]) (fun j hj => by have := ge2 j hj; rw [get_set_ne (by omega), get_set_ne (by omega), get_set_ne (by omega)])
          simp [go_sem, endX, resultsA, resultA, freezeL, AV.free.freeL, packA, freezeV, freezeL, get_set, ez, fz.free, AV.free]
          exact hK _ ⟨_, _, _, _, rfl, fz, hB.le (by omega) (by omega)⟩
        · simp [go_sem, get_alloc, n_alloc, get_set, n_set, get_kill, n_kill, writeAt, a11, a21, a31, a41, a51, a61, a71, g21', evParts, fillA, splice, e4, gU4, b0, o4.one]
          simp [go_sem, get_alloc, n_alloc, get_set, n_set, get_kill, n_kill, writeAt, a11, a21, a31, a41, a51, a61, a71, gR4, sp33, x2, x3, x4, o4.one]
          obtain ⟨c, g, ez, fz⟩ := fzb ((h4.set h.n (.cells [.int .i64 p, .int .i64 m, b'] 0)).set (h.n + 2) (.cells [.int .i64 p, .int .i64 m, b'] 0)) (by simp [n_set]) (fun j hj => by have := ge4 j hj; rw [get_set_ne (by omega), get_set_ne (by omega)])
          simp [go_sem, endX, resultsA, resultA, freezeL, AV.free.freeL, packA, freezeV, freezeL, get_set, ez, fz.free, AV.free]
          exact hK _ ⟨_, _, _, _, rfl, fz, hB.app (f := Fn.mk 107 0 (cutT t)) (show (cutT t).size ≤ k + 12 from by have := cutT_sz t; omega)⟩
    · have ct' : (12 : Int) < (t.size : Int) := by omega
      have ec : cutT t = t.extract 0 12 := by unfold cutT; rw [if_pos ct]
      have hT' : sliceS t none (some (.int .i64 12)) = some (.str (t.extract 0 12)) := by rcases hT with q | q; exact q; omega
      rw [ec] at e4
      rcases hA' with hA' | ⟨hA', hA''⟩
      · simp [f_engramkeep_odd, env0, go_sem, get_alloc, n_alloc, get_set, n_set, get_kill, n_kill, writeAt, a11, a21, a31, a41, a51, a61, a71, hfa, fillA, evParts, e1, g20, sp32, g21, hone, ct', hl1, hA', hat, x1, x4, optEv, hT']
        rcases hv3 with rfl | rfl | rfl
        · simp [go_sem, get_alloc, n_alloc, get_set, n_set, get_kill, n_kill, writeAt, a11, a21, a31, a41, a51, a61, a71, g21', b0, sp30]
          simp [go_sem, get_alloc, n_alloc, get_set, n_set, get_kill, n_kill, writeAt, a11, a21, a31, a41, a51, a61, a71, g22', b2, sp33, x2, x3, x4, hone]
          obtain ⟨c, g, ez, fz⟩ := fza (((h2.set h.n (.cells [.int .i64 p, .int .i64 m, a'] 0)).set h.n (.cells [.int .i64 N, .int .i64 m, a'] 0)).set (h.n + 2) (.cells [.int .i64 N, .int .i64 m, a'] 0)) (by simp [n_set]) (fun j hj => by have := ge2 j hj; rw [get_set_ne (by omega), get_set_ne (by omega), get_set_ne (by omega)])
          simp [go_sem, endX, resultsA, resultA, freezeL, AV.free.freeL, packA, freezeV, freezeL, get_set, ez, fz.free, AV.free]
          exact hK _ ⟨_, _, _, _, rfl, fz, hB.le (by omega) (by omega)⟩
        · simp [go_sem, get_alloc, n_alloc, get_set, n_set, get_kill, n_kill, writeAt, a11, a21, a31, a41, a51, a61, a71, g21', b0, sp31]
          simp [go_sem, get_alloc, n_alloc, get_set, n_set, get_kill, n_kill, writeAt, a11, a21, a31, a41, a51, a61, a71, g22', b2, sp33, x2, x3, x4, hone]
          obtain ⟨c, g, ez, fz⟩ := fza (((h2.set h.n (.cells [.int .i64 p, .int .i64 m, a'] 0)).set h.n (.cells [.int .i64 p, .int .i64 N, a'] 0)).set (h.n + 2) (.cells [.int .i64 p, .int .i64 N, a'] 0)) (by simp [n_set]) (fun j hj => by have := ge2 j hj; rw [get_set_ne (by omega), get_set_ne (by omega), get_set_ne (by omega)])
          simp [go_sem, endX, resultsA, resultA, freezeL, AV.free.freeL, packA, freezeV, freezeL, get_set, ez, fz.free, AV.free]
          exact hK _ ⟨_, _, _, _, rfl, fz, hB.le (by omega) (by omega)⟩
        · simp [go_sem, get_alloc, n_alloc, get_set, n_set, get_kill, n_kill, writeAt, a11, a21, a31, a41, a51, a61, a71, g21', evParts, fillA, splice, e4, gU4, b0, o4.one]
          simp [go_sem, get_alloc, n_alloc, get_set, n_set, get_kill, n_kill, writeAt, a11, a21, a31, a41, a51, a61, a71, gR4, sp33, x2, x3, x4, o4.one]
          obtain ⟨c, g, ez, fz⟩ := fzb ((h4.set h.n (.cells [.int .i64 p, .int .i64 m, b'] 0)).set (h.n + 2) (.cells [.int .i64 p, .int .i64 m, b'] 0)) (by simp [n_set]) (fun j hj => by have := ge4 j hj; rw [get_set_ne (by omega), get_set_ne (by omega)])
          simp [go_sem, endX, resultsA, resultA, freezeL, AV.free.freeL, packA, freezeV, freezeL, get_set, ez, fz.free, AV.free]
          exact hK _ ⟨_, _, _, _, rfl, fz, hB.app (f := Fn.mk 107 0 (cutT t)) (show (cutT t).size ≤ k + 12 from by have := cutT_sz t; omega)⟩
      · simp [f_engramkeep_odd, env0, go_sem, get_alloc, n_alloc, get_set, n_set, get_kill, n_kill, writeAt, a11, a21, a31, a41, a51, a61, a71, hfa, fillA, evParts, e1, g20, sp32, g21, hone, ct', hl1, hA', hA'', hat, x1, x4, optEv, hT']
        rcases hv3 with rfl | rfl | rfl
        · simp [go_sem, get_alloc, n_alloc, get_set, n_set, get_kill, n_kill, writeAt, a11, a21, a31, a41, a51, a61, a71, g21', b0, sp30]
          simp [go_sem, get_alloc, n_alloc, get_set, n_set, get_kill, n_kill, writeAt, a11, a21, a31, a41, a51, a61, a71, g22', b2, sp33, x2, x3, x4, hone]
          obtain ⟨c, g, ez, fz⟩ := fza (((h2.set h.n (.cells [.int .i64 p, .int .i64 m, a'] 0)).set h.n (.cells [.int .i64 N, .int .i64 m, a'] 0)).set (h.n + 2) (.cells [.int .i64 N, .int .i64 m, a'] 0)) (by simp [n_set]) (fun j hj => by have := ge2 j hj; rw [get_set_ne (by omega), get_set_ne (by omega), get_set_ne (by omega)])
          simp [go_sem, endX, resultsA, resultA, freezeL, AV.free.freeL, packA, freezeV, freezeL, get_set, ez, fz.free, AV.free]
          exact hK _ ⟨_, _, _, _, rfl, fz, hB.le (by omega) (by omega)⟩
        · simp [go_sem, get_alloc, n_alloc, get_set, n_set, get_kill, n_kill, writeAt, a11, a21, a31, a41, a51, a61, a71, g21', b0, sp31]
          simp [go_sem, get_alloc, n_alloc, get_set, n_set, get_kill, n_kill, writeAt, a11, a21, a31, a41, a51, a61, a71, g22', b2, sp33, x2, x3, x4, hone]
          obtain ⟨c, g, ez, fz⟩ := fza (((h2.set h.n (.cells [.int .i64 p, .int .i64 m, a'] 0)).set h.n (.cells [.int .i64 p, .int .i64 N, a'] 0)).set (h.n + 2) (.cells [.int .i64 p, .int .i64 N, a'] 0)) (by simp [n_set]) (fun j hj => by have := ge2 j hj; rw [get_set_ne (by omega), get_set_ne (by omega), get_set_ne (by omega)])
          simp [go_sem, endX, resultsA, resultA, freezeL, AV.free.freeL, packA, freezeV, freezeL, get_set, ez, fz.free, AV.free]
          exact hK _ ⟨_, _, _, _, rfl, fz, hB.le (by omega) (by omega)⟩
        · simp [go_sem, get_alloc, n_alloc, get_set, n_set, get_kill, n_kill, writeAt, a11, a21, a31, a41, a51, a61, a71, g21', evParts, fillA, splice, e4, gU4, b0, o4.one]
          simp [go_sem, get_alloc, n_alloc, get_set, n_set, get_kill, n_kill, writeAt, a11, a21, a31, a41, a51, a61, a71, gR4, sp33, x2, x3, x4, o4.one]
          obtain ⟨c, g, ez, fz⟩ := fzb ((h4.set h.n (.cells [.int .i64 p, .int .i64 m, b'] 0)).set (h.n + 2) (.cells [.int .i64 p, .int .i64 m, b'] 0)) (by simp [n_set]) (fun j hj => by have := ge4 j hj; rw [get_set_ne (by omega), get_set_ne (by omega)])
          simp [go_sem, endX, resultsA, resultA, freezeL, AV.free.freeL, packA, freezeV, freezeL, get_set, ez, fz.free, AV.free]
          exact hK _ ⟨_, _, _, _, rfl, fz, hB.app (f := Fn.mk 107 0 (cutT t)) (show (cutT t).size ≤ k + 12 from by have := cutT_sz t; omega)⟩)
  exact ⟨r, call_of tb_engramkeep_odd hc, hr⟩
end
end Go.Ev
namespace Go.Ev
open Go
def oddT : IC := match f_engramkeep_odd.body with | .seq _ (.seq _ (.seq _ (.seq _ (.seq _ b)))) => b | b => b
/-- The program, the turn and the result lie in b, b + 1, b + 2. -/
structure OI (H2 : H) (b : Nat) (p m w f a N : Int) (t0 : ByteArray) (id : Nat) (all : List AV) (fs : List Fn) : Prop where
  u : H2.get b = some (.cells [.int .i64 p, .int .i64 m, .sl id 0 3 fs.length false] 0)
  t : H2.get (b + 1) = some (.cells [.int .i64 w, .int .i64 f, .int .i64 a, .int .i64 N, .str t0] 0)
  r : H2.get (b + 2) = some (.cells [.int .i64 0, .int .i64 0, .nilsl] 0)
  l : H2.get id = some (.cells all 0)
  ge : b + 3 ≤ id
  lt : id < H2.n
  os : OS 3 H2 b (.sl id 0 3 fs.length false) fs.length (fs.flatMap Fn.cells)
section
variable {h H2 : H} {b id : Nat} {all : List AV} {fs : List Fn} {n k : Nat} {p m w f a N : Int} {t tx : ByteArray}
theorem odd_tail (hI : OI H2 b p m w f a N t id all fs) (hB : FnB fs n k) (hn : n ≤ 100) (hk : k ≤ 10000) (hA : fs ≠ []) (htx : tx.size ≤ 12) (K : AV → Prop) (hK : ∀ r, OdP (n + 1) (k + 12) r → K r) (e : Env) (q2 : e.get 2 = some (.ptr b 0)) (q3 : e.get 3 = some (.ptr (b + 1) 0)) (q4 : e.get 4 = some (.ptr (b + 2) 0)) (q5 : e.get 5 = some (.str tx)) :
    wpM (call tb prim) b oddT [] e H2 (endX f_engramkeep_odd b K) := by
  obtain ⟨id', all', ea, hbid, hid, hgid, hall, hx, _, hset⟩ := hI.os.elems Fn.cells_len hA
  cases ea
  have hall' : all' = all := by have := hgid.symm.trans hI.l; cases this; rfl
  subst hall'
  have hpos : 0 < fs.length := List.length_pos_iff.mpr hA
  have hlen := hB.1
  obtain ⟨v, hat1, v0, v1⟩ := at_ok (bar := b) (h := H2) f fs.length (by omega)
  obtain ⟨i, rfl⟩ : ∃ i : Nat, v = (i : Nat) := ⟨v.toNat, by omega⟩
  have hi : i < fs.length := by omega
  have hsz := hB.2 fs[i] (List.getElem_mem hi)
  have hge := hI.ge
  have hlt := hI.lt
  obtain ⟨H3, hH3⟩ : ∃ H3, H3 = (H2.alloc (.cells [.int .i32 0, .int .i64 0, .str ⟨#[]⟩] 0)).set H2.n (.cells [.int .i32 fs[i].name, .int .i64 fs[i].args, .str fs[i].code] 0) := ⟨_, rfl⟩
  have fr3 : ∀ j, j < H2.n → H3.get j = H2.get j := fun j q1 => by rw [hH3, get_set_ne (by omega), get_alloc, if_neg (by omega)]
  have hF : H3.get H2.n = some (.cells [.int .i32 fs[i].name, .int .i64 fs[i].args, .str fs[i].code] 0) := by rw [hH3, get_set, if_pos rfl]
  have n3 : H3.n = H2.n + 1 := by rw [hH3]; simp [n_set, n_alloc]
  obtain ⟨c, hat2, c0, c1⟩ := at_ok (bar := b) (h := H3) a ((fs[i].code.size : Int) + 1) (by omega)
  obtain ⟨c, rfl⟩ : ∃ i : Nat, c = (i : Nat) := ⟨c.toNat, by omega⟩
  have hc : c ≤ fs[i].code.size := by omega
  obtain ⟨x, hat3, y0, y1⟩ := at_ok (bar := b) (h := H3) (IntKind.i64.wrap (w.tdiv 5)) 5 (by omega)
  obtain ⟨hr1, hr2⟩ : i * 3 + 3 ≤ all'.length ∧ (all'.drop (i * 3)).take 3 = fs[i].cells := by
    rcases FV.cases (hI.os.vw (by omega)) with ⟨q, _⟩ | ⟨_, _, q, _⟩ | ⟨id0, off, full, all0, p0, e0, _, e3, _, hy⟩
    · cases q
    · cases q
    · cases e0
      have : all0 = all' := by have := e3.symm.trans hgid; cases this; rfl
      subst this
      have := hy i hi
      simpa using this
  have hrow := And.intro hr1 hr2
  have bb : b ≤ H2.n := by omega
  have w1 : IntKind.i64.wrap ((fs[i].code.size : Int) + 1) = (fs[i].code.size : Int) + 1 := w64 (by omega) (by omega)
  have gU3 := (fr3 b (by omega)).trans hI.u
  have gT3 := (fr3 (b + 1) (by omega)).trans hI.t
  have gR3 := (fr3 (b + 2) (by omega)).trans hI.r
  have gL3 := (fr3 id (by omega)).trans hI.l
  simp [oddT, f_engramkeep_odd, go_sem, q2, q3, hI.u, hI.t, hat1]
  simp [go_sem, get_alloc, n_alloc, get_set, n_set, get_kill, n_kill, writeAt, a11, a21, a31, a41, a51, a61, a71, indexIn, hi, hgid, hrow, Fn.cells, bb, splice]
  rw [← hH3]
  simp [go_sem, get_alloc, n_alloc, get_set, n_set, get_kill, n_kill, writeAt, a11, a21, a31, a41, a51, a61, a71, q3, gT3, hF, w1, hat2, hat3]
  have x1 : ¬ b = H2.n := by omega
  have x2 : ¬ id = H2.n := by omega
  have x3 : ¬ b + 2 = H2.n := by omega
  have x4 : ¬ b = id := by omega
  have x5 : ¬ b + 2 = id := by omega
  have x6 : ¬ H2.n = id := by omega
  have bR : b ≤ b + 2 := by omega
  have w2 : IntKind.i64.wrap ((c : Int) + 1) = (c : Int) + 1 := w64 (by omega) (by omega)
  obtain ⟨d, hd, hd1, hd2⟩ : ∃ d : Nat, (if (fs[i].code.size : Int) < (c : Int) + 1 then (fs[i].code.size : Int) else (c : Int) + 1) = (d : Int) ∧ d ≤ fs[i].code.size ∧ c ≤ d := by
    by_cases q : (fs[i].code.size : Int) < (c : Int) + 1
    · exact ⟨fs[i].code.size, by rw [if_pos q], Nat.le_refl _, hc⟩
    · exact ⟨c + 1, by rw [if_neg q]; omega, by omega, by omega⟩
  obtain ⟨sA, sl1, z1⟩ : ∃ s, sliceS fs[i].code none (some (.int .i64 (c : Int))) = some (.str s) ∧ s.size ≤ c := ⟨_, by simp [sliceS, optBound, bound, hc], (ext_sz fs[i].code 0 c).1⟩
  obtain ⟨sB, sl2, z2⟩ : ∃ s, sliceS fs[i].code (some (.int .i64 (c : Int))) none = some (.str s) ∧ s.size ≤ fs[i].code.size - c := ⟨_, by simp [sliceS, optBound, bound, hc], (ext_sz fs[i].code c fs[i].code.size).1⟩
  obtain ⟨sD, sl3, z3⟩ : ∃ s, sliceS fs[i].code (some (.int .i64 (d : Int))) none = some (.str s) ∧ s.size ≤ fs[i].code.size - d := ⟨_, by simp [sliceS, optBound, bound, hd1], (ext_sz fs[i].code d fs[i].code.size).1⟩
  have g1 : sA.size + tx.size ≤ 9223372036854775807 := by omega
  have g2 : sA.size + tx.size + sB.size ≤ 9223372036854775807 := by omega
  have g3 : sA.size + sD.size ≤ 9223372036854775807 := by omega
  have g4 : sA.size + tx.size + sD.size ≤ 9223372036854775807 := by omega
  have hr3 : i * 3 + 3 ≤ all'.length := hr1
  have hend : ∀ fn : Fn, ∃ z g, freezeV b 3 (((H3.set H2.n (.cells [.int .i32 fn.name, .int .i64 fn.args, .str fn.code] 0)).set id (.cells (splice all' (i * 3) [.int .i32 fn.name, .int .i64 fn.args, .str fn.code]) 0)).set (b + 2) (.cells [.int .i64 p, .int .i64 m, .sl id 0 3 fs.length false] 0)) (.sl id 0 3 fs.length false) = some (z, g) ∧ FzV 3 z (fs.set i fn).length ((fs.set i fn).flatMap Fn.cells) := fun fn => by
    have hs := hset i fs[i] fn 0 fn.cells (((H3.set H2.n (.cells [.int .i32 fn.name, .int .i64 fn.args, .str fn.code] 0)).set id (.cells (splice all' (i * 3) [.int .i32 fn.name, .int .i64 fn.args, .str fn.code]) 0)).set (b + 2) (.cells [.int .i64 p, .int .i64 m, .sl id 0 3 fs.length false] 0)) (List.getElem?_eq_getElem hi) (by simp [Fn.cells]) rfl rfl (by simp only [n_set]; omega) (by rw [get_set_ne (by omega), get_set, if_pos rfl]; rfl)
    exact hs.freeze (still_fn _) (by simp; omega) 1
  rcases (by omega : x = 0 ∨ x = 1 ∨ x = 2 ∨ x = 3 ∨ x = 4) with rfl | rfl | rfl | rfl | rfl
  · simp [go_sem, get_alloc, n_alloc, get_set, n_set, get_kill, n_kill, writeAt, a11, a21, a31, a41, a51, a61, a71, hF, bb, sl1, sl2, q5, sb_add, g1, g2, sp32, optEv, ByteArray.size_append]
    obtain ⟨z, g, ez, fz⟩ := hend ⟨fs[i].name, fs[i].args, (sA ++ tx ++ sB)⟩
    simp [go_sem, get_alloc, n_alloc, get_set, n_set, get_kill, n_kill, writeAt, a11, a21, a31, a41, a51, a61, a71, q2, q3, q4, gU3, gL3, gR3, x1, x2, x3, x4, x5, x6, bb, hbid, indexIn, hi, hr3, sp33, bR]
    simp [go_sem, endX, resultsA, resultA, freezeL, AV.free.freeL, packA, q4, freezeV, freezeL, get_set, ez, fz.free, AV.free]
    exact hK _ ⟨_, _, _, _, rfl, fz, hB.set i (show (_ : ByteArray).size ≤ k + 12 from by simp only [ByteArray.size_append]; omega)⟩
  · simp [go_sem, get_alloc, n_alloc, get_set, n_set, get_kill, n_kill, writeAt, a11, a21, a31, a41, a51, a61, a71, hF, bb, sl1, q5, sb_add, g3, sp32, optEv, w2, hd, sl3, ByteArray.size_append]
    obtain ⟨z, g, ez, fz⟩ := hend ⟨fs[i].name, fs[i].args, (sA ++ sD)⟩
    simp [go_sem, get_alloc, n_alloc, get_set, n_set, get_kill, n_kill, writeAt, a11, a21, a31, a41, a51, a61, a71, q2, q3, q4, gU3, gL3, gR3, x1, x2, x3, x4, x5, x6, bb, hbid, indexIn, hi, hr3, sp33, bR]
    simp [go_sem, endX, resultsA, resultA, freezeL, AV.free.freeL, packA, q4, freezeV, freezeL, get_set, ez, fz.free, AV.free]
    exact hK _ ⟨_, _, _, _, rfl, fz, hB.set i (show (_ : ByteArray).size ≤ k + 12 from by simp only [ByteArray.size_append]; omega)⟩
  · simp [go_sem, get_alloc, n_alloc, get_set, n_set, get_kill, n_kill, writeAt, a11, a21, a31, a41, a51, a61, a71, hF, bb, sl1, q5, sb_add, g1, g4, sp32, optEv, w2, hd, sl3, ByteArray.size_append]
    obtain ⟨z, g, ez, fz⟩ := hend ⟨fs[i].name, fs[i].args, (sA ++ tx ++ sD)⟩
    simp [go_sem, get_alloc, n_alloc, get_set, n_set, get_kill, n_kill, writeAt, a11, a21, a31, a41, a51, a61, a71, q2, q3, q4, gU3, gL3, gR3, x1, x2, x3, x4, x5, x6, bb, hbid, indexIn, hi, hr3, sp33, bR]
    simp [go_sem, endX, resultsA, resultA, freezeL, AV.free.freeL, packA, q4, freezeV, freezeL, get_set, ez, fz.free, AV.free]
    exact hK _ ⟨_, _, _, _, rfl, fz, hB.set i (show (_ : ByteArray).size ≤ k + 12 from by simp only [ByteArray.size_append]; omega)⟩
  · simp [go_sem, get_alloc, n_alloc, get_set, n_set, get_kill, n_kill, writeAt, a11, a21, a31, a41, a51, a61, a71, hF, gT3, q3, bb, sp31]
    obtain ⟨z, g, ez, fz⟩ := hend ⟨fs[i].name, N, fs[i].code⟩
    simp [go_sem, get_alloc, n_alloc, get_set, n_set, get_kill, n_kill, writeAt, a11, a21, a31, a41, a51, a61, a71, q2, q3, q4, gU3, gL3, gR3, x1, x2, x3, x4, x5, x6, bb, hbid, indexIn, hi, hr3, sp33, bR]
    simp [go_sem, endX, resultsA, resultA, freezeL, AV.free.freeL, packA, q4, freezeV, freezeL, get_set, ez, fz.free, AV.free]
    exact hK _ ⟨_, _, _, _, rfl, fz, hB.set i (Nat.le_trans hsz (by omega))⟩
  · simp [go_sem, get_alloc, n_alloc, get_set, n_set, get_kill, n_kill, writeAt, a11, a21, a31, a41, a51, a61, a71, hF, gT3, q3, bb, sp30]
    obtain ⟨z, g, ez, fz⟩ := hend ⟨(IntKind.i32.wrap N), fs[i].args, fs[i].code⟩
    simp [go_sem, get_alloc, n_alloc, get_set, n_set, get_kill, n_kill, writeAt, a11, a21, a31, a41, a51, a61, a71, q2, q3, q4, gU3, gL3, gR3, x1, x2, x3, x4, x5, x6, bb, hbid, indexIn, hi, hr3, sp33, bR]
    simp [go_sem, endX, resultsA, resultA, freezeL, AV.free.freeL, packA, q4, freezeV, freezeL, get_set, ez, fz.free, AV.free]
    exact hK _ ⟨_, _, _, _, rfl, fz, hB.set i (Nat.le_trans hsz (by omega))⟩
end
end Go.Ev
namespace Go.Ev
open Go
def oddH (B : IC) : IC := match f_engramkeep_odd.body with | .seq x1 (.seq x2 (.seq x3 (.seq x4 (.seq x5 _)))) => .seq x1 (.seq x2 (.seq x3 (.seq x4 (.seq x5 B)))) | x => x
theorem oddH_eq : f_engramkeep_odd.body = oddH oddT := rfl
structure Tn where
  w : Int
  f : Int
  a : Int
  n : Int
  t : ByteArray
def Tn.c (x : Tn) : List AV := [.int .i64 x.w, .int .i64 x.f, .int .i64 x.a, .int .i64 x.n, .str x.t]
theorem Tn.c_len (x : Tn) : x.c.length = 5 := rfl
section
variable {bar : Nat} {h : H} {fa : AV} {fs : List Fn} {n k : Nat} {p m w f a N : Int} {t : ByteArray}
theorem odd_B (hv : FV h fa fs) (hB : FnB fs n k) (hn : n ≤ 100) (hk : k ≤ 10000) (hA : fs ≠ []) (hw4 : ¬ w.tmod 5 = 4) : ∃ r, call tb prim n_engramkeep_odd [.agg [.int .i64 p, .int .i64 m, fa], .agg [.int .i64 w, .int .i64 f, .int .i64 a, .int .i64 N, .str t]] bar h = some (r, h) ∧ OdP (n + 1) (k + 12) r := by
  obtain ⟨r, hc, hr⟩ := callF_pureK (o := call tb prim) (F := f_engramkeep_odd) (bar := bar) (h := h) (args := [.agg [.int .i64 p, .int .i64 m, fa], .agg [.int .i64 w, .int .i64 f, .int .i64 a, .int .i64 N, .str t]]) (P := OdP (n + 1) (k + 12)) rfl rfl (fun K hK => by
    have hfa := Vw.one hv
    have hlen := hB.1
    obtain ⟨h1, hh1⟩ : ∃ h1, h1 = (((h.alloc (.cells [.int .i64 p, .int .i64 m, fa] 0)).alloc (.cells [.int .i64 w, .int .i64 f, .int .i64 a, .int .i64 N, .str t] 0)).alloc (.cells [.int .i64 0, .int .i64 0, .nilsl] 0)).alloc (.cells [] 0) := ⟨_, rfl⟩
    have n1 : h1.n = h.n + 4 := by rw [hh1]; simp [n_alloc]
    have hag : Ag h.n h h1 := by rw [hh1]; exact (((Ag.alloc _ (Nat.le_refl _)).trans (Ag.alloc _ (by simp [n_alloc]))).trans (Ag.alloc _ (by simp only [n_alloc]; omega))).trans (Ag.alloc _ (by simp only [n_alloc]; omega))
    have g0 : h1.get h.n = some (.cells [.int .i64 p, .int .i64 m, fa] 0) := by rw [hh1]; simp [get_alloc, n_alloc, Nat.add_assoc]
    have g1 : h1.get (h.n + 1) = some (.cells [.int .i64 w, .int .i64 f, .int .i64 a, .int .i64 N, .str t] 0) := by rw [hh1]; simp [get_alloc, n_alloc, Nat.add_assoc]
    have g2 : h1.get (h.n + 2) = some (.cells [.int .i64 0, .int .i64 0, .nilsl] 0) := by rw [hh1]; simp [get_alloc, n_alloc, Nat.add_assoc]
    have g3 : h1.get (h.n + 3) = some (.cells [] 0) := by rw [hh1]; simp [get_alloc, n_alloc, Nat.add_assoc]
    obtain ⟨a', h2, e1, o1, n2, f2, ge2⟩ := app_all (hv.mono hag (Nat.le_refl _)) (fn_one fs) (by omega) 32 (by omega) (h.n + 3) g3 (bar := h.n) (by omega) (by omega) (by omega)
    have g20 := (f2 h.n (by omega)).trans g0
    have g21 := (f2 (h.n + 1) (by omega)).trans g1
    have g22 := (f2 (h.n + 2) (by omega)).trans g2
    rw [hh1] at e1
    have hl1 := o1.len
    have hone := o1.one
    have o1' : OS 3 h2 h.n a' fs.length (fs.flatMap Fn.cells) := by
      rcases o1 with q | ⟨q, _⟩
      · exact q
      · exact absurd (List.length_eq_zero_iff.mp q) hA
    obtain ⟨id, all, ea, hbid, hid, hgid, hall, hx, _, hset⟩ := o1'.elems Fn.cells_len hA
    have hge := ge2 id (by rw [ea]; rfl)
    have hpos : 0 < fs.length := List.length_pos_iff.mpr hA
    subst ea
    have hz0 : ((fs.length : Int) == 0) = false := by simpa using hA
    have hw4' : (w.tmod 5 == 4) = false := by simpa using hw4
    have x1 : ¬ h.n = h.n + 1 + 2 := by omega
    have x4 : ¬ h.n + 1 = h.n := by omega
    have b0 : h.n ≤ h.n := Nat.le_refl _
    have hI : OI (h2.set h.n (.cells [.int .i64 p, .int .i64 m, .sl id 0 3 fs.length false] 0)) h.n p m w f a N t id all fs := {
      u := by rw [get_set, if_pos rfl]
      t := by rw [get_set_ne (by omega)]; exact g21
      r := by rw [get_set_ne (by omega)]; exact g22
      l := by rw [get_set_ne (by omega)]; exact hgid
      ge := hge
      lt := by rw [n_set]; exact hid
      os := o1'.set _ (fun q => by cases q; omega) }
    obtain ⟨tx, htx, key⟩ : ∃ tx : ByteArray, tx.size ≤ 12 ∧ ∀ B, (∀ e : Env, e.get 2 = some (.ptr h.n 0) → e.get 3 = some (.ptr (h.n + 1) 0) → e.get 4 = some (.ptr (h.n + 2) 0) → e.get 5 = some (.str tx) → wpM (call tb prim) h.n B [] e (h2.set h.n (.cells [.int .i64 p, .int .i64 m, .sl id 0 3 fs.length false] 0)) (endX f_engramkeep_odd h.n K)) →
        wpM (call tb prim) h.n (oddH B) [] (env0 [.agg [.int .i64 p, .int .i64 m, fa], .agg [.int .i64 w, .int .i64 f, .int .i64 a, .int .i64 N, .str t]]) h (endX f_engramkeep_odd h.n K) := by
      by_cases ct : 12 < t.size
      · have ct' : (12 : Int) < (t.size : Int) := by omega
        have hT' : sliceS t none (some (.int .i64 12)) = some (.str (t.extract 0 12)) := by
          have : 12 ≤ t.size := by omega
          simp [sliceS, optBound, bound, this]
        refine ⟨t.extract 0 12, (ext_sz t 0 12).1, fun B hB => ?_⟩
        simp [oddH, f_engramkeep_odd, env0, go_sem, get_alloc, n_alloc, get_set, n_set, get_kill, n_kill, writeAt, a11, a21, a31, a41, a51, a61, a71, hfa, fillA, evParts, e1, g20, sp32, g21, hone, ct', hl1, hz0, hw4', x1, x4, b0, optEv, hT']
        exact hB _ rfl rfl rfl rfl
      · have ct' : ¬ (12 : Int) < (t.size : Int) := by omega
        refine ⟨t, by omega, fun B hB => ?_⟩
        simp [oddH, f_engramkeep_odd, env0, go_sem, get_alloc, n_alloc, get_set, n_set, get_kill, n_kill, writeAt, a11, a21, a31, a41, a51, a61, a71, hfa, fillA, evParts, e1, g20, sp32, g21, hone, ct', hl1, hz0, hw4', x1, x4, b0]
        exact hB _ rfl rfl rfl rfl
    rw [oddH_eq]
    exact key _ fun e q2 q3 q4 q5 => odd_tail hI hB hn hk hA htx K hK e q2 q3 q4 q5)
  exact ⟨r, call_of tb_engramkeep_odd hc, hr⟩
theorem odd_ok (hv : FV h fa fs) (hB : FnB fs n k) (hn : n ≤ 100) (hk : k ≤ 10000) (x : Tn) : ∃ r, call tb prim n_engramkeep_odd [.agg [.int .i64 p, .int .i64 m, fa], .agg x.c] bar h = some (r, h) ∧ OdP (n + 1) (k + 12) r := by
  by_cases hA : fs = [] ∨ x.w.tmod 5 = 4
  · exact odd_A hv hB hn hk hA
  · exact odd_B hv hB hn hk (fun e => hA (.inl e)) (fun e => hA (.inr e))
theorem FzV.frz {k : Nat} {a : AV} {n : Nat} {cs : List AV} (v : FzV k a n cs) (b d : Nat) (g : H) : freezeV b (d + 1) g a = some (a, g) := by
  obtain ⟨h1, h2, ⟨rfl, _⟩ | ⟨f, rfl⟩⟩ := v <;> simp [freezeV]
/-- A row of a list, wherever it lies. -/
theorem S_vrow {A : Type} {c : A → List AV} {k : Nat} (hk : ∀ x, (c x).length = k) {o : Oracle} {bar : Nat} {g : H} {v : AV} {l : List A} (hv : Vw k g v l.length (l.flatMap c)) {i : Nat} (hi : i < l.length) {cc d : Nat} {r : List IOper} {ks : List Fr} {e : Env} {Q : Ex → Env → H → Prop}
    (hw : ∀ u, wpX o bar r ks ((d, .agg (c l[i])) :: (cc, u) :: e) g Q) : wpS o bar (iadrR k (some v) (some (.int .i64 (i : Nat))) g) (some cc) (⟨some d, .ld true k (.t cc), none⟩ :: r) ks e Q := by
  have hbi : (i : Int) < (l.length : Int) := by omega
  have hrow := flat_row hk l i _ (List.getElem?_eq_getElem hi)
  have hle : i * k + k ≤ l.length * k := by have := Nat.mul_le_mul_right k hi; rw [Nat.succ_mul] at this; exact this
  obtain ⟨hl, _, ⟨rfl, h2⟩ | ⟨full, rfl⟩ | ⟨id, off, full, all, q, rfl, hid, hg, hle2, hc⟩⟩ := hv
  · omega
  · generalize l.flatMap c = cs at *
    have hl' : i * k + k ≤ cs.length := by omega
    have hl2 : (cs.length = l.length * k) = True := by simpa using hl
    simp [go_sem, indexIn, hi, hbi, hl2, hl', hrow]
    exact hw _
  · have hrow2 : (all.drop (off + i * k)).take k = c l[i] := by
      rw [← hrow, ← hc, List.drop_take, List.drop_drop, List.take_take, Nat.min_eq_left (by omega)]
    have hl2 : off + i * k + k ≤ all.length := by omega
    simp [go_sem, indexIn, hi, hbi, hg, hl2, hrow2]
    exact hw _
end
end Go.Ev
namespace Go.Ev
open Go
section
variable {bar : Nat} {h : H} {fa la : AV} {fs : List Fn} {p m : Int}
theorem Odd_loop {b : Nat} {ta : AV} {l : List Tn} (hbar : bar ≤ b) (hT : ∀ g : H, b ≤ g.n → Vw 5 g ta l.length (l.flatMap Tn.c)) (r1 r4 : AV) (Q : Ex → Env → H → Prop) : ∀ (k i : Nat) (g : H) (p m : Int) (fa : AV) (fs : List Fn), 4 ≤ i + k → i ≤ 4 → b + 2 ≤ g.n → g.get b = some (.cells [.int .i64 p, .int .i64 m, fa] 0) → g.get (b + 1) = some (.cells [.int .i64 0, .int .i64 0, .nilsl] 0) → FzV 3 fa fs.length (fs.flatMap Fn.cells) → FnB fs (3 + i) (400 + 12 * i) →
    (∀ e g' p m fa fs, e.get 2 = some (.ptr b 0) → e.get 4 = some (.ptr (b + 1) 0) → b + 2 ≤ g'.n → g'.get b = some (.cells [.int .i64 p, .int .i64 m, fa] 0) → g'.get (b + 1) = some (.cells [.int .i64 0, .int .i64 0, .nilsl] 0) → FzV 3 fa fs.length (fs.flatMap Fn.cells) → FnB fs 10 1000 → Q (.exit 0) e g') →
    wpL (call tb prim) bar [1, 2, 4, 5] l0_engramkeep_Odd [(1, ta), (2, .ptr b 0), (4, .ptr (b + 1) 0), (5, goI i)] g Q := by
  intro k
  induction k with
  | zero =>
    intro i g p m fa fs hk h4 hn hU hR hf hB hq
    refine M_loop l0_engramkeep_Odd.eq_1 ?_
    have c4 : ¬ (i : Int) < 4 := by omega
    have hl := (hT g (by omega)).len
    by_cases c : i < l.length
    · simp [go_sem, hl, c, c4]
      exact hq _ g p m fa fs rfl rfl hn hU hR hf (hB.le (by omega) (by omega))
    · simp [go_sem, hl, c]
      exact hq _ g p m fa fs rfl rfl hn hU hR hf (hB.le (by omega) (by omega))
  | succ k ih =>
    intro i g p m fa fs hk h4 hn hU hR hf hB hq
    refine M_loop l0_engramkeep_Odd.eq_1 ?_
    have hl := (hT g (by omega)).len
    by_cases c : i < l.length
    · by_cases c4 : (i : Int) < 4
      · have c4' : i < 4 := by omega
        simp [go_sem, hl, c, c4, hU]
        refine S_vrow Tn.c_len (hT g (by omega)) c fun u => ?_
        obtain ⟨r, hr, p', m', fa', fs', rfl, hf', hB'⟩ := odd_ok (bar := bar) (p := p) (m := m) (hf.vw g) hB (by omega) (by omega) l[i]
        have hw : IntKind.i64.wrap ((i : Int) + 1) = ((i + 1 : Nat) : Int) := w64_succ (by omega)
        have hx := (hf'.vw g).one
        simp [go_sem, get_alloc, n_alloc, get_set, n_set, get_kill, n_kill, writeAt, a11, a21, a31, a41, a51, a61, a71, hr, hU, hbar, hx, sp33, hw]
        exact ih (i + 1) _ p' m' fa' fs' (by omega) (by omega) (by rw [n_set]; exact hn) (by rw [get_set, if_pos rfl]) (by rw [get_set_ne (by omega)]; exact hR) hf' (hB'.le (by omega) (by omega)) hq
      · simp [go_sem, hl, c, c4]
        exact hq _ g p m fa fs rfl rfl hn hU hR hf (hB.le (by omega) (by omega))
    · simp [go_sem, hl, c]
      exact hq _ g p m fa fs rfl rfl hn hU hR hf (hB.le (by omega) (by omega))
theorem Odd_ok {ta : AV} {l : List Tn} (hT : FzV 5 ta l.length (l.flatMap Tn.c)) (hf : FzV 3 fa fs.length (fs.flatMap Fn.cells)) (hB : FnB fs 3 400) : ∃ r, call tb prim n_engramkeep_Odd [.agg [.int .i64 p, .int .i64 m, fa], ta] bar h = some (r, h) ∧ OdP 10 1000 r := by
  obtain ⟨r, hc, hr⟩ := callF_pureK (o := call tb prim) (F := f_engramkeep_Odd) (bar := bar) (h := h) (args := [.agg [.int .i64 p, .int .i64 m, fa], ta]) (P := OdP 10 1000) rfl rfl (fun K hK => by
    have hx := (hf.vw h).one
    simp [f_engramkeep_Odd, env0, go_sem, get_alloc, n_alloc, get_set, n_set, get_kill, n_kill, writeAt, a11, a21, a31, a41, a51, a61, a71, hx]
    refine Odd_loop (b := h.n) (Nat.le_refl _) (fun g _ => hT.vw g) .nilsl .nilsl _ 4 0 _ p m fa fs (by omega) (by omega) (by simp [n_alloc]) (by simp [get_alloc, n_alloc]) (by simp [get_alloc, n_alloc]) hf (hB.le (by omega) (by omega)) (fun e g p m fa fs q2 q4 hn hU hR hf hB => ?_)
    have hx := (hf.vw h).one
    have b1 : h.n ≤ h.n + 1 := by omega
    simp [go_sem, get_alloc, n_alloc, get_set, n_set, get_kill, n_kill, writeAt, a11, a21, a31, a41, a51, a61, a71, q2, q4, hU, hR, hx, sp33, b1]
    simp [go_sem, endX, resultsA, resultA, freezeL, AV.free.freeL, packA, q4, freezeV, freezeL, get_set, hf.frz, hf.free, AV.free]
    exact hK _ ⟨_, _, _, _, rfl, hf, hB⟩)
  exact ⟨r, call_of tb_engramkeep_Odd hc, hr⟩
end
end Go.Ev
namespace Go.Ev
open Go
theorem GoodU.fnb {fs : List Fn} (h : GoodU fs) : FnB fs 3 400 := ⟨h.1, fun f hf => by
  obtain ⟨i, hi, rfl⟩ := List.getElem_of_mem hf
  obtain ⟨⟨l, ⟨_, _, _, z⟩, _⟩, _⟩ := h.2.2 i hi
  exact z⟩
section
variable {bar : Nat} {h : H} {la ta : AV} {L : List Int} {l : List Tn} {raw : ByteArray} {s n nm : Int}
theorem CheckTells_ok (hL : FzV 1 la L.length (L.flatMap i64c)) (hT : FzV 5 ta l.length (l.flatMap Tn.c)) : call tb prim n_engramlaw9_CheckTells [la, ta, .str raw, .agg [.int .i32 s, .int .i64 n, .int .i32 nm]] bar h = some (.bool true, h) := by
  refine call_of tb_engramlaw9_CheckTells (callF_pureW rfl rfl (M_in ?_))
  have hun := fun g : H => Unit_ok (bar := h.n) (h := g) (hL.vw g)
  obtain ⟨p, m, fa, fs, hU, hf, hG⟩ := hun (h.alloc (.cells [.int .i32 s, .int .i64 n, .int .i32 nm] 0))
  have hsame := fun g : H => same_ok (bar := h.n) (h := g) (p := p) (m := m) fs (hf.vw g)
  have hx := (hf.vw h).one
  have htk := fun g : H => law_takes_ok (bar := h.n) (h := g) (p := p) (m := m) fs s n nm (hf.vw g)
  have hkn := fun g : H => known_ok (bar := h.n) (h := g)
  have hone := fun (g : H) (b : ByteArray) => one_ok (bar := h.n) (h := g) b
  have hs1 := fun (g : H) (b : ByteArray) => same_ok (bar := h.n) (h := g) (p := 0) (m := 0) [oneF b] (one_fv b g)
  obtain ⟨r, hO, p2, m2, fa2, fs2, rfl, hf2, _⟩ := Odd_ok (bar := h.n) (h := ((h.alloc (.cells [.int .i32 s, .int .i64 n, .int .i32 nm] 0)).alloc (.cells [.int .i64 0, .int .i64 0, .nilsl] 0)).set (h.n + 1) (.cells [.int .i64 p, .int .i64 m, fa] 0)) (p := p) (m := m) hT hf hG.fnb
  have hsame2 := fun g : H => same_ok (bar := h.n) (h := g) (p := p2) (m := m2) fs2 (hf2.vw g)
  have b1 : h.n ≤ h.n + 1 := by omega
  by_cases ct : 40 < raw.size
  · have ct' : (40 : Int) < (raw.size : Int) := by omega
    have hT' : sliceS raw none (some (.int .i64 40)) = some (.str (raw.extract 0 40)) := by
      have : 40 ≤ raw.size := by omega
      simp [sliceS, optBound, bound, this]
    obtain ⟨x, hx1, hx2⟩ : ∃ x, x = raw.extract 0 40 ∧ x.size ≤ 40 := ⟨_, rfl, by rw [ByteArray.size_extract]; omega⟩
    rw [← hx1] at hT'
    have g1 : x.size + 1 ≤ 9223372036854775807 := by omega
    simp [f_engramlaw9_CheckTells, env0, go_sem, get_alloc, n_alloc, get_set, n_set, get_kill, n_kill, writeAt, a11, a21, a31, a41, a51, a61, a71, hU, hx, sp33, b1, ct', optEv, hT', hsame, hO, hsame2, hone, oneA, hs1, sb_add, sz_lit, g1, htk, hkn]
    simp [go_sem, endP, endI, resultsA, resultA, freezeL, freezeV, AV.free.freeL, AV.free, packA, dropS]
  · have ct' : ¬ (40 : Int) < (raw.size : Int) := by omega
    have g1 : raw.size + 1 ≤ 9223372036854775807 := by omega
    simp [f_engramlaw9_CheckTells, env0, go_sem, get_alloc, n_alloc, get_set, n_set, get_kill, n_kill, writeAt, a11, a21, a31, a41, a51, a61, a71, hU, hx, sp33, b1, ct', hsame, hO, hsame2, hone, oneA, hs1, sb_add, sz_lit, g1, htk, hkn]
    simp [go_sem, endP, endI, resultsA, resultA, freezeL, freezeV, AV.free.freeL, AV.free, packA, dropS]
end
end Go.Ev
namespace Go.Ev
open Go
def chkF (P : Program) : Nat → List (Option IntKind) → List Field → Bool
  | _, [], [] => true
  | off, k :: ks, f :: r => decide (f.offset = off) && decide (P.cellsOf f.type = 1) && (match k, P.underlying f.type with | some k, some (.int k') => decide (k = k') | none, some .string => true | _, _ => false) && chkF P (off + 1) ks r
  | _, _, _ => false
/-- A struct of numbers and texts: of these kinds. -/
def chkT (P : Program) (t : TypeId) (ks : List (Option IntKind)) : Bool := match P.underlying t with
  | some (.struct fs) => chkF P 0 ks fs.toList && decide (P.cellsOf t = ks.length)
  | _ => false
def RowOf (ks : List (Option IntKind)) (xs : List AV) : Prop := xs.length = ks.length ∧ ∀ (i : Nat) k, ks[i]? = some k → match k with | some k => ∃ z, xs[i]? = some (.int k z) | none => ∃ s, xs[i]? = some (.str s)
theorem take_one {xs : List AV} {i : Nat} {v : AV} (h : (xs.drop i).take 1 = [v]) : xs[i]? = some v := by
  have : ((xs.drop i).take 1)[0]? = some v := by rw [h]; rfl
  rwa [List.getElem?_take_of_lt (by omega), List.getElem?_drop, Nat.add_zero] at this
theorem chkF_ok {P : Program} {n : Nat} {xs : List AV} : ∀ (ks : List (Option IntKind)) (fs : List Field) (off : Nat), chkF P off ks fs = true → (∀ f ∈ fs, Fits P (n + 1) f.type ((xs.drop f.offset).take (P.cellsOf f.type))) →
    ∀ (i : Nat) k, ks[i]? = some k → match k with | some k => ∃ z, xs[off + i]? = some (.int k z) | none => ∃ s, xs[off + i]? = some (.str s)
  | [], _, _, _, _, i, k, hk => by simp at hk
  | k0 :: ks, [], off, h, _, i, k, hk => by simp [chkF] at h
  | k0 :: ks, f :: r, off, h, hf, i, k, hk => by
    simp only [chkF, Bool.and_eq_true, decide_eq_true_eq] at h
    obtain ⟨⟨⟨h1, h2⟩, h3⟩, h4⟩ := h
    cases i with
    | succ i =>
      have := chkF_ok ks r (off + 1) h4 (fun g hg => hf g (List.mem_cons_of_mem _ hg)) i k (by simpa using hk)
      have e : off + 1 + i = off + (i + 1) := by omega
      rw [e] at this; exact this
    | zero =>
      simp at hk; subst hk
      have hx := hf f (List.mem_cons_self ..)
      rw [h1, h2] at hx
      unfold Fits at hx
      rw [Nat.add_zero]
      cases k0 with
      | some kk =>
        split at h3 <;> first | (cases h3; done) | skip
        · rename_i k' _ e1 e2
          cases e1
          simp only [decide_eq_true_eq] at h3
          subst h3
          rw [e2] at hx
          obtain ⟨z, hz, _⟩ := hx
          exact ⟨z, take_one hz⟩
        · rename_i e1 _; cases e1
      | none =>
        split at h3 <;> first | (cases h3; done) | skip
        · rename_i e1 _; cases e1
        · rename_i e1 e2
          rw [e2] at hx
          obtain ⟨s, hs, _⟩ := hx
          exact ⟨s, take_one hs⟩
theorem chkT_ok {P : Program} {n : Nat} {t : TypeId} {ks : List (Option IntKind)} {xs : List AV} (hc : chkT P t ks = true) (h : Fits P (n + 2) t xs) : RowOf ks xs := by
  unfold chkT at hc
  unfold Fits at h
  split at hc
  · rename_i fs hu
    rw [hu] at h
    simp only [Bool.and_eq_true, decide_eq_true_eq] at hc
    refine ⟨by rw [h.1, hc.2], fun i k hk => ?_⟩
    have := chkF_ok ks fs.toList 0 hc.1 h.2 i k hk
    rwa [Nat.zero_add] at this
  · cases hc
theorem rows_list {A : Type} {c : A → List AV} {k : Nat} (hk : ∀ x, (c x).length = k) : ∀ (len : Nat) (cs : List AV), cs.length = len * k → (∀ i, i < len → ∃ x, (cs.drop (i * k)).take k = c x) → ∃ l : List A, l.length = len ∧ cs = l.flatMap c
  | 0, cs, h, _ => ⟨[], rfl, List.length_eq_zero_iff.mp (by simpa using h)⟩
  | len + 1, cs, h, hx => by
    obtain ⟨x, h0⟩ := hx 0 (by omega)
    obtain ⟨l, hl, hc⟩ := rows_list hk len (cs.drop k) (by rw [List.length_drop, h, Nat.succ_mul]; omega) (fun i hi => by
      obtain ⟨y, hy⟩ := hx (i + 1) (by omega)
      exact ⟨y, by rw [List.drop_drop, ← hy, Nat.succ_mul, Nat.add_comm]⟩)
    refine ⟨x :: l, by simp [hl], ?_⟩
    rw [List.flatMap_cons, ← hc, ← h0]
    simp
/-- A list of rows: an argument. -/
theorem arg_list {A : Type} {c : A → List AV} {P : Program} {n : Nat} {t e : TypeId} {k : Nat} {a : AV} (hk : ∀ x, (c x).length = k) (hu : P.underlying t = some (.slice e)) (hce : P.cellsOf e = k) (hx : ∀ xs, Fits P n e xs → ∃ x, xs = c x) (h : argOk P (n + 1) t a) : ∃ l : List A, FzV k a l.length (l.flatMap c) := by
  unfold argOk at h
  rw [hu] at h
  simp only at h
  unfold Fits at h
  rw [hu] at h
  rcases h with h | ⟨len, cs, h, hm, hl, hr⟩
  · cases h; exact ⟨[], by simp, by simp, .inl ⟨rfl, rfl⟩⟩
  · rw [hce] at h hl hr
    cases h
    obtain ⟨l, hl2, rfl⟩ := rows_list hk len cs hl (fun i hi => hx _ (hr i hi))
    have hm2 : maxLen ≤ 9223372036854775807 := by decide
    exact ⟨l, by rw [hl, hl2], by omega, .inr ⟨false, by rw [hl2]⟩⟩
theorem fits_int {P : Program} {n : Nat} {t : TypeId} {k : IntKind} {xs : List AV} (hu : P.underlying t = some (.int k)) (h : Fits P (n + 1) t xs) : ∃ x, xs = [.int k x] := by
  unfold Fits at h; rw [hu] at h; obtain ⟨z, hz, _⟩ := h; exact ⟨z, hz⟩
theorem arg_str {P : Program} {n : Nat} {t : TypeId} {a : AV} (hu : P.underlying t = some .string) (h : argOk P (n + 1) t a) : ∃ s, a = .str s := by
  unfold argOk at h; rw [hu] at h; unfold Fits at h; simp only [hu] at h
  obtain ⟨s, hs, _⟩ := h; cases hs; exact ⟨s, rfl⟩
theorem arg_struct {P : Program} {n : Nat} {t : TypeId} {ks : List (Option IntKind)} {a : AV} (hc : chkT P t ks = true) (h : argOk P (n + 2) t a) : ∃ xs, a = .agg xs ∧ RowOf ks xs := by
  have hc' := hc
  unfold chkT at hc
  unfold argOk at h
  split at hc
  · rename_i fs hu
    rw [hu] at h
    obtain ⟨xs, rfl, h⟩ := h
    exact ⟨xs, rfl, chkT_ok hc' h⟩
  · cases hc
end Go.Ev
