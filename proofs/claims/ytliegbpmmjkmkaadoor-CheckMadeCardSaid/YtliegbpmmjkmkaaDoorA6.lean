/- What the small functions, Find, Takes and the document's tokens come to; nothing is assumed. -/
import Derived.Test.YtliegbpmmjkmkaaDoorA5
set_option linter.unusedSimpArgs false
set_option linter.unusedVariables false
set_option linter.all false
namespace Go.Ev
open Go
section
variable {pr : Oracle} {bar : Nat} {h : H}
theorem glyph_within_ok (r a b : Int) : call tb pr n_glyph_within [.int .i32 r, .int .i32 a, .int .i32 b] bar h = some (.bool (decide (a ≤ r ∧ r ≤ b)), h) := by
  refine call_of tb_glyph_within (callF_pureW rfl rfl (M_in ?_))
  simp [f_glyph_within, env0, go_sem, endP, endI, resultsA, resultA, freezeL, freezeV, AV.free.freeL, AV.free, packA, dropS]
  repeat' (refine G_bool (fun hb => ?_) (fun hb => ?_) <;> simp [go_sem, endP, endI, resultsA, resultA, freezeL, freezeV, AV.free.freeL, AV.free, packA, dropS, *])
theorem glyph_named_ok (r : Int) : call tb pr n_glyph_named [.int .i32 r] bar h = some (.bool (decide (r = 955 ∨ r = 960)), h) := by
  refine call_of tb_glyph_named (callF_pureW rfl rfl (M_in ?_))
  simp [f_glyph_named, env0, go_sem, endP, endI, resultsA, resultA, freezeL, freezeV, AV.free.freeL, AV.free, packA, dropS]
  repeat' (refine G_bool (fun hb => ?_) (fun hb => ?_) <;> simp [go_sem, endP, endI, resultsA, resultA, freezeL, freezeV, AV.free.freeL, AV.free, packA, dropS, *])
  · simp_all
  · simp at hb; rw [Bool.eq_iff_iff]; simp [hb]
def validR (r : Int) : Bool := decide (0 ≤ r ∧ r < 55296 ∨ 57343 < r ∧ r ≤ 1114111)
theorem utf8_ValidRune_ok (r : Int) : call tb pr n_utf8_ValidRune [.int .i32 r] bar h = some (.bool (validR r), h) := by
  refine call_of tb_utf8_ValidRune (callF_pureW rfl rfl (M_in ?_))
  simp [f_utf8_ValidRune, env0, go_sem, endP, endI, resultsA, resultA, freezeL, freezeV, AV.free.freeL, AV.free, packA, dropS]
  repeat' (first | refine G_bool (fun hb => ?_) (fun hb => ?_) <;> simp [go_sem, endP, endI, resultsA, resultA, freezeL, freezeV, AV.free.freeL, AV.free, packA, dropS, *] | refine C_bool (fun hb => ?_) (fun hb => ?_) <;> simp [go_sem, endP, endI, resultsA, resultA, freezeL, freezeV, AV.free.freeL, AV.free, packA, dropS, *])
  all_goals (simp at *; simp [validR]; omega)
def nameR (r : Int) : Bool := decide (97 ≤ r ∧ r ≤ 122 ∨ r > 255 ∧ (r < 55296 ∨ 57343 < r) ∧ r ≤ 1114111 ∧ r ≠ 65533)
theorem glyph_Name_ok (r : Int) : call tb pr n_glyph_Name [.int .i32 r] bar h = some (.bool (nameR r), h) := by
  refine call_of tb_glyph_Name (callF_pureW rfl rfl (M_in ?_))
  simp [f_glyph_Name, env0, go_sem, endP, endI, resultsA, resultA, freezeL, freezeV, AV.free.freeL, AV.free, packA, dropS, utf8_ValidRune_ok, glyph_within_ok]
  repeat' (first | refine G_bool (fun hb => ?_) (fun hb => ?_) <;> simp [go_sem, endP, endI, resultsA, resultA, freezeL, freezeV, AV.free.freeL, AV.free, packA, dropS, utf8_ValidRune_ok, glyph_within_ok, *] | refine C_bool (fun hb => ?_) (fun hb => ?_) <;> simp [go_sem, endP, endI, resultsA, resultA, freezeL, freezeV, AV.free.freeL, AV.free, packA, dropS, *])
  all_goals (simp [validR, nameR] at *; try omega)
  all_goals (rw [Bool.eq_iff_iff]; simp; omega)
theorem engramref9_Name_ok (r : Int) : call tb pr n_engramref9_Name [.int .i32 r] bar h = some (.bool (nameR r), h) := by
  refine call_of tb_engramref9_Name (callF_pureW rfl rfl (M_in ?_))
  simp [f_engramref9_Name, env0, go_sem, endP, endI, resultsA, resultA, freezeL, freezeV, AV.free.freeL, AV.free, packA, dropS]
  repeat' (first | refine G_bool (fun hb => ?_) (fun hb => ?_) <;> simp [go_sem, endP, endI, resultsA, resultA, freezeL, freezeV, AV.free.freeL, AV.free, packA, dropS, *] | refine C_bool (fun hb => ?_) (fun hb => ?_) <;> simp [go_sem, endP, endI, resultsA, resultA, freezeL, freezeV, AV.free.freeL, AV.free, packA, dropS, *])
  all_goals (simp [nameR] at *; try omega)
  all_goals (rw [Bool.eq_iff_iff]; simp; omega)

def hasR (s : ByteArray) (r : Int) : Bool := (runes s).any fun x => (x.2 : Int) == r
theorem check_hasRune_loop (s : ByteArray) (r : Int) (id : Nat) (hid : bar ≤ id) (Q : Ex → Env → H → Prop) : ∀ (n pos : Nat) (h : H), h.get id = some (.iter s pos) → s.size ≤ pos + n →
    (∀ e h, (runesF s n pos).any (fun x => (x.2 : Int) == r) = true → e.get 4 = some (.bool true) → Q .ret e h) → (∀ e h, (runesF s n pos).any (fun x => (x.2 : Int) == r) = false → Q (.exit 0) e h) →
    wpL (call tb pr) bar [1, 8] l0_check_hasRune [(1, .int .i32 r), (8, .ptr id 0)] h Q := by
  intro n
  induction n with
  | zero =>
    intro pos h hg hn h1 h2
    have : ¬ pos < s.size := by omega
    refine M_loop l0_check_hasRune.eq_1 ?_
    simp [go_sem, hg, hid, this]
    exact h2 _ _ (by simp [runesF])
  | succ n ih =>
    intro pos h hg hn h1 h2
    refine M_loop l0_check_hasRune.eq_1 ?_
    by_cases this : pos < s.size
    · simp [go_sem, hg, hid, this]
      have hd := decode_pos s pos
      refine C_bool (fun he => ?_) (fun he => ?_) <;> simp [go_sem]
      · exact h1 _ _ (by simp [runesF, this, he]) (by simp [Env.get])
      · exact ih (pos + (Utf8.decode s pos).2) _ (by simp [H.set]) (by omega) (fun e h g => h1 e h (by simp [runesF, this, he, g])) (fun e h g => h2 e h (by simp only [runesF, this, if_true, List.any_cons, he, g]; rfl))
    · simp [go_sem, hg, hid, this]
      exact h2 _ _ (by simp [runesF, this])
theorem check_hasRune_ok (s : ByteArray) (r : Int) : call tb pr n_check_hasRune [.str s, .int .i32 r] bar h = some (.bool (hasR s r), h) := by
  refine call_of tb_check_hasRune (callF_pureW rfl rfl (M_in ?_))
  simp [f_check_hasRune, env0, go_sem]
  refine check_hasRune_loop s r h.n (Nat.le_refl _) _ s.size 0 _ (by simp [H.alloc]) (by omega) (fun e h1 g1 g2 => ?_) (fun e h1 g1 => ?_)
  · simp [go_sem, endP, endI, resultsA, resultA, freezeL, freezeV, AV.free.freeL, AV.free, packA, dropS, g2, hasR, runes, g1]
  · simp [go_sem, endP, endI, resultsA, resultA, freezeL, freezeV, AV.free.freeL, AV.free, packA, dropS, hasR, runes, g1]
theorem l0_has : l0_engramref9_has = l0_check_hasRune := rfl
theorem engramref9_has_ok (s : ByteArray) (r : Int) : call tb pr n_engramref9_has [.str s, .int .i32 r] bar h = some (.bool (hasR s r), h) := by
  refine call_of tb_engramref9_has (callF_pureW rfl rfl (M_in ?_))
  simp [f_engramref9_has, env0, go_sem]
  rw [l0_has]
  refine check_hasRune_loop s r h.n (Nat.le_refl _) _ s.size 0 _ (by simp [H.alloc]) (by omega) (fun e h1 g1 g2 => ?_) (fun e h1 g1 => ?_)
  · simp [go_sem, endP, endI, resultsA, resultA, freezeL, freezeV, AV.free.freeL, AV.free, packA, dropS, g2, hasR, runes, g1]
  · simp [go_sem, endP, endI, resultsA, resultA, freezeL, freezeV, AV.free.freeL, AV.free, packA, dropS, hasR, runes, g1]
/-- The signs that are known, but letters. -/
def signsB : ByteArray := ⟨#[43, 45, 42, 47, 37, 38, 124, 94, 60, 61, 33, 46, 44, 64, 36, 35, 63, 58, 59, 91, 93, 126, 194, 171, 194, 187, 194, 169, 194, 174, 194, 164, 194, 161, 206, 187, 207, 128]⟩
def knownR (r : Int) : Bool := decide (97 ≤ r ∧ r ≤ 122 ∨ 65 ≤ r ∧ r ≤ 90) || hasR signsB r
theorem engramref9_Known_ok (r : Int) : call tb pr n_engramref9_Known [.int .i32 r] bar h = some (.bool (knownR r), h) := by
  refine call_of tb_engramref9_Known (callF_pureW rfl rfl (M_in ?_))
  simp [f_engramref9_Known, env0, go_sem, endP, endI, resultsA, resultA, freezeL, freezeV, AV.free.freeL, AV.free, packA, dropS]
  repeat' (first | refine G_bool (fun hb => ?_) (fun hb => ?_) <;> simp [go_sem, endP, endI, resultsA, resultA, freezeL, freezeV, AV.free.freeL, AV.free, packA, dropS, engramref9_has_ok, *] | refine C_bool (fun hb => ?_) (fun hb => ?_) <;> simp [go_sem, endP, endI, resultsA, resultA, freezeL, freezeV, AV.free.freeL, AV.free, packA, dropS, *])
  all_goals (simp at hb)
  all_goals first
    | (unfold knownR; rw [decide_eq_false (by simp at *; omega)]; rfl)
    | (unfold knownR; rw [decide_eq_true (by simp at *; omega)]; rfl)
theorem glyph_Known_loop (s : ByteArray) (r : Int) (id : Nat) (hid : bar ≤ id) (Q : Ex → Env → H → Prop) : ∀ (n pos : Nat) (h : H), h.get id = some (.iter s pos) → s.size ≤ pos + n →
    (∀ e h, (runesF s n pos).any (fun x => (x.2 : Int) == r) = true → e.get 2 = some (.bool true) → Q .ret e h) → (∀ e h, (runesF s n pos).any (fun x => (x.2 : Int) == r) = false → Q (.exit 0) e h) →
    wpL (call tb pr) bar [0, 11] l0_glyph_Known [(0, .int .i32 r), (11, .ptr id 0)] h Q := by
  intro n
  induction n with
  | zero =>
    intro pos h hg hn h1 h2
    have : ¬ pos < s.size := by omega
    refine M_loop l0_glyph_Known.eq_1 ?_
    simp [go_sem, hg, hid, this]
    exact h2 _ _ (by simp [runesF])
  | succ n ih =>
    intro pos h hg hn h1 h2
    refine M_loop l0_glyph_Known.eq_1 ?_
    by_cases this : pos < s.size
    · simp [go_sem, hg, hid, this]
      have hd := decode_pos s pos
      refine C_bool (fun he => ?_) (fun he => ?_) <;> simp [go_sem]
      · exact h1 _ _ (by simp [runesF, this, he]) (by simp [Env.get])
      · exact ih (pos + (Utf8.decode s pos).2) _ (by simp [H.set]) (by omega) (fun e h g => h1 e h (by simp [runesF, this, he, g])) (fun e h g => h2 e h (by simp only [runesF, this, if_true, List.any_cons, he, g]; rfl))
    · simp [go_sem, hg, hid, this]
      exact h2 _ _ (by simp [runesF, this])
theorem glyph_Known_ok (r : Int) : call tb pr n_glyph_Known [.int .i32 r] bar h = some (.bool (knownR r), h) := by
  refine call_of tb_glyph_Known (callF_pureW rfl rfl (M_in ?_))
  simp [f_glyph_Known, env0, go_sem, endP, endI, resultsA, resultA, freezeL, freezeV, AV.free.freeL, AV.free, packA, dropS, glyph_within_ok]
  repeat' (first | refine G_bool (fun hb => ?_) (fun hb => ?_) <;> simp [go_sem, endP, endI, resultsA, resultA, freezeL, freezeV, AV.free.freeL, AV.free, packA, dropS, glyph_within_ok, *] | refine C_bool (fun hb => ?_) (fun hb => ?_) <;> simp [go_sem, endP, endI, resultsA, resultA, freezeL, freezeV, AV.free.freeL, AV.free, packA, dropS, *])
  · unfold knownR; rw [decide_eq_true (by simp at *; omega)]; rfl
  · unfold knownR; rw [decide_eq_true (by simp at *; omega)]; rfl
  · have hk : knownR r = hasR signsB r := by unfold knownR; rw [decide_eq_false (by simp at *; omega)]; rfl
    rw [hk]
    refine glyph_Known_loop signsB r h.n (Nat.le_refl _) _ signsB.size 0 _ (by simp [H.alloc]; rfl) (by omega) (fun e h1 g1 g2 => ?_) (fun e h1 g1 => ?_)
    · simp [go_sem, endP, endI, resultsA, resultA, freezeL, freezeV, AV.free.freeL, AV.free, packA, dropS, g2, hasR, runes, g1]
    · simp [go_sem, endP, endI, resultsA, resultA, freezeL, freezeV, AV.free.freeL, AV.free, packA, dropS, hasR, runes, g1]
end
end Go.Ev
namespace Go.Ev
open Go

structure Fn where
  name : Int
  args : Int
  code : ByteArray
def Fn.cells (f : Fn) : List AV := [.int .i32 f.name, .int .i64 f.args, .str f.code]
theorem Fn.cells_len (f : Fn) : f.cells.length = 3 := rfl
structure Tok where
  sign : Int
  n : Int
  name : Int
  deriving DecidableEq
def Tok.cells (t : Tok) : List AV := [.int .i32 t.sign, .int .i64 t.n, .int .i32 t.name]
theorem Tok.cells_len (t : Tok) : t.cells.length = 3 := rfl
def findN (nm : Int) : List Fn → Nat → Int
  | [], _ => -1
  | f :: r, i => if f.name == nm then i else findN nm r (i + 1)
/-- A program's functions, as a slice of it that stands in 'a'. -/
def FV (h : H) (a : AV) (fs : List Fn) : Prop := Vw 3 h a fs.length (fs.flatMap Fn.cells)
theorem FV.mono {h h' : H} {a : AV} {fs : List Fn} {b : Nat} (v : FV h a fs) (g : Ag b h h') (hb : h.n ≤ b) : FV h' a fs := Vw.mono v g hb
theorem fz_get {fs : List Fn} {i : Nat} (hi : i < fs.length) (j : Nat) (hj : j < 3) : (fs.flatMap Fn.cells)[i * 3 + j]? = (fs[i]).cells[j]? := flat_get Fn.cells_len fs i j _ hj (List.getElem?_eq_getElem hi)
theorem fz_row {fs : List Fn} {i : Nat} (hi : i < fs.length) : ((fs.flatMap Fn.cells).drop (i * 3)).take 3 = (fs[i]).cells := flat_row Fn.cells_len fs i _ (List.getElem?_eq_getElem hi)
theorem sl_get {fs : List Fn} {all : List AV} {off : Nat} (hc : (all.drop off).take (fs.length * 3) = fs.flatMap Fn.cells) {i : Nat} (hi : i < fs.length) (j : Nat) (hj : j < 3) : all[off + i * 3 + j]? = (fs[i]).cells[j]? := by
  rw [← fz_get hi j hj, ← hc, List.getElem?_take_of_lt (by omega), List.getElem?_drop, Nat.add_assoc]
theorem sl_row {fs : List Fn} {all : List AV} {off : Nat} (hc : (all.drop off).take (fs.length * 3) = fs.flatMap Fn.cells) {i : Nat} (hi : i < fs.length) : (all.drop (off + i * 3)).take 3 = (fs[i]).cells := by
  rw [← fz_row hi, ← hc, List.drop_take, List.drop_drop, List.take_take, Nat.min_eq_left (by omega)]
/-- What is read of it, in each of the three cases. -/
theorem FV.cases {h : H} {a : AV} {fs : List Fn} (v : FV h a fs) : (a = .nilsl ∧ fs = []) ∨
    (∃ full cs, a = .fz 3 fs.length cs full ∧ (cs.length = fs.length * 3) = True ∧ (∀ i (hi : i < fs.length), cs[i * 3]? = some (.int .i32 fs[i].name) ∧ cs[i * 3 + 1]? = some (.int .i64 fs[i].args) ∧ cs[i * 3 + 2]? = some (.str fs[i].code)) ∧
      ∀ i (hi : i < fs.length), i * 3 + 3 ≤ cs.length ∧ (cs.drop (i * 3)).take 3 = fs[i].cells) ∨
    ∃ id off full all p, a = .sl id off 3 fs.length full ∧ id < h.n ∧ h.get id = some (.cells all p) ∧
      (∀ i (hi : i < fs.length), all[off + i * 3]? = some (.int .i32 fs[i].name) ∧ all[off + i * 3 + 1]? = some (.int .i64 fs[i].args) ∧ all[off + i * 3 + 2]? = some (.str fs[i].code)) ∧
      ∀ i (hi : i < fs.length), off + i * 3 + 3 ≤ all.length ∧ (all.drop (off + i * 3)).take 3 = fs[i].cells := by
  obtain ⟨h1, h2, h3⟩ := v
  rcases h3 with ⟨h3, h4⟩ | ⟨full, h3⟩ | ⟨id, off, full, all, p, e1, e2, e3, e4, e5⟩
  · exact .inl ⟨h3, List.length_eq_zero_iff.mp h4⟩
  · refine .inr (.inl ⟨full, _, h3, by simp only [h1], fun i hi => ⟨fz_get hi 0 (by omega), fz_get hi 1 (by omega), fz_get hi 2 (by omega)⟩, fun i hi => ⟨by rw [h1]; omega, fz_row hi⟩⟩)
  · refine .inr (.inr ⟨id, off, full, all, p, e1, e2, e3, fun i hi => ⟨sl_get e5 hi 0 (by omega), sl_get e5 hi 1 (by omega), sl_get e5 hi 2 (by omega)⟩, fun i hi => ⟨by omega, sl_row e5 hi⟩⟩)

section
variable {pr : Oracle} {bar : Nat} {h : H}
theorem ref_find_loop (fs : List Fn) (a : AV) (nm p m : Int) (h0 g : H) (hv : FV h0 a fs) (hg : Ag h0.n h0 g) (id q : Nat) (hid : g.get id = some (.cells [.int .i64 p, .int .i64 m, a] q)) (Q : Ex → Env → H → Prop) : ∀ (k i : Nat), fs.length = i + k →
    (∀ e, e.get 4 = some (.int .i64 (findN nm (fs.drop i) i)) → Q .ret e g) → (∀ e, findN nm (fs.drop i) i = -1 → Q (.exit 0) e g) →
    wpL (call tb pr) bar [1, 2, 8, 9] l0_engramref9_Find [(1, .int .i32 nm), (2, .ptr id 0), (8, goI fs.length), (9, goI i)] g Q := by
  intro k
  induction k with
  | zero =>
    intro i hk h1 h2
    refine M_loop l0_engramref9_Find.eq_1 ?_
    simp [go_sem, hk]
    exact h2 _ (by rw [List.drop_eq_nil_of_le (by omega)]; rfl)
  | succ k ih =>
    intro i hk h1 h2
    refine M_loop l0_engramref9_Find.eq_1 ?_
    have hi : i < fs.length := by omega
    have hb : (i : Int) < (fs.length : Int) := by omega
    have hd : fs.drop i = fs[i] :: fs.drop (i + 1) := List.drop_eq_getElem_cons hi
    have hw := w64_succ (n := i) (by have := hv.2.1; omega)
    rcases hv.cases with ⟨rfl, rfl⟩ | ⟨full, cs, rfl, hl, hx, hy⟩ | ⟨id', off, full, all, p', rfl, hlt, hg', hx, hy⟩
    · cases hi
    · simp [go_sem, hid, hb, hi, indexIn, hx i hi, hl]
      refine C_bool (fun he => ?_) (fun he => ?_) <;> simp [go_sem, hw]
      · exact h1 _ (by rw [hd]; simp [Env.get, findN, he])
      · exact ih (i + 1) (by omega) (fun e h3 => h1 e (by rw [hd]; simpa [findN, he] using h3)) (fun e h3 => h2 e (by rw [hd]; simpa [findN, he] using h3))
    · have hg2 := (hg.2 _ hlt).trans hg'
      simp [go_sem, hid, hb, hi, indexIn, hx i hi, hg2]
      refine C_bool (fun he => ?_) (fun he => ?_) <;> simp [go_sem, hw]
      · exact h1 _ (by rw [hd]; simp [Env.get, findN, he])
      · exact ih (i + 1) (by omega) (fun e h3 => h1 e (by rw [hd]; simpa [findN, he] using h3)) (fun e h3 => h2 e (by rw [hd]; simpa [findN, he] using h3))
theorem engramref9_Find_ok (fs : List Fn) (a : AV) (nm p m : Int) (hv : FV h a fs) : call tb pr n_engramref9_Find [.agg [.int .i64 p, .int .i64 m, a], .int .i32 nm] bar h = some (.int .i64 (findN nm fs 0), h) := by
  refine call_of tb_engramref9_Find (callF_pureW rfl rfl (M_in ?_))
  simp [f_engramref9_Find, env0, go_sem, hv.one, get_alloc, hv.len]
  refine ref_find_loop fs a nm p m h _ hv (Ag.alloc _ (Nat.le_refl _)) h.n 0 (by simp [get_alloc]) _ fs.length 0 (by omega) (fun e h1 => ?_) (fun e h1 => ?_)
  · simp [go_sem, endP, endI, resultsA, resultA, freezeL, freezeV, AV.free.freeL, AV.free, packA, dropS, h1]
  · simp [go_sem, endP, endI, resultsA, resultA, freezeL, freezeV, AV.free.freeL, AV.free, packA, dropS]; exact h1.symm

theorem check_find_loop (fs : List Fn) (a : AV) (nm : Int) (h0 : H) (hv : FV h0 a fs) (hb0 : h0.n ≤ bar) (b : Nat) (hb' : bar ≤ b) (id q : Nat) (hid : id < b) (Q : Ex → Env → H → Prop) : ∀ (k i : Nat) (g : H), fs.length = i + k → Ag h0.n h0 g → b ≤ g.n → g.get id = some (.cells [.int .i32 nm] q) →
    (∀ e g', Ag b g g' → e.get 4 = some (.int .i64 (findN nm (fs.drop i) i)) → Q .ret e g') → (∀ e g', Ag b g g' → findN nm (fs.drop i) i = -1 → Q (.exit 0) e g') →
    wpL (call tb pr) bar [0, 1, 7, 8] l0_slices_IndexFunc_api_Func_api_Func [(0, a), (1, .fn n_check_Find_1 [.ptr id 0]), (7, goI fs.length), (8, goI i)] g Q := by
  intro k
  induction k with
  | zero =>
    intro i g hk hg hbn hi0 h1 h2
    refine M_loop l0_slices_IndexFunc_api_Func_api_Func.eq_1 ?_
    simp [go_sem, hk]
    exact h2 _ _ (Ag.refl _ _) (by rw [List.drop_eq_nil_of_le (by omega)]; rfl)
  | succ k ih =>
    intro i g hk hg hbn hi0 h1 h2
    refine M_loop l0_slices_IndexFunc_api_Func_api_Func.eq_1 ?_
    have hi : i < fs.length := by omega
    have hb : (i : Int) < (fs.length : Int) := by omega
    have hd : fs.drop i = fs[i] :: fs.drop (i + 1) := List.drop_eq_getElem_cons hi
    have hw := w64_succ (n := i) (by have := hv.2.1; omega)
    have hne : id ≠ g.n := by omega
    have hA : Ag b g (g.alloc (.cells fs[i].cells 0)) := Ag.alloc _ (by omega)
    have hcl : call tb pr n_check_Find_1 [.agg fs[i].cells, .ptr id 0] bar g = some (.bool (fs[i].name == nm), g.alloc (.cells fs[i].cells 0)) := by
      refine call_of tb_check_Find_1 ?_
      obtain ⟨r, h', hc, hr, rfl⟩ := callF_W (o := call tb pr) (F := f_check_Find_1) (bar := bar) (h := g) (args := [.agg fs[i].cells, .ptr id 0]) (K := fun r h' => r = .bool (fs[i].name == nm) ∧ h' = g.alloc (.cells fs[i].cells 0)) rfl rfl (M_in (by
        simp [f_check_Find_1, env0, go_sem, endP, endI, resultsA, resultA, freezeL, freezeV, AV.free.freeL, AV.free, packA, dropS, Fn.cells, get_alloc, hne, hi0]))
      rw [hc, hr]
    rcases hv.cases with ⟨rfl, rfl⟩ | ⟨full, cs, rfl, hl, hx, hy⟩ | ⟨id', off, full, all, p', rfl, hlt, hg', hx, hy⟩
    · cases hi
    · simp [go_sem, hb, hi, indexIn, hl, hcl, hy i hi]
      refine C_bool (fun he => ?_) (fun he => ?_) <;> simp [go_sem, hw]
      · exact h1 _ _ hA (by rw [hd]; simp [Env.get, findN, he])
      · exact ih (i + 1) _ (by omega) (hg.trans (Ag.alloc _ (by omega))) (by simp only [n_alloc]; omega) (by rw [get_alloc, if_neg hne]; exact hi0) (fun e g' h4 h3 => h1 e g' (hA.trans h4) (by rw [hd]; simpa [findN, he] using h3)) (fun e g' h4 h3 => h2 e g' (hA.trans h4) (by rw [hd]; simpa [findN, he] using h3))
    · have hg2 := (hg.2 _ hlt).trans hg'
      simp [go_sem, hb, hi, indexIn, hg2, hcl, hy i hi]
      refine C_bool (fun he => ?_) (fun he => ?_) <;> simp [go_sem, hw]
      · exact h1 _ _ hA (by rw [hd]; simp [Env.get, findN, he])
      · exact ih (i + 1) _ (by omega) (hg.trans (Ag.alloc _ (by omega))) (by simp only [n_alloc]; omega) (by rw [get_alloc, if_neg hne]; exact hi0) (fun e g' h4 h3 => h1 e g' (hA.trans h4) (by rw [hd]; simpa [findN, he] using h3)) (fun e g' h4 h3 => h2 e g' (hA.trans h4) (by rw [hd]; simpa [findN, he] using h3))
theorem slices_IndexFunc_ok (fs : List Fn) (a : AV) (nm : Int) (h0 g : H) (hv : FV h0 a fs) (hb0 : h0.n ≤ bar) (hg : Ag h0.n h0 g) (id q : Nat) (hid : id < g.n) (hbn : bar ≤ g.n) (hi0 : g.get id = some (.cells [.int .i32 nm] q)) :
    ∃ r g', call tb pr n_slices_IndexFunc_api_Func_api_Func [a, .fn n_check_Find_1 [.ptr id 0]] bar g = some (r, g') ∧ r = .int .i64 (findN nm fs 0) := by
  obtain ⟨r, g', hc, hr⟩ := callF_W (o := call tb pr) (F := f_slices_IndexFunc_api_Func_api_Func) (bar := bar) (h := g) (args := [a, .fn n_check_Find_1 [.ptr id 0]]) (K := fun r h' => r = .int .i64 (findN nm fs 0)) rfl rfl (M_in (by
    simp [f_slices_IndexFunc_api_Func_api_Func, env0, go_sem, hv.len]
    refine check_find_loop fs a nm h0 hv hb0 g.n hbn id q hid _ fs.length 0 g (by omega) hg (Nat.le_refl _) hi0 (fun e g' _ h1 => ?_) (fun e g' _ h1 => ?_)
    · simp [go_sem, endP, endI, resultsA, resultA, freezeL, freezeV, AV.free.freeL, AV.free, packA, dropS, h1]
    · simp [go_sem, endP, endI, resultsA, resultA, freezeL, freezeV, AV.free.freeL, AV.free, packA, dropS]; exact h1.symm))
  exact ⟨r, g', call_of tb_slices_IndexFunc_api_Func_api_Func hc, hr⟩
theorem check_Find_ok (fs : List Fn) (a : AV) (nm p m : Int) (hv : FV h a fs) : call tb pr n_check_Find [.agg [.int .i64 p, .int .i64 m, a], .int .i32 nm] bar h = some (.int .i64 (findN nm fs 0), h) := by
  refine call_of tb_check_Find (callF_pureW rfl rfl (M_in ?_))
  obtain ⟨r, g', hc, rfl⟩ := slices_IndexFunc_ok (pr := pr) (bar := h.n) fs a nm h ((h.alloc (.cells [.int .i64 p, .int .i64 m, a] 0)).alloc (.cells [.int .i32 nm] 0)) hv (Nat.le_refl _) ((Ag.alloc _ (Nat.le_refl _)).trans (Ag.alloc _ (by simp [n_alloc]))) (h.n + 1) 0 (by simp [n_alloc]) (by simp [n_alloc]; omega) (by simp [get_alloc, n_alloc])
  simp [f_check_Find, env0, go_sem, hv.one, get_alloc, n_alloc, endP, endI, resultsA, resultA, freezeL, freezeV, AV.free.freeL, AV.free, packA, dropS, hc]
end
end Go.Ev
namespace Go.Ev
open Go
theorem findN_some (nm : Int) : ∀ (fs : List Fn) (j : Nat), findN nm fs j = -1 ∨ ∃ i, i < fs.length ∧ findN nm fs j = ((j + i : Nat) : Int)
  | [], j => .inl rfl
  | f :: r, j => by
    simp only [findN]
    cases hf : f.name == nm with
    | true => exact .inr ⟨0, by simp, by simp⟩
    | false =>
      rcases findN_some nm r (j + 1) with h | ⟨i, h1, h2⟩
      · exact .inl (by simpa using h)
      · exact .inr ⟨i + 1, by simpa using h1, by simp only [Bool.false_eq_true, if_false, h2]; omega⟩
def bin2B : ByteArray := ⟨#[43, 45, 42, 47, 37, 38, 124, 94, 60, 61, 194, 171, 194, 187]⟩
def un1B : ByteArray := ⟨#[33, 64, 194, 169, 194, 164, 207, 128]⟩
def st2B : ByteArray := ⟨#[36, 194, 174]⟩
def ctlB : ByteArray := ⟨#[58, 59, 91, 93, 126, 194, 161]⟩
def isBin (r : Int) : Bool := decide (r = 43 ∨ r = 45 ∨ r = 42 ∨ r = 47 ∨ r = 37 ∨ r = 38 ∨ r = 124 ∨ r = 94 ∨ r = 60 ∨ r = 61 ∨ r = 171 ∨ r = 187)
def isUn (r : Int) : Bool := decide (r = 33 ∨ r = 64 ∨ r = 169 ∨ r = 164 ∨ r = 960)
def isSt (r : Int) : Bool := decide (r = 36 ∨ r = 174)
def isCtl (r : Int) : Bool := decide (r = 58 ∨ r = 59 ∨ r = 91 ∨ r = 93 ∨ r = 126 ∨ r = 161)
theorem hasR_bin (r : Int) : hasR ⟨#[43, 45, 42, 47, 37, 38, 124, 94, 60, 61, 194, 171, 194, 187]⟩ r = isBin r := by
  have : runes bin2B = [(0, 43), (1, 45), (2, 42), (3, 47), (4, 37), (5, 38), (6, 124), (7, 94), (8, 60), (9, 61), (10, 171), (12, 187)] := by decide +kernel
  show (runes bin2B).any _ = _
  rw [this, Bool.eq_iff_iff]; simp [isBin]; omega
theorem hasR_un (r : Int) : hasR ⟨#[33, 64, 194, 169, 194, 164, 207, 128]⟩ r = isUn r := by
  have : runes un1B = [(0, 33), (1, 64), (2, 169), (4, 164), (6, 960)] := by decide +kernel
  show (runes un1B).any _ = _
  rw [this, Bool.eq_iff_iff]; simp [isUn]; omega
theorem hasR_st (r : Int) : hasR ⟨#[36, 194, 174]⟩ r = isSt r := by
  have : runes st2B = [(0, 36), (1, 174)] := by decide +kernel
  show (runes st2B).any _ = _
  rw [this, Bool.eq_iff_iff]; simp [isSt]; omega
theorem hasR_ctl (r : Int) : hasR ⟨#[58, 59, 91, 93, 126, 194, 161]⟩ r = isCtl r := by
  have : runes ctlB = [(0, 58), (1, 59), (2, 91), (3, 93), (4, 126), (5, 161)] := by decide +kernel
  show (runes ctlB).any _ = _
  rw [this, Bool.eq_iff_iff]; simp [isCtl]; omega

def callT (fs : List Fn) (nm : Int) : Int × Int × Bool :=
  match fs[(findN nm fs 0).toNat]? with
  | some f => if 0 ≤ findN nm fs 0 ∧ 0 ≤ f.args ∧ f.args ≤ 4 then (f.args, 1, true) else (0, 0, false)
  | none => (0, 0, false)
def takesN (fs : List Fn) (s nm : Int) : Int × Int × Bool :=
  if s = 48 ∨ 97 ≤ s ∧ s ≤ 122 ∨ s = 35 then (0, 1, true) else
  if 65 ≤ s ∧ s ≤ 90 ∨ s = 44 then (1, 0, true) else
  if s = 46 then (1, 2, true) else
  if isBin s then (2, 1, true) else
  if isUn s then (1, 1, true) else
  if s = 36 ∨ s = 174 then (2, 0, true) else
  if s = 63 then (1, 0, true) else
  if isCtl s then (0, 0, true) else
  if s = 955 then callT fs nm else (0, 0, false)
section
variable {fs : List Fn} {s nm : Int}
theorem T1 (h : s = 48 ∨ 97 ≤ s ∧ s ≤ 122 ∨ s = 35) : takesN fs s nm = (0, 1, true) := by unfold takesN; rw [if_pos h]
theorem T2 (h : 65 ≤ s ∧ s ≤ 90 ∨ s = 44) : takesN fs s nm = (1, 0, true) := by unfold takesN; rw [if_neg (by omega), if_pos h]
theorem T3 (h : s = 46) : takesN fs s nm = (1, 2, true) := by unfold takesN; rw [if_neg (by omega), if_neg (by omega), if_pos h]
theorem T4 (h : isBin s = true) : takesN fs s nm = (2, 1, true) := by
  have := h; simp [isBin] at this
  unfold takesN; rw [if_neg (by omega), if_neg (by omega), if_neg (by omega), if_pos h]
theorem T5 (h : isUn s = true) : takesN fs s nm = (1, 1, true) := by
  have := h; simp [isUn] at this
  unfold takesN; rw [if_neg (by omega), if_neg (by omega), if_neg (by omega), if_neg (by simp [isBin]; omega), if_pos h]
theorem T6 (h : s = 36 ∨ s = 174) : takesN fs s nm = (2, 0, true) := by
  unfold takesN; rw [if_neg (by omega), if_neg (by omega), if_neg (by omega), if_neg (by simp [isBin]; omega), if_neg (by simp [isUn]; omega), if_pos h]
theorem T7 (h : s = 63) : takesN fs s nm = (1, 0, true) := by
  unfold takesN; rw [if_neg (by omega), if_neg (by omega), if_neg (by omega), if_neg (by simp [isBin]; omega), if_neg (by simp [isUn]; omega), if_neg (by omega), if_pos h]
theorem T8 (h : isCtl s = true) : takesN fs s nm = (0, 0, true) := by
  have := h; simp [isCtl] at this
  unfold takesN; rw [if_neg (by omega), if_neg (by omega), if_neg (by omega), if_neg (by simp [isBin]; omega), if_neg (by simp [isUn]; omega), if_neg (by omega), if_neg (by omega), if_pos h]
theorem T9 (h : s = 955) : takesN fs s nm = callT fs nm := by
  unfold takesN; rw [if_neg (by omega), if_neg (by omega), if_neg (by omega), if_neg (by simp [isBin]; omega), if_neg (by simp [isUn]; omega), if_neg (by omega), if_neg (by omega), if_neg (by simp [isCtl]; omega), if_pos h]
theorem T0 (h1 : ¬(s = 48 ∨ 97 ≤ s ∧ s ≤ 122 ∨ s = 35)) (h2 : ¬(65 ≤ s ∧ s ≤ 90 ∨ s = 44)) (h3 : s ≠ 46) (h4 : isBin s = false) (h5 : isUn s = false) (h6 : ¬(s = 36 ∨ s = 174)) (h7 : s ≠ 63) (h8 : isCtl s = false) (h9 : s ≠ 955) : takesN fs s nm = (0, 0, false) := by
  unfold takesN; rw [if_neg h1, if_neg h2, if_neg h3, if_neg (by simp [h4]), if_neg (by simp [h5]), if_neg h6, if_neg h7, if_neg (by simp [h8]), if_neg h9]
end
section
variable {pr : Oracle} {bar : Nat} {h : H}
theorem engramref9_Takes_ok (fs : List Fn) (a : AV) (s n nm p m : Int) (hv : FV h a fs) : call tb pr n_engramref9_Takes [.agg [.int .i64 p, .int .i64 m, a], .agg [.int .i32 s, .int .i64 n, .int .i32 nm]] bar h =
    some (.tup [.int .i64 (takesN fs s nm).1, .int .i64 (takesN fs s nm).2.1, .bool (takesN fs s nm).2.2], h) := by
  refine call_of tb_engramref9_Takes (callF_pureW rfl rfl (M_in ?_))
  have hv2 : ∀ (x y : HObj), FV ((h.alloc x).alloc y) a fs := fun x y => hv.mono ((Ag.alloc _ (Nat.le_refl _)).trans (Ag.alloc _ (by simp [n_alloc]))) (Nat.le_refl _)
  have hf : ∀ (x y : HObj) b, call tb pr n_engramref9_Find [.agg [.int .i64 p, .int .i64 m, a], .int .i32 nm] b ((h.alloc x).alloc y) = some (.int .i64 (findN nm fs 0), (h.alloc x).alloc y) := fun x y b => engramref9_Find_ok fs a nm p m (hv2 x y)
  by_cases h9 : s = 955
  · subst h9
    rw [T9 rfl]
    unfold callT
    have hd1 : isBin 955 = false := by decide
    have hd2 : isUn 955 = false := by decide
    have hd3 : isCtl 955 = false := by decide
    rcases findN_some nm fs 0 with hn | ⟨i, hi, hn⟩
    · simp [f_engramref9_Takes, env0, go_sem, hv.one, get_alloc, n_alloc, get_set, n_set, get_kill, n_kill, writeAt, a11, a21, a31, a41, a51, a61, a71, engramref9_has_ok, hasR_bin, hasR_un, hasR_ctl, hf, hd1, hd2, hd3, hn, endP, endI, resultsA, resultA, freezeL, freezeV, AV.free.freeL, AV.free, packA, dropS]
      cases fs[0]? <;> simp
    · have hn' : findN nm fs 0 = (i : Int) := by rw [hn, Nat.zero_add]
      have hb : (i : Int) < (fs.length : Int) := by omega
      rcases hv.cases with ⟨rfl, rfl⟩ | ⟨full, cs, rfl, hl, hx, hy⟩ | ⟨id', off, full, all, p', rfl, hlt, hg', hx, hy⟩
      · cases hi
      · simp [f_engramref9_Takes, env0, go_sem, get_alloc, n_alloc, get_set, n_set, get_kill, n_kill, writeAt, a11, a21, a31, a41, a51, a61, a71, engramref9_has_ok, hasR_bin, hasR_un, hasR_ctl, hf, hd1, hd2, hd3, hn', hb, hi, indexIn, hl, hx i hi]
        repeat' (first | refine G_bool (fun hc => ?_) (fun hc => ?_) <;> simp [go_sem, endP, endI, resultsA, resultA, freezeL, freezeV, AV.free.freeL, AV.free, packA, dropS, get_alloc, n_alloc, get_set, n_set, get_kill, n_kill, writeAt, a11, a21, a31, a41, a51, a61, a71, hb, hi, indexIn, hl, hx i hi, hc] | refine C_bool (fun hc => ?_) (fun hc => ?_) <;> simp [go_sem, endP, endI, resultsA, resultA, freezeL, freezeV, AV.free.freeL, AV.free, packA, dropS, get_alloc, n_alloc, get_set, n_set, get_kill, n_kill, writeAt, a11, a21, a31, a41, a51, a61, a71, hb, hi, indexIn, hl, hx i hi, hc])
        all_goals (simp only [decide_eq_true_eq, decide_eq_false_iff_not] at *; first | rw [if_pos (by omega)] | rw [if_neg (by omega)])
        all_goals simp
      · have e1 : id' ≠ h.n := by omega
        have e2 : id' ≠ h.n + 1 := by omega
        simp [f_engramref9_Takes, env0, go_sem, get_alloc, n_alloc, get_set, n_set, get_kill, n_kill, writeAt, a11, a21, a31, a41, a51, a61, a71, engramref9_has_ok, hasR_bin, hasR_un, hasR_ctl, hf, hd1, hd2, hd3, hn', hb, hi, indexIn, hx i hi, e1, e2, hg']
        repeat' (first | refine G_bool (fun hc => ?_) (fun hc => ?_) <;> simp [go_sem, endP, endI, resultsA, resultA, freezeL, freezeV, AV.free.freeL, AV.free, packA, dropS, get_alloc, n_alloc, get_set, n_set, get_kill, n_kill, writeAt, a11, a21, a31, a41, a51, a61, a71, hb, hi, indexIn, hx i hi, hc, e1, e2, hg'] | refine C_bool (fun hc => ?_) (fun hc => ?_) <;> simp [go_sem, endP, endI, resultsA, resultA, freezeL, freezeV, AV.free.freeL, AV.free, packA, dropS, get_alloc, n_alloc, get_set, n_set, get_kill, n_kill, writeAt, a11, a21, a31, a41, a51, a61, a71, hb, hi, indexIn, hx i hi, hc, e1, e2, hg'])
        all_goals (simp only [decide_eq_true_eq, decide_eq_false_iff_not] at *; first | rw [if_pos (by omega)] | rw [if_neg (by omega)])
        all_goals simp
  simp [f_engramref9_Takes, env0, go_sem, hv.one, get_alloc, n_alloc, get_set, n_set, get_kill, n_kill, writeAt, a11, a21, a31, a41, a51, a61, a71]
  have h9' : (s == 955) = false := by simpa using h9
  repeat' (first | refine G_bool (fun hb => ?_) (fun hb => ?_) <;> simp [go_sem, endP, endI, resultsA, resultA, freezeL, freezeV, AV.free.freeL, AV.free, packA, dropS, get_alloc, n_alloc, get_set, n_set, get_kill, n_kill, writeAt, a11, a21, a31, a41, a51, a61, a71, engramref9_has_ok, hasR_bin, hasR_un, hasR_ctl, *] | refine C_bool (fun hb => ?_) (fun hb => ?_) <;> simp [go_sem, endP, endI, resultsA, resultA, freezeL, freezeV, AV.free.freeL, AV.free, packA, dropS, get_alloc, n_alloc, get_set, n_set, get_kill, n_kill, writeAt, a11, a21, a31, a41, a51, a61, a71, engramref9_has_ok, hasR_bin, hasR_un, hasR_ctl, *])
  all_goals try clear hf hv2
  all_goals first
    | (rw [T4 hb]; exact ⟨rfl, rfl, rfl⟩)
    | (rw [T5 hb]; exact ⟨rfl, rfl, rfl⟩)
    | (rw [T8 hb]; exact ⟨rfl, rfl, rfl⟩)
    | (simp at hb; first | (rw [T1 (by omega)]; exact ⟨rfl, rfl, rfl⟩) | (rw [T2 (by omega)]; exact ⟨rfl, rfl, rfl⟩) | (rw [T3 hb]; exact ⟨rfl, rfl, rfl⟩) | (rw [T6 (by omega)]; exact ⟨rfl, rfl, rfl⟩) | (rw [T7 hb]; exact ⟨rfl, rfl, rfl⟩))
    | (simp at *; first | (rw [T1 (by omega)]; exact ⟨rfl, rfl, rfl⟩) | (rw [T2 (by omega)]; exact ⟨rfl, rfl, rfl⟩))
    | (rw [T0 (by simp at *; omega) (by simp at *; omega) (by simp at *; omega) (by assumption) (by assumption) (by simp at *; omega) (by simp at *; omega) (by assumption) (by simp at *; omega)]; exact ⟨rfl, rfl, rfl⟩)
theorem check_Takes_1_ok (x : ByteArray) (s : Int) (id q : Nat) (hi : h.get id = some (.cells [.int .i32 s] q)) : call tb pr n_check_Takes_1 [.str x, .ptr id 0] bar h = some (.bool (hasR x s), h) := by
  refine call_of tb_check_Takes_1 ?_
  obtain ⟨r, h', hc, hr, rfl⟩ := callF_W (o := call tb pr) (F := f_check_Takes_1) (bar := bar) (h := h) (args := [.str x, .ptr id 0]) (K := fun r h' => r = .bool (hasR x s) ∧ h' = h) rfl rfl (M_in (by
    simp [f_check_Takes_1, env0, go_sem, endP, endI, resultsA, resultA, freezeL, freezeV, AV.free.freeL, AV.free, packA, dropS, hi, check_hasRune_ok]))
  rw [hc, hr]
theorem check_Takes_ok (fs : List Fn) (a : AV) (s n nm p m : Int) (hv : FV h a fs) : call tb pr n_check_Takes [.agg [.int .i64 p, .int .i64 m, a], .agg [.int .i32 s, .int .i64 n, .int .i32 nm]] bar h =
    some (.tup [.int .i64 (takesN fs s nm).1, .int .i64 (takesN fs s nm).2.1, .bool (takesN fs s nm).2.2], h) := by
  refine call_of tb_check_Takes (callF_pureW rfl rfl (M_in ?_))
  have hA : ∀ (x y z w : HObj), Ag h.n h ((((h.alloc x).alloc y).alloc z).set (h.n + 2) w) := fun x y z w => (((Ag.alloc _ (Nat.le_refl _)).trans (Ag.alloc _ (by simp [n_alloc]))).trans (Ag.alloc _ (by simp [n_alloc]; omega))).trans (Ag.set _ _ (by omega))
  have hf : ∀ (x y z w : HObj) b, call tb pr n_check_Find [.agg [.int .i64 p, .int .i64 m, a], .int .i32 nm] b ((((h.alloc x).alloc y).alloc z).set (h.n + 2) w) = some (.int .i64 (findN nm fs 0), (((h.alloc x).alloc y).alloc z).set (h.n + 2) w) := fun x y z w b => check_Find_ok fs a nm p m (hv.mono (hA x y z w) (Nat.le_refl _))
  have ht : ∀ (x : ByteArray) b (y z w : HObj), call tb pr n_check_Takes_1 [.str x, .ptr (h.n + 2) 0] b ((((h.alloc y).alloc z).alloc w).set (h.n + 2) (.cells [.int .i32 s] 0)) = some (.bool (hasR x s), (((h.alloc y).alloc z).alloc w).set (h.n + 2) (.cells [.int .i32 s] 0)) := fun x b y z w => check_Takes_1_ok x s _ 0 (by simp [get_set])
  by_cases h9 : s = 955
  · subst h9
    rw [T9 rfl]
    unfold callT
    rcases findN_some nm fs 0 with hn | ⟨i, hi, hn⟩
    · simp [f_check_Takes, env0, go_sem, hv.one, get_alloc, n_alloc, get_set, n_set, get_kill, n_kill, writeAt, a11, a21, a31, a41, a51, a61, a71, splice, hf, hn, endP, endI, resultsA, resultA, freezeL, freezeV, AV.free.freeL, AV.free, packA, dropS]
      cases fs[0]? <;> simp
    · have hn' : findN nm fs 0 = (i : Int) := by rw [hn, Nat.zero_add]
      have hb : (i : Int) < (fs.length : Int) := by omega
      have hlt0 : ¬ ((i : Int) < 0) := by omega
      rcases hv.cases with ⟨rfl, rfl⟩ | ⟨full, cs, rfl, hl, hx, hy⟩ | ⟨id', off, full, all, p', rfl, hlt, hg', hx, hy⟩
      · cases hi
      · simp [f_check_Takes, env0, go_sem, get_alloc, n_alloc, get_set, n_set, get_kill, n_kill, writeAt, a11, a21, a31, a41, a51, a61, a71, splice, hf, hn', hb, hi, indexIn, hl, hx i hi, hlt0]
        repeat' (first | refine G_bool (fun hc => ?_) (fun hc => ?_) <;> simp [go_sem, endP, endI, resultsA, resultA, freezeL, freezeV, AV.free.freeL, AV.free, packA, dropS, get_alloc, n_alloc, get_set, n_set, get_kill, n_kill, writeAt, a11, a21, a31, a41, a51, a61, a71, hb, hi, indexIn, hl, hx i hi, hc] | refine C_bool (fun hc => ?_) (fun hc => ?_) <;> simp [go_sem, endP, endI, resultsA, resultA, freezeL, freezeV, AV.free.freeL, AV.free, packA, dropS, get_alloc, n_alloc, get_set, n_set, get_kill, n_kill, writeAt, a11, a21, a31, a41, a51, a61, a71, hb, hi, indexIn, hl, hx i hi, hc])
        all_goals (simp only [decide_eq_true_eq, decide_eq_false_iff_not] at *; first | rw [if_pos (by omega)] | rw [if_neg (by omega)])
        all_goals simp
      · have e1 : id' ≠ h.n := by omega
        have e2 : id' ≠ h.n + 1 := by omega
        have e3 : id' ≠ h.n + 2 := by omega
        simp [f_check_Takes, env0, go_sem, get_alloc, n_alloc, get_set, n_set, get_kill, n_kill, writeAt, a11, a21, a31, a41, a51, a61, a71, splice, hf, hn', hb, hi, indexIn, hx i hi, hlt0, e1, e2, e3, hg']
        repeat' (first | refine G_bool (fun hc => ?_) (fun hc => ?_) <;> simp [go_sem, endP, endI, resultsA, resultA, freezeL, freezeV, AV.free.freeL, AV.free, packA, dropS, get_alloc, n_alloc, get_set, n_set, get_kill, n_kill, writeAt, a11, a21, a31, a41, a51, a61, a71, hb, hi, indexIn, hx i hi, hc, e1, e2, e3, hg'] | refine C_bool (fun hc => ?_) (fun hc => ?_) <;> simp [go_sem, endP, endI, resultsA, resultA, freezeL, freezeV, AV.free.freeL, AV.free, packA, dropS, get_alloc, n_alloc, get_set, n_set, get_kill, n_kill, writeAt, a11, a21, a31, a41, a51, a61, a71, hb, hi, indexIn, hx i hi, hc, e1, e2, e3, hg'])
        all_goals (simp only [decide_eq_true_eq, decide_eq_false_iff_not] at *; first | rw [if_pos (by omega)] | rw [if_neg (by omega)])
        all_goals simp
  have h9' : (s == 955) = false := by simpa using h9
  have hst : isSt s = decide (s = 36 ∨ s = 174) := rfl
  simp [f_check_Takes, env0, go_sem, hv.one, get_alloc, n_alloc, get_set, n_set, get_kill, n_kill, writeAt, a11, a21, a31, a41, a51, a61, a71, splice, h9']
  repeat' (first | refine G_bool (fun hb => ?_) (fun hb => ?_) <;> simp [go_sem, endP, endI, resultsA, resultA, freezeL, freezeV, AV.free.freeL, AV.free, packA, dropS, get_alloc, n_alloc, get_set, n_set, get_kill, n_kill, writeAt, a11, a21, a31, a41, a51, a61, a71, hasR_bin, hasR_un, hasR_st, hasR_ctl, *] | refine C_bool (fun hb => ?_) (fun hb => ?_) <;> simp [go_sem, endP, endI, resultsA, resultA, freezeL, freezeV, AV.free.freeL, AV.free, packA, dropS, get_alloc, n_alloc, get_set, n_set, get_kill, n_kill, writeAt, a11, a21, a31, a41, a51, a61, a71, hasR_bin, hasR_un, hasR_st, hasR_ctl, *])
  all_goals try clear hf hA ht
  all_goals first
    | (rw [T4 hb]; exact ⟨rfl, rfl, rfl⟩)
    | (rw [T5 hb]; exact ⟨rfl, rfl, rfl⟩)
    | (rw [T8 hb]; exact ⟨rfl, rfl, rfl⟩)
    | (simp at hb; first | (rw [T1 (by omega)]; exact ⟨rfl, rfl, rfl⟩) | (rw [T2 (by omega)]; exact ⟨rfl, rfl, rfl⟩) | (rw [T3 hb]; exact ⟨rfl, rfl, rfl⟩) | (rw [T6 (by omega)]; exact ⟨rfl, rfl, rfl⟩) | (rw [T7 hb]; exact ⟨rfl, rfl, rfl⟩))
    | (simp at *; first | (rw [T1 (by omega)]; exact ⟨rfl, rfl, rfl⟩) | (rw [T2 (by omega)]; exact ⟨rfl, rfl, rfl⟩))
    | (rw [T0 (by simp at *; omega) (by simp at *; omega) (by simp at *; omega) (by assumption) (by assumption) (by simp at *; omega) (by simp at *; omega) (by assumption) (by simp at *; omega)]; exact ⟨rfl, rfl, rfl⟩)
end
end Go.Ev
namespace Go.Ev
open Go
def r32 (r : Int) : List AV := [.int .i32 r]
def runesFI (s : ByteArray) (n pos : Nat) : List Int := (runesF s n pos).map fun x => (x.2 : Int)
def runesI (s : ByteArray) : List Int := (runes s).map fun x => (x.2 : Int)
theorem runesF_le (s : ByteArray) : ∀ n pos, (runesF s n pos).length ≤ n
  | 0, _ => by simp [runesF]
  | n + 1, pos => by
    simp only [runesF]
    split
    · have := runesF_le s n (pos + (Utf8.decode s pos).2)
      simp only [List.length_cons]; omega
    · simp
section
variable {pr : Oracle} {bar : Nat} {h : H}
theorem runes_loop (s : ByteArray) (hs : s.size ≤ 512) (id : Nat) (hid : bar ≤ id) (Q : Ex → Env → H → Prop) : ∀ (n pos : Nat) (g : H) (a : AV) (out : List Int), g.get id = some (.iter s pos) → s.size ≤ pos + n → id < g.n → bar ≤ g.n →
    OS 1 g bar a out.length (out.flatMap r32) → ¬ a.isAt id → out.length ≤ pos →
    (∀ e g' a', e.get 3 = some a' → OS 1 g' bar a' (out ++ runesFI s n pos).length ((out ++ runesFI s n pos).flatMap r32) → Q (.exit 0) e g') →
    wpL (call tb pr) bar [3, 7] l0_engramref9_runes [(3, a), (7, .ptr id 0)] g Q := by
  intro n
  induction n with
  | zero =>
    intro pos g a out hg hn hlt hb ho hat hle h1
    have : ¬ pos < s.size := by omega
    refine M_loop l0_engramref9_runes.eq_1 ?_
    simp [go_sem, hg, hid, this]
    exact h1 _ _ _ rfl (by simpa [runesFI, runesF] using ho)
  | succ n ih =>
    intro pos g a out hg hn hlt hb ho hat hle h1
    refine M_loop l0_engramref9_runes.eq_1 ?_
    by_cases this : pos < s.size
    · have hd := decode_pos s pos
      have ho' : OS 1 (g.set id (.iter s (pos + (Utf8.decode s pos).2))) bar a out.length (out.flatMap r32) := ho.set _ hat
      obtain ⟨a', g', e1, e2, e3, e4, e5⟩ := ho'.app (by simpa [n_set] using hb) 4 (r32 (Utf8.decode s pos).1) rfl rfl (by omega) (by omega) (by omega)
      simp only [r32, n_set] at e1 e3 e4 e5
      simp [go_sem, get_alloc, n_alloc, get_set, n_set, get_kill, n_kill, writeAt, a11, a21, a31, a41, a51, a61, a71, hg, hid, this, evParts, fillA, splice, e1]
      refine ih (pos + (Utf8.decode s pos).2) g' a' (out ++ [((Utf8.decode s pos).1 : Int)]) ?_ (by omega) (by omega) (by omega) (by simpa using e2) (fun hj => by have := e5 _ hj; omega) (by simp; omega) (fun e g2 a2 h2 h3 => h1 e g2 a2 h2 ?_)
      · rw [e4 id hlt hat, get_set, if_pos rfl]
      · simpa [runesFI, runesF, this] using h3
    · simp [go_sem, hg, hid, this]
      exact h1 _ _ _ rfl (by simpa [runesFI, runesF, this] using ho)
theorem still_r32 (l : List Int) : (l.flatMap r32).all AV.still = true := by
  rw [List.all_eq_true]; intro x hx; rw [List.mem_flatMap] at hx; obtain ⟨r, _, hx⟩ := hx; simp [r32] at hx; subst hx; rfl
theorem engramref9_runes_ok (s : ByteArray) (hs : s.size ≤ 512) : ∃ a, call tb pr n_engramref9_runes [.str s] bar h = some (a, h) ∧ FzV 1 a (runesI s).length ((runesI s).flatMap r32) := by
  suffices hw : ∃ a, callF (call tb pr) f_engramref9_runes [.str s] bar h = some (a, h) ∧ FzV 1 a (runesI s).length ((runesI s).flatMap r32) by
    obtain ⟨a, h1, h2⟩ := hw; exact ⟨a, call_of tb_engramref9_runes h1, h2⟩
  refine callF_pureX rfl rfl (M_in ?_)
  simp [f_engramref9_runes, env0, go_sem]
  refine runes_loop s hs h.n (Nat.le_refl _) _ s.size 0 _ .nilsl [] (by simp [get_alloc]) (by omega) (by simp [n_alloc]) (by simp [n_alloc]) OS.nil (by simp [AV.isAt]) (by simp) (fun e g' a' h1 h2 => ?_)
  obtain ⟨a2, h3, h4, h5⟩ := h2.freeze (still_r32 _) (by have := runesF_le s s.size 0; simp [runesFI]; omega) 2
  simp only [List.nil_append] at h4 h5
  simp [go_sem, endX, resultsA, resultA, freezeL, AV.free.freeL, packA, h1, h4]
  exact ⟨h5.free, h5⟩
end
end Go.Ev
namespace Go.Ev
open Go
def isD (x : Int) : Bool := decide (48 ≤ x ∧ x ≤ 57)
inductive Md where
  | plain
  | num (n : Int)
  | name (s : Int)
def tokF : List Int → Md → Option (List Tok)
  | [], .plain => some []
  | [], .num n => some [⟨48, n, 0⟩]
  | [], .name _ => none
  | x :: r, m =>
    let pl := if x = 32 then tokF r .plain else if isD x = true then tokF r (.num (x - 48)) else if x = 955 ∨ x = 960 then tokF r (.name x) else
      if knownR x = true then (tokF r .plain).map (⟨x, 0, 0⟩ :: ·) else none
    match m with
    | .plain => pl
    | .num n => if isD x = true then (if 9223372036854775807 < n * 10 + (x - 48) then none else tokF r (.num (n * 10 + (x - 48)))) else pl.map (⟨48, n, 0⟩ :: ·)
    | .name s => if nameR x = true then (tokF r .plain).map (⟨s, 0, x⟩ :: ·) else none
theorem tokF_num_end {l : List Int} {n : Int} (h : ∀ x r, l = x :: r → isD x = false) : tokF l (.num n) = (tokF l .plain).map (⟨48, n, 0⟩ :: ·) := by
  cases l with
  | nil => rfl
  | cons x r =>
    have := h x r rfl
    simp only [tokF, this, Bool.false_eq_true, if_false]
theorem tokF_num_ge {l : List Int} : ∀ {n : Int} {ts : List Tok}, tokF l (.num n) = some ts → True := fun _ => trivial
/-- What is behind in the text is behind in the tokens. -/
theorem map_app {o : Option (List Tok)} {out : List Tok} {t : Tok} : (o.map (t :: ·)).map (out ++ ·) = o.map ((out ++ [t]) ++ ·) := by
  cases o <;> simp
end Go.Ev
namespace Go.Ev
open Go
theorem fz1_cases {a : AV} {l : List Int} (v : FzV 1 a l.length (l.flatMap r32)) : (a = .nilsl ∧ l = []) ∨
    ∃ full cs, a = .fz 1 l.length cs full ∧ (cs.length = l.length) = True ∧ ∀ i (hi : i < l.length), cs[i]? = some (.int .i32 l[i]) := by
  obtain ⟨h1, h2, ⟨h3, h4⟩ | ⟨full, h3⟩⟩ := v
  · exact .inl ⟨h3, List.length_eq_zero_iff.mp h4⟩
  · refine .inr ⟨full, _, h3, by simp only [h1, Nat.mul_one], fun i hi => ?_⟩
    have := flat_get0 (c := r32) (k := 1) (fun _ => rfl) l i l[i] (by omega) (List.getElem?_eq_getElem hi)
    simpa [r32] using this
section
variable {pr : Oracle} {bar : Nat} {h : H}
theorem ref_digits (l : List Int) (la oa : AV) (hla : FzV 1 la l.length (l.flatMap r32)) (hlen : l.length ≤ 512) (g : H) (Q : Ex → Env → H → Prop) : ∀ (k i : Nat) (n : Int), l.length = i + k → 0 ≤ n → n ≤ 9223372036854775807 →
    (∀ e, e.get 2 = some .nilsl → e.get 3 = some (.int .i64 12) → tokF (l.drop i) (.num n) = none → Q .ret e g) →
    (∀ e i' n', e.get 4 = some la → e.get 5 = some oa → e.get 6 = some (.int .i64 (i' : Nat)) → e.get 8 = some (.int .u64 n') → i ≤ i' → i' ≤ l.length → (∀ x r, l.drop i' = x :: r → isD x = false) → 0 ≤ n' → n' ≤ 9223372036854775807 →
      (i = i' ∨ 0 < i') → tokF (l.drop i) (.num n) = tokF (l.drop i') (.num n') → Q (.exit 3) e g) →
    wpL (call tb pr) bar [4, 5, 6, 8] l0_engramref9_Tokens [(4, la), (5, oa), (6, goI i), (8, .int .u64 n)] g Q := by
  intro k
  induction k with
  | zero =>
    intro i n hk h0 h0' h1 h2
    refine M_loop l0_engramref9_Tokens.eq_1 ?_
    have hi : (l.length : Int) = (i : Int) := by omega
    rcases fz1_cases hla with ⟨rfl, rfl⟩ | ⟨full, cs, rfl, hl, hx⟩
    · simp at hk
      subst hk
      simp [go_sem]
      exact h2 _ 0 n rfl rfl rfl rfl (by omega) (by omega) (by simp) h0 h0' (.inl rfl) rfl
    · simp [go_sem, hi]
      exact h2 _ i n rfl rfl rfl rfl (by omega) (by omega) (by rw [List.drop_eq_nil_of_le (by omega)]; simp) h0 h0' (.inl rfl) rfl
  | succ k ih =>
    intro i n hk h0 h0' h1 h2
    refine M_loop l0_engramref9_Tokens.eq_1 ?_
    have hi : i < l.length := by omega
    have hb : (i : Int) < (l.length : Int) := by omega
    have hd : l.drop i = l[i] :: l.drop (i + 1) := List.drop_eq_getElem_cons hi
    have hw := w64_succ (n := i) (by omega)
    rcases fz1_cases hla with ⟨rfl, rfl⟩ | ⟨full, cs, rfl, hl, hx⟩
    · cases hi
    · have hxi := hx i hi
      by_cases a1 : 48 ≤ l[i]
      · by_cases a2 : l[i] ≤ 57
        · have hD : isD l[i] = true := by simp [isD, a1, a2]
          obtain ⟨d, hd0⟩ : ∃ d, l[i] = d + 48 := ⟨l[i] - 48, by omega⟩
          have w1 : IntKind.i32.wrap (d + 48 - 48) = d := by rw [Int.add_sub_cancel, w32 (by omega) (by omega)]
          have w1' : IntKind.i32.wrap d = d := w32 (by omega) (by omega)
          have w2 : IntKind.u64.wrap d = d := wu64 (by omega) (by omega)
          have w3 : IntKind.u64.wrap (9223372036854775807 - d) = 9223372036854775807 - d := wu64 (by omega) (by omega)
          have w4 : IntKind.u64.wrap ((9223372036854775807 - d).tdiv 10) = (9223372036854775807 - d) / 10 := by
            rw [Int.tdiv_eq_ediv_of_nonneg (by omega)]; exact wu64 (by omega) (by omega)
          by_cases ho : (9223372036854775807 - d) / 10 < n
          · simp [-getElem?_pos, go_sem, hb, hi, indexIn, hl, hxi, a1, a2]
            simp [-getElem?_pos, go_sem, hb, hi, indexIn, hl, hxi, hd0, w1', w2, w3, w4, ho]
            exact h1 _ rfl rfl (by rw [hd]; simp only [tokF, hD, if_true]; rw [if_pos (by omega)])
          · have w5 : IntKind.u64.wrap (n * 10) = n * 10 := wu64 (by omega) (by omega)
            have w6 : IntKind.u64.wrap (n * 10 + d) = n * 10 + d := wu64 (by omega) (by omega)
            have e : tokF (l.drop i) (.num n) = tokF (l.drop (i + 1)) (.num (n * 10 + d)) := by
              rw [hd]; simp only [tokF, hD, if_true]; rw [if_neg (by omega), hd0, Int.add_sub_cancel]
            simp [-getElem?_pos, go_sem, hb, hi, indexIn, hl, hxi, a1, a2]
            simp [-getElem?_pos, go_sem, hb, hi, indexIn, hl, hxi, hd0, w1', w2, w3, w4, w5, w6, ho, hw]
            exact ih (i + 1) _ (by omega) (by omega) (by omega) (fun e1 q1 q2 q3 => h1 e1 q1 q2 (e.trans q3)) (fun e1 i' n' q1 q2 q3 q4 q5 q6 q7 q8 q9 q10 q11 => h2 e1 i' n' q1 q2 q3 q4 (by omega) q6 q7 q8 q9 (by omega) (e.trans q11))
        · simp [-getElem?_pos, go_sem, hb, hi, indexIn, hl, hxi, a1, a2]
          exact h2 _ i n rfl rfl rfl rfl (by omega) (by omega) (by rw [hd]; intro x r e; injection e with e1 e2; subst e1; simp [isD, a1, a2]) h0 h0' (.inl rfl) rfl
      · simp [-getElem?_pos, go_sem, hb, hi, indexIn, hl, hxi, a1]
        exact h2 _ i n rfl rfl rfl rfl (by omega) (by omega) (by rw [hd]; intro x r e; injection e with e1 e2; subst e1; simp [isD, a1]) h0 h0' (.inl rfl) rfl
theorem still_tok (l : List Tok) : (l.flatMap Tok.cells).all AV.still = true := by
  rw [List.all_eq_true]; intro x hx; rw [List.mem_flatMap] at hx; obtain ⟨r, _, hx⟩ := hx; simp [Tok.cells] at hx; rcases hx with rfl | rfl | rfl <;> rfl
theorem ref_tokens_loop (l : List Int) (la : AV) (hla : FzV 1 la l.length (l.flatMap r32)) (hlen : l.length ≤ 512) (Q : Ex → Env → H → Prop) : ∀ (k i : Nat) (g : H) (oa : AV) (out : List Tok), l.length ≤ i + k → i ≤ l.length → bar ≤ g.n →
    OS 3 g bar oa out.length (out.flatMap Tok.cells) → out.length ≤ i →
    tokF l .plain = (tokF (l.drop i) .plain).map (out ++ ·) →
    (∀ e g', e.get 2 = some .nilsl → e.get 3 = some (.int .i64 12) → tokF l .plain = none → Q .ret e g') →
    (∀ e g' a' ts, e.get 5 = some a' → tokF l .plain = some ts → ts.length ≤ 512 → OS 3 g' bar a' ts.length (ts.flatMap Tok.cells) → Q (.exit 0) e g') →
    wpL (call tb pr) bar [4, 5, 6] l1_engramref9_Tokens [(4, la), (5, oa), (6, goI i)] g Q := by
  intro k
  induction k with
  | zero =>
    intro i g oa out hk hi' hbn ho hle ht h1 h2
    refine M_loop l1_engramref9_Tokens.eq_1 ?_
    have hi : i = l.length := by omega
    subst hi
    rw [List.drop_eq_nil_of_le (Nat.le_refl _)] at ht
    simp only [tokF, Option.map_some, List.append_nil] at ht
    have hlen2 : ∀ g, lenR (some la) g = some (goI l.length, g) := (hla.vw g).len
    simp [go_sem, hlen2]
    exact h2 _ _ _ _ rfl ht (by omega) ho
  | succ k ih =>
    intro i g oa out hk hi' hbn ho hle ht h1 h2
    refine M_loop l1_engramref9_Tokens.eq_1 ?_
    have hlen2 : ∀ g, lenR (some la) g = some (goI l.length, g) := (hla.vw g).len
    by_cases hi : i < l.length
    · have hb : (i : Int) < (l.length : Int) := by omega
      have hd : l.drop i = l[i] :: l.drop (i + 1) := List.drop_eq_getElem_cons hi
      have hw := w64_succ (n := i) (by omega)
      have hw2 := w64_succ (n := i + 1) (by omega)
      rcases fz1_cases hla with ⟨rfl, rfl⟩ | ⟨full, cs, rfl, hl, hx⟩
      · cases hi
      · have hxi := hx i hi
        by_cases c1 : l[i] = 32
        · simp [-getElem?_pos, go_sem, hb, hi, indexIn, hl, hxi, c1, hw]
          refine ih (i + 1) g oa out (by omega) (by omega) hbn ho (by omega) ?_ h1 h2
          rw [ht, hd]; simp only [tokF, c1, if_true]
        · have c1' : (l[i] == 32) = false := by simpa using c1
          by_cases c2 : 48 ≤ l[i] ∧ l[i] ≤ 57
          · have hD : isD l[i] = true := by simp [isD, c2]
            simp [-getElem?_pos, go_sem, hb, hi, indexIn, hl, hxi, c1', c2]
            refine ref_digits l _ oa hla hlen g _ (l.length - i) i 0 (by omega) (by omega) (by omega) (fun e q1 q2 q3 => ?_) (fun e i' n' q1 q2 q3 q4 q5 q6 q7 q8 q9 q10 q11 => ?_)
            · simp [go_sem]
              refine h1 e g q1 q2 ?_
              rw [ht, hd]
              rw [hd] at q3
              simp only [tokF, hD, if_true] at q3 ⊢
              rw [if_neg c1]
              rw [if_neg (by omega)] at q3
              simp only [Int.zero_mul, Int.zero_add] at q3
              rw [q3]; rfl
            · have hne : i ≠ i' := by
                intro e; subst e
                have := q7 _ _ hd
                rw [hD] at this; cases this
              have w1 : IntKind.i64.wrap ((i' : Int) - 1) = ((i' - 1 : Nat) : Int) := by rw [w64 (by omega) (by omega)]; omega
              have w2 : IntKind.i64.wrap (((i' - 1 : Nat) : Int) + 1) = (i' : Int) := by rw [w64 (by omega) (by omega)]; omega
              have w3 : IntKind.i64.wrap n' = n' := w64 (by omega) (by omega)
              obtain ⟨a', g', e1, e2, e3, e4, e5⟩ := ho.app hbn 24 (Tok.cells ⟨48, n', 0⟩) rfl rfl (by omega) (by omega) (by omega)
              simp only [Tok.cells] at e1
              simp [go_sem, q1, q2, q3, q4, evParts, fillA, splice, w1, w2, w3, e1]
              refine ih i' g' a' (out ++ [⟨48, n', 0⟩]) (by omega) q6 (by omega) (by simpa [Tok.cells] using e2) (by simp; omega) ?_ h1 h2
              have := tokF_num_end (l := l.drop i') (n := n') q7
              rw [ht, ← map_app, ← this, ← q11, hd]
              simp only [tokF, hD, if_true]
              rw [if_neg c1, if_neg (by omega)]
              simp
          · have hD : isD l[i] = false := by simp [isD]; omega
            by_cases c3 : l[i] = 955 ∨ l[i] = 960
            · have c3' : (l[i] == 955 || l[i] == 960) = true := by simpa using c3
              have c3a : ((l[i] == 955) = true ∧ l[i] = 955) ∨ ((l[i] == 955) = false ∧ (l[i] == 960) = true) := by rcases c3 with c | c <;> simp [c]
              have hc2 : ¬ (48 ≤ l[i] ∧ l[i] ≤ 57) := c2
              have c2' : (48 ≤ l[i]) = True := by rcases c3 with c | c <;> simp [c]
              have c2'' : (l[i] ≤ 57) = False := by rcases c3 with c | c <;> simp [c]
              have hpl : tokF (l.drop i) .plain = tokF (l.drop (i + 1)) (.name l[i]) := by
                rw [hd]; simp only [tokF, hD, Bool.false_eq_true, if_false]; rw [if_neg c1, if_pos c3]
              by_cases c4 : i + 1 < l.length
              · have hb2 : (l.length : Int) ≤ (i : Int) + 1 ↔ False := by simp; omega
                have hb3 : ((i : Int) + 1 < (l.length : Int)) = True := by simp; omega
                have hb4 : (0 ≤ (i : Int) + 1) = True := by simp; omega
                have hxj := hx (i + 1) c4
                have hd2 : l.drop (i + 1) = l[i + 1] :: l.drop (i + 2) := List.drop_eq_getElem_cons c4
                obtain ⟨a', g', e1, e2, e3, e4, e5⟩ := ho.app hbn 24 (Tok.cells ⟨l[i], 0, l[i + 1]⟩) rfl rfl (by omega) (by omega) (by omega)
                simp only [Tok.cells] at e1
                by_cases c5 : nameR l[i + 1] = true
                · have hgo : tokF l .plain = (tokF (l.drop (i + 2)) .plain).map ((out ++ [⟨l[i], 0, l[i + 1]⟩]) ++ ·) := by
                    rw [ht, hpl, hd2]; simp only [tokF, c5, if_true]; rw [map_app]
                  have hwa : IntKind.i64.wrap ((i : Int) + 1) = (i : Int) + 1 := w64 (by omega) (by omega)
                  have hwb : IntKind.i64.wrap ((i : Int) + 1 + 1) = ((i + 2 : Nat) : Int) := by rw [w64 (by omega) (by omega)]; omega
                  rcases c3a with ⟨c, _⟩ | ⟨c, c'⟩
                  · simp [-getElem?_pos, go_sem, hb, hi, indexIn, hl, hxi, c1', c2', c2'', c, hb2, hb3, hb4, hwa, hwb, engramref9_Name_ok, hxj, c5, evParts, fillA, splice, e1]
                    exact ih (i + 2) g' a' (out ++ [⟨l[i], 0, l[i + 1]⟩]) (by omega) (by omega) (by omega) (by simpa [Tok.cells] using e2) (by simp; omega) hgo h1 h2
                  · simp [-getElem?_pos, go_sem, hb, hi, indexIn, hl, hxi, c1', c2', c2'', c, c', hb2, hb3, hb4, hwa, hwb, engramref9_Name_ok, hxj, c5, evParts, fillA, splice, e1]
                    exact ih (i + 2) g' a' (out ++ [⟨l[i], 0, l[i + 1]⟩]) (by omega) (by omega) (by omega) (by simpa [Tok.cells] using e2) (by simp; omega) hgo h1 h2
                · have hgo : tokF l .plain = none := by
                    rw [ht, hpl, hd2]; simp only [tokF, c5, Bool.false_eq_true, if_false, Option.map_none]
                  have hwa : IntKind.i64.wrap ((i : Int) + 1) = (i : Int) + 1 := w64 (by omega) (by omega)
                  rcases c3a with ⟨c, _⟩ | ⟨c, c'⟩
                  · simp [-getElem?_pos, go_sem, hb, hi, indexIn, hl, hxi, c1', c2', c2'', c, hb2, hb3, hb4, hwa, engramref9_Name_ok, hxj, c5]
                    exact h1 _ _ rfl rfl hgo
                  · simp [-getElem?_pos, go_sem, hb, hi, indexIn, hl, hxi, c1', c2', c2'', c, c', hb2, hb3, hb4, hwa, engramref9_Name_ok, hxj, c5]
                    exact h1 _ _ rfl rfl hgo
              · have hb2 : ((l.length : Int) ≤ (i : Int) + 1) = True := by simp; omega
                have hwa : IntKind.i64.wrap ((i : Int) + 1) = (i : Int) + 1 := w64 (by omega) (by omega)
                have hgo : tokF l .plain = none := by
                  rw [ht, hpl, List.drop_eq_nil_of_le (by omega)]; rfl
                rcases c3a with ⟨c, _⟩ | ⟨c, c'⟩
                · simp [-getElem?_pos, go_sem, hb, hi, indexIn, hl, hxi, c1', c2', c2'', c, hb2, hwa]
                  exact h1 _ _ rfl rfl hgo
                · simp [-getElem?_pos, go_sem, hb, hi, indexIn, hl, hxi, c1', c2', c2'', c, c', hb2, hwa]
                  exact h1 _ _ rfl rfl hgo
            · have d1 : (l[i] == 955) = false := by simp; omega
              have d2 : (l[i] == 960) = false := by simp; omega
              obtain ⟨a', g', e1, e2, e3, e4, e5⟩ := ho.app hbn 24 (Tok.cells ⟨l[i], 0, 0⟩) rfl rfl (by omega) (by omega) (by omega)
              simp only [Tok.cells] at e1
              by_cases c5 : knownR l[i] = true
              · have hgo : tokF l .plain = (tokF (l.drop (i + 1)) .plain).map ((out ++ [⟨l[i], 0, 0⟩]) ++ ·) := by
                  rw [ht, hd]; simp only [tokF, hD, Bool.false_eq_true, if_false, c5, if_true]; rw [if_neg c1, if_neg c3, map_app]
                by_cases f1 : 48 ≤ l[i]
                · have f2 : ¬ l[i] ≤ 57 := by omega
                  simp [-getElem?_pos, go_sem, hb, hi, indexIn, hl, hxi, c1', f1, f2, d1, d2, hw, engramref9_Known_ok, c5, evParts, fillA, splice, e1]
                  exact ih (i + 1) g' a' (out ++ [⟨l[i], 0, 0⟩]) (by omega) (by omega) (by omega) (by simpa [Tok.cells] using e2) (by simp; omega) hgo h1 h2
                · simp [-getElem?_pos, go_sem, hb, hi, indexIn, hl, hxi, c1', f1, d1, d2, hw, engramref9_Known_ok, c5, evParts, fillA, splice, e1]
                  exact ih (i + 1) g' a' (out ++ [⟨l[i], 0, 0⟩]) (by omega) (by omega) (by omega) (by simpa [Tok.cells] using e2) (by simp; omega) hgo h1 h2
              · have hgo : tokF l .plain = none := by
                  rw [ht, hd]; simp only [tokF, hD, Bool.false_eq_true, if_false, c5]; rw [if_neg c1, if_neg c3]; rfl
                by_cases f1 : 48 ≤ l[i]
                · have f2 : ¬ l[i] ≤ 57 := by omega
                  simp [-getElem?_pos, go_sem, hb, hi, indexIn, hl, hxi, c1', f1, f2, d1, d2, hw, engramref9_Known_ok, c5]
                  exact h1 _ _ rfl rfl hgo
                · simp [-getElem?_pos, go_sem, hb, hi, indexIn, hl, hxi, c1', f1, d1, d2, hw, engramref9_Known_ok, c5]
                  exact h1 _ _ rfl rfl hgo
    · have hi2 : i = l.length := by omega
      subst hi2
      rw [List.drop_eq_nil_of_le (Nat.le_refl _)] at ht
      simp only [tokF, Option.map_some, List.append_nil] at ht
      simp [go_sem, hlen2]
      exact h2 _ _ _ _ rfl ht (by omega) ho
/-- What a code's tokens are, and the refusal's number. -/
def toksN (s : ByteArray) : List Tok × Int := if 512 < s.size then ([], 3) else match tokF (runesI s) .plain with | some ts => (ts, 0) | none => ([], 12)
theorem engramref9_Tokens_ok (s : ByteArray) : ∃ a, call tb pr n_engramref9_Tokens [.str s] bar h = some (.tup [a, .int .i64 (toksN s).2], h) ∧ FzV 3 a (toksN s).1.length ((toksN s).1.flatMap Tok.cells) ∧ (toksN s).1.length ≤ 512 := by
  suffices hw : ∃ r, callF (call tb pr) f_engramref9_Tokens [.str s] bar h = some (r, h) ∧ ∃ a, r = .tup [a, .int .i64 (toksN s).2] ∧ FzV 3 a (toksN s).1.length ((toksN s).1.flatMap Tok.cells) ∧ (toksN s).1.length ≤ 512 by
    obtain ⟨r, h1, a, rfl, h2, h3⟩ := hw; exact ⟨a, call_of tb_engramref9_Tokens h1, h2, h3⟩
  refine callF_pureX rfl rfl (M_in ?_)
  by_cases hs : s.size ≤ 512
  · have hs' : ¬ (512 : Int) < (s.size : Int) := by omega
    have hs2 : ¬ 512 < s.size := by omega
    obtain ⟨la, hr, hla⟩ := engramref9_runes_ok (pr := pr) (bar := h.n) (h := h) s hs
    simp [f_engramref9_Tokens, env0, go_sem, hs2, hs', hr]
    have hlen : (runesI s).length ≤ 512 := by have := runesF_le s s.size 0; simp [runesI, runes]; omega
    refine ref_tokens_loop (runesI s) la hla hlen _ (runesI s).length 0 h .nilsl [] (by omega) (by omega) (Nat.le_refl _) OS.nil (by simp) (by simp) (fun e g' h1 h2 h3 => ?_) (fun e g' a' ts h1 h2 h3 h4 => ?_)
    · have : toksN s = ([], 12) := by unfold toksN; rw [if_neg hs2, h3]
      rw [this]
      simp [go_sem, endX, resultsA, resultA, freezeL, AV.free.freeL, packA, h1, h2, freezeV, AV.free]
      exact ⟨rfl, by omega, .inl ⟨rfl, rfl⟩⟩
    · have : toksN s = (ts, 0) := by unfold toksN; rw [if_neg hs2, h2]
      rw [this]
      obtain ⟨a2, h5, h6, h7⟩ := h4.freeze (still_tok _) (by omega) 2
      simp [go_sem, endX, resultsA, resultA, freezeL, AV.free.freeL, packA, h1, h6, freezeV, h7.free, AV.free]
      exact ⟨h7, h3⟩
  · have hs' : (512 : Int) < (s.size : Int) := by omega
    have hs2 : 512 < s.size := by omega
    have : toksN s = ([], 3) := by unfold toksN; rw [if_pos hs2]
    rw [this]
    simp [f_engramref9_Tokens, env0, go_sem, hs', hs2, endX, resultsA, resultA, freezeL, AV.free.freeL, packA, freezeV, AV.free]
    exact ⟨rfl, by omega, .inl ⟨rfl, rfl⟩⟩
end
end Go.Ev
