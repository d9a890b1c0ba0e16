/- Part 4 of the proof that a law of this seat (the one that GOCLAIM.json names) returns true for every argument; nothing is assumed. -/
import Derived.Laws.Bits64
import Derived.Shelf.Strconv.ParseIntPublic10
import Derived.Below
import Derived.Shelf.Small.Strs
import Derived.Test.YtgcchccjgpiekaaGreatDoorProg
import Derived.LaidLaws
import Derived.RowKit
import Derived.RowKitTokens
import Derived.MakeChecks
import Derived.Test.YtgcchccjgpiekaaGreatDoorA3
set_option linter.unusedSimpArgs false
set_option linter.unusedVariables false
set_option linter.all false
namespace Go.Ev
open Go
theorem findN_some (nm : Int) : ∀ (fs : List Fn) (j : Nat), findN nm fs j = -1 ∨ ∃ i, i < fs.length ∧ findN nm fs j = ((j + i : Nat) : Int)
  | [], j => .inl rfl
  | f :: r, j => by
    simp only [findN]
    cases hf : f.name == nm with
    | true => exact .inr ⟨0, by simp, by simp⟩
    | false =>
      rcases findN_some nm r (j + 1) with h | ⟨i, h1, h2⟩
      · exact .inl (by simpa using h)
      · exact .inr ⟨i + 1, by simpa using h1, by simp only [Bool.false_eq_true, if_false, h2]; omega⟩
def bin2B : ByteArray := ⟨#[43, 45, 42, 47, 37, 38, 124, 94, 60, 61, 194, 171, 194, 187]⟩
def un1B : ByteArray := ⟨#[33, 64, 194, 169, 194, 164, 207, 128]⟩
def st2B : ByteArray := ⟨#[36, 194, 174]⟩
def ctlB : ByteArray := ⟨#[58, 59, 91, 93, 126, 194, 161]⟩
def isBin (r : Int) : Bool := decide (r = 43 ∨ r = 45 ∨ r = 42 ∨ r = 47 ∨ r = 37 ∨ r = 38 ∨ r = 124 ∨ r = 94 ∨ r = 60 ∨ r = 61 ∨ r = 171 ∨ r = 187)
def isUn (r : Int) : Bool := decide (r = 33 ∨ r = 64 ∨ r = 169 ∨ r = 164 ∨ r = 960)
def isSt (r : Int) : Bool := decide (r = 36 ∨ r = 174)
def isCtl (r : Int) : Bool := decide (r = 58 ∨ r = 59 ∨ r = 91 ∨ r = 93 ∨ r = 126 ∨ r = 161)
theorem hasR_bin (r : Int) : hasR ⟨#[43, 45, 42, 47, 37, 38, 124, 94, 60, 61, 194, 171, 194, 187]⟩ r = isBin r := by
  have : runes bin2B = [(0, 43), (1, 45), (2, 42), (3, 47), (4, 37), (5, 38), (6, 124), (7, 94), (8, 60), (9, 61), (10, 171), (12, 187)] := by decide +kernel
  show (runes bin2B).any _ = _
  rw [this, Bool.eq_iff_iff]; simp [isBin]; omega
theorem hasR_un (r : Int) : hasR ⟨#[33, 64, 194, 169, 194, 164, 207, 128]⟩ r = isUn r := by
  have : runes un1B = [(0, 33), (1, 64), (2, 169), (4, 164), (6, 960)] := by decide +kernel
  show (runes un1B).any _ = _
  rw [this, Bool.eq_iff_iff]; simp [isUn]; omega
theorem hasR_st (r : Int) : hasR ⟨#[36, 194, 174]⟩ r = isSt r := by
  have : runes st2B = [(0, 36), (1, 174)] := by decide +kernel
  show (runes st2B).any _ = _
  rw [this, Bool.eq_iff_iff]; simp [isSt]; omega
theorem hasR_ctl (r : Int) : hasR ⟨#[58, 59, 91, 93, 126, 194, 161]⟩ r = isCtl r := by
  have : runes ctlB = [(0, 58), (1, 59), (2, 91), (3, 93), (4, 126), (5, 161)] := by decide +kernel
  show (runes ctlB).any _ = _
  rw [this, Bool.eq_iff_iff]; simp [isCtl]; omega
def callT (fs : List Fn) (nm : Int) : Int × Int × Bool :=
  match fs[(findN nm fs 0).toNat]? with
  | some f => if 0 ≤ findN nm fs 0 ∧ 0 ≤ f.args ∧ f.args ≤ 4 then (f.args, 1, true) else (0, 0, false)
  | none => (0, 0, false)
def takesN (fs : List Fn) (s nm : Int) : Int × Int × Bool :=
  if s = 48 ∨ 97 ≤ s ∧ s ≤ 122 ∨ s = 35 then (0, 1, true) else
  if 65 ≤ s ∧ s ≤ 90 ∨ s = 44 then (1, 0, true) else
  if s = 46 then (1, 2, true) else
  if isBin s then (2, 1, true) else
  if isUn s then (1, 1, true) else
  if s = 36 ∨ s = 174 then (2, 0, true) else
  if s = 63 then (1, 0, true) else
  if isCtl s then (0, 0, true) else
  if s = 955 then callT fs nm else (0, 0, false)
section
variable {fs : List Fn} {s nm : Int}
theorem T1 (h : s = 48 ∨ 97 ≤ s ∧ s ≤ 122 ∨ s = 35) : takesN fs s nm = (0, 1, true) := by unfold takesN; rw [if_pos h]
theorem T2 (h : 65 ≤ s ∧ s ≤ 90 ∨ s = 44) : takesN fs s nm = (1, 0, true) := by unfold takesN; rw [if_neg (by omega), if_pos h]
theorem T3 (h : s = 46) : takesN fs s nm = (1, 2, true) := by unfold takesN; rw [if_neg (by omega), if_neg (by omega), if_pos h]
theorem T4 (h : isBin s = true) : takesN fs s nm = (2, 1, true) := by
  have := h; simp [isBin] at this
  unfold takesN; rw [if_neg (by omega), if_neg (by omega), if_neg (by omega), if_pos h]
theorem T5 (h : isUn s = true) : takesN fs s nm = (1, 1, true) := by
  have := h; simp [isUn] at this
  unfold takesN; rw [if_neg (by omega), if_neg (by omega), if_neg (by omega), if_neg (by simp [isBin]; omega), if_pos h]
theorem T6 (h : s = 36 ∨ s = 174) : takesN fs s nm = (2, 0, true) := by
  unfold takesN; rw [if_neg (by omega), if_neg (by omega), if_neg (by omega), if_neg (by simp [isBin]; omega), if_neg (by simp [isUn]; omega), if_pos h]
theorem T7 (h : s = 63) : takesN fs s nm = (1, 0, true) := by
  unfold takesN; rw [if_neg (by omega), if_neg (by omega), if_neg (by omega), if_neg (by simp [isBin]; omega), if_neg (by simp [isUn]; omega), if_neg (by omega), if_pos h]
theorem T8 (h : isCtl s = true) : takesN fs s nm = (0, 0, true) := by
  have := h; simp [isCtl] at this
  unfold takesN; rw [if_neg (by omega), if_neg (by omega), if_neg (by omega), if_neg (by simp [isBin]; omega), if_neg (by simp [isUn]; omega), if_neg (by omega), if_neg (by omega), if_pos h]
theorem T9 (h : s = 955) : takesN fs s nm = callT fs nm := by
  unfold takesN; rw [if_neg (by omega), if_neg (by omega), if_neg (by omega), if_neg (by simp [isBin]; omega), if_neg (by simp [isUn]; omega), if_neg (by omega), if_neg (by omega), if_neg (by simp [isCtl]; omega), if_pos h]
theorem T0 (h1 : ¬(s = 48 ∨ 97 ≤ s ∧ s ≤ 122 ∨ s = 35)) (h2 : ¬(65 ≤ s ∧ s ≤ 90 ∨ s = 44)) (h3 : s ≠ 46) (h4 : isBin s = false) (h5 : isUn s = false) (h6 : ¬(s = 36 ∨ s = 174)) (h7 : s ≠ 63) (h8 : isCtl s = false) (h9 : s ≠ 955) : takesN fs s nm = (0, 0, false) := by
  unfold takesN; rw [if_neg h1, if_neg h2, if_neg h3, if_neg (by simp [h4]), if_neg (by simp [h5]), if_neg h6, if_neg h7, if_neg (by simp [h8]), if_neg h9]
end
section
variable {pr : Oracle} {bar : Nat} {h : H}
theorem check_Takes_1_ok (x : ByteArray) (s : Int) (id q : Nat) (hi : h.get id = some (.cells [.int .i32 s] q)) : call tb pr n_check_Takes_1 [.str x, .ptr id 0] bar h = some (.bool (hasR x s), h) := by
  refine call_of tb_check_Takes_1 ?_
  obtain ⟨r, h', hc, hr, rfl⟩ := callF_W (o := call tb pr) (F := f_check_Takes_1) (bar := bar) (h := h) (args := [.str x, .ptr id 0]) (K := fun r h' => r = .bool (hasR x s) ∧ h' = h) rfl rfl (M_in (by
    simp [f_check_Takes_1, env0, go_sem, endP, endI, resultsA, resultA, freezeL, freezeV, AV.free.freeL, AV.free, packA, dropS, hi, check_hasRune_ok]))
  rw [hc, hr]
theorem check_Takes_ok (fs : List Fn) (a : AV) (s n nm p m : Int) (hv : FV h a fs) : call tb pr n_check_Takes [.agg [.int .i64 p, .int .i64 m, a], .agg [.int .i32 s, .int .i64 n, .int .i32 nm]] bar h =
    some (.tup [.int .i64 (takesN fs s nm).1, .int .i64 (takesN fs s nm).2.1, .bool (takesN fs s nm).2.2], h) := by
  refine call_of tb_check_Takes (callF_pureW rfl rfl (M_in ?_))
  have hA : ∀ (x y z w : HObj), Ag h.n h ((((h.alloc x).alloc y).alloc z).set (h.n + 2) w) := fun x y z w => (((Ag.alloc _ (Nat.le_refl _)).trans (Ag.alloc _ (by simp [n_alloc]))).trans (Ag.alloc _ (by simp [n_alloc]; omega))).trans (Ag.set _ _ (by omega))
  have hf : ∀ (x y z w : HObj) b, call tb pr n_check_Find [.agg [.int .i64 p, .int .i64 m, a], .int .i32 nm] b ((((h.alloc x).alloc y).alloc z).set (h.n + 2) w) = some (.int .i64 (findN nm fs 0), (((h.alloc x).alloc y).alloc z).set (h.n + 2) w) := fun x y z w b => check_Find_ok fs a nm p m (hv.mono (hA x y z w) (Nat.le_refl _))
  have ht : ∀ (x : ByteArray) b (y z w : HObj), call tb pr n_check_Takes_1 [.str x, .ptr (h.n + 2) 0] b ((((h.alloc y).alloc z).alloc w).set (h.n + 2) (.cells [.int .i32 s] 0)) = some (.bool (hasR x s), (((h.alloc y).alloc z).alloc w).set (h.n + 2) (.cells [.int .i32 s] 0)) := fun x b y z w => check_Takes_1_ok x s _ 0 (by simp [get_set])
  by_cases h9 : s = 955
  · subst h9
    rw [T9 rfl]
    unfold callT
    rcases findN_some nm fs 0 with hn | ⟨i, hi, hn⟩
    · simp [f_check_Takes, env0, go_sem, hv.one, get_alloc, n_alloc, get_set, n_set, get_kill, n_kill, writeAt, a11, a21, a31, a41, a51, a61, a71, splice, hf, hn, endP, endI, resultsA, resultA, freezeL, freezeV, AV.free.freeL, AV.free, packA, dropS]
      cases fs[0]? <;> simp
    · have hn' : findN nm fs 0 = (i : Int) := by rw [hn, Nat.zero_add]
      have hb : (i : Int) < (fs.length : Int) := by omega
      have hlt0 : ¬ ((i : Int) < 0) := by omega
      rcases hv.cases with ⟨rfl, rfl⟩ | ⟨full, cs, rfl, hl, hx, hy⟩ | ⟨id', off, full, all, p', rfl, hlt, hg', hx, hy⟩
      · cases hi
      · simp [f_check_Takes, env0, go_sem, get_alloc, n_alloc, get_set, n_set, get_kill, n_kill, writeAt, a11, a21, a31, a41, a51, a61, a71, splice, hf, hn', hb, hi, indexIn, hl, hx i hi, hlt0]
        repeat' (first | refine G_bool (fun hc => ?_) (fun hc => ?_) <;> simp [go_sem, endP, endI, resultsA, resultA, freezeL, freezeV, AV.free.freeL, AV.free, packA, dropS, get_alloc, n_alloc, get_set, n_set, get_kill, n_kill, writeAt, a11, a21, a31, a41, a51, a61, a71, hb, hi, indexIn, hl, hx i hi, hc] | refine C_bool (fun hc => ?_) (fun hc => ?_) <;> simp [go_sem, endP, endI, resultsA, resultA, freezeL, freezeV, AV.free.freeL, AV.free, packA, dropS, get_alloc, n_alloc, get_set, n_set, get_kill, n_kill, writeAt, a11, a21, a31, a41, a51, a61, a71, hb, hi, indexIn, hl, hx i hi, hc])
        all_goals (simp only [decide_eq_true_eq, decide_eq_false_iff_not] at *; first | rw [if_pos (by omega)] | rw [if_neg (by omega)])
        all_goals simp
      · have e1 : id' ≠ h.n := by omega
        have e2 : id' ≠ h.n + 1 := by omega
        have e3 : id' ≠ h.n + 2 := by omega
        simp [f_check_Takes, env0, go_sem, get_alloc, n_alloc, get_set, n_set, get_kill, n_kill, writeAt, a11, a21, a31, a41, a51, a61, a71, splice, hf, hn', hb, hi, indexIn, hx i hi, hlt0, e1, e2, e3, hg']
        repeat' (first | refine G_bool (fun hc => ?_) (fun hc => ?_) <;> simp [go_sem, endP, endI, resultsA, resultA, freezeL, freezeV, AV.free.freeL, AV.free, packA, dropS, get_alloc, n_alloc, get_set, n_set, get_kill, n_kill, writeAt, a11, a21, a31, a41, a51, a61, a71, hb, hi, indexIn, hx i hi, hc, e1, e2, e3, hg'] | refine C_bool (fun hc => ?_) (fun hc => ?_) <;> simp [go_sem, endP, endI, resultsA, resultA, freezeL, freezeV, AV.free.freeL, AV.free, packA, dropS, get_alloc, n_alloc, get_set, n_set, get_kill, n_kill, writeAt, a11, a21, a31, a41, a51, a61, a71, hb, hi, indexIn, hx i hi, hc, e1, e2, e3, hg'])
        all_goals (simp only [decide_eq_true_eq, decide_eq_false_iff_not] at *; first | rw [if_pos (by omega)] | rw [if_neg (by omega)])
        all_goals simp
  have h9' : (s == 955) = false := by simpa using h9
  have hst : isSt s = decide (s = 36 ∨ s = 174) := rfl
  simp [f_check_Takes, env0, go_sem, hv.one, get_alloc, n_alloc, get_set, n_set, get_kill, n_kill, writeAt, a11, a21, a31, a41, a51, a61, a71, splice, h9']
  repeat' (first | refine G_bool (fun hb => ?_) (fun hb => ?_) <;> simp [go_sem, endP, endI, resultsA, resultA, freezeL, freezeV, AV.free.freeL, AV.free, packA, dropS, get_alloc, n_alloc, get_set, n_set, get_kill, n_kill, writeAt, a11, a21, a31, a41, a51, a61, a71, hasR_bin, hasR_un, hasR_st, hasR_ctl, *] | refine C_bool (fun hb => ?_) (fun hb => ?_) <;> simp [go_sem, endP, endI, resultsA, resultA, freezeL, freezeV, AV.free.freeL, AV.free, packA, dropS, get_alloc, n_alloc, get_set, n_set, get_kill, n_kill, writeAt, a11, a21, a31, a41, a51, a61, a71, hasR_bin, hasR_un, hasR_st, hasR_ctl, *])
  all_goals try clear hf hA ht
  all_goals first
    | (rw [T4 hb]; exact ⟨rfl, rfl, rfl⟩)
    | (rw [T5 hb]; exact ⟨rfl, rfl, rfl⟩)
    | (rw [T8 hb]; exact ⟨rfl, rfl, rfl⟩)
    | (simp at hb; first | (rw [T1 (by omega)]; exact ⟨rfl, rfl, rfl⟩) | (rw [T2 (by omega)]; exact ⟨rfl, rfl, rfl⟩) | (rw [T3 hb]; exact ⟨rfl, rfl, rfl⟩) | (rw [T6 (by omega)]; exact ⟨rfl, rfl, rfl⟩) | (rw [T7 hb]; exact ⟨rfl, rfl, rfl⟩))
    | (simp at *; first | (rw [T1 (by omega)]; exact ⟨rfl, rfl, rfl⟩) | (rw [T2 (by omega)]; exact ⟨rfl, rfl, rfl⟩))
    | (rw [T0 (by simp at *; omega) (by simp at *; omega) (by simp at *; omega) (by assumption) (by assumption) (by simp at *; omega) (by simp at *; omega) (by assumption) (by simp at *; omega)]; exact ⟨rfl, rfl, rfl⟩)
end
end Go.Ev
namespace Go.Ev
open Go
def runesFI (s : ByteArray) (n pos : Nat) : List Int := (runesF s n pos).map fun x => (x.2 : Int)
def runesI (s : ByteArray) : List Int := (runes s).map fun x => (x.2 : Int)
end Go.Ev
namespace Go.Ev
open Go
def isD (x : Int) : Bool := decide (48 ≤ x ∧ x ≤ 57)
inductive Md where
  | plain
  | num (n : Int)
  | name (s : Int)
def tokF : List Int → Md → Option (List Tok)
  | [], .plain => some []
  | [], .num n => some [⟨48, n, 0⟩]
  | [], .name _ => none
  | x :: r, m =>
    let pl := if x = 32 then tokF r .plain else if isD x = true then tokF r (.num (x - 48)) else if x = 955 ∨ x = 960 then tokF r (.name x) else
      if knownR x = true then (tokF r .plain).map (⟨x, 0, 0⟩ :: ·) else none
    match m with
    | .plain => pl
    | .num n => if isD x = true then (if 9223372036854775807 < n * 10 + (x - 48) then none else tokF r (.num (n * 10 + (x - 48)))) else pl.map (⟨48, n, 0⟩ :: ·)
    | .name s => if nameR x = true then (tokF r .plain).map (⟨s, 0, x⟩ :: ·) else none
theorem map_app {o : Option (List Tok)} {out : List Tok} {t : Tok} : (o.map (t :: ·)).map (out ++ ·) = o.map ((out ++ [t]) ++ ·) := by
  cases o <;> simp
end Go.Ev
namespace Go.Ev
open Go
section
variable {pr : Oracle} {bar : Nat} {h : H}
theorem still_tok (l : List Tok) : (l.flatMap Tok.cells).all AV.still = true := by
  rw [List.all_eq_true]; intro x hx; rw [List.mem_flatMap] at hx; obtain ⟨r, _, hx⟩ := hx; simp [Tok.cells] at hx; rcases hx with rfl | rfl | rfl <;> rfl
def toksN (s : ByteArray) : List Tok × Int := if 512 < s.size then ([], 3) else match tokF (runesI s) .plain with | some ts => (ts, 0) | none => ([], 12)
end
end Go.Ev
namespace Go.Ev
open Go
structure RS where
  out : List Tok
  dg : ByteArray
  bad : Bool
def isE (s : ByteArray) : Bool := s.toList.isEmpty
theorem isE_eq (s : ByteArray) : isE s = s.data.toList.isEmpty := by
  unfold isE
  rw [ByteArray.toList_eq]
def named (r : Int) : Bool := decide (r = 955 ∨ r = 960)
def RS.waits (s : RS) : Bool := isE s.dg && (match s.out.getLast? with | some t => named t.sign && t.name == 0 | none => false)
def RS.number (s : RS) : RS := if isE s.dg then s else match Lib.parseIntB 64 s.dg.data.toList with
  | .ok v => ⟨s.out ++ [⟨48, v, 0⟩], ⟨#[]⟩, s.bad⟩
  | .range => ⟨s.out ++ [⟨48, Lib.intSat 64 s.dg.data.toList, 0⟩], ⟨#[]⟩, true⟩
  | _ => ⟨s.out ++ [⟨48, 0, 0⟩], ⟨#[]⟩, true⟩
theorem named_ok {pr : Oracle} {bar : Nat} {h : H} (r : Int) : call tb pr n_glyph_named [.int .i32 r] bar h = some (.bool (named r), h) := glyph_named_ok r
def RdV (g : H) (bar : Nat) (R z : Nat) (s : RS) : Prop := ∃ oa, g.get R = some (.cells [oa, .str s.dg, .bool s.bad] 0) ∧ bar ≤ R ∧ R < g.n ∧ OS 3 g bar oa s.out.length (s.out.flatMap Tok.cells) ∧ ¬ oa.isAt R ∧ z ≠ R ∧ z < g.n ∧ ¬ oa.isAt z
theorem last_get {l : List Tok} {t : Tok} (h : l.getLast? = some t) : 0 < l.length ∧ l[l.length - 1]? = some t := by
  rw [List.getLast?_eq_getElem?] at h
  refine ⟨?_, h⟩
  cases l with
  | nil => simp at h
  | cons x r => simp
theorem OS.tok {h : H} {bar : Nat} {a : AV} {out : List Tok} (v : OS 3 h bar a out.length (out.flatMap Tok.cells)) : (a = .nilsl ∧ out = []) ∨ ∃ id all, a = .sl id 0 3 out.length false ∧ bar ≤ id ∧ id < h.n ∧ h.get id = some (.cells all 0) ∧
    (∃ rest, all = out.flatMap Tok.cells ++ rest) ∧
    ∀ i (hi : i < out.length), all[i * 3]? = some (.int .i32 out[i].sign) ∧ all[i * 3 + 1]? = some (.int .i64 out[i].n) ∧ all[i * 3 + 2]? = some (.int .i32 out[i].name) := by
  obtain ⟨h1, h2, ⟨h3, h4⟩ | ⟨id, rest, e1, e2, e3, e4⟩⟩ := v
  · exact .inl ⟨h3, List.length_eq_zero_iff.mp h4⟩
  · refine .inr ⟨id, _, e1, e2, e3, e4, ⟨rest, rfl⟩, fun i hi => ?_⟩
    have hg : ∀ j, j < 3 → (out.flatMap Tok.cells ++ rest)[i * 3 + j]? = out[i].cells[j]? := fun j hj => by
      rw [List.getElem?_append_left (by rw [h1]; omega)]
      exact flat_get Tok.cells_len out i j _ hj (List.getElem?_eq_getElem hi)
    exact ⟨hg 0 (by omega), hg 1 (by omega), hg 2 (by omega)⟩
section
variable {bar b : Nat} {h : H}
theorem glyph_waits_ok (R z : Nat) (s : RS) (hl : s.out.length ≤ 6000) (hv : RdV h b R z s) : call tb prim n_glyph_reader_waits [.ptr R 0] bar h = some (.bool s.waits, h) := by
  refine call_of tb_glyph_reader_waits (callF_pureW rfl rfl (M_in ?_))
  obtain ⟨oa, hR, hb1, hb2, ho, hat, hz1, hz2, hz3⟩ := hv
  by_cases he : isE s.dg = true
  · have he' : s.dg.toList.isEmpty = true := he
    rcases ho.tok with ⟨rfl, hnil⟩ | ⟨id, all, rfl, hbi, hid, hgi, hrest, hx⟩
    · simp [f_glyph_reader_waits, env0, go_sem, endP, endI, resultsA, resultA, freezeL, freezeV, AV.free.freeL, AV.free, packA, dropS, hR, isNil, strBin, he', RS.waits, he, hnil]
    · cases hg : s.out.getLast? with
      | none =>
        have h0 : s.out.length = 0 := by simpa using hg
        simp [f_glyph_reader_waits, env0, go_sem, endP, endI, resultsA, resultA, freezeL, freezeV, AV.free.freeL, AV.free, packA, dropS, hR, isNil, strBin, he', RS.waits, he, hg, h0]
      | some t =>
        obtain ⟨hpos, hlast⟩ := last_get hg
        have hp1 : (0 : Int) < (s.out.length : Int) := by omega
        have hw : IntKind.i64.wrap ((s.out.length : Int) - 1) = ((s.out.length - 1 : Nat) : Int) := by rw [w64 (by omega) (by omega)]; omega
        have hlt : s.out.length - 1 < s.out.length := by omega
        have hlt' : ((s.out.length - 1 : Nat) : Int) < (s.out.length : Int) := by omega
        have hxi := hx _ hlt
        have ht : s.out[s.out.length - 1] = t := by rw [List.getElem?_eq_getElem hlt] at hlast; exact Option.some.inj hlast
        rw [ht] at hxi
        simp [f_glyph_reader_waits, env0, go_sem, endP, endI, resultsA, resultA, freezeL, freezeV, AV.free.freeL, AV.free, packA, dropS, hR, isNil, strBin, he', RS.waits, he, hg, hpos, hw, indexIn, hlt, hlt', hgi, hxi, named_ok]
        refine G_bool (fun c => ?_) (fun c => ?_) <;> simp [go_sem, endP, endI, resultsA, resultA, freezeL, freezeV, AV.free.freeL, AV.free, packA, dropS, hR, isNil, indexIn, hpos, hw, hlt, hlt', hgi, hxi, c]
  · have he' : s.dg.toList.isEmpty = false := by simpa [isE] using he
    simp [f_glyph_reader_waits, env0, go_sem, endP, endI, resultsA, resultA, freezeL, freezeV, AV.free.freeL, AV.free, packA, dropS, hR, isNil, strBin, he', RS.waits, he, ho.len]
theorem glyph_number_ok (R z : Nat) (s : RS) (hl : s.out.length ≤ 6000) (hs : s.dg.size ≤ 10000) (hbh : b ≤ h.n) (hbb : bar ≤ b) (hv : RdV h b R z s) : ∃ r h', call tb prim n_glyph_reader_number [.ptr R 0] bar h = some (r, h') ∧ RdV h' b R z s.number ∧ h.n ≤ h'.n ∧ ∀ j, j < b ∨ j = z → h'.get j = h.get j := by
  suffices hw : ∃ r h', callF (call tb prim) f_glyph_reader_number [.ptr R 0] bar h = some (r, h') ∧ RdV h' b R z s.number ∧ h.n ≤ h'.n ∧ ∀ j, j < b ∨ j = z → h'.get j = h.get j by
    obtain ⟨r, h', h1, h2⟩ := hw; exact ⟨r, h', call_of tb_glyph_reader_number h1, h2⟩
  refine callF_W rfl rfl (M_in ?_)
  have hv0 := hv
  obtain ⟨oa, hR, hb1, hb2, ho, hat, hz1, hz2, hz3⟩ := hv
  by_cases he : isE s.dg = true
  · have he' : s.dg.toList.isEmpty = true := he
    have hnum : s.number = s := by simp [RS.number, he]
    simp [f_glyph_reader_number, env0, go_sem, endP, endI, resultsA, resultA, freezeL, freezeV, AV.free.freeL, AV.free, packA, dropS, hR, isNil, strBin, he', hnum]
    exact ⟨[], h, ⟨rfl, rfl⟩, hv0, Nat.le_refl _, fun _ _ => rfl⟩
  · have he' : s.dg.toList.isEmpty = false := by simpa [isE] using he
    have hbR : bar ≤ R := by omega
    have hna : ∀ j, (j < b ∨ j = z) → ¬ oa.isAt j := fun j hj hj2 => by
      rcases hj with hj | rfl
      · have := ho.at_lt hj2; omega
      · exact hz3 hj2
    have hpi := fun (g : H) (bb : Nat) => strconv_ParseInt_ok (bar := bb) (h := g) s.dg (by omega)
    obtain ⟨v, bd, hnum', hpr⟩ : ∃ v bd, s.number = ⟨s.out ++ [⟨48, v, 0⟩], ⟨#[]⟩, s.bad || bd⟩ ∧ prInt s.dg = .tup [.int .i64 v, if bd then .ifc t_Pstrconv_NumError (.fptr [] 0) else .nilifc] := by
      unfold RS.number prInt
      rw [if_neg he]
      cases Lib.parseIntB 64 s.dg.data.toList
      · rename_i v; exact ⟨v, false, by simp, rfl⟩
      · exact ⟨0, true, by simp, rfl⟩
      · exact ⟨_, true, by simp, rfl⟩
    obtain ⟨nb, hnb2⟩ : ∃ nb, nb = (s.bad || bd) := ⟨_, rfl⟩
    have hnum : s.number = ⟨s.out ++ [⟨48, v, 0⟩], ⟨#[]⟩, nb⟩ := by rw [hnb2]; exact hnum'
    have ho1 : OS 3 (h.set R (.cells [oa, .str s.dg, .bool nb] 0)) b oa s.out.length (s.out.flatMap Tok.cells) := ho.set _ hat
    obtain ⟨a', g', e1, e2, e3, e4, e5⟩ := ho1.app' (by simpa [n_set] using hbh) hbb 24 (Tok.cells ⟨48, v, 0⟩) rfl rfl (by omega) (by omega) (by omega)
    simp only [Tok.cells, n_set] at e1 e3 e4 e5
    have hgR : g'.get R = some (.cells [oa, .str s.dg, .bool nb] 0) := by rw [e4 R hb2 hat, get_set, if_pos rfl]
    have hnb : isNilK 2 (if bd = true then .ifc t_Pstrconv_NumError (.fptr [] 0) else .nilifc) = some (!bd) := by cases bd <;> rfl
    rw [hnum]
    have hend : RdV ((g'.set R (.cells [a', .str s.dg, .bool nb] 0)).set R (.cells [a', .str ⟨#[]⟩, .bool nb] 0)) b R z ⟨s.out ++ [⟨48, v, 0⟩], ⟨#[]⟩, nb⟩ := by
      have hnat : ¬ a'.isAt R := fun hj => by have := e5 _ hj; omega
      refine ⟨a', by simp [get_set], hb1, by simp only [n_set]; omega, ?_, hnat, hz1, by simp only [n_set]; omega, fun hj => by have := e5 _ hj; omega⟩
      have := (e2.set (.cells [a', .str s.dg, .bool nb] 0) hnat).set (.cells [a', .str ⟨#[]⟩, .bool nb] 0) hnat
      simpa [Tok.cells] using this
    have hfr : ∀ j, j < b ∨ j = z → ((g'.set R (.cells [a', .str s.dg, .bool nb] 0)).set R (.cells [a', .str ⟨#[]⟩, .bool nb] 0)).get j = h.get j := fun j hj => by
      rw [get_set_ne (by omega), get_set_ne (by omega), e4 j (by omega) (hna j hj), get_set_ne (by omega)]
    cases hbad : s.bad with
    | true =>
      have hnt : nb = true := by rw [hnb2, hbad]; rfl
      subst hnt
      simp [f_glyph_reader_number, env0, go_sem, get_alloc, n_alloc, get_set, n_set, get_kill, n_kill, writeAt, a11, a21, a31, a41, a51, a61, a71, endP, endI, resultsA, resultA, freezeL, freezeV, AV.free.freeL, AV.free, packA, dropS, hR, isNil, strBin, he', hpi, hpr, hbad, hbR, splice, evParts, fillA, e1, e2.one, ho.one, hgR]
      exact ⟨_, _, ⟨rfl, rfl⟩, hend, by simp only [n_set]; omega, hfr⟩
    | false =>
      have hnt : nb = bd := by rw [hnb2, hbad]; rfl
      subst hnt
      simp [f_glyph_reader_number, env0, go_sem, get_alloc, n_alloc, get_set, n_set, get_kill, n_kill, writeAt, a11, a21, a31, a41, a51, a61, a71, endP, endI, resultsA, resultA, freezeL, freezeV, AV.free.freeL, AV.free, packA, dropS, hR, isNil, strBin, he', hpi, hpr, hbad, hbR, hnb, splice, evParts, fillA, e1, e2.one, ho.one, hgR]
      exact ⟨_, _, ⟨rfl, rfl⟩, hend, by simp only [n_set]; omega, hfr⟩
def RS.setName (s : RS) (x : Int) : List Tok := match s.out.getLast? with
  | some t => s.out.set (s.out.length - 1) ⟨t.sign, t.n, x⟩
  | none => s.out
def RS.rune (s : RS) (x : Int) : RS :=
  if s.waits then ⟨s.setName x, s.dg, s.bad || !nameR x⟩ else
  if isD x then ⟨s.out, s.dg ++ Utf8.encode x, s.bad⟩ else
  if x = 32 then s.number else ⟨s.number.out ++ [⟨x, 0, 0⟩], s.number.dg, s.number.bad || !knownR x⟩
theorem RS.number_len (s : RS) : s.number.out.length ≤ s.out.length + 1 := by
  unfold RS.number
  split
  · omega
  · split <;> simp
theorem sp30 (a b c v : AV) : splice [a, b, c] 0 [v] = [v, b, c] := Eq.trans rfl rfl
theorem sp31 (a b c v : AV) : splice [a, b, c] 1 [v] = [a, v, c] := Eq.trans rfl rfl
theorem sp32 (a b c v : AV) : splice [a, b, c] 2 [v] = [a, b, v] := Eq.trans rfl rfl
theorem encode_le (x : Int) : (Utf8.encode x).size ≤ 4 := by
  unfold Utf8.encode
  simp only
  repeat' split
  all_goals (show Array.size _ ≤ 4; simp)
theorem glyph_rune_ok (R z : Nat) (s : RS) (x : Int) (hl : s.out.length ≤ 5000) (hs : s.dg.size ≤ 9000) (hbh : b ≤ h.n) (hbb : bar ≤ b) (hv : RdV h b R z s) : ∃ r h', call tb prim n_glyph_reader_rune [.ptr R 0, .int .i32 x] bar h = some (r, h') ∧ RdV h' b R z (s.rune x) ∧ h.n ≤ h'.n ∧ ∀ j, j < b ∨ j = z → h'.get j = h.get j := by
  suffices hw : ∃ r h', callF (call tb prim) f_glyph_reader_rune [.ptr R 0, .int .i32 x] bar h = some (r, h') ∧ RdV h' b R z (s.rune x) ∧ h.n ≤ h'.n ∧ ∀ j, j < b ∨ j = z → h'.get j = h.get j by
    obtain ⟨r, h', h1, h2⟩ := hw; exact ⟨r, h', call_of tb_glyph_reader_rune h1, h2⟩
  refine callF_W rfl rfl (M_in ?_)
  have hwt : call tb prim n_glyph_reader_waits [.ptr R 0] bar h = some (.bool s.waits, h) := glyph_waits_ok R z s (by omega) hv
  obtain ⟨rn, hn, hnc, hnv, hnn, hnf⟩ := glyph_number_ok (bar := bar) R z s (by omega) (by omega) hbh hbb hv
  obtain ⟨oa, hR, hb1, hb2, ho, hat, hz1, hz2, hz3⟩ := hv
  have hbR : bar ≤ R := by omega
  cases hw : s.waits with
  | true =>
    have hr : s.rune x = ⟨s.setName x, s.dg, s.bad || !nameR x⟩ := by simp [RS.rune, hw]
    rw [hw] at hwt
    rw [hr]
    unfold RS.waits at hw
    rw [Bool.and_eq_true] at hw
    obtain ⟨_, hw2⟩ := hw
    cases hg : s.out.getLast? with
    | none => rw [hg] at hw2; cases hw2
    | some t =>
      have hsn : s.setName x = s.out.set (s.out.length - 1) ⟨t.sign, t.n, x⟩ := by simp [RS.setName, hg]
      obtain ⟨hpos, hlast⟩ := last_get hg
      have hlt : s.out.length - 1 < s.out.length := by omega
      have hlt' : ((s.out.length - 1 : Nat) : Int) < (s.out.length : Int) := by omega
      have hwr : IntKind.i64.wrap ((s.out.length : Int) - 1) = ((s.out.length - 1 : Nat) : Int) := by rw [w64 (by omega) (by omega)]; omega
      obtain ⟨hcl, hone, ⟨rfl, h0⟩ | ⟨id, rest, rfl, g1, g2, g3⟩⟩ := ho
      · omega
      · have hne : id ≠ R := hat
        have hbi : bar ≤ id := by omega
        have hsp : splice (s.out.flatMap Tok.cells ++ rest) ((s.out.length - 1) * 3 + 2) [.int .i32 x] = (s.out.set (s.out.length - 1) ⟨t.sign, t.n, x⟩).flatMap Tok.cells ++ rest :=
          flat_splice Tok.cells_len rest 2 [.int .i32 x] ⟨t.sign, t.n, x⟩ s.out _ t hlast (by simp) rfl
        have hle : (s.out.length - 1) * 3 + 2 + 1 ≤ (s.out.flatMap Tok.cells).length + rest.length := by rw [hcl]; omega
        have hend : ∀ bd, RdV ((h.set R (.cells [.sl id 0 3 s.out.length false, .str s.dg, .bool bd] 0)).set id (.cells ((s.out.set (s.out.length - 1) ⟨t.sign, t.n, x⟩).flatMap Tok.cells ++ rest) 0)) b R z ⟨s.setName x, s.dg, bd⟩ := fun bd => by
          refine ⟨.sl id 0 3 s.out.length false, ?_, hb1, hb2, ?_, hat, hz1, hz2, hz3⟩
          · rw [get_set_ne (fun e => hne e.symm), get_set, if_pos rfl]
          · rw [hsn]
            refine ⟨by rw [flat_len Tok.cells_len], ?_, .inr ⟨id, rest, by rw [List.length_set], g1, g2, by rw [get_set, if_pos rfl]⟩⟩
            rw [List.all_eq_true]; intro y hy; rw [List.mem_flatMap] at hy; obtain ⟨u, _, hy⟩ := hy; simp [Tok.cells] at hy; rcases hy with rfl | rfl | rfl <;> rfl
        have hfr : ∀ bd j, j < b ∨ j = z → ((h.set R (.cells [.sl id 0 3 s.out.length false, .str s.dg, .bool bd] 0)).set id (.cells ((s.out.set (s.out.length - 1) ⟨t.sign, t.n, x⟩).flatMap Tok.cells ++ rest) 0)).get j = h.get j := fun bd j hj => by
          have : id ≠ z := hz3
          rw [get_set_ne (by omega), get_set_ne (by omega)]
        generalize hall : s.out.flatMap Tok.cells ++ rest = all at *
        have hle' : (s.out.length - 1) * 3 + 2 + 1 ≤ all.length := by rw [← hall]; simpa using hle
        generalize hnew : (s.out.set (s.out.length - 1) ⟨t.sign, t.n, x⟩).flatMap Tok.cells ++ rest = new at *
        cases hbad : s.bad with
        | true =>
          simp [f_glyph_reader_rune, env0, go_sem, get_alloc, n_alloc, get_set, n_set, get_kill, n_kill, writeAt, a11, a21, a31, a41, a51, a61, a71, endP, endI, resultsA, resultA, freezeL, freezeV, AV.free.freeL, AV.free, packA, dropS, hwt, hR, isNil, hbad, hbR, glyph_Name_ok, sp30, sp31, sp32, hwr, indexIn, hlt, hlt', g3, hbi, hle', hsp, hne]
          exact ⟨[], _, ⟨rfl, rfl⟩, by simpa using hend true, by simp only [n_set]; omega, by simpa using hfr true⟩
        | false =>
          simp [f_glyph_reader_rune, env0, go_sem, get_alloc, n_alloc, get_set, n_set, get_kill, n_kill, writeAt, a11, a21, a31, a41, a51, a61, a71, endP, endI, resultsA, resultA, freezeL, freezeV, AV.free.freeL, AV.free, packA, dropS, hwt, hR, isNil, hbad, hbR, glyph_Name_ok, sp30, sp31, sp32, hwr, indexIn, hlt, hlt', g3, hbi, hle', hsp, hne]
          exact ⟨[], _, ⟨rfl, rfl⟩, hend _, by simp only [n_set]; omega, hfr _⟩
  | false =>
    rw [hw] at hwt
    cases hD : isD x with
    | true =>
      have hr : s.rune x = ⟨s.out, s.dg ++ Utf8.encode x, s.bad⟩ := by simp [RS.rune, hw, hD]
      rw [hr]
      have hD' : 48 ≤ x ∧ x ≤ 57 := by simpa [isD] using hD
      have hsz : s.dg.size + (Utf8.encode x).size ≤ 9223372036854775807 := by have := encode_le x; omega
      simp [f_glyph_reader_rune, env0, go_sem, get_alloc, n_alloc, get_set, n_set, get_kill, n_kill, writeAt, a11, a21, a31, a41, a51, a61, a71, endP, endI, resultsA, resultA, freezeL, freezeV, AV.free.freeL, AV.free, packA, dropS, hwt, hR, isNil, hbR, glyph_within_ok, hD', sp30, sp31, sp32, strBin, hsz, ho.one]
      exact ⟨[], _, ⟨rfl, rfl⟩, ⟨oa, by rw [get_set, if_pos rfl], hb1, by simpa [n_set] using hb2, ho.set _ hat, hat, hz1, by simpa [n_set] using hz2, hz3⟩, by simp only [n_set]; omega, fun j hj => by rw [get_set_ne (by omega)]⟩
    | false =>
      have hD1 : (decide (48 ≤ x) && decide (x ≤ 57)) = false := by simpa [isD] using hD
      obtain ⟨na, hnR, hnb1, hnb2, hno, hnat, hnz1, hnz2, hnz3⟩ := hnv
      by_cases h32 : x = 32
      · subst h32
        have hr : s.rune 32 = s.number := by simp [RS.rune, hw, hD]
        rw [hr]
        cases hbad : s.number.bad with
        | true =>
          simp [f_glyph_reader_rune, env0, go_sem, get_alloc, n_alloc, get_set, n_set, get_kill, n_kill, writeAt, a11, a21, a31, a41, a51, a61, a71, endP, endI, resultsA, resultA, freezeL, freezeV, AV.free.freeL, AV.free, packA, dropS, hwt, hnR, isNil, hbR, glyph_within_ok, hnc, hbad, sp30, sp31, sp32]
          exact ⟨[], _, ⟨rfl, rfl⟩, ⟨na, by rw [get_set, if_pos rfl, hbad], hnb1, by simpa [n_set] using hnb2, hno.set _ hnat, hnat, hnz1, by simpa [n_set] using hnz2, hnz3⟩, by simp only [n_set]; omega, fun j hj => by rw [get_set_ne (by omega), hnf j hj]⟩
        | false =>
          simp [f_glyph_reader_rune, env0, go_sem, get_alloc, n_alloc, get_set, n_set, get_kill, n_kill, writeAt, a11, a21, a31, a41, a51, a61, a71, endP, endI, resultsA, resultA, freezeL, freezeV, AV.free.freeL, AV.free, packA, dropS, hwt, hnR, isNil, hbR, glyph_within_ok, hnc, hbad, sp30, sp31, sp32]
          exact ⟨[], _, ⟨rfl, rfl⟩, ⟨na, by rw [get_set, if_pos rfl, hbad], hnb1, by simpa [n_set] using hnb2, hno.set _ hnat, hnat, hnz1, by simpa [n_set] using hnz2, hnz3⟩, by simp only [n_set]; omega, fun j hj => by rw [get_set_ne (by omega), hnf j hj]⟩
      · have hr : s.rune x = ⟨s.number.out ++ [⟨x, 0, 0⟩], s.number.dg, s.number.bad || !knownR x⟩ := by simp [RS.rune, hw, hD, h32]
        rw [hr]
        have h32' : (x == 32) = false := by simpa using h32
        have h32b : (x != 32) = true := by simpa using h32
        have hnl := s.number_len
        have hna2 : ∀ j, (j < b ∨ j = z) → ¬ na.isAt j := fun j hj hj2 => by
          rcases hj with hj | rfl
          · have := hno.at_lt hj2; omega
          · exact hnz3 hj2
        obtain ⟨nb, hnb⟩ : ∃ nb, nb = (s.number.bad || !knownR x) := ⟨_, rfl⟩
        rw [← hnb]
        have ho1 : OS 3 (hn.set R (.cells [na, .str s.number.dg, .bool nb] 0)) b na s.number.out.length (s.number.out.flatMap Tok.cells) := hno.set _ hnat
        obtain ⟨a', g', e1, e2, e3, e4, e5⟩ := ho1.app' (by simp only [n_set]; omega) hbb 24 (Tok.cells ⟨x, 0, 0⟩) rfl rfl (by omega) (by omega) (by omega)
        simp only [Tok.cells, n_set] at e1 e3 e4 e5
        have hgR : g'.get R = some (.cells [na, .str s.number.dg, .bool nb] 0) := by rw [e4 R hnb2 hnat, get_set, if_pos rfl]
        have hnat2 : ¬ a'.isAt R := fun hj => by have := e5 _ hj; omega
        have hend : RdV (g'.set R (.cells [a', .str s.number.dg, .bool nb] 0)) b R z ⟨s.number.out ++ [⟨x, 0, 0⟩], s.number.dg, nb⟩ := by
          refine ⟨a', by rw [get_set, if_pos rfl], hb1, by simp only [n_set]; omega, ?_, hnat2, hz1, by simp only [n_set]; omega, fun hj => by have := e5 _ hj; omega⟩
          have := e2.set (.cells [a', .str s.number.dg, .bool nb] 0) hnat2
          simpa [Tok.cells] using this
        have hfr : ∀ j, j < b ∨ j = z → (g'.set R (.cells [a', .str s.number.dg, .bool nb] 0)).get j = h.get j := fun j hj => by
          rw [get_set_ne (by omega), e4 j (by omega) (hna2 j hj), get_set_ne (by omega), hnf j hj]
        cases hbad : s.number.bad with
        | true =>
          have hnt : nb = true := by rw [hnb, hbad]; rfl
          subst hnt
          simp [f_glyph_reader_rune, env0, go_sem, get_alloc, n_alloc, get_set, n_set, get_kill, n_kill, writeAt, a11, a21, a31, a41, a51, a61, a71, endP, endI, resultsA, resultA, freezeL, freezeV, AV.free.freeL, AV.free, packA, dropS, hwt, hnR, isNil, hbR, glyph_within_ok, hD1, hnc, hbad, sp30, sp31, sp32, h32b, glyph_Known_ok, evParts, fillA, splice, e1, hgR, e2.one, hno.one]
          exact ⟨[], _, ⟨rfl, rfl⟩, hend, by simp only [n_set]; omega, hfr⟩
        | false =>
          have hnt : nb = !knownR x := by rw [hnb, hbad]; rfl
          subst hnt
          simp [f_glyph_reader_rune, env0, go_sem, get_alloc, n_alloc, get_set, n_set, get_kill, n_kill, writeAt, a11, a21, a31, a41, a51, a61, a71, endP, endI, resultsA, resultA, freezeL, freezeV, AV.free.freeL, AV.free, packA, dropS, hwt, hnR, isNil, hbR, glyph_within_ok, hD1, hnc, hbad, sp30, sp31, sp32, h32b, glyph_Known_ok, evParts, fillA, splice, e1, hgR, e2.one, hno.one]
          exact ⟨[], _, ⟨rfl, rfl⟩, hend, by simp only [n_set]; omega, hfr⟩
end
end Go.Ev
namespace Go.Ev
open Go
def gloop : List Int → RS → Option RS
  | [], s => some s
  | x :: r, s => if (s.rune x).bad then none else gloop r (s.rune x)
def gTok (s : ByteArray) : List Tok × Int := if 512 < s.size then ([], 3) else match gloop (runesI s) ⟨[], ⟨#[]⟩, false⟩ with
  | none => ([], 12)
  | some s => if s.number.bad || s.number.waits then ([], 12) else (s.number.out, 0)
theorem RdV.setz {g : H} {b R z : Nat} {s : RS} (v : RdV g b R z s) (o : HObj) : RdV (g.set z o) b R z s := by
  obtain ⟨oa, hR, hb1, hb2, ho, hat, hz1, hz2, hz3⟩ := v
  exact ⟨oa, by rw [get_set_ne (fun e => hz1 e.symm)]; exact hR, hb1, hb2, ho.set _ hz3, hat, hz1, hz2, hz3⟩
theorem RS.rune_len (s : RS) (x : Int) : (s.rune x).out.length ≤ s.out.length + 2 := by
  have := s.number_len
  unfold RS.rune RS.setName
  repeat' split
  all_goals simp
  all_goals omega
theorem RS.number_dg (s : RS) : s.number.dg.size ≤ s.dg.size := by
  unfold RS.number
  repeat' split
  all_goals first | exact Nat.le_refl _ | exact Nat.zero_le _
theorem RS.rune_dg (s : RS) (x : Int) : (s.rune x).dg.size ≤ s.dg.size + 4 := by
  have := s.number_dg
  have := encode_le x
  unfold RS.rune
  repeat' split
  all_goals (try simp only [ByteArray.size_append]) <;> omega
section
variable {bar b : Nat} {h : H}
theorem glyph_tokens_loop (str : ByteArray) (hs : str.size ≤ 512) (R id : Nat) (hid : bar ≤ id) (hbb : bar ≤ b) (Q : Ex → Env → H → Prop) : ∀ (n pos : Nat) (g : H) (s : RS), g.get id = some (.iter str pos) → str.size ≤ pos + n → RdV g b R id s → b ≤ g.n →
    s.out.length ≤ 2 * pos → s.dg.size ≤ 4 * pos → pos ≤ 600 → s.bad = false →
    (∀ e g', e.get 2 = some .nilsl → e.get 3 = some (.int .i64 12) → gloop (runesFI str n pos) s = none → Q .ret e g') →
    (∀ e g' s', e.get 4 = some (.ptr R 0) → gloop (runesFI str n pos) s = some s' → RdV g' b R id s' → b ≤ g'.n → s'.out.length ≤ 1200 → s'.dg.size ≤ 2400 → s'.bad = false → Q (.exit 0) e g') →
    wpL (call tb prim) bar [4, 13] l0_glyph_Tokens [(4, .ptr R 0), (13, .ptr id 0)] g Q := by
  intro n
  induction n with
  | zero =>
    intro pos g s hg hn hv hb h1 h2 h3 hbad h4 h5
    have : ¬ pos < str.size := by omega
    refine M_loop l0_glyph_Tokens.eq_1 ?_
    simp [go_sem, hg, hid, this]
    exact h5 _ _ s rfl rfl hv hb (by omega) (by omega) hbad
  | succ n ih =>
    intro pos g s hg hn hv hb h1 h2 h3 hbad h4 h5
    refine M_loop l0_glyph_Tokens.eq_1 ?_
    by_cases this : pos < str.size
    · have hd := decode_pos str pos
      have hd4 : (Utf8.decode str pos).2 ≤ 4 := by
        unfold Utf8.decode
        simp only
        repeat' split
        all_goals (show _ ≤ 4; omega)
      obtain ⟨r, h', hc, hv', hn', hf'⟩ := glyph_rune_ok (bar := bar) R id s ((Utf8.decode str pos).1 : Int) (by omega) (by omega) (by simpa [n_set] using hb) hbb (hv.setz (.iter str (pos + (Utf8.decode str pos).2)))
      have hi' : h'.get id = some (.iter str (pos + (Utf8.decode str pos).2)) := by rw [hf' id (.inr rfl), get_set, if_pos rfl]
      have hgl : gloop (runesFI str (n + 1) pos) s = if (s.rune ((Utf8.decode str pos).1 : Int)).bad then none else gloop (runesFI str n (pos + (Utf8.decode str pos).2)) (s.rune ((Utf8.decode str pos).1 : Int)) := by
        simp [runesFI, runesF, this, gloop]
      have hrl := s.rune_len ((Utf8.decode str pos).1 : Int)
      have hrd := s.rune_dg ((Utf8.decode str pos).1 : Int)
      have hR' := hv'
      obtain ⟨oa, hR, _⟩ := hR'
      simp [go_sem, hg, hid, this, hc, hR, isNil]
      refine C_bool (fun hb2 => ?_) (fun hb2 => ?_) <;> simp [go_sem]
      · exact h4 _ _ rfl rfl (by rw [hgl, if_pos hb2])
      · simp only [n_set] at hn'
        refine ih _ h' _ hi' (by omega) hv' (by omega) (by omega) (by omega) (by omega) hb2 (fun e g' q1 q2 q3 => h4 e g' q1 q2 (by rw [hgl, if_neg (by simp [hb2]), q3])) (fun e g' s' q1 q2 q3 => h5 e g' s' q1 (by rw [hgl, if_neg (by simp [hb2]), q2]) q3)
    · simp [go_sem, hg, hid, this]
      exact h5 _ _ s rfl (by simp [runesFI, runesF, this, gloop]) hv hb (by omega) (by omega) hbad
theorem glyph_Tokens_ok (s : ByteArray) : ∃ a, call tb prim n_glyph_Tokens [.str s] bar h = some (.tup [a, .int .i64 (gTok s).2], h) ∧ FzV 3 a (gTok s).1.length ((gTok s).1.flatMap Tok.cells) ∧ (gTok s).1.length ≤ 1300 := by
  suffices hw : ∃ r, callF (call tb prim) f_glyph_Tokens [.str s] bar h = some (r, h) ∧ ∃ a, r = .tup [a, .int .i64 (gTok s).2] ∧ FzV 3 a (gTok s).1.length ((gTok s).1.flatMap Tok.cells) ∧ (gTok s).1.length ≤ 1300 by
    obtain ⟨r, h1, a, rfl, h2, h3⟩ := hw; exact ⟨a, call_of tb_glyph_Tokens h1, h2, h3⟩
  refine callF_pureX rfl rfl (M_in ?_)
  by_cases hs : s.size ≤ 512
  · have hs' : ¬ (512 : Int) < (s.size : Int) := by omega
    have hs2 : ¬ 512 < s.size := by omega
    simp [f_glyph_Tokens, env0, go_sem, hs2, hs', evParts, fillA]
    refine glyph_tokens_loop (b := h.n) s hs h.n (h.n + 1) (by omega) (Nat.le_refl _) _ s.size 0 _ ⟨[], ⟨#[]⟩, false⟩ (by simp [get_alloc, n_alloc]) (by omega)
      ⟨.nilsl, by simp [get_alloc, n_alloc], Nat.le_refl _, by simp only [n_alloc]; omega, OS.nil, by simp [AV.isAt], by omega, by simp only [n_alloc]; omega, by simp [AV.isAt]⟩ (by simp only [n_alloc]; omega) (by simp) (Nat.zero_le _) (by omega) rfl (fun e g' h1 h2 h3 => ?_) (fun e g' s' h1 h2 hv' hb' hl hd hbad => ?_)
    · have : gTok s = ([], 12) := by unfold gTok; rw [if_neg hs2]; show (match gloop (runesFI s s.size 0) _ with | none => _ | some _ => _) = _; rw [h3]
      rw [this]
      simp [go_sem, endX, resultsA, resultA, freezeL, AV.free.freeL, packA, h1, h2, freezeV, AV.free]
      exact ⟨rfl, by omega, .inl ⟨rfl, rfl⟩⟩
    · have hgt : gTok s = if s'.number.bad || s'.number.waits then ([], 12) else (s'.number.out, 0) := by
        unfold gTok; rw [if_neg hs2]; show (match gloop (runesFI s s.size 0) _ with | none => _ | some _ => _) = _; rw [h2]
      obtain ⟨rn, hn, hnc, hnv, hnn, hnf⟩ := glyph_number_ok (bar := h.n) h.n (h.n + 1) s' (by omega) (by omega) hb' (Nat.le_refl _) hv'
      have hnl := s'.number_len
      have hwt : ∀ bb, call tb prim n_glyph_reader_waits [.ptr h.n 0] bb hn = some (.bool s'.number.waits, hn) := fun bb => glyph_waits_ok h.n (h.n + 1) s'.number (by omega) hnv
      obtain ⟨oa, hR, hb1, hb2, ho, hat, hz1, hz2, hz3⟩ := hnv
      obtain ⟨a2, h5, h6, h7⟩ := ho.freeze (still_tok _) (by omega) 2
      rw [hgt]
      cases c1 : s'.number.bad with
      | true =>
        simp [go_sem, endX, resultsA, resultA, freezeL, AV.free.freeL, packA, h1, hnc, hR, isNil, c1, freezeV, AV.free]
        exact ⟨rfl, by omega, .inl ⟨rfl, rfl⟩⟩
      | false =>
        cases c2 : s'.number.waits with
        | true =>
          rw [c2] at hwt
          simp [go_sem, endX, resultsA, resultA, freezeL, AV.free.freeL, packA, h1, hnc, hR, isNil, c1, hwt, freezeV, AV.free]
          exact ⟨rfl, by omega, .inl ⟨rfl, rfl⟩⟩
        | false =>
          rw [c2] at hwt
          simp [go_sem, endX, resultsA, resultA, freezeL, AV.free.freeL, packA, h1, hnc, hR, isNil, c1, hwt, h6, h7.free, AV.free, freezeV]
          exact ⟨h7, by omega⟩
  · have hs' : (512 : Int) < (s.size : Int) := by omega
    have hs2 : 512 < s.size := by omega
    have : gTok s = ([], 3) := by unfold gTok; rw [if_pos hs2]
    rw [this]
    simp [f_glyph_Tokens, env0, go_sem, hs', hs2, endX, resultsA, resultA, freezeL, AV.free.freeL, packA, freezeV, AV.free]
    exact ⟨rfl, by omega, .inl ⟨rfl, rfl⟩⟩
end
end Go.Ev
namespace Go.Ev
open Go
def dstep (a : Nat) (c : UInt8) : Nat := a * 10 + (c.toNat - 48)
def dval (a : Nat) (l : List UInt8) : Nat := l.foldl dstep a
def digs (l : List UInt8) : Prop := ∀ c ∈ l, 48 ≤ c.toNat ∧ c.toNat ≤ 57
theorem dval_cons (a : Nat) (c : UInt8) (r : List UInt8) : dval a (c :: r) = dval (a * 10 + (c.toNat - 48)) r := by unfold dval; rw [List.foldl_cons, dstep]
theorem dval_ge : ∀ (l : List UInt8) (a : Nat), a ≤ dval a l
  | [], a => by unfold dval; rw [List.foldl_nil]; exact Nat.le_refl _
  | c :: r, a => by rw [dval_cons]; have := dval_ge r (a * 10 + (c.toNat - 48)); omega
theorem dval_nil (a : Nat) : dval a [] = a := by unfold dval; rw [List.foldl_nil]
theorem dval_app (l : List UInt8) : ∀ (a : Nat) (c : UInt8), dval a (l ++ [c]) = dval a l * 10 + (c.toNat - 48) := by
  induction l with
  | nil => intro a c; rw [List.nil_append, dval_cons, dval_nil, dval_nil]
  | cons x r ih => intro a c; rw [List.cons_append, dval_cons, dval_cons]; exact ih _ c
theorem parseM (l : List UInt8) : ∀ a, digs l → a ≤ 18446744073709551615 → Lib.parseUintM (2 ^ 64 - 1) a l = if dval a l ≤ 18446744073709551615 then .ok (dval a l) else .range := by
  induction l with
  | nil => intro a _ ha; rw [dval_nil, if_pos ha]; simp only [Lib.parseUintM]
  | cons c r ih =>
    intro a hd ha
    have hc := hd c (by simp)
    have hr : digs r := fun x hx => hd x (by simp [hx])
    rw [dval_cons]
    generalize hk : c.toNat - 48 = k
    have hge := dval_ge r (a * 10 + k)
    simp only [Lib.parseUintM, hk]
    rw [if_pos hc]
    by_cases h1 : 1844674407370955162 ≤ a
    · rw [if_pos h1, if_neg (by omega)]
    · rw [if_neg h1]
      by_cases h2 : 2 ^ 64 - 1 < a * 10 + k
      · rw [if_pos h2, if_neg (by omega)]
      · rw [if_neg h2]; exact ih _ hr (by omega)
theorem parseI {l : List UInt8} (hne : l ≠ []) (hd : digs l) : Lib.parseIntB 64 l = if dval 0 l ≤ 9223372036854775807 then .ok (dval 0 l : Int) else .range := by
  cases l with
  | nil => exact absurd rfl hne
  | cons c r =>
    have hc := hd c (by simp)
    have hU : Lib.parseUintB 64 (c :: r) = if dval 0 (c :: r) ≤ 18446744073709551615 then .ok (dval 0 (c :: r)) else .range := by
      unfold Lib.parseUintB
      rw [if_neg (by simp), parseM _ 0 hd (by omega)]
    have h1 : ¬ (c.toNat = 43 ∨ c.toNat = 45) := by omega
    have h2 : ¬ c.toNat = 45 := by omega
    unfold Lib.parseIntB
    simp only
    rw [if_neg h1, hU]
    generalize dval 0 (c :: r) = d
    by_cases h3 : d ≤ 18446744073709551615
    · rw [if_pos h3]
      simp only [h2, not_false_eq_true, true_and, false_and, if_false]
      by_cases h4 : d ≤ 9223372036854775807
      · rw [if_neg (by omega), if_pos h4]
      · rw [if_pos (by omega), if_neg h4]
    · rw [if_neg h3, if_neg (by omega)]
theorem encode_dig {x : Int} (h : isD x = true) : ∃ c : UInt8, (Utf8.encode x).data.toList = [c] ∧ (c.toNat : Int) = x ∧ 48 ≤ c.toNat ∧ c.toNat ≤ 57 := by
  have h' : 48 ≤ x ∧ x ≤ 57 := by simpa [isD] using h
  refine ⟨UInt8.ofNat x.toNat, ?_, ?_, ?_, ?_⟩
  · unfold Utf8.encode
    have hv : Utf8.valid x = true := by simp [Utf8.valid]; omega
    simp only [hv, if_true]
    rw [if_pos (by omega)]
  all_goals (rw [UInt8.toNat_ofNat']; omega)
def RS.fin : Option RS → Option (List Tok)
  | none => none
  | some s => if s.number.bad || s.number.waits then none else some s.number.out
theorem number_E {s : RS} (h : isE s.dg = true) : s.number = s := by unfold RS.number; rw [if_pos h]
theorem number_ok {s : RS} (h : isE s.dg = false) (hd : digs s.dg.data.toList) (hv : dval 0 s.dg.data.toList ≤ 9223372036854775807) : s.number = ⟨s.out ++ [⟨48, dval 0 s.dg.data.toList, 0⟩], ⟨#[]⟩, s.bad⟩ := by
  unfold RS.number
  rw [if_neg (by simp [h]), parseI (by rw [isE_eq] at h; intro e; rw [e] at h; cases h) hd, if_pos hv]
theorem number_big {s : RS} (h : isE s.dg = false) (hd : digs s.dg.data.toList) (hv : ¬ dval 0 s.dg.data.toList ≤ 9223372036854775807) : s.number.bad = true := by
  unfold RS.number
  rw [if_neg (by simp [h]), parseI (by rw [isE_eq] at h; intro e; rw [e] at h; cases h) hd, if_neg hv]
theorem isE_nil : isE ⟨#[]⟩ = true := by rw [isE_eq]; rfl
theorem known_named {x : Int} (h : x = 955 ∨ x = 960) : knownR x = true := by
  have : ∀ r : Int, hasR signsB r = true ∨ ¬ (r = 955 ∨ r = 960) := fun r => by
    have : runes signsB = [(0, 43), (1, 45), (2, 42), (3, 47), (4, 37), (5, 38), (6, 124), (7, 94), (8, 60), (9, 61), (10, 33), (11, 46), (12, 44), (13, 64), (14, 36), (15, 35), (16, 63), (17, 58), (18, 59), (19, 91), (20, 93), (21, 126), (22, 171), (24, 187), (26, 169), (28, 174), (30, 164), (32, 161), (34, 955), (36, 960)] := by decide +kernel
    by_cases h : r = 955 ∨ r = 960
    · left; unfold hasR; rw [this]; rcases h with rfl | rfl <;> rfl
    · exact .inr h
  unfold knownR
  rcases this x with h1 | h1
  · rw [h1]; simp
  · exact absurd h h1
theorem waits_app {out : List Tok} {t : Tok} {b : Bool} : RS.waits ⟨out ++ [t], ⟨#[]⟩, b⟩ = (named t.sign && t.name == 0) := by
  simp [RS.waits, isE_nil]
theorem waits_dg {s : RS} (h : isE s.dg = false) : s.waits = false := by simp [RS.waits, h]
theorem E_dg {s : RS} (h : isE s.dg = true) : s.dg = ⟨#[]⟩ := by
  rw [isE_eq] at h
  cases hs : s.dg with
  | mk d => rw [hs] at h; congr; have : d.toList = [] := by simpa using h
            exact Array.toList_eq_nil_iff.mp this
theorem tok_main : ∀ (l : List Int),
    (∀ s : RS, s.bad = false → isE s.dg = true → s.waits = false → RS.fin (gloop l s) = (tokF l .plain).map (s.out ++ ·)) ∧
    (∀ s : RS, s.bad = false → isE s.dg = false → digs s.dg.data.toList → dval 0 s.dg.data.toList ≤ 9223372036854775807 → RS.fin (gloop l s) = (tokF l (.num (dval 0 s.dg.data.toList))).map (s.out ++ ·)) ∧
    (∀ s : RS, isE s.dg = false → digs s.dg.data.toList → ¬ dval 0 s.dg.data.toList ≤ 9223372036854775807 → RS.fin (gloop l s) = none) ∧
    (∀ (s : RS) (out : List Tok) (g : Int), s.bad = false → isE s.dg = true → named g = true → s.out = out ++ [⟨g, 0, 0⟩] → RS.fin (gloop l s) = (tokF l (.name g)).map (out ++ ·)) := by
  intro l
  induction l with
  | nil =>
    refine ⟨fun s hb he hw => ?_, fun s hb he hd hv => ?_, fun s he hd hv => ?_, fun s out g hb he hg ho => ?_⟩
    · simp [gloop, RS.fin, number_E he, hb, hw, tokF]
    · simp [gloop, RS.fin, number_ok he hd hv, hb, waits_app, tokF, named]
    · simp [gloop, RS.fin, number_big he hd hv]
    · have hw : s.waits = true := by simp [RS.waits, he, ho, hg]
      simp [gloop, RS.fin, number_E he, hw, tokF]
  | cons x r ih =>
    obtain ⟨ihA, ihB, ihO, ihC⟩ := ih
    have hA : ∀ s : RS, s.bad = false → isE s.dg = true → s.waits = false → RS.fin (gloop (x :: r) s) = (tokF (x :: r) .plain).map (s.out ++ ·) := fun s hb he hw => by
      have hdg := E_dg he
      cases hD : isD x with
      | true =>
        obtain ⟨c, hc1, hc2, hc3, hc4⟩ := encode_dig hD
        have hr : s.rune x = ⟨s.out, s.dg ++ Utf8.encode x, s.bad⟩ := by simp [RS.rune, hw, hD]
        have hl : (s.dg ++ Utf8.encode x).data.toList = [c] := by rw [hdg]; simp [hc1]
        have hne : x ≠ 32 := by intro e; subst e; simp [isD] at hD
        have := ihB ⟨s.out, s.dg ++ Utf8.encode x, s.bad⟩ hb (by rw [isE_eq, hl]; rfl) (by rw [hl]; intro y hy; simp at hy; subst hy; exact ⟨hc3, hc4⟩) (by rw [hl]; simp only [dval_cons, dval_nil]; omega)
        simp only [hl] at this
        simp only [gloop, hr, hb, Bool.false_eq_true, if_false]
        rw [hb] at this
        rw [this]
        simp only [tokF, hD, if_true]
        rw [if_neg hne]
        have hv : ((dval 0 [c] : Nat) : Int) = x - 48 := by rw [dval_cons, dval_nil]; omega
        rw [hv]
      | false =>
        by_cases h32 : x = 32
        · subst h32
          have hr : s.rune 32 = s := by simp [RS.rune, hw, hD, number_E he]
          simp only [gloop, hr, hb, Bool.false_eq_true, if_false, tokF, if_true]
          exact ihA s hb he hw
        · have hr : s.rune x = ⟨s.out ++ [⟨x, 0, 0⟩], s.dg, !knownR x⟩ := by simp [RS.rune, hw, hD, number_E he, h32, hb]
          cases hk : knownR x with
          | false =>
            have hnn : ¬ (x = 955 ∨ x = 960) := fun e => by rw [known_named e] at hk; cases hk
            simp only [gloop, hr, hk, Bool.not_false, if_true, RS.fin, tokF, hD, Bool.false_eq_true, if_false]
            rw [if_neg h32, if_neg hnn]; rfl
          | true =>
            simp only [gloop, hr, hk, Bool.not_true, Bool.false_eq_true, if_false, tokF, hD, if_true]
            rw [if_neg h32]
            by_cases hnn : x = 955 ∨ x = 960
            · rw [if_pos hnn]
              exact ihC _ s.out x rfl he (by simp [named, hnn]) rfl
            · rw [if_neg hnn, map_app]
              have := ihA ⟨s.out ++ [⟨x, 0, 0⟩], s.dg, false⟩ rfl he (by rw [hdg, waits_app]; simp [named, hnn])
              exact this
    refine ⟨hA, fun s hb he hd hv => ?_, fun s he hd hv => ?_, fun s out g hb he hg ho => ?_⟩
    · have hw := waits_dg he
      cases hD : isD x with
      | true =>
        obtain ⟨c, hc1, hc2, hc3, hc4⟩ := encode_dig hD
        have hr : s.rune x = ⟨s.out, s.dg ++ Utf8.encode x, s.bad⟩ := by simp [RS.rune, hw, hD]
        have hl : (s.dg ++ Utf8.encode x).data.toList = s.dg.data.toList ++ [c] := by simp [hc1]
        have he2 : isE (s.dg ++ Utf8.encode x) = false := by rw [isE_eq, hl]; simp
        have hd2 : digs (s.dg ++ Utf8.encode x).data.toList := by
          rw [hl]; intro y hy; rw [List.mem_append] at hy
          rcases hy with hy | hy
          · exact hd y hy
          · simp at hy; subst hy; exact ⟨hc3, hc4⟩
        have hval : dval 0 (s.dg ++ Utf8.encode x).data.toList = dval 0 s.dg.data.toList * 10 + (c.toNat - 48) := by rw [hl, dval_app]
        simp only [gloop, hr, hb, Bool.false_eq_true, if_false, tokF, hD, if_true]
        by_cases ho : 9223372036854775807 < (dval 0 s.dg.data.toList : Int) * 10 + (x - 48)
        · rw [if_pos ho]
          exact ihO _ he2 hd2 (by rw [hval]; omega)
        · rw [if_neg ho]
          have := ihB ⟨s.out, s.dg ++ Utf8.encode x, false⟩ rfl he2 hd2 (by rw [hval]; omega)
          rw [this, hval]
          congr 2
          congr 1
          omega
      | false =>
        have hnum := number_ok he hd hv
        have hw2 : s.number.waits = false := by rw [hnum, waits_app]; simp [named]
        have hE2 : isE s.number.dg = true := by rw [hnum]; exact isE_nil
        have hr : s.rune x = s.number.rune x := by
          unfold RS.rune
          simp only [hw, hw2, hD, Bool.false_eq_true, if_false, number_E hE2]
        have hg : gloop (x :: r) s = gloop (x :: r) s.number := by simp only [gloop, hr]
        rw [hg, hA s.number (by rw [hnum]; exact hb) hE2 hw2, hnum]
        rw [← map_app]
        congr 1
        simp only [tokF, hD, Bool.false_eq_true, if_false]
    · have hw := waits_dg he
      cases hD : isD x with
      | true =>
        obtain ⟨c, hc1, hc2, hc3, hc4⟩ := encode_dig hD
        have hr : s.rune x = ⟨s.out, s.dg ++ Utf8.encode x, s.bad⟩ := by simp [RS.rune, hw, hD]
        have hl : (s.dg ++ Utf8.encode x).data.toList = s.dg.data.toList ++ [c] := by simp [hc1]
        have he2 : isE (s.dg ++ Utf8.encode x) = false := by rw [isE_eq, hl]; simp
        have hd2 : digs (s.dg ++ Utf8.encode x).data.toList := by
          rw [hl]; intro y hy; rw [List.mem_append] at hy
          rcases hy with hy | hy
          · exact hd y hy
          · simp at hy; subst hy; exact ⟨hc3, hc4⟩
        have hval : dval 0 (s.dg ++ Utf8.encode x).data.toList = dval 0 s.dg.data.toList * 10 + (c.toNat - 48) := by rw [hl, dval_app]
        simp only [gloop, hr]
        split
        · rfl
        · exact ihO _ he2 hd2 (by rw [hval]; omega)
      | false =>
        have hbig := number_big he hd hv
        have hr : (s.rune x).bad = true := by
          unfold RS.rune
          simp only [hw, hD, Bool.false_eq_true, if_false]
          split
          · exact hbig
          · simp [hbig]
        simp only [gloop, hr, if_true, RS.fin]
    · have hw : s.waits = true := by simp [RS.waits, he, ho, hg]
      have hr : s.rune x = ⟨out ++ [⟨g, 0, x⟩], s.dg, !nameR x⟩ := by
        simp [RS.rune, hw, RS.setName, ho, hb]
      simp only [gloop, hr, tokF]
      cases hn : nameR x with
      | false => simp [RS.fin]
      | true =>
        simp only [Bool.not_true, Bool.false_eq_true, if_false, if_true]
        rw [map_app]
        have hx0 : (x == 0) = false := by
          cases h0 : x == 0 with
          | false => rfl
          | true => simp at h0; subst h0; simp [nameR] at hn
        exact ihA ⟨out ++ [⟨g, 0, x⟩], s.dg, false⟩ rfl he (by rw [E_dg he, waits_app]; simp [hx0])
theorem gTok_eq (s : ByteArray) : gTok s = toksN s := by
  unfold gTok toksN
  split
  · rfl
  · have := (tok_main (runesI s)).1 ⟨[], ⟨#[]⟩, false⟩ rfl isE_nil (by simp [RS.waits])
    simp only [List.nil_append] at this
    have h2 : (tokF (runesI s) .plain).map (fun x => x) = tokF (runesI s) .plain := by cases tokF (runesI s) .plain <;> rfl
    rw [h2] at this
    rw [← this]
    cases gloop (runesI s) ⟨[], ⟨#[]⟩, false⟩ with
    | none => rfl
    | some s' =>
      simp only [RS.fin]
      split
      · rfl
      · rfl
end Go.Ev
namespace Go.Ev
open Go
def i64c (x : Int) : List AV := [.int .i64 x]
def n64c (x : Nat) : List AV := [.int .i64 x]
def sgn (l : List Tok) (i : Nat) : Int := match l[i]? with | some t => t.sign | none => 0
structure NS where
  to : List Int
  op : List Nat
  deep : Nat
def TOV (h : H) (bar : Nat) (a : AV) (id : Nat) (to : List Int) : Prop := a = .sl id 0 1 to.length true ∧ bar ≤ id ∧ id < h.n ∧ h.get id = some (.cells (to.flatMap i64c) 0)
theorem i64_get {to : List Int} {i : Nat} (hi : i < to.length) : (to.flatMap i64c)[i]? = some (.int .i64 to[i]) := by
  have := flat_get0 (c := i64c) (k := 1) (fun _ => rfl) to i to[i] (by omega) (List.getElem?_eq_getElem hi)
  simpa [i64c] using this
theorem i64_set {to : List Int} {i : Nat} (hi : i < to.length) (v : Int) : splice (to.flatMap i64c) i [.int .i64 v] = (to.set i v).flatMap i64c := by
  have := flat_splice (c := i64c) (k := 1) (fun _ => rfl) [] 0 [.int .i64 v] v to i to[i] (List.getElem?_eq_getElem hi) (by simp) rfl
  simpa using this
theorem i64_len (to : List Int) : (to.flatMap i64c).length = to.length := by rw [flat_len (k := 1) (fun _ => rfl), Nat.mul_one]
theorem tok_cases {a : AV} {l : List Tok} (v : FzV 3 a l.length (l.flatMap Tok.cells)) : (a = .nilsl ∧ l = []) ∨
    ∃ full cs, a = .fz 3 l.length cs full ∧ (cs.length = l.length * 3) = True ∧ (∀ i, i < l.length → cs[i * 3]? = some (.int .i32 (sgn l i))) ∧
      ∀ i (hi : i < l.length), i * 3 + 3 ≤ cs.length ∧ (cs.drop (i * 3)).take 3 = l[i].cells := by
  obtain ⟨h1, h2, ⟨h3, h4⟩ | ⟨full, h3⟩⟩ := v
  · exact .inl ⟨h3, List.length_eq_zero_iff.mp h4⟩
  · refine .inr ⟨full, _, h3, by simp only [h1], fun i hi => ?_, fun i hi => ⟨by rw [h1]; omega, flat_row Tok.cells_len l i _ (List.getElem?_eq_getElem hi)⟩⟩
    have := flat_get0 Tok.cells_len l i l[i] (by omega) (List.getElem?_eq_getElem hi)
    rw [this]
    simp [Tok.cells, sgn, hi]
end Go.Ev
namespace Go.Ev
open Go
section
variable {pr : Oracle} {bar : Nat} {h : H}
theorem TOV.set {g : H} {a : AV} {id : Nat} {to : List Int} (v : TOV g bar a id to) {i : Nat} (hi : i < to.length) (x : Int) : TOV (g.set id (.cells (splice (to.flatMap i64c) i [.int .i64 x]) 0)) bar a id (to.set i x) := by
  obtain ⟨h1, h2, h3, h4⟩ := v
  exact ⟨by rw [h1, List.length_set], h2, h3, by rw [get_set, if_pos rfl, i64_set hi]⟩
theorem TOV.mono {g g' : H} {a : AV} {id : Nat} {to : List Int} (v : TOV g bar a id to) (hn : g.n ≤ g'.n) (hg : g'.get id = g.get id) : TOV g' bar a id to := by
  obtain ⟨h1, h2, h3, h4⟩ := v
  exact ⟨h1, h2, by omega, by rw [hg]; exact h4⟩
theorem sp10 (a v : AV) : splice [a] 0 [v] = [v] := Eq.trans rfl rfl
theorem still_i64 (l : List Int) : (l.flatMap i64c).all AV.still = true := by
  rw [List.all_eq_true]; intro x hx; rw [List.mem_flatMap] at hx; obtain ⟨r, _, hx⟩ := hx; simp [i64c] at hx; subst hx; rfl
theorem TOV.freeze {g : H} {a : AV} {id : Nat} {to : List Int} (v : TOV g bar a id to) (hn : to.length ≤ 9223372036854775807) (d : Nat) : ∃ a' h', freezeV bar (d + 2) g a = some (a', h') ∧ FzV 1 a' to.length (to.flatMap i64c) := by
  obtain ⟨rfl, h2, h3, h4⟩ := v
  have hf : (to.flatMap i64c).all AV.free = true := by have := still_i64 to; rw [List.all_eq_true] at this ⊢; exact fun x hx => still_free (this x hx)
  have ho : (to.flatMap i64c).all AV.one = true := by have := still_i64 to; rw [List.all_eq_true] at this ⊢; exact fun x hx => still_one (this x hx)
  refine ⟨.fz 1 to.length (to.flatMap i64c) true, g.set id (.cells (to.flatMap i64c) (max 0 (0 + to.length * 1))), ?_, by rw [i64_len, Nat.mul_one], hn, .inr ⟨true, rfl⟩⟩
  have hcs : ((to.flatMap i64c).drop 0).take (to.length * 1) = to.flatMap i64c := by rw [List.drop_zero, Nat.mul_one, ← i64_len to, List.take_length]
  simp only [freezeV, h4]
  rw [if_pos ⟨h2, by rw [i64_len]; omega⟩, hcs, freezeL_still (still_i64 to)]
  simp only
  rw [if_pos ⟨hf, ho⟩]
theorem rep_i64 : ∀ n, rep [.int .i64 0] n = (List.replicate n (0 : Int)).flatMap i64c
  | 0 => rfl
  | n + 1 => by rw [List.replicate_succ, List.flatMap_cons, ← rep_i64 n]; rfl
end
end Go.Ev
namespace Go.Ev
open Go
structure Pt where
  loop : Bool
  fr : Nat
  ot : Nat
  leaves : List Nat
structure Mt where
  to : List Int
  op : List Pt
  deep : Nat
structure Pa where
  p : Pt
  lv : AV
def Pa.c (x : Pa) : List AV := [.bool x.p.loop, .int .i64 (x.p.fr : Nat), .int .i64 (x.p.ot : Nat), x.lv]
theorem Pa.c_len (x : Pa) : x.c.length = 4 := rfl
def setAll (v : Int) : List Nat → List Int → List Int
  | [], to => to
  | k :: r, to => setAll v r (to.set k v)
theorem setAll_len (v : Int) : ∀ (l : List Nat) (to : List Int), (setAll v l to).length = to.length
  | [], to => rfl
  | k :: r, to => by rw [setAll, setAll_len v r, List.length_set]
def lastLoop : List Pt → Nat → Option Nat
  | _, 0 => none
  | op, k + 1 => match op[k]? with | some p => if p.loop then some k else lastLoop op k | none => none
def pstep (sg : Int) (i : Nat) (s : Mt) : Option Mt :=
  if sg = 63 then (if s.op.length + 1 ≤ 16 then some ⟨s.to, s.op ++ [⟨false, i, 0, []⟩], max s.deep (s.op.length + 1)⟩ else none) else
  if sg = 91 then (if s.op.length + 1 ≤ 16 then some ⟨s.to, s.op ++ [⟨true, i, 0, []⟩], max s.deep (s.op.length + 1)⟩ else none) else
  if sg = 58 then (match s.op.getLast? with | none => none | some p => if p.loop || decide (0 < p.ot) then none else some ⟨s.to.set p.fr (i + 1 : Nat), s.op.set (s.op.length - 1) ⟨p.loop, p.fr, i, p.leaves⟩, s.deep⟩) else
  if sg = 59 then (match s.op.getLast? with | none => none | some p => if p.loop then none else some ⟨s.to.set (if 0 < p.ot then p.ot else p.fr) i, s.op.dropLast, s.deep⟩) else
  if sg = 93 then (match s.op.getLast? with | none => none | some p => if p.loop then some ⟨setAll (i + 1 : Nat) p.leaves (s.to.set i p.fr), s.op.dropLast, s.deep⟩ else none) else
  if sg = 126 then (match lastLoop s.op s.op.length with | none => none | some k => match s.op[k]? with | some p => some ⟨s.to, s.op.set k ⟨p.loop, p.fr, p.ot, p.leaves ++ [i]⟩, s.deep⟩ | none => none) else
  some s
def LV (g : H) (b M tid : Nat) (oa : AV) (x : Pa) : Prop := OS 1 g b x.lv x.p.leaves.length (x.p.leaves.flatMap n64c) ∧ ¬ x.lv.isAt M ∧ ¬ x.lv.isAt tid ∧ oa.apart x.lv
def PtOk (N : Nat) (p : Pt) : Prop := p.fr < N ∧ p.ot < N ∧ (∀ k ∈ p.leaves, k < N) ∧ p.leaves.length ≤ N
structure MVp (g : H) (b M tid : Nat) (s : Mt) (oa : AV) (ps : List Pa) : Prop where
  cell : g.get M = some (.cells [.sl tid 0 1 s.to.length true, oa, .int .i64 (s.deep : Nat)] 0)
  bM : b ≤ M
  Mn : M < g.n
  ne : tid ≠ M
  to : TOV g b (.sl tid 0 1 s.to.length true) tid s.to
  os : OS 4 g b oa ps.length (ps.flatMap Pa.c)
  oM : ¬ oa.isAt M
  ot : ¬ oa.isAt tid
  map : s.op = ps.map Pa.p
  lv : ∀ x ∈ ps, LV g b M tid oa x
  pw : ps.Pairwise fun x y => x.lv.apart y.lv
  ok : ∀ p ∈ s.op, PtOk s.to.length p
  dn : s.op.length ≤ 1000
def MV (g : H) (b M tid : Nat) (s : Mt) : Prop := ∃ oa ps, MVp g b M tid s oa ps
theorem LV.mono {g g' : H} {b M tid : Nat} {oa : AV} {x : Pa} (v : LV g b M tid oa x) (hn : g.n ≤ g'.n) (hf : ∀ j, j < g.n → j ≠ M → j ≠ tid → ¬ oa.isAt j → g'.get j = g.get j) : LV g' b M tid oa x :=
  ⟨v.1.mono hn (fun j hj => hf j (v.1.at_lt hj).2 (fun e => v.2.1 (e ▸ hj)) (fun e => v.2.2.1 (e ▸ hj)) (fun hj2 => v.2.2.2 j hj2 hj)), v.2⟩
section
variable {pr : Oracle} {bar b : Nat} {g : H}
theorem top_ok (M tid : Nat) (s : Mt) (oa : AV) (ps : List Pa) (hv : MVp g b M tid s oa ps) : ∃ r, call tb pr n_nest_matcher_top [.ptr M 0] bar g = some (r, g) ∧ ((s.op = [] ∧ ps = [] ∧ r = .nilptr) ∨ ∃ id, ps ≠ [] ∧ oa = .sl id 0 4 ps.length false ∧ r = .ptr id ((ps.length - 1) * 4)) := by
  suffices hw : ∃ r h', callF (call tb pr) f_nest_matcher_top [.ptr M 0] bar g = some (r, h') ∧ h' = g ∧ ((s.op = [] ∧ ps = [] ∧ r = .nilptr) ∨ ∃ id, ps ≠ [] ∧ oa = .sl id 0 4 ps.length false ∧ r = .ptr id ((ps.length - 1) * 4)) by
    obtain ⟨r, h', h1, rfl, h2⟩ := hw; exact ⟨r, call_of tb_nest_matcher_top h1, h2⟩
  refine callF_K rfl rfl fun K hK => ?_
  by_cases hne : ps = []
  · have h0 : ps.length = 0 := by rw [hne]; rfl
    have hs : s.op = [] := by rw [hv.map, hne]; rfl
    simp [f_nest_matcher_top, env0, go_sem, endP, endI, resultsA, resultA, freezeL, freezeV, AV.free.freeL, AV.free, packA, dropS, hv.cell, isNil, hv.os.len, h0]
    exact ⟨_, _, ⟨rfl, rfl⟩, hK _ _ ⟨rfl, .inl ⟨hs, hne, rfl⟩⟩⟩
  · obtain ⟨id, all, rfl, e1, e2, e3, e4, e5, e6, e7⟩ := hv.os.elems Pa.c_len hne
    have hpos := List.length_pos_iff.mpr hne
    have hdn := hv.dn
    have hlen : s.op.length = ps.length := by rw [hv.map, List.length_map]
    have h0 : ((ps.length : Int) == 0) = false := by simp; omega
    have hw : IntKind.i64.wrap ((ps.length : Int) - 1) = ((ps.length - 1 : Nat) : Int) := by rw [w64 (by omega) (by omega)]; omega
    have h1 : ps.length - 1 < ps.length := by omega
    have h2 : ((ps.length - 1 : Nat) : Int) < (ps.length : Int) := by omega
    simp [f_nest_matcher_top, env0, go_sem, endP, endI, resultsA, resultA, freezeL, freezeV, AV.free.freeL, AV.free, packA, dropS, hv.cell, isNil, h0, hw, indexIn, h1, h2]
    exact ⟨_, _, ⟨rfl, rfl⟩, hK _ _ ⟨rfl, .inr ⟨id, hne, rfl, rfl⟩⟩⟩
theorem PtOk.mono {N N' : Nat} {p : Pt} (h : PtOk N p) (hn : N = N') : PtOk N' p := hn ▸ h
theorem begin_ok (M tid : Nat) (s : Mt) (i : Nat) (lp : Bool) (hb : b ≤ g.n) (hbb : bar ≤ b) (hi : i < s.to.length) (hl : s.op.length ≤ 900) (hto : s.to.length ≤ 100000) (hv : MV g b M tid s) : ∃ r g', call tb pr n_nest_matcher_begin [.ptr M 0, .int .i64 (i : Nat), .bool lp] bar g = some (r, g') ∧ g.n ≤ g'.n ∧ (∀ j, j < b → g'.get j = g.get j) ∧
    r = .bool (decide (s.op.length + 1 ≤ 16)) ∧ MV g' b M tid ⟨s.to, s.op ++ [⟨lp, i, 0, []⟩], max s.deep (s.op.length + 1)⟩ := by
  suffices hw : ∃ r g', callF (call tb pr) f_nest_matcher_begin [.ptr M 0, .int .i64 (i : Nat), .bool lp] bar g = some (r, g') ∧ (g.n ≤ g'.n ∧ (∀ j, j < b → g'.get j = g.get j) ∧
    r = .bool (decide (s.op.length + 1 ≤ 16)) ∧ MV g' b M tid ⟨s.to, s.op ++ [⟨lp, i, 0, []⟩], max s.deep (s.op.length + 1)⟩) by
    obtain ⟨r, h', h1, h2⟩ := hw; exact ⟨r, h', call_of tb_nest_matcher_begin h1, h2⟩
  refine callF_K rfl rfl fun K hK => ?_
  obtain ⟨oa, ps, hv⟩ := hv
  have hlen : s.op.length = ps.length := by rw [hv.map, List.length_map]
  obtain ⟨a', g', e1, e2, e3, e4, e5⟩ := hv.os.app' hb hbb 48 (Pa.c ⟨⟨lp, i, 0, []⟩, .nilsl⟩) rfl rfl (by omega) (by omega) (by omega)
  simp only [Pa.c, Int.natCast_zero] at e1
  have hMb : bar ≤ M := Nat.le_trans hbb hv.bM
  have hgM : g'.get M = some (.cells [.sl tid 0 1 s.to.length true, oa, .int .i64 (s.deep : Nat)] 0) := by rw [e4 M hv.Mn hv.oM]; exact hv.cell
  have hcm : (if ((ps.length : Int) + 1) > (s.deep : Int) then ((ps.length : Int) + 1) else (s.deep : Int)) = ((max s.deep (s.op.length + 1) : Nat) : Int) := by
    rw [hlen]; split <;> omega
  have hoM : ¬ a'.isAt M := fun hj => by have := e5 _ hj; have := hv.Mn; omega
  have hot : ¬ a'.isAt tid := fun hj => by have := e5 _ hj; have := hv.to.2.2.1; omega
  have hfr : ∀ c d, ∀ j, j < g.n → j ≠ M → ¬ oa.isAt j → ((g'.set M c).set M d).get j = g.get j := fun c d j h1 h2 h3 => by
    rw [get_set_ne h2, get_set_ne h2, e4 j h1 h3]
  have h16 : ((ps.length : Int) + 1 ≤ 16) = (s.op.length + 1 ≤ 16) := by rw [hlen, eq_iff_iff]; omega
  simp [f_nest_matcher_begin, env0, go_sem, endP, endI, resultsA, resultA, freezeL, freezeV, AV.free.freeL, AV.free, packA, dropS, get_alloc, n_alloc, get_set, n_set, get_kill, n_kill, writeAt, a11, a21, a31, a41, a51, a61, a71, hv.cell, isNil, evParts, fillA, splice, e1, hgM, hMb, e2.one, hv.os.one, e2.len, hcm, h16, hv.to.1]
  refine ⟨_, _, ⟨rfl, rfl⟩, hK _ _ ⟨by simp only [n_set]; omega, fun j hj => hfr _ _ j (by omega) (by have := hv.bM; omega) (fun hj2 => by have := hv.os.at_lt hj2; omega), by simp [packA], a', ps ++ [⟨⟨lp, i, 0, []⟩, .nilsl⟩], ?_⟩⟩
  have hn3 : g.n + 2 = g'.n := e3.symm
  exact {
    cell := by rw [get_set, if_pos rfl]
    bM := hv.bM
    Mn := by have := hv.Mn; simp only [n_set]; omega
    ne := hv.ne
    to := hv.to.mono (by simp only [n_set]; omega) (hfr _ _ tid hv.to.2.2.1 hv.ne hv.ot)
    os := by
      have := (e2.set (.cells [.sl tid 0 1 s.to.length true, a', .int .i64 (s.deep : Nat)] 0) hoM).set (.cells [.sl tid 0 1 s.to.length true, a', .int .i64 (max s.deep (s.op.length + 1) : Nat)] 0) hoM
      simpa [Pa.c] using this
    oM := hoM
    ot := hot
    map := by simp [hv.map]
    lv := fun x hx => by
      rw [List.mem_append] at hx
      rcases hx with hx | hx
      · have hL := hv.lv x hx
        have h2 := hL.mono (g' := (g'.set M (.cells [.sl tid 0 1 s.to.length true, a', .int .i64 (s.deep : Nat)] 0)).set M (.cells [.sl tid 0 1 s.to.length true, a', .int .i64 (max s.deep (s.op.length + 1) : Nat)] 0)) (by simp only [n_set]; omega) (fun j q1 q2 q3 q4 => hfr _ _ j q1 q2 q4)
        exact ⟨h2.1, h2.2.1, h2.2.2.1, fun j q1 q2 => by have := e5 _ q1; have := hL.1.at_lt q2; omega⟩
      · simp at hx; subst hx
        exact ⟨OS.nil, fun h => h, fun h => h, fun j q1 q2 => q2⟩
    pw := by
      rw [List.pairwise_append]
      exact ⟨hv.pw, List.pairwise_singleton _ _, fun x hx y hy => by simp at hy; subst hy; exact fun j q1 q2 => q2⟩
    ok := fun p hp => by
      rw [List.mem_append] at hp
      rcases hp with hp | hp
      · exact hv.ok p hp
      · simp at hp; subst hp
        exact ⟨hi, by show 0 < s.to.length; omega, by simp, Nat.zero_le _⟩
    dn := by simp; omega }
theorem MVp.last {M tid : Nat} {s : Mt} {oa : AV} {ps : List Pa} (hv : MVp g b M tid s oa ps) (hne : ps ≠ []) : ∃ id all x, oa = .sl id 0 4 ps.length false ∧ b ≤ id ∧ id < g.n ∧ g.get id = some (.cells all 0) ∧ id ≠ M ∧ id ≠ tid ∧
    ps[ps.length - 1]? = some x ∧ x ∈ ps ∧ s.op.getLast? = some x.p ∧ s.op.length = ps.length ∧ (ps.length - 1) * 4 + 4 ≤ all.length ∧
    (all[(ps.length - 1) * 4]? = some (.bool x.p.loop) ∧ all[(ps.length - 1) * 4 + 1]? = some (.int .i64 (x.p.fr : Nat)) ∧ all[(ps.length - 1) * 4 + 2]? = some (.int .i64 (x.p.ot : Nat)) ∧ all[(ps.length - 1) * 4 + 3]? = some x.lv) ∧
    (∀ h : H, g.n ≤ h.n → h.get id = g.get id → OS 4 h b (.sl id 0 4 (ps.length - 1) false) ps.dropLast.length (ps.dropLast.flatMap Pa.c)) ∧
    (∀ i x x' f vs (h : H), ps[i]? = some x → f + vs.length ≤ 4 → Pa.c x' = splice (Pa.c x) f vs → (Pa.c x').all AV.one = true → g.n ≤ h.n → h.get id = some (.cells (splice all (i * 4 + f) vs) 0) → OS 4 h b oa (ps.set i x').length ((ps.set i x').flatMap Pa.c)) ∧
    (∀ i x, ps[i]? = some x → i * 4 + 4 ≤ all.length ∧ all[i * 4]? = some (.bool x.p.loop) ∧ all[i * 4 + 1]? = some (.int .i64 (x.p.fr : Nat)) ∧ all[i * 4 + 2]? = some (.int .i64 (x.p.ot : Nat)) ∧ all[i * 4 + 3]? = some x.lv) := by
  obtain ⟨id, all, hoa, e1, e2, e3, e4, e5, e6, e7⟩ := hv.os.elems Pa.c_len hne
  obtain ⟨x, hx1, hx2, hx3, hx4⟩ := drop_last_split hne
  have hM := hv.oM
  have hT := hv.ot
  rw [hoa] at hM hT
  have hall : ∀ i x, ps[i]? = some x → i * 4 + 4 ≤ all.length ∧ all[i * 4]? = some (.bool x.p.loop) ∧ all[i * 4 + 1]? = some (.int .i64 (x.p.fr : Nat)) ∧ all[i * 4 + 2]? = some (.int .i64 (x.p.ot : Nat)) ∧ all[i * 4 + 3]? = some x.lv := fun i x hx => by
    obtain ⟨hi, _⟩ := List.getElem?_eq_some_iff.mp hx
    exact ⟨by omega, e5 i x 0 hx (by omega), e5 i x 1 hx (by omega), e5 i x 2 hx (by omega), e5 i x 3 hx (by omega)⟩
  refine ⟨id, all, x, hoa, e1, e2, e3, hM, hT, hx3, ?_, ?_, by rw [hv.map, List.length_map], (hall _ _ hx3).1, (hall _ _ hx3).2, e6, e7, hall⟩
  · exact List.mem_of_getElem? hx3
  · rw [hv.map, List.getLast?_map, hx1]; rfl
theorem MVp.upd {M tid : Nat} {s : Mt} {oa : AV} {ps : List Pa} (hv : MVp g b M tid s oa ps) {h : H} {s' : Mt} {oa' : AV} {ps' : List Pa}
    (hcell : h.get M = some (.cells [.sl tid 0 1 s'.to.length true, oa', .int .i64 (s'.deep : Nat)] 0)) (hn : g.n ≤ h.n) (hto : TOV h b (.sl tid 0 1 s'.to.length true) tid s'.to) (hlen : s'.to.length = s.to.length)
    (hos : OS 4 h b oa' ps'.length (ps'.flatMap Pa.c)) (hoM : ¬ oa'.isAt M) (hot : ¬ oa'.isAt tid) (hmap : s'.op = ps'.map Pa.p) (hsub : ∀ x ∈ ps', ∃ y ∈ ps, y.lv = x.lv ∧ y.p.leaves = x.p.leaves)
    (hpw : ps'.Pairwise fun x y => x.lv.apart y.lv) (hap : ∀ j, oa'.isAt j → oa.isAt j) (hfr : ∀ j, j < g.n → j ≠ M → j ≠ tid → ¬ oa.isAt j → h.get j = g.get j) (hok : ∀ p ∈ s'.op, PtOk s.to.length p) (hdn : s'.op.length ≤ 1000) : MVp h b M tid s' oa' ps' where
  cell := hcell
  bM := hv.bM
  Mn := by have := hv.Mn; omega
  ne := hv.ne
  to := hto
  os := hos
  oM := hoM
  ot := hot
  map := hmap
  lv := fun x hx => by
    obtain ⟨y, hy, e1, e2⟩ := hsub x hx
    have h1 := (hv.lv y hy).mono hn hfr
    unfold LV at h1
    rw [e1, e2] at h1
    exact ⟨h1.1, h1.2.1, h1.2.2.1, fun j q1 q2 => h1.2.2.2 j (hap j q1) q2⟩
  pw := hpw
  ok := fun p hp => hlen ▸ hok p hp
  dn := hdn
theorem set_sub {ps : List Pa} {i : Nat} {x x' : Pa} (hx : ps[i]? = some x) (h1 : x'.lv = x.lv) (h2 : x'.p.leaves = x.p.leaves) : (∀ y ∈ ps.set i x', ∃ z ∈ ps, z.lv = y.lv ∧ z.p.leaves = y.p.leaves) ∧ ((ps.Pairwise fun x y => x.lv.apart y.lv) → (ps.set i x').Pairwise fun x y => x.lv.apart y.lv) := by
  refine ⟨fun y hy => ?_, fun hp => ?_⟩
  · rcases List.mem_or_eq_of_mem_set hy with hy | rfl
    · exact ⟨y, hy, rfl, rfl⟩
    · exact ⟨x, List.mem_of_getElem? hx, h1.symm, h2.symm⟩
  · have hm : (ps.set i x').map Pa.lv = ps.map Pa.lv := by
      rw [List.map_set, h1]
      apply List.ext_getElem?
      intro j
      rw [List.getElem?_set]
      split
      · rename_i e; subst e
        split
        · rw [List.getElem?_map, hx]; rfl
        · rename_i h; simp at h; rw [List.getElem?_map, hx] ; simp [List.getElem?_eq_none_iff.mpr h] at hx
      · rfl
    have h3 : (ps.map Pa.lv).Pairwise AV.apart := List.pairwise_map.mpr hp
    rw [← hm] at h3
    exact List.pairwise_map.mp h3
theorem pos_facts {n : Nat} (h : 0 < n) (hn : n ≤ 1000) : IntKind.i64.wrap ((n : Int) - 1) = ((n - 1 : Nat) : Int) ∧ n - 1 < n ∧ ((n - 1 : Nat) : Int) < (n : Int) ∧ ((n : Int) == 0) = false ∧ 0 ≤ (n : Int) - 1 ∧ ((n : Int) - 1).toNat = n - 1 ∧ n - 1 ≤ n :=
  ⟨by rw [w64 (by omega) (by omega)]; omega, by omega, by omega, by simp; omega, by omega, by omega, by omega⟩
theorem other_ok (M tid : Nat) (s : Mt) (i : Nat) (hb : b ≤ g.n) (hbb : bar ≤ b) (hi : i < s.to.length) (hto : s.to.length ≤ 100000) (hv : MV g b M tid s) : ∃ r g', call tb pr n_nest_matcher_other [.ptr M 0, .int .i64 (i : Nat)] bar g = some (r, g') ∧ g.n ≤ g'.n ∧ (∀ j, j < b → g'.get j = g.get j) ∧
    (match s.op.getLast? with | none => r = .bool false | some p => if p.loop || decide (0 < p.ot) then r = .bool false else r = .bool true ∧ MV g' b M tid ⟨s.to.set p.fr (i + 1 : Nat), s.op.set (s.op.length - 1) ⟨p.loop, p.fr, i, p.leaves⟩, s.deep⟩) := by
  suffices hw : ∃ r g', callF (call tb pr) f_nest_matcher_other [.ptr M 0, .int .i64 (i : Nat)] bar g = some (r, g') ∧ (g.n ≤ g'.n ∧ (∀ j, j < b → g'.get j = g.get j) ∧
    (match s.op.getLast? with | none => r = .bool false | some p => if p.loop || decide (0 < p.ot) then r = .bool false else r = .bool true ∧ MV g' b M tid ⟨s.to.set p.fr (i + 1 : Nat), s.op.set (s.op.length - 1) ⟨p.loop, p.fr, i, p.leaves⟩, s.deep⟩)) by
    obtain ⟨r, h', h1, h2⟩ := hw; exact ⟨r, h', call_of tb_nest_matcher_other h1, h2⟩
  refine callF_K rfl rfl fun K hK => ?_
  obtain ⟨oa, ps, hv⟩ := hv
  obtain ⟨r, hc, hr⟩ := top_ok (pr := pr) (bar := bar) M tid s oa ps hv
  rcases hr with ⟨hop, hps, rfl⟩ | ⟨id, hne, hoa, rfl⟩
  · have hg : s.op.getLast? = none := by rw [hop]; rfl
    rw [hg] at hK
    simp [f_nest_matcher_other, env0, go_sem, endP, endI, resultsA, resultA, freezeL, freezeV, AV.free.freeL, AV.free, packA, dropS, hc, isNilK]
    exact ⟨_, _, ⟨rfl, rfl⟩, hK _ _ ⟨Nat.le_refl _, fun _ _ => rfl, rfl⟩⟩
  · obtain ⟨id', all, x, hoa', h1, h2, h3, h4, h5, h6, h7, h8, h9, h10, h11, h12, h13, h14⟩ := hv.last hne
    rw [hoa] at hoa'
    injection hoa' with hid
    subst hid
    rw [h8] at hK
    simp only at hK
    have hdn := hv.dn
    cases hlp : x.p.loop with
    | true =>
      simp only [hlp, Bool.true_or, if_true] at hK
      simp [f_nest_matcher_other, env0, go_sem, endP, endI, resultsA, resultA, freezeL, freezeV, AV.free.freeL, AV.free, packA, dropS, hc, isNilK, isNil, h3, h11, hlp]
      exact ⟨_, _, ⟨rfl, rfl⟩, hK _ _ ⟨Nat.le_refl _, fun _ _ => rfl, rfl⟩⟩
    | false =>
      by_cases hot : 0 < x.p.ot
      · have hot' : (0 : Int) < (x.p.ot : Int) := by omega
        simp only [hlp, hot, decide_true, Bool.or_true, if_true] at hK
        simp [f_nest_matcher_other, env0, go_sem, endP, endI, resultsA, resultA, freezeL, freezeV, AV.free.freeL, AV.free, packA, dropS, hc, isNilK, isNil, h3, h11, hlp, hot]
        exact ⟨_, _, ⟨rfl, rfl⟩, hK _ _ ⟨Nat.le_refl _, fun _ _ => rfl, rfl⟩⟩
      · have hot' : ¬ (0 : Int) < (x.p.ot : Int) := by omega
        simp only [hlp, hot, decide_false, Bool.or_false, Bool.false_eq_true, if_false] at hK
        have hbi : bar ≤ id := by omega
        have hle : (ps.length - 1) * 4 + 2 + 1 ≤ all.length := by omega
        obtain ⟨_, hTb, hTn, hTg⟩ := hv.to
        have hpk := hv.ok x.p (by rw [hv.map]; exact List.mem_map_of_mem h7)
        have hfrl : (x.p.fr : Int) < (s.to.length : Int) := by have := hpk.1; omega
        have hle2 : x.p.fr + 1 ≤ (s.to.flatMap i64c).length := by rw [i64_len]; have := hpk.1; omega
        have hw := w64_succ (n := i) (by omega)
        have hbt : bar ≤ tid := by omega
        have hT1 := (hv.to.mono (g' := g.set id (.cells (splice all ((ps.length - 1) * 4 + 2) [.int .i64 (i : Nat)]) 0)) (Nat.le_refl _) (get_set_ne (fun e => h5 e.symm))).set hpk.1 ((i + 1 : Nat) : Int)
        have hg11 : (splice all ((ps.length - 1) * 4 + 2) [.int .i64 (i : Nat)])[(ps.length - 1) * 4 + 1]? = some (.int .i64 (x.p.fr : Nat)) := by
          unfold splice
          rw [List.append_assoc, List.getElem?_append_left (by rw [List.length_take]; omega), List.getElem?_take_of_lt (by omega)]
          exact h11.2.1
        have hos := h13 (ps.length - 1) x ⟨⟨x.p.loop, x.p.fr, i, x.p.leaves⟩, x.lv⟩ 2 [.int .i64 (i : Nat)] ((g.set id (.cells (splice all ((ps.length - 1) * 4 + 2) [.int .i64 (i : Nat)]) 0)).set tid (.cells (splice (s.to.flatMap i64c) x.p.fr [.int .i64 ((i + 1 : Nat) : Int)]) 0)) h6 (by simp) rfl
          (by have := (hv.lv x h7).1.one; simp [Pa.c, this, AV.one]; exact this) (by simp [n_set]) (by rw [get_set_ne h5, get_set, if_pos rfl])
        have hfr : ∀ j, j ≠ id → j ≠ tid → ((g.set id (.cells (splice all ((ps.length - 1) * 4 + 2) [.int .i64 (i : Nat)]) 0)).set tid (.cells (splice (s.to.flatMap i64c) x.p.fr [.int .i64 ((i + 1 : Nat) : Int)]) 0)).get j = g.get j := fun j q1 q2 => by rw [get_set_ne q2, get_set_ne q1]
        have hM1 : ((g.set id (.cells (splice all ((ps.length - 1) * 4 + 2) [.int .i64 (i : Nat)]) 0))).get M = g.get M := get_set_ne (fun e => h4 e.symm)
        have hti : ((g.set id (.cells (splice all ((ps.length - 1) * 4 + 2) [.int .i64 (i : Nat)]) 0))).get tid = g.get tid := get_set_ne (fun e => h5 e.symm)
        generalize htc : s.to.flatMap i64c = tc at *
        generalize hg1 : g.set id (.cells (splice all ((ps.length - 1) * 4 + 2) [.int .i64 (i : Nat)]) 0) = g1 at *
        have hg1i : g1.get id = some (.cells (splice all ((ps.length - 1) * 4 + 2) [.int .i64 (i : Nat)]) 0) := by rw [← hg1, get_set, if_pos rfl]
        generalize hal : splice all ((ps.length - 1) * 4 + 2) [.int .i64 (i : Nat)] = all1 at *
        have hg1n : g1.n = g.n := by rw [← hg1]; rfl
        simp [f_nest_matcher_other, env0, go_sem, endP, endI, resultsA, resultA, freezeL, freezeV, AV.free.freeL, AV.free, packA, dropS, get_alloc, n_alloc, get_set, n_set, get_kill, n_kill, writeAt, a11, a21, a31, a41, a51, a61, a71, hc, isNilK, isNil, h3, h11, hlp, hot, hot', hbi, hle, hal, hg1, hM1, hv.cell, hg1i, hg11, hTg, hti, indexIn, hfrl, hw, hbt, hle2]
        have hss := set_sub (x' := ⟨⟨x.p.loop, x.p.fr, i, x.p.leaves⟩, x.lv⟩) h6 rfl rfl
        refine ⟨_, _, ⟨rfl, rfl⟩, hK _ _ ⟨by simp only [n_set]; omega, fun j hj => by have := hfr j (by omega) (by omega); simpa using this, rfl, oa, ps.set (ps.length - 1) ⟨⟨x.p.loop, x.p.fr, i, x.p.leaves⟩, x.lv⟩, ?_⟩⟩
        rw [← hlp]
        have hT2 : TOV (g1.set tid (.cells (splice tc x.p.fr [.int .i64 ((i + 1 : Nat) : Int)]) 0)) b (.sl tid 0 1 (s.to.set x.p.fr ((i + 1 : Nat) : Int)).length true) tid (s.to.set x.p.fr ((i + 1 : Nat) : Int)) := by
          rw [List.length_set]; exact hT1
        refine hv.upd (s' := ⟨s.to.set x.p.fr (i + 1 : Nat), s.op.set (s.op.length - 1) ⟨x.p.loop, x.p.fr, i, x.p.leaves⟩, s.deep⟩) ?_ (by simp only [n_set]; omega) hT2 (List.length_set) hos hv.oM hv.ot ?_ hss.1 (hss.2 hv.pw) (fun j q => q) (fun j q1 q2 q3 q4 => ?_) (fun p hp => ?_) (by simp; exact hv.dn)
        · rw [get_set_ne (fun e => hv.ne e.symm), hM1, hv.cell]; simp [hoa]
        · rw [hv.map, List.map_set, List.length_map]
        · exact hfr j (fun e => q4 (by rw [hoa, e]; rfl)) q3
        · rcases List.mem_or_eq_of_mem_set hp with hp | rfl
          · exact hv.ok p hp
          · exact ⟨hpk.1, hi, hpk.2.2⟩
end
end Go.Ev
namespace Go.Ev
open Go
section
variable {pr : Oracle} {bar b : Nat} {g : H}
theorem drop_sub {ps : List Pa} : (∀ y ∈ ps.dropLast, ∃ z ∈ ps, z.lv = y.lv ∧ z.p.leaves = y.p.leaves) ∧ ((ps.Pairwise fun x y => x.lv.apart y.lv) → ps.dropLast.Pairwise fun x y => x.lv.apart y.lv) :=
  ⟨fun y hy => ⟨y, by rw [List.dropLast_eq_take] at hy; exact List.mem_of_mem_take hy, rfl, rfl⟩, fun h => h.sublist (List.dropLast_sublist _)⟩
theorem endIf_ok (M tid : Nat) (s : Mt) (i : Nat) (hb : b ≤ g.n) (hbb : bar ≤ b) (hi : i < s.to.length) (hto : s.to.length ≤ 100000) (hv : MV g b M tid s) : ∃ r g', call tb pr n_nest_matcher_endIf [.ptr M 0, .int .i64 (i : Nat)] bar g = some (r, g') ∧ g.n ≤ g'.n ∧ (∀ j, j < b → g'.get j = g.get j) ∧
    (match s.op.getLast? with | none => r = .bool false | some p => if p.loop then r = .bool false else r = .bool true ∧ MV g' b M tid ⟨s.to.set (if 0 < p.ot then p.ot else p.fr) i, s.op.dropLast, s.deep⟩) := by
  suffices hw : ∃ r g', callF (call tb pr) f_nest_matcher_endIf [.ptr M 0, .int .i64 (i : Nat)] bar g = some (r, g') ∧ (g.n ≤ g'.n ∧ (∀ j, j < b → g'.get j = g.get j) ∧
    (match s.op.getLast? with | none => r = .bool false | some p => if p.loop then r = .bool false else r = .bool true ∧ MV g' b M tid ⟨s.to.set (if 0 < p.ot then p.ot else p.fr) i, s.op.dropLast, s.deep⟩)) by
    obtain ⟨r, h', h1, h2⟩ := hw; exact ⟨r, h', call_of tb_nest_matcher_endIf h1, h2⟩
  refine callF_K rfl rfl fun K hK => ?_
  obtain ⟨oa, ps, hv⟩ := hv
  obtain ⟨r, hc, hr⟩ := top_ok (pr := pr) (bar := bar) M tid s oa ps hv
  rcases hr with ⟨hop, hps, rfl⟩ | ⟨id, hne, hoa, rfl⟩
  · have hg : s.op.getLast? = none := by rw [hop]; rfl
    rw [hg] at hK
    simp [f_nest_matcher_endIf, env0, go_sem, endP, endI, resultsA, resultA, freezeL, freezeV, AV.free.freeL, AV.free, packA, dropS, hc, isNilK]
    exact ⟨_, _, ⟨rfl, rfl⟩, hK _ _ ⟨Nat.le_refl _, fun _ _ => rfl, rfl⟩⟩
  · obtain ⟨id', all, x, hoa', h1, h2, h3, h4, h5, h6, h7, h8, h9, h10, h11, h12, h13, h14⟩ := hv.last hne
    rw [hoa] at hoa'
    injection hoa' with hid
    subst hid
    rw [h8] at hK
    simp only at hK
    have hdn := hv.dn
    cases hlp : x.p.loop with
    | true =>
      simp only [hlp, if_true] at hK
      simp [f_nest_matcher_endIf, env0, go_sem, endP, endI, resultsA, resultA, freezeL, freezeV, AV.free.freeL, AV.free, packA, dropS, hc, isNilK, isNil, h3, h11, hlp]
      exact ⟨_, _, ⟨rfl, rfl⟩, hK _ _ ⟨Nat.le_refl _, fun _ _ => rfl, rfl⟩⟩
    | false =>
      simp only [hlp, Bool.false_eq_true, if_false] at hK
      obtain ⟨q1, q2, q3, q4, q5, q6, q7⟩ := pos_facts (List.length_pos_iff.mpr hne) (by omega)
      have hpk := hv.ok x.p (by rw [hv.map]; exact List.mem_map_of_mem h7)
      have hbt : bar ≤ tid := by have := hv.to.2.1; omega
      have hbM : bar ≤ M := by have := hv.bM; omega
      obtain ⟨w, hwd⟩ : ∃ w, w = (if 0 < x.p.ot then x.p.ot else x.p.fr) := ⟨_, rfl⟩
      rw [← hwd] at hK
      have hwl : w < s.to.length := by rw [hwd]; split; exact hpk.2.1; exact hpk.1
      have hwl' : (w : Int) < (s.to.length : Int) := by omega
      have hle2 : w + 1 ≤ (s.to.flatMap i64c).length := by rw [i64_len]; omega
      have hT1 := hv.to.set hwl (i : Int)
      obtain ⟨_, hTb, hTn, hTg⟩ := hv.to
      have hfr : ∀ c j, j ≠ M → j ≠ tid → ((g.set tid (.cells (splice (s.to.flatMap i64c) w [.int .i64 (i : Int)]) 0)).set M c).get j = g.get j := fun c j e1 e2 => by rw [get_set_ne e1, get_set_ne e2]
      have hM1 : (g.set tid (.cells (splice (s.to.flatMap i64c) w [.int .i64 (i : Int)]) 0)).get M = g.get M := get_set_ne (fun e => hv.ne e.symm)
      have hT2 : TOV ((g.set tid (.cells (splice (s.to.flatMap i64c) w [.int .i64 (i : Int)]) 0)).set M (.cells [.sl tid 0 1 s.to.length true, .sl id 0 4 (ps.length - 1) false, .int .i64 (s.deep : Nat)] 0)) b (.sl tid 0 1 (s.to.set w (i : Int)).length true) tid (s.to.set w (i : Int)) := by
        rw [List.length_set]; exact hT1.mono (Nat.le_refl _) (get_set_ne hv.ne)
      have hos := h12 ((g.set tid (.cells (splice (s.to.flatMap i64c) w [.int .i64 (i : Int)]) 0)).set M (.cells [.sl tid 0 1 s.to.length true, .sl id 0 4 (ps.length - 1) false, .int .i64 (s.deep : Nat)] 0)) (Nat.le_refl _) (hfr _ _ h4 h5)
      generalize htc : s.to.flatMap i64c = tc at *
      generalize hg1 : g.set tid (.cells (splice tc w [.int .i64 (i : Int)]) 0) = g1 at *
      have hg1n : g1.n = g.n := by rw [← hg1]; rfl
      have hfin : MV (g1.set M (.cells [.sl tid 0 1 s.to.length true, .sl id 0 4 (ps.length - 1) false, .int .i64 (s.deep : Nat)] 0)) b M tid ⟨s.to.set w (i : Int), s.op.dropLast, s.deep⟩ := by
        refine ⟨.sl id 0 4 (ps.length - 1) false, ps.dropLast, hv.upd ?_ (by simp only [n_set]; omega) hT2 (List.length_set) hos h4 h5 ?_ drop_sub.1 (drop_sub.2 hv.pw) (fun j q => by rw [hoa]; exact q) (fun j e1 e2 e3 e4 => hfr _ j e2 e3) (fun p hp => ?_) ?_⟩
        · rw [get_set, if_pos rfl, List.length_set]
        · simp only [hv.map, List.map_dropLast]
        · exact hv.ok p (by rw [List.dropLast_eq_take] at hp; exact List.mem_of_mem_take hp)
        · show s.op.dropLast.length ≤ 1000; rw [List.length_dropLast]; omega
      have hfrb : ∀ c j, j < b → (g1.set M c).get j = g.get j := fun c j hj => hfr c j (by have := hv.bM; omega) (by omega)
      subst hoa
      by_cases hot : 0 < x.p.ot
      · have hot' : (0 : Int) < (x.p.ot : Int) := by omega
        have hwo : w = x.p.ot := by rw [hwd, if_pos hot]
        rw [hwo] at hwl hwl' hle2 hg1
        simp [f_nest_matcher_endIf, env0, go_sem, endP, endI, resultsA, resultA, freezeL, freezeV, AV.free.freeL, AV.free, packA, dropS, get_alloc, n_alloc, get_set, n_set, get_kill, n_kill, writeAt, a11, a21, a31, a41, a51, a61, a71, hc, isNilK, isNil, h3, h11, hlp, hot, hot', hg1, hM1, hv.cell, hTg, indexIn, hwl', hwl, hbt, hbM, hle2, q1, q2, q3, sliceA, optEv, optBound, bound, q5, q6, q7, sp30, sp31, sp32]
        exact ⟨_, _, ⟨rfl, rfl⟩, hK _ _ ⟨by simp only [n_set]; omega, hfrb _, rfl, hfin⟩⟩
      · have hot' : ¬ (0 : Int) < (x.p.ot : Int) := by omega
        have hwo : w = x.p.fr := by rw [hwd, if_neg hot]
        rw [hwo] at hwl hwl' hle2 hg1
        simp [f_nest_matcher_endIf, env0, go_sem, endP, endI, resultsA, resultA, freezeL, freezeV, AV.free.freeL, AV.free, packA, dropS, get_alloc, n_alloc, get_set, n_set, get_kill, n_kill, writeAt, a11, a21, a31, a41, a51, a61, a71, hc, isNilK, isNil, h3, h11, hlp, hot, hot', hg1, hM1, hv.cell, hTg, indexIn, hwl', hwl, hbt, hbM, hle2, q1, q2, q3, sliceA, optEv, optBound, bound, q5, q6, q7, sp30, sp31, sp32]
        exact ⟨_, _, ⟨rfl, rfl⟩, hK _ _ ⟨by simp only [n_set]; omega, hfrb _, rfl, hfin⟩⟩
theorem n64c_get {l : List Nat} {h : H} {bar : Nat} {a : AV} (v : OS 1 h bar a l.length (l.flatMap n64c)) (hne : l ≠ []) : ∃ id all, a = .sl id 0 1 l.length false ∧ bar ≤ id ∧ id < h.n ∧ h.get id = some (.cells all 0) ∧ ∀ i (hi : i < l.length), all[i]? = some (.int .i64 (l[i] : Nat)) := by
  obtain ⟨id, all, e0, e1, e2, e3, e4, e5, e6, e7⟩ := v.elems (c := n64c) (fun _ => rfl) hne
  exact ⟨id, all, e0, e1, e2, e3, fun i hi => by have := e5 i l[i] 0 (List.getElem?_eq_getElem hi) Nat.one_pos; simpa [n64c] using this⟩
theorem endLoop_loop (M tid : Nat) (i : Nat) (N : Nat) (hi : i < N) (hN : N ≤ 100000) (leaves : List Nat) (lv : AV) (g0 : H) (hM : ∃ oa dp, g0.get M = some (.cells [.sl tid 0 1 N true, oa, dp] 0)) (hne : tid ≠ M) (hbt : bar ≤ tid) (hlv : OS 1 g0 b lv leaves.length (leaves.flatMap n64c)) (hlt : ¬ lv.isAt tid) (hk : ∀ k ∈ leaves, k < N) (hll : leaves.length ≤ 100000) (Q : Ex → Env → H → Prop) : ∀ (k idx : Nat) (gk : H) (to : List Int), leaves.length = idx + k → to.length = N →
    gk.get tid = some (.cells (to.flatMap i64c) 0) → (∀ j, j ≠ tid → gk.get j = g0.get j) → gk.n = g0.n →
    (∀ e g', e.get 0 = some (.ptr M 0) → g'.get tid = some (.cells ((setAll ((i + 1 : Nat) : Int) (leaves.drop idx) to).flatMap i64c) 0) → (∀ j, j ≠ tid → g'.get j = g0.get j) → g'.n = g0.n → Q (.exit 0) e g') →
    wpL (call tb pr) bar [0, 1, 32, 33, 34] l0_nest_matcher_endLoop [(0, .ptr M 0), (1, .int .i64 (i : Nat)), (32, lv), (33, goI leaves.length), (34, goI idx)] gk Q := by
  intro k
  induction k with
  | zero =>
    intro idx gk to hl htl ht hj hn hq
    refine M_loop l0_nest_matcher_endLoop.eq_1 ?_
    simp [go_sem, hl]
    exact hq _ _ rfl (by rw [List.drop_eq_nil_of_le (by omega)]; exact ht) hj hn
  | succ k ih =>
    intro idx gk to hl htl ht hj hn hq
    refine M_loop l0_nest_matcher_endLoop.eq_1 ?_
    have hx : idx < leaves.length := by omega
    have hx' : (idx : Int) < (leaves.length : Int) := by omega
    have hnl : leaves ≠ [] := fun e => by rw [e] at hx; cases hx
    obtain ⟨lid, all, rfl, e1, e2, e3, e4⟩ := n64c_get hlv hnl
    have hd : leaves.drop idx = leaves[idx] :: leaves.drop (idx + 1) := List.drop_eq_getElem_cons hx
    have hw := w64_succ (n := idx) (by omega)
    have hw2 := w64_succ (n := i) (by omega)
    have hkb := hk _ (List.getElem_mem hx)
    have hkb' : (leaves[idx] : Int) < (N : Int) := by omega
    have hle : leaves[idx] + 1 ≤ (to.flatMap i64c).length := by rw [i64_len]; omega
    have hlid : gk.get lid = some (.cells all 0) := by rw [hj lid hlt]; exact e3
    obtain ⟨oa, dp, hM⟩ := hM
    have hMk : gk.get M = some (.cells [.sl tid 0 1 N true, oa, dp] 0) := by rw [hj M (fun e => hne e.symm)]; exact hM
    have hset := i64_set (to := to) (i := leaves[idx]) (by omega) ((i + 1 : Nat) : Int)
    have h4 := e4 idx hx
    generalize htc : to.flatMap i64c = tc at *
    generalize hlk : leaves[idx] = lk at *
    simp [go_sem, get_alloc, n_alloc, get_set, n_set, get_kill, n_kill, writeAt, a11, a21, a31, a41, a51, a61, a71, hx, hx', indexIn, hlid, h4, hMk, isNil, hw, hw2, hkb, hkb', ht, hbt, hle]
    refine ih (idx + 1) _ (to.set lk ((i + 1 : Nat) : Int)) (by omega) (by rw [List.length_set]; exact htl) ?_ (fun j q => by rw [get_set_ne q, hj j q]) (by simp only [n_set]; exact hn) (fun e g' q1 q2 q3 q4 => hq e g' q1 (by rw [hd]; simp only [setAll]; exact q2) q3 q4)
    rw [get_set, if_pos rfl]
    congr 2
theorem endLoop_ok (M tid : Nat) (s : Mt) (i : Nat) (hb : b ≤ g.n) (hbb : bar ≤ b) (hi : i < s.to.length) (hto : s.to.length ≤ 100000) (hv : MV g b M tid s) : ∃ r g', call tb pr n_nest_matcher_endLoop [.ptr M 0, .int .i64 (i : Nat)] bar g = some (r, g') ∧ g.n ≤ g'.n ∧ (∀ j, j < b → g'.get j = g.get j) ∧
    (match s.op.getLast? with | none => r = .bool false | some p => if p.loop then r = .bool true ∧ MV g' b M tid ⟨setAll (i + 1 : Nat) p.leaves (s.to.set i p.fr), s.op.dropLast, s.deep⟩ else r = .bool false) := by
  suffices hw : ∃ r g', callF (call tb pr) f_nest_matcher_endLoop [.ptr M 0, .int .i64 (i : Nat)] bar g = some (r, g') ∧ (g.n ≤ g'.n ∧ (∀ j, j < b → g'.get j = g.get j) ∧
    (match s.op.getLast? with | none => r = .bool false | some p => if p.loop then r = .bool true ∧ MV g' b M tid ⟨setAll (i + 1 : Nat) p.leaves (s.to.set i p.fr), s.op.dropLast, s.deep⟩ else r = .bool false)) by
    obtain ⟨r, h', h1, h2⟩ := hw; exact ⟨r, h', call_of tb_nest_matcher_endLoop h1, h2⟩
  refine callF_K rfl rfl fun K hK => ?_
  obtain ⟨oa, ps, hv⟩ := hv
  obtain ⟨r, hc, hr⟩ := top_ok (pr := pr) (bar := bar) M tid s oa ps hv
  rcases hr with ⟨hop, hps, rfl⟩ | ⟨id, hne, hoa, rfl⟩
  · have hg : s.op.getLast? = none := by rw [hop]; rfl
    rw [hg] at hK
    simp [f_nest_matcher_endLoop, env0, go_sem, endP, endI, resultsA, resultA, freezeL, freezeV, AV.free.freeL, AV.free, packA, dropS, hc, isNilK]
    exact ⟨_, _, ⟨rfl, rfl⟩, hK _ _ ⟨Nat.le_refl _, fun _ _ => rfl, rfl⟩⟩
  · obtain ⟨id', all, x, hoa', h1, h2, h3, h4, h5, h6, h7, h8, h9, h10, h11, h12, h13, h14⟩ := hv.last hne
    rw [hoa] at hoa'
    injection hoa' with hid
    subst hid
    rw [h8] at hK
    simp only at hK
    have hdn := hv.dn
    cases hlp : x.p.loop with
    | false =>
      simp only [hlp, Bool.false_eq_true, if_false] at hK
      simp [f_nest_matcher_endLoop, env0, go_sem, endP, endI, resultsA, resultA, freezeL, freezeV, AV.free.freeL, AV.free, packA, dropS, hc, isNilK, isNil, h3, h11, hlp]
      exact ⟨_, _, ⟨rfl, rfl⟩, hK _ _ ⟨Nat.le_refl _, fun _ _ => rfl, rfl⟩⟩
    | true =>
      simp only [hlp, if_true] at hK
      obtain ⟨q1, q2, q3, q4, q5, q6, q7⟩ := pos_facts (List.length_pos_iff.mpr hne) (by omega)
      have hpk := hv.ok x.p (by rw [hv.map]; exact List.mem_map_of_mem h7)
      have hbt : bar ≤ tid := by have := hv.to.2.1; omega
      have hbM : bar ≤ M := by have := hv.bM; omega
      have hi' : (i : Int) < (s.to.length : Int) := by omega
      have hle2 : i + 1 ≤ (s.to.flatMap i64c).length := by rw [i64_len]; omega
      have hT1 := hv.to.set hi (x.p.fr : Int)
      obtain ⟨_, hTb, hTn, hTg⟩ := hv.to
      have hL := hv.lv x h7
      have hM1 : (g.set tid (.cells (splice (s.to.flatMap i64c) i [.int .i64 (x.p.fr : Int)]) 0)).get M = g.get M := get_set_ne (fun e => hv.ne e.symm)
      have hid1 : (g.set tid (.cells (splice (s.to.flatMap i64c) i [.int .i64 (x.p.fr : Int)]) 0)).get id = g.get id := get_set_ne h5
      have hlv1 : OS 1 (g.set tid (.cells (splice (s.to.flatMap i64c) i [.int .i64 (x.p.fr : Int)]) 0)) b x.lv x.p.leaves.length (x.p.leaves.flatMap n64c) := hL.1.set _ hL.2.2.1
      obtain ⟨_, _, _, hT1g⟩ := hT1
      have hall1 : ∀ j, j ≠ tid → (g.set tid (.cells (splice (s.to.flatMap i64c) i [.int .i64 (x.p.fr : Int)]) 0)).get j = g.get j := fun j hj => get_set_ne hj
      generalize htc : s.to.flatMap i64c = tc at *
      generalize hg1 : g.set tid (.cells (splice tc i [.int .i64 (x.p.fr : Int)]) 0) = g1 at *
      have hg1n : g1.n = g.n := by rw [← hg1]; rfl
      subst hoa
      simp [f_nest_matcher_endLoop, env0, go_sem, get_alloc, n_alloc, get_set, n_set, get_kill, n_kill, writeAt, a11, a21, a31, a41, a51, a61, a71, hc, isNilK, isNil, h3, h11, hlp, hg1, hM1, hv.cell, hTg, indexIn, hi, hi', hbt, hle2, hid1, hlv1.len]
      refine endLoop_loop (b := b) M tid i s.to.length hi hto x.p.leaves x.lv g1 ⟨_, _, by rw [hM1]; exact hv.cell⟩ hv.ne hbt hlv1 hL.2.2.1 hpk.2.2.1 (by have := hpk.2.2.2; omega) _ x.p.leaves.length 0 g1 (s.to.set i (x.p.fr : Int)) (by omega) (List.length_set) hT1g (fun _ _ => rfl) rfl (fun e g' p1 p2 p3 p4 => ?_)
      rw [List.drop_zero] at p2
      have hgM : g'.get M = some (.cells [.sl tid 0 1 s.to.length true, .sl id 0 4 ps.length false, .int .i64 (s.deep : Nat)] 0) := by rw [p3 M (fun e => hv.ne e.symm), hM1]; exact hv.cell
      have hfr : ∀ c j, j ≠ M → j ≠ tid → (g'.set M c).get j = g.get j := fun c j e1 e2 => by rw [get_set_ne e1, p3 j e2, hall1 j e2]
      have hlen2 : (setAll ((i + 1 : Nat) : Int) x.p.leaves (s.to.set i (x.p.fr : Int))).length = s.to.length := by rw [setAll_len, List.length_set]
      have hos := h12 (g'.set M (.cells [.sl tid 0 1 s.to.length true, .sl id 0 4 (ps.length - 1) false, .int .i64 (s.deep : Nat)] 0)) (by simp only [n_set]; omega) (hfr _ _ h4 h5)
      have hT2 : TOV (g'.set M (.cells [.sl tid 0 1 s.to.length true, .sl id 0 4 (ps.length - 1) false, .int .i64 (s.deep : Nat)] 0)) b (.sl tid 0 1 (setAll ((i + 1 : Nat) : Int) x.p.leaves (s.to.set i (x.p.fr : Int))).length true) tid (setAll ((i + 1 : Nat) : Int) x.p.leaves (s.to.set i (x.p.fr : Int))) :=
        ⟨rfl, hTb, by simp only [n_set]; omega, by rw [get_set_ne hv.ne]; exact p2⟩
      simp [go_sem, get_alloc, n_alloc, get_set, n_set, get_kill, n_kill, writeAt, a11, a21, a31, a41, a51, a61, a71, endP, endI, resultsA, resultA, freezeL, freezeV, AV.free.freeL, AV.free, packA, dropS, p1, isNil, hgM, hbM, q1, q2, q3, sliceA, optEv, optBound, bound, q5, q6, q7, sp30, sp31, sp32]
      refine ⟨_, _, ⟨rfl, rfl⟩, hK _ _ ⟨by simp only [n_set]; omega, fun j hj => hfr _ j (by have := hv.bM; omega) (by omega), rfl, .sl id 0 4 (ps.length - 1) false, ps.dropLast, hv.upd ?_ (by simp only [n_set]; omega) hT2 hlen2 hos h4 h5 ?_ drop_sub.1 (drop_sub.2 hv.pw) (fun j q => q) (fun j e1 e2 e3 e4 => hfr _ j e2 e3) (fun p hp => ?_) ?_⟩⟩
      · rw [get_set, if_pos rfl, hlen2]
      · simp only [hv.map, List.map_dropLast]
      · exact hv.ok p (by rw [List.dropLast_eq_take] at hp; exact List.mem_of_mem_take hp)
      · show s.op.dropLast.length ≤ 1000; rw [List.length_dropLast]; omega
end
end Go.Ev
namespace Go.Ev
open Go
section
variable {pr : Oracle} {bar b : Nat} {g : H}
theorem pairwise_set {A : Type} {R : A → A → Prop} (hs : ∀ x y, R x y → R y x) (a : A) : ∀ (l : List A) (k : Nat), l.Pairwise R → (∀ y ∈ l, R a y) → (l.set k a).Pairwise R
  | [], _, _, _ => by simp
  | x :: l, 0, h, ha => by
    rw [List.set_cons_zero, List.pairwise_cons]
    rw [List.pairwise_cons] at h
    exact ⟨fun y hy => ha y (List.mem_cons_of_mem _ hy), h.2⟩
  | x :: l, k + 1, h, ha => by
    rw [List.set_cons_succ, List.pairwise_cons]
    rw [List.pairwise_cons] at h
    refine ⟨fun y hy => ?_, pairwise_set hs a l k h.2 fun y hy => ha y (List.mem_cons_of_mem _ hy)⟩
    rcases List.mem_or_eq_of_mem_set hy with hy | rfl
    · exact h.1 y hy
    · exact hs _ _ (ha x (by simp))
theorem leave_loop (M tid : Nat) (s : Mt) (i : Nat) (hb : b ≤ g.n) (hbb : bar ≤ b) (hi : i < s.to.length) (hto : s.to.length ≤ 100000) (oa : AV) (ps : List Pa) (hv : MVp g b M tid s oa ps) (hlv : ∀ p ∈ s.op, p.leaves.length ≤ i) (Q : Ex → Env → H → Prop) : ∀ (n : Nat), n ≤ s.op.length →
    (∀ e g' k p, e.get 4 = some (.bool true) → lastLoop s.op n = some k → s.op[k]? = some p → g.n ≤ g'.n → (∀ j, j < b → g'.get j = g.get j) → MV g' b M tid ⟨s.to, s.op.set k ⟨p.loop, p.fr, p.ot, p.leaves ++ [i]⟩, s.deep⟩ → Q .ret e g') →
    (∀ e, lastLoop s.op n = none → Q (.exit 0) e g) →
    wpL (call tb pr) bar [0, 1, 5] l0_nest_matcher_leave [(0, .ptr M 0), (1, .int .i64 (i : Nat)), (5, .int .i64 ((n : Int) - 1))] g Q := by
  intro n
  induction n with
  | zero =>
    intro hn h1 h2
    refine M_loop l0_nest_matcher_leave.eq_1 ?_
    simp [go_sem]
    exact h2 _ rfl
  | succ k ih =>
    intro hn h1 h2
    refine M_loop l0_nest_matcher_leave.eq_1 ?_
    have hlen : s.op.length = ps.length := by rw [hv.map, List.length_map]
    have hdn := hv.dn
    have hne : ps ≠ [] := List.length_pos_iff.mp (by omega)
    obtain ⟨id, all, _, hoa, e1, e2, e3, e4, e5, _, _, _, _, _, _, _, e13, e14⟩ := hv.last hne
    have hk : k < ps.length := by omega
    have hk' : (k : Int) < (ps.length : Int) := by omega
    have hxk : ps[k]? = some ps[k] := List.getElem?_eq_getElem hk
    obtain ⟨f0, f1, f2, f3, f4⟩ := e14 k ps[k] hxk
    have hop : s.op[k]? = some ps[k].p := by rw [hv.map, List.getElem?_map, hxk]; rfl
    have hmem : ps[k] ∈ ps := List.getElem_mem hk
    have hkk : ((k + 1 : Nat) : Int) - 1 = (k : Int) := by omega
    rw [hkk]
    have hll : lastLoop s.op (k + 1) = if ps[k].p.loop then some k else lastLoop s.op k := by simp only [lastLoop, hop]
    have hpos : (0 : Int) ≤ (k : Int) := by omega
    subst hoa
    generalize ps[k] = x at *
    cases hlp : x.p.loop with
    | false =>
      have hw : IntKind.i64.wrap ((k : Int) - 1) = (k : Int) - 1 := w64 (by omega) (by omega)
      simp [go_sem, hv.cell, isNil, indexIn, hk, hk', e3, f1, hlp, hw]
      refine ih (by omega) (fun e g' j p q1 q2 => h1 e g' j p q1 (by rw [hll, hlp]; exact q2)) (fun e q => h2 e (by rw [hll, hlp]; exact q))
    | true =>
      have hL := hv.lv x hmem
      have hpl := hlv x.p (by rw [hv.map]; exact List.mem_map_of_mem hmem)
      obtain ⟨a', g', c1, c2, c3, c4, c5⟩ := hL.1.app' hb hbb 8 (n64c i) rfl rfl (by omega) (by omega) (by omega)
      simp only [n64c] at c1
      have hgi : g'.get id = some (.cells all 0) := by rw [c4 id e2 (hL.2.2.2 id rfl)]; exact e3
      have hgM : g'.get M = some (.cells [.sl tid 0 1 s.to.length true, .sl id 0 4 ps.length false, .int .i64 (s.deep : Nat)] 0) := by rw [c4 M hv.Mn hL.2.1]; exact hv.cell
      have hbi : bar ≤ id := by omega
      have hle : k * 4 + 3 + 1 ≤ all.length := by omega
      have n1 : id ≠ g.n := by omega
      have n2 : M ≠ g.n := by have := hv.Mn; omega
      simp [go_sem, get_alloc, n_alloc, get_set, n_set, get_kill, n_kill, writeAt, a11, a21, a31, a41, a51, a61, a71, hv.cell, isNil, indexIn, hk, hk', e3, f1, hlp]
      refine ⟨⟨?_, ?_, ?_, ?_⟩, ?_⟩
      · refine sees_of rfl ?_
        simp [R_nil, R_cons, RS_some, sameV_some, seesQ_some, List.take, List.take_succ_cons, List.take_zero, go_sem, get_alloc, n_alloc, get_set, n_set, get_kill, n_kill, writeAt, a11, a21, a31, a41, a51, a61, a71, hv.cell, isNil, indexIn, hk, hk', e3, f4, evParts, fillA, sp10, n1, n2]
      · refine sees_of rfl ?_
        simp [R_nil, R_cons, RS_some, sameV_some, seesQ_some, List.take, List.take_succ_cons, List.take_zero, go_sem, get_alloc, n_alloc, get_set, n_set, get_kill, n_kill, writeAt, a11, a21, a31, a41, a51, a61, a71, hv.cell, isNil, indexIn, hk, hk', e3, f4, evParts, fillA, sp10, n1, n2, c1, hgM, hgi]
      · refine sees_of rfl ?_
        simp [R_nil, R_cons, RS_some, sameV_some, seesQ_some, List.take, List.take_succ_cons, List.take_zero, go_sem, get_alloc, n_alloc, get_set, n_set, get_kill, n_kill, writeAt, a11, a21, a31, a41, a51, a61, a71, hv.cell, isNil, indexIn, hk, hk', e3, f4, evParts, fillA, sp10, n1, n2]
      · refine sees_of rfl ?_
        simp [R_nil, R_cons, RS_some, sameV_some, seesQ_some, List.take, List.take_succ_cons, List.take_zero, go_sem, get_alloc, n_alloc, get_set, n_set, get_kill, n_kill, writeAt, a11, a21, a31, a41, a51, a61, a71, hv.cell, isNil, indexIn, hk, hk', e3, f4, evParts, fillA, sp10, n1, n2]
      · simp [go_sem, get_alloc, n_alloc, get_set, n_set, get_kill, n_kill, writeAt, a11, a21, a31, a41, a51, a61, a71, hv.cell, isNil, indexIn, hk, hk', e3, f4, evParts, fillA, sp10, n1, n2, c1, hgM, hgi, hbi, hle, c2.one]
        have hat' : ∀ j, j < g.n → ¬ a'.isAt j := fun j hj q => by have := c5 _ q; omega
        have hfr : ∀ c j, j < g.n → j ≠ id → ¬ x.lv.isAt j → (g'.set id c).get j = g.get j := fun c j q1 q2 q3 => by rw [get_set_ne q2, c4 j q1 q3]
        have hos := e13 k x ⟨⟨x.p.loop, x.p.fr, x.p.ot, x.p.leaves ++ [i]⟩, a'⟩ 3 [a'] (g'.set id (.cells (splice all (k * 4 + 3) [a']) 0)) hxk (by simp) rfl (by simp [Pa.c, c2.one, AV.one]; exact c2.one) (by simp only [n_set]; omega) (by rw [get_set, if_pos rfl])
        refine h1 _ _ k x.p rfl (by rw [hll, hlp, if_pos rfl]) hop (by simp only [n_set]; omega) (fun j hj => hfr _ j (by omega) (by omega) (fun q => by have := hL.1.at_lt q; omega)) ⟨.sl id 0 4 ps.length false, ps.set k ⟨⟨x.p.loop, x.p.fr, x.p.ot, x.p.leaves ++ [i]⟩, a'⟩, ?_⟩
        exact {
          cell := by rw [get_set_ne (fun e => e4 e.symm)]; exact hgM
          bM := hv.bM
          Mn := by have := hv.Mn; simp only [n_set]; omega
          ne := hv.ne
          to := hv.to.mono (by simp only [n_set]; omega) (hfr _ tid hv.to.2.2.1 (fun e => e5 e.symm) hL.2.2.1)
          os := hos
          oM := hv.oM
          ot := hv.ot
          map := by show s.op.set k _ = _; rw [hv.map, List.map_set]
          lv := fun y hy => by
            obtain ⟨j, hj⟩ := List.mem_iff_getElem?.mp hy
            rw [List.getElem?_set] at hj
            by_cases hkj : k = j
            · rw [if_pos hkj, if_pos (by omega)] at hj
              injection hj with hj
              subst hj
              refine ⟨?_, hat' _ hv.Mn, hat' _ hv.to.2.2.1, fun j q1 q2 => by cases q1; exact hat' _ e2 q2⟩
              have := c2.set (id := id) (.cells (splice all (k * 4 + 3) [a']) 0) (hat' id e2)
              simpa [n64c] using this
            · rw [if_neg hkj] at hj
              have hy2 := hv.lv y (List.mem_of_getElem? hj)
              have hap : x.lv.apart y.lv := by
                have hpw := List.pairwise_iff_getElem.mp hv.pw
                obtain ⟨hj1, hj2⟩ := List.getElem?_eq_some_iff.mp hj
                obtain ⟨hk1, hk2⟩ := List.getElem?_eq_some_iff.mp hxk
                rcases Nat.lt_or_gt_of_ne hkj with hlt | hlt
                · have := hpw k j hk1 hj1 hlt; rw [hj2, hk2] at this; exact this
                · have := hpw j k hj1 hk1 hlt; rw [hj2, hk2] at this; exact this.symm
              refine ⟨hy2.1.mono (by simp only [n_set]; omega) (fun q hq => hfr _ q (hy2.1.at_lt hq).2 (fun e => hy2.2.2.2 q (by rw [e]; rfl) hq) (fun q2 => hap q q2 hq)), hy2.2⟩
          pw := by
            have h3 : (ps.map Pa.lv).Pairwise AV.apart := List.pairwise_map.mpr hv.pw
            have h4 := pairwise_set (fun _ _ h => AV.apart.symm h) a' (ps.map Pa.lv) k h3 (fun y hy j q1 q2 => by
              obtain ⟨z, hz, rfl⟩ := List.mem_map.mp hy
              exact hat' j ((hv.lv z hz).1.at_lt q2).2 q1)
            have h5 : (ps.set k ⟨⟨x.p.loop, x.p.fr, x.p.ot, x.p.leaves ++ [i]⟩, a'⟩).map Pa.lv = (ps.map Pa.lv).set k a' := by rw [List.map_set]
            rw [← h5] at h4
            exact List.pairwise_map.mp h4
          ok := fun p hp => by
            rcases List.mem_or_eq_of_mem_set hp with hp | rfl
            · exact hv.ok p hp
            · have hpk := hv.ok x.p (by rw [hv.map]; exact List.mem_map_of_mem hmem)
              refine ⟨hpk.1, hpk.2.1, fun q hq => ?_, by simp; omega⟩
              rw [List.mem_append] at hq
              rcases hq with hq | hq
              · exact hpk.2.2.1 q hq
              · simp at hq; subst hq; exact hi
          dn := by simp; exact hv.dn }
theorem leave_ok (M tid : Nat) (s : Mt) (i : Nat) (hb : b ≤ g.n) (hbb : bar ≤ b) (hi : i < s.to.length) (hto : s.to.length ≤ 100000) (hv : MV g b M tid s) (hlv : ∀ p ∈ s.op, p.leaves.length ≤ i) : ∃ r g', call tb pr n_nest_matcher_leave [.ptr M 0, .int .i64 (i : Nat)] bar g = some (r, g') ∧ g.n ≤ g'.n ∧ (∀ j, j < b → g'.get j = g.get j) ∧
    (match lastLoop s.op s.op.length with | none => r = .bool false | some k => match s.op[k]? with | some p => r = .bool true ∧ MV g' b M tid ⟨s.to, s.op.set k ⟨p.loop, p.fr, p.ot, p.leaves ++ [i]⟩, s.deep⟩ | none => False) := by
  suffices hw : ∃ r g', callF (call tb pr) f_nest_matcher_leave [.ptr M 0, .int .i64 (i : Nat)] bar g = some (r, g') ∧ (g.n ≤ g'.n ∧ (∀ j, j < b → g'.get j = g.get j) ∧
    (match lastLoop s.op s.op.length with | none => r = .bool false | some k => match s.op[k]? with | some p => r = .bool true ∧ MV g' b M tid ⟨s.to, s.op.set k ⟨p.loop, p.fr, p.ot, p.leaves ++ [i]⟩, s.deep⟩ | none => False)) by
    obtain ⟨r, h', h1, h2⟩ := hw; exact ⟨r, h', call_of tb_nest_matcher_leave h1, h2⟩
  refine callF_K rfl rfl fun K hK => ?_
  obtain ⟨oa, ps, hv⟩ := hv
  have hlen : s.op.length = ps.length := by rw [hv.map, List.length_map]
  have hdn := hv.dn
  have hw : IntKind.i64.wrap ((ps.length : Int) - 1) = (s.op.length : Int) - 1 := by rw [w64 (by omega) (by omega), hlen]
  simp [f_nest_matcher_leave, env0, go_sem, hv.cell, isNil, hv.os.len, hw]
  refine leave_loop M tid s i hb hbb hi hto oa ps hv hlv _ s.op.length (Nat.le_refl _) (fun e g' k p q1 q2 q3 q4 q5 q6 => ?_) (fun e q => ?_)
  · simp [go_sem, endP, endI, resultsA, resultA, freezeL, freezeV, AV.free.freeL, AV.free, packA, dropS, q1]
    refine ⟨_, _, ⟨rfl, rfl⟩, hK _ _ ⟨q4, q5, ?_⟩⟩
    rw [q2]; simp only; rw [q3]; exact ⟨by first | trivial | rfl, q6⟩
  · simp [go_sem, endP, endI, resultsA, resultA, freezeL, freezeV, AV.free.freeL, AV.free, packA, dropS]
    refine ⟨_, _, ⟨rfl, rfl⟩, hK _ _ ⟨Nat.le_refl _, fun _ _ => rfl, ?_⟩⟩
    rw [q]
theorem lastLoop_some : ∀ (op : List Pt) (n k : Nat), lastLoop op n = some k → k < n ∧ ∃ p, op[k]? = some p ∧ p.loop = true
  | op, 0, k, h => by simp [lastLoop] at h
  | op, n + 1, k, h => by
    simp only [lastLoop] at h
    cases hp : op[n]? with
    | none => rw [hp] at h; simp at h
    | some p =>
      rw [hp] at h
      simp only at h
      split at h
      · rename_i hl
        injection h with h
        subst h
        exact ⟨by omega, p, hp, hl⟩
      · obtain ⟨h1, h2⟩ := lastLoop_some op n k h
        exact ⟨by omega, h2⟩
theorem nest_token_ok (M tid : Nat) (s : Mt) (i : Nat) (sg : Int) (hb : b ≤ g.n) (hbb : bar ≤ b) (hi : i < s.to.length) (hto : s.to.length ≤ 100000) (hl : s.op.length ≤ 16) (hv : MV g b M tid s) (hlv : ∀ p ∈ s.op, p.leaves.length ≤ i) : ∃ r g', call tb pr n_nest_matcher_token [.ptr M 0, .int .i64 (i : Nat), .int .i32 sg] bar g = some (r, g') ∧ g.n ≤ g'.n ∧ (∀ j, j < b → g'.get j = g.get j) ∧
    (match pstep sg i s with | none => r = .bool false | some s' => r = .bool true ∧ MV g' b M tid s') := by
  suffices hw : ∃ r g', callF (call tb pr) f_nest_matcher_token [.ptr M 0, .int .i64 (i : Nat), .int .i32 sg] bar g = some (r, g') ∧ (g.n ≤ g'.n ∧ (∀ j, j < b → g'.get j = g.get j) ∧
    (match pstep sg i s with | none => r = .bool false | some s' => r = .bool true ∧ MV g' b M tid s')) by
    obtain ⟨r, h', h1, h2⟩ := hw; exact ⟨r, h', call_of tb_nest_matcher_token h1, h2⟩
  refine callF_K rfl rfl fun K hK => ?_
  by_cases c1 : sg = 63
  · subst c1
    obtain ⟨r, g', h1, h2, h3, h4, h5⟩ := begin_ok (pr := pr) (bar := bar) M tid s i false hb hbb hi (by omega) hto hv
    simp [f_nest_matcher_token, env0, go_sem, endP, endI, resultsA, resultA, freezeL, freezeV, AV.free.freeL, AV.free, packA, dropS, h1]
    refine ⟨_, _, ⟨rfl, rfl⟩, hK _ _ ⟨h2, h3, ?_⟩⟩
    unfold pstep
    rw [if_pos rfl]
    by_cases c : s.op.length + 1 ≤ 16
    · rw [if_pos c]; simp [h4, c]; exact h5
    · rw [if_neg c]; simp [h4, c]
  by_cases c2 : sg = 91
  · subst c2
    obtain ⟨r, g', h1, h2, h3, h4, h5⟩ := begin_ok (pr := pr) (bar := bar) M tid s i true hb hbb hi (by omega) hto hv
    simp [f_nest_matcher_token, env0, go_sem, endP, endI, resultsA, resultA, freezeL, freezeV, AV.free.freeL, AV.free, packA, dropS, h1]
    refine ⟨_, _, ⟨rfl, rfl⟩, hK _ _ ⟨h2, h3, ?_⟩⟩
    unfold pstep
    rw [if_neg (by omega), if_pos rfl]
    by_cases c : s.op.length + 1 ≤ 16
    · rw [if_pos c]; simp [h4, c]; exact h5
    · rw [if_neg c]; simp [h4, c]
  by_cases c3 : sg = 58
  · subst c3
    obtain ⟨r, g', h1, h2, h3, h4⟩ := other_ok (pr := pr) (bar := bar) M tid s i hb hbb hi hto hv
    simp [f_nest_matcher_token, env0, go_sem, endP, endI, resultsA, resultA, freezeL, freezeV, AV.free.freeL, AV.free, packA, dropS, h1]
    refine ⟨_, _, ⟨rfl, rfl⟩, hK _ _ ⟨h2, h3, ?_⟩⟩
    unfold pstep
    rw [if_neg (by omega), if_neg (by omega), if_pos rfl]
    cases hg : s.op.getLast? with
    | none => rw [hg] at h4; exact h4
    | some p =>
      rw [hg] at h4
      simp only at h4 ⊢
      by_cases c : (p.loop || decide (0 < p.ot)) = true
      · rw [if_pos c] at h4 ⊢; exact h4
      · rw [if_neg c] at h4 ⊢; exact h4
  by_cases c4 : sg = 59
  · subst c4
    obtain ⟨r, g', h1, h2, h3, h4⟩ := endIf_ok (pr := pr) (bar := bar) M tid s i hb hbb hi hto hv
    simp [f_nest_matcher_token, env0, go_sem, endP, endI, resultsA, resultA, freezeL, freezeV, AV.free.freeL, AV.free, packA, dropS, h1]
    refine ⟨_, _, ⟨rfl, rfl⟩, hK _ _ ⟨h2, h3, ?_⟩⟩
    unfold pstep
    rw [if_neg (by omega), if_neg (by omega), if_neg (by omega), if_pos rfl]
    cases hg : s.op.getLast? with
    | none => rw [hg] at h4; exact h4
    | some p =>
      rw [hg] at h4
      simp only at h4 ⊢
      by_cases c : p.loop = true
      · rw [if_pos c] at h4 ⊢; exact h4
      · rw [if_neg c] at h4 ⊢; exact h4
  by_cases c5 : sg = 93
  · subst c5
    obtain ⟨r, g', h1, h2, h3, h4⟩ := endLoop_ok (pr := pr) (bar := bar) M tid s i hb hbb hi hto hv
    simp [f_nest_matcher_token, env0, go_sem, endP, endI, resultsA, resultA, freezeL, freezeV, AV.free.freeL, AV.free, packA, dropS, h1]
    refine ⟨_, _, ⟨rfl, rfl⟩, hK _ _ ⟨h2, h3, ?_⟩⟩
    unfold pstep
    rw [if_neg (by omega), if_neg (by omega), if_neg (by omega), if_neg (by omega), if_pos rfl]
    cases hg : s.op.getLast? with
    | none => rw [hg] at h4; exact h4
    | some p =>
      rw [hg] at h4
      simp only at h4 ⊢
      by_cases c : p.loop = true
      · rw [if_pos c] at h4 ⊢; exact h4
      · rw [if_neg c] at h4 ⊢; exact h4
  by_cases c6 : sg = 126
  · subst c6
    obtain ⟨r, g', h1, h2, h3, h4⟩ := leave_ok (pr := pr) (bar := bar) M tid s i hb hbb hi hto hv hlv
    simp [f_nest_matcher_token, env0, go_sem, endP, endI, resultsA, resultA, freezeL, freezeV, AV.free.freeL, AV.free, packA, dropS, h1]
    refine ⟨_, _, ⟨rfl, rfl⟩, hK _ _ ⟨h2, h3, ?_⟩⟩
    unfold pstep
    rw [if_neg (by omega), if_neg (by omega), if_neg (by omega), if_neg (by omega), if_neg (by omega), if_pos rfl]
    cases hg : lastLoop s.op s.op.length with
    | none => rw [hg] at h4; exact h4
    | some k =>
      obtain ⟨_, p, hp, _⟩ := lastLoop_some _ _ _ hg
      rw [hg] at h4
      simp only [hp] at h4 ⊢
      exact h4
  have d1 : (sg == 63) = false := by simpa using c1
  have d2 : (sg == 91) = false := by simpa using c2
  have d3 : (sg == 58) = false := by simpa using c3
  have d4 : (sg == 59) = false := by simpa using c4
  have d5 : (sg == 93) = false := by simpa using c5
  have d6 : (sg == 126) = false := by simpa using c6
  simp [f_nest_matcher_token, env0, go_sem, endP, endI, resultsA, resultA, freezeL, freezeV, AV.free.freeL, AV.free, packA, dropS, d1, d2, d3, d4, d5, d6]
  refine ⟨_, _, ⟨rfl, rfl⟩, hK _ _ ⟨Nat.le_refl _, fun _ _ => rfl, ?_⟩⟩
  unfold pstep
  rw [if_neg c1, if_neg c2, if_neg c3, if_neg c4, if_neg c5, if_neg c6]
  exact ⟨rfl, hv⟩
end
end Go.Ev
namespace Go.Ev
open Go
def ploop (l : List Tok) : Nat → Nat → Mt → Option Mt
  | 0, _, s => some s
  | k + 1, i, s => (pstep (sgn l i) i s).bind (ploop l k (i + 1))
def nestP (l : List Tok) : Option (List Int) := match ploop l l.length 0 ⟨List.replicate l.length (-1), [], 0⟩ with
  | none => none
  | some s => if s.op = [] then some s.to else none
theorem pstep_inv {sg : Int} {i : Nat} {s s' : Mt} (h : pstep sg i s = some s') (h16 : s.op.length ≤ 16) (hlv : ∀ p ∈ s.op, p.leaves.length ≤ i) : s'.to.length = s.to.length ∧ s'.op.length ≤ 16 ∧ ∀ p ∈ s'.op, p.leaves.length ≤ i + 1 := by
  have hdl : ∀ p ∈ s.op.dropLast, p.leaves.length ≤ i + 1 := fun p hp => by
    have := hlv p (by rw [List.dropLast_eq_take] at hp; exact List.mem_of_mem_take hp); omega
  unfold pstep at h
  split at h
  · split at h
    · injection h with h; subst h
      refine ⟨rfl, by simp; omega, fun p hp => ?_⟩
      rw [List.mem_append] at hp
      rcases hp with hp | hp
      · have := hlv p hp; omega
      · simp at hp; subst hp; simp
    · cases h
  split at h
  · split at h
    · injection h with h; subst h
      refine ⟨rfl, by simp; omega, fun p hp => ?_⟩
      rw [List.mem_append] at hp
      rcases hp with hp | hp
      · have := hlv p hp; omega
      · simp at hp; subst hp; simp
    · cases h
  split at h
  · split at h
    · cases h
    · rename_i p0 hp0
      split at h
      · cases h
      · injection h with h; subst h
        refine ⟨List.length_set, by rw [List.length_set]; exact h16, fun p hp => ?_⟩
        rcases List.mem_or_eq_of_mem_set hp with hp | rfl
        · have := hlv p hp; omega
        · have := hlv p0 (List.mem_of_getLast? hp0); simp only; omega
  split at h
  · split at h
    · cases h
    · split at h
      · cases h
      · injection h with h; subst h
        exact ⟨List.length_set, by rw [List.length_dropLast]; omega, hdl⟩
  split at h
  · split at h
    · cases h
    · split at h
      · injection h with h; subst h
        exact ⟨by rw [setAll_len, List.length_set], by rw [List.length_dropLast]; omega, hdl⟩
      · cases h
  split at h
  · split at h
    · cases h
    · rename_i k hk
      split at h
      · rename_i p0 hp0
        injection h with h; subst h
        refine ⟨rfl, by rw [List.length_set]; exact h16, fun p hp => ?_⟩
        rcases List.mem_or_eq_of_mem_set hp with hp | rfl
        · have := hlv p hp; omega
        · have := hlv p0 (List.mem_of_getElem? hp0); simp; omega
      · cases h
  · injection h with h; subst h
    exact ⟨rfl, h16, fun p hp => by have := hlv p hp; omega⟩
section
variable {pr : Oracle} {bar b : Nat} {g : H}
theorem MV.mono {M tid : Nat} {s : Mt} (hv : MV g b M tid s) {h : H} (hn : g.n ≤ h.n) (hf : ∀ j, j < g.n → h.get j = g.get j) : MV h b M tid s := by
  obtain ⟨oa, ps, hv⟩ := hv
  refine ⟨oa, ps, ?_⟩
  exact {
    cell := by rw [hf M hv.Mn]; exact hv.cell
    bM := hv.bM
    Mn := by have := hv.Mn; omega
    ne := hv.ne
    to := hv.to.mono hn (hf tid hv.to.2.2.1)
    os := hv.os.mono hn (fun j hj => hf j (hv.os.at_lt hj).2)
    oM := hv.oM
    ot := hv.ot
    map := hv.map
    lv := fun x hx => (hv.lv x hx).mono hn (fun j q1 _ _ _ => hf j q1)
    pw := hv.pw
    ok := hv.ok
    dn := hv.dn }
theorem match_loop0 (l : List Tok) (la : AV) (M tid : Nat) (hM : tid ≠ M) (hbt : bar ≤ tid) (oa dp : AV) (hlen : l.length ≤ 100000) (Q : Ex → Env → H → Prop) : ∀ (k i : Nat) (g : H) (to : List Int), l.length = i + k → to.length = l.length → g.get tid = some (.cells (to.flatMap i64c) 0) → g.get M = some (.cells [.sl tid 0 1 l.length true, oa, dp] 0) → (∀ j, j < i → to[j]? = some (-1)) →
    (∀ e g' , e.get 0 = some la → e.get 4 = some (.ptr M 0) → g'.n = g.n → g'.get tid = some (.cells ((List.replicate l.length (-1 : Int)).flatMap i64c) 0) → g'.get M = g.get M → (∀ j, j ≠ tid → g'.get j = g.get j) → Q (.exit 0) e g') →
    wpL (call tb pr) bar [0, 4, 14, 15] l0_nest_match [(0, la), (4, .ptr M 0), (14, goI l.length), (15, goI i)] g Q := by
  intro k
  induction k with
  | zero =>
    intro i g to hk htl ht hgM hm hq
    refine M_loop l0_nest_match.eq_1 ?_
    simp [go_sem, hk]
    refine hq _ _ rfl rfl rfl ?_ rfl (fun _ _ => rfl)
    have : to = List.replicate l.length (-1 : Int) := by
      apply List.ext_getElem?
      intro j
      by_cases hj : j < l.length
      · rw [hm j (by omega), List.getElem?_replicate, if_pos hj]
      · rw [List.getElem?_eq_none (by omega), List.getElem?_eq_none (by simp; omega)]
    rw [← this]; exact ht
  | succ k ih =>
    intro i g to hk htl ht hgM hm hq
    refine M_loop l0_nest_match.eq_1 ?_
    have hi : i < l.length := by omega
    have hbi : (i : Int) < (l.length : Int) := by omega
    have hw := w64_succ (n := i) (by omega)
    have hle : i + 1 ≤ (to.flatMap i64c).length := by rw [i64_len]; omega
    have hset := i64_set (to := to) (i := i) (by omega) (-1)
    generalize htc : to.flatMap i64c = tc at *
    simp [go_sem, get_alloc, n_alloc, get_set, n_set, get_kill, n_kill, writeAt, a11, a21, a31, a41, a51, a61, a71, hi, hbi, hgM, isNil, indexIn, ht, hbt, hle, hw]
    refine ih (i + 1) _ (to.set i (-1)) (by omega) (by rw [List.length_set]; exact htl) (by rw [get_set, if_pos rfl, hset]) (by rw [get_set_ne (fun e => hM e.symm)]; exact hgM) (fun j hj => ?_) (fun e g' q1 q2 q3 q4 q5 q6 => hq e g' q1 q2 q3 q4 (by rw [q5, get_set_ne (fun e => hM e.symm)]) (fun j hj => by rw [q6 j hj, get_set_ne hj]))
    rw [List.getElem?_set]
    by_cases hji : i = j
    · rw [if_pos hji, if_pos (by omega)]
    · rw [if_neg hji]; exact hm j (by omega)
theorem match_loop1 (l : List Tok) (la : AV) (hla : FzV 3 la l.length (l.flatMap Tok.cells)) (hlen : l.length ≤ 100000) (M tid : Nat) (hbb : bar ≤ b) (Q : Ex → Env → H → Prop) : ∀ (k i : Nat) (g : H) (s : Mt), l.length = i + k → MV g b M tid s → b ≤ g.n → s.to.length = l.length → s.op.length ≤ 16 → (∀ p ∈ s.op, p.leaves.length ≤ i) →
    (∀ e g', e.get 2 = some (.ptr M 0) → e.get 3 = some (.bool false) → ploop l k i s = none → g.n ≤ g'.n → Q .ret e g') →
    (∀ e g' s', e.get 4 = some (.ptr M 0) → ploop l k i s = some s' → MV g' b M tid s' → g.n ≤ g'.n → s'.to.length = l.length → Q (.exit 2) e g') →
    wpL (call tb pr) bar [4, 25, 26, 27] l1_nest_match [(4, .ptr M 0), (25, la), (26, goI l.length), (27, goI i)] g Q := by
  intro k
  induction k with
  | zero =>
    intro i g s hk hv hb htl h16 hlv h1 h2
    refine M_loop l1_nest_match.eq_1 ?_
    simp [go_sem, hk]
    exact h2 _ _ s rfl rfl hv (Nat.le_refl _) htl
  | succ k ih =>
    intro i g s hk hv hb htl h16 hlv h1 h2
    refine M_loop l1_nest_match.eq_1 ?_
    have hi : i < l.length := by omega
    have hbi : (i : Int) < (l.length : Int) := by omega
    have hw := w64_succ (n := i) (by omega)
    rcases tok_cases hla with ⟨rfl, rfl⟩ | ⟨full, cs, rfl, hl, hx, hy⟩
    · cases hi
    have hyi := hy i hi
    have hsg : sgn l i = l[i].sign := by simp [sgn, hi]
    generalize hti : l[i] = t at *
    have hbn : bar ≤ g.n := by omega
    have hv2 : MV ((g.alloc (.cells [.int .i32 0, .int .i64 0, .int .i32 0] 0)).set g.n (.cells t.cells 0)) b M tid s := hv.mono (by simp [n_set, n_alloc]) (fun j hj => by rw [get_set_ne (by omega), get_alloc, if_neg (by omega)])
    obtain ⟨r, g', c1, c2, c3, c4⟩ := nest_token_ok (pr := pr) (bar := bar) M tid s i (sgn l i) (by simp only [n_set, n_alloc]; omega) hbb (by omega) (by omega) h16 hv2 hlv
    simp only [n_set, n_alloc] at c2
    have hgo : ploop l (k + 1) i s = (pstep (sgn l i) i s).bind (ploop l k (i + 1)) := rfl
    simp only [Tok.cells, hsg] at c1
    cases hp : pstep (sgn l i) i s with
    | none =>
      rw [hp] at c4
      simp only at c4
      subst c4
      simp [go_sem, get_alloc, n_alloc, get_set, n_set, get_kill, n_kill, writeAt, a11, a21, a31, a41, a51, a61, a71, hi, hbi, indexIn, hl, hyi, Tok.cells, splice, hbn, c1]
      exact h1 _ _ rfl rfl (by rw [hgo, hp]; rfl) (by omega)
    | some s' =>
      rw [hp] at c4
      simp only at c4
      obtain ⟨rfl, hv'⟩ := c4
      obtain ⟨i1, i2, i3⟩ := pstep_inv hp h16 hlv
      simp [go_sem, get_alloc, n_alloc, get_set, n_set, get_kill, n_kill, writeAt, a11, a21, a31, a41, a51, a61, a71, hi, hbi, indexIn, hl, hyi, Tok.cells, splice, hbn, c1, hw]
      exact ih (i + 1) g' s' (by omega) hv' (by omega) (by omega) i2 i3 (fun e g2 q1 q2 q3 q4 => h1 e g2 q1 q2 (by rw [hgo, hp]; exact q3) (by omega)) (fun e g2 s2 q1 q2 q3 q4 => h2 e g2 s2 q1 (by rw [hgo, hp]; exact q2) q3 (by omega))
theorem nest_match_ok (l : List Tok) (la : AV) (hla : FzV 3 la l.length (l.flatMap Tok.cells)) (hlen : l.length ≤ 100000) (hbb : bar ≤ g.n) : ∃ r g', call tb pr n_nest_match [la] bar g = some (r, g') ∧
    (match ploop l l.length 0 ⟨List.replicate l.length (-1), [], 0⟩ with | none => ∃ M, r = .tup [.ptr M 0, .bool false] | some s => ∃ M tid, r = .tup [.ptr M 0, .bool (decide (s.op = []))] ∧ MV g' g.n M tid s ∧ s.to.length = l.length) := by
  suffices hw : ∃ r g', callF (call tb pr) f_nest_match [la] bar g = some (r, g') ∧
    (match ploop l l.length 0 ⟨List.replicate l.length (-1), [], 0⟩ with | none => ∃ M, r = .tup [.ptr M 0, .bool false] | some s => ∃ M tid, r = .tup [.ptr M 0, .bool (decide (s.op = []))] ∧ MV g' g.n M tid s ∧ s.to.length = l.length) by
    obtain ⟨r, h', h1, h2⟩ := hw; exact ⟨r, h', call_of tb_nest_match h1, h2⟩
  refine callF_K rfl rfl fun K hK => ?_
  have hln : ∀ g, lenR (some la) g = some (goI l.length, g) := (hla.vw g).len
  have hsz : (l.length : Int) * 8 ≤ 140737488355328 := by omega
  have hsz2 : (l.length : Int) ≤ 9223372036854775807 := by omega
  simp [f_nest_match, env0, go_sem, get_alloc, n_alloc, get_set, n_set, get_kill, n_kill, writeAt, a11, a21, a31, a41, a51, a61, a71, hln, hsz, hsz2, evParts, fillA, splice]
  refine match_loop0 l la (g.n + 1) g.n (by omega) hbb .nilsl (.int .i64 0) hlen _ l.length 0 _ (List.replicate l.length 0) (by omega) (by simp) ?_ (by simp [get_alloc, n_alloc]) (by simp) (fun e g1 q1 q2 q3 q4 q5 q6 => ?_)
  · simp only [get_alloc, n_alloc]; rw [if_neg (by omega), if_pos trivial, rep_i64]
  · simp [go_sem, q1, q2, hln]
    have hMV : MV g1 g.n (g.n + 1) g.n ⟨List.replicate l.length (-1), [], 0⟩ := by
      refine ⟨.nilsl, [], ?_⟩
      exact {
        cell := by rw [q5]; simp [get_alloc, n_alloc]
        bM := by omega
        Mn := by simp only [n_alloc] at q3; omega
        ne := by omega
        to := ⟨rfl, Nat.le_refl _, by simp only [n_alloc] at q3; omega, q4⟩
        os := OS.nil
        oM := fun h => h
        ot := fun h => h
        map := rfl
        lv := fun x hx => by cases hx
        pw := List.Pairwise.nil
        ok := fun p hp => by cases hp
        dn := by simp }
    refine match_loop1 l la hla hlen (g.n + 1) g.n hbb _ l.length 0 g1 ⟨List.replicate l.length (-1), [], 0⟩ (by omega) hMV (by simp only [n_alloc] at q3; omega) (by simp) (by simp) (by simp) (fun e g2 p1 p2 p3 p4 => ?_) (fun e g2 s' p1 p2 p3 p4 p5 => ?_)
    · rw [p3] at hK
      simp [go_sem, endP, endI, resultsA, resultA, freezeL, freezeV, AV.free.freeL, AV.free, packA, dropS, p1, p2]
      exact ⟨_, _, ⟨rfl, rfl⟩, hK _ _ ⟨_, rfl⟩⟩
    · rw [p2] at hK
      have hp3 := p3
      obtain ⟨oa, ps, hv⟩ := p3
      have hlen : s'.op.length = ps.length := by rw [hv.map, List.length_map]
      have hbd : ((ps.length : Int) == 0) = decide (s'.op = []) := by
        rw [Bool.eq_iff_iff]; simp only [beq_iff_eq, decide_eq_true_eq]
        constructor
        · intro h; exact List.length_eq_zero_iff.mp (by omega)
        · intro h; rw [h] at hlen; simp at hlen; rw [← hlen]; rfl
      simp [go_sem, endP, endI, resultsA, resultA, freezeL, freezeV, AV.free.freeL, AV.free, packA, dropS, p1, isNil, hv.cell, hv.os.len, hbd]
      exact ⟨_, _, ⟨rfl, rfl⟩, hK _ _ ⟨_, _, rfl, hp3, p5⟩⟩
theorem nest_Of_ok (l : List Tok) (la : AV) (hla : FzV 3 la l.length (l.flatMap Tok.cells)) (hlen : l.length ≤ 100000) : match nestP l with
    | some to => ∃ a, call tb pr n_nest_Of [la] bar g = some (.tup [a, .int .i64 0], g) ∧ FzV 1 a to.length (to.flatMap i64c) ∧ to.length = l.length
    | none => call tb pr n_nest_Of [la] bar g = some (.tup [.nilsl, .int .i64 13], g) := by
  suffices hw : ∃ r, callF (call tb pr) f_nest_Of [la] bar g = some (r, g) ∧ (match nestP l with
    | some to => ∃ a, r = .tup [a, .int .i64 0] ∧ FzV 1 a to.length (to.flatMap i64c) ∧ to.length = l.length
    | none => r = .tup [.nilsl, .int .i64 13]) by
    obtain ⟨r, h1, h2⟩ := hw
    have h1 := call_of tb_nest_Of h1
    revert h2
    cases nestP l with
    | none => intro h2; simp only at h2; subst h2; exact h1
    | some to => intro h2; simp only at h2; obtain ⟨a, rfl, h3, h4⟩ := h2; exact ⟨a, h1, h3, h4⟩
  refine callF_pureK rfl rfl fun K hK => ?_
  obtain ⟨r, g', hc, hr⟩ := nest_match_ok (pr := pr) (bar := g.n) (g := g) l la hla hlen (Nat.le_refl _)
  unfold nestP at hK
  cases hp : ploop l l.length 0 ⟨List.replicate l.length (-1), [], 0⟩ with
  | none =>
    rw [hp] at hr hK
    obtain ⟨M, rfl⟩ := hr
    simp [f_nest_Of, env0, go_sem, endX, resultsA, resultA, freezeL, AV.free.freeL, packA, hc, freezeV, AV.free]
    exact hK _ rfl
  | some s =>
    rw [hp] at hr hK
    obtain ⟨M, tid, rfl, ⟨oa, ps, hv⟩, hl⟩ := hr
    by_cases hop : s.op = []
    · simp only [hop, if_true] at hK
      obtain ⟨a2, h5, h6, h7⟩ := hv.to.freeze (by omega) 2
      simp [f_nest_Of, env0, go_sem, endX, resultsA, resultA, freezeL, AV.free.freeL, packA, hc, hop, isNil, hv.cell, h6, h7.free, freezeV, AV.free]
      exact hK _ ⟨a2, rfl, h7, hl⟩
    · simp only [hop, if_false] at hK
      simp [f_nest_Of, env0, go_sem, endX, resultsA, resultA, freezeL, AV.free.freeL, packA, hc, hop, freezeV, AV.free]
      exact hK _ rfl
end
end Go.Ev
namespace Go.Ev
open Go
structure Jp where
  loop : Bool
  other : Bool
  left : Bool
  base : Int
  fin : Int
structure Js where
  h : Int
  ps : List Jp
def Jp.c (p : Jp) : List AV := [.bool p.loop, .bool p.other, .bool p.left, .int .i64 p.base, .int .i64 p.fin]
theorem Jp.c_len (p : Jp) : p.c.length = 5 := rfl
def isEnd (s : Int) : Bool := decide (s = 58 ∨ s = 59 ∨ s = 93)
def lastLoopJ : List Jp → Nat → Option Nat
  | _, 0 => none
  | ps, k + 1 => match ps[k]? with | some p => if p.loop then some k else lastLoopJ ps k | none => none
def jbase (ps : List Jp) : Int := match ps.getLast? with | some p => p.base | none => 0
def jturn (sg : Int) (s : Js) : Int × Js :=
  if sg = 63 ∨ sg = 91 then (0, ⟨s.h, s.ps ++ [⟨sg == 91, false, false, s.h, 0⟩]⟩) else
  if sg = 58 then (match s.ps.getLast? with | none => (0, s) | some p => (0, ⟨p.base, s.ps.set (s.ps.length - 1) ⟨p.loop, true, p.left, p.base, s.h⟩⟩)) else
  if sg = 59 then (match s.ps.getLast? with | none => (0, s) | some p => if p.other then (if s.h ≠ -1 ∧ p.fin ≠ -1 ∧ s.h ≠ p.fin then (14, s) else (0, ⟨max s.h p.fin, s.ps.dropLast⟩)) else (if s.h ≠ -1 ∧ s.h ≠ p.base then (14, s) else (0, ⟨p.base, s.ps.dropLast⟩))) else
  if sg = 93 then (match s.ps.getLast? with | none => (0, s) | some p => if s.h ≠ -1 ∧ s.h ≠ p.base then (14, s) else (0, ⟨if p.left then p.base else -1, s.ps.dropLast⟩)) else
  if sg = 126 then (match lastLoopJ s.ps s.ps.length with | none => (0, s) | some k => match s.ps[k]? with | none => (0, s) | some p => if s.h ≠ p.base then (14, s) else (0, ⟨-1, s.ps.set k ⟨p.loop, p.other, true, p.base, p.fin⟩⟩)) else
  if sg = 161 then (0, ⟨-1, s.ps⟩) else (0, s)
def jtok (fs : List Fn) (t : Tok) (s : Js) : Int × Js :=
  if s.h = -1 ∧ isEnd t.sign = false then (15, s) else
  if (takesN fs t.sign t.name).2.2 = false then (22, s) else
  if s.h = -1 then jturn t.sign s else
  if s.h - jbase s.ps < (takesN fs t.sign t.name).1 ∨ 64 < s.h - (takesN fs t.sign t.name).1 + (takesN fs t.sign t.name).2.1 then (14, s) else
  jturn t.sign ⟨s.h + ((takesN fs t.sign t.name).2.1 - (takesN fs t.sign t.name).1), s.ps⟩
def jpre (sg : Int) (ps : List Jp) : Prop :=
  (sg = 58 → ∃ p, ps.getLast? = some p ∧ p.loop = false ∧ p.other = false) ∧ (sg = 59 → ∃ p, ps.getLast? = some p ∧ p.loop = false) ∧ (sg = 93 → ∃ p, ps.getLast? = some p ∧ p.loop = true ∧ p.other = false) ∧
  (sg = 126 → ∃ k, lastLoopJ ps ps.length = some k)
def JOk (s : Js) : Prop := -1 ≤ s.h ∧ s.h ≤ 64 ∧ (∀ p ∈ s.ps, 0 ≤ p.base ∧ p.base ≤ 64 ∧ -1 ≤ p.fin ∧ p.fin ≤ 64) ∧ s.ps.length ≤ 1000
theorem takes_rng (fs : List Fn) (s nm : Int) : 0 ≤ (takesN fs s nm).1 ∧ (takesN fs s nm).1 ≤ 4 ∧ 0 ≤ (takesN fs s nm).2.1 ∧ (takesN fs s nm).2.1 ≤ 2 := by
  unfold takesN callT
  repeat' split
  all_goals simp
  all_goals omega
structure JVp (g : H) (b J : Nat) (p m : Int) (fa : AV) (s : Js) (out : List Int) (pa oa : AV) : Prop where
  cell : g.get J = some (.cells [.int .i64 p, .int .i64 m, fa, .int .i64 s.h, pa, oa] 0)
  bJ : b ≤ J
  Jn : J < g.n
  os : OS 5 g b pa s.ps.length (s.ps.flatMap Jp.c)
  oo : OS 1 g b oa out.length (out.flatMap i64c)
  pJ : ¬ pa.isAt J
  oJ : ¬ oa.isAt J
  ap : pa.apart oa
def JV (g : H) (b J : Nat) (p m : Int) (fa : AV) (s : Js) (out : List Int) : Prop := ∃ pa oa, JVp g b J p m fa s out pa oa
theorem Jp.c_one (p : Jp) : p.c.all AV.one = true := by simp [Jp.c, AV.one]
theorem sp63 (a b c d e f v : AV) : splice [a, b, c, d, e, f] 3 [v] = [a, b, c, v, e, f] := Eq.trans rfl rfl
theorem sp64 (a b c d e f v : AV) : splice [a, b, c, d, e, f] 4 [v] = [a, b, c, d, v, f] := Eq.trans rfl rfl
theorem sp65 (a b c d e f v : AV) : splice [a, b, c, d, e, f] 5 [v] = [a, b, c, d, e, v] := Eq.trans rfl rfl
theorem sp55 (a b c d e v w x y z : AV) : splice [a, b, c, d, e] 0 [v, w, x, y, z] = [v, w, x, y, z] := Eq.trans rfl rfl
section
variable {bar b : Nat} {g : H} {J : Nat} {p m : Int} {fa : AV} {s : Js} {out : List Int} {pa oa : AV}
theorem JVp.last (hv : JVp g b J p m fa s out pa oa) (hne : s.ps ≠ []) : ∃ id all x, pa = .sl id 0 5 s.ps.length false ∧ b ≤ id ∧ id < g.n ∧ g.get id = some (.cells all 0) ∧ id ≠ J ∧ ¬ oa.isAt id ∧
    s.ps[s.ps.length - 1]? = some x ∧ x ∈ s.ps ∧ s.ps.getLast? = some x ∧
    (∀ h : H, g.n ≤ h.n → h.get id = g.get id → OS 5 h b (.sl id 0 5 (s.ps.length - 1) false) s.ps.dropLast.length (s.ps.dropLast.flatMap Jp.c)) ∧
    (∀ i x x' f vs (h : H), s.ps[i]? = some x → f + vs.length ≤ 5 → Jp.c x' = splice (Jp.c x) f vs → (Jp.c x').all AV.one = true → g.n ≤ h.n → h.get id = some (.cells (splice all (i * 5 + f) vs) 0) → OS 5 h b pa (s.ps.set i x').length ((s.ps.set i x').flatMap Jp.c)) ∧
    (∀ i x, s.ps[i]? = some x → i * 5 + 5 ≤ all.length ∧ all[i * 5]? = some (.bool x.loop) ∧ all[i * 5 + 1]? = some (.bool x.other) ∧ all[i * 5 + 2]? = some (.bool x.left) ∧ all[i * 5 + 3]? = some (.int .i64 x.base) ∧ all[i * 5 + 4]? = some (.int .i64 x.fin) ∧ (all.drop (i * 5)).take 5 = x.c) := by
  obtain ⟨id, all, hpa, e1, e2, e3, e4, e5, e6, e7⟩ := hv.os.elems Jp.c_len hne
  obtain ⟨x, hx1, hx2, hx3, hx4⟩ := drop_last_split hne
  have hJ := hv.pJ
  have hO := hv.ap id (by rw [hpa]; rfl)
  rw [hpa] at hJ
  refine ⟨id, all, x, hpa, e1, e2, e3, hJ, hO, hx3, List.mem_of_getElem? hx3, hx1, e6, e7, fun i y hy => ?_⟩
  obtain ⟨hi, _⟩ := List.getElem?_eq_some_iff.mp hy
  have c0 := e5 i y 0 hy (by omega)
  have c1 := e5 i y 1 hy (by omega)
  have c2 := e5 i y 2 hy (by omega)
  have c3 := e5 i y 3 hy (by omega)
  have c4 := e5 i y 4 hy (by omega)
  refine ⟨by omega, c0, c1, c2, c3, c4, ?_⟩
  apply List.ext_getElem?
  intro j
  by_cases hj : j < 5
  · rw [List.getElem?_take_of_lt hj, List.getElem?_drop, e5 i y j hy hj]
  · rw [List.getElem?_eq_none (by rw [List.length_take]; omega), List.getElem?_eq_none (by rw [Jp.c_len]; omega)]
theorem jbase_ok (hv : JVp g b J p m fa s out pa oa) (hl : s.ps.length ≤ 1000) : call tb prim n_check_judge_base [.ptr J 0] bar g = some (.int .i64 (jbase s.ps), g) := by
  refine call_of tb_check_judge_base (callF_pureW rfl rfl (M_in ?_))
  by_cases hne : s.ps = []
  · have h0 : s.ps.length = 0 := by rw [hne]; rfl
    have hb : jbase s.ps = 0 := by rw [hne]; rfl
    rw [hb]
    simp [f_check_judge_base, env0, go_sem, endP, endI, resultsA, resultA, freezeL, freezeV, AV.free.freeL, AV.free, packA, dropS, hv.cell, isNil, hv.os.len, h0]
  · obtain ⟨id, all, x, hpa, h1, h2, h3, h4, h5, h6, h7, h8, h9, h10, h11⟩ := hv.last hne
    obtain ⟨q1, q2, q3, q4, q5, q6, q7⟩ := pos_facts (List.length_pos_iff.mpr hne) hl
    have hb : jbase s.ps = x.base := by unfold jbase; rw [h8]
    rw [hb]
    have hf := h11 _ _ h6
    have hpos := List.length_pos_iff.mpr hne
    subst hpa
    simp [f_check_judge_base, env0, go_sem, endP, endI, resultsA, resultA, freezeL, freezeV, AV.free.freeL, AV.free, packA, dropS, hv.cell, isNil, q1, q2, q3, q4, indexIn, h3, hf, hne]
theorem JVp.mono (hv : JVp g b J p m fa s out pa oa) {h : H} (hn : g.n ≤ h.n) (hf : ∀ j, j < g.n → h.get j = g.get j) : JVp h b J p m fa s out pa oa where
  cell := by rw [hf J hv.Jn]; exact hv.cell
  bJ := hv.bJ
  Jn := by have := hv.Jn; omega
  os := hv.os.mono hn (fun j hj => hf j (hv.os.at_lt hj).2)
  oo := hv.oo.mono hn (fun j hj => hf j (hv.oo.at_lt hj).2)
  pJ := hv.pJ
  oJ := hv.oJ
  ap := hv.ap
theorem JVp.seth (hv : JVp g b J p m fa s out pa oa) (x : Int) : JVp (g.set J (.cells [.int .i64 p, .int .i64 m, fa, .int .i64 x, pa, oa] 0)) b J p m fa ⟨x, s.ps⟩ out pa oa where
  cell := by rw [get_set, if_pos rfl]
  bJ := hv.bJ
  Jn := hv.Jn
  os := hv.os.set _ hv.pJ
  oo := hv.oo.set _ hv.oJ
  pJ := hv.pJ
  oJ := hv.oJ
  ap := hv.ap
theorem jpop_ok (hbb : bar ≤ b) (hb : b ≤ g.n) (hv : JVp g b J p m fa s out pa oa) (hl : s.ps.length ≤ 1000) (hne : s.ps ≠ []) : ∃ x g' pa', s.ps.getLast? = some x ∧ call tb prim n_check_judge_pop [.ptr J 0] bar g = some (.agg x.c, g') ∧ JVp g' b J p m fa ⟨s.h, s.ps.dropLast⟩ out pa' oa ∧ g.n ≤ g'.n ∧ ∀ j, j < b → g'.get j = g.get j := by
  obtain ⟨id, all, x, hpa, h1, h2, h3, h4, h5, h6, h7, h8, h9, h10, h11⟩ := hv.last hne
  refine ⟨x, ?_⟩
  suffices hw : ∃ r g', callF (call tb prim) f_check_judge_pop [.ptr J 0] bar g = some (r, g') ∧ (r = .agg x.c ∧ ∃ pa', JVp g' b J p m fa ⟨s.h, s.ps.dropLast⟩ out pa' oa ∧ g.n ≤ g'.n ∧ ∀ j, j < b → g'.get j = g.get j) by
    obtain ⟨r, g', c1, rfl, pa', c2⟩ := hw; exact ⟨g', pa', h8, call_of tb_check_judge_pop c1, c2⟩
  refine callF_K rfl rfl fun K hK => ?_
  obtain ⟨q1, q2, q3, q4, q5, q6, q7⟩ := pos_facts (List.length_pos_iff.mpr hne) hl
  obtain ⟨f0, f1, f2, f3, f4, f5, f6⟩ := h11 _ _ h6
  have hJn := hv.Jn
  have hbJ := hv.bJ
  have n1 : J ≠ g.n := by omega
  have n2 : J ≠ g.n + 1 := by omega
  have n3 : id ≠ g.n := by omega
  have n4 : id ≠ g.n + 1 := by omega
  have n5 : g.n + 1 ≠ J := by omega
  have n6 : g.n ≠ J := by omega
  have hbg : bar ≤ g.n := by omega
  have hbg1 : bar ≤ g.n + 1 := by omega
  have hbJ' : bar ≤ J := by omega
  subst hpa
  have hcl : x.c = [.bool x.loop, .bool x.other, .bool x.left, .int .i64 x.base, .int .i64 x.fin] := rfl
  rw [hcl] at f6
  simp [f_check_judge_pop, env0, go_sem, get_alloc, n_alloc, get_set, n_set, get_kill, n_kill, writeAt, a11, a21, a31, a41, a51, a61, a71, hbg]
  refine ⟨⟨?_, ?_, ?_⟩, ?_⟩
  · refine sees_of rfl ?_
    simp [R_nil, R_cons, RS_some, sameV_some, seesQ_some, List.take, List.take_succ_cons, List.take_zero, go_sem, get_alloc, n_alloc, get_set, n_set, get_kill, n_kill, writeAt, a11, a21, a31, a41, a51, a61, a71, hv.cell, isNil, n1, n2, n3, n4, q1, q2, q3, indexIn, h3, f0, f6]
  · refine sees_of rfl ?_
    simp [R_nil, R_cons, RS_some, sameV_some, seesQ_some, List.take, List.take_succ_cons, List.take_zero, go_sem, get_alloc, n_alloc, get_set, n_set, get_kill, n_kill, writeAt, a11, a21, a31, a41, a51, a61, a71, hv.cell, isNil, n1, n2, n3, n4, q1, q2, q3, indexIn, h3, f0, f6]
  · refine sees_of rfl ?_
    simp [R_nil, R_cons, RS_some, sameV_some, seesQ_some, List.take, List.take_succ_cons, List.take_zero, go_sem, get_alloc, n_alloc, get_set, n_set, get_kill, n_kill, writeAt, a11, a21, a31, a41, a51, a61, a71, hv.cell, isNil, n1, n2, n3, n4, q1, q2, q3, indexIn, h3, f0, f6]
  · simp [go_sem, get_alloc, n_alloc, get_set, n_set, get_kill, n_kill, writeAt, a11, a21, a31, a41, a51, a61, a71, endP, endI, resultsA, resultA, freezeL, freezeV, AV.free.freeL, AV.free, packA, dropS, hv.cell, isNil, n1, n2, n3, n4, n5, n6, q1, q2, q3, q5, q6, q7, indexIn, h3, f0, f6, hbg, hbg1, hbJ', sp55, sliceA, optEv, optBound, bound, sp64]
    refine ⟨_, _, ⟨rfl, rfl⟩, hK _ _ ⟨rfl, .sl id 0 5 (s.ps.length - 1) false, ?_, ?_, ?_⟩⟩
    · have hfr : ∀ a c d e, ∀ j, j < g.n → j ≠ J → (((((g.alloc a).alloc a).set (g.n + 1) c).set J d).set g.n e).get j = g.get j := fun a c d e j q1 q2 => by
        rw [get_set_ne (by omega), get_set_ne q2, get_set_ne (by omega), get_alloc, n_alloc, if_neg (by omega), get_alloc, if_neg (by omega)]
      exact {
        cell := by rw [get_set_ne n1, get_set, if_pos rfl]
        bJ := hv.bJ
        Jn := by simp only [n_set, n_alloc]; omega
        os := h9 _ (by simp only [n_set, n_alloc]; omega) (hfr _ _ _ _ id h2 h4)
        oo := hv.oo.mono (by simp only [n_set, n_alloc]; omega) (fun j hj => hfr _ _ _ _ j (hv.oo.at_lt hj).2 (fun e => hv.oJ (e ▸ hj)))
        pJ := h4
        oJ := hv.oJ
        ap := fun j e1 e2 => by cases e1; exact h5 e2 }
    · simp only [n_set, n_alloc]; omega
    · intro j hj
      rw [get_set_ne (by omega), get_set_ne (by omega), get_set_ne (by omega), get_alloc, n_alloc, if_neg (by omega), get_alloc, if_neg (by omega)]
end
end Go.Ev
namespace Go.Ev
open Go
section
variable {bar b : Nat} {g : H} {J : Nat} {p m : Int} {fa : AV} {s : Js} {out : List Int}
def JR (g : H) (b J : Nat) (p m : Int) (fa : AV) (out : List Int) (x : Int × Js) (r : AV) (g' : H) : Prop := r = .int .i64 x.1 ∧ g.n ≤ g'.n ∧ (∀ j, j < b → g'.get j = g.get j) ∧ (x.1 = 0 → JV g' b J p m fa x.2 out)
theorem ne_b {a c : Int} (h : a ≠ c) : (a != c) = true := by simpa using h
theorem ne_b' {a c : Int} (h : a = c) : (a != c) = false := by simpa using h
theorem jendIf_ok (hbb : bar ≤ b) (hb : b ≤ g.n) (hv : JV g b J p m fa s out) (hl : s.ps.length ≤ 1000) (hne : s.ps ≠ []) : ∃ r g', call tb prim n_check_judge_endIf [.ptr J 0] bar g = some (r, g') ∧ JR g b J p m fa out (jturn 59 s) r g' := by
  suffices hw : ∃ r g', callF (call tb prim) f_check_judge_endIf [.ptr J 0] bar g = some (r, g') ∧ JR g b J p m fa out (jturn 59 s) r g' by
    obtain ⟨r, h', h1, h2⟩ := hw; exact ⟨r, h', call_of tb_check_judge_endIf h1, h2⟩
  refine callF_K rfl rfl fun K hK => ?_
  obtain ⟨pa, oa, hv⟩ := hv
  obtain ⟨x, g1, pa', hx, hc, hv1, hn1, hf1⟩ := jpop_ok hbb hb hv hl hne
  have hj : jturn 59 s = if x.other then (if s.h ≠ -1 ∧ x.fin ≠ -1 ∧ s.h ≠ x.fin then (14, s) else (0, ⟨max s.h x.fin, s.ps.dropLast⟩)) else (if s.h ≠ -1 ∧ s.h ≠ x.base then (14, s) else (0, ⟨x.base, s.ps.dropLast⟩)) := by
    simp [jturn, hx]
  have hJn := hv1.Jn
  have hbJ : bar ≤ J := by have := hv1.bJ; omega
  have n1 : J ≠ g1.n := by omega
  have n2 : g1.n ≠ J := by omega
  have hbg : bar ≤ g1.n := by omega
  have hcl : x.c = [.bool x.loop, .bool x.other, .bool x.left, .int .i64 x.base, .int .i64 x.fin] := rfl
  have hv2 : JVp ((g1.alloc (.cells [.bool false, .bool false, .bool false, .int .i64 0, .int .i64 0] 0)).set g1.n (.cells x.c 0)) b J p m fa ⟨s.h, s.ps.dropLast⟩ out pa' oa := hv1.mono (by simp [n_set, n_alloc]) (fun j hj => by rw [get_set_ne (by omega), get_alloc, if_neg (by omega)])
  have hfr : ∀ c d e j, j < b → (((g1.alloc c).set g1.n d).set J e).get j = g.get j := fun c d e j hj => by
    rw [get_set_ne (by have := hv1.bJ; omega), get_set_ne (by omega), get_alloc, if_neg (by omega), hf1 j hj]
  have hfr0 : ∀ c d j, j < b → ((g1.alloc c).set g1.n d).get j = g.get j := fun c d j hj => by
    rw [get_set_ne (by omega), get_alloc, if_neg (by omega), hf1 j hj]
  rw [hj] at hK
  rw [hcl] at hc hv2
  cases ho : x.other with
  | false =>
    rw [ho] at hK hv2 hc
    simp only [Bool.false_eq_true, if_false] at hK
    have hgood : ¬ (s.h ≠ -1 ∧ s.h ≠ x.base) → K (.int .i64 0) (((g1.alloc (.cells [.bool false, .bool false, .bool false, .int .i64 0, .int .i64 0] 0)).set g1.n (.cells [.bool x.loop, .bool false, .bool x.left, .int .i64 x.base, .int .i64 x.fin] 0)).set J (.cells [.int .i64 p, .int .i64 m, fa, .int .i64 x.base, pa', oa] 0)) := fun hc2 => by
      refine hK _ _ ?_
      rw [if_neg hc2]
      exact ⟨rfl, by simp only [n_set, n_alloc]; omega, fun j hj => hfr _ _ _ j hj, fun _ => ⟨pa', oa, hv2.seth x.base⟩⟩
    by_cases c1 : s.h = -1
    · have d1 := ne_b' c1
      simp [f_check_judge_endIf, env0, go_sem, get_alloc, n_alloc, get_set, n_set, get_kill, n_kill, writeAt, a11, a21, a31, a41, a51, a61, a71, endP, endI, resultsA, resultA, freezeL, freezeV, AV.free.freeL, AV.free, packA, dropS, hc, hbg, hbJ, n1, n2, hv1.cell, isNil, sp55, sp63, c1]
      exact ⟨_, _, ⟨rfl, rfl⟩, hgood (fun e => e.1 c1)⟩
    · have d1 := ne_b c1
      by_cases c2 : s.h = x.base
      · have d2 := ne_b' c2
        simp [f_check_judge_endIf, env0, go_sem, get_alloc, n_alloc, get_set, n_set, get_kill, n_kill, writeAt, a11, a21, a31, a41, a51, a61, a71, endP, endI, resultsA, resultA, freezeL, freezeV, AV.free.freeL, AV.free, packA, dropS, hc, hbg, hbJ, n1, n2, hv1.cell, isNil, sp55, sp63, d1, d2]
        exact ⟨_, _, ⟨rfl, rfl⟩, hgood (fun e => e.2 c2)⟩
      · have d2 := ne_b c2
        rw [if_pos ⟨c1, c2⟩] at hK
        simp [f_check_judge_endIf, env0, go_sem, get_alloc, n_alloc, get_set, n_set, get_kill, n_kill, writeAt, a11, a21, a31, a41, a51, a61, a71, endP, endI, resultsA, resultA, freezeL, freezeV, AV.free.freeL, AV.free, packA, dropS, hc, hbg, hbJ, n1, n2, hv1.cell, isNil, sp55, sp63, d1, d2]
        exact ⟨_, _, ⟨rfl, rfl⟩, hK _ _ ⟨rfl, by simp only [n_set, n_alloc]; omega, fun j hj => hfr0 _ _ j hj, fun e => by cases e⟩⟩
  | true =>
    rw [ho] at hK hv2 hc
    simp only [if_true] at hK
    have hmx : (if x.fin > s.h then x.fin else s.h) = max s.h x.fin := by split <;> omega
    have hgood : ¬ (s.h ≠ -1 ∧ x.fin ≠ -1 ∧ s.h ≠ x.fin) → K (.int .i64 0) (((g1.alloc (.cells [.bool false, .bool false, .bool false, .int .i64 0, .int .i64 0] 0)).set g1.n (.cells [.bool x.loop, .bool true, .bool x.left, .int .i64 x.base, .int .i64 x.fin] 0)).set J (.cells [.int .i64 p, .int .i64 m, fa, .int .i64 (max s.h x.fin), pa', oa] 0)) := fun hc2 => by
      refine hK _ _ ?_
      rw [if_neg hc2]
      exact ⟨rfl, by simp only [n_set, n_alloc]; omega, fun j hj => hfr _ _ _ j hj, fun _ => ⟨pa', oa, hv2.seth _⟩⟩
    rw [← hmx] at hgood
    by_cases c1 : s.h = -1
    · rw [c1] at hgood
      simp [f_check_judge_endIf, env0, go_sem, get_alloc, n_alloc, get_set, n_set, get_kill, n_kill, writeAt, a11, a21, a31, a41, a51, a61, a71, endP, endI, resultsA, resultA, freezeL, freezeV, AV.free.freeL, AV.free, packA, dropS, hc, hbg, hbJ, n1, n2, hv1.cell, isNil, sp55, sp63, c1]
      exact ⟨_, _, ⟨rfl, rfl⟩, hgood (fun e => e.1 rfl)⟩
    · have d1 := ne_b c1
      by_cases c2 : x.fin = -1
      · rw [c2] at hgood
        simp [f_check_judge_endIf, env0, go_sem, get_alloc, n_alloc, get_set, n_set, get_kill, n_kill, writeAt, a11, a21, a31, a41, a51, a61, a71, endP, endI, resultsA, resultA, freezeL, freezeV, AV.free.freeL, AV.free, packA, dropS, hc, hbg, hbJ, n1, n2, hv1.cell, isNil, sp55, sp63, d1, c2]
        exact ⟨_, _, ⟨rfl, rfl⟩, hgood (fun e => e.2.1 rfl)⟩
      · have d2 := ne_b c2
        by_cases c3 : s.h = x.fin
        · have d3 := ne_b' c3
          simp [f_check_judge_endIf, env0, go_sem, get_alloc, n_alloc, get_set, n_set, get_kill, n_kill, writeAt, a11, a21, a31, a41, a51, a61, a71, endP, endI, resultsA, resultA, freezeL, freezeV, AV.free.freeL, AV.free, packA, dropS, hc, hbg, hbJ, n1, n2, hv1.cell, isNil, sp55, sp63, d1, d2, d3]
          exact ⟨_, _, ⟨rfl, rfl⟩, hgood (fun e => e.2.2 c3)⟩
        · have d3 := ne_b c3
          rw [if_pos ⟨c1, c2, c3⟩] at hK
          simp [f_check_judge_endIf, env0, go_sem, get_alloc, n_alloc, get_set, n_set, get_kill, n_kill, writeAt, a11, a21, a31, a41, a51, a61, a71, endP, endI, resultsA, resultA, freezeL, freezeV, AV.free.freeL, AV.free, packA, dropS, hc, hbg, hbJ, n1, n2, hv1.cell, isNil, sp55, sp63, d1, d2, d3]
          exact ⟨_, _, ⟨rfl, rfl⟩, hK _ _ ⟨rfl, by simp only [n_set, n_alloc]; omega, fun j hj => hfr0 _ _ j hj, fun e => by cases e⟩⟩
theorem jendLoop_ok (hbb : bar ≤ b) (hb : b ≤ g.n) (hv : JV g b J p m fa s out) (hl : s.ps.length ≤ 1000) (hne : s.ps ≠ []) : ∃ r g', call tb prim n_check_judge_endLoop [.ptr J 0] bar g = some (r, g') ∧ JR g b J p m fa out (jturn 93 s) r g' := by
  suffices hw : ∃ r g', callF (call tb prim) f_check_judge_endLoop [.ptr J 0] bar g = some (r, g') ∧ JR g b J p m fa out (jturn 93 s) r g' by
    obtain ⟨r, h', h1, h2⟩ := hw; exact ⟨r, h', call_of tb_check_judge_endLoop h1, h2⟩
  refine callF_K rfl rfl fun K hK => ?_
  obtain ⟨pa, oa, hv⟩ := hv
  obtain ⟨x, g1, pa', hx, hc, hv1, hn1, hf1⟩ := jpop_ok hbb hb hv hl hne
  have hj : jturn 93 s = if s.h ≠ -1 ∧ s.h ≠ x.base then (14, s) else (0, ⟨if x.left then x.base else -1, s.ps.dropLast⟩) := by
    simp [jturn, hx]
  have hJn := hv1.Jn
  have hbJ : bar ≤ J := by have := hv1.bJ; omega
  have n1 : J ≠ g1.n := by omega
  have n2 : g1.n ≠ J := by omega
  have hbg : bar ≤ g1.n := by omega
  have hcl : x.c = [.bool x.loop, .bool x.other, .bool x.left, .int .i64 x.base, .int .i64 x.fin] := rfl
  have hv2 : JVp ((g1.alloc (.cells [.bool false, .bool false, .bool false, .int .i64 0, .int .i64 0] 0)).set g1.n (.cells x.c 0)) b J p m fa ⟨s.h, s.ps.dropLast⟩ out pa' oa := hv1.mono (by simp [n_set, n_alloc]) (fun j hj => by rw [get_set_ne (by omega), get_alloc, if_neg (by omega)])
  have hfr0 : ∀ c d j, j < b → ((g1.alloc c).set g1.n d).get j = g.get j := fun c d j hj => by
    rw [get_set_ne (by omega), get_alloc, if_neg (by omega), hf1 j hj]
  have hset : ∀ (h : H) c d, (h.set J c).set J d = h.set J d := fun h c d => by
    unfold H.set
    simp only
    congr 1
    funext j
    split <;> rfl
  rw [hj] at hK
  rw [hcl] at hc hv2
  by_cases hbad : s.h ≠ -1 ∧ s.h ≠ x.base
  · have d1 := ne_b hbad.1
    have d2 := ne_b hbad.2
    rw [if_pos hbad] at hK
    simp [f_check_judge_endLoop, env0, go_sem, get_alloc, n_alloc, get_set, n_set, get_kill, n_kill, writeAt, a11, a21, a31, a41, a51, a61, a71, endP, endI, resultsA, resultA, freezeL, freezeV, AV.free.freeL, AV.free, packA, dropS, hc, hbg, hbJ, n1, n2, hv1.cell, isNil, sp55, sp63, d1, d2]
    exact ⟨_, _, ⟨rfl, rfl⟩, hK _ _ ⟨rfl, by simp only [n_set, n_alloc]; omega, fun j hj => hfr0 _ _ j hj, fun e => by cases e⟩⟩
  · rw [if_neg hbad] at hK
    have hfr : ∀ c d e f j, j < b → ((((g1.alloc c).set g1.n d).set J e).set J f).get j = g.get j := fun c d e f j hj => by
      rw [get_set_ne (by have := hv1.bJ; omega), get_set_ne (by have := hv1.bJ; omega), hfr0 c d j hj]
    have hfr1 : ∀ c d e j, j < b → (((g1.alloc c).set g1.n d).set J e).get j = g.get j := fun c d e j hj => by
      rw [get_set_ne (by have := hv1.bJ; omega), hfr0 c d j hj]
    cases hlf : x.left with
    | true =>
      rw [hlf] at hK hc hv2
      simp only [if_true] at hK
      have h3 := (hv2.seth (-1)).seth x.base
      by_cases c1 : s.h = -1
      · simp [f_check_judge_endLoop, env0, go_sem, get_alloc, n_alloc, get_set, n_set, get_kill, n_kill, writeAt, a11, a21, a31, a41, a51, a61, a71, endP, endI, resultsA, resultA, freezeL, freezeV, AV.free.freeL, AV.free, packA, dropS, hc, hbg, hbJ, n1, n2, hv1.cell, isNil, sp55, sp63, c1]
        exact ⟨_, _, ⟨rfl, rfl⟩, hK _ _ ⟨rfl, by simp only [n_set, n_alloc]; omega, fun j hj => hfr _ _ _ _ j hj, fun _ => ⟨pa', oa, h3⟩⟩⟩
      · have d1 := ne_b c1
        have d2 := ne_b' (show s.h = x.base from Classical.byContradiction fun e => hbad ⟨c1, e⟩)
        simp [f_check_judge_endLoop, env0, go_sem, get_alloc, n_alloc, get_set, n_set, get_kill, n_kill, writeAt, a11, a21, a31, a41, a51, a61, a71, endP, endI, resultsA, resultA, freezeL, freezeV, AV.free.freeL, AV.free, packA, dropS, hc, hbg, hbJ, n1, n2, hv1.cell, isNil, sp55, sp63, d1, d2]
        exact ⟨_, _, ⟨rfl, rfl⟩, hK _ _ ⟨rfl, by simp only [n_set, n_alloc]; omega, fun j hj => hfr _ _ _ _ j hj, fun _ => ⟨pa', oa, h3⟩⟩⟩
    | false =>
      rw [hlf] at hK hc hv2
      simp only [Bool.false_eq_true, if_false] at hK
      have h3 := hv2.seth (-1)
      by_cases c1 : s.h = -1
      · simp [f_check_judge_endLoop, env0, go_sem, get_alloc, n_alloc, get_set, n_set, get_kill, n_kill, writeAt, a11, a21, a31, a41, a51, a61, a71, endP, endI, resultsA, resultA, freezeL, freezeV, AV.free.freeL, AV.free, packA, dropS, hc, hbg, hbJ, n1, n2, hv1.cell, isNil, sp55, sp63, c1]
        exact ⟨_, _, ⟨rfl, rfl⟩, hK _ _ ⟨rfl, by simp only [n_set, n_alloc]; omega, fun j hj => hfr1 _ _ _ j hj, fun _ => ⟨pa', oa, h3⟩⟩⟩
      · have d1 := ne_b c1
        have d2 := ne_b' (show s.h = x.base from Classical.byContradiction fun e => hbad ⟨c1, e⟩)
        simp [f_check_judge_endLoop, env0, go_sem, get_alloc, n_alloc, get_set, n_set, get_kill, n_kill, writeAt, a11, a21, a31, a41, a51, a61, a71, endP, endI, resultsA, resultA, freezeL, freezeV, AV.free.freeL, AV.free, packA, dropS, hc, hbg, hbJ, n1, n2, hv1.cell, isNil, sp55, sp63, d1, d2]
        exact ⟨_, _, ⟨rfl, rfl⟩, hK _ _ ⟨rfl, by simp only [n_set, n_alloc]; omega, fun j hj => hfr1 _ _ _ j hj, fun _ => ⟨pa', oa, h3⟩⟩⟩
end
end Go.Ev
namespace Go.Ev
open Go
section
variable {bar b : Nat} {g : H} {J : Nat} {p m : Int} {fa : AV} {s : Js} {out : List Int}
theorem lastLoopJ_some : ∀ (ps : List Jp) (n k : Nat), lastLoopJ ps n = some k → k < n ∧ ∃ p, ps[k]? = some p ∧ p.loop = true
  | ps, 0, k, h => by simp [lastLoopJ] at h
  | ps, n + 1, k, h => by
    simp only [lastLoopJ] at h
    cases hp : ps[n]? with
    | none => rw [hp] at h; simp at h
    | some p =>
      rw [hp] at h
      simp only at h
      split at h
      · rename_i hl
        injection h with h
        subst h
        exact ⟨by omega, p, hp, hl⟩
      · obtain ⟨h1, h2⟩ := lastLoopJ_some ps n k h
        exact ⟨by omega, h2⟩
theorem jleave_loop {pa oa : AV} (hv : JVp g b J p m fa s out pa oa) (hl : s.ps.length ≤ 1000) (k0 : Nat) (Q : Ex → Env → H → Prop) (hq : ∀ e, e.get 0 = some (.ptr J 0) → e.get 3 = some (.int .i64 (k0 : Nat)) → Q (.exit 0) e g) : ∀ (n : Nat), n ≤ s.ps.length → lastLoopJ s.ps n = some k0 →
    wpL (call tb prim) bar [0, 3] l0_check_judge_leave [(0, .ptr J 0), (3, .int .i64 ((n : Int) - 1))] g Q := by
  intro n
  induction n with
  | zero => intro _ h; simp [lastLoopJ] at h
  | succ k ih =>
    intro hn hll
    refine M_loop l0_check_judge_leave.eq_1 ?_
    have hne : s.ps ≠ [] := List.length_pos_iff.mp (by omega)
    obtain ⟨id, all, _, hpa, h1, h2, h3, h4, h5, _, _, _, h9, h10, h11⟩ := hv.last hne
    have hk : k < s.ps.length := by omega
    have hk' : (k : Int) < (s.ps.length : Int) := by omega
    have hxk : s.ps[k]? = some s.ps[k] := List.getElem?_eq_getElem hk
    obtain ⟨f0, f1, f2, f3, f4, f5, f6⟩ := h11 k _ hxk
    have hkk : ((k + 1 : Nat) : Int) - 1 = (k : Int) := by omega
    rw [hkk]
    simp only [lastLoopJ, hxk] at hll
    subst hpa
    generalize s.ps[k] = x at *
    cases hlp : x.loop with
    | true =>
      rw [hlp, if_pos rfl] at hll
      injection hll with hll
      subst hll
      simp [go_sem, hv.cell, isNil, indexIn, hk, hk', h3, f1, hlp]
      exact hq _ rfl rfl
    | false =>
      rw [hlp] at hll
      simp only [Bool.false_eq_true, if_false] at hll
      have hw : IntKind.i64.wrap ((k : Int) - 1) = (k : Int) - 1 := w64 (by omega) (by omega)
      simp [go_sem, hv.cell, isNil, indexIn, hk, hk', h3, f1, hlp, hw]
      exact ih (by omega) hll
theorem jleave_ok (hbb : bar ≤ b) (hb : b ≤ g.n) (hv : JV g b J p m fa s out) (hl : s.ps.length ≤ 1000) (hll : ∃ k, lastLoopJ s.ps s.ps.length = some k) : ∃ r g', call tb prim n_check_judge_leave [.ptr J 0] bar g = some (r, g') ∧ JR g b J p m fa out (jturn 126 s) r g' := by
  suffices hw : ∃ r g', callF (call tb prim) f_check_judge_leave [.ptr J 0] bar g = some (r, g') ∧ JR g b J p m fa out (jturn 126 s) r g' by
    obtain ⟨r, h', h1, h2⟩ := hw; exact ⟨r, h', call_of tb_check_judge_leave h1, h2⟩
  refine callF_K rfl rfl fun K hK => ?_
  obtain ⟨pa, oa, hv⟩ := hv
  obtain ⟨k, hll⟩ := hll
  obtain ⟨hk, x, hx, hlp⟩ := lastLoopJ_some _ _ _ hll
  have hj : jturn 126 s = if s.h ≠ x.base then (14, s) else (0, ⟨-1, s.ps.set k ⟨x.loop, x.other, true, x.base, x.fin⟩⟩) := by
    simp only [jturn, hll, hx]
    rfl
  rw [hj] at hK
  have hne : s.ps ≠ [] := List.length_pos_iff.mp (by omega)
  have hpl := List.length_pos_iff.mpr hne
  have hw : IntKind.i64.wrap ((s.ps.length : Int) - 1) = (s.ps.length : Int) - 1 := w64 (by omega) (by omega)
  have hvl := hv.os.len
  have hv0 := hv
  obtain ⟨id, all, _, hpa, h1, h2, h3, h4, h5, _, _, _, h9, h10, h11⟩ := hv.last hne
  obtain ⟨f0, f1, f2, f3, f4, f5, f6⟩ := h11 k _ hx
  have hk' : (k : Int) < (s.ps.length : Int) := by omega
  have hbJ : bar ≤ J := by have := hv.bJ; omega
  have hbi : bar ≤ id := by omega
  have hle : k * 5 + 2 + 1 ≤ all.length := by omega
  have n1 : J ≠ id := fun e => h4 e.symm
  simp [f_check_judge_leave, env0, go_sem, hv.cell, isNil, hvl, hw]
  refine jleave_loop hv0 hl k _ (fun e q1 q2 => ?_) s.ps.length (Nat.le_refl _) hll
  subst hpa
  by_cases c1 : s.h = x.base
  · have d1 := ne_b' c1
    rw [if_neg (fun e => e c1)] at hK
    have hos := h10 k x ⟨x.loop, x.other, true, x.base, x.fin⟩ 2 [.bool true] ((g.set id (.cells (splice all (k * 5 + 2) [.bool true]) 0)).set J (.cells [.int .i64 p, .int .i64 m, fa, .int .i64 (-1), .sl id 0 5 s.ps.length false, oa] 0)) hx (by simp) rfl (Jp.c_one _) (Nat.le_refl _) (by rw [get_set_ne h4, get_set, if_pos rfl])
    simp [go_sem, get_alloc, n_alloc, get_set, n_set, get_kill, n_kill, writeAt, a11, a21, a31, a41, a51, a61, a71, endP, endI, resultsA, resultA, freezeL, freezeV, AV.free.freeL, AV.free, packA, dropS, q1, q2, hv.cell, isNil, indexIn, hk, hk', h3, f4, d1, hbJ, hbi, hle, n1, sp63]
    refine ⟨_, _, ⟨rfl, rfl⟩, hK _ _ ⟨rfl, Nat.le_refl _, fun j hj => by rw [get_set_ne (by have := hv.bJ; omega), get_set_ne (by omega)], fun _ => ⟨.sl id 0 5 s.ps.length false, oa, ?_⟩⟩⟩
    exact {
      cell := by rw [get_set, if_pos rfl]
      bJ := hv.bJ
      Jn := hv.Jn
      os := hos
      oo := (hv.oo.set _ h5).set _ hv.oJ
      pJ := hv.pJ
      oJ := hv.oJ
      ap := hv.ap }
  · have d1 := ne_b c1
    rw [if_pos c1] at hK
    simp [go_sem, get_alloc, n_alloc, get_set, n_set, get_kill, n_kill, writeAt, a11, a21, a31, a41, a51, a61, a71, endP, endI, resultsA, resultA, freezeL, freezeV, AV.free.freeL, AV.free, packA, dropS, q1, q2, hv.cell, isNil, indexIn, hk, hk', h3, f4, d1]
    exact ⟨_, _, ⟨rfl, rfl⟩, hK _ _ ⟨rfl, Nat.le_refl _, fun _ _ => rfl, fun e => by cases e⟩⟩
theorem jturn_ok (sg : Int) (hbb : bar ≤ b) (hb : b ≤ g.n) (hv : JV g b J p m fa s out) (hl : s.ps.length ≤ 900) (hpre : jpre sg s.ps) (hh : -100000 ≤ s.h ∧ s.h ≤ 100000) : ∃ r g', call tb prim n_check_judge_turn [.ptr J 0, .int .i32 sg] bar g = some (r, g') ∧ JR g b J p m fa out (jturn sg s) r g' := by
  suffices hw : ∃ r g', callF (call tb prim) f_check_judge_turn [.ptr J 0, .int .i32 sg] bar g = some (r, g') ∧ JR g b J p m fa out (jturn sg s) r g' by
    obtain ⟨r, h', h1, h2⟩ := hw; exact ⟨r, h', call_of tb_check_judge_turn h1, h2⟩
  refine callF_K rfl rfl fun K hK => ?_
  obtain ⟨pre1, pre2, pre3, pre4⟩ := hpre
  have hv0 := hv
  obtain ⟨pa, oa, hv⟩ := hv
  have hJn := hv.Jn
  have hbJ : bar ≤ J := by have := hv.bJ; omega
  by_cases c1 : sg = 63 ∨ sg = 91
  · have hj : jturn sg s = (0, ⟨s.h, s.ps ++ [⟨sg == 91, false, false, s.h, 0⟩]⟩) := by simp only [jturn]; rw [if_pos c1]
    rw [hj] at hK
    obtain ⟨a', g', e1, e2, e3, e4, e5⟩ := hv.os.app' hb hbb 24 (Jp.c ⟨sg == 91, false, false, s.h, 0⟩) rfl (Jp.c_one _) (by omega) (by omega) (by omega)
    simp only [Jp.c] at e1
    have hgJ : g'.get J = some (.cells [.int .i64 p, .int .i64 m, fa, .int .i64 s.h, pa, oa] 0) := by rw [e4 J hJn hv.pJ]; exact hv.cell
    have n1 : J ≠ g.n := by omega
    have hfr : ∀ c j, j < b → (g'.set J c).get j = g.get j := fun c j hj => by rw [get_set_ne (by have := hv.bJ; omega), e4 j (by omega) (fun q => by have := hv.os.at_lt q; omega)]
    have haJ : ¬ a'.isAt J := fun q => by have := e5 _ q; omega
    have hfin : JV (g'.set J (.cells [.int .i64 p, .int .i64 m, fa, .int .i64 s.h, a', oa] 0)) b J p m fa ⟨s.h, s.ps ++ [⟨sg == 91, false, false, s.h, 0⟩]⟩ out := ⟨a', oa, {
      cell := by rw [get_set, if_pos rfl]
      bJ := hv.bJ
      Jn := by simp only [n_set]; omega
      os := by have := e2.set (.cells [.int .i64 p, .int .i64 m, fa, .int .i64 s.h, a', oa] 0) haJ; simpa [Jp.c] using this
      oo := (hv.oo.mono (by omega) (fun j q => e4 j (hv.oo.at_lt q).2 (fun q2 => hv.ap j q2 q))).set _ hv.oJ
      pJ := haJ
      oJ := hv.oJ
      ap := fun j q1 q2 => by have := e5 _ q1; have := hv.oo.at_lt q2; omega }⟩
    rcases c1 with rfl | rfl
    · simp [f_check_judge_turn, env0, go_sem, get_alloc, n_alloc, get_set, n_set, get_kill, n_kill, writeAt, a11, a21, a31, a41, a51, a61, a71, endP, endI, resultsA, resultA, freezeL, freezeV, AV.free.freeL, AV.free, packA, dropS]
      refine ⟨?_, ?_⟩
      · refine sees_of rfl ?_
        simp [R_nil, R_cons, RS_some, sameV_some, seesQ_some, List.take, List.take_succ_cons, List.take_zero, go_sem, get_alloc, n_alloc, get_set, n_set, get_kill, n_kill, writeAt, a11, a21, a31, a41, a51, a61, a71, hv.cell, isNil, evParts, fillA, splice, n1]
      · have e1' : appR bar 5 24 (some pa) (some (.sl g.n 0 5 1 true)) (g.alloc (.cells [.bool false, .bool false, .bool false, .int .i64 s.h, .int .i64 0] 0)) = some (a', g') := e1
        simp [go_sem, get_alloc, n_alloc, get_set, n_set, get_kill, n_kill, writeAt, a11, a21, a31, a41, a51, a61, a71, endP, endI, resultsA, resultA, freezeL, freezeV, AV.free.freeL, AV.free, packA, dropS, hv.cell, isNil, evParts, fillA, splice, e1', hgJ, hbJ, e2.one]
        exact ⟨_, _, ⟨rfl, rfl⟩, hK _ _ ⟨rfl, by simp only [n_set]; omega, fun j hj => hfr _ j hj, fun _ => hfin⟩⟩
    · simp [f_check_judge_turn, env0, go_sem, get_alloc, n_alloc, get_set, n_set, get_kill, n_kill, writeAt, a11, a21, a31, a41, a51, a61, a71, endP, endI, resultsA, resultA, freezeL, freezeV, AV.free.freeL, AV.free, packA, dropS]
      refine ⟨?_, ?_⟩
      · refine sees_of rfl ?_
        simp [R_nil, R_cons, RS_some, sameV_some, seesQ_some, List.take, List.take_succ_cons, List.take_zero, go_sem, get_alloc, n_alloc, get_set, n_set, get_kill, n_kill, writeAt, a11, a21, a31, a41, a51, a61, a71, hv.cell, isNil, evParts, fillA, splice, n1]
      · have e1' : appR bar 5 24 (some pa) (some (.sl g.n 0 5 1 true)) (g.alloc (.cells [.bool true, .bool false, .bool false, .int .i64 s.h, .int .i64 0] 0)) = some (a', g') := e1
        simp [go_sem, get_alloc, n_alloc, get_set, n_set, get_kill, n_kill, writeAt, a11, a21, a31, a41, a51, a61, a71, endP, endI, resultsA, resultA, freezeL, freezeV, AV.free.freeL, AV.free, packA, dropS, hv.cell, isNil, evParts, fillA, splice, e1', hgJ, hbJ, e2.one]
        exact ⟨_, _, ⟨rfl, rfl⟩, hK _ _ ⟨rfl, by simp only [n_set]; omega, fun j hj => hfr _ j hj, fun _ => hfin⟩⟩
  by_cases c2 : sg = 58
  · subst c2
    obtain ⟨x, hx, _, _⟩ := pre1 rfl
    have hne : s.ps ≠ [] := fun e => by rw [e] at hx; cases hx
    have hj : jturn 58 s = (0, ⟨x.base, s.ps.set (s.ps.length - 1) ⟨x.loop, true, x.left, x.base, s.h⟩⟩) := by simp [jturn, hx]
    rw [hj] at hK
    obtain ⟨id, all, x', hpa, h1, h2, h3, h4, h5, h6, h7, h8, h9, h10, h11⟩ := hv.last hne
    rw [hx] at h8
    injection h8 with h8
    subst h8
    obtain ⟨f0, f1, f2, f3, f4, f5, f6⟩ := h11 _ _ h6
    obtain ⟨q1, q2, q3, q4, q5, q6, q7⟩ := pos_facts (List.length_pos_iff.mpr hne) (by omega)
    have n1 : J ≠ id := fun e => h4 e.symm
    have hbi : bar ≤ id := by omega
    have hle1 : (s.ps.length - 1) * 5 + 1 + 1 ≤ all.length := by omega
    have hle2 : (s.ps.length - 1) * 5 + 4 + 1 ≤ (splice all ((s.ps.length - 1) * 5 + 1) [.bool true]).length := by simp [splice]; omega
    have hsp1 : ∀ v, (splice all ((s.ps.length - 1) * 5 + 1) [v])[(s.ps.length - 1) * 5 + 3]? = all[(s.ps.length - 1) * 5 + 3]? := fun v => by
      unfold splice
      rw [List.append_assoc, List.getElem?_append_right (by simp; omega), List.getElem?_append_right (by simp; omega), List.getElem?_drop]
      congr 1
      simp; omega
    have hsp2 : ∀ v w, (splice (splice all ((s.ps.length - 1) * 5 + 1) [v]) ((s.ps.length - 1) * 5 + 4) [w])[(s.ps.length - 1) * 5 + 3]? = (splice all ((s.ps.length - 1) * 5 + 1) [v])[(s.ps.length - 1) * 5 + 3]? := fun v w => by
      conv => lhs; unfold splice
      rw [List.append_assoc, List.getElem?_append_left (by simp [splice]; omega), List.getElem?_take_of_lt (by omega)]
      rfl
    have hb3 : (splice (splice all ((s.ps.length - 1) * 5 + 1) [.bool true]) ((s.ps.length - 1) * 5 + 4) [.int .i64 s.h])[(s.ps.length - 1) * 5 + 3]? = some (.int .i64 x.base) := by rw [hsp2, hsp1]; exact f4
    have hos1 := h10 (s.ps.length - 1) x ⟨x.loop, true, x.left, x.base, x.fin⟩ 1 [.bool true] (g.set id (.cells (splice all ((s.ps.length - 1) * 5 + 1) [.bool true]) 0)) h6 (by simp) rfl (Jp.c_one _) (Nat.le_refl _) (by rw [get_set, if_pos rfl])
    have hne1 : s.ps.set (s.ps.length - 1) ⟨x.loop, true, x.left, x.base, x.fin⟩ ≠ [] := List.length_pos_iff.mp (by rw [List.length_set]; exact List.length_pos_iff.mpr hne)
    obtain ⟨id', all', hpa', _, _, h3', _, _, _, h10'⟩ := hos1.elems Jp.c_len hne1
    rw [hpa] at hpa'
    injection hpa' with hid
    subst hid
    rw [get_set, if_pos rfl] at h3'
    injection h3' with h3'
    injection h3' with h3'
    subst h3'
    have hos2 := h10' (s.ps.length - 1) ⟨x.loop, true, x.left, x.base, x.fin⟩ ⟨x.loop, true, x.left, x.base, s.h⟩ 4 [.int .i64 s.h] (((g.set id (.cells (splice all ((s.ps.length - 1) * 5 + 1) [.bool true]) 0)).set id (.cells (splice (splice all ((s.ps.length - 1) * 5 + 1) [.bool true]) ((s.ps.length - 1) * 5 + 4) [.int .i64 s.h]) 0)).set J (.cells [.int .i64 p, .int .i64 m, fa, .int .i64 x.base, pa, oa] 0))
      (by rw [List.getElem?_set, if_pos rfl, if_pos q2]) (by simp) rfl (Jp.c_one _) (Nat.le_refl _) (by rw [get_set_ne h4, get_set, if_pos rfl])
    rw [List.set_set] at hos2
    subst hpa
    simp [f_check_judge_turn, env0, go_sem, get_alloc, n_alloc, get_set, n_set, get_kill, n_kill, writeAt, a11, a21, a31, a41, a51, a61, a71, endP, endI, resultsA, resultA, freezeL, freezeV, AV.free.freeL, AV.free, packA, dropS, hv.cell, isNil, q1, q2, q3, q4, indexIn, h3, n1, hbi, hle1, hle2, hb3, hbJ, sp63]
    refine ⟨_, _, ⟨rfl, rfl⟩, hK _ _ ⟨rfl, Nat.le_refl _, fun j hj => by rw [get_set_ne (by have := hv.bJ; omega), get_set_ne (by omega), get_set_ne (by omega)], fun _ => ⟨.sl id 0 5 s.ps.length false, oa, ?_⟩⟩⟩
    exact {
      cell := by rw [get_set, if_pos rfl]
      bJ := hv.bJ
      Jn := hv.Jn
      os := hos2
      oo := ((hv.oo.set _ h5).set _ h5).set _ hv.oJ
      pJ := hv.pJ
      oJ := hv.oJ
      ap := hv.ap }
  have d1 : (sg == 63) = false := by simp; omega
  have d2 : (sg == 91) = false := by simp; omega
  have d3 : (sg == 58) = false := by simpa using c2
  by_cases c3 : sg = 59
  · subst c3
    obtain ⟨x, hx, _⟩ := pre2 rfl
    obtain ⟨r, g', e1, e2⟩ := jendIf_ok hbb hb hv0 (by omega) (fun e => by rw [e] at hx; cases hx)
    simp [f_check_judge_turn, env0, go_sem, get_alloc, n_alloc, get_set, n_set, get_kill, n_kill, writeAt, a11, a21, a31, a41, a51, a61, a71, endP, endI, resultsA, resultA, freezeL, freezeV, AV.free.freeL, AV.free, packA, dropS, e1]
    exact ⟨_, _, ⟨rfl, rfl⟩, hK _ _ e2⟩
  by_cases c4 : sg = 93
  · subst c4
    obtain ⟨x, hx, _⟩ := pre3 rfl
    obtain ⟨r, g', e1, e2⟩ := jendLoop_ok hbb hb hv0 (by omega) (fun e => by rw [e] at hx; cases hx)
    simp [f_check_judge_turn, env0, go_sem, get_alloc, n_alloc, get_set, n_set, get_kill, n_kill, writeAt, a11, a21, a31, a41, a51, a61, a71, endP, endI, resultsA, resultA, freezeL, freezeV, AV.free.freeL, AV.free, packA, dropS, e1]
    exact ⟨_, _, ⟨rfl, rfl⟩, hK _ _ e2⟩
  by_cases c5 : sg = 126
  · subst c5
    obtain ⟨r, g', e1, e2⟩ := jleave_ok hbb hb hv0 (by omega) (pre4 rfl)
    simp [f_check_judge_turn, env0, go_sem, get_alloc, n_alloc, get_set, n_set, get_kill, n_kill, writeAt, a11, a21, a31, a41, a51, a61, a71, endP, endI, resultsA, resultA, freezeL, freezeV, AV.free.freeL, AV.free, packA, dropS, e1]
    exact ⟨_, _, ⟨rfl, rfl⟩, hK _ _ e2⟩
  have d4 : (sg == 59) = false := by simpa using c3
  have d5 : (sg == 93) = false := by simpa using c4
  have d6 : (sg == 126) = false := by simpa using c5
  by_cases c6 : sg = 161
  · subst c6
    have hj : jturn 161 s = (0, ⟨-1, s.ps⟩) := by simp [jturn]
    rw [hj] at hK
    simp [f_check_judge_turn, env0, go_sem, get_alloc, n_alloc, get_set, n_set, get_kill, n_kill, writeAt, a11, a21, a31, a41, a51, a61, a71, endP, endI, resultsA, resultA, freezeL, freezeV, AV.free.freeL, AV.free, packA, dropS, hv.cell, isNil, hbJ, sp63]
    exact ⟨_, _, ⟨rfl, rfl⟩, hK _ _ ⟨rfl, Nat.le_refl _, fun j hj => by rw [get_set_ne (by have := hv.bJ; omega)], fun _ => ⟨pa, oa, hv.seth (-1)⟩⟩⟩
  · have d7 : (sg == 161) = false := by simpa using c6
    have hj : jturn sg s = (0, s) := by unfold jturn; rw [if_neg c1, if_neg c2, if_neg c3, if_neg c4, if_neg c5, if_neg c6]
    rw [hj] at hK
    simp [f_check_judge_turn, env0, go_sem, get_alloc, n_alloc, get_set, n_set, get_kill, n_kill, writeAt, a11, a21, a31, a41, a51, a61, a71, endP, endI, resultsA, resultA, freezeL, freezeV, AV.free.freeL, AV.free, packA, dropS, d1, d2, d3, d4, d5, d6, d7]
    exact ⟨_, _, ⟨rfl, rfl⟩, hK _ _ ⟨rfl, Nat.le_refl _, fun _ _ => rfl, fun _ => hv0⟩⟩
end
end Go.Ev
namespace Go.Ev
open Go
section
variable {bar b : Nat} {g : H} {J : Nat} {p m : Int} {fa : AV} {s : Js} {out : List Int}
theorem jbase_rng (hok : JOk s) : 0 ≤ jbase s.ps ∧ jbase s.ps ≤ 64 := by
  unfold jbase
  cases h : s.ps.getLast? with
  | none => simp
  | some x => have := hok.2.2.1 x (List.mem_of_getLast? h); exact ⟨this.1, this.2.1⟩
theorem jtoken_ok (fs : List Fn) (t : Tok) (h0 : H) (hfv : FV h0 fa fs) (h0n : h0.n ≤ b) (hag : Ag h0.n h0 g) (hbb : bar ≤ b) (hb : b ≤ g.n) (hv : JV g b J p m fa s out) (hok : JOk s) (hl : s.ps.length ≤ 800) (hol : out.length ≤ 5000) (hpre : jpre t.sign s.ps) :
    ∃ r g', call tb prim n_check_judge_token [.ptr J 0, .agg t.cells] bar g = some (r, g') ∧ JR g b J p m fa (out ++ [s.h]) (jtok fs t s) r g' := by
  suffices hw : ∃ r g', callF (call tb prim) f_check_judge_token [.ptr J 0, .agg t.cells] bar g = some (r, g') ∧ JR g b J p m fa (out ++ [s.h]) (jtok fs t s) r g' by
    obtain ⟨r, h', h1, h2⟩ := hw; exact ⟨r, h', call_of tb_check_judge_token h1, h2⟩
  refine callF_K rfl rfl fun K hK => ?_
  obtain ⟨pa, oa, hv⟩ := hv
  have hJn := hv.Jn
  have hbJ : bar ≤ J := by have := hv.bJ; omega
  have n1 : J ≠ g.n := by omega
  have n2 : J ≠ g.n + 1 := by omega
  have hvA : JVp (g.alloc (.cells t.cells 0)) b J p m fa s out pa oa := hv.mono (by simp [n_alloc]) (fun j hj => by rw [get_alloc, if_neg (by omega)])
  obtain ⟨a', g1, e1, e2, e3, e4, e5⟩ := hvA.oo.app' (by simp only [n_alloc]; omega) hbb 8 (i64c s.h) rfl rfl (by omega) (by omega) (by omega)
  simp only [n_alloc] at e1 e3 e4 e5
  simp only [i64c] at e1
  have hgJ : g1.get J = some (.cells [.int .i64 p, .int .i64 m, fa, .int .i64 s.h, pa, oa] 0) := by rw [e4 J (by omega) hv.oJ]; exact hvA.cell
  have hgt : g1.get g.n = some (.cells t.cells 0) := by rw [e4 g.n (by omega) (fun q => by have := hv.oo.at_lt q; omega), get_alloc, if_pos rfl]
  have haJ : ¬ a'.isAt J := fun q => by have := e5 _ q; omega
  have hfr1 : ∀ j, j < g.n → j ≠ J → ¬ oa.isAt j → g1.get j = g.get j := fun j q1 q2 q3 => by rw [e4 j (by omega) q3, get_alloc, if_neg (by omega)]
  have hv1 : JVp (g1.set J (.cells [.int .i64 p, .int .i64 m, fa, .int .i64 s.h, pa, a'] 0)) b J p m fa s (out ++ [s.h]) pa a' := {
      cell := by rw [get_set, if_pos rfl]
      bJ := hv.bJ
      Jn := by simp only [n_set]; omega
      os := (hv.os.mono (by omega) (fun j q => hfr1 j (hv.os.at_lt q).2 (fun e => hv.pJ (e ▸ q)) (fun q2 => hv.ap j q q2))).set _ hv.pJ
      oo := by have := e2.set (.cells [.int .i64 p, .int .i64 m, fa, .int .i64 s.h, pa, a'] 0) haJ; simpa [i64c] using this
      pJ := hv.pJ
      oJ := haJ
      ap := fun j q1 q2 => by have := e5 _ q2; have := hv.os.at_lt q1; omega }
  have hfrb : ∀ c j, j < b → (g1.set J c).get j = g.get j := fun c j hj => by
    rw [get_set_ne (by have := hv.bJ; omega), hfr1 j (by omega) (by have := hv.bJ; omega) (fun q => by have := hv.oo.at_lt q; omega)]
  have hg2t : (g1.set J (.cells [.int .i64 p, .int .i64 m, fa, .int .i64 s.h, pa, a'] 0)).get g.n = some (.cells t.cells 0) := by rw [get_set_ne (by omega)]; exact hgt
  have hg2n : (g1.set J (.cells [.int .i64 p, .int .i64 m, fa, .int .i64 s.h, pa, a'] 0)).n = g.n + 3 := by simp only [n_set]; omega
  have hfone := Vw.one hfv
  have hfv2 : FV (g1.set J (.cells [.int .i64 p, .int .i64 m, fa, .int .i64 s.h, pa, a'] 0)) fa fs := hfv.mono ⟨by have := hag.1; omega, fun j hj => by rw [hfrb _ j (by omega), hag.2 j hj]⟩ (Nat.le_refl _)
  have htk : call tb prim n_check_Takes [.agg [.int .i64 p, .int .i64 m, fa], .agg t.cells] bar (g1.set J (.cells [.int .i64 p, .int .i64 m, fa, .int .i64 s.h, pa, a'] 0)) = _ := check_Takes_ok fs fa t.sign t.n t.name p m hfv2
  have hbase : call tb prim n_check_judge_base [.ptr J 0] bar (g1.set J (.cells [.int .i64 p, .int .i64 m, fa, .int .i64 s.h, pa, a'] 0)) = some (.int .i64 (jbase s.ps), _) := jbase_ok hv1 (by omega)
  have hcell2 := hv1.cell
  obtain ⟨b1, b2⟩ := jbase_rng hok
  obtain ⟨b3, b4, b5, b6⟩ := takes_rng fs t.sign t.name
  obtain ⟨b7, b8, _, _⟩ := hok
  have htc : t.cells = [.int .i32 t.sign, .int .i64 t.n, .int .i32 t.name] := rfl
  simp only [htc] at hg2t htk e1 ⊢
  have hjt : jtok fs t s = _ := rfl
  have hturn : ∀ (x : Int) (gx : H), gx = (g1.set J (.cells [.int .i64 p, .int .i64 m, fa, .int .i64 x, pa, a'] 0)) → -100000 ≤ x ∧ x ≤ 100000 → ∃ r g', call tb prim n_check_judge_turn [.ptr J 0, .int .i32 t.sign] bar gx = some (r, g') ∧ JR g b J p m fa (out ++ [s.h]) (jturn t.sign ⟨x, s.ps⟩) r g' := fun x gx hgx hx => by
    have hset : (g1.set J (.cells [.int .i64 p, .int .i64 m, fa, .int .i64 s.h, pa, a'] 0)).set J (.cells [.int .i64 p, .int .i64 m, fa, .int .i64 x, pa, a'] 0) = gx := by
      rw [hgx]; unfold H.set; simp only; congr 1; funext j; split <;> rfl
    have hvx : JV gx b J p m fa ⟨x, s.ps⟩ (out ++ [s.h]) := ⟨pa, a', by rw [← hset]; exact hv1.seth x⟩
    have hgxn : gx.n = g.n + 3 := by rw [hgx]; simp only [n_set]; omega
    obtain ⟨r, g', q1, q2, q3, q4, q5⟩ := jturn_ok (s := ⟨x, s.ps⟩) t.sign hbb (by omega) hvx (by simp only; omega) hpre hx
    exact ⟨r, g', q1, q2, by omega, fun j hj => by rw [q4 j hj, hgx]; exact hfrb _ j hj, q5⟩
  generalize hg2 : g1.set J (.cells [.int .i64 p, .int .i64 m, fa, .int .i64 s.h, pa, a'] 0) = g2 at *
  generalize htv : takesN fs t.sign t.name = tv at *
  simp [f_check_judge_token, env0, go_sem, get_alloc, n_alloc, get_set, n_set, get_kill, n_kill, writeAt, a11, a21, a31, a41, a51, a61, a71, endP, endI, resultsA, resultA, freezeL, freezeV, AV.free.freeL, AV.free, packA, dropS]
  refine ⟨?_, ?_⟩
  · refine sees_of rfl ?_
    simp [R_nil, R_cons, RS_some, sameV_some, seesQ_some, List.take, List.take_succ_cons, List.take_zero, go_sem, get_alloc, n_alloc, get_set, n_set, get_kill, n_kill, writeAt, a11, a21, a31, a41, a51, a61, a71, hv.cell, isNil, evParts, fillA, sp10, n1, n2]
  · simp [go_sem, get_alloc, n_alloc, get_set, n_set, get_kill, n_kill, writeAt, a11, a21, a31, a41, a51, a61, a71, endP, endI, resultsA, resultA, freezeL, freezeV, AV.free.freeL, AV.free, packA, dropS, hv.cell, isNil, evParts, fillA, sp10, n1, n2, e1, hgJ, hbJ, e2.one, sp65, hg2, hcell2, hg2t]
    have hK14 : s.h ≠ -1 → tv.2.2 = true → (s.h - jbase s.ps < tv.1 ∨ 64 < s.h - tv.1 + tv.2.1) → K (.int .i64 14) g2 := fun a1 a2 a3 => by
      refine hK _ _ ?_
      have : jtok fs t s = (14, s) := by unfold jtok; rw [htv, if_neg (fun e => a1 e.1), if_neg (by simp [a2]), if_neg a1, if_pos a3]
      rw [this]
      exact ⟨rfl, by omega, fun j hj => by rw [← hg2]; exact hfrb _ j hj, fun e => by cases e⟩
    have hK22 : ¬ (s.h = -1 ∧ isEnd t.sign = false) → tv.2.2 = false → K (.int .i64 22) g2 := fun a1 a2 => by
      refine hK _ _ ?_
      have : jtok fs t s = (22, s) := by unfold jtok; rw [htv, if_neg a1, if_pos a2]
      rw [this]
      exact ⟨rfl, by omega, fun j hj => by rw [← hg2]; exact hfrb _ j hj, fun e => by cases e⟩
    by_cases a : s.h = -1
    · have ab : (s.h == -1) = true := by simpa using a
      have ab2 : (s.h != -1) = false := ne_b' a
      obtain ⟨r, g3, c1, c2⟩ := hturn s.h g2 hg2.symm (by omega)
      by_cases hE : isEnd t.sign = true
      · have hgo : tv.2.2 = true → jtok fs t s = jturn t.sign ⟨s.h, s.ps⟩ := fun a2 => by
          unfold jtok; rw [htv, if_neg (by simp [hE]), if_neg (by simp [a2]), if_pos a]
        have hE' : t.sign = 58 ∨ t.sign = 59 ∨ t.sign = 93 := by simpa [isEnd] using hE
        cases htv2 : tv.2.2 with
        | false =>
          have hk := hK22 (by simp [hE]) htv2
          rw [htv2] at htk
          rcases hE' with hE' | hE' | hE'
          all_goals
            simp only [hE'] at *
            simp [go_sem, get_alloc, n_alloc, get_set, n_set, get_kill, n_kill, writeAt, a11, a21, a31, a41, a51, a61, a71, endP, endI, resultsA, resultA, freezeL, freezeV, AV.free.freeL, AV.free, packA, dropS, isNil, hcell2, hg2t, ab, ab2, htk]
            exact ⟨_, _, ⟨rfl, rfl⟩, hk⟩
        | true =>
          have hgo := hgo htv2
          rw [hgo] at hK
          rw [htv2] at htk
          rcases hE' with hE' | hE' | hE'
          all_goals
            simp only [hE'] at *
            simp [go_sem, get_alloc, n_alloc, get_set, n_set, get_kill, n_kill, writeAt, a11, a21, a31, a41, a51, a61, a71, endP, endI, resultsA, resultA, freezeL, freezeV, AV.free.freeL, AV.free, packA, dropS, isNil, hcell2, hg2t, ab, ab2, htk, c1]
            exact ⟨_, _, ⟨rfl, rfl⟩, hK _ _ c2⟩
      · have hE0 : isEnd t.sign = false := by simpa using hE
        have hE' : ¬ (t.sign = 58 ∨ t.sign = 59 ∨ t.sign = 93) := by simpa [isEnd] using hE
        have f1 : (t.sign != 58) = true := by simp; omega
        have f2 : (t.sign != 59) = true := by simp; omega
        have f3 : (t.sign != 93) = true := by simp; omega
        have : jtok fs t s = (15, s) := by unfold jtok; rw [if_pos ⟨a, hE0⟩]
        rw [this] at hK
        simp [go_sem, get_alloc, n_alloc, get_set, n_set, get_kill, n_kill, writeAt, a11, a21, a31, a41, a51, a61, a71, endP, endI, resultsA, resultA, freezeL, freezeV, AV.free.freeL, AV.free, packA, dropS, isNil, hcell2, hg2t, ab, f1, f2, f3]
        exact ⟨_, _, ⟨rfl, rfl⟩, hK _ _ ⟨rfl, by omega, fun j hj => by rw [← hg2]; exact hfrb _ j hj, fun e => by cases e⟩⟩
    · have ab : (s.h == -1) = false := by simpa using a
      have ab2 : (s.h != -1) = true := ne_b a
      cases htv2 : tv.2.2 with
      | false =>
        have hk := hK22 (fun e => a e.1) htv2
        rw [htv2] at htk
        simp [go_sem, get_alloc, n_alloc, get_set, n_set, get_kill, n_kill, writeAt, a11, a21, a31, a41, a51, a61, a71, endP, endI, resultsA, resultA, freezeL, freezeV, AV.free.freeL, AV.free, packA, dropS, isNil, hcell2, hg2t, ab, ab2, htk]
        exact ⟨_, _, ⟨rfl, rfl⟩, hk⟩
      | true =>
        rw [htv2] at htk
        have w1 : IntKind.i64.wrap (s.h - jbase s.ps) = s.h - jbase s.ps := w64 (by omega) (by omega)
        have w2 : IntKind.i64.wrap (s.h - tv.1) = s.h - tv.1 := w64 (by omega) (by omega)
        have w3 : IntKind.i64.wrap (s.h - tv.1 + tv.2.1) = s.h - tv.1 + tv.2.1 := w64 (by omega) (by omega)
        have w4 : IntKind.i64.wrap (tv.2.1 - tv.1) = tv.2.1 - tv.1 := w64 (by omega) (by omega)
        have w5 : IntKind.i64.wrap (s.h + (tv.2.1 - tv.1)) = s.h + (tv.2.1 - tv.1) := w64 (by omega) (by omega)
        by_cases q1 : s.h - jbase s.ps < tv.1
        · simp [go_sem, get_alloc, n_alloc, get_set, n_set, get_kill, n_kill, writeAt, a11, a21, a31, a41, a51, a61, a71, endP, endI, resultsA, resultA, freezeL, freezeV, AV.free.freeL, AV.free, packA, dropS, isNil, hcell2, hg2t, ab, ab2, htk, hbase, w1, q1]
          exact ⟨_, _, ⟨rfl, rfl⟩, hK14 a htv2 (.inl q1)⟩
        · by_cases q2 : 64 < s.h - tv.1 + tv.2.1
          · simp [go_sem, get_alloc, n_alloc, get_set, n_set, get_kill, n_kill, writeAt, a11, a21, a31, a41, a51, a61, a71, endP, endI, resultsA, resultA, freezeL, freezeV, AV.free.freeL, AV.free, packA, dropS, isNil, hcell2, hg2t, ab, ab2, htk, hbase, w1, q1, w2, w3, q2]
            exact ⟨_, _, ⟨rfl, rfl⟩, hK14 a htv2 (.inr q2)⟩
          · have hgo : jtok fs t s = jturn t.sign ⟨s.h + (tv.2.1 - tv.1), s.ps⟩ := by
              unfold jtok; rw [htv, if_neg (fun e => a e.1), if_neg (by simp [htv2]), if_neg a, if_neg (by omega)]
            rw [hgo] at hK
            obtain ⟨r, g3, c1, c2⟩ := hturn (s.h + (tv.2.1 - tv.1)) (g2.set J (.cells [.int .i64 p, .int .i64 m, fa, .int .i64 (s.h + (tv.2.1 - tv.1)), pa, a'] 0)) (by rw [← hg2]; unfold H.set; simp only; congr 1; funext j; split <;> rfl) (by omega)
            have hnJ : (g2.set J (.cells [.int .i64 p, .int .i64 m, fa, .int .i64 (s.h + (tv.2.1 - tv.1)), pa, a'] 0)).get g.n = g2.get g.n := get_set_ne (by omega)
            have n3 : g.n ≠ J := by omega
            simp [go_sem, get_alloc, n_alloc, get_set, n_set, get_kill, n_kill, writeAt, a11, a21, a31, a41, a51, a61, a71, endP, endI, resultsA, resultA, freezeL, freezeV, AV.free.freeL, AV.free, packA, dropS, isNil, hcell2, hg2t, ab, ab2, htk, hbase, w1, q1, w2, w3, q2, w4, w5, hbJ, sp63, n3, c1]
            exact ⟨_, _, ⟨rfl, rfl⟩, hK _ _ c2⟩
end
end Go.Ev
namespace Go.Ev
open Go
def JGood (fs : List Fn) : List Tok → Js → Prop
  | [], s => JOk s
  | t :: r, s => JOk s ∧ s.ps.length ≤ 800 ∧ (s.h ≠ -1 → jbase s.ps ≤ s.h) ∧ jpre t.sign s.ps ∧ ((jtok fs t s).1 = 0 → JGood fs r (jtok fs t s).2)
structure JRel (i : Nat) (s : Mt) (j : Js) : Prop where
  fl : j.ps.map (fun p => (p.loop, p.other)) = s.op.map fun p => (p.loop, decide (0 < p.ot))
  ot : ∀ p ∈ s.op, p.loop = true → p.ot = 0
  fr : ∀ p ∈ s.op, p.fr < i
  n16 : s.op.length ≤ 16
  h0 : -1 ≤ j.h
  h1 : j.h ≤ 64
  bs : ∀ p ∈ j.ps, 0 ≤ p.base ∧ p.base ≤ 64 ∧ -1 ≤ p.fin ∧ p.fin ≤ 64 ∧ (p.other = true → p.fin = -1 ∨ p.base ≤ p.fin)
  so : j.ps.Pairwise fun p q => p.base ≤ q.base
  al : j.h ≠ -1 → ∀ p ∈ j.ps, p.base ≤ j.h
theorem JRel.len {i : Nat} {s : Mt} {j : Js} (h : JRel i s j) : j.ps.length = s.op.length := by
  have := congrArg List.length h.fl
  simpa using this
theorem JRel.ok {i : Nat} {s : Mt} {j : Js} (h : JRel i s j) : JOk j :=
  ⟨h.h0, h.h1, fun p hp => ⟨(h.bs p hp).1, (h.bs p hp).2.1, (h.bs p hp).2.2.1, (h.bs p hp).2.2.2.1⟩, by have := h.len; have := h.n16; omega⟩
theorem lastLoop_eq {s : Mt} {j : Js} (h : j.ps.map (fun p => (p.loop, p.other)) = s.op.map fun p => (p.loop, decide (0 < p.ot))) : ∀ n, lastLoopJ j.ps n = lastLoop s.op n
  | 0 => rfl
  | n + 1 => by
    have hn := congrArg (fun l => l[n]?) h
    simp only [List.getElem?_map] at hn
    simp only [lastLoopJ, lastLoop]
    cases h1 : j.ps[n]? with
    | none => rw [h1] at hn; cases h2 : s.op[n]? with
      | none => rfl
      | some q => rw [h2] at hn; simp at hn
    | some p => rw [h1] at hn; cases h2 : s.op[n]? with
      | none => rw [h2] at hn; simp at hn
      | some q =>
        rw [h2] at hn
        simp only [Option.map_some, Option.some.injEq, Prod.mk.injEq] at hn
        simp only [hn.1]
        rw [lastLoop_eq h n]
theorem JRel.last {i : Nat} {s : Mt} {j : Js} (h : JRel i s j) {q : Pt} (hq : s.op.getLast? = some q) : ∃ p, j.ps.getLast? = some p ∧ p.loop = q.loop ∧ p.other = decide (0 < q.ot) ∧ p ∈ j.ps ∧ q ∈ s.op := by
  have hn := congrArg List.getLast? h.fl
  rw [List.getLast?_map, List.getLast?_map, hq] at hn
  cases hp : j.ps.getLast? with
  | none => rw [hp] at hn; simp at hn
  | some p =>
    rw [hp] at hn
    simp only [Option.map_some, Option.some.injEq, Prod.mk.injEq] at hn
    exact ⟨p, rfl, hn.1, hn.2, List.mem_of_getLast? hp, List.mem_of_getLast? hq⟩
theorem JRel.pre {i : Nat} {s : Mt} {j : Js} (h : JRel i s j) {sg : Int} {s' : Mt} (hs : pstep sg i s = some s') : jpre sg j.ps := by
  refine ⟨fun e => ?_, fun e => ?_, fun e => ?_, fun e => ?_⟩
  · subst e
    unfold pstep at hs
    rw [if_neg (by omega), if_neg (by omega), if_pos rfl] at hs
    cases hq : s.op.getLast? with
    | none => rw [hq] at hs; cases hs
    | some q =>
      rw [hq] at hs
      simp only at hs
      obtain ⟨p, h1, h2, h3, _⟩ := h.last hq
      split at hs
      · cases hs
      · rename_i hc
        simp at hc
        exact ⟨p, h1, by rw [h2]; exact hc.1, by rw [h3]; simp; omega⟩
  · subst e
    unfold pstep at hs
    rw [if_neg (by omega), if_neg (by omega), if_neg (by omega), if_pos rfl] at hs
    cases hq : s.op.getLast? with
    | none => rw [hq] at hs; cases hs
    | some q =>
      rw [hq] at hs
      simp only at hs
      obtain ⟨p, h1, h2, h3, _⟩ := h.last hq
      split at hs
      · cases hs
      · rename_i hc
        exact ⟨p, h1, by rw [h2]; simpa using hc⟩
  · subst e
    unfold pstep at hs
    rw [if_neg (by omega), if_neg (by omega), if_neg (by omega), if_neg (by omega), if_pos rfl] at hs
    cases hq : s.op.getLast? with
    | none => rw [hq] at hs; cases hs
    | some q =>
      rw [hq] at hs
      simp only at hs
      obtain ⟨p, h1, h2, h3, _, hm⟩ := h.last hq
      split at hs
      · rename_i hc
        exact ⟨p, h1, by rw [h2]; exact hc, by rw [h3]; simp; exact h.ot q hm hc⟩
      · cases hs
  · subst e
    unfold pstep at hs
    rw [if_neg (by omega), if_neg (by omega), if_neg (by omega), if_neg (by omega), if_neg (by omega), if_pos rfl] at hs
    cases hq : lastLoop s.op s.op.length with
    | none => rw [hq] at hs; cases hs
    | some k => exact ⟨k, by rw [lastLoop_eq h.fl, h.len, hq]⟩
theorem base_le {ps : List Jp} (so : ps.Pairwise fun p q => p.base ≤ q.base) {x : Jp} (hx : ps.getLast? = some x) : ∀ p ∈ ps, p.base ≤ x.base := fun p hp => by
  have hne : ps ≠ [] := fun e => by rw [e] at hx; cases hx
  obtain ⟨y, hy1, hy2, _, _⟩ := drop_last_split hne
  rw [hx] at hy1; injection hy1 with hy1; subst hy1
  rw [hy2] at so hp
  rw [List.pairwise_append] at so
  rw [List.mem_append] at hp
  rcases hp with hp | hp
  · exact so.2.2 p hp x (by simp)
  · simp at hp; subst hp; exact Int.le_refl _
theorem mem_drop {A : Type} {l : List A} {x : A} (h : x ∈ l.dropLast) : x ∈ l := by rw [List.dropLast_eq_take] at h; exact List.mem_of_mem_take h
theorem JRel.turn {i : Nat} {s : Mt} {j : Js} {h : Int} (hr : JRel i s j) {sg : Int} {s' : Mt} (hs : pstep sg i s = some s') (hh0 : -1 ≤ h) (hh1 : h ≤ 64) (hal : h ≠ -1 → ∀ p ∈ j.ps, p.base ≤ h) (hd : isEnd sg = false → h ≠ -1) (h0 : (jturn sg ⟨h, j.ps⟩).1 = 0) : JRel (i + 1) s' (jturn sg ⟨h, j.ps⟩).2 := by
  have hpre := hr.pre hs
  have fr1 : ∀ p ∈ s.op, p.fr < i + 1 := fun p hp => by have := hr.fr p hp; omega
  unfold pstep at hs
  unfold jturn at h0 ⊢
  by_cases c1 : sg = 63 ∨ sg = 91
  · rw [if_pos c1] at h0 ⊢
    have hne : h ≠ -1 := hd (by simp [isEnd]; omega)
    have hfin : ∀ lp : Bool, lp = (sg == 91) → s.op.length + 1 ≤ 16 → JRel (i + 1) ⟨s.to, s.op ++ [⟨lp, i, 0, []⟩], max s.deep (s.op.length + 1)⟩ ⟨h, j.ps ++ [⟨sg == 91, false, false, h, 0⟩]⟩ := fun lp hlp h16 => {
      fl := by simp [hr.fl, hlp]
      ot := fun p hp hl => by
        rw [List.mem_append] at hp
        rcases hp with hp | hp
        · exact hr.ot p hp hl
        · simp at hp; subst hp; rfl
      fr := fun p hp => by
        rw [List.mem_append] at hp
        rcases hp with hp | hp
        · exact fr1 p hp
        · simp at hp; subst hp; simp
      n16 := by simp; omega
      h0 := hh0
      h1 := hh1
      bs := fun p hp => by
        rw [List.mem_append] at hp
        rcases hp with hp | hp
        · exact hr.bs p hp
        · simp at hp; subst hp; simp only; exact ⟨by omega, hh1, by omega, by omega, fun e => by cases e⟩
      so := by
        rw [List.pairwise_append]
        exact ⟨hr.so, List.pairwise_singleton _ _, fun p hp q hq => by simp at hq; subst hq; exact hal hne p hp⟩
      al := fun _ p hp => by
        rw [List.mem_append] at hp
        rcases hp with hp | hp
        · exact hal hne p hp
        · simp at hp; subst hp; exact Int.le_refl _ }
    rcases c1 with rfl | rfl
    · rw [if_pos rfl] at hs
      split at hs
      · rename_i h16
        injection hs with hs; subst hs
        exact hfin false rfl h16
      · cases hs
    · rw [if_neg (by omega), if_pos rfl] at hs
      split at hs
      · rename_i h16
        injection hs with hs; subst hs
        exact hfin true rfl h16
      · cases hs
  rw [if_neg (by omega), if_neg (by omega)] at hs
  rw [if_neg c1] at h0 ⊢
  by_cases c2 : sg = 58
  · rw [if_pos c2] at hs h0 ⊢
    cases hq : s.op.getLast? with
    | none => rw [hq] at hs; cases hs
    | some q =>
      rw [hq] at hs
      obtain ⟨p, e1, e2, e3, e4, e5⟩ := hr.last hq
      simp only [e1] at h0 ⊢
      simp only at hs
      split at hs
      · cases hs
      · rename_i hc
        simp at hc
        injection hs with hs; subst hs
        have hi0 : 0 < i := by have := hr.fr q e5; omega
        have hpb := hr.bs p e4
        have hlj : j.ps[j.ps.length - 1]? = some p := by rw [← List.getLast?_eq_getElem?]; exact e1
        refine { fl := ?_, ot := fun x hx hl => ?_, fr := fun x hx => ?_, n16 := by simp only [List.length_set]; exact hr.n16, h0 := by simp only; omega, h1 := by simp only; omega, bs := fun x hx => ?_, so := ?_, al := fun _ x hx => ?_ }
        · simp only [List.map_set, hr.fl, hr.len]
          simp [e2, hi0]
        · rcases List.mem_or_eq_of_mem_set hx with hx | rfl
          · exact hr.ot x hx hl
          · rw [hc.1] at hl; cases hl
        · rcases List.mem_or_eq_of_mem_set hx with hx | rfl
          · exact fr1 x hx
          · exact fr1 q e5
        · rcases List.mem_or_eq_of_mem_set hx with hx | rfl
          · exact hr.bs x hx
          · refine ⟨hpb.1, hpb.2.1, hh0, hh1, fun _ => ?_⟩
            by_cases ch : h = -1
            · exact .inl ch
            · exact .inr (hal ch p e4)
        · have hm : (j.ps.set (j.ps.length - 1) ⟨p.loop, true, p.left, p.base, h⟩).map Jp.base = j.ps.map Jp.base := by
            rw [List.map_set]
            apply List.ext_getElem?
            intro k
            rw [List.getElem?_set]
            split
            · rename_i e; subst e
              split
              · rw [List.getElem?_map, hlj]; rfl
              · rename_i hh; simp at hh; rw [List.getElem?_map, hlj]; simp [List.getElem?_eq_none_iff.mpr hh] at hlj
            · rfl
          have h3 : (j.ps.map Jp.base).Pairwise (· ≤ ·) := List.pairwise_map.mpr hr.so
          rw [← hm] at h3
          exact List.pairwise_map.mp h3
        · simp only
          rcases List.mem_or_eq_of_mem_set hx with hx | rfl
          · exact base_le hr.so e1 x hx
          · exact Int.le_refl _
  rw [if_neg c2] at hs h0 ⊢
  have hdrop : ∀ {q : Pt} {x : Int} {to : List Int}, s.op.getLast? = some q → -1 ≤ x → x ≤ 64 → (x ≠ -1 → ∀ p ∈ j.ps.dropLast, p.base ≤ x) → JRel (i + 1) ⟨to, s.op.dropLast, s.deep⟩ ⟨x, j.ps.dropLast⟩ := fun {q x to} hq g1 g2 g3 => {
    fl := by simp only [List.map_dropLast, hr.fl]
    ot := fun p hp => hr.ot p (mem_drop hp)
    fr := fun p hp => fr1 p (mem_drop hp)
    n16 := by simp only [List.length_dropLast]; have := hr.n16; omega
    h0 := g1
    h1 := g2
    bs := fun p hp => hr.bs p (mem_drop hp)
    so := hr.so.sublist (List.dropLast_sublist _)
    al := g3 }
  by_cases c3 : sg = 59
  · rw [if_pos c3] at hs h0 ⊢
    cases hq : s.op.getLast? with
    | none => rw [hq] at hs; cases hs
    | some q =>
      rw [hq] at hs
      obtain ⟨p, e1, e2, e3, e4, e5⟩ := hr.last hq
      have hpb := hr.bs p e4
      have hbl := base_le hr.so e1
      simp only [e1] at h0 ⊢
      simp only at hs
      split at hs
      · cases hs
      · injection hs with hs; subst hs
        by_cases co : p.other = true
        · rw [if_pos co] at h0 ⊢
          split at h0
          · cases h0
          · rename_i hc
            rw [if_neg hc]
            refine hdrop hq (by omega) (by omega) (fun hx y hy => ?_)
            have hy1 := hbl y (mem_drop hy)
            by_cases ch : h = -1
            · rcases hpb.2.2.2.2 co with hf | hf <;> omega
            · have := hal ch y (mem_drop hy); omega
        · rw [if_neg co] at h0 ⊢
          split at h0
          · cases h0
          · rename_i hc
            rw [if_neg hc]
            exact hdrop hq (by omega) (by omega) (fun _ y hy => hbl y (mem_drop hy))
  rw [if_neg c3] at hs h0 ⊢
  by_cases c4 : sg = 93
  · rw [if_pos c4] at hs h0 ⊢
    cases hq : s.op.getLast? with
    | none => rw [hq] at hs; cases hs
    | some q =>
      rw [hq] at hs
      obtain ⟨p, e1, e2, e3, e4, e5⟩ := hr.last hq
      have hpb := hr.bs p e4
      have hbl := base_le hr.so e1
      simp only [e1] at h0 ⊢
      simp only at hs
      split at hs
      · injection hs with hs; subst hs
        split at h0
        · cases h0
        · rename_i hc
          rw [if_neg hc]
          refine hdrop hq ?_ ?_ (fun hx y hy => ?_)
          · split <;> omega
          · split <;> omega
          · split
            · exact hbl y (mem_drop hy)
            · rename_i hl; simp only [hl] at hx; exact absurd rfl hx
      · cases hs
  rw [if_neg c4] at hs h0 ⊢
  by_cases c5 : sg = 126
  · rw [if_pos c5] at hs h0 ⊢
    cases hk : lastLoop s.op s.op.length with
    | none => rw [hk] at hs; cases hs
    | some k =>
      have hkj : lastLoopJ j.ps j.ps.length = some k := by rw [lastLoop_eq hr.fl, hr.len, hk]
      obtain ⟨hk1, pj, hpj, hlj⟩ := lastLoopJ_some _ _ _ hkj
      rw [hk] at hs
      simp only [hkj, hpj] at h0 ⊢
      simp only at hs
      obtain ⟨_, q, hq, hlq⟩ := lastLoop_some _ _ _ hk
      rw [hq] at hs
      simp only at hs
      injection hs with hs; subst hs
      split at h0
      · cases h0
      · rename_i hc
        rw [if_neg hc]
        have hflk := congrArg (fun l => l[k]?) hr.fl
        simp only [List.getElem?_map, hpj, hq, Option.map_some, Option.some.injEq, Prod.mk.injEq] at hflk
        refine { fl := ?_, ot := fun x hx hl => ?_, fr := fun x hx => ?_, n16 := by simp only [List.length_set]; exact hr.n16, h0 := by simp only; omega, h1 := by simp only; omega, bs := fun x hx => ?_, so := ?_, al := fun e => absurd rfl e }
        · simp only [List.map_set, hr.fl]
          simp [hflk]
        · rcases List.mem_or_eq_of_mem_set hx with hx | rfl
          · exact hr.ot x hx hl
          · exact hr.ot q (List.mem_of_getElem? hq) hl
        · rcases List.mem_or_eq_of_mem_set hx with hx | rfl
          · exact fr1 x hx
          · exact fr1 q (List.mem_of_getElem? hq)
        · rcases List.mem_or_eq_of_mem_set hx with hx | rfl
          · exact hr.bs x hx
          · exact hr.bs pj (List.mem_of_getElem? hpj)
        · have hm : (j.ps.set k ⟨pj.loop, pj.other, true, pj.base, pj.fin⟩).map Jp.base = j.ps.map Jp.base := by
            rw [List.map_set]
            apply List.ext_getElem?
            intro k'
            rw [List.getElem?_set]
            split
            · rename_i e; subst e
              split
              · rw [List.getElem?_map, hpj]; rfl
              · rename_i hh; simp at hh; omega
            · rfl
          have h3 : (j.ps.map Jp.base).Pairwise (· ≤ ·) := List.pairwise_map.mpr hr.so
          rw [← hm] at h3
          exact List.pairwise_map.mp h3
  rw [if_neg c5] at hs h0 ⊢
  injection hs with hs; subst hs
  have hsame : ∀ x : Int, -1 ≤ x → x ≤ 64 → (x ≠ -1 → ∀ p ∈ j.ps, p.base ≤ x) → JRel (i + 1) s ⟨x, j.ps⟩ := fun x g1 g2 g3 => { fl := hr.fl, ot := hr.ot, fr := fr1, n16 := hr.n16, h0 := g1, h1 := g2, bs := hr.bs, so := hr.so, al := g3 }
  by_cases c6 : sg = 161
  · rw [if_pos c6]
    exact hsame (-1) (by omega) (by omega) (fun e => absurd rfl e)
  · rw [if_neg c6]
    exact hsame h hh0 hh1 hal
theorem JRel.jb {i : Nat} {s : Mt} {j : Js} (hr : JRel i s j) (h : j.h ≠ -1) : jbase j.ps ≤ j.h := by
  unfold jbase
  cases hx : j.ps.getLast? with
  | none => have := hr.h0; simp only; omega
  | some x => exact hr.al h x (List.mem_of_getLast? hx)
theorem JRel.tok {i : Nat} {s : Mt} {j : Js} (hr : JRel i s j) (fs : List Fn) (t : Tok) {s' : Mt} (hs : pstep t.sign i s = some s') (h0 : (jtok fs t j).1 = 0) : JRel (i + 1) s' (jtok fs t j).2 := by
  have hjb := hr.jb
  have hh0 := hr.h0
  have hh1 := hr.h1
  obtain ⟨b3, b4, b5, b6⟩ := takes_rng fs t.sign t.name
  unfold jtok at h0 ⊢
  split at h0
  · cases h0
  rename_i c1
  rw [if_neg c1]
  split at h0
  · cases h0
  rename_i c2
  rw [if_neg c2]
  split at h0
  · rename_i c3
    rw [if_pos c3]
    have := hr.turn (h := j.h) hs hh0 hh1 hr.al (fun e => absurd ⟨c3, e⟩ c1) h0
    exact this
  · rename_i c3
    rw [if_neg c3]
    split at h0
    · cases h0
    · rename_i c4
      rw [if_neg c4]
      have hb := hjb c3
      have hjb0 : 0 ≤ jbase j.ps := (jbase_rng hr.ok).1
      refine hr.turn (h := j.h + ((takesN fs t.sign t.name).2.1 - (takesN fs t.sign t.name).1)) hs (by omega) (by omega) (fun _ p hp => ?_) (fun _ => by omega) h0
      have : p.base ≤ jbase j.ps := by
        unfold jbase
        cases hx : j.ps.getLast? with
        | none => rw [List.getLast?_eq_none_iff] at hx; rw [hx] at hp; cases hp
        | some x => exact base_le hr.so hx p hp
      omega
theorem nest_good (fs : List Fn) (l : List Tok) : ∀ (k i : Nat) (s : Mt) (j : Js) (s' : Mt), l.length = i + k → ploop l k i s = some s' → JRel i s j → JGood fs (l.drop i) j := by
  intro k
  induction k with
  | zero => intro i s j s' hl hp hr; rw [List.drop_eq_nil_of_le (by omega)]; exact hr.ok
  | succ k ih =>
    intro i s j s' hl hp hr
    have hi : i < l.length := by omega
    rw [List.drop_eq_getElem_cons hi]
    have hsg : sgn l i = l[i].sign := by simp [sgn, hi]
    simp only [ploop, hsg] at hp
    cases hs : pstep l[i].sign i s with
    | none => rw [hs] at hp; cases hp
    | some s2 =>
      rw [hs] at hp
      refine ⟨hr.ok, by have := hr.len; have := hr.n16; omega, hr.jb, hr.pre hs, fun h0 => ?_⟩
      exact ih (i + 1) s2 _ s' (by omega) hp (hr.tok fs l[i] hs h0)
theorem nestP_good (fs : List Fn) (l : List Tok) {to : List Int} (h : nestP l = some to) : JGood fs l ⟨0, []⟩ := by
  unfold nestP at h
  cases hp : ploop l l.length 0 ⟨List.replicate l.length (-1), [], 0⟩ with
  | none => rw [hp] at h; cases h
  | some s =>
    have := nest_good fs l l.length 0 _ ⟨0, []⟩ s (by omega) hp { fl := rfl, ot := by simp, fr := by simp, n16 := by simp, h0 := by simp, h1 := by simp, bs := by simp, so := List.Pairwise.nil, al := by simp }
    simpa using this
end Go.Ev
namespace Go.Ev
open Go
def jloop (fs : List Fn) : List Tok → Js → List Int → Int × Js × List Int
  | [], s, o => (0, s, o)
  | t :: r, s, o => if (jtok fs t s).1 = 0 then jloop fs r (jtok fs t s).2 (o ++ [s.h]) else ((jtok fs t s).1, s, o)
def funT (fs : List Fn) (ts : List Tok) (ok : Bool) : List Int × Int :=
  if ok = false then ([], 13) else
  if (jloop fs ts ⟨0, []⟩ []).1 ≠ 0 then ([], (jloop fs ts ⟨0, []⟩ []).1) else
  if (jloop fs ts ⟨0, []⟩ []).2.1.h ≠ -1 ∧ (jloop fs ts ⟨0, []⟩ []).2.1.h ≠ 1 then ([], 14) else ((jloop fs ts ⟨0, []⟩ []).2.2, 0)
def funN (nest : List Tok → Bool) (fs : List Fn) (k : Int) : List Int × Int :=
  if k < 0 ∨ (fs.length : Int) ≤ k then ([], 23) else
  match fs[k.toNat]? with
  | none => ([], 23)
  | some f => if (toksN f.code).2 ≠ 0 then ([], (toksN f.code).2) else funT fs (toksN f.code).1 (nest (toksN f.code).1)
theorem S_field {o : Oracle} {bar : Nat} {h0 g : H} {fa : AV} {fs : List Fn} (hv : FV h0 fa fs) (hag : Ag h0.n h0 g) {i : Nat} (hi : i < fs.length) {f : Nat} {y : AV} (hy : (fs[i]).cells[f]? = some y) {a c d : Nat} {r : List IOper} {ks : List Fr} {e : Env} {Q : Ex → Env → H → Prop}
    (hw : ∀ v1 v2, wpX o bar r ks ((d, y) :: (c, v2) :: (a, v1) :: e) g Q) :
    wpS o bar (iadrR 3 (some fa) (some (.int .i64 (i : Nat))) g) (some a) (⟨some c, .fadr f (.t a), none⟩ :: ⟨some d, .ld false 1 (.t c), none⟩ :: r) ks e Q := by
  have hbi : (i : Int) < (fs.length : Int) := by omega
  rcases hv.cases with ⟨rfl, rfl⟩ | ⟨full, cs, rfl, hl, hx, _⟩ | ⟨id', off, full, all, p', rfl, hlt, hg', hx, _⟩
  · cases hi
  · have hcf : cs[i * 3 + f]? = some y := by
      obtain ⟨q0, q1, q2⟩ := hx i hi
      match f, hy with
      | 0, hy => rw [Nat.add_zero, q0]; exact hy
      | 1, hy => rw [q1]; exact hy
      | 2, hy => rw [q2]; exact hy
      | n + 3, hy => simp [Fn.cells] at hy
    simp [go_sem, indexIn, hi, hbi, hl, hcf]
    exact hw _ _
  · have hcf : all[off + i * 3 + f]? = some y := by
      obtain ⟨q0, q1, q2⟩ := hx i hi
      match f, hy with
      | 0, hy => rw [Nat.add_zero, q0]; exact hy
      | 1, hy => rw [q1]; exact hy
      | 2, hy => rw [q2]; exact hy
      | n + 3, hy => simp [Fn.cells] at hy
    have hg2 := (hag.2 _ hlt).trans hg'
    simp [go_sem, indexIn, hi, hbi, hg2, hcf]
    exact hw _ _
section
variable {bar b : Nat} {h : H} {J : Nat} {p m : Int} {fa : AV}
theorem check_func_loop (fs : List Fn) (l : List Tok) (la : AV) (hla : FzV 3 la l.length (l.flatMap Tok.cells)) (hlen : l.length ≤ 2000) (h0 : H) (hfv : FV h0 fa fs) (h0n : h0.n ≤ b) (hbb : bar ≤ b) (Q : Ex → Env → H → Prop) : ∀ (k i : Nat) (g : H) (s : Js) (out : List Int), l.length = i + k → b ≤ g.n → Ag h0.n h0 g → JV g b J p m fa s out → JGood fs (l.drop i) s → out.length ≤ i →
    (∀ e g' x, e.get 4 = some .nilsl → e.get 5 = some (.int .i64 x) → x ≠ 0 → (jloop fs (l.drop i) s out).1 = x → Q .ret e g') →
    (∀ e g' s' out', e.get 10 = some (.ptr J 0) → jloop fs (l.drop i) s out = (0, s', out') → JV g' b J p m fa s' out' → out'.length ≤ 2000 → Q (.exit 0) e g') →
    wpL (call tb prim) bar [10, 47, 48, 49] l0_check_Func [(10, .ptr J 0), (47, la), (48, goI l.length), (49, goI i)] g Q := by
  intro k
  induction k with
  | zero =>
    intro i g s out hk hb hag hv hg ho h1 h2
    refine M_loop l0_check_Func.eq_1 ?_
    simp [go_sem, hk]
    exact h2 _ _ s out rfl (by rw [List.drop_eq_nil_of_le (by omega)]; rfl) hv (by omega)
  | succ k ih =>
    intro i g s out hk hb hag hv hg ho h1 h2
    refine M_loop l0_check_Func.eq_1 ?_
    have hi : i < l.length := by omega
    have hbi : (i : Int) < (l.length : Int) := by omega
    have hw := w64_succ (n := i) (by omega)
    rcases tok_cases hla with ⟨rfl, rfl⟩ | ⟨full, cs, rfl, hl, hx, hy⟩
    · cases hi
    have hyi := hy i hi
    have hd : l.drop i = l[i] :: l.drop (i + 1) := List.drop_eq_getElem_cons hi
    rw [hd] at hg h1 h2
    generalize hti : l[i] = t at *
    obtain ⟨hok, hpl, _, hpre, hnext⟩ := hg
    have hbn : bar ≤ g.n := by omega
    have hv2 : JV ((g.alloc (.cells [.int .i32 0, .int .i64 0, .int .i32 0] 0)).set g.n (.cells t.cells 0)) b J p m fa s out := by
      obtain ⟨pa, oa, hv⟩ := hv
      exact ⟨pa, oa, hv.mono (by simp [n_set, n_alloc]) (fun j hj => by rw [get_set_ne (by omega), get_alloc, if_neg (by omega)])⟩
    have hag2 : Ag h0.n h0 ((g.alloc (.cells [.int .i32 0, .int .i64 0, .int .i32 0] 0)).set g.n (.cells t.cells 0)) := ⟨by simp only [n_set, n_alloc]; have := hag.1; omega, fun j hj => by rw [get_set_ne (by omega), get_alloc, if_neg (by omega), hag.2 j hj]⟩
    obtain ⟨r, g', c1, c2, c3, c4, c5⟩ := jtoken_ok (bar := bar) fs t h0 hfv h0n hag2 hbb (by simp only [n_set, n_alloc]; omega) hv2 hok hpl (by omega) hpre
    simp only [n_set, n_alloc] at c3
    simp only [Tok.cells] at c1
    have hjl : jloop fs (t :: l.drop (i + 1)) s out = if (jtok fs t s).1 = 0 then jloop fs (l.drop (i + 1)) (jtok fs t s).2 (out ++ [s.h]) else ((jtok fs t s).1, s, out) := rfl
    rw [hjl] at h1 h2
    subst c2
    by_cases c0 : (jtok fs t s).1 = 0
    · rw [if_pos c0] at h1 h2
      have c0' : ((jtok fs t s).1 != 0) = false := ne_b' c0
      simp [go_sem, get_alloc, n_alloc, get_set, n_set, get_kill, n_kill, writeAt, a11, a21, a31, a41, a51, a61, a71, hi, hbi, indexIn, hl, hyi, Tok.cells, splice, hbn, c1, c0', hw]
      exact ih (i + 1) g' _ _ (by omega) (by omega) ⟨by have := hag2.1; simp only [n_set, n_alloc] at this; omega, fun j hj => by rw [c4 j (by omega), hag2.2 j hj]⟩ (c5 c0) (hnext c0) (by simp; omega) h1 h2
    · rw [if_neg c0] at h1 h2
      have c0' : ((jtok fs t s).1 != 0) = true := ne_b c0
      simp [go_sem, get_alloc, n_alloc, get_set, n_set, get_kill, n_kill, writeAt, a11, a21, a31, a41, a51, a61, a71, hi, hbi, indexIn, hl, hyi, Tok.cells, splice, hbn, c1, c0']
      exact h1 _ _ _ rfl rfl c0 rfl
theorem check_Func_ok (fs : List Fn) (k : Int) (hv : FV h fa fs) : ∃ a, call tb prim n_check_Func [.agg [.int .i64 p, .int .i64 m, fa], .int .i64 k] bar h = some (.tup [a, .int .i64 (funN (fun l => (nestP l).isSome) fs k).2], h) ∧ FzV 1 a (funN (fun l => (nestP l).isSome) fs k).1.length ((funN (fun l => (nestP l).isSome) fs k).1.flatMap i64c) := by
  suffices hw : ∃ r, callF (call tb prim) f_check_Func [.agg [.int .i64 p, .int .i64 m, fa], .int .i64 k] bar h = some (r, h) ∧ ∃ a, r = .tup [a, .int .i64 (funN (fun l => (nestP l).isSome) fs k).2] ∧ FzV 1 a (funN (fun l => (nestP l).isSome) fs k).1.length ((funN (fun l => (nestP l).isSome) fs k).1.flatMap i64c) by
    obtain ⟨r, h1, a, rfl, h2⟩ := hw; exact ⟨a, call_of tb_check_Func h1, h2⟩
  refine callF_pureK rfl rfl fun K hK => ?_
  have hnil : ∀ x, funN (fun l => (nestP l).isSome) fs k = ([], x) → K (.tup [.nilsl, .int .i64 x]) := fun x hx => by
    refine hK _ ⟨.nilsl, by rw [hx], ?_⟩
    rw [hx]; exact ⟨rfl, by simp, .inl ⟨rfl, rfl⟩⟩
  have hlen := hv.len
  by_cases c1 : k < 0
  · have := hnil 23 (by unfold funN; rw [if_pos (.inl c1)])
    simp [f_check_Func, env0, go_sem, get_alloc, n_alloc, get_set, n_set, get_kill, n_kill, writeAt, a11, a21, a31, a41, a51, a61, a71, endX, resultsA, resultA, freezeL, AV.free.freeL, packA, Vw.one hv, c1, freezeV, AV.free]
    exact this
  by_cases c2 : (fs.length : Int) ≤ k
  · have := hnil 23 (by unfold funN; rw [if_pos (.inr c2)])
    simp [f_check_Func, env0, go_sem, get_alloc, n_alloc, get_set, n_set, get_kill, n_kill, writeAt, a11, a21, a31, a41, a51, a61, a71, endX, resultsA, resultA, freezeL, AV.free.freeL, packA, Vw.one hv, c1, hlen, c2, freezeV, AV.free]
    exact this
  obtain ⟨i, hik⟩ : ∃ i : Nat, k = i := ⟨k.toNat, by omega⟩
  subst hik
  have hi : i < fs.length := by omega
  have hbi : (i : Int) < (fs.length : Int) := by omega
  have hf : funN (fun l => (nestP l).isSome) fs (i : Int) = if (toksN fs[i].code).2 ≠ 0 then ([], (toksN fs[i].code).2) else funT fs (toksN fs[i].code).1 ((nestP (toksN fs[i].code).1).isSome) := by
    unfold funN; rw [if_neg (by omega)]; simp [hi]
  rw [hf] at hK hnil
  have hone := Vw.one hv
  have hag : ∀ o, Ag h.n h (h.alloc o) := fun o => Ag.alloc _ (Nat.le_refl _)
  obtain ⟨la, ht, hla, hll⟩ := glyph_Tokens_ok (bar := h.n) (h := h.alloc (.cells [.int .i64 p, .int .i64 m, fa] 0)) fs[i].code
  rw [gTok_eq] at ht hla hll
  have hpos : ¬ ((i : Int) < 0) := by omega
  have c2' : ¬ ((fs.length : Int) ≤ (i : Int)) := c2
  have c2n : ¬ fs.length ≤ i := by omega
  simp [f_check_Func, env0, go_sem, get_alloc, n_alloc, get_set, n_set, get_kill, n_kill, writeAt, a11, a21, a31, a41, a51, a61, a71, hone, hpos, hlen, c2', c2n]
  refine S_field (f := 2) hv (hag _) hi rfl (fun v1 v2 => ?_)
  by_cases d1 : (toksN fs[i].code).2 = 0
  · have d1' : ((toksN fs[i].code).2 != 0) = false := ne_b' d1
    rw [if_neg (by simp [d1])] at hK hnil
    simp [go_sem, get_alloc, n_alloc, get_set, n_set, get_kill, n_kill, writeAt, a11, a21, a31, a41, a51, a61, a71, ht, d1']
    have hof := nest_Of_ok (pr := prim) (bar := h.n) (g := h.alloc (.cells [.int .i64 p, .int .i64 m, fa] 0)) (toksN fs[i].code).1 la hla (by omega)
    have hlla := (hla.vw h).len
    generalize (toksN fs[i].code).1 = ts at *
    cases hne : nestP ts with
    | none =>
      rw [hne] at hof hnil
      simp [go_sem, get_alloc, n_alloc, get_set, n_set, get_kill, n_kill, writeAt, a11, a21, a31, a41, a51, a61, a71, endX, resultsA, resultA, freezeL, AV.free.freeL, packA, hof, freezeV, AV.free]
      exact hnil 13 rfl
    | some to =>
      rw [hne] at hof hnil hK
      obtain ⟨ta, hof, _, _⟩ := hof
      have hgood := nestP_good fs ts hne
      have hag1 : Ag h.n h ((h.alloc (.cells [.int .i64 p, .int .i64 m, fa] 0)).alloc (.cells [.int .i64 p, .int .i64 m, fa, .int .i64 0, .nilsl, .nilsl] 0)) := (hag _).trans (Ag.alloc _ (by simp [n_alloc]))
      have hJV : JV ((h.alloc (.cells [.int .i64 p, .int .i64 m, fa] 0)).alloc (.cells [.int .i64 p, .int .i64 m, fa, .int .i64 0, .nilsl, .nilsl] 0)) h.n (h.n + 1) p m fa ⟨0, []⟩ [] := ⟨.nilsl, .nilsl, {
        cell := by simp [get_alloc, n_alloc]
        bJ := by omega
        Jn := by simp only [n_alloc]; omega
        os := OS.nil
        oo := OS.nil
        pJ := fun q => q
        oJ := fun q => q
        ap := fun j q => q.elim }⟩
      simp [go_sem, get_alloc, n_alloc, get_set, n_set, get_kill, n_kill, writeAt, a11, a21, a31, a41, a51, a61, a71, hof, evParts, fillA, splice, hone, hlla]
      refine check_func_loop fs ts la hla (by omega) h hv (Nat.le_refl _) (Nat.le_refl _) _ ts.length 0 _ ⟨0, []⟩ [] (by omega) (by simp only [n_alloc]; omega) hag1 hJV (by simpa using hgood) (by simp) (fun e g' x q1 q2 q3 q4 => ?_) (fun e g' s' out' q1 q2 q3 q4 => ?_)
      · rw [List.drop_zero] at q4
        have := hnil x (by simp only [funT, Option.isSome_some, Bool.true_eq_false, if_false]; rw [q4, if_pos q3])
        simp [go_sem, endX, resultsA, resultA, freezeL, AV.free.freeL, packA, q1, q2, freezeV, AV.free]
        exact this
      · rw [List.drop_zero] at q2
        obtain ⟨pa, oa, hv'⟩ := q3
        by_cases e1 : s'.h = -1
        · have hK' := hK
          obtain ⟨a2, f1, f2, f3⟩ := hv'.oo.freeze (still_i64 _) (by omega) 2
          simp [go_sem, endX, resultsA, resultA, freezeL, AV.free.freeL, packA, q1, isNil, hv'.cell, e1, f2, f3.free, freezeV, AV.free]
          refine hK _ ⟨a2, ?_, ?_⟩
          · simp [funT, q2, e1, packA]
          · simp [funT, q2, e1]; exact f3
        · have e1' := ne_b e1
          by_cases e2 : s'.h = 1
          · have e2' := ne_b' e2
            obtain ⟨a2, f1, f2, f3⟩ := hv'.oo.freeze (still_i64 _) (by omega) 2
            simp [go_sem, endX, resultsA, resultA, freezeL, AV.free.freeL, packA, q1, isNil, hv'.cell, e1', e2', f2, f3.free, freezeV, AV.free]
            refine hK _ ⟨a2, ?_, ?_⟩
            · simp [funT, q2, e2, packA]
            · simp [funT, q2, e2]; exact f3
          · have e2' := ne_b e2
            have := hnil 14 (by simp only [funT, Option.isSome_some, Bool.true_eq_false, if_false]; rw [q2]; simp [e1, e2])
            simp [go_sem, endX, resultsA, resultA, freezeL, AV.free.freeL, packA, q1, isNil, hv'.cell, e1', e2', freezeV, AV.free]
            exact this
  · have d1' : ((toksN fs[i].code).2 != 0) = true := ne_b d1
    rw [if_pos d1] at hnil
    simp [go_sem, get_alloc, n_alloc, get_set, n_set, get_kill, n_kill, writeAt, a11, a21, a31, a41, a51, a61, a71, endX, resultsA, resultA, freezeL, AV.free.freeL, packA, ht, d1', freezeV, AV.free]
    exact hnil _ rfl
end
end Go.Ev
namespace Go.Proofs
open Go.Shelf
def Tryz.laysPI_ren : Go.Shelf.Ren := ⟨fun | 174 => 68 | 247 => 81 | 245 => 82 | 287 => 90 | 279 => 91 | 280 => 92 | 281 => 93 | 282 => 94 | 321 => 97 | 322 => 98 | 316 => 99 | 171 => 101 | 205 => 100 | 243 => 102 | 246 => 103 | 283 => 104 | 284 => 105 | 285 => 106 | 286 => 107 | 129 => 109 | 317 => 108 | 318 => 110 | 319 => 111 | 320 => 112 | 337 => 113 | 338 => 114 | n => n, fun | 9 => 9 | 3 => 3 | 2 => 2 | 75 => 138 | 85 => 139 | 4 => 4 | 167 => 155 | 5 => 5 | 53 => 25 | 175 => 156 | 46 => 24 | 168 => 158 | 37 => 56 | 0 => 0 | 210 => 168 | 21 => 21 | 127 => 171 | 145 => 174 | 143 => 172 | 171 => 176 | 173 => 179 | 212 => 182 | 51 => 183 | 20 => 20 | 213 => 184 | 232 => 187 | 233 => 188 | 80 => 189 | n => n, fun | 15 => 1 | 16 => 2 | 17 => 3 | 18 => 4 | 19 => 5 | n => n⟩
theorem Tryz.laysPI : Go.Proofs.LaysC.n174 Tryz.prog Tryz.laysPI_ren where
  mixed := by kernel_rfl
  f129 := Tryz.func109.trans (congrArg some (by kernel_rfl))
  f171 := Tryz.func101.trans (congrArg some (by kernel_rfl))
  f174 := Tryz.func68.trans (congrArg some (by kernel_rfl))
  f205 := Tryz.func100.trans (congrArg some (by kernel_rfl))
  f243 := Tryz.func102.trans (congrArg some (by kernel_rfl))
  f245 := Tryz.func82.trans (congrArg some (by kernel_rfl))
  f246 := Tryz.func103.trans (congrArg some (by kernel_rfl))
  f247 := Tryz.func81.trans (congrArg some (by kernel_rfl))
  f279 := Tryz.func91.trans (congrArg some (by kernel_rfl))
  f280 := Tryz.func92.trans (congrArg some (by kernel_rfl))
  f281 := Tryz.func93.trans (congrArg some (by kernel_rfl))
  f282 := Tryz.func94.trans (congrArg some (by kernel_rfl))
  f283 := Tryz.func104.trans (congrArg some (by kernel_rfl))
  f284 := Tryz.func105.trans (congrArg some (by kernel_rfl))
  f285 := Tryz.func106.trans (congrArg some (by kernel_rfl))
  f286 := Tryz.func107.trans (congrArg some (by kernel_rfl))
  f287 := Tryz.func90.trans (congrArg some (by kernel_rfl))
  f316 := Tryz.func99.trans (congrArg some (by kernel_rfl))
  f317 := Tryz.func108.trans (congrArg some (by kernel_rfl))
  f318 := Tryz.func110.trans (congrArg some (by kernel_rfl))
  f319 := Tryz.func111.trans (congrArg some (by kernel_rfl))
  f320 := Tryz.func112.trans (congrArg some (by kernel_rfl))
  f321 := Tryz.func97.trans (congrArg some (by kernel_rfl))
  f322 := Tryz.func98.trans (congrArg some (by kernel_rfl))
  f337 := Tryz.func113.trans (congrArg some (by kernel_rfl))
  f338 := Tryz.func114.trans (congrArg some (by kernel_rfl))
  t0 := Tryz.underlying0
  a0 := Tryz.isAgg0
  z0 := Tryz.sizeOf0
  v0 := Tryz.zeroValue0
  t2 := Tryz.underlying2
  a2 := Tryz.isAgg2
  z2 := Tryz.sizeOf2
  v2 := Tryz.zeroValue2
  t3 := Tryz.underlying3
  a3 := Tryz.isAgg3
  z3 := Tryz.sizeOf3
  v3 := Tryz.zeroValue3
  t4 := Tryz.underlying4
  a4 := Tryz.isAgg4
  z4 := Tryz.sizeOf4
  v4 := Tryz.zeroValue4
  t5 := Tryz.underlying5
  a5 := Tryz.isAgg5
  z5 := Tryz.sizeOf5
  v5 := Tryz.zeroValue5
  t9 := Tryz.underlying9
  a9 := Tryz.isAgg9
  z9 := Tryz.sizeOf9
  v9 := Tryz.zeroValue9
  t20 := Tryz.underlying20
  a20 := Tryz.isAgg20
  z20 := Tryz.sizeOf20
  v20 := Tryz.zeroValue20
  t21 := Tryz.underlying21
  a21 := Tryz.isAgg21
  z21 := Tryz.sizeOf21
  v21 := Tryz.zeroValue21
  t37 := Tryz.underlying56
  a37 := Tryz.isAgg56
  z37 := Tryz.sizeOf56
  v37 := Tryz.zeroValue56
  t46 := Tryz.underlying24
  a46 := Tryz.isAgg24
  z46 := Tryz.sizeOf24
  v46 := Tryz.zeroValue24
  t51 := Tryz.underlying183
  a51 := Tryz.isAgg183
  z51 := Tryz.sizeOf183
  v51 := Tryz.zeroValue183
  t53 := Tryz.underlying25
  a53 := Tryz.isAgg25
  z53 := Tryz.sizeOf25
  v53 := Tryz.zeroValue25
  t75 := Tryz.underlying138
  a75 := Tryz.isAgg138
  z75 := Tryz.sizeOf138
  v75 := Tryz.zeroValue138
  t85 := Tryz.underlying139
  a85 := Tryz.isAgg139
  z85 := Tryz.sizeOf139
  v85 := Tryz.zeroValue139
  t127 := Tryz.underlying171
  a127 := Tryz.isAgg171
  z127 := Tryz.sizeOf171
  v127 := Tryz.zeroValue171
  t143 := Tryz.underlying172
  a143 := Tryz.isAgg172
  z143 := Tryz.sizeOf172
  v143 := Tryz.zeroValue172
  t145 := Tryz.underlying174
  a145 := Tryz.isAgg174
  z145 := Tryz.sizeOf174
  v145 := Tryz.zeroValue174
  t167 := Tryz.underlying155
  a167 := Tryz.isAgg155
  z167 := Tryz.sizeOf155
  v167 := Tryz.zeroValue155
  t168 := Tryz.underlying158
  a168 := Tryz.isAgg158
  z168 := Tryz.sizeOf158
  v168 := Tryz.zeroValue158
  t171 := Tryz.underlying176
  a171 := Tryz.isAgg176
  z171 := Tryz.sizeOf176
  v171 := Tryz.zeroValue176
  t173 := Tryz.underlying179
  a173 := Tryz.isAgg179
  z173 := Tryz.sizeOf179
  v173 := Tryz.zeroValue179
  t175 := Tryz.underlying156
  a175 := Tryz.isAgg156
  z175 := Tryz.sizeOf156
  v175 := Tryz.zeroValue156
  t210 := Tryz.underlying168
  a210 := Tryz.isAgg168
  z210 := Tryz.sizeOf168
  v210 := Tryz.zeroValue168
  t212 := Tryz.underlying182
  a212 := Tryz.isAgg182
  z212 := Tryz.sizeOf182
  v212 := Tryz.zeroValue182
  t213 := Tryz.underlying184
  a213 := Tryz.isAgg184
  z213 := Tryz.sizeOf184
  t232 := Tryz.underlying187
  a232 := Tryz.isAgg187
  z232 := Tryz.sizeOf187
  v232 := Tryz.zeroValue187
  t233 := Tryz.underlying188
  a233 := Tryz.isAgg188
  z233 := Tryz.sizeOf188
  v233 := Tryz.zeroValue188
  g15 := by kernel_rfl
  g16 := by kernel_rfl
  g17 := by kernel_rfl
  g18 := by kernel_rfl
  g19 := by kernel_rfl
  t80 := Tryz.underlying189
  a80 := Tryz.isAgg189
  z80 := Tryz.sizeOf189
  v80 := Tryz.zeroValue189
  i0 := by kernel_rfl
  i2 := by kernel_rfl
  i3 := by kernel_rfl
  i4 := by kernel_rfl
  i5 := by kernel_rfl
  i9 := by kernel_rfl
  i20 := by kernel_rfl
  i21 := by kernel_rfl
  i37 := by kernel_rfl
  i46 := by kernel_rfl
  i51 := by kernel_rfl
  i53 := by kernel_rfl
  i75 := by kernel_rfl
  i80 := by kernel_rfl
  i85 := by kernel_rfl
  i127 := by kernel_rfl
  i143 := by kernel_rfl
  i145 := by kernel_rfl
  i167 := by kernel_rfl
  i168 := by kernel_rfl
  i171 := by kernel_rfl
  i173 := by kernel_rfl
  i175 := by kernel_rfl
  i210 := by kernel_rfl
  i212 := by kernel_rfl
  i232 := by kernel_rfl
  i233 := by kernel_rfl
  m15 := by kernel_rfl
  m16 := by kernel_rfl
  m17 := by kernel_rfl
  m18 := by kernel_rfl
  m19 := by kernel_rfl
  c0 := by kernel_rfl
  c2 := by kernel_rfl
  c3 := by kernel_rfl
  c4 := by kernel_rfl
  c5 := by kernel_rfl
  c9 := by kernel_rfl
  c20 := by kernel_rfl
  c21 := by kernel_rfl
  c37 := by kernel_rfl
  c46 := by kernel_rfl
  c51 := by kernel_rfl
  c53 := by kernel_rfl
  c75 := by kernel_rfl
  c80 := by kernel_rfl
  c85 := by kernel_rfl
  c127 := by kernel_rfl
  c143 := by kernel_rfl
  c145 := by kernel_rfl
  c167 := by kernel_rfl
  c168 := by kernel_rfl
  c171 := by kernel_rfl
  c173 := by kernel_rfl
  c175 := by kernel_rfl
  c210 := by kernel_rfl
  c212 := by kernel_rfl
  c213 := by kernel_rfl
  c232 := by kernel_rfl
  c233 := by kernel_rfl
def Tryz.laysIB_ren : Go.Shelf.Ren := ⟨fun | 137 => 71 | 217 => 88 | 266 => 96 | n => n, fun | 9 => 9 | 5 => 5 | 3 => 3 | n => n, fun | n => n⟩
theorem Tryz.laysIB : Go.Proofs.Lays.n137 Tryz.prog Tryz.laysIB_ren where
  mixed := by kernel_rfl
  f137 := Tryz.func71.trans (congrArg some (by kernel_rfl))
  f217 := Tryz.func88.trans (congrArg some (by kernel_rfl))
  f266 := Tryz.func96.trans (congrArg some (by kernel_rfl))
  t3 := Tryz.underlying3
  a3 := Tryz.isAgg3
  z3 := Tryz.sizeOf3
  v3 := Tryz.zeroValue3
  t5 := Tryz.underlying5
  a5 := Tryz.isAgg5
  z5 := Tryz.sizeOf5
  v5 := Tryz.zeroValue5
  t9 := Tryz.underlying9
  a9 := Tryz.isAgg9
  z9 := Tryz.sizeOf9
  v9 := Tryz.zeroValue9
end Go.Proofs
namespace Go.Ev
open Go Go.Proofs
theorem below_ok {φ : Phi} {I : Imm} {h : H} {w w' : World} {bar : Nat} (hb : Go.RowKit.Below w.heap.size w w') (hR : R φ I h w) : R φ I h w' ∧ Stp bar φ I h w φ I h w' := by
  have hcell : ∀ b j v, w.cell? ⟨b, j, none⟩ = some v → w'.cell? ⟨b, j, none⟩ = some v := fun b j v hc => by
    have hlt : b < w.heap.size := Lib.lt_of_cell hc
    rw [hb.cell (p := ⟨b, j, none⟩) hlt]; exact hc
  refine ⟨⟨hR.wf, hR.dom, fun i x hx => ?_, hR.inj, fun b j v hv => hcell b j v (hR.imm b j v hv)⟩, ⟨.refl _, .refl _, hb.size, fun b hlt _ => hb.block b hlt, fun i x hb hl hp => .inr ⟨i, x, hb, hl, hp, rfl⟩, fun _ _ => rfl, Nat.le_refl _, hb.os, hb.output, fun _ _ _ hv => .inl hv⟩⟩
  refine (hR.obj i x hx).keep (.refl _) (.refl _) (fun b s t hp => ?_) (fun _ _ _ _ _ _ hv => hv)
  obtain ⟨b', s', t', hp', hlt⟩ := (hR.obj i x hx).block
  rw [hp'] at hp
  injection hp with hp
  injection hp with hp _
  subst hp
  exact hb.block _ hlt
theorem err_cell {I : Imm} {φ : Phi} {h : H} {w : World} {g : Nat} (hG : GR Gl I) (hR : R φ I h w) (hg : Gl g = some [.ifc t_Perrors_errorString (.fptr [] 0)]) : ∃ te pe, w.cell? ⟨g, 0, none⟩ = some (.iface te pe) := by
  have h1 := hG g _ hg
  generalize hp : (Value.pointer (some ⟨g, 0, none⟩)) = pv at h1
  cases h1 with
  | fptr cs off b o vs a1 a2 a3 =>
    have h2 := a1 0 _ rfl
    have h3 := a2 0 _ rfl
    simp only [Value.pointer.injEq, Option.some.injEq, Addr.mk.injEq] at hp
    obtain ⟨e1, e2, _⟩ := hp
    have e3 : o = 0 := by omega
    subst e1; subst e3
    have h4 := hR.imm _ _ _ h2
    generalize hv : vs 0 = v at h3 h4
    cases h3 with
    | ifc t c v h5 => exact ⟨_, _, h4⟩
theorem prim_sound : Sound Tryz.prog Gl prim := by
  intro f args bar h r h' hr
  unfold prim at hr
  split at hr
  · rename_i hf
    split at hr
    · rename_i s b z
      split at hr
      · rename_i hc
        obtain ⟨rfl, rfl, hsz⟩ := hc
        injection hr with hr
        injection hr with hr1 hr2
        subst hr1; subst hr2; subst hf
        refine ⟨⟨_, Tryz.func68, by kernel_rfl, of_decide_eq_true (by kernel_rfl)⟩, fun φ I w vs hR hG hv hbar => ?_⟩
        have hvs : vs = [.string s, .int .i64 10, .int .i64 64] := by
          have hl := hv.1
          match vs, hl, hv.2 with
          | [v1, v2, v3], _, hv =>
            have a1 := hv 0 _ _ rfl rfl
            have a2 := hv 1 _ _ rfl rfl
            have a3 := hv 2 _ _ rfl rfl
            cases a1; cases a2; cases a3; rfl
        subst hvs
        have hgo : ∀ {w' : World} {v : Value}, Go.RowKit.Below w.heap.size w w' → VR φ I (prInt s) v → ∃ v' φ' I', Ending.returned v = .returned v' ∧ R φ' I' h w' ∧ VR φ' I' (prInt s) v' ∧ Stp bar φ I h w φ' I' h w' := fun hb hvr => by
          obtain ⟨q1, q2⟩ := below_ok (bar := bar) hb hR
          exact ⟨_, φ, I, rfl, q1, hvr, q2⟩
        cases hp : Lib.parseIntB 64 s.data.toList
        · rename_i v
          refine (Any.strconv_ParseInt_10_at64_ok Tryz.laysPI s (by omega) v hp w).mono fun e w' he => ?_
          obtain ⟨rfl, hW⟩ := he
          have hb : Go.RowKit.Below w.heap.size w w' := by
            rcases hW with rfl | ⟨t, rfl⟩
            · exact Go.RowKit.Below.refl _ _
            · exact Lib.bytesWorld_below _ _ _
          refine hgo hb ?_
          unfold prInt; rw [hp]
          refine .tup _ _ rfl fun i c v h1 h2 => ?_
          match i with
          | 0 => simp at h1 h2; subst h1; subst h2; exact .int _ _
          | 1 => simp at h1 h2; subst h1; subst h2; exact .nilifc
          | n + 2 => simp at h1
        · obtain ⟨te, pe, hcell⟩ := err_cell (g := 1) hG hR rfl
          refine (Any.strconv_ParseInt_10_at64_syntax Tryz.laysPI s hsz hp _ w hcell (.inr ⟨te, pe, rfl⟩)).mono fun e w' he => ?_
          obtain ⟨N, rfl, _, _, hb⟩ := he
          refine hgo hb ?_
          unfold prInt; rw [hp]
          refine .tup _ _ rfl fun i c v h1 h2 => ?_
          match i with
          | 0 => simp at h1 h2; subst h1; subst h2; exact .int _ _
          | 1 =>
            simp at h1 h2; subst h1; subst h2
            exact .ifc _ _ _ (.fptr [] 0 N 0 (fun _ => default) (fun i c h => by simp at h) (fun i c h => by simp at h) (fun i c h => by simp at h))
          | n + 2 => simp at h1
        · obtain ⟨te, pe, hcell⟩ := err_cell (g := 2) hG hR rfl
          refine (Any.strconv_ParseInt_10_at64_range Tryz.laysPI s hsz hp _ w hcell (.inr ⟨te, pe, rfl⟩)).mono fun e w' he => ?_
          obtain ⟨N, rfl, _, _, hb⟩ := he
          refine hgo hb ?_
          unfold prInt; rw [hp]
          refine .tup _ _ rfl fun i c v h1 h2 => ?_
          match i with
          | 0 => simp at h1 h2; subst h1; subst h2; exact .int _ _
          | 1 =>
            simp at h1 h2; subst h1; subst h2
            exact .ifc _ _ _ (.fptr [] 0 N 0 (fun _ => default) (fun i c h => by simp at h) (fun i c h => by simp at h) (fun i c h => by simp at h))
          | n + 2 => simp at h1
      · cases hr
    · cases hr
  · split at hr
    · rename_i hf
      split at hr
      · rename_i s b
        injection hr with hr
        injection hr with hr1 hr2
        subst hr1; subst hr2; subst hf
        refine ⟨⟨_, Tryz.func71, by kernel_rfl, of_decide_eq_true (by kernel_rfl)⟩, fun φ I w vs hR hG hv hbar => ?_⟩
        have hvs : vs = [.string s, .int .u8 b] := by
          have hl := hv.1
          match vs, hl, hv.2 with
          | [v1, v2], _, hv =>
            have a1 := hv 0 _ _ rfl rfl
            have a2 := hv 1 _ _ rfl rfl
            cases a1; cases a2; rfl
        subst hvs
        refine (Any.strings_IndexByte Tryz.laysIB s b w).mono fun e w' he => ?_
        obtain ⟨rfl, rfl⟩ := he
        obtain ⟨q1, q2⟩ := below_ok (bar := bar) (Go.RowKit.Below.refl _ _) hR
        exact ⟨_, φ, I, rfl, q1, .int _ _, q2⟩
      · cases hr
    · cases hr
theorem tab_ok : TabOk Tryz.prog Gl pu tb prim where
  mixed := by kernel_rfl
  funs := fun f F hf => by
    unfold tb at hf
    cases hx : tbl.find? (fun x => x.1 == f) with
    | none => rw [hx] at hf; cases hf
    | some x =>
      rw [hx] at hf
      injection hf with hf
      subst hf
      have h1 := List.find?_some hx
      have h2 := List.mem_of_find?_eq_some hx
      simp at h1
      subst h1
      exact ok_all x h2
  prims := prim_sound
  pureF := fun f F hp hf => by unfold pu at hp; rw [hf] at hp; exact hp
  pureP := fun f args bar h r h' _ hr => by
    unfold prim at hr
    split at hr
    · split at hr
      · split at hr
        · injection hr with hr; injection hr with _ hr; exact hr.symm
        · cases hr
      · cases hr
    · split at hr
      · split at hr
        · injection hr with hr; injection hr with _ hr; exact hr.symm
        · cases hr
      · cases hr
end Go.Ev
namespace Go.Ev
open Go Go.ChangeShapes Go.WideShapes Go.RowKit Go.Proofs
theorem laid_mem {P : Program} {W : World} : ∀ {laid : List (String × DataW Unit)} {ps : List MemPlace}, DataW.LaidVars P W laid ps → ∀ x ∈ laid, ∃ g t cs fuel p, P.globalNamed x.1 = some g ∧ (P.globals[g]?).map (·.type) = some t ∧ W.var? P x.1 = some cs ∧ DataW.trod (fun _ => ()) P W 0 (fun _ => true) false fuel t cs.toList = some (x.2, p) ∧ ∀ q ∈ MemPlace.row ⟨g, 0, none⟩ cs.size, q ∈ ps
  | [], _, _, x, hx => by cases hx
  | (n, d) :: r, ps, h, x, hx => by
    obtain ⟨g, t, cs, fuel, p, q, h1, h2, h3, h4, h5, rfl⟩ := h
    rcases List.mem_cons.1 hx with rfl | hx
    · exact ⟨g, t, cs, fuel, p, h1, h2, h3, h4, fun q hq => List.mem_append_left _ (List.mem_append_left _ hq)⟩
    · obtain ⟨g', t', cs', f', p', a1, a2, a3, a4, a5⟩ := laid_mem h5 x hx
      exact ⟨g', t', cs', f', p', a1, a2, a3, a4, fun z hz => List.mem_append_right _ (a5 z hz)⟩
theorem star_name : "*" ++ "errors.errorString" = "*errors.errorString" := by decide
theorem row172 (u : TypeId) (h : Tryz.prog.typeName? 3 u = some "*errors.errorString") : u = 172 :=
  typeName_ptr_named (nm := "errors.errorString") (by rw [star_name]; kernel_rfl) (by kernel_rfl) (by decide) u (by rw [star_name]; exact h)
theorem cells174 : Tryz.prog.cellsOf 174 = 1 := by kernel_rfl
theorem cells9 : Tryz.prog.cellsOf 9 = 1 := by kernel_rfl
set_option maxRecDepth 100000 in
theorem err_laid {W : World} {laid : List (String × DataW Unit)} (h : laidMet Tryz.prog laid W) {n : String} {g : Nat} {text : List UInt8} (hx : (n, DataW.iface "*errors.errorString" (.ptr (.agg [.lit (.string text)]))) ∈ laid) (hg : Tryz.prog.globalNamed n = some g) (ht : (Tryz.prog.globals[g]?).map (·.type) = some 138) :
    ∃ a : Addr, W.cell? ⟨g, 0, none⟩ = some (.iface 172 (.pointer (some ⟨a.block, a.off, none⟩))) := by
  obtain ⟨ps, hl, hnd, hrows⟩ := h
  obtain ⟨g', t, cs, fuel, p, a1, a2, a3, a4, a5⟩ := laid_mem hl _ hx
  obtain rfl := Option.some.inj (hg.symm.trans a1)
  obtain rfl := Option.some.inj (ht.symm.trans a2)
  obtain ⟨l⟩ := cs
  have hcell := fun i => World.var?_cell hg a3 i
  have ok : ∀ u v, l = [.iface u v] → Value.okWide Tryz.prog W .any 0 u v := fun u v e => by
    subst e
    exact (hrows g 0 (a5 _ (by simp [MemPlace.row]))).2 u v (by simpa using hcell 0)
  obtain ⟨a, s, rfl, hc, _, _, _⟩ := errorString_of_trod (ti := 138) (tp := 172) (te := 174) (ts := 9) Tryz.underlying138 row172 Tryz.underlying172 Tryz.underlying174 rfl rfl Tryz.underlying9 cells174 cells9 a4 ok
  have := hcell 0
  have ha : a = ⟨a.block, a.off, none⟩ := cell_spot hc
  refine ⟨a, ?_⟩
  rw [← ha]
  simpa using this
theorem gr_of {W : World} {laid : List (String × DataW Unit)} (hL : laidMetH Tryz.prog laid W) (hp : (laid.all fun x => x.2.handleName?.isNone) = true)
    (h1 : ∃ text, ("strconv.ErrRange", DataW.iface "*errors.errorString" (.ptr (.agg [.lit (.string text)]))) ∈ laid) (h0 : ∃ text, ("strconv.ErrSyntax", DataW.iface "*errors.errorString" (.ptr (.agg [.lit (.string text)]))) ∈ laid) : GR Gl (allOf W) := by
  rw [MakeChecks.laidMetH_plain _ _ _ hp] at hL
  obtain ⟨t1, h1⟩ := h1
  obtain ⟨t0, h0⟩ := h0
  obtain ⟨a1, c1⟩ := err_laid hL h1 (g := 2) (by kernel_rfl) (by kernel_rfl)
  obtain ⟨a0, c0⟩ := err_laid hL h0 (g := 1) (by kernel_rfl) (by kernel_rfl)
  have hgo : ∀ (g : Nat) (a : Addr), W.cell? ⟨g, 0, none⟩ = some (.iface 172 (.pointer (some ⟨a.block, a.off, none⟩))) → VR (fun _ => none) (allOf W) (.fptr [.ifc t_Perrors_errorString (.fptr [] 0)] 0) (.pointer (some ⟨g, 0, none⟩)) := fun g a hc => by
    refine .fptr _ 0 g 0 (fun _ => .iface 172 (.pointer (some ⟨a.block, a.off, none⟩))) (fun i c hi => ?_) (fun i c hi => ?_) (fun i c hi => ?_)
    · cases i with
      | zero => exact hc
      | succ i => simp at hi
    · cases i with
      | zero =>
        simp at hi; subst hi
        refine .ifc _ _ _ ?_
        have := VR.fptr (φ := fun _ => none) (I := allOf W) [] 0 a.block a.off (fun _ => default) (fun i c h => by simp at h) (fun i c h => by simp at h) (fun i c h => by simp at h)
        simpa using this
      | succ i => simp at hi
    · cases i with
      | zero => simp at hi; subst hi; exact ⟨rfl, rfl⟩
      | succ i => simp at hi
  intro g cs hg
  unfold Gl at hg
  split at hg
  · rename_i hc
    injection hg with hg; subst hg
    simp at hc
    rcases hc with rfl | rfl
    · exact hgo _ _ c1
    · exact hgo _ _ c0
  · cases hg
end Go.Ev
namespace Go.Ev
open Go
def wI (x : Int) : Int := IntKind.i64.wrap x
def andI (a b : Int) : Int := wI ((BitVec.ofInt 64 a &&& BitVec.ofInt 64 b).toNat : Nat)
def orI (a b : Int) : Int := wI ((BitVec.ofInt 64 a ||| BitVec.ofInt 64 b).toNat : Nat)
def xorI (a b : Int) : Int := wI ((BitVec.ofInt 64 a ^^^ BitVec.ofInt 64 b).toNat : Nat)
def bitI (p : Bool) : Int := if p then 1 else 0
def partedN (sg a b : Int) : Int × Int :=
  if b = 0 then (0, 3) else
  if sg = 37 ∧ b = -1 then (0, 0) else
  if sg = 37 then (a.tmod b, 0) else
  if a = -9223372036854775808 ∧ b = -1 then (0, 4) else (wI (a.tdiv b), 0)
def doN (sg a b : Int) : Int × Int :=
  if sg = 43 then (wI (a + b), 0) else
  if sg = 45 then (wI (a - b), 0) else
  if sg = 42 then (wI (a * b), 0) else
  if sg = 47 ∨ sg = 37 then partedN sg a b else
  if sg = 38 then (andI a b, 0) else
  if sg = 124 then (orI a b, 0) else
  if sg = 94 then (xorI a b, 0) else
  if sg = 60 then (bitI (decide (a < b)), 0) else
  if sg = 61 then (bitI (a == b), 0) else
  if sg = 33 then (bitI (a == 0), 0) else
  if sg = 171 then (wI (a * 2 ^ (b % 64).toNat), 0) else
  if sg = 187 then (a.fdiv (2 ^ (b % 64).toNat), 0) else (0, 2)
structure Mem where
  b : List Int
  most : Int
  dirty : List Bool
def wideN (wide : Bool) : Int := if wide then 8 else 1
def withinM (m : Mem) (at' : Int) (wide : Bool) : Bool := decide (0 ≤ at') && decide (at' ≤ (m.b.length : Int) - wideN wide)
def leN : List Int → Int
  | [] => 0
  | x :: r => x + 256 * leN r
def leB : Nat → Int → List Int
  | 0, _ => []
  | k + 1, n => n % 256 :: leB k (n / 256)
def loadM (m : Mem) (at' : Int) (wide : Bool) : Int × Bool :=
  if withinM m at' wide then (wI (leN ((m.b.drop at'.toNat).take (wideN wide).toNat)), true) else (0, false)
def markD (d : List Bool) (at' : Nat) : Nat → List Bool
  | 0 => d
  | k + 1 => markD (d.set (at' / 64) true) (at' + 1) k
def putB (b : List Int) (at' : Nat) (l : List Int) : List Int := b.take at' ++ l ++ b.drop (at' + l.length)
def storeM (m : Mem) (at' n : Int) (wide : Bool) : Mem × Bool :=
  if withinM m at' wide then (⟨putB m.b at'.toNat (leB (wideN wide).toNat n), m.most, markD m.dirty at'.toNat (wideN wide).toNat⟩, true) else (m, false)
def growM (m : Mem) (n : Int) : Mem × Int :=
  if n < 0 ∨ n > m.most - m.dirty.length then (m, -1) else
  (⟨m.b ++ List.replicate (n.toNat * 64) 0, m.most, m.dirty ++ List.replicate n.toNat true⟩, m.dirty.length)
structure Row where
  l : List (Int × Bool)
  asks : List (Int × Int)
def askR (r : Row) (nm n : Int) : Row × Int × Bool := match r.l with
  | [] => (⟨[], r.asks ++ [(nm, n)]⟩, 0, true)
  | x :: l => (⟨l, r.asks ++ [(nm, n)]⟩, x.1, x.2)
structure Code' where
  l : List Tok
  to : List Int
  args : Int
structure Fm where
  c : Code'
  at' : Nat
  loc : List Int
  st : List Int
structure Mc where
  fr : List Fm
  m : Mem
  r : Row
  trap : Int
def trapIf (ok : Bool) (t : Int) (s : Int) : Int := if ok then s else t
def memS (sg : Int) (st : List Int) (m : Mem) (tr : Int) : Option (List Int × Mem × Int) :=
  if sg = 64 ∨ sg = 169 then (match st with | [] => none | a :: st => some ((loadM m a (sg == 64)).1 :: st, m, trapIf (loadM m a (sg == 64)).2 5 tr)) else
  if sg = 36 ∨ sg = 174 then (match st with | n :: a :: st => some (st, (storeM m a n (sg == 36)).1, trapIf (storeM m a n (sg == 36)).2 5 tr) | _ => none) else
  if sg = 35 then some ((m.dirty.length : Int) :: st, m, tr) else
  (match st with | [] => none | a :: st => some ((growM m a).2 :: st, (growM m a).1, tr))
def plainF (t : Tok) (st : List Int) (r : Row) (tr : Int) : Option (List Int × Row × Int) :=
  if t.sign = 46 then (match st with | [] => none | a :: st => some (a :: a :: st, r, tr)) else
  if t.sign = 44 then (match st with | [] => none | _ :: st => some (st, r, tr)) else
  if t.sign = 59 ∨ t.sign = 91 then some (st, r, tr) else
  if t.sign = 161 then some (st, r, 2) else
  if t.sign = 960 then (match st with | [] => none | a :: st => some ((askR r t.name a).2.1 :: st, (askR r t.name a).1, trapIf (askR r t.name a).2.2 7 tr)) else
  if t.sign = 33 then (match st with | [] => none | a :: st => some ((doN t.sign a 0).1 :: st, r, trapIf ((doN t.sign a 0).2 == 0) (doN t.sign a 0).2 tr)) else
  (match st with | b :: a :: st => some ((doN t.sign a b).1 :: st, r, trapIf ((doN t.sign a b).2 == 0) (doN t.sign a b).2 tr) | _ => none)
def isMemS (sg : Int) : Bool := decide (sg = 64 ∨ sg = 169 ∨ sg = 36 ∨ sg = 174 ∨ sg = 35 ∨ sg = 164)
def isGo (sg : Int) : Bool := decide (sg = 63 ∨ sg = 58 ∨ sg = 93 ∨ sg = 126)
def argsOf (k : Nat) (st : List Int) : List Int := (st.take k).reverse
def newF (c : Code') (args : List Int) : Fm := ⟨c, 0, args.take 26 ++ List.replicate (26 - args.length) 0, []⟩
def stepM (fs : List Fn) (cs : List Code') (s : Mc) : Option Mc := match s.fr with
  | [] => none
  | f :: r => match f.c.l[f.at']? with
    | none => none
    | some t =>
      if t.sign = 48 then some { s with fr := { f with at' := f.at' + 1, st := t.n :: f.st } :: r } else
      if 97 ≤ t.sign ∧ t.sign ≤ 122 then (match f.loc[(t.sign - 97).toNat]? with | none => none | some v => some { s with fr := { f with at' := f.at' + 1, st := v :: f.st } :: r }) else
      if 65 ≤ t.sign ∧ t.sign ≤ 90 then (match f.st with | [] => none | v :: st => some { s with fr := { f with at' := f.at' + 1, st := st, loc := f.loc.set (t.sign - 65).toNat v } :: r }) else
      if t.sign = 955 then
        (match cs[(findN t.name fs 0).toNat]? with
        | none => none
        | some c =>
          if findN t.name fs 0 < 0 ∨ c.args < 0 ∨ (f.st.length : Int) < c.args then none else
          if 32 ≤ s.fr.length then some { s with fr := { f with at' := f.at' + 1, st := f.st.drop c.args.toNat } :: r, trap := 6 } else
          some { s with fr := newF c (argsOf c.args.toNat f.st) :: { f with at' := f.at' + 1, st := f.st.drop c.args.toNat } :: r }) else
      if isGo t.sign then
        (if t.sign = 63 then (match f.st with
          | [] => none
          | v :: st => if v ≠ 0 then some { s with fr := { f with at' := f.at' + 1, st := st } :: r } else (match f.c.to[f.at']? with | none => none | some j => if j < 0 then none else some { s with fr := { f with at' := j.toNat, st := st } :: r }))
        else (match f.c.to[f.at']? with | none => none | some j => if j < 0 then none else some { s with fr := { f with at' := j.toNat } :: r })) else
      if isMemS t.sign then (match memS t.sign f.st s.m s.trap with | none => none | some (st, m, tr) => some { s with fr := { f with at' := f.at' + 1, st := st } :: r, m := m, trap := tr }) else
      (match plainF t f.st s.r s.trap with | none => none | some (st, ro, tr) => some { s with fr := { f with at' := f.at' + 1, st := st } :: r, r := ro, trap := tr })
def endsM : Fm → List Fm → Option (List Fm × Option Int)
  | f, r => if f.at' < f.c.l.length then some (f :: r, none) else match f.st with
    | [] => none
    | v :: _ => match r with
      | [] => some ([], some v)
      | g :: r => endsM { g with st := v :: g.st } r
def runM (fs : List Fn) (cs : List Code') : Nat → Mc → Option (Mc × Int × Nat)
  | n, s => if s.trap ≠ 0 then some (s, 0, n) else match s.fr with
    | [] => none
    | f :: r => match endsM f r with
      | none => none
      | some (fr, some v) => some ({ s with fr := fr }, v, n)
      | some (fr, none) => match n with
        | 0 => some ({ s with fr := fr, trap := 1 }, 0, 0)
        | n + 1 => match stepM fs cs { s with fr := fr } with
          | none => none
          | some s' => runM fs cs n s'
end Go.Ev
