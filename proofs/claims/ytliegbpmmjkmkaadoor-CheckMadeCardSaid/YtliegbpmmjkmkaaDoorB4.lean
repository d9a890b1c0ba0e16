/- Arguments of laws: lists of numbers, texts, structs of such. -/
import Derived.Test.YtliegbpmmjkmkaaDoorB3
set_option linter.unusedSimpArgs false
set_option linter.unusedVariables false
set_option linter.all false
namespace Go.Ev
open Go
def hts (fs : List Fn) : List Tok → Js → List Int
  | [], _ => []
  | t :: r, s => s.h :: hts fs r (jtok fs t s).2
theorem hts_len (fs : List Fn) : ∀ (l : List Tok) (s : Js), (hts fs l s).length = l.length
  | [], _ => rfl
  | t :: r, s => by simp [hts, hts_len fs r]
theorem jloop_hts (fs : List Fn) : ∀ (l : List Tok) (s : Js) (o : List Int), (jloop fs l s o).1 = 0 → (jloop fs l s o).2.2 = o ++ hts fs l s
  | [], s, o, _ => by simp [jloop, hts]
  | t :: r, s, o, h => by
    simp only [jloop] at h ⊢
    split at h
    · rename_i c
      rw [if_pos c, jloop_hts fs r _ _ h]; simp [hts]
    · rename_i c; exact absurd h c
/-- Between two heights. -/
def Step (fs : List Fn) (t : Tok) (a b : Int) : Prop := 0 ≤ a → plainS t.sign = true → (takesN fs t.sign t.name).2.2 = true ∧ (takesN fs t.sign t.name).1 ≤ a ∧ b = a - (takesN fs t.sign t.name).1 + (takesN fs t.sign t.name).2.1
theorem jturn_plain {sg : Int} {s : Js} (h : plainS sg = true) : (jturn sg s).2.h = s.h := by
  have hp : sg ≠ 58 ∧ sg ≠ 59 ∧ sg ≠ 93 ∧ sg ≠ 126 ∧ sg ≠ 161 := by simpa [plainS] using h
  unfold jturn
  split
  · rfl
  · rw [if_neg (by omega), if_neg (by omega), if_neg (by omega), if_neg (by omega), if_neg (by omega)]
theorem hts_spec (fs : List Fn) : ∀ (l : List Tok) (s : Js) (o : List Int), (jloop fs l s o).1 = 0 → JGood fs l s → (∀ (i : Nat) x, (hts fs l s)[i]? = some x → -1 ≤ x ∧ x ≤ 64) ∧ ∀ (i : Nat) x y t, (hts fs l s)[i]? = some x → (hts fs l s)[i + 1]? = some y → l[i]? = some t → Step fs t x y
  | [], s, o, _, _ => ⟨fun i x h => by simp [hts] at h, fun i x y t h => by simp [hts] at h⟩
  | t :: r, s, o, h, hg => by
    simp only [jloop] at h
    split at h
    · rename_i c
      obtain ⟨ok, _, _, _, hr⟩ := hg
      have ih := hts_spec fs r _ _ h (hr c)
      refine ⟨fun i x hx => ?_, fun i x y t' hx hy ht => ?_⟩
      · cases i with
        | zero => simp [hts] at hx; subst hx; exact ⟨ok.1, ok.2.1⟩
        | succ i => exact ih.1 i x (by simpa [hts] using hx)
      · cases i with
        | succ i => exact ih.2 i x y t' (by simpa [hts] using hx) (by simpa [hts] using hy) (by simpa using ht)
        | zero =>
          simp [hts] at hx ht
          subst hx; subst ht
          have hy2 : (jtok fs t s).2.h = y := by
            cases r with
            | nil => simp [hts] at hy
            | cons u r => simpa [hts] using hy
          intro h0 hp
          have b : 0 ≤ jbase s.ps := jbase_nn fun p hp => (ok.2.2.1 p hp).1
          rcases jtok_cases c with ⟨e, _⟩ | ⟨_, c1, c2, c3, c4⟩
          · omega
          · refine ⟨c3, by omega, ?_⟩
            rw [← hy2, c4, jturn_plain hp]; show s.h + _ = _; omega
    · rename_i c; exact absurd h c
/-- What a good code's judgement is. -/
theorem code_facts {fs : List Fn} {c : ByteArray} (h : (codeN fs c).2 = 0) : ∃ ts, toksN c = (ts, 0) ∧ nOk ts = true ∧ (jloop fs ts ⟨0, []⟩ []).1 = 0 ∧ (codeN fs c).1 = hts fs ts ⟨0, []⟩ ∧ ((jloop fs ts ⟨0, []⟩ []).2.1.h = -1 ∨ (jloop fs ts ⟨0, []⟩ []).2.1.h = 1) ∧ JGood fs ts ⟨0, []⟩ := by
  unfold codeN at h ⊢
  split at h
  · rename_i q; exact absurd h q
  rename_i q
  have q0 : (toksN c).2 = 0 := by omega
  refine ⟨(toksN c).1, by rw [← q0], ?_⟩
  rw [if_neg q]
  unfold funT at h ⊢
  split at h
  · simp at h
  rename_i q1
  have hn : nOk (toksN c).1 = true := by simpa using q1
  split at h
  · rename_i q2; exact absurd h q2
  rename_i q2
  have h0 : (jloop fs (toksN c).1 ⟨0, []⟩ []).1 = 0 := by omega
  split at h
  · simp at h
  rename_i q3
  refine ⟨hn, h0, ?_, by omega, ?_⟩
  · rw [if_neg q1, if_neg q2, if_neg q3]
    simpa using jloop_hts fs _ _ _ h0
  · unfold nOk at hn
    cases hx : nestP (toksN c).1 with
    | none => rw [hx] at hn; cases hn
    | some to => exact nestP_good fs _ hx
end Go.Ev
namespace Go.Ev
open Go
def ostep (sg : Int) (op : List (Bool × Bool)) : Option (List (Bool × Bool)) :=
  if sg = 63 then (if op.length + 1 ≤ 16 then some (op ++ [(false, false)]) else none) else
  if sg = 91 then (if op.length + 1 ≤ 16 then some (op ++ [(true, false)]) else none) else
  if sg = 58 then (match op.getLast? with | none => none | some p => if p.1 || p.2 then none else some (op.set (op.length - 1) (p.1, true))) else
  if sg = 59 then (match op.getLast? with | none => none | some p => if p.1 then none else some op.dropLast) else
  if sg = 93 then (match op.getLast? with | none => none | some p => if p.1 then some op.dropLast else none) else
  if sg = 126 then (if op.any (·.1) then some op else none) else
  some op
def orun : List Tok → List (Bool × Bool) → Option (List (Bool × Bool))
  | [], op => some op
  | t :: r, op => (ostep t.sign op).bind (orun r)
theorem orun_app : ∀ (a b : List Tok) (op : List (Bool × Bool)), orun (a ++ b) op = (orun a op).bind (orun b)
  | [], b, op => rfl
  | t :: r, b, op => by
    simp only [List.cons_append, orun]
    cases ostep t.sign op with
    | none => rfl
    | some o => exact orun_app r b o
def Pt.pj (p : Pt) : Bool × Bool := (p.loop, decide (0 < p.ot))
def Mt.pj (s : Mt) : List (Bool × Bool) := s.op.map Pt.pj
theorem lastLoop_none : ∀ (op : List Pt) (n : Nat), n ≤ op.length → lastLoop op n = none → ∀ k p, k < n → op[k]? = some p → p.loop = false
  | op, 0, _, _, k, p, hk, _ => absurd hk (Nat.not_lt_zero _)
  | op, n + 1, hn, h, k, p, hk, hp => by
    simp only [lastLoop] at h
    rw [List.getElem?_eq_getElem (by omega)] at h
    simp only at h
    split at h
    · cases h
    · rename_i c
      by_cases e : k = n
      · subst e
        rw [List.getElem?_eq_getElem (by omega)] at hp
        cases hp
        simpa using c
      · exact lastLoop_none op n (by omega) h k p (by omega) hp
theorem pstep_pj {sg : Int} {i : Nat} {s : Mt} (hi : 0 < i ∨ s.op = []) : (pstep sg i s).map Mt.pj = ostep sg s.pj := by
  have hl : s.pj.length = s.op.length := List.length_map _
  have hg : s.pj.getLast? = s.op.getLast?.map Pt.pj := List.getLast?_map ..
  unfold pstep ostep
  rw [hl, hg]
  split
  · split
    · simp [Mt.pj, Pt.pj]
    · rfl
  split
  · split
    · simp [Mt.pj, Pt.pj]
    · rfl
  split
  · cases hq : s.op.getLast? with
    | none => rfl
    | some p =>
      have h0 : 0 < i := by
        rcases hi with h | h
        · exact h
        · rw [h] at hq; cases hq
      simp only [Option.map_some, Pt.pj]
      split
      · rfl
      · simp [Mt.pj, Pt.pj, h0]
  split
  · cases hq : s.op.getLast? with
    | none => rfl
    | some p =>
      simp only [Option.map_some, Pt.pj]
      split
      · rfl
      · simp [Mt.pj]
  split
  · cases hq : s.op.getLast? with
    | none => rfl
    | some p =>
      simp only [Option.map_some, Pt.pj]
      split
      · simp [Mt.pj]
      · rfl
  split
  · cases hq : lastLoop s.op s.op.length with
    | none =>
      have : s.pj.any (·.1) = false := by
        rw [List.any_eq_false]
        intro x hx
        simp only [Mt.pj, List.mem_map] at hx
        obtain ⟨p, hp, rfl⟩ := hx
        obtain ⟨k, hk, e⟩ := List.getElem_of_mem hp
        have := lastLoop_none _ _ (Nat.le_refl _) hq k p hk (by rw [List.getElem?_eq_getElem hk, e])
        simp [Pt.pj, this]
      simp [this]
    | some k =>
      obtain ⟨hk, p, hp, hlp⟩ := lastLoop_some _ _ _ hq
      have : s.pj.any (·.1) = true := by
        rw [List.any_eq_true]
        exact ⟨p.pj, List.mem_map.mpr ⟨p, List.mem_of_getElem? hp, rfl⟩, hlp⟩
      simp only [hp]
      rw [if_pos this]
      show some (List.map Pt.pj (s.op.set k _)) = some (List.map Pt.pj s.op)
      congr 1
      rw [List.map_set]
      apply List.ext_getElem?
      intro j
      rw [List.getElem?_set]
      split
      · rename_i e; subst e
        rw [List.length_map, if_pos hk, List.getElem?_map, hp]; rfl
      · rfl
  · rfl
theorem ploop_pj (l : List Tok) : ∀ (k i : Nat) (s : Mt), l.length = i + k → (0 < i ∨ s.op = []) → (ploop l k i s).map Mt.pj = orun (l.drop i) s.pj
  | 0, i, s, h, _ => by rw [List.drop_eq_nil_of_le (by omega)]; rfl
  | k + 1, i, s, h, hi => by
    have hlt : i < l.length := by omega
    rw [List.drop_eq_getElem_cons hlt]
    have hsg : sgn l i = l[i].sign := by simp [sgn, hlt]
    simp only [ploop, orun, hsg]
    rw [← pstep_pj hi]
    cases hs : pstep l[i].sign i s with
    | none => rfl
    | some s2 => exact ploop_pj l k (i + 1) s2 (by omega) (.inl (by omega))
theorem nOk_iff (l : List Tok) : nOk l = true ↔ orun l [] = some [] := by
  have h := ploop_pj l l.length 0 ⟨List.replicate l.length (-1), [], 0⟩ (by omega) (.inr rfl)
  rw [List.drop_zero] at h
  show (nestP l).isSome = true ↔ _
  unfold nestP
  have e : Mt.pj ⟨List.replicate l.length (-1), [], 0⟩ = [] := rfl
  rw [e] at h
  rw [← h]
  cases ploop l l.length 0 ⟨List.replicate l.length (-1), [], 0⟩ with
  | none => simp
  | some s =>
    simp only [Option.map_some, Mt.pj, Option.some.injEq, List.map_eq_nil_iff]
    split
    · rename_i c; simp [c]
    · rename_i c; simp [c]
theorem ostep_plain {sg : Int} (h : plainS sg = true) (h2 : sg ≠ 63 ∧ sg ≠ 91) (op : List (Bool × Bool)) : ostep sg op = some op := by
  have hp : sg ≠ 58 ∧ sg ≠ 59 ∧ sg ≠ 93 ∧ sg ≠ 126 ∧ sg ≠ 161 := by simpa [plainS] using h
  unfold ostep
  rw [if_neg h2.1, if_neg h2.2, if_neg hp.1, if_neg hp.2.1, if_neg hp.2.2.1, if_neg hp.2.2.2.1]
theorem nOk_snoc {l : List Tok} {t : Tok} (h : plainS t.sign = true) (h2 : t.sign ≠ 63 ∧ t.sign ≠ 91) (hn : nOk l = true) : nOk (l ++ [t]) = true := by
  rw [nOk_iff] at hn ⊢
  rw [orun_app, hn]
  simp [orun, ostep_plain h h2]
theorem nOk_cons {l : List Tok} {t : Tok} (h : plainS t.sign = true) (h2 : t.sign ≠ 63 ∧ t.sign ≠ 91) (hn : nOk l = true) : nOk (t :: l) = true := by
  rw [nOk_iff] at hn ⊢
  simp [orun, ostep_plain h h2, hn]
/-- Where all is judged well, nothing is open at the end. -/
theorem nest_end (fs : List Fn) (l : List Tok) : ∀ (k i : Nat) (s : Mt) (j : Js) (s' : Mt) (j' : Js), l.length = i + k → ploop l k i s = some s' → JRel i s j → jrun fs (l.drop i) j = some j' → JRel l.length s' j' := by
  intro k
  induction k with
  | zero =>
    intro i s j s' j' hl hp hr hj
    rw [List.drop_eq_nil_of_le (by omega)] at hj
    cases hj; cases hp
    have : l.length = i := by omega
    rw [this]; exact hr
  | succ k ih =>
    intro i s j s' j' hl hp hr hj
    have hi : i < l.length := by omega
    rw [List.drop_eq_getElem_cons hi] at hj
    have hsg : sgn l i = l[i].sign := by simp [sgn, hi]
    simp only [ploop, hsg] at hp
    cases hs : pstep l[i].sign i s with
    | none => rw [hs] at hp; cases hp
    | some s2 =>
      rw [hs] at hp
      simp only [jrun] at hj
      split at hj
      · rename_i c
        exact ih (i + 1) s2 _ s' j' (by omega) hp (hr.tok fs l[i] hs c) hj
      · cases hj
theorem nOk_end (fs : List Fn) {l : List Tok} (h : nOk l = true) {j : Js} (hj : jrun fs l ⟨0, []⟩ = some j) : j.ps = [] := by
  have h2 : (nestP l).isSome = true := h
  unfold nestP at h2
  cases hp : ploop l l.length 0 ⟨List.replicate l.length (-1), [], 0⟩ with
  | none => rw [hp] at h2; cases h2
  | some s =>
    rw [hp] at h2
    simp only at h2
    have hr := nest_end fs l l.length 0 _ ⟨0, []⟩ s j (by omega) hp { fl := rfl, ot := by simp, fr := by simp, n16 := by simp, h0 := by simp, h1 := by simp, bs := by simp, so := List.Pairwise.nil, al := by simp } (by simpa using hj)
    split at h2
    · rename_i c
      have := hr.len
      rw [c] at this
      exact List.length_eq_zero_iff.mp this
    · cases h2
/-- One more part below does not disturb what is judged well. -/
theorem lastLoopJ_cons {b : Jp} {ps : List Jp} : ∀ {n k : Nat}, lastLoopJ ps n = some k → lastLoopJ (b :: ps) (n + 1) = some (k + 1)
  | 0, k, h => by cases h
  | n + 1, k, h => by
    simp only [lastLoopJ] at h
    rw [lastLoopJ]
    rw [List.getElem?_cons_succ]
    cases hp : ps[n]? with
    | none => rw [hp] at h; cases h
    | some p =>
      rw [hp] at h
      simp only at h ⊢
      split at h
      · rename_i c; cases h; rw [if_pos c]
      · rename_i c; rw [if_neg c]; exact lastLoopJ_cons h
theorem last_cons {b : Jp} {ps : List Jp} {p : Jp} (h : ps.getLast? = some p) : (b :: ps).getLast? = some p := by
  rw [List.getLast?_cons, h]; rfl
theorem set_cons {b : Jp} {ps : List Jp} {p q : Jp} (h : ps.getLast? = some p) : (b :: ps).set ((b :: ps).length - 1) q = b :: ps.set (ps.length - 1) q := by
  cases ps with
  | nil => cases h
  | cons x r => rfl
theorem drop_cons {b : Jp} {ps : List Jp} {p : Jp} (h : ps.getLast? = some p) : (b :: ps).dropLast = b :: ps.dropLast := by
  cases ps with
  | nil => cases h
  | cons x r => rfl
def Js.on (b : Jp) (s : Js) : Js := ⟨s.h, b :: s.ps⟩
theorem jturn_on (b : Jp) {sg : Int} {s : Js} (hp : jpre sg s.ps) : jturn sg (s.on b) = ((jturn sg s).1, (jturn sg s).2.on b) := by
  obtain ⟨p1, p2, p3, p4⟩ := hp
  unfold jturn Js.on
  simp only
  split
  · rfl
  split
  · rename_i c
    obtain ⟨p, e, _⟩ := p1 c
    simp only [last_cons e, e, set_cons e]
  split
  · rename_i c
    obtain ⟨p, e, _⟩ := p2 c
    simp only [last_cons e, e, drop_cons e]
    split
    · split <;> rfl
    · split <;> rfl
  split
  · rename_i c
    obtain ⟨p, e, _⟩ := p3 c
    simp only [last_cons e, e, drop_cons e]
    split <;> rfl
  split
  · rename_i c
    obtain ⟨k, e⟩ := p4 c
    have e2 := lastLoopJ_cons (b := b) e
    simp only [List.length_cons, e, e2, List.getElem?_cons_succ]
    cases hk : s.ps[k]? with
    | none => rfl
    | some p =>
      simp only
      split
      · rfl
      · rfl
  split
  · rfl
  · rfl
theorem jtok_on (fs : List Fn) (b : Jp) (hb : b.base = 0) {t : Tok} {s : Js} (hp : jpre t.sign s.ps) : jtok fs t (s.on b) = ((jtok fs t s).1, (jtok fs t s).2.on b) := by
  have hbase : jbase (s.on b).ps = jbase s.ps := by
    unfold jbase Js.on
    simp only [List.getLast?_cons]
    cases s.ps.getLast? with
    | none => exact hb
    | some p => rfl
  have hh : (s.on b).h = s.h := rfl
  unfold jtok
  rw [hbase, hh]
  split
  · rfl
  split
  · rfl
  split
  · exact jturn_on b hp
  split
  · rfl
  · exact jturn_on (s := ⟨s.h + ((takesN fs t.sign t.name).2.1 - (takesN fs t.sign t.name).1), s.ps⟩) b hp
theorem jrun_on (fs : List Fn) (b : Jp) (hb : b.base = 0) : ∀ (l : List Tok) (s : Js), JGood fs l s → ∀ s', jrun fs l s = some s' → jrun fs l (s.on b) = some (s'.on b)
  | [], s, _, s', h => by cases h; rfl
  | t :: r, s, hg, s', h => by
    obtain ⟨_, _, _, hp, hr⟩ := hg
    simp only [jrun] at h ⊢
    split at h
    · rename_i c
      rw [jtok_on fs b hb hp]
      simp only [c, if_true]
      exact jrun_on fs b hb r _ (hr c) s' h
    · cases h
/-- A code that is right, ends with one value, nothing open, if it goes on at its end. -/
theorem code_end {fs : List Fn} {c : ByteArray} {l : List Tok} {n : Nat} (hn : n ≤ 512) (hc : Code c l n) (ha : Alive l) (h : (codeN fs c).2 = 0) : nOk l = true ∧ jrun fs l ⟨0, []⟩ = some ⟨1, []⟩ ∧ JGood fs l ⟨0, []⟩ := by
  obtain ⟨ts, e1, e2, e3, _, e5, e6⟩ := code_facts h
  rw [toks_code hc hn] at e1
  cases e1
  obtain ⟨s', r1, r2⟩ := (jloop_run fs l ⟨0, []⟩ []).1 e3
  have h0 := ha fs _ _ ⟨by show -1 ≤ (0 : Int); omega, by simp⟩ r1
  have hps := nOk_end fs e2 r1
  rw [r2] at e5
  have h1 : s'.h = 1 := by omega
  refine ⟨e2, ?_, e6⟩
  rw [r1]
  cases s'; simp only at h1 hps; rw [h1, hps]
/-- How the judgement ends, by jrun. -/
theorem jloop_of {fs : List Fn} : ∀ {l : List Tok} {s : Js} {o : List Int} {s' : Js}, jrun fs l s = some s' → (jloop fs l s o).1 = 0 ∧ (jloop fs l s o).2.1 = s'
  | [], s, o, s', h => by cases h; exact ⟨rfl, rfl⟩
  | t :: r, s, o, s', h => by
    simp only [jrun] at h
    simp only [jloop]
    split at h
    · rename_i c
      rw [if_pos c]; exact jloop_of h
    · cases h
theorem codeN_of {fs : List Fn} {c : ByteArray} {l : List Tok} {n : Nat} (hc : Code c l n) (hn : n ≤ 512) (hk : nOk l = true) {j : Js} (hj : jrun fs l ⟨0, []⟩ = some j) : (codeN fs c).2 = if j.h ≠ -1 ∧ j.h ≠ 1 then 14 else 0 := by
  obtain ⟨h1, h2⟩ := jloop_of (o := []) hj
  unfold codeN
  rw [toks_code hc hn]
  simp only [ne_eq, not_true_eq_false, if_false]
  unfold funT
  rw [hk, if_neg (by simp), if_neg (by rw [h1]; simp), h2]
  split <;> rfl
theorem codeN_first {fs : List Fn} {c : ByteArray} {t : Tok} {l : List Tok} {n : Nat} (hc : Code c (t :: l) n) (hn : n ≤ 512) (hk : nOk (t :: l) = true) (h14 : (jtok fs t ⟨0, []⟩).1 = 14) : (codeN fs c).2 = 14 := by
  unfold codeN
  rw [toks_code hc hn]
  simp only [ne_eq, not_true_eq_false, if_false]
  unfold funT
  have h1 : (jloop fs (t :: l) ⟨0, []⟩ []).1 = 14 := by
    simp only [jloop]; rw [if_neg (by rw [h14]; simp)]; exact h14
  rw [hk, if_neg (by simp), if_pos (by rw [h1]; simp), h1]
section
variable {fs : List Fn} {c : ByteArray} {l : List Tok}
theorem made_more (hc : Code c l 400) (ha : Alive l) (h : (codeN fs c).2 = 0) : (codeN fs (c ++ ⟨#[32, 49]⟩)).2 = 14 := by
  obtain ⟨h1, h2, _⟩ := code_end (by omega) hc ha h
  have k : Code ⟨#[32, 49]⟩ [⟨48, dnum 0 [49], 0⟩] 2 := ⟨[32, 49], asc_ok [32, 49] _ rfl, Tx.num (ds := [49]) (by decide) (by simp) (by simp), Nat.le_refl _⟩
  have e : takesN fs 48 0 = (0, 1, true) := T1 (by omega)
  have r : jrun fs (l ++ [⟨48, dnum 0 [49], 0⟩]) ⟨0, []⟩ = some ⟨2, []⟩ := by
    rw [jrun_app, h2]; simp [jrun, jtok, jturn, e, jbase]
  rw [codeN_of (hc.app k) (by omega) (nOk_snoc rfl (by simp) h1) r]; rfl
theorem made_less (hc : Code c l 400) (ha : Alive l) (h : (codeN fs c).2 = 0) : (codeN fs (c ++ ⟨#[44]⟩)).2 = 14 := by
  obtain ⟨h1, h2, _⟩ := code_end (by omega) hc ha h
  have k : Code ⟨#[44]⟩ [sgT 44] 1 := Code.one [44] 44 rfl rfl (by simp)
  have e : takesN fs 44 0 = (1, 0, true) := T2 (by omega)
  have r : jrun fs (l ++ [sgT 44]) ⟨0, []⟩ = some ⟨0, []⟩ := by
    rw [jrun_app, h2]; simp [jrun, jtok, jturn, sgT, e, jbase]
  rw [codeN_of (hc.app k) (by omega) (nOk_snoc rfl (by simp [sgT]) h1) r]; rfl
theorem made_ahead (hc : Code c l 400) (ha : Alive l) (h : (codeN fs c).2 = 0) : (codeN fs (⟨#[43]⟩ ++ c)).2 = 14 := by
  obtain ⟨h1, h2, _⟩ := code_end (by omega) hc ha h
  have k : Code ⟨#[43]⟩ [sgT 43] 1 := Code.one [43] 43 rfl rfl (by simp)
  have e : takesN fs 43 0 = (2, 1, true) := T4 rfl
  exact codeN_first (t := sgT 43) (l := l) (k.app hc) (by omega) (nOk_cons rfl (by simp [sgT]) h1) (by simp [jtok, sgT, e, jbase])
theorem made_if (hc : Code c l 400) (ha : Alive l) (h : (codeN fs c).2 = 0) : (codeN fs (⟨#[97, 63]⟩ ++ c ++ ⟨#[58]⟩ ++ ⟨#[32, 55, 59]⟩)).2 = 0 ∨ (codeN fs (⟨#[97, 63]⟩ ++ c ++ ⟨#[58]⟩ ++ ⟨#[32, 55, 59]⟩)).2 = 13 := by
  obtain ⟨h1, h2, h3⟩ := code_end (by omega) hc ha h
  have k1 : Code ⟨#[97, 63]⟩ [sgT 97, sgT 63] 2 := Code.lit (l := [97, 63]) (rs := [97, 63]) rfl rfl
  have k2 : Code ⟨#[58]⟩ [sgT 58] 1 := Code.one [58] 58 rfl rfl (by simp)
  have k3 : Code ⟨#[32, 55, 59]⟩ [⟨48, dnum 0 [55], 0⟩, sgT 59] 3 := ⟨[32, 55, 59], asc_ok [32, 55, 59] _ rfl, (Tx.num (ds := [55]) (by decide) (by simp) (by simp)).app (Tx.sign (x := 59) (by omega) rfl (by omega) rfl), Nat.le_refl _⟩
  have K := ((k1.app hc).app k2).app k3
  have e1 : takesN fs 97 0 = (0, 1, true) := T1 (by omega)
  have e2 : takesN fs 63 0 = (1, 0, true) := T7 rfl
  have e3 : takesN fs 58 0 = (0, 0, true) := T8 (by decide)
  have e4 : takesN fs 48 0 = (0, 1, true) := T1 (by omega)
  have e5 : takesN fs 59 0 = (0, 0, true) := T8 (by decide)
  have r1 : jrun fs [sgT 97, sgT 63] ⟨0, []⟩ = some ⟨0, [⟨false, false, false, 0, 0⟩]⟩ := by
    simp [jrun, jtok, jturn, sgT, e1, e2, jbase]
  have r2 : jrun fs l ⟨0, [⟨false, false, false, 0, 0⟩]⟩ = some ⟨1, [⟨false, false, false, 0, 0⟩]⟩ := jrun_on fs ⟨false, false, false, 0, 0⟩ rfl l ⟨0, []⟩ h3 ⟨1, []⟩ h2
  have r3 : jrun fs ([sgT 58]) ⟨1, [⟨false, false, false, 0, 0⟩]⟩ = some ⟨0, [⟨false, true, false, 0, 1⟩]⟩ := by
    simp [jrun, jtok, jturn, sgT, e3, jbase]
  have r4 : jrun fs [⟨48, dnum 0 [55], 0⟩, sgT 59] ⟨0, [⟨false, true, false, 0, 1⟩]⟩ = some ⟨1, []⟩ := by
    simp [jrun, jtok, jturn, sgT, e4, e5, jbase]
  have r : jrun fs ([sgT 97, sgT 63] ++ l ++ [sgT 58] ++ [⟨48, dnum 0 [55], 0⟩, sgT 59]) ⟨0, []⟩ = some ⟨1, []⟩ := by
    rw [jrun_app, jrun_app, jrun_app, r1]
    simp only [Option.bind_some, r2, r3, r4]
  by_cases q : nOk ([sgT 97, sgT 63] ++ l ++ [sgT 58] ++ [⟨48, dnum 0 [55], 0⟩, sgT 59]) = true
  · left; rw [codeN_of K (by omega) q r]; rfl
  · right
    unfold codeN
    rw [toks_code K (by omega)]
    simp only [ne_eq, not_true_eq_false, if_false]
    unfold funT
    rw [if_pos (by simpa using q)]
end
end Go.Ev
namespace Go.Ev
open Go
/-- A function's own list, or the empty one that is full. -/
def OSf (k : Nat) (h : H) (bar : Nat) (a : AV) (n : Nat) (cs : List AV) : Prop :=
  OS k h bar a n cs ∨ (n = 0 ∧ cs = [] ∧ ∃ id, a = .sl id 0 k 0 true ∧ bar ≤ id ∧ id < h.n ∧ h.get id = some (.cells [] 0))
section
variable {k : Nat} {h h' : H} {bar : Nat} {a : AV} {n : Nat} {cs : List AV}
theorem OSf.len (v : OSf k h bar a n cs) (g : H) : lenR (some a) g = some (goI n, g) := by
  rcases v with v | ⟨rfl, _, id, rfl, _⟩
  · exact v.len g
  · rfl
theorem OSf.one (v : OSf k h bar a n cs) : a.one = true := by
  rcases v with v | ⟨rfl, _, id, rfl, _⟩
  · exact v.one
  · rfl
theorem OSf.mono (v : OSf k h bar a n cs) (hn : h.n ≤ h'.n) (g : ∀ j, a.isAt j → h'.get j = h.get j) : OSf k h' bar a n cs := by
  rcases v with v | ⟨e, c, id, rfl, h1, h2, h3⟩
  · exact .inl (v.mono hn g)
  · exact .inr ⟨e, c, id, rfl, h1, by omega, by rw [g id rfl]; exact h3⟩
theorem OSf.at_lt (v : OSf k h bar a n cs) {j : Nat} (hj : a.isAt j) : bar ≤ j ∧ j < h.n := by
  rcases v with v | ⟨e, c, id, rfl, h1, h2, h3⟩
  · exact v.at_lt hj
  · cases hj; exact ⟨h1, h2⟩
theorem OSf.set (v : OSf k h bar a n cs) {id : Nat} (o : HObj) (hat : ¬ a.isAt id) : OSf k (h.set id o) bar a n cs :=
  v.mono (Nat.le_refl _) (fun _ hj => get_set_ne (fun e => hat (e ▸ hj)))
theorem OSf.freeze (v : OSf k h bar a n cs) (hc : cs.all AV.still = true) (hn : n ≤ 9223372036854775807) (d : Nat) : ∃ a' h', freezeV bar (d + 2) h a = some (a', h') ∧ FzV k a' n cs := by
  rcases v with v | ⟨rfl, rfl, id, rfl, h1, h2, h3⟩
  · exact v.freeze hc hn d
  · refine ⟨.fz k 0 [] true, h.set id (.cells [] 0), ?_, by simp, by omega, .inr ⟨true, rfl⟩⟩
    simp [freezeV, h3, h1, freezeL]
theorem OSf.app (v : OSf k h bar a n cs) (hb : bar ≤ h.n) (bytes : Nat) (xs : List AV) (hx : xs.length = k) (hx1 : xs.all AV.one = true) (hk : 0 < k) (hs : (n + 1) * bytes ≤ 140737488355328) (hs' : n < 9223372036854775807) :
    ∃ a' h', appR bar k bytes (some a) (some (.sl h.n 0 k 1 true)) (h.alloc (.cells xs 0)) = some (a', h') ∧ OS k h' bar a' (n + 1) (cs ++ xs) ∧ h'.n = h.n + 2 ∧ (∀ j, j < h.n → ¬ a.isAt j → h'.get j = h.get j) ∧ (∀ j, a'.isAt j → h.n < j) := by
  rcases v with v | ⟨rfl, rfl, id, rfl, h1, h2, h3⟩
  · exact v.app hb bytes xs hx hx1 hk hs hs'
  · have hsrc : source k (h.alloc (.cells xs 0)) (.sl h.n 0 k 1 true) = some (1, xs) := by
      simp [source, get_alloc, ← hx]
    have hid : id ≠ h.n := by omega
    refine ⟨.sl (h.n + 1) 0 k 1 false, (h.alloc (.cells xs 0)).alloc (.cells xs 0), ?_, ⟨by simp [hx], by simpa using hx1, .inr ⟨h.n + 1, [], rfl, by omega, by simp [n_alloc], by simp [get_alloc, n_alloc]⟩⟩, by simp [n_alloc], fun j hj _ => by simp [get_alloc, n_alloc]; rw [if_neg (by omega), if_neg (by omega)], fun j hj => by cases hj; omega⟩
    simp only [appR, hsrc, if_pos hk, appendA, if_true]
    rw [if_neg (by omega), get_alloc, if_neg hid, h3]
    simp only
    rw [if_pos ⟨by simp, by simpa using hs, by omega⟩]
    simp [n_alloc]
theorem Vw.source {k : Nat} {h : H} {a : AV} {n : Nat} {cs : List AV} (v : Vw k h a n cs) : source k h a = some (n, cs) := by
  obtain ⟨h1, h2, ⟨rfl, rfl⟩ | ⟨full, rfl⟩ | ⟨id, off, full, all, p, rfl, e2, e3, e4, e5⟩⟩ := v
  · have : cs = [] := List.length_eq_zero_iff.mp (by rw [h1]; simp)
    subst this; rfl
  · simp [Go.Ev.source, h1]
  · simp [Go.Ev.source, e3, e4, e5]
/-- A list of all that another one has. -/
theorem app_all {k : Nat} {h : H} {bar : Nat} {a : AV} {n : Nat} {cs : List AV} (v : Vw k h a n cs) (hc : cs.all AV.one = true) (hk : 0 < k) (bytes : Nat) (hs : n * bytes ≤ 140737488355328) (E : Nat) (hE : h.get E = some (.cells [] 0)) (hbE : bar ≤ E) (hEn : E < h.n) (hb : bar ≤ h.n) :
    ∃ a' h', appR bar k bytes (some (.sl E 0 k 0 true)) (some a) h = some (a', h') ∧ OSf k h' bar a' n cs ∧ h.n ≤ h'.n ∧ (∀ j, j < h.n → h'.get j = h.get j) ∧ (∀ j, a'.isAt j → E ≤ j) := by
  by_cases hn : n = 0
  · subst hn
    have : cs = [] := List.length_eq_zero_iff.mp (by rw [v.1]; simp)
    subst this
    refine ⟨.sl E 0 k 0 true, h, ?_, .inr ⟨rfl, rfl, E, rfl, hbE, hEn, hE⟩, Nat.le_refl _, fun _ _ => rfl, fun j hj => by cases hj; exact Nat.le_refl _⟩
    simp only [appR, v.source, if_pos hk, appendA, if_true]
  · refine ⟨.sl h.n 0 k n false, h.alloc (.cells cs 0), ?_, .inl ⟨v.1, hc, .inr ⟨h.n, [], rfl, hb, by simp [n_alloc], by simp [get_alloc]⟩⟩, by simp [n_alloc], fun j hj => by rw [get_alloc, if_neg (by omega)], fun j hj => by cases hj; omega⟩
    simp only [appR, v.source, if_pos hk, appendA, if_true]
    rw [if_neg hn, hE]
    simp only
    rw [if_pos ⟨by simp, by simpa using hs, by have := v.2.1; omega⟩]
    simp
end
end Go.Ev
set_option linter.unusedSectionVars false
namespace Go.Ev
open Go
/-- A list of all that another one has, which has some. -/
theorem app_all1 {k : Nat} {h : H} {bar : Nat} {a : AV} {n : Nat} {cs : List AV} (v : Vw k h a n cs) (hn : n ≠ 0) (hc : cs.all AV.one = true) (hk : 0 < k) (bytes : Nat) (hs : n * bytes ≤ 140737488355328) (E : Nat) (hE : h.get E = some (.cells [] 0)) (hbE : bar ≤ E) :
    appR bar k bytes (some (.sl E 0 k 0 true)) (some a) h = some (.sl h.n 0 k n false, h.alloc (.cells cs 0)) := by
  simp only [appR, v.source, if_pos hk, appendA, if_true]
  rw [if_neg hn, hE]
  simp only
  rw [if_pos ⟨by simp, by simpa using hs, by have := v.2.1; omega⟩]
  simp
def setC (fs : List Fn) (k : Nat) (f : Fn) (s : ByteArray) : List Fn := fs.set k ⟨f.name, f.args, s⟩
section
variable {fs : List Fn} {k : Nat} {f : Fn} {s s' : ByteArray}
theorem setC_len : (setC fs k f s).length = fs.length := List.length_set ..
theorem setC_self (h : fs[k]? = some f) : setC fs k f f.code = fs := by
  unfold setC
  obtain ⟨hk, e⟩ := List.getElem?_eq_some_iff.mp h
  have : (⟨f.name, f.args, f.code⟩ : Fn) = fs[k] := by rw [e]
  rw [this, List.set_getElem_self]
theorem setC_splice (h : k < fs.length) : splice ((setC fs k f s).flatMap Fn.cells) (k * 3 + 2) [.str s'] = (setC fs k f s').flatMap Fn.cells := by
  have := flat_splice (c := Fn.cells) (k := 3) Fn.cells_len [] 2 [.str s'] ⟨f.name, f.args, s'⟩ (setC fs k f s) k ⟨f.name, f.args, s⟩ (by simp [setC, h]) (by simp) rfl
  simpa [setC] using this
theorem setC_codeN (h : fs[k]? = some f) : codeN (setC fs k f s) = codeN fs := by
  funext c
  unfold setC
  refine codeN_args (List.length_set ..) (fun i a b => ?_) c
  rw [List.getElem_set]
  split
  · rename_i e; subst e
    rw [List.getElem?_eq_getElem b] at h
    cases h; exact ⟨rfl, rfl⟩
  · exact ⟨rfl, rfl⟩
theorem setC_func {bar : Nat} {g : H} {p m : Int} {fa : AV} (h : fs[k]? = some f) (hv : FV g fa (setC fs k f s)) : ∃ a, call tb prim n_check_Func [.agg [.int .i64 p, .int .i64 m, fa], .int .i64 k] bar g = some (.tup [a, .int .i64 (codeN fs s).2], g) := by
  obtain ⟨hk, e⟩ := List.getElem?_eq_some_iff.mp h
  obtain ⟨a, e1, _⟩ := check_Func_N (bar := bar) (p := p) (m := m) (setC fs k f s) k hv
  rw [funN_code (by rw [setC_len]; exact hk)] at e1
  have e2 : ((setC fs k f s)[k]'(by rw [setC_len]; exact hk)).code = s := by simp [setC]
  rw [e2, setC_codeN h] at e1
  exact ⟨a, e1⟩
end
structure MI (g : H) (U F W S id : Nat) (p m : Int) (fa : AV) (fs : List Fn) (k : Nat) (f : Fn) (s : ByteArray) (ss : List ByteArray) : Prop where
  u : g.get U = some (.cells [.int .i64 p, .int .i64 m, fa] 0)
  fc : g.get F = some (.cells f.cells 0)
  w : g.get W = some (.cells [.int .i64 p, .int .i64 m, .sl id 0 3 fs.length false] 0)
  l : g.get id = some (.cells ((setC fs k f s).flatMap Fn.cells) 0)
  ss : g.get S = some (.cells (ss.map .str) 0)
  lt : id < g.n
section
variable {bar U F W S id : Nat} {p m : Int} {fa : AV} {fs : List Fn} {k : Nat} {f : Fn} {s : ByteArray} {ss : List ByteArray} {g : H}
theorem MI.fv (h : MI g U F W S id p m fa fs k f s ss) (hn : fs.length ≤ 3) : FV g (.sl id 0 3 fs.length false) (setC fs k f s) := by
  have hl : ((setC fs k f s).flatMap Fn.cells).length = fs.length * 3 := by rw [flat_len Fn.cells_len, setC_len]
  unfold FV
  rw [setC_len]
  exact ⟨hl, by omega, .inr (.inr ⟨id, 0, false, _, 0, rfl, h.lt, h.l, by omega, by rw [List.drop_zero, ← hl, List.take_length]⟩)⟩
theorem MI.set (h : MI g U F W S id p m fa fs k f s ss) (hd : id ≠ U ∧ id ≠ F ∧ id ≠ W ∧ id ≠ S) (s' : ByteArray) : MI (g.set id (.cells ((setC fs k f s').flatMap Fn.cells) 0)) U F W S id p m fa fs k f s' ss where
  u := by rw [get_set_ne hd.1.symm]; exact h.u
  fc := by rw [get_set_ne hd.2.1.symm]; exact h.fc
  w := by rw [get_set_ne hd.2.2.1.symm]; exact h.w
  l := by rw [get_set, if_pos rfl]
  ss := by rw [get_set_ne hd.2.2.2.symm]; exact h.ss
  lt := h.lt
theorem made_l0 (hk : fs[k]? = some f) (hn : fs.length ≤ 3) (hss : ∀ s ∈ ss, s.size ≤ 512 ∧ (codeN fs s).2 = 14) (hs3 : ss.length ≤ 3) (hd : id ≠ U ∧ id ≠ F ∧ id ≠ W ∧ id ≠ S) (hb : bar ≤ id) (Q : Ex → Env → H → Prop)
    (hq : ∀ e g' s', MI g' U F W S id p m fa fs k f s' ss → g'.n = g.n → e.get 3 = some (.ptr U 0) → e.get 4 = some (goI k) → e.get 5 = some (.ptr F 0) → e.get 8 = some (.ptr W 0) → e.get 18 = some fa → e.get 19 = some (goI fs.length) → e.get 20 = some (goI k) → Q (.exit 2) e g') : ∀ (n i : Nat) (g' : H) (s : ByteArray), ss.length = i + n → MI g' U F W S id p m fa fs k f s ss → g'.n = g.n →
    wpL (call tb prim) bar [3, 4, 5, 8, 18, 19, 20, 48, 49, 50] l0_engramlaw9_CheckMade [(3, .ptr U 0), (4, goI k), (5, .ptr F 0), (8, .ptr W 0), (18, fa), (19, goI fs.length), (20, goI k), (48, .sl S 0 1 ss.length true), (49, goI ss.length), (50, goI i)] g' Q := by
  intro n
  induction n with
  | zero =>
    intro i g' s hl hI hgn
    refine M_loop l0_engramlaw9_CheckMade.eq_1 ?_
    have c : ¬ (i : Int) < (ss.length : Int) := by omega
    simp [go_sem, c]
    exact hq _ g' s hI hgn rfl rfl rfl rfl rfl rfl rfl
  | succ n ih =>
    intro i g' s hl hI hgn
    refine M_loop l0_engramlaw9_CheckMade.eq_1 ?_
    have hi : i < ss.length := by omega
    have c : (i : Int) < (ss.length : Int) := by omega
    obtain ⟨hkl, hkf⟩ := List.getElem?_eq_some_iff.mp hk
    have ck : (k : Int) < (fs.length : Int) := by omega
    obtain ⟨x, hx⟩ : ∃ x, ss[i]? = some x := ⟨_, List.getElem?_eq_getElem hi⟩
    obtain ⟨z1, z2⟩ := hss x (List.mem_of_getElem? hx)
    have z1' : ¬ (512 : Int) < (x.size : Int) := by omega
    have hxs : (ss.map AV.str)[i]? = some (.str x) := by simp [hx]
    obtain ⟨cx, hcx⟩ : ∃ cx, cx = ss.map AV.str := ⟨_, rfl⟩
    have hS := hI.ss
    rw [← hcx] at hxs hS
    have hI2 := hI.set hd x
    obtain ⟨a, ea⟩ := setC_func (bar := bar) (p := p) (m := m) hk (hI2.fv hn)
    rw [z2] at ea
    have hw : IntKind.i64.wrap ((i : Int) + 1) = ((i + 1 : Nat) : Int) := w64_succ (by omega)
    have hU := hI.u
    have hW := hI.w
    have hL := hI.l
    have hsp := setC_splice (f := f) (s := s) (s' := x) hkl
    have hlen : k * 3 + 2 + 1 ≤ ((setC fs k f s).flatMap Fn.cells).length := by rw [flat_len Fn.cells_len, setC_len]; omega
    have hW2 := hI2.w
    obtain ⟨c1, hc1⟩ : ∃ c1, c1 = (setC fs k f s).flatMap Fn.cells := ⟨_, rfl⟩
    obtain ⟨c2, hc2⟩ : ∃ c2, c2 = (setC fs k f x).flatMap Fn.cells := ⟨_, rfl⟩
    rw [← hc1] at hL hsp hlen
    rw [← hc2] at hsp ea hW2
    have hgo := ih (i + 1) _ x (by omega) hI2 hgn
    rw [← hc2] at hgo
    have hWid : W ≠ id := hd.2.2.1.symm
    simp [go_sem, get_alloc, n_alloc, get_set, n_set, get_kill, n_kill, writeAt, a11, a21, a31, a41, a51, a61, a71, c, indexIn, hi, hS, hxs, z1', hW, hkl, ck, hL, hb, hlen, hsp, hWid, ea, hw]
    exact hgo
end
end Go.Ev
set_option linter.unusedSectionVars false
namespace Go.Ev
open Go
section
variable {bar U : Nat} {p m : Int} {fa : AV} {fs : List Fn}
theorem made_l1 (hG : GoodU fs) (hf : FzV 3 fa fs.length (fs.flatMap Fn.cells)) (hbU : bar ≤ U) (Q : Ex → Env → H → Prop) (hq : ∀ e g, Q (.exit 0) e g) : ∀ (k i : Nat) (g : H), fs.length = i + k → U < g.n → g.get U = some (.cells [.int .i64 p, .int .i64 m, fa] 0) →
    wpL (call tb prim) bar [3, 18, 19, 20] l1_engramlaw9_CheckMade [(3, .ptr U 0), (18, fa), (19, goI fs.length), (20, goI i)] g Q := by
  intro k
  induction k with
  | zero =>
    intro i g hk hn hU
    refine M_loop l1_engramlaw9_CheckMade.eq_1 ?_
    have c : ¬ (i : Int) < (fs.length : Int) := by omega
    simp [go_sem, c]
    exact hq _ _
  | succ k ih =>
    intro i g hk hn hU
    refine M_loop l1_engramlaw9_CheckMade.eq_1 ?_
    have hi : i < fs.length := by omega
    have c : (i : Int) < (fs.length : Int) := by omega
    have h3 := hG.1
    have hone := (hf.vw g).one
    have nb : bar ≤ g.n := by omega
    have nb1 : bar ≤ g.n + 1 := by omega
    have nb3 : bar ≤ g.n + 3 := by omega
    have hUn : ¬ U = g.n := by omega
    have hUn1 : ¬ U = g.n + 1 := by omega
    have hUn2 : ¬ U = g.n + 2 := by omega
    have hUn3 : ¬ U = g.n + 3 := by omega
    have hUn4 : ¬ U = g.n + 4 := by omega
    obtain ⟨⟨l, hc, ha⟩, hz⟩ := hG.2.2 i hi
    obtain ⟨f, hfe⟩ : ∃ f, f = fs[i] := ⟨_, rfl⟩
    have hfi : fs[i]? = some f := by rw [hfe]; exact List.getElem?_eq_getElem hi
    rw [← hfe] at hc hz
    have m1 := made_more hc ha hz
    have m2 := made_less hc ha hz
    have m3 := made_ahead hc ha hz
    have m4 := made_if hc ha hz
    have zc : f.code.size ≤ 400 := by obtain ⟨_, _, _, z⟩ := hc; exact z
    have b1 : strBin .add f.code ⟨#[32, 49]⟩ = some (.str (f.code ++ ⟨#[32, 49]⟩)) := sb_add (by simp only [sz_lit]; show _ + 2 ≤ _; omega)
    have b2 : strBin .add f.code ⟨#[44]⟩ = some (.str (f.code ++ ⟨#[44]⟩)) := sb_add (by show _ + 1 ≤ _; omega)
    have b3 : strBin .add ⟨#[43]⟩ f.code = some (.str (⟨#[43]⟩ ++ f.code)) := sb_add (by show 1 + _ ≤ _; omega)
    have b4 : strBin .add ⟨#[97, 63]⟩ f.code = some (.str (⟨#[97, 63]⟩ ++ f.code)) := sb_add (by show 2 + _ ≤ _; omega)
    have z4 : (ByteArray.mk #[97, 63] ++ f.code).size = 2 + f.code.size := by rw [ByteArray.size_append]; rfl
    have b5 : strBin .add (⟨#[97, 63]⟩ ++ f.code) ⟨#[58]⟩ = some (.str (⟨#[97, 63]⟩ ++ f.code ++ ⟨#[58]⟩)) := sb_add (by rw [z4]; show _ + 1 ≤ _; omega)
    have z5 : (ByteArray.mk #[97, 63] ++ f.code ++ ⟨#[58]⟩).size = 2 + f.code.size + 1 := by rw [ByteArray.size_append, z4]; rfl
    have b6 : strBin .add (⟨#[97, 63]⟩ ++ f.code ++ ⟨#[58]⟩) ⟨#[32, 55, 59]⟩ = some (.str (⟨#[97, 63]⟩ ++ f.code ++ ⟨#[58]⟩ ++ ⟨#[32, 55, 59]⟩)) := sb_add (by rw [z5]; show _ + 3 ≤ _; omega)
    have z6 : (ByteArray.mk #[97, 63] ++ f.code ++ ⟨#[58]⟩ ++ ⟨#[32, 55, 59]⟩).size ≤ 512 := by rw [ByteArray.size_append, z5]; show _ + 3 ≤ _; omega
    obtain ⟨s1, hs1⟩ : ∃ s, s = f.code ++ ⟨#[32, 49]⟩ := ⟨_, rfl⟩
    obtain ⟨s2, hs2⟩ : ∃ s, s = f.code ++ ⟨#[44]⟩ := ⟨_, rfl⟩
    obtain ⟨s3, hs3⟩ : ∃ s, s = ⟨#[43]⟩ ++ f.code := ⟨_, rfl⟩
    obtain ⟨s4, hs4⟩ : ∃ s, s = ⟨#[97, 63]⟩ ++ f.code ++ ⟨#[58]⟩ ++ ⟨#[32, 55, 59]⟩ := ⟨_, rfl⟩
    have zs1 : s1.size ≤ 512 := by rw [hs1, ByteArray.size_append]; show _ + 2 ≤ _; omega
    have zs2 : s2.size ≤ 512 := by rw [hs2, ByteArray.size_append]; show _ + 1 ≤ _; omega
    have zs3 : s3.size ≤ 512 := by rw [hs3, ByteArray.size_append]; show 1 + _ ≤ _; omega
    rw [← hs1] at b1 m1
    rw [← hs2] at b2 m2
    rw [← hs3] at b3 m3
    rw [← hs4] at b6 m4 z6
    obtain ⟨g1, hg1⟩ : ∃ g1, g1 = (g.alloc (.cells [.int .i32 0, .int .i64 0, .str ⟨#[]⟩] 0)).set g.n (.cells [.int .i32 f.name, .int .i64 f.args, .str f.code] 0) := ⟨_, rfl⟩
    obtain ⟨la, e1, _⟩ := check_Func_N (bar := bar) (h := g1) (p := p) (m := m) fs i (hf.vw g1)
    rw [funN_code hi, ← hfe, hz] at e1
    obtain ⟨g3, hg3⟩ : ∃ g3, g3 = ((g1.alloc (.cells [.int .i64 0, .int .i64 0, .nilsl] 0)).set (g.n + 1) (.cells [.int .i64 p, .int .i64 m, fa] 0)).alloc (.cells [] 0) := ⟨_, rfl⟩
    have n1 : g1.n = g.n + 1 := by rw [hg1]; simp [n_set, n_alloc]
    have n3 : g3.n = g.n + 3 := by rw [hg3]; simp [n_set, n_alloc, n1]
    have e2 := app_all1 (bar := bar) (hf.vw g3) (by omega) (fn_one fs) (by omega) 32 (by omega) (g.n + 2) (by rw [hg3, get_alloc, if_pos (by simp [n_set, n_alloc, n1])]) (by omega)
    rw [n3] at e2
    rw [hg3, hg1] at e2
    rw [hg1] at e1
    have hw : IntKind.i64.wrap ((i : Int) + 1) = ((i + 1 : Nat) : Int) := w64_succ (by omega)
    simp [go_sem, c]
    refine S_row (hf.vw g) hi fun v1 => ?_
    rw [← hfe]
    have x1 : ¬ g.n = g.n + 1 + 2 := by omega
    simp [go_sem, get_alloc, n_alloc, get_set, n_set, get_kill, n_kill, writeAt, a11, a21, a31, a41, a51, a61, a71, Fn.cells, sp33, sp32, nb, nb1, hUn, hUn1, hUn2, hUn3, hU, hone, e1, e2, b1, b2, b3, evParts, fillA, splice, x1]
    have hd : g.n + 3 ≠ U ∧ g.n + 3 ≠ g.n ∧ g.n + 3 ≠ g.n + 1 ∧ g.n + 3 ≠ g.n + 4 := ⟨by omega, by omega, by omega, by omega⟩
    refine made_l0 (bar := bar) (U := U) (F := g.n) (W := g.n + 1) (S := g.n + 4) (id := g.n + 3) (p := p) (m := m) (ss := [s1, s2, s3]) hfi h3 (fun s hs => ?_) (Nat.le_refl _) hd nb3 _ (fun e g' s' hI hn' q3 q4 q5 q8 q18 q19 q20 => ?_) 3 0 _ f.code rfl ?_ rfl
    · simp at hs
      rcases hs with rfl | rfl | rfl
      · exact ⟨zs1, m1⟩
      · exact ⟨zs2, m2⟩
      · exact ⟨zs3, m3⟩
    · have hI2 := hI.set hd s4
      obtain ⟨a, ea⟩ := setC_func (bar := bar) (p := p) (m := m) hfi (hI2.fv h3)
      have hW := hI.w
      have hF := hI.fc
      have hL := hI.l
      have hsp := setC_splice (f := f) (s := s') (s' := s4) hi
      have hlen : i * 3 + 2 + 1 ≤ ((setC fs i f s').flatMap Fn.cells).length := by rw [flat_len Fn.cells_len, setC_len]; omega
      have hW2 := hI2.w
      have h4 : ((setC fs i f s4).flatMap Fn.cells)[i * 3 + 2]? = some (.str s4) := by
        rw [flat_get Fn.cells_len (setC fs i f s4) i 2 ⟨f.name, f.args, s4⟩ (by omega) (by simp [setC, hi])]; rfl
      obtain ⟨c1, hc1⟩ : ∃ c1, c1 = (setC fs i f s').flatMap Fn.cells := ⟨_, rfl⟩
      obtain ⟨c2, hc2⟩ : ∃ c2, c2 = (setC fs i f s4).flatMap Fn.cells := ⟨_, rfl⟩
      rw [← hc1] at hL hsp hlen
      rw [← hc2] at hsp ea hW2 h4
      have hWid : ¬ g.n + 1 = g.n + 3 := by omega
      have hz6 : (s4.size : Int) ≤ 512 := by omega
      have hU2 := hI2.u
      have hn2 : U < (g'.set (g.n + 3) (.cells ((setC fs i f s4).flatMap Fn.cells) 0)).n := by rw [n_set]; have := hI.lt; omega
      have hgo := ih (i + 1) _ (by omega) hn2 hU2
      rw [← hc2] at hgo
      have hFc : Fn.cells f = [.int .i32 f.name, .int .i64 f.args, .str f.code] := rfl
      rw [hFc] at hF
      rcases m4 with m4 | m4
      · rw [m4] at ea
        simp [go_sem, get_alloc, n_alloc, get_set, n_set, get_kill, n_kill, writeAt, a11, a21, a31, a41, a51, a61, a71, q3, q4, q5, q8, q18, q19, q20, hW, hF, b4, b5, b6, indexIn, hi, c, hL, nb3, hlen, hsp, hWid, ea, h4, hz6, hw]
        exact hgo
      · rw [m4] at ea
        simp [go_sem, get_alloc, n_alloc, get_set, n_set, get_kill, n_kill, writeAt, a11, a21, a31, a41, a51, a61, a71, q3, q4, q5, q8, q18, q19, q20, hW, hF, b4, b5, b6, indexIn, hi, c, hL, nb3, hlen, hsp, hWid, ea, h4, hz6, hw]
        exact hgo
    · have hFc : f.cells = [.int .i32 f.name, .int .i64 f.args, .str f.code] := rfl
      have y1 : ¬ g.n + 1 = g.n + 3 := by omega
      have y2 : ¬ g.n + 1 = g.n + 4 := by omega
      have y3 : ¬ g.n + 3 = g.n + 4 := by omega
      exact { u := by simp [get_set, get_alloc, n_set, n_alloc, Nat.add_assoc, hUn, hUn1, hUn2, hUn3, hUn4, hU],
              fc := by simp [get_set, get_alloc, n_set, n_alloc, Nat.add_assoc, hFc],
              w := by simp [get_set, get_alloc, n_set, n_alloc, Nat.add_assoc, y2],
              l := by rw [setC_self hfi]; simp [get_set, get_alloc, n_set, n_alloc, Nat.add_assoc, y3],
              ss := by simp [get_set, get_alloc, n_set, n_alloc, Nat.add_assoc],
              lt := by simp [n_set, n_alloc, Nat.add_assoc] }
end
theorem CheckMade_ok {bar : Nat} {h : H} {la : AV} {L : List Int} (hL : FzV 1 la L.length (L.flatMap i64c)) : call tb prim n_engramlaw9_CheckMade [la] bar h = some (.bool true, h) := by
  refine call_of tb_engramlaw9_CheckMade (callF_pureW rfl rfl (M_in ?_))
  obtain ⟨p, m, fa, fs, hU, hf, hG⟩ := Unit_ok (bar := h.n) (h := h) (hL.vw h)
  have hone := (hf.vw h).one
  have hlen := fun g : H => (hf.vw h).len g
  have hkn := fun g : H => known_ok (bar := h.n) (h := g)
  simp [f_engramlaw9_CheckMade, env0, go_sem, get_alloc, n_alloc, get_set, n_set, get_kill, n_kill, writeAt, a11, a21, a31, a41, a51, a61, a71, hU, hone, hlen, sp33]
  refine made_l1 (bar := h.n) (p := p) (m := m) hG hf (Nat.le_refl _) _ (fun e g => ?_) fs.length 0 _ (by omega) (by simp [n_set, n_alloc]) (by simp [get_set, get_alloc])
  simp [go_sem, endP, endI, resultsA, resultA, freezeL, freezeV, AV.free.freeL, AV.free, packA, dropS, hkn]
end Go.Ev
namespace Go.Ev
open Go
def chkF (P : Program) : Nat → List (Option IntKind) → List Field → Bool
  | _, [], [] => true
  | off, k :: ks, f :: r => decide (f.offset = off) && decide (P.cellsOf f.type = 1) && (match k, P.underlying f.type with | some k, some (.int k') => decide (k = k') | none, some .string => true | _, _ => false) && chkF P (off + 1) ks r
  | _, _, _ => false
/-- A struct of numbers and texts: of these kinds. -/
def chkT (P : Program) (t : TypeId) (ks : List (Option IntKind)) : Bool := match P.underlying t with
  | some (.struct fs) => chkF P 0 ks fs.toList && decide (P.cellsOf t = ks.length)
  | _ => false
def RowOf (ks : List (Option IntKind)) (xs : List AV) : Prop := xs.length = ks.length ∧ ∀ (i : Nat) k, ks[i]? = some k → match k with | some k => ∃ z, xs[i]? = some (.int k z) | none => ∃ s, xs[i]? = some (.str s)
theorem take_one {xs : List AV} {i : Nat} {v : AV} (h : (xs.drop i).take 1 = [v]) : xs[i]? = some v := by
  have : ((xs.drop i).take 1)[0]? = some v := by rw [h]; rfl
  rwa [List.getElem?_take_of_lt (by omega), List.getElem?_drop, Nat.add_zero] at this
theorem chkF_ok {P : Program} {n : Nat} {xs : List AV} : ∀ (ks : List (Option IntKind)) (fs : List Field) (off : Nat), chkF P off ks fs = true → (∀ f ∈ fs, Fits P (n + 1) f.type ((xs.drop f.offset).take (P.cellsOf f.type))) →
    ∀ (i : Nat) k, ks[i]? = some k → match k with | some k => ∃ z, xs[off + i]? = some (.int k z) | none => ∃ s, xs[off + i]? = some (.str s)
  | [], _, _, _, _, i, k, hk => by simp at hk
  | k0 :: ks, [], off, h, _, i, k, hk => by simp [chkF] at h
  | k0 :: ks, f :: r, off, h, hf, i, k, hk => by
    simp only [chkF, Bool.and_eq_true, decide_eq_true_eq] at h
    obtain ⟨⟨⟨h1, h2⟩, h3⟩, h4⟩ := h
    cases i with
    | succ i =>
      have := chkF_ok ks r (off + 1) h4 (fun g hg => hf g (List.mem_cons_of_mem _ hg)) i k (by simpa using hk)
      have e : off + 1 + i = off + (i + 1) := by omega
      rw [e] at this; exact this
    | zero =>
      simp at hk; subst hk
      have hx := hf f (List.mem_cons_self ..)
      rw [h1, h2] at hx
      unfold Fits at hx
      rw [Nat.add_zero]
      cases k0 with
      | some kk =>
        split at h3 <;> first | (cases h3; done) | skip
        · rename_i k' _ e1 e2
          cases e1
          simp only [decide_eq_true_eq] at h3
          subst h3
          rw [e2] at hx
          obtain ⟨z, hz, _⟩ := hx
          exact ⟨z, take_one hz⟩
        · rename_i e1 _; cases e1
      | none =>
        split at h3 <;> first | (cases h3; done) | skip
        · rename_i e1 _; cases e1
        · rename_i e1 e2
          rw [e2] at hx
          obtain ⟨s, hs, _⟩ := hx
          exact ⟨s, take_one hs⟩
theorem chkT_ok {P : Program} {n : Nat} {t : TypeId} {ks : List (Option IntKind)} {xs : List AV} (hc : chkT P t ks = true) (h : Fits P (n + 2) t xs) : RowOf ks xs := by
  unfold chkT at hc
  unfold Fits at h
  split at hc
  · rename_i fs hu
    rw [hu] at h
    simp only [Bool.and_eq_true, decide_eq_true_eq] at hc
    refine ⟨by rw [h.1, hc.2], fun i k hk => ?_⟩
    have := chkF_ok ks fs.toList 0 hc.1 h.2 i k hk
    rwa [Nat.zero_add] at this
  · cases hc
theorem rows_list {A : Type} {c : A → List AV} {k : Nat} (hk : ∀ x, (c x).length = k) : ∀ (len : Nat) (cs : List AV), cs.length = len * k → (∀ i, i < len → ∃ x, (cs.drop (i * k)).take k = c x) → ∃ l : List A, l.length = len ∧ cs = l.flatMap c
  | 0, cs, h, _ => ⟨[], rfl, List.length_eq_zero_iff.mp (by simpa using h)⟩
  | len + 1, cs, h, hx => by
    obtain ⟨x, h0⟩ := hx 0 (by omega)
    obtain ⟨l, hl, hc⟩ := rows_list hk len (cs.drop k) (by rw [List.length_drop, h, Nat.succ_mul]; omega) (fun i hi => by
      obtain ⟨y, hy⟩ := hx (i + 1) (by omega)
      exact ⟨y, by rw [List.drop_drop, ← hy, Nat.succ_mul, Nat.add_comm]⟩)
    refine ⟨x :: l, by simp [hl], ?_⟩
    rw [List.flatMap_cons, ← hc, ← h0]
    simp
/-- A list of rows: an argument. -/
theorem arg_list {A : Type} {c : A → List AV} {P : Program} {n : Nat} {t e : TypeId} {k : Nat} {a : AV} (hk : ∀ x, (c x).length = k) (hu : P.underlying t = some (.slice e)) (hce : P.cellsOf e = k) (hx : ∀ xs, Fits P n e xs → ∃ x, xs = c x) (h : argOk P (n + 1) t a) : ∃ l : List A, FzV k a l.length (l.flatMap c) := by
  unfold argOk at h
  rw [hu] at h
  simp only at h
  unfold Fits at h
  rw [hu] at h
  rcases h with h | ⟨len, cs, h, hm, hl, hr⟩
  · cases h; exact ⟨[], by simp, by simp, .inl ⟨rfl, rfl⟩⟩
  · rw [hce] at h hl hr
    cases h
    obtain ⟨l, hl2, rfl⟩ := rows_list hk len cs hl (fun i hi => hx _ (hr i hi))
    have hm2 : maxLen ≤ 9223372036854775807 := by decide
    exact ⟨l, by rw [hl, hl2], by omega, .inr ⟨false, by rw [hl2]⟩⟩
theorem fits_int {P : Program} {n : Nat} {t : TypeId} {k : IntKind} {xs : List AV} (hu : P.underlying t = some (.int k)) (h : Fits P (n + 1) t xs) : ∃ x, xs = [.int k x] := by
  unfold Fits at h; rw [hu] at h; obtain ⟨z, hz, _⟩ := h; exact ⟨z, hz⟩
theorem arg_str {P : Program} {n : Nat} {t : TypeId} {a : AV} (hu : P.underlying t = some .string) (h : argOk P (n + 1) t a) : ∃ s, a = .str s := by
  unfold argOk at h; rw [hu] at h; unfold Fits at h; simp only [hu] at h
  obtain ⟨s, hs, _⟩ := h; cases hs; exact ⟨s, rfl⟩
theorem arg_struct {P : Program} {n : Nat} {t : TypeId} {ks : List (Option IntKind)} {a : AV} (hc : chkT P t ks = true) (h : argOk P (n + 2) t a) : ∃ xs, a = .agg xs ∧ RowOf ks xs := by
  have hc' := hc
  unfold chkT at hc
  unfold argOk at h
  split at hc
  · rename_i fs hu
    rw [hu] at h
    obtain ⟨xs, rfl, h⟩ := h
    exact ⟨xs, rfl, chkT_ok hc' h⟩
  · cases hc
end Go.Ev
