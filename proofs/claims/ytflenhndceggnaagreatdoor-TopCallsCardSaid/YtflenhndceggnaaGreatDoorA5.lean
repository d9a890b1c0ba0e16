/- Part 5 of the proof that a law of this seat (the one that GOCLAIM.json names) returns true for every argument; nothing is assumed. -/
import Derived.Shelf.Strconv.ParseIntPublic10
import Derived.Below
import Derived.Shelf.Small.Strs
import Derived.Test.YtflenhndceggnaaGreatDoorProg
import Derived.LaidLaws
import Derived.RowKit
import Derived.RowKitTokens
import Derived.MakeChecks
import Derived.ProofKit
import Derived.Test.YtflenhndceggnaaGreatDoorA4
set_option linter.unusedSimpArgs false
set_option linter.unusedVariables false
set_option linter.all false
namespace Go.Ev
open Go
def JGood (fs : List Fn) : List Tok → Js → Prop
  | [], s => JOk s
  | t :: r, s => JOk s ∧ s.ps.length ≤ 800 ∧ (s.h ≠ -1 → jbase s.ps ≤ s.h) ∧ jpre t.sign s.ps ∧ ((jtok fs t s).1 = 0 → JGood fs r (jtok fs t s).2)
/-- The judge's parts and the matcher's. -/
structure JRel (i : Nat) (s : Mt) (j : Js) : Prop where
  fl : j.ps.map (fun p => (p.loop, p.other)) = s.op.map fun p => (p.loop, decide (0 < p.ot))
  ot : ∀ p ∈ s.op, p.loop = true → p.ot = 0
  fr : ∀ p ∈ s.op, p.fr < i
  n16 : s.op.length ≤ 16
  h0 : -1 ≤ j.h
  h1 : j.h ≤ 64
  bs : ∀ p ∈ j.ps, 0 ≤ p.base ∧ p.base ≤ 64 ∧ -1 ≤ p.fin ∧ p.fin ≤ 64 ∧ (p.other = true → p.fin = -1 ∨ p.base ≤ p.fin)
  so : j.ps.Pairwise fun p q => p.base ≤ q.base
  al : j.h ≠ -1 → ∀ p ∈ j.ps, p.base ≤ j.h
theorem JRel.len {i : Nat} {s : Mt} {j : Js} (h : JRel i s j) : j.ps.length = s.op.length := by
  have := congrArg List.length h.fl
  simpa using this
theorem JRel.ok {i : Nat} {s : Mt} {j : Js} (h : JRel i s j) : JOk j :=
  ⟨h.h0, h.h1, fun p hp => ⟨(h.bs p hp).1, (h.bs p hp).2.1, (h.bs p hp).2.2.1, (h.bs p hp).2.2.2.1⟩, by have := h.len; have := h.n16; omega⟩
theorem lastLoop_eq {s : Mt} {j : Js} (h : j.ps.map (fun p => (p.loop, p.other)) = s.op.map fun p => (p.loop, decide (0 < p.ot))) : ∀ n, lastLoopJ j.ps n = lastLoop s.op n
  | 0 => rfl
  | n + 1 => by
    have hn := congrArg (fun l => l[n]?) h
    simp only [List.getElem?_map] at hn
    simp only [lastLoopJ, lastLoop]
    cases h1 : j.ps[n]? with
    | none => rw [h1] at hn; cases h2 : s.op[n]? with
      | none => rfl
      | some q => rw [h2] at hn; simp at hn
    | some p => rw [h1] at hn; cases h2 : s.op[n]? with
      | none => rw [h2] at hn; simp at hn
      | some q =>
        rw [h2] at hn
        simp only [Option.map_some, Option.some.injEq, Prod.mk.injEq] at hn
        simp only [hn.1]
        rw [lastLoop_eq h n]
/-- What is open innermost, in both. -/
theorem JRel.last {i : Nat} {s : Mt} {j : Js} (h : JRel i s j) {q : Pt} (hq : s.op.getLast? = some q) : ∃ p, j.ps.getLast? = some p ∧ p.loop = q.loop ∧ p.other = decide (0 < q.ot) ∧ p ∈ j.ps ∧ q ∈ s.op := by
  have hn := congrArg List.getLast? h.fl
  rw [List.getLast?_map, List.getLast?_map, hq] at hn
  cases hp : j.ps.getLast? with
  | none => rw [hp] at hn; simp at hn
  | some p =>
    rw [hp] at hn
    simp only [Option.map_some, Option.some.injEq, Prod.mk.injEq] at hn
    exact ⟨p, rfl, hn.1, hn.2, List.mem_of_getLast? hp, List.mem_of_getLast? hq⟩
theorem JRel.pre {i : Nat} {s : Mt} {j : Js} (h : JRel i s j) {sg : Int} {s' : Mt} (hs : pstep sg i s = some s') : jpre sg j.ps := by
  refine ⟨fun e => ?_, fun e => ?_, fun e => ?_, fun e => ?_⟩
  · subst e
    unfold pstep at hs
    rw [if_neg (by omega), if_neg (by omega), if_pos rfl] at hs
    cases hq : s.op.getLast? with
    | none => rw [hq] at hs; cases hs
    | some q =>
      rw [hq] at hs
      simp only at hs
      obtain ⟨p, h1, h2, h3, _⟩ := h.last hq
      split at hs
      · cases hs
      · rename_i hc
        simp at hc
        exact ⟨p, h1, by rw [h2]; exact hc.1, by rw [h3]; simp; omega⟩
  · subst e
    unfold pstep at hs
    rw [if_neg (by omega), if_neg (by omega), if_neg (by omega), if_pos rfl] at hs
    cases hq : s.op.getLast? with
    | none => rw [hq] at hs; cases hs
    | some q =>
      rw [hq] at hs
      simp only at hs
      obtain ⟨p, h1, h2, h3, _⟩ := h.last hq
      split at hs
      · cases hs
      · rename_i hc
        exact ⟨p, h1, by rw [h2]; simpa using hc⟩
  · subst e
    unfold pstep at hs
    rw [if_neg (by omega), if_neg (by omega), if_neg (by omega), if_neg (by omega), if_pos rfl] at hs
    cases hq : s.op.getLast? with
    | none => rw [hq] at hs; cases hs
    | some q =>
      rw [hq] at hs
      simp only at hs
      obtain ⟨p, h1, h2, h3, _, hm⟩ := h.last hq
      split at hs
      · rename_i hc
        exact ⟨p, h1, by rw [h2]; exact hc, by rw [h3]; simp; exact h.ot q hm hc⟩
      · cases hs
  · subst e
    unfold pstep at hs
    rw [if_neg (by omega), if_neg (by omega), if_neg (by omega), if_neg (by omega), if_neg (by omega), if_pos rfl] at hs
    cases hq : lastLoop s.op s.op.length with
    | none => rw [hq] at hs; cases hs
    | some k => exact ⟨k, by rw [lastLoop_eq h.fl, h.len, hq]⟩
theorem base_le {ps : List Jp} (so : ps.Pairwise fun p q => p.base ≤ q.base) {x : Jp} (hx : ps.getLast? = some x) : ∀ p ∈ ps, p.base ≤ x.base := fun p hp => by
  have hne : ps ≠ [] := fun e => by rw [e] at hx; cases hx
  obtain ⟨y, hy1, hy2, _, _⟩ := drop_last_split hne
  rw [hx] at hy1; injection hy1 with hy1; subst hy1
  rw [hy2] at so hp
  rw [List.pairwise_append] at so
  rw [List.mem_append] at hp
  rcases hp with hp | hp
  · exact so.2.2 p hp x (by simp)
  · simp at hp; subst hp; exact Int.le_refl _
theorem mem_drop {A : Type} {l : List A} {x : A} (h : x ∈ l.dropLast) : x ∈ l := by rw [List.dropLast_eq_take] at h; exact List.mem_of_mem_take h
theorem takes_end (fs : List Fn) {s : Int} (nm : Int) (h : isEnd s = true) : takesN fs s nm = (0, 0, true) := by
  have h' : s = 58 ∨ s = 59 ∨ s = 93 := by simpa [isEnd] using h
  exact T8 (by simp [isCtl]; omega)
theorem takes_brk (fs : List Fn) (nm : Int) : takesN fs 91 nm = (0, 0, true) ∧ takesN fs 126 nm = (0, 0, true) ∧ takesN fs 161 nm = (0, 0, true) ∧ takesN fs 63 nm = (1, 0, true) := ⟨T8 (by decide), T8 (by decide), T8 (by decide), T7 rfl⟩
/-- The turn keeps the two together. -/
theorem JRel.turn {i : Nat} {s : Mt} {j : Js} {h : Int} (hr : JRel i s j) {sg : Int} {s' : Mt} (hs : pstep sg i s = some s') (hh0 : -1 ≤ h) (hh1 : h ≤ 64) (hal : h ≠ -1 → ∀ p ∈ j.ps, p.base ≤ h) (hd : isEnd sg = false → h ≠ -1) (h0 : (jturn sg ⟨h, j.ps⟩).1 = 0) : JRel (i + 1) s' (jturn sg ⟨h, j.ps⟩).2 := by
  have hpre := hr.pre hs
  have fr1 : ∀ p ∈ s.op, p.fr < i + 1 := fun p hp => by have := hr.fr p hp; omega
  unfold pstep at hs
  unfold jturn at h0 ⊢
  by_cases c1 : sg = 63 ∨ sg = 91
  · rw [if_pos c1] at h0 ⊢
    have hne : h ≠ -1 := hd (by simp [isEnd]; omega)
    have hfin : ∀ lp : Bool, lp = (sg == 91) → s.op.length + 1 ≤ 16 → JRel (i + 1) ⟨s.to, s.op ++ [⟨lp, i, 0, []⟩], max s.deep (s.op.length + 1)⟩ ⟨h, j.ps ++ [⟨sg == 91, false, false, h, 0⟩]⟩ := fun lp hlp h16 => {
      fl := by simp [hr.fl, hlp]
      ot := fun p hp hl => by
        rw [List.mem_append] at hp
        rcases hp with hp | hp
        · exact hr.ot p hp hl
        · simp at hp; subst hp; rfl
      fr := fun p hp => by
        rw [List.mem_append] at hp
        rcases hp with hp | hp
        · exact fr1 p hp
        · simp at hp; subst hp; simp
      n16 := by simp; omega
      h0 := hh0
      h1 := hh1
      bs := fun p hp => by
        rw [List.mem_append] at hp
        rcases hp with hp | hp
        · exact hr.bs p hp
        · simp at hp; subst hp; simp only; exact ⟨by omega, hh1, by omega, by omega, fun e => by cases e⟩
      so := by
        rw [List.pairwise_append]
        exact ⟨hr.so, List.pairwise_singleton _ _, fun p hp q hq => by simp at hq; subst hq; exact hal hne p hp⟩
      al := fun _ p hp => by
        rw [List.mem_append] at hp
        rcases hp with hp | hp
        · exact hal hne p hp
        · simp at hp; subst hp; exact Int.le_refl _ }
    rcases c1 with rfl | rfl
    · rw [if_pos rfl] at hs
      split at hs
      · rename_i h16
        injection hs with hs; subst hs
        exact hfin false rfl h16
      · cases hs
    · rw [if_neg (by omega), if_pos rfl] at hs
      split at hs
      · rename_i h16
        injection hs with hs; subst hs
        exact hfin true rfl h16
      · cases hs
  rw [if_neg (by omega), if_neg (by omega)] at hs
  rw [if_neg c1] at h0 ⊢
  by_cases c2 : sg = 58
  · rw [if_pos c2] at hs h0 ⊢
    cases hq : s.op.getLast? with
    | none => rw [hq] at hs; cases hs
    | some q =>
      rw [hq] at hs
      obtain ⟨p, e1, e2, e3, e4, e5⟩ := hr.last hq
      simp only [e1] at h0 ⊢
      simp only at hs
      split at hs
      · cases hs
      · rename_i hc
        simp at hc
        injection hs with hs; subst hs
        have hi0 : 0 < i := by have := hr.fr q e5; omega
        have hpb := hr.bs p e4
        have hlj : j.ps[j.ps.length - 1]? = some p := by rw [← List.getLast?_eq_getElem?]; exact e1
        refine { fl := ?_, ot := fun x hx hl => ?_, fr := fun x hx => ?_, n16 := by simp only [List.length_set]; exact hr.n16, h0 := by simp only; omega, h1 := by simp only; omega, bs := fun x hx => ?_, so := ?_, al := fun _ x hx => ?_ }
        · simp only [List.map_set, hr.fl, hr.len]
          simp [e2, hi0]
        · rcases List.mem_or_eq_of_mem_set hx with hx | rfl
          · exact hr.ot x hx hl
          · rw [hc.1] at hl; cases hl
        · rcases List.mem_or_eq_of_mem_set hx with hx | rfl
          · exact fr1 x hx
          · exact fr1 q e5
        · rcases List.mem_or_eq_of_mem_set hx with hx | rfl
          · exact hr.bs x hx
          · refine ⟨hpb.1, hpb.2.1, hh0, hh1, fun _ => ?_⟩
            by_cases ch : h = -1
            · exact .inl ch
            · exact .inr (hal ch p e4)
        · have hm : (j.ps.set (j.ps.length - 1) ⟨p.loop, true, p.left, p.base, h⟩).map Jp.base = j.ps.map Jp.base := by
            rw [List.map_set]
            apply List.ext_getElem?
            intro k
            rw [List.getElem?_set]
            split
            · rename_i e; subst e
              split
              · rw [List.getElem?_map, hlj]; rfl
              · rename_i hh; simp at hh; rw [List.getElem?_map, hlj]; simp [List.getElem?_eq_none_iff.mpr hh] at hlj
            · rfl
          have h3 : (j.ps.map Jp.base).Pairwise (· ≤ ·) := List.pairwise_map.mpr hr.so
          rw [← hm] at h3
          exact List.pairwise_map.mp h3
        · simp only
          rcases List.mem_or_eq_of_mem_set hx with hx | rfl
          · exact base_le hr.so e1 x hx
          · exact Int.le_refl _
  rw [if_neg c2] at hs h0 ⊢
  have hdrop : ∀ {q : Pt} {x : Int} {to : List Int}, s.op.getLast? = some q → -1 ≤ x → x ≤ 64 → (x ≠ -1 → ∀ p ∈ j.ps.dropLast, p.base ≤ x) → JRel (i + 1) ⟨to, s.op.dropLast, s.deep⟩ ⟨x, j.ps.dropLast⟩ := fun {q x to} hq g1 g2 g3 => {
    fl := by simp only [List.map_dropLast, hr.fl]
    ot := fun p hp => hr.ot p (mem_drop hp)
    fr := fun p hp => fr1 p (mem_drop hp)
    n16 := by simp only [List.length_dropLast]; have := hr.n16; omega
    h0 := g1
    h1 := g2
    bs := fun p hp => hr.bs p (mem_drop hp)
    so := hr.so.sublist (List.dropLast_sublist _)
    al := g3 }
  by_cases c3 : sg = 59
  · rw [if_pos c3] at hs h0 ⊢
    cases hq : s.op.getLast? with
    | none => rw [hq] at hs; cases hs
    | some q =>
      rw [hq] at hs
      obtain ⟨p, e1, e2, e3, e4, e5⟩ := hr.last hq
      have hpb := hr.bs p e4
      have hbl := base_le hr.so e1
      simp only [e1] at h0 ⊢
      simp only at hs
      split at hs
      · cases hs
      · injection hs with hs; subst hs
        by_cases co : p.other = true
        · rw [if_pos co] at h0 ⊢
          split at h0
          · cases h0
          · rename_i hc
            rw [if_neg hc]
            refine hdrop hq (by omega) (by omega) (fun hx y hy => ?_)
            have hy1 := hbl y (mem_drop hy)
            by_cases ch : h = -1
            · rcases hpb.2.2.2.2 co with hf | hf <;> omega
            · have := hal ch y (mem_drop hy); omega
        · rw [if_neg co] at h0 ⊢
          split at h0
          · cases h0
          · rename_i hc
            rw [if_neg hc]
            exact hdrop hq (by omega) (by omega) (fun _ y hy => hbl y (mem_drop hy))
  rw [if_neg c3] at hs h0 ⊢
  by_cases c4 : sg = 93
  · rw [if_pos c4] at hs h0 ⊢
    cases hq : s.op.getLast? with
    | none => rw [hq] at hs; cases hs
    | some q =>
      rw [hq] at hs
      obtain ⟨p, e1, e2, e3, e4, e5⟩ := hr.last hq
      have hpb := hr.bs p e4
      have hbl := base_le hr.so e1
      simp only [e1] at h0 ⊢
      simp only at hs
      split at hs
      · injection hs with hs; subst hs
        split at h0
        · cases h0
        · rename_i hc
          rw [if_neg hc]
          refine hdrop hq ?_ ?_ (fun hx y hy => ?_)
          · split <;> omega
          · split <;> omega
          · split
            · exact hbl y (mem_drop hy)
            · rename_i hl; simp only [hl] at hx; exact absurd rfl hx
      · cases hs
  rw [if_neg c4] at hs h0 ⊢
  by_cases c5 : sg = 126
  · rw [if_pos c5] at hs h0 ⊢
    cases hk : lastLoop s.op s.op.length with
    | none => rw [hk] at hs; cases hs
    | some k =>
      have hkj : lastLoopJ j.ps j.ps.length = some k := by rw [lastLoop_eq hr.fl, hr.len, hk]
      obtain ⟨hk1, pj, hpj, hlj⟩ := lastLoopJ_some _ _ _ hkj
      rw [hk] at hs
      simp only [hkj, hpj] at h0 ⊢
      simp only at hs
      obtain ⟨_, q, hq, hlq⟩ := lastLoop_some _ _ _ hk
      rw [hq] at hs
      simp only at hs
      injection hs with hs; subst hs
      split at h0
      · cases h0
      · rename_i hc
        rw [if_neg hc]
        have hflk := congrArg (fun l => l[k]?) hr.fl
        simp only [List.getElem?_map, hpj, hq, Option.map_some, Option.some.injEq, Prod.mk.injEq] at hflk
        refine { fl := ?_, ot := fun x hx hl => ?_, fr := fun x hx => ?_, n16 := by simp only [List.length_set]; exact hr.n16, h0 := by simp only; omega, h1 := by simp only; omega, bs := fun x hx => ?_, so := ?_, al := fun e => absurd rfl e }
        · simp only [List.map_set, hr.fl]
          simp [hflk]
        · rcases List.mem_or_eq_of_mem_set hx with hx | rfl
          · exact hr.ot x hx hl
          · exact hr.ot q (List.mem_of_getElem? hq) hl
        · rcases List.mem_or_eq_of_mem_set hx with hx | rfl
          · exact fr1 x hx
          · exact fr1 q (List.mem_of_getElem? hq)
        · rcases List.mem_or_eq_of_mem_set hx with hx | rfl
          · exact hr.bs x hx
          · exact hr.bs pj (List.mem_of_getElem? hpj)
        · have hm : (j.ps.set k ⟨pj.loop, pj.other, true, pj.base, pj.fin⟩).map Jp.base = j.ps.map Jp.base := by
            rw [List.map_set]
            apply List.ext_getElem?
            intro k'
            rw [List.getElem?_set]
            split
            · rename_i e; subst e
              split
              · rw [List.getElem?_map, hpj]; rfl
              · rename_i hh; simp at hh; omega
            · rfl
          have h3 : (j.ps.map Jp.base).Pairwise (· ≤ ·) := List.pairwise_map.mpr hr.so
          rw [← hm] at h3
          exact List.pairwise_map.mp h3
  rw [if_neg c5] at hs h0 ⊢
  injection hs with hs; subst hs
  have hsame : ∀ x : Int, -1 ≤ x → x ≤ 64 → (x ≠ -1 → ∀ p ∈ j.ps, p.base ≤ x) → JRel (i + 1) s ⟨x, j.ps⟩ := fun x g1 g2 g3 => { fl := hr.fl, ot := hr.ot, fr := fr1, n16 := hr.n16, h0 := g1, h1 := g2, bs := hr.bs, so := hr.so, al := g3 }
  by_cases c6 : sg = 161
  · rw [if_pos c6]
    exact hsame (-1) (by omega) (by omega) (fun e => absurd rfl e)
  · rw [if_neg c6]
    exact hsame h hh0 hh1 hal
theorem JRel.jb {i : Nat} {s : Mt} {j : Js} (hr : JRel i s j) (h : j.h ≠ -1) : jbase j.ps ≤ j.h := by
  unfold jbase
  cases hx : j.ps.getLast? with
  | none => have := hr.h0; simp only; omega
  | some x => exact hr.al h x (List.mem_of_getLast? hx)
theorem JRel.tok {i : Nat} {s : Mt} {j : Js} (hr : JRel i s j) (fs : List Fn) (t : Tok) {s' : Mt} (hs : pstep t.sign i s = some s') (h0 : (jtok fs t j).1 = 0) : JRel (i + 1) s' (jtok fs t j).2 := by
  have hjb := hr.jb
  have hh0 := hr.h0
  have hh1 := hr.h1
  obtain ⟨b3, b4, b5, b6⟩ := takes_rng fs t.sign t.name
  unfold jtok at h0 ⊢
  split at h0
  · cases h0
  rename_i c1
  rw [if_neg c1]
  split at h0
  · cases h0
  rename_i c2
  rw [if_neg c2]
  split at h0
  · rename_i c3
    rw [if_pos c3]
    have := hr.turn (h := j.h) hs hh0 hh1 hr.al (fun e => absurd ⟨c3, e⟩ c1) h0
    exact this
  · rename_i c3
    rw [if_neg c3]
    split at h0
    · cases h0
    · rename_i c4
      rw [if_neg c4]
      have hb := hjb c3
      have hjb0 : 0 ≤ jbase j.ps := (jbase_rng hr.ok).1
      refine hr.turn (h := j.h + ((takesN fs t.sign t.name).2.1 - (takesN fs t.sign t.name).1)) hs (by omega) (by omega) (fun _ p hp => ?_) (fun _ => by omega) h0
      have : p.base ≤ jbase j.ps := by
        unfold jbase
        cases hx : j.ps.getLast? with
        | none => rw [List.getLast?_eq_none_iff] at hx; rw [hx] at hp; cases hp
        | some x => exact base_le hr.so hx p hp
      omega
theorem nest_good (fs : List Fn) (l : List Tok) : ∀ (k i : Nat) (s : Mt) (j : Js) (s' : Mt), l.length = i + k → ploop l k i s = some s' → JRel i s j → JGood fs (l.drop i) j := by
  intro k
  induction k with
  | zero => intro i s j s' hl hp hr; rw [List.drop_eq_nil_of_le (by omega)]; exact hr.ok
  | succ k ih =>
    intro i s j s' hl hp hr
    have hi : i < l.length := by omega
    rw [List.drop_eq_getElem_cons hi]
    have hsg : sgn l i = l[i].sign := by simp [sgn, hi]
    simp only [ploop, hsg] at hp
    cases hs : pstep l[i].sign i s with
    | none => rw [hs] at hp; cases hp
    | some s2 =>
      rw [hs] at hp
      refine ⟨hr.ok, by have := hr.len; have := hr.n16; omega, hr.jb, hr.pre hs, fun h0 => ?_⟩
      exact ih (i + 1) s2 _ s' (by omega) hp (hr.tok fs l[i] hs h0)
theorem nestP_good (fs : List Fn) (l : List Tok) {to : List Int} (h : nestP l = some to) : JGood fs l ⟨0, []⟩ := by
  unfold nestP at h
  cases hp : ploop l l.length 0 ⟨List.replicate l.length (-1), [], 0⟩ with
  | none => rw [hp] at h; cases h
  | some s =>
    have := nest_good fs l l.length 0 _ ⟨0, []⟩ s (by omega) hp { fl := rfl, ot := by simp, fr := by simp, n16 := by simp, h0 := by simp, h1 := by simp, bs := by simp, so := List.Pairwise.nil, al := by simp }
    simpa using this
end Go.Ev
namespace Go.Ev
open Go
def jloop (fs : List Fn) : List Tok → Js → List Int → Int × Js × List Int
  | [], s, o => (0, s, o)
  | t :: r, s, o => if (jtok fs t s).1 = 0 then jloop fs r (jtok fs t s).2 (o ++ [s.h]) else ((jtok fs t s).1, s, o)
def funT (fs : List Fn) (ts : List Tok) (ok : Bool) : List Int × Int :=
  if ok = false then ([], 13) else
  if (jloop fs ts ⟨0, []⟩ []).1 ≠ 0 then ([], (jloop fs ts ⟨0, []⟩ []).1) else
  if (jloop fs ts ⟨0, []⟩ []).2.1.h ≠ -1 ∧ (jloop fs ts ⟨0, []⟩ []).2.1.h ≠ 1 then ([], 14) else ((jloop fs ts ⟨0, []⟩ []).2.2, 0)
def funN (nest : List Tok → Bool) (fs : List Fn) (k : Int) : List Int × Int :=
  if k < 0 ∨ (fs.length : Int) ≤ k then ([], 23) else
  match fs[k.toNat]? with
  | none => ([], 23)
  | some f => if (toksN f.code).2 ≠ 0 then ([], (toksN f.code).2) else funT fs (toksN f.code).1 (nest (toksN f.code).1)
theorem jtok_code (fs : List Fn) (t : Tok) (s : Js) : 0 ≤ (jtok fs t s).1 ∧ (jtok fs t s).1 ≤ 100 := by
  have h : ∀ sg j, 0 ≤ (jturn sg j).1 ∧ (jturn sg j).1 ≤ 100 := fun sg j => by
    unfold jturn
    repeat' split
    all_goals simp
  unfold jtok
  repeat' split
  all_goals first | exact h _ _ | simp
theorem jloop_len (fs : List Fn) : ∀ (l : List Tok) (s : Js) (o : List Int), (jloop fs l s o).1 = 0 → (jloop fs l s o).2.2.length = o.length + l.length
  | [], s, o, _ => by simp [jloop]
  | t :: r, s, o, h => by
    simp only [jloop] at h ⊢
    split at h
    · rename_i c
      rw [if_pos c, jloop_len fs r _ _ h]; simp; omega
    · rename_i c; exact absurd h c
/-- A function's field, read out of wherever the functions lie. -/
theorem S_field {o : Oracle} {bar : Nat} {h0 g : H} {fa : AV} {fs : List Fn} (hv : FV h0 fa fs) (hag : Ag h0.n h0 g) {i : Nat} (hi : i < fs.length) {f : Nat} {y : AV} (hy : (fs[i]).cells[f]? = some y) {a c d : Nat} {r : List IOper} {ks : List Fr} {e : Env} {Q : Ex → Env → H → Prop}
    (hw : ∀ v1 v2, wpX o bar r ks ((d, y) :: (c, v2) :: (a, v1) :: e) g Q) :
    wpS o bar (iadrR 3 (some fa) (some (.int .i64 (i : Nat))) g) (some a) (⟨some c, .fadr f (.t a), none⟩ :: ⟨some d, .ld false 1 (.t c), none⟩ :: r) ks e Q := by
  have hbi : (i : Int) < (fs.length : Int) := by omega
  rcases hv.cases with ⟨rfl, rfl⟩ | ⟨full, cs, rfl, hl, hx, _⟩ | ⟨id', off, full, all, p', rfl, hlt, hg', hx, _⟩
  · cases hi
  · have hcf : cs[i * 3 + f]? = some y := by
      obtain ⟨q0, q1, q2⟩ := hx i hi
      match f, hy with
      | 0, hy => rw [Nat.add_zero, q0]; exact hy
      | 1, hy => rw [q1]; exact hy
      | 2, hy => rw [q2]; exact hy
      | n + 3, hy => simp [Fn.cells] at hy
    simp [go_sem, indexIn, hi, hbi, hl, hcf]
    exact hw _ _
  · have hcf : all[off + i * 3 + f]? = some y := by
      obtain ⟨q0, q1, q2⟩ := hx i hi
      match f, hy with
      | 0, hy => rw [Nat.add_zero, q0]; exact hy
      | 1, hy => rw [q1]; exact hy
      | 2, hy => rw [q2]; exact hy
      | n + 3, hy => simp [Fn.cells] at hy
    have hg2 := (hag.2 _ hlt).trans hg'
    simp [go_sem, indexIn, hi, hbi, hg2, hcf]
    exact hw _ _
section
variable {bar b : Nat} {h : H} {J : Nat} {p m : Int} {fa : AV}
theorem check_func_loop (fs : List Fn) (l : List Tok) (la : AV) (hla : FzV 3 la l.length (l.flatMap Tok.cells)) (hlen : l.length ≤ 2000) (h0 : H) (hfv : FV h0 fa fs) (h0n : h0.n ≤ b) (hbb : bar ≤ b) (Q : Ex → Env → H → Prop) : ∀ (k i : Nat) (g : H) (s : Js) (out : List Int), l.length = i + k → b ≤ g.n → Ag h0.n h0 g → JV g b J p m fa s out → JGood fs (l.drop i) s → out.length ≤ i →
    (∀ e g' x, e.get 4 = some .nilsl → e.get 5 = some (.int .i64 x) → x ≠ 0 → (jloop fs (l.drop i) s out).1 = x → Q .ret e g') →
    (∀ e g' s' out', e.get 10 = some (.ptr J 0) → jloop fs (l.drop i) s out = (0, s', out') → JV g' b J p m fa s' out' → out'.length ≤ 2000 → Q (.exit 0) e g') →
    wpL (call tb prim) bar [10, 47, 48, 49] l0_check_Func [(10, .ptr J 0), (47, la), (48, goI l.length), (49, goI i)] g Q := by
  intro k
  induction k with
  | zero =>
    intro i g s out hk hb hag hv hg ho h1 h2
    refine M_loop l0_check_Func.eq_1 ?_
    simp [go_sem, hk]
    exact h2 _ _ s out rfl (by rw [List.drop_eq_nil_of_le (by omega)]; rfl) hv (by omega)
  | succ k ih =>
    intro i g s out hk hb hag hv hg ho h1 h2
    refine M_loop l0_check_Func.eq_1 ?_
    have hi : i < l.length := by omega
    have hbi : (i : Int) < (l.length : Int) := by omega
    have hw := w64_succ (n := i) (by omega)
    rcases tok_cases hla with ⟨rfl, rfl⟩ | ⟨full, cs, rfl, hl, hx, hy⟩
    · cases hi
    have hyi := hy i hi
    have hd : l.drop i = l[i] :: l.drop (i + 1) := List.drop_eq_getElem_cons hi
    rw [hd] at hg h1 h2
    generalize hti : l[i] = t at *
    obtain ⟨hok, hpl, _, hpre, hnext⟩ := hg
    have hbn : bar ≤ g.n := by omega
    have hv2 : JV ((g.alloc (.cells [.int .i32 0, .int .i64 0, .int .i32 0] 0)).set g.n (.cells t.cells 0)) b J p m fa s out := by
      obtain ⟨pa, oa, hv⟩ := hv
      exact ⟨pa, oa, hv.mono (by simp [n_set, n_alloc]) (fun j hj => by rw [get_set_ne (by omega), get_alloc, if_neg (by omega)])⟩
    have hag2 : Ag h0.n h0 ((g.alloc (.cells [.int .i32 0, .int .i64 0, .int .i32 0] 0)).set g.n (.cells t.cells 0)) := ⟨by simp only [n_set, n_alloc]; have := hag.1; omega, fun j hj => by rw [get_set_ne (by omega), get_alloc, if_neg (by omega), hag.2 j hj]⟩
    obtain ⟨r, g', c1, c2, c3, c4, c5⟩ := jtoken_ok (bar := bar) fs t h0 hfv h0n hag2 hbb (by simp only [n_set, n_alloc]; omega) hv2 hok hpl (by omega) hpre
    simp only [n_set, n_alloc] at c3
    simp only [Tok.cells] at c1
    have hjl : jloop fs (t :: l.drop (i + 1)) s out = if (jtok fs t s).1 = 0 then jloop fs (l.drop (i + 1)) (jtok fs t s).2 (out ++ [s.h]) else ((jtok fs t s).1, s, out) := rfl
    rw [hjl] at h1 h2
    subst c2
    by_cases c0 : (jtok fs t s).1 = 0
    · rw [if_pos c0] at h1 h2
      have c0' : ((jtok fs t s).1 != 0) = false := ne_b' c0
      simp [go_sem, get_alloc, n_alloc, get_set, n_set, get_kill, n_kill, writeAt, a11, a21, a31, a41, a51, a61, a71, hi, hbi, indexIn, hl, hyi, Tok.cells, splice, hbn, c1, c0', hw]
      exact ih (i + 1) g' _ _ (by omega) (by omega) ⟨by have := hag2.1; simp only [n_set, n_alloc] at this; omega, fun j hj => by rw [c4 j (by omega), hag2.2 j hj]⟩ (c5 c0) (hnext c0) (by simp; omega) h1 h2
    · rw [if_neg c0] at h1 h2
      have c0' : ((jtok fs t s).1 != 0) = true := ne_b c0
      simp [go_sem, get_alloc, n_alloc, get_set, n_set, get_kill, n_kill, writeAt, a11, a21, a31, a41, a51, a61, a71, hi, hbi, indexIn, hl, hyi, Tok.cells, splice, hbn, c1, c0']
      exact h1 _ _ _ rfl rfl c0 rfl
theorem check_Func_ok (fs : List Fn) (k : Int) (hv : FV h fa fs) : ∃ a, call tb prim n_check_Func [.agg [.int .i64 p, .int .i64 m, fa], .int .i64 k] bar h = some (.tup [a, .int .i64 (funN (fun l => (nestP l).isSome) fs k).2], h) ∧ FzV 1 a (funN (fun l => (nestP l).isSome) fs k).1.length ((funN (fun l => (nestP l).isSome) fs k).1.flatMap i64c) := by
  suffices hw : ∃ r, callF (call tb prim) f_check_Func [.agg [.int .i64 p, .int .i64 m, fa], .int .i64 k] bar h = some (r, h) ∧ ∃ a, r = .tup [a, .int .i64 (funN (fun l => (nestP l).isSome) fs k).2] ∧ FzV 1 a (funN (fun l => (nestP l).isSome) fs k).1.length ((funN (fun l => (nestP l).isSome) fs k).1.flatMap i64c) by
    obtain ⟨r, h1, a, rfl, h2⟩ := hw; exact ⟨a, call_of tb_check_Func h1, h2⟩
  refine callF_pureK rfl rfl fun K hK => ?_
  have hnil : ∀ x, funN (fun l => (nestP l).isSome) fs k = ([], x) → K (.tup [.nilsl, .int .i64 x]) := fun x hx => by
    refine hK _ ⟨.nilsl, by rw [hx], ?_⟩
    rw [hx]; exact ⟨rfl, by simp, .inl ⟨rfl, rfl⟩⟩
  have hlen := hv.len
  by_cases c1 : k < 0
  · have := hnil 23 (by unfold funN; rw [if_pos (.inl c1)])
    simp [f_check_Func, env0, go_sem, get_alloc, n_alloc, get_set, n_set, get_kill, n_kill, writeAt, a11, a21, a31, a41, a51, a61, a71, endX, resultsA, resultA, freezeL, AV.free.freeL, packA, Vw.one hv, c1, freezeV, AV.free]
    exact this
  by_cases c2 : (fs.length : Int) ≤ k
  · have := hnil 23 (by unfold funN; rw [if_pos (.inr c2)])
    simp [f_check_Func, env0, go_sem, get_alloc, n_alloc, get_set, n_set, get_kill, n_kill, writeAt, a11, a21, a31, a41, a51, a61, a71, endX, resultsA, resultA, freezeL, AV.free.freeL, packA, Vw.one hv, c1, hlen, c2, freezeV, AV.free]
    exact this
  obtain ⟨i, hik⟩ : ∃ i : Nat, k = i := ⟨k.toNat, by omega⟩
  subst hik
  have hi : i < fs.length := by omega
  have hbi : (i : Int) < (fs.length : Int) := by omega
  have hf : funN (fun l => (nestP l).isSome) fs (i : Int) = if (toksN fs[i].code).2 ≠ 0 then ([], (toksN fs[i].code).2) else funT fs (toksN fs[i].code).1 ((nestP (toksN fs[i].code).1).isSome) := by
    unfold funN; rw [if_neg (by omega)]; simp [hi]
  rw [hf] at hK hnil
  have hone := Vw.one hv
  have hag : ∀ o, Ag h.n h (h.alloc o) := fun o => Ag.alloc _ (Nat.le_refl _)
  obtain ⟨la, ht, hla, hll⟩ := glyph_Tokens_ok (bar := h.n) (h := h.alloc (.cells [.int .i64 p, .int .i64 m, fa] 0)) fs[i].code
  rw [gTok_eq] at ht hla hll
  have hpos : ¬ ((i : Int) < 0) := by omega
  have c2' : ¬ ((fs.length : Int) ≤ (i : Int)) := c2
  have c2n : ¬ fs.length ≤ i := by omega
  simp [f_check_Func, env0, go_sem, get_alloc, n_alloc, get_set, n_set, get_kill, n_kill, writeAt, a11, a21, a31, a41, a51, a61, a71, hone, hpos, hlen, c2', c2n]
  refine S_field (f := 2) hv (hag _) hi rfl (fun v1 v2 => ?_)
  by_cases d1 : (toksN fs[i].code).2 = 0
  · have d1' : ((toksN fs[i].code).2 != 0) = false := ne_b' d1
    rw [if_neg (by simp [d1])] at hK hnil
    simp [go_sem, get_alloc, n_alloc, get_set, n_set, get_kill, n_kill, writeAt, a11, a21, a31, a41, a51, a61, a71, ht, d1']
    have hof := nest_Of_ok (pr := prim) (bar := h.n) (g := h.alloc (.cells [.int .i64 p, .int .i64 m, fa] 0)) (toksN fs[i].code).1 la hla (by omega)
    have hlla := (hla.vw h).len
    generalize (toksN fs[i].code).1 = ts at *
    cases hne : nestP ts with
    | none =>
      rw [hne] at hof hnil
      simp [go_sem, get_alloc, n_alloc, get_set, n_set, get_kill, n_kill, writeAt, a11, a21, a31, a41, a51, a61, a71, endX, resultsA, resultA, freezeL, AV.free.freeL, packA, hof, freezeV, AV.free]
      exact hnil 13 rfl
    | some to =>
      rw [hne] at hof hnil hK
      obtain ⟨ta, hof, _, _⟩ := hof
      have hgood := nestP_good fs ts hne
      have hag1 : Ag h.n h ((h.alloc (.cells [.int .i64 p, .int .i64 m, fa] 0)).alloc (.cells [.int .i64 p, .int .i64 m, fa, .int .i64 0, .nilsl, .nilsl] 0)) := (hag _).trans (Ag.alloc _ (by simp [n_alloc]))
      have hJV : JV ((h.alloc (.cells [.int .i64 p, .int .i64 m, fa] 0)).alloc (.cells [.int .i64 p, .int .i64 m, fa, .int .i64 0, .nilsl, .nilsl] 0)) h.n (h.n + 1) p m fa ⟨0, []⟩ [] := ⟨.nilsl, .nilsl, {
        cell := by simp [get_alloc, n_alloc]
        bJ := by omega
        Jn := by simp only [n_alloc]; omega
        os := OS.nil
        oo := OS.nil
        pJ := fun q => q
        oJ := fun q => q
        ap := fun j q => q.elim }⟩
      simp [go_sem, get_alloc, n_alloc, get_set, n_set, get_kill, n_kill, writeAt, a11, a21, a31, a41, a51, a61, a71, hof, evParts, fillA, splice, hone, hlla]
      refine check_func_loop fs ts la hla (by omega) h hv (Nat.le_refl _) (Nat.le_refl _) _ ts.length 0 _ ⟨0, []⟩ [] (by omega) (by simp only [n_alloc]; omega) hag1 hJV (by simpa using hgood) (by simp) (fun e g' x q1 q2 q3 q4 => ?_) (fun e g' s' out' q1 q2 q3 q4 => ?_)
      · rw [List.drop_zero] at q4
        have := hnil x (by simp only [funT, Option.isSome_some, Bool.true_eq_false, if_false]; rw [q4, if_pos q3])
        simp [go_sem, endX, resultsA, resultA, freezeL, AV.free.freeL, packA, q1, q2, freezeV, AV.free]
        exact this
      · rw [List.drop_zero] at q2
        obtain ⟨pa, oa, hv'⟩ := q3
        by_cases e1 : s'.h = -1
        · have hK' := hK
          obtain ⟨a2, f1, f2, f3⟩ := hv'.oo.freeze (still_i64 _) (by omega) 2
          simp [go_sem, endX, resultsA, resultA, freezeL, AV.free.freeL, packA, q1, isNil, hv'.cell, e1, f2, f3.free, freezeV, AV.free]
          refine hK _ ⟨a2, ?_, ?_⟩
          · simp [funT, q2, e1, packA]
          · simp [funT, q2, e1]; exact f3
        · have e1' := ne_b e1
          by_cases e2 : s'.h = 1
          · have e2' := ne_b' e2
            obtain ⟨a2, f1, f2, f3⟩ := hv'.oo.freeze (still_i64 _) (by omega) 2
            simp [go_sem, endX, resultsA, resultA, freezeL, AV.free.freeL, packA, q1, isNil, hv'.cell, e1', e2', f2, f3.free, freezeV, AV.free]
            refine hK _ ⟨a2, ?_, ?_⟩
            · simp [funT, q2, e2, packA]
            · simp [funT, q2, e2]; exact f3
          · have e2' := ne_b e2
            have := hnil 14 (by simp only [funT, Option.isSome_some, Bool.true_eq_false, if_false]; rw [q2]; simp [e1, e2])
            simp [go_sem, endX, resultsA, resultA, freezeL, AV.free.freeL, packA, q1, isNil, hv'.cell, e1', e2', freezeV, AV.free]
            exact this
  · have d1' : ((toksN fs[i].code).2 != 0) = true := ne_b d1
    rw [if_pos d1] at hnil
    simp [go_sem, get_alloc, n_alloc, get_set, n_set, get_kill, n_kill, writeAt, a11, a21, a31, a41, a51, a61, a71, endX, resultsA, resultA, freezeL, AV.free.freeL, packA, ht, d1', freezeV, AV.free]
    exact hnil _ rfl
end
end Go.Ev
namespace Go.Proofs
open Go.Shelf
def Tryz.laysPI_ren : Go.Shelf.Ren := ⟨fun | 174 => 69 | 247 => 83 | 245 => 84 | 287 => 92 | 279 => 93 | 280 => 94 | 281 => 95 | 282 => 96 | 321 => 99 | 322 => 100 | 316 => 101 | 171 => 103 | 205 => 102 | 243 => 104 | 246 => 105 | 283 => 106 | 284 => 107 | 285 => 108 | 286 => 109 | 129 => 111 | 317 => 110 | 318 => 112 | 319 => 113 | 320 => 114 | 337 => 115 | 338 => 116 | n => n, fun | 9 => 9 | 3 => 3 | 2 => 2 | 75 => 138 | 85 => 139 | 4 => 4 | 167 => 156 | 5 => 5 | 53 => 49 | 175 => 157 | 46 => 44 | 168 => 159 | 37 => 65 | 0 => 0 | 210 => 169 | 21 => 21 | 127 => 172 | 145 => 175 | 143 => 173 | 171 => 177 | 173 => 180 | 212 => 183 | 51 => 184 | 20 => 20 | 213 => 185 | 232 => 188 | 233 => 189 | 80 => 190 | n => n, fun | 15 => 1 | 16 => 2 | 17 => 3 | 18 => 4 | 19 => 5 | n => n⟩
theorem Tryz.laysPI : Go.Proofs.LaysC.n174 Tryz.prog Tryz.laysPI_ren where
  mixed := by kernel_rfl
  f129 := Tryz.func111.trans (congrArg some (by kernel_rfl))
  f171 := Tryz.func103.trans (congrArg some (by kernel_rfl))
  f174 := Tryz.func69.trans (congrArg some (by kernel_rfl))
  f205 := Tryz.func102.trans (congrArg some (by kernel_rfl))
  f243 := Tryz.func104.trans (congrArg some (by kernel_rfl))
  f245 := Tryz.func84.trans (congrArg some (by kernel_rfl))
  f246 := Tryz.func105.trans (congrArg some (by kernel_rfl))
  f247 := Tryz.func83.trans (congrArg some (by kernel_rfl))
  f279 := Tryz.func93.trans (congrArg some (by kernel_rfl))
  f280 := Tryz.func94.trans (congrArg some (by kernel_rfl))
  f281 := Tryz.func95.trans (congrArg some (by kernel_rfl))
  f282 := Tryz.func96.trans (congrArg some (by kernel_rfl))
  f283 := Tryz.func106.trans (congrArg some (by kernel_rfl))
  f284 := Tryz.func107.trans (congrArg some (by kernel_rfl))
  f285 := Tryz.func108.trans (congrArg some (by kernel_rfl))
  f286 := Tryz.func109.trans (congrArg some (by kernel_rfl))
  f287 := Tryz.func92.trans (congrArg some (by kernel_rfl))
  f316 := Tryz.func101.trans (congrArg some (by kernel_rfl))
  f317 := Tryz.func110.trans (congrArg some (by kernel_rfl))
  f318 := Tryz.func112.trans (congrArg some (by kernel_rfl))
  f319 := Tryz.func113.trans (congrArg some (by kernel_rfl))
  f320 := Tryz.func114.trans (congrArg some (by kernel_rfl))
  f321 := Tryz.func99.trans (congrArg some (by kernel_rfl))
  f322 := Tryz.func100.trans (congrArg some (by kernel_rfl))
  f337 := Tryz.func115.trans (congrArg some (by kernel_rfl))
  f338 := Tryz.func116.trans (congrArg some (by kernel_rfl))
  t0 := Tryz.underlying0
  a0 := Tryz.isAgg0
  z0 := Tryz.sizeOf0
  v0 := Tryz.zeroValue0
  t2 := Tryz.underlying2
  a2 := Tryz.isAgg2
  z2 := Tryz.sizeOf2
  v2 := Tryz.zeroValue2
  t3 := Tryz.underlying3
  a3 := Tryz.isAgg3
  z3 := Tryz.sizeOf3
  v3 := Tryz.zeroValue3
  t4 := Tryz.underlying4
  a4 := Tryz.isAgg4
  z4 := Tryz.sizeOf4
  v4 := Tryz.zeroValue4
  t5 := Tryz.underlying5
  a5 := Tryz.isAgg5
  z5 := Tryz.sizeOf5
  v5 := Tryz.zeroValue5
  t9 := Tryz.underlying9
  a9 := Tryz.isAgg9
  z9 := Tryz.sizeOf9
  v9 := Tryz.zeroValue9
  t20 := Tryz.underlying20
  a20 := Tryz.isAgg20
  z20 := Tryz.sizeOf20
  v20 := Tryz.zeroValue20
  t21 := Tryz.underlying21
  a21 := Tryz.isAgg21
  z21 := Tryz.sizeOf21
  v21 := Tryz.zeroValue21
  t37 := Tryz.underlying65
  a37 := Tryz.isAgg65
  z37 := Tryz.sizeOf65
  v37 := Tryz.zeroValue65
  t46 := Tryz.underlying44
  a46 := Tryz.isAgg44
  z46 := Tryz.sizeOf44
  v46 := Tryz.zeroValue44
  t51 := Tryz.underlying184
  a51 := Tryz.isAgg184
  z51 := Tryz.sizeOf184
  v51 := Tryz.zeroValue184
  t53 := Tryz.underlying49
  a53 := Tryz.isAgg49
  z53 := Tryz.sizeOf49
  v53 := Tryz.zeroValue49
  t75 := Tryz.underlying138
  a75 := Tryz.isAgg138
  z75 := Tryz.sizeOf138
  v75 := Tryz.zeroValue138
  t85 := Tryz.underlying139
  a85 := Tryz.isAgg139
  z85 := Tryz.sizeOf139
  v85 := Tryz.zeroValue139
  t127 := Tryz.underlying172
  a127 := Tryz.isAgg172
  z127 := Tryz.sizeOf172
  v127 := Tryz.zeroValue172
  t143 := Tryz.underlying173
  a143 := Tryz.isAgg173
  z143 := Tryz.sizeOf173
  v143 := Tryz.zeroValue173
  t145 := Tryz.underlying175
  a145 := Tryz.isAgg175
  z145 := Tryz.sizeOf175
  v145 := Tryz.zeroValue175
  t167 := Tryz.underlying156
  a167 := Tryz.isAgg156
  z167 := Tryz.sizeOf156
  v167 := Tryz.zeroValue156
  t168 := Tryz.underlying159
  a168 := Tryz.isAgg159
  z168 := Tryz.sizeOf159
  v168 := Tryz.zeroValue159
  t171 := Tryz.underlying177
  a171 := Tryz.isAgg177
  z171 := Tryz.sizeOf177
  v171 := Tryz.zeroValue177
  t173 := Tryz.underlying180
  a173 := Tryz.isAgg180
  z173 := Tryz.sizeOf180
  v173 := Tryz.zeroValue180
  t175 := Tryz.underlying157
  a175 := Tryz.isAgg157
  z175 := Tryz.sizeOf157
  v175 := Tryz.zeroValue157
  t210 := Tryz.underlying169
  a210 := Tryz.isAgg169
  z210 := Tryz.sizeOf169
  v210 := Tryz.zeroValue169
  t212 := Tryz.underlying183
  a212 := Tryz.isAgg183
  z212 := Tryz.sizeOf183
  v212 := Tryz.zeroValue183
  t213 := Tryz.underlying185
  a213 := Tryz.isAgg185
  z213 := Tryz.sizeOf185
  t232 := Tryz.underlying188
  a232 := Tryz.isAgg188
  z232 := Tryz.sizeOf188
  v232 := Tryz.zeroValue188
  t233 := Tryz.underlying189
  a233 := Tryz.isAgg189
  z233 := Tryz.sizeOf189
  v233 := Tryz.zeroValue189
  g15 := by kernel_rfl
  g16 := by kernel_rfl
  g17 := by kernel_rfl
  g18 := by kernel_rfl
  g19 := by kernel_rfl
  t80 := Tryz.underlying190
  a80 := Tryz.isAgg190
  z80 := Tryz.sizeOf190
  v80 := Tryz.zeroValue190
  i0 := by kernel_rfl
  i2 := by kernel_rfl
  i3 := by kernel_rfl
  i4 := by kernel_rfl
  i5 := by kernel_rfl
  i9 := by kernel_rfl
  i20 := by kernel_rfl
  i21 := by kernel_rfl
  i37 := by kernel_rfl
  i46 := by kernel_rfl
  i51 := by kernel_rfl
  i53 := by kernel_rfl
  i75 := by kernel_rfl
  i80 := by kernel_rfl
  i85 := by kernel_rfl
  i127 := by kernel_rfl
  i143 := by kernel_rfl
  i145 := by kernel_rfl
  i167 := by kernel_rfl
  i168 := by kernel_rfl
  i171 := by kernel_rfl
  i173 := by kernel_rfl
  i175 := by kernel_rfl
  i210 := by kernel_rfl
  i212 := by kernel_rfl
  i232 := by kernel_rfl
  i233 := by kernel_rfl
  m15 := by kernel_rfl
  m16 := by kernel_rfl
  m17 := by kernel_rfl
  m18 := by kernel_rfl
  m19 := by kernel_rfl
  c0 := by kernel_rfl
  c2 := by kernel_rfl
  c3 := by kernel_rfl
  c4 := by kernel_rfl
  c5 := by kernel_rfl
  c9 := by kernel_rfl
  c20 := by kernel_rfl
  c21 := by kernel_rfl
  c37 := by kernel_rfl
  c46 := by kernel_rfl
  c51 := by kernel_rfl
  c53 := by kernel_rfl
  c75 := by kernel_rfl
  c80 := by kernel_rfl
  c85 := by kernel_rfl
  c127 := by kernel_rfl
  c143 := by kernel_rfl
  c145 := by kernel_rfl
  c167 := by kernel_rfl
  c168 := by kernel_rfl
  c171 := by kernel_rfl
  c173 := by kernel_rfl
  c175 := by kernel_rfl
  c210 := by kernel_rfl
  c212 := by kernel_rfl
  c213 := by kernel_rfl
  c232 := by kernel_rfl
  c233 := by kernel_rfl
def Tryz.laysIB_ren : Go.Shelf.Ren := ⟨fun | 137 => 72 | 217 => 90 | 266 => 98 | n => n, fun | 9 => 9 | 5 => 5 | 3 => 3 | n => n, fun | n => n⟩
theorem Tryz.laysIB : Go.Proofs.Lays.n137 Tryz.prog Tryz.laysIB_ren where
  mixed := by kernel_rfl
  f137 := Tryz.func72.trans (congrArg some (by kernel_rfl))
  f217 := Tryz.func90.trans (congrArg some (by kernel_rfl))
  f266 := Tryz.func98.trans (congrArg some (by kernel_rfl))
  t3 := Tryz.underlying3
  a3 := Tryz.isAgg3
  z3 := Tryz.sizeOf3
  v3 := Tryz.zeroValue3
  t5 := Tryz.underlying5
  a5 := Tryz.isAgg5
  z5 := Tryz.sizeOf5
  v5 := Tryz.zeroValue5
  t9 := Tryz.underlying9
  a9 := Tryz.isAgg9
  z9 := Tryz.sizeOf9
  v9 := Tryz.zeroValue9
end Go.Proofs
namespace Go.Ev
open Go Go.Proofs
theorem below_ok {φ : Phi} {I : Imm} {h : H} {w w' : World} {bar : Nat} (hb : Go.RowKit.Below w.heap.size w w') (hR : R φ I h w) : R φ I h w' ∧ Stp bar φ I h w φ I h w' := by
  have hcell : ∀ b j v, w.cell? ⟨b, j, none⟩ = some v → w'.cell? ⟨b, j, none⟩ = some v := fun b j v hc => by
    have hlt : b < w.heap.size := Lib.lt_of_cell hc
    rw [hb.cell (p := ⟨b, j, none⟩) hlt]; exact hc
  refine ⟨⟨hR.wf, hR.dom, fun i x hx => ?_, hR.inj, fun b j v hv => hcell b j v (hR.imm b j v hv)⟩, ⟨.refl _, .refl _, hb.size, fun b hlt _ => hb.block b hlt, fun i x hb hl hp => .inr ⟨i, x, hb, hl, hp, rfl⟩, fun _ _ => rfl, Nat.le_refl _, hb.os, hb.output, fun _ _ _ hv => .inl hv⟩⟩
  refine (hR.obj i x hx).keep (.refl _) (.refl _) (fun b s t hp => ?_) (fun _ _ _ _ _ _ hv => hv)
  obtain ⟨b', s', t', hp', hlt⟩ := (hR.obj i x hx).block
  rw [hp'] at hp
  injection hp with hp
  injection hp with hp _
  subst hp
  exact hb.block _ hlt
theorem err_cell {I : Imm} {φ : Phi} {h : H} {w : World} {g : Nat} (hG : GR Gl I) (hR : R φ I h w) (hg : Gl g = some [.ifc t_Perrors_errorString (.fptr [] 0)]) : ∃ te pe, w.cell? ⟨g, 0, none⟩ = some (.iface te pe) := by
  have h1 := hG g _ hg
  generalize hp : (Value.pointer (some ⟨g, 0, none⟩)) = pv at h1
  cases h1 with
  | fptr cs off b o vs a1 a2 a3 =>
    have h2 := a1 0 _ rfl
    have h3 := a2 0 _ rfl
    simp only [Value.pointer.injEq, Option.some.injEq, Addr.mk.injEq] at hp
    obtain ⟨e1, e2, _⟩ := hp
    have e3 : o = 0 := by omega
    subst e1; subst e3
    have h4 := hR.imm _ _ _ h2
    generalize hv : vs 0 = v at h3 h4
    cases h3 with
    | ifc t c v h5 => exact ⟨_, _, h4⟩
theorem prim_sound : Sound Tryz.prog Gl prim := by
  intro f args bar h r h' hr
  unfold prim at hr
  split at hr
  · rename_i hf
    split at hr
    · rename_i s b z
      split at hr
      · rename_i hc
        obtain ⟨rfl, rfl, hsz⟩ := hc
        injection hr with hr
        injection hr with hr1 hr2
        subst hr1; subst hr2; subst hf
        refine ⟨⟨_, Tryz.func69, by kernel_rfl, of_decide_eq_true (by kernel_rfl)⟩, fun φ I w vs hR hG hv hbar => ?_⟩
        have hvs : vs = [.string s, .int .i64 10, .int .i64 64] := by
          have hl := hv.1
          match vs, hl, hv.2 with
          | [v1, v2, v3], _, hv =>
            have a1 := hv 0 _ _ rfl rfl
            have a2 := hv 1 _ _ rfl rfl
            have a3 := hv 2 _ _ rfl rfl
            cases a1; cases a2; cases a3; rfl
        subst hvs
        have hgo : ∀ {w' : World} {v : Value}, Go.RowKit.Below w.heap.size w w' → VR φ I (prInt s) v → ∃ v' φ' I', Ending.returned v = .returned v' ∧ R φ' I' h w' ∧ VR φ' I' (prInt s) v' ∧ Stp bar φ I h w φ' I' h w' := fun hb hvr => by
          obtain ⟨q1, q2⟩ := below_ok (bar := bar) hb hR
          exact ⟨_, φ, I, rfl, q1, hvr, q2⟩
        cases hp : Lib.parseIntB 64 s.data.toList
        · rename_i v
          refine (Any.strconv_ParseInt_10_at64_ok Tryz.laysPI s (by omega) v hp w).mono fun e w' he => ?_
          obtain ⟨rfl, hW⟩ := he
          have hb : Go.RowKit.Below w.heap.size w w' := by
            rcases hW with rfl | ⟨t, rfl⟩
            · exact Go.RowKit.Below.refl _ _
            · exact Lib.bytesWorld_below _ _ _
          refine hgo hb ?_
          unfold prInt; rw [hp]
          refine .tup _ _ rfl fun i c v h1 h2 => ?_
          match i with
          | 0 => simp at h1 h2; subst h1; subst h2; exact .int _ _
          | 1 => simp at h1 h2; subst h1; subst h2; exact .nilifc
          | n + 2 => simp at h1
        · obtain ⟨te, pe, hcell⟩ := err_cell (g := 1) hG hR rfl
          refine (Any.strconv_ParseInt_10_at64_syntax Tryz.laysPI s hsz hp _ w hcell (.inr ⟨te, pe, rfl⟩)).mono fun e w' he => ?_
          obtain ⟨N, rfl, _, _, hb⟩ := he
          refine hgo hb ?_
          unfold prInt; rw [hp]
          refine .tup _ _ rfl fun i c v h1 h2 => ?_
          match i with
          | 0 => simp at h1 h2; subst h1; subst h2; exact .int _ _
          | 1 =>
            simp at h1 h2; subst h1; subst h2
            exact .ifc _ _ _ (.fptr [] 0 N 0 (fun _ => default) (fun i c h => by simp at h) (fun i c h => by simp at h) (fun i c h => by simp at h))
          | n + 2 => simp at h1
        · obtain ⟨te, pe, hcell⟩ := err_cell (g := 2) hG hR rfl
          refine (Any.strconv_ParseInt_10_at64_range Tryz.laysPI s hsz hp _ w hcell (.inr ⟨te, pe, rfl⟩)).mono fun e w' he => ?_
          obtain ⟨N, rfl, _, _, hb⟩ := he
          refine hgo hb ?_
          unfold prInt; rw [hp]
          refine .tup _ _ rfl fun i c v h1 h2 => ?_
          match i with
          | 0 => simp at h1 h2; subst h1; subst h2; exact .int _ _
          | 1 =>
            simp at h1 h2; subst h1; subst h2
            exact .ifc _ _ _ (.fptr [] 0 N 0 (fun _ => default) (fun i c h => by simp at h) (fun i c h => by simp at h) (fun i c h => by simp at h))
          | n + 2 => simp at h1
      · cases hr
    · cases hr
  · split at hr
    · rename_i hf
      split at hr
      · rename_i s b
        injection hr with hr
        injection hr with hr1 hr2
        subst hr1; subst hr2; subst hf
        refine ⟨⟨_, Tryz.func72, by kernel_rfl, of_decide_eq_true (by kernel_rfl)⟩, fun φ I w vs hR hG hv hbar => ?_⟩
        have hvs : vs = [.string s, .int .u8 b] := by
          have hl := hv.1
          match vs, hl, hv.2 with
          | [v1, v2], _, hv =>
            have a1 := hv 0 _ _ rfl rfl
            have a2 := hv 1 _ _ rfl rfl
            cases a1; cases a2; rfl
        subst hvs
        refine (Any.strings_IndexByte Tryz.laysIB s b w).mono fun e w' he => ?_
        obtain ⟨rfl, rfl⟩ := he
        obtain ⟨q1, q2⟩ := below_ok (bar := bar) (Go.RowKit.Below.refl _ _) hR
        exact ⟨_, φ, I, rfl, q1, .int _ _, q2⟩
      · cases hr
    · cases hr
theorem tab_ok : TabOk Tryz.prog Gl pu tb prim where
  mixed := by kernel_rfl
  funs := fun f F hf => by
    unfold tb at hf
    cases hx : tbl.find? (fun x => x.1 == f) with
    | none => rw [hx] at hf; cases hf
    | some x =>
      rw [hx] at hf
      injection hf with hf
      subst hf
      have h1 := List.find?_some hx
      have h2 := List.mem_of_find?_eq_some hx
      simp at h1
      subst h1
      exact ok_all x h2
  prims := prim_sound
  pureF := fun f F hp hf => by unfold pu at hp; rw [hf] at hp; exact hp
  pureP := fun f args bar h r h' _ hr => by
    unfold prim at hr
    split at hr
    · split at hr
      · split at hr
        · injection hr with hr; injection hr with _ hr; exact hr.symm
        · cases hr
      · cases hr
    · split at hr
      · split at hr
        · injection hr with hr; injection hr with _ hr; exact hr.symm
        · cases hr
      · cases hr
end Go.Ev
namespace Go.Ev
open Go Go.ChangeShapes Go.WideShapes Go.RowKit Go.Proofs
theorem laid_mem {P : Program} {W : World} : ∀ {laid : List (String × DataW Unit)} {ps : List MemPlace}, DataW.LaidVars P W laid ps → ∀ x ∈ laid, ∃ g t cs fuel p, P.globalNamed x.1 = some g ∧ (P.globals[g]?).map (·.type) = some t ∧ W.var? P x.1 = some cs ∧ DataW.trod (fun _ => ()) P W 0 (fun _ => true) false fuel t cs.toList = some (x.2, p) ∧ ∀ q ∈ MemPlace.row ⟨g, 0, none⟩ cs.size, q ∈ ps
  | [], _, _, x, hx => by cases hx
  | (n, d) :: r, ps, h, x, hx => by
    obtain ⟨g, t, cs, fuel, p, q, h1, h2, h3, h4, h5, rfl⟩ := h
    rcases List.mem_cons.1 hx with rfl | hx
    · exact ⟨g, t, cs, fuel, p, h1, h2, h3, h4, fun q hq => List.mem_append_left _ (List.mem_append_left _ hq)⟩
    · obtain ⟨g', t', cs', f', p', a1, a2, a3, a4, a5⟩ := laid_mem h5 x hx
      exact ⟨g', t', cs', f', p', a1, a2, a3, a4, fun z hz => List.mem_append_right _ (a5 z hz)⟩
theorem star_name : "*" ++ "errors.errorString" = "*errors.errorString" := by decide
theorem row173 (u : TypeId) (h : Tryz.prog.typeName? 3 u = some "*errors.errorString") : u = 173 :=
  typeName_ptr_named (nm := "errors.errorString") (by rw [star_name]; kernel_rfl) (by kernel_rfl) (by decide) u (by rw [star_name]; exact h)
theorem cells175 : Tryz.prog.cellsOf 175 = 1 := by kernel_rfl
theorem cells9 : Tryz.prog.cellsOf 9 = 1 := by kernel_rfl
set_option maxRecDepth 100000 in
theorem err_laid {W : World} {laid : List (String × DataW Unit)} (h : laidMet Tryz.prog laid W) {n : String} {g : Nat} {text : List UInt8} (hx : (n, DataW.iface "*errors.errorString" (.ptr (.agg [.lit (.string text)]))) ∈ laid) (hg : Tryz.prog.globalNamed n = some g) (ht : (Tryz.prog.globals[g]?).map (·.type) = some 138) :
    ∃ a : Addr, W.cell? ⟨g, 0, none⟩ = some (.iface 173 (.pointer (some ⟨a.block, a.off, none⟩))) := by
  obtain ⟨ps, hl, hnd, hrows⟩ := h
  obtain ⟨g', t, cs, fuel, p, a1, a2, a3, a4, a5⟩ := laid_mem hl _ hx
  obtain rfl := Option.some.inj (hg.symm.trans a1)
  obtain rfl := Option.some.inj (ht.symm.trans a2)
  obtain ⟨l⟩ := cs
  have hcell := fun i => World.var?_cell hg a3 i
  have ok : ∀ u v, l = [.iface u v] → Value.okWide Tryz.prog W .any 0 u v := fun u v e => by
    subst e
    exact (hrows g 0 (a5 _ (by simp [MemPlace.row]))).2 u v (by simpa using hcell 0)
  obtain ⟨a, s, rfl, hc, _, _, _⟩ := errorString_of_trod (ti := 138) (tp := 173) (te := 175) (ts := 9) Tryz.underlying138 row173 Tryz.underlying173 Tryz.underlying175 rfl rfl Tryz.underlying9 cells175 cells9 a4 ok
  have := hcell 0
  have ha : a = ⟨a.block, a.off, none⟩ := cell_spot hc
  refine ⟨a, ?_⟩
  rw [← ha]
  simpa using this
theorem gr_of {W : World} {laid : List (String × DataW Unit)} (hL : laidMetH Tryz.prog laid W) (hp : (laid.all fun x => x.2.handleName?.isNone) = true)
    (h1 : ∃ text, ("strconv.ErrRange", DataW.iface "*errors.errorString" (.ptr (.agg [.lit (.string text)]))) ∈ laid) (h0 : ∃ text, ("strconv.ErrSyntax", DataW.iface "*errors.errorString" (.ptr (.agg [.lit (.string text)]))) ∈ laid) : GR Gl (allOf W) := by
  rw [MakeChecks.laidMetH_plain _ _ _ hp] at hL
  obtain ⟨t1, h1⟩ := h1
  obtain ⟨t0, h0⟩ := h0
  obtain ⟨a1, c1⟩ := err_laid hL h1 (g := 2) (by kernel_rfl) (by kernel_rfl)
  obtain ⟨a0, c0⟩ := err_laid hL h0 (g := 1) (by kernel_rfl) (by kernel_rfl)
  have hgo : ∀ (g : Nat) (a : Addr), W.cell? ⟨g, 0, none⟩ = some (.iface 173 (.pointer (some ⟨a.block, a.off, none⟩))) → VR (fun _ => none) (allOf W) (.fptr [.ifc t_Perrors_errorString (.fptr [] 0)] 0) (.pointer (some ⟨g, 0, none⟩)) := fun g a hc => by
    refine .fptr _ 0 g 0 (fun _ => .iface 173 (.pointer (some ⟨a.block, a.off, none⟩))) (fun i c hi => ?_) (fun i c hi => ?_) (fun i c hi => ?_)
    · cases i with
      | zero => exact hc
      | succ i => simp at hi
    · cases i with
      | zero =>
        simp at hi; subst hi
        refine .ifc _ _ _ ?_
        have := VR.fptr (φ := fun _ => none) (I := allOf W) [] 0 a.block a.off (fun _ => default) (fun i c h => by simp at h) (fun i c h => by simp at h) (fun i c h => by simp at h)
        simpa using this
      | succ i => simp at hi
    · cases i with
      | zero => simp at hi; subst hi; exact ⟨rfl, rfl⟩
      | succ i => simp at hi
  intro g cs hg
  unfold Gl at hg
  split at hg
  · rename_i hc
    injection hg with hg; subst hg
    simp at hc
    rcases hc with rfl | rfl
    · exact hgo _ _ c1
    · exact hgo _ _ c0
  · cases hg
end Go.Ev
namespace Go.Ev
open Go
def wI (x : Int) : Int := IntKind.i64.wrap x
def andI (a b : Int) : Int := wI ((BitVec.ofInt 64 a &&& BitVec.ofInt 64 b).toNat : Nat)
def orI (a b : Int) : Int := wI ((BitVec.ofInt 64 a ||| BitVec.ofInt 64 b).toNat : Nat)
def xorI (a b : Int) : Int := wI ((BitVec.ofInt 64 a ^^^ BitVec.ofInt 64 b).toNat : Nat)
def bitI (p : Bool) : Int := if p then 1 else 0
def partedN (sg a b : Int) : Int × Int :=
  if b = 0 then (0, 3) else
  if sg = 37 ∧ b = -1 then (0, 0) else
  if sg = 37 then (a.tmod b, 0) else
  if a = -9223372036854775808 ∧ b = -1 then (0, 4) else (wI (a.tdiv b), 0)
/-- What a sign makes of two numbers; how that ended. -/
def doN (sg a b : Int) : Int × Int :=
  if sg = 43 then (wI (a + b), 0) else
  if sg = 45 then (wI (a - b), 0) else
  if sg = 42 then (wI (a * b), 0) else
  if sg = 47 ∨ sg = 37 then partedN sg a b else
  if sg = 38 then (andI a b, 0) else
  if sg = 124 then (orI a b, 0) else
  if sg = 94 then (xorI a b, 0) else
  if sg = 60 then (bitI (decide (a < b)), 0) else
  if sg = 61 then (bitI (a == b), 0) else
  if sg = 33 then (bitI (a == 0), 0) else
  if sg = 171 then (wI (a * 2 ^ (b % 64).toNat), 0) else
  if sg = 187 then (a.fdiv (2 ^ (b % 64).toNat), 0) else (0, 2)
/-- Memory. -/
structure Mem where
  b : List Int
  most : Int
  dirty : List Bool
def wideN (wide : Bool) : Int := if wide then 8 else 1
def withinM (m : Mem) (at' : Int) (wide : Bool) : Bool := decide (0 ≤ at') && decide (at' ≤ (m.b.length : Int) - wideN wide)
def leN : List Int → Int
  | [] => 0
  | x :: r => x + 256 * leN r
def leB : Nat → Int → List Int
  | 0, _ => []
  | k + 1, n => n % 256 :: leB k (n / 256)
def loadM (m : Mem) (at' : Int) (wide : Bool) : Int × Bool :=
  if withinM m at' wide then (wI (leN ((m.b.drop at'.toNat).take (wideN wide).toNat)), true) else (0, false)
def markD (d : List Bool) (at' : Nat) : Nat → List Bool
  | 0 => d
  | k + 1 => markD (d.set (at' / 64) true) (at' + 1) k
def putB (b : List Int) (at' : Nat) (l : List Int) : List Int := b.take at' ++ l ++ b.drop (at' + l.length)
def storeM (m : Mem) (at' n : Int) (wide : Bool) : Mem × Bool :=
  if withinM m at' wide then (⟨putB m.b at'.toNat (leB (wideN wide).toNat n), m.most, markD m.dirty at'.toNat (wideN wide).toNat⟩, true) else (m, false)
def growM (m : Mem) (n : Int) : Mem × Int :=
  if n < 0 ∨ n > m.most - m.dirty.length then (m, -1) else
  (⟨m.b ++ List.replicate (n.toNat * 64) 0, m.most, m.dirty ++ List.replicate n.toNat true⟩, m.dirty.length)
/-- Answers: those to come, and what was asked. -/
structure Row where
  l : List (Int × Bool)
  asks : List (Int × Int)
def askR (r : Row) (nm n : Int) : Row × Int × Bool := match r.l with
  | [] => (⟨[], r.asks ++ [(nm, n)]⟩, 0, true)
  | x :: l => (⟨l, r.asks ++ [(nm, n)]⟩, x.1, x.2)
/-- A code as it runs, a call that runs (values: the top one first), the machine (calls: the top one first). -/
structure Code' where
  l : List Tok
  to : List Int
  args : Int
structure Fm where
  c : Code'
  at' : Nat
  loc : List Int
  st : List Int
structure Mc where
  fr : List Fm
  m : Mem
  r : Row
  trap : Int
def trapIf (ok : Bool) (t : Int) (s : Int) : Int := if ok then s else t
/-- What memory's signs do: values behind, memory, trap. -/
def memS (sg : Int) (st : List Int) (m : Mem) (tr : Int) : Option (List Int × Mem × Int) :=
  if sg = 64 ∨ sg = 169 then (match st with | [] => none | a :: st => some ((loadM m a (sg == 64)).1 :: st, m, trapIf (loadM m a (sg == 64)).2 5 tr)) else
  if sg = 36 ∨ sg = 174 then (match st with | n :: a :: st => some (st, (storeM m a n (sg == 36)).1, trapIf (storeM m a n (sg == 36)).2 5 tr) | _ => none) else
  if sg = 35 then some ((m.dirty.length : Int) :: st, m, tr) else
  (match st with | [] => none | a :: st => some ((growM m a).2 :: st, (growM m a).1, tr))
/-- What stays by itself: values behind, answers, trap. -/
def plainF (t : Tok) (st : List Int) (r : Row) (tr : Int) : Option (List Int × Row × Int) :=
  if t.sign = 46 then (match st with | [] => none | a :: st => some (a :: a :: st, r, tr)) else
  if t.sign = 44 then (match st with | [] => none | _ :: st => some (st, r, tr)) else
  if t.sign = 59 ∨ t.sign = 91 then some (st, r, tr) else
  if t.sign = 161 then some (st, r, 2) else
  if t.sign = 960 then (match st with | [] => none | a :: st => some ((askR r t.name a).2.1 :: st, (askR r t.name a).1, trapIf (askR r t.name a).2.2 7 tr)) else
  if t.sign = 33 then (match st with | [] => none | a :: st => some ((doN t.sign a 0).1 :: st, r, trapIf ((doN t.sign a 0).2 == 0) (doN t.sign a 0).2 tr)) else
  (match st with | b :: a :: st => some ((doN t.sign a b).1 :: st, r, trapIf ((doN t.sign a b).2 == 0) (doN t.sign a b).2 tr) | _ => none)
def isMemS (sg : Int) : Bool := decide (sg = 64 ∨ sg = 169 ∨ sg = 36 ∨ sg = 174 ∨ sg = 35 ∨ sg = 164)
def isGo (sg : Int) : Bool := decide (sg = 63 ∨ sg = 58 ∨ sg = 93 ∨ sg = 126)
/-- The first k values on top, the lowest one first. -/
def argsOf (k : Nat) (st : List Int) : List Int := (st.take k).reverse
def newF (c : Code') (args : List Int) : Fm := ⟨c, 0, args.take 26 ++ List.replicate (26 - args.length) 0, []⟩
/-- The next token. -/
def stepM (fs : List Fn) (cs : List Code') (s : Mc) : Option Mc := match s.fr with
  | [] => none
  | f :: r => match f.c.l[f.at']? with
    | none => none
    | some t =>
      if t.sign = 48 then some { s with fr := { f with at' := f.at' + 1, st := t.n :: f.st } :: r } else
      if 97 ≤ t.sign ∧ t.sign ≤ 122 then (match f.loc[(t.sign - 97).toNat]? with | none => none | some v => some { s with fr := { f with at' := f.at' + 1, st := v :: f.st } :: r }) else
      if 65 ≤ t.sign ∧ t.sign ≤ 90 then (match f.st with | [] => none | v :: st => some { s with fr := { f with at' := f.at' + 1, st := st, loc := f.loc.set (t.sign - 65).toNat v } :: r }) else
      if t.sign = 955 then
        (match cs[(findN t.name fs 0).toNat]? with
        | none => none
        | some c =>
          if findN t.name fs 0 < 0 ∨ c.args < 0 ∨ (f.st.length : Int) < c.args then none else
          if 32 ≤ s.fr.length then some { s with fr := { f with at' := f.at' + 1, st := f.st.drop c.args.toNat } :: r, trap := 6 } else
          some { s with fr := newF c (argsOf c.args.toNat f.st) :: { f with at' := f.at' + 1, st := f.st.drop c.args.toNat } :: r }) else
      if isGo t.sign then
        (if t.sign = 63 then (match f.st with
          | [] => none
          | v :: st => if v ≠ 0 then some { s with fr := { f with at' := f.at' + 1, st := st } :: r } else (match f.c.to[f.at']? with | none => none | some j => if j < 0 then none else some { s with fr := { f with at' := j.toNat, st := st } :: r }))
        else (match f.c.to[f.at']? with | none => none | some j => if j < 0 then none else some { s with fr := { f with at' := j.toNat } :: r })) else
      if isMemS t.sign then (match memS t.sign f.st s.m s.trap with | none => none | some (st, m, tr) => some { s with fr := { f with at' := f.at' + 1, st := st } :: r, m := m, trap := tr }) else
      (match plainF t f.st s.r s.trap with | none => none | some (st, ro, tr) => some { s with fr := { f with at' := f.at' + 1, st := st } :: r, r := ro, trap := tr })
/-- Calls at their end give their value: calls left, the last one's value. -/
def endsM : Fm → List Fm → Option (List Fm × Option Int)
  | f, r => if f.at' < f.c.l.length then some (f :: r, none) else match f.st with
    | [] => none
    | v :: _ => match r with
      | [] => some ([], some v)
      | g :: r => endsM { g with st := v :: g.st } r
/-- All of it: the machine, its value, the fuel that is left. -/
def runM (fs : List Fn) (cs : List Code') : Nat → Mc → Option (Mc × Int × Nat)
  | n, s => if s.trap ≠ 0 then some (s, 0, n) else match s.fr with
    | [] => none
    | f :: r => match endsM f r with
      | none => none
      | some (fr, some v) => some ({ s with fr := fr }, v, n)
      | some (fr, none) => match n with
        | 0 => some ({ s with fr := fr, trap := 1 }, 0, 0)
        | n + 1 => match stepM fs cs { s with fr := fr } with
          | none => none
          | some s' => runM fs cs n s'
end Go.Ev
namespace Go.Ev
open Go
theorem wI_eq {x : Int} (h1 : -9223372036854775808 ≤ x) (h2 : x ≤ 9223372036854775807) : wI x = x := by
  unfold wI; rw [IntKind.wrap_i64]; omega
/-- One frame. -/
def M1 (c : Code') (m : Mem) (r : Row) (i : Nat) (loc st : List Int) : Mc := ⟨[⟨c, i, loc, st⟩], m, r, 0⟩
def tk (x : Int) : Tok := ⟨x, 0, 0⟩
def nu (n : Int) : Tok := ⟨48, n, 0⟩
/-- From one state to another in so many steps, in at most so many steps. -/
def Rn (fs : List Fn) (cs : List Code') (k : Nat) (s s' : Mc) : Prop := ∀ n, runM fs cs (n + k) s = runM fs cs n s'
def Rb (fs : List Fn) (cs : List Code') (B : Nat) (s s' : Mc) : Prop := ∃ k, k ≤ B ∧ Rn fs cs k s s'
section
variable {fs : List Fn} {cs : List Code'} {k l B C : Nat} {s t u : Mc}
theorem Rn.rb (h : Rn fs cs k s t) : Rb fs cs k s t := ⟨k, Nat.le_refl _, h⟩
theorem Rb.refl : Rb fs cs 0 s s := ⟨0, Nat.le_refl _, fun _ => rfl⟩
theorem Rn.trans (h : Rn fs cs k s t) (g : Rn fs cs l t u) : Rn fs cs (k + l) s u := fun n => by
  rw [show n + (k + l) = n + l + k by omega, h, g]
theorem Rb.trans (h : Rb fs cs B s t) (g : Rb fs cs C t u) : Rb fs cs (B + C) s u := by
  obtain ⟨k, hk, h⟩ := h
  obtain ⟨l, hl, g⟩ := g
  exact ⟨k + l, by omega, h.trans g⟩
theorem Rb.le (h : Rb fs cs B s t) (hB : B ≤ C) : Rb fs cs C s t := by
  obtain ⟨k, hk, h⟩ := h
  exact ⟨k, by omega, h⟩
/-- It ends with a value. -/
def Ends (fs : List Fn) (cs : List Code') (N : Nat) (s : Mc) (v : Int) (m : Mem) (r : Row) : Prop := ∃ n, runM fs cs N s = some (⟨[], m, r, 0⟩, v, n)
theorem run_end {n : Nat} {c : Code'} {m : Mem} {r : Row} {i : Nat} {loc st : List Int} {v : Int} (hi : c.l.length ≤ i) : runM fs cs n (M1 c m r i loc (v :: st)) = some (⟨[], m, r, 0⟩, v, n) := by
  have : ¬ i < c.l.length := by omega
  unfold runM M1 endsM
  simp [this]
theorem Rb.ends {N : Nat} {c : Code'} {m : Mem} {r : Row} {i : Nat} {loc st : List Int} {v : Int} (h : Rb fs cs B s (M1 c m r i loc (v :: st))) (hN : B ≤ N) (hi : c.l.length ≤ i) : Ends fs cs N s v m r := by
  obtain ⟨k, hk, h⟩ := h
  have := h (N - k)
  rw [show N - k + k = N by omega, run_end hi] at this
  exact ⟨_, this⟩
end
theorem run_step {fs : List Fn} {cs : List Code'} {n : Nat} {c : Code'} {m : Mem} {r : Row} {i : Nat} {loc st : List Int} {s' : Mc} (hi : i < c.l.length) (h : stepM fs cs (M1 c m r i loc st) = some s') : runM fs cs (n + 1) (M1 c m r i loc st) = runM fs cs n s' := by
  rw [runM]
  simp only [M1, ne_eq, not_true_eq_false, if_false]
  rw [endsM, if_pos hi]
  simp only
  unfold M1 at h
  rw [h]
def lc (a b c d e f g h : Int) : List Int := [a, b, c, d, e, f, g, h] ++ List.replicate 18 0
/-- Numbers modulo 2 ^ 64. -/
theorem wI_rng (x : Int) : -9223372036854775808 ≤ wI x ∧ wI x ≤ 9223372036854775807 := by
  unfold wI; rw [IntKind.wrap_i64]; omega
theorem wI_mod (x : Int) : ∃ q, wI x = x + 18446744073709551616 * q := by
  unfold wI; rw [IntKind.wrap_i64]; exact ⟨-((x + 9223372036854775808) / 18446744073709551616), by omega⟩
theorem wI_cong {x y : Int} (q : Int) (h : x = y + 18446744073709551616 * q) : wI x = wI y := by
  unfold wI; rw [IntKind.wrap_i64, IntKind.wrap_i64]; omega
theorem wI_add (x y : Int) : wI (wI x + y) = wI (x + y) := by
  obtain ⟨q, e⟩ := wI_mod x
  exact wI_cong q (by rw [e]; omega)
theorem wI_add' (x y : Int) : wI (x + wI y) = wI (x + y) := by rw [Int.add_comm, wI_add, Int.add_comm]
theorem wI_mul (x y : Int) : wI (wI x * y) = wI (x * y) := by
  obtain ⟨q, e⟩ := wI_mod x
  exact wI_cong (q * y) (by rw [e, Int.add_mul, Int.mul_assoc])
theorem wI_mul' (x y : Int) : wI (x * wI y) = wI (x * y) := by rw [Int.mul_comm, wI_mul, Int.mul_comm]
theorem wI_wI (x : Int) : wI (wI x) = wI x := by have := wI_rng x; exact wI_eq this.1 this.2
/-- And with a mask of ones. -/
theorem andI_mask (a : Int) (k : Nat) (hk : k ≤ 62) : andI a (2 ^ k - 1) = a % 2 ^ k := by
  have hp : (2 : Nat) ^ k ≤ 2 ^ 62 := Nat.pow_le_pow_right (by omega) hk
  have h1 : 1 ≤ (2 : Nat) ^ k := Nat.one_le_two_pow
  have hc : ((2 : Int) ^ k - 1) = ((2 ^ k - 1 : Nat) : Int) := by
    rw [Int.natCast_sub h1]; norm_cast
  unfold andI
  rw [BitVec.toNat_and, hc, BitVec.toNat_ofInt, BitVec.toNat_ofInt]
  have e2 : (((2 ^ k - 1 : Nat) : Int) % ((2 ^ 64 : Nat) : Int)).toNat = 2 ^ k - 1 := by
    rw [← Int.natCast_emod, Int.toNat_natCast, Nat.mod_eq_of_lt]
    have : (2 : Nat) ^ 62 < 2 ^ 64 := by decide
    omega
  rw [e2, Nat.and_two_pow_sub_one_eq_mod]
  have e3 : (((a % ((2 ^ 64 : Nat) : Int)).toNat % 2 ^ k : Nat) : Int) = a % 2 ^ k := by
    rw [Int.natCast_emod, Int.toNat_of_nonneg (Int.emod_nonneg _ (by decide))]
    have e4 : ((2 ^ k : Nat) : Int) = (2 : Int) ^ k := Int.natCast_pow 2 k
    have e5 : ((2 ^ 64 : Nat) : Int) = (2 : Int) ^ 64 := Int.natCast_pow 2 64
    rw [e4, e5]
    exact Int.emod_emod_of_dvd a ⟨2 ^ (64 - k), by rw [← Int.pow_add, show k + (64 - k) = 64 by omega]⟩
  rw [e3]
  have b1 : 0 ≤ a % 2 ^ k := Int.emod_nonneg _ (by have : (0 : Int) < 2 ^ k := Int.pow_pos (by omega); omega)
  have b2 : a % 2 ^ k < 2 ^ k := Int.emod_lt_of_pos _ (Int.pow_pos (by omega))
  have b3 : ((2 : Int) ^ k) ≤ 2 ^ 62 := by exact_mod_cast hp
  exact wI_eq (by omega) (by omega)
end Go.Ev
namespace Go.Ev
open Go
/-- A slice of one's own: 'cs' are its cells, behind them 'rest'; full or not. -/
def OW (k : Nat) (h : H) (bar : Nat) (a : AV) (n : Nat) (cs : List AV) : Prop :=
  cs.length = n * k ∧ cs.all AV.one = true ∧ ((a = .nilsl ∧ n = 0) ∨ ∃ id rest full, a = .sl id 0 k n full ∧ bar ≤ id ∧ id < h.n ∧ h.get id = some (.cells (cs ++ rest) 0))
section
variable {k : Nat} {h h' : H} {bar : Nat} {a : AV} {n : Nat} {cs : List AV}
theorem OW.nil : OW k h bar .nilsl 0 [] := ⟨by simp, rfl, .inl ⟨rfl, rfl⟩⟩
theorem OS.ow (v : OS k h bar a n cs) : OW k h bar a n cs := by
  obtain ⟨h1, h2, h3 | ⟨id, rest, e1, e2, e3, e4⟩⟩ := v
  · exact ⟨h1, h2, .inl h3⟩
  · exact ⟨h1, h2, .inr ⟨id, rest, false, e1, e2, e3, e4⟩⟩
theorem OW.mono (v : OW k h bar a n cs) (hn : h.n ≤ h'.n) (g : ∀ j, a.isAt j → h'.get j = h.get j) : OW k h' bar a n cs := by
  obtain ⟨h1, h2, h3 | ⟨id, rest, full, e1, e2, e3, e4⟩⟩ := v
  · exact ⟨h1, h2, .inl h3⟩
  · exact ⟨h1, h2, .inr ⟨id, rest, full, e1, e2, by omega, by rw [g id (by rw [e1]; rfl)]; exact e4⟩⟩
theorem OW.bar_le {b : Nat} (v : OW k h bar a n cs) (hb : b ≤ bar) : OW k h b a n cs := by
  obtain ⟨h1, h2, h3 | ⟨id, rest, full, e1, e2, e3, e4⟩⟩ := v
  · exact ⟨h1, h2, .inl h3⟩
  · exact ⟨h1, h2, .inr ⟨id, rest, full, e1, by omega, e3, e4⟩⟩
theorem OW.up {b : Nat} (v : OW k h bar a n cs) (hb : ∀ j, a.isAt j → b ≤ j) : OW k h b a n cs := by
  obtain ⟨h1, h2, h3 | ⟨id, rest, full, e1, e2, e3, e4⟩⟩ := v
  · exact ⟨h1, h2, .inl h3⟩
  · exact ⟨h1, h2, .inr ⟨id, rest, full, e1, hb id (by rw [e1]; rfl), e3, e4⟩⟩
theorem OW.one (v : OW k h bar a n cs) : a.one = true := by
  obtain ⟨_, _, ⟨rfl, _⟩ | ⟨id, rest, full, rfl, _⟩⟩ := v <;> rfl
theorem OW.len (v : OW k h bar a n cs) (g : H) : lenR (some a) g = some (goI n, g) := by
  obtain ⟨_, _, ⟨rfl, rfl⟩ | ⟨id, rest, full, rfl, _⟩⟩ := v <;> rfl
theorem OW.at_lt (v : OW k h bar a n cs) {j : Nat} (hj : a.isAt j) : bar ≤ j ∧ j < h.n := by
  obtain ⟨_, _, ⟨rfl, rfl⟩ | ⟨id, rest, full, rfl, g1, g2, _⟩⟩ := v
  · exact hj.elim
  · cases hj; exact ⟨g1, g2⟩
theorem OW.vw (v : OW k h bar a n cs) (hn : n ≤ 9223372036854775807) : Vw k h a n cs := by
  obtain ⟨h1, h2, ⟨rfl, e⟩ | ⟨id, rest, full, e1, e2, e3, e4⟩⟩ := v
  · exact ⟨h1, hn, .inl ⟨rfl, e⟩⟩
  · refine ⟨h1, hn, .inr (.inr ⟨id, 0, full, _, 0, e1, e3, e4, by rw [List.length_append, h1]; omega, ?_⟩)⟩
    rw [List.drop_zero, ← h1]; exact List.take_left ..
/-- Behind it some more: as append does it with what it is given. -/
theorem OW.appA (v : OW k h bar a n cs) (hb : bar ≤ h.n) (bytes m : Nat) (xs : List AV) (hm : m ≠ 0) (hx : xs.length = m * k) (hx1 : xs.all AV.one = true) (hs : (n + m) * bytes ≤ 140737488355328) (hs' : n + m ≤ 9223372036854775807) :
    ∃ h', appendA bar k bytes h a m xs = some (.sl h.n 0 k (n + m) false, h') ∧ OW k h' bar (.sl h.n 0 k (n + m) false) (n + m) (cs ++ xs) ∧ h'.n = h.n + 1 ∧ (∀ j, j < h.n → ¬ a.isAt j → h'.get j = h.get j) := by
  obtain ⟨h1, h2, h3⟩ := v
  have hl : (cs ++ xs).length = (n + m) * k := by rw [List.length_append, h1, hx, Nat.add_mul]
  have ha : (cs ++ xs).all AV.one = true := by rw [List.all_append, h2, hx1]; rfl
  rcases h3 with ⟨rfl, rfl⟩ | ⟨id, rest, full, rfl, g1, g2, g3⟩
  · have : cs = [] := List.length_eq_zero_iff.mp (by rw [h1]; simp)
    subst this
    refine ⟨h.alloc (.cells xs 0), ?_, ⟨hl, ha, .inr ⟨h.n, [], false, rfl, hb, by simp [n_alloc], by simp [get_alloc]⟩⟩, by simp [n_alloc], fun j hj _ => by rw [get_alloc, if_neg (by omega)]⟩
    simp only [appendA]
    rw [if_neg hm, if_pos ⟨by simpa using hs, by omega⟩, Nat.zero_add]
  · have ht : ((cs ++ rest).drop 0).take (n * k) = cs := by rw [List.drop_zero, ← h1, List.take_left]
    cases full with
    | true =>
      refine ⟨h.alloc (.cells (cs ++ xs) 0), ?_, ⟨hl, ha, .inr ⟨h.n, [], false, rfl, hb, by simp [n_alloc], by simp [get_alloc]⟩⟩, by simp [n_alloc], fun j hj _ => by rw [get_alloc, if_neg (by omega)]⟩
      simp only [appendA, if_true]
      rw [if_neg hm, g3]
      simp only
      rw [if_pos ⟨by simp [h1], hs, hs'⟩, ht]
    | false =>
      refine ⟨(h.kill id).alloc (.cells (cs ++ xs) 0), ?_, ⟨hl, ha, .inr ⟨h.n, [], false, rfl, hb, by simp [n_alloc, n_kill], by simp [get_alloc, n_kill]⟩⟩, by simp [n_alloc, n_kill], fun j hj hj2 => ?_⟩
      · simp only [appendA, if_true]
        rw [if_neg hm, g3]
        simp only
        rw [if_pos ⟨by simp [h1], hs, hs'⟩, if_neg (by simp), if_pos ⟨g1, by omega⟩, ht, Nat.zero_sub]
      · have : j ≠ id := fun e => hj2 e.symm
        simp only [get_alloc, n_kill, get_kill]
        rw [if_neg (by omega), if_neg this]
/-- One element more, out of a new object. -/
theorem OW.app (v : OW k h bar a n cs) (hb : bar ≤ h.n) (bytes : Nat) (xs : List AV) (hx : xs.length = k) (hx1 : xs.all AV.one = true) (hk : 0 < k) (hs : (n + 1) * bytes ≤ 140737488355328) (hs' : n < 9223372036854775807) :
    ∃ h', appR bar k bytes (some a) (some (.sl h.n 0 k 1 true)) (h.alloc (.cells xs 0)) = some (.sl (h.n + 1) 0 k (n + 1) false, h') ∧ OW k h' bar (.sl (h.n + 1) 0 k (n + 1) false) (n + 1) (cs ++ xs) ∧ h'.n = h.n + 2 ∧ (∀ j, j < h.n → ¬ a.isAt j → h'.get j = h.get j) := by
  have hsrc : source k (h.alloc (.cells xs 0)) (.sl h.n 0 k 1 true) = some (1, xs) := by
    simp [source, get_alloc, ← hx]
  have v' : OW k (h.alloc (.cells xs 0)) bar a n cs := v.mono (by simp [n_alloc]) fun j hj => by have := v.at_lt hj; rw [get_alloc, if_neg (by omega)]
  obtain ⟨h', e1, o1, n1, f1⟩ := v'.appA (by rw [n_alloc]; omega) bytes 1 xs (by omega) (by rw [hx]; omega) hx1 hs (by omega)
  simp only [n_alloc] at e1 o1 n1 f1
  refine ⟨h', ?_, o1, by omega, fun j hj hj2 => by rw [f1 j (by omega) hj2, get_alloc, if_neg (by omega)]⟩
  simp only [appR, hsrc, if_pos hk]
  exact e1
/-- Its own object, if it has any element. -/
theorem OW.cases (v : OW k h bar a n cs) (hn : n ≠ 0) : ∃ id all full, a = .sl id 0 k n full ∧ bar ≤ id ∧ id < h.n ∧ h.get id = some (.cells all 0) ∧ n * k ≤ all.length ∧ all.take (n * k) = cs ∧ cs.length = n * k ∧ (∀ j, j < n * k → all[j]? = cs[j]?) ∧
    (∀ (g : H) (i : Nat) (vs : List AV), i + vs.length ≤ n * k → vs.all AV.one = true → h.n ≤ g.n → g.get id = some (.cells (splice all i vs) 0) → OW k g bar a n (splice cs i vs)) ∧
    (∀ (g : H) (m : Nat) (full' : Bool), m ≤ n → h.n ≤ g.n → g.get id = h.get id → OW k g bar (.sl id 0 k m full') m (cs.take (m * k))) := by
  obtain ⟨h1, h2, ⟨_, e⟩ | ⟨id, rest, full, e1, e2, e3, e4⟩⟩ := v
  · exact absurd e hn
  · refine ⟨id, cs ++ rest, full, e1, e2, e3, e4, by rw [List.length_append]; omega, by rw [← h1]; exact List.take_left .., h1, fun j hj => List.getElem?_append_left (by omega), fun g i vs hi hv hg hget => ?_, fun g m full' hm hg hget => ?_⟩
    · have hsp : splice (cs ++ rest) i vs = splice cs i vs ++ rest := by
        unfold splice
        rw [List.take_append_of_le_length (by omega), List.drop_append_of_le_length (by omega), List.append_assoc, List.append_assoc, List.append_assoc]
      refine ⟨?_, ?_, .inr ⟨id, rest, full, e1, e2, by omega, by rw [hget, hsp]⟩⟩
      · unfold splice; simp; omega
      · unfold splice
        rw [List.all_eq_true] at h2 hv ⊢
        intro x hx
        rw [List.mem_append, List.mem_append] at hx
        rcases hx with (hx | hx) | hx
        · exact h2 x (List.mem_of_mem_take hx)
        · exact hv x hx
        · exact h2 x (List.mem_of_mem_drop hx)
    · have hmk : m * k ≤ n * k := Nat.mul_le_mul_right k hm
      refine ⟨by rw [List.length_take]; omega, ?_, .inr ⟨id, cs.drop (m * k) ++ rest, full', rfl, e2, by omega, by rw [hget, e4, ← List.append_assoc, List.take_append_drop]⟩⟩
      rw [List.all_eq_true] at h2 ⊢
      exact fun x hx => h2 x (List.mem_of_mem_take hx)
end
end Go.Ev
namespace Go.Ev
open Go
section
variable {fs : List Fn} {cs : List Code'} {m : Mem} {r : Row}
theorem Rb_loop {S : Nat → Mc} {B N : Nat} (h : ∀ k, k < N → Rb fs cs B (S (k + 1)) (S k)) : ∀ k, k ≤ N → Rb fs cs (B * k) (S k) (S 0)
  | 0, _ => Rb.refl.le (by omega)
  | k + 1, hk => ((h k (by omega)).trans (Rb_loop h k (by omega))).le (by rw [Nat.mul_succ]; omega)
theorem ne_b0 {x : Int} (h : x ≠ 0) : (x == 0) = false := by simpa using h
/-- A sum. -/
def sumsC : Code' := ⟨[nu 0, tk 67, tk 91, tk 97, tk 33, tk 63, tk 126, tk 59, tk 99, tk 97, tk 43, tk 67, tk 97, nu 1, tk 45, tk 65, tk 93, tk 99], [-1, -1, -1, -1, -1, 7, 17, -1, -1, -1, -1, -1, -1, -1, -1, -1, 2, -1], 2⟩
theorem sums_body {a b c d e f g h : Int} (ha : a ≠ 0) : Rb fs cs 14 (M1 sumsC m r 2 (lc a b c d e f g h) []) (M1 sumsC m r 2 (lc (wI (a - 1)) b (wI (c + a)) d e f g h) []) := by
  have e1 : Rn fs cs 3 (M1 sumsC m r 2 (lc a b c d e f g h) []) (M1 sumsC m r 5 (lc a b c d e f g h) [bitI (a == 0)]) := fun n => by kernel_rfl
  rw [ne_b0 ha] at e1
  have e2 : Rn fs cs 11 (M1 sumsC m r 5 (lc a b c d e f g h) [bitI false]) (M1 sumsC m r 2 (lc (wI (a - 1)) b (wI (c + a)) d e f g h) []) := fun n => by kernel_rfl
  exact (e1.trans e2).rb
def tri (k : Nat) : Nat := k * (k + 1) / 2
theorem tri_succ (k : Nat) : tri (k + 1) = tri k + (k + 1) := by
  unfold tri
  have : (k + 1) * (k + 1 + 1) = k * (k + 1) + 2 * (k + 1) := by rw [Nat.add_mul k 1, Nat.one_mul, Nat.mul_add]; omega
  omega
theorem tri_le {a b : Nat} (h : a ≤ b) : tri a ≤ tri b := by
  induction b with
  | zero => have : a = 0 := by omega
            subst this; exact Nat.le_refl _
  | succ b ih =>
    by_cases q : a = b + 1
    · subst q; exact Nat.le_refl _
    · have := ih (by omega); rw [tri_succ]; omega
theorem sums_ends {k : Nat} (hk : k ≤ 1023) (b : Int) : Ends fs cs 100000 (M1 sumsC m r 0 (lc k b 0 0 0 0 0 0) []) (tri k : Nat) m r := by
  have ht : tri 1023 = 523776 := rfl
  have e0 : Rn fs cs 2 (M1 sumsC m r 0 (lc k b 0 0 0 0 0 0) []) (M1 sumsC m r 2 (lc k b 0 0 0 0 0 0) []) := fun n => by kernel_rfl
  have hl := Rb_loop (fs := fs) (cs := cs) (S := fun j => M1 sumsC m r 2 (lc (j : Nat) b ((tri k : Nat) - (tri j : Nat) : Int) 0 0 0 0 0) []) (B := 14) (N := k) (fun j hj => by
    have := sums_body (fs := fs) (cs := cs) (m := m) (r := r) (a := ((j + 1 : Nat) : Int)) (b := b) (c := (tri k : Nat) - (tri (j + 1) : Nat)) (d := 0) (e := 0) (f := 0) (g := 0) (h := 0) (by omega)
    have h1 := tri_succ j
    have h2 := tri_le (show j + 1 ≤ k from hj)
    have h3 := tri_le hk
    rw [wI_eq (by omega) (by omega), wI_eq (by omega) (by omega)] at this
    rw [show ((j + 1 : Nat) : Int) - 1 = (j : Nat) by omega, show (((tri k : Nat) : Int) - (tri (j + 1) : Nat) + (j + 1 : Nat)) = (tri k : Nat) - (tri j : Nat) by omega] at this
    exact this) k (Nat.le_refl _)
  simp only [Int.sub_self] at hl
  have e2 : Rn fs cs 6 (M1 sumsC m r 2 (lc (0 : Nat) b ((tri k : Nat) - (tri 0 : Nat) : Int) 0 0 0 0 0) []) (M1 sumsC m r 18 (lc (0 : Nat) b ((tri k : Nat) - (tri 0 : Nat) : Int) 0 0 0 0 0) [((tri k : Nat) - (tri 0 : Nat) : Int)]) := fun n => by kernel_rfl
  have e3 : ((tri k : Nat) : Int) - (tri 0 : Nat) = (tri k : Nat) := by show _ - ((0 : Nat) : Int) = _; omega
  rw [e3] at e2 hl
  exact ((e0.rb.trans hl).trans e2.rb).ends (by omega) (Nat.le_refl _)
/-- Numbers of Fibonacci. -/
def fibC : Code' := ⟨[nu 0, tk 67, nu 1, tk 68, tk 91, tk 97, tk 33, tk 63, tk 126, tk 59, tk 99, tk 100, tk 43, tk 100, tk 67, tk 68, tk 97, nu 1, tk 45, tk 65, tk 93, tk 99], [-1, -1, -1, -1, -1, -1, -1, 9, 21, -1, -1, -1, -1, -1, -1, -1, -1, -1, -1, -1, 4, -1], 2⟩
def fibW : Nat → Int × Int
  | 0 => (0, 1)
  | n + 1 => ((fibW n).2, wI ((fibW n).1 + (fibW n).2))
theorem fib_body {a b c d e f g h : Int} (ha : a ≠ 0) : Rb fs cs 17 (M1 fibC m r 4 (lc a b c d e f g h) []) (M1 fibC m r 4 (lc (wI (a - 1)) b d (wI (c + d)) e f g h) []) := by
  have e1 : Rn fs cs 3 (M1 fibC m r 4 (lc a b c d e f g h) []) (M1 fibC m r 7 (lc a b c d e f g h) [bitI (a == 0)]) := fun n => by kernel_rfl
  rw [ne_b0 ha] at e1
  have e2 : Rn fs cs 13 (M1 fibC m r 7 (lc a b c d e f g h) [bitI false]) (M1 fibC m r 4 (lc (wI (a - 1)) b d (wI (c + d)) e f g h) []) := fun n => by kernel_rfl
  exact (e1.trans e2).rb.le (by omega)
theorem fib_ends {k : Nat} (hk : k ≤ 127) (b : Int) : Ends fs cs 100000 (M1 fibC m r 0 (lc k b 0 0 0 0 0 0) []) (fibW k).1 m r := by
  have e0 : Rn fs cs 4 (M1 fibC m r 0 (lc k b 0 0 0 0 0 0) []) (M1 fibC m r 4 (lc k b 0 1 0 0 0 0) []) := fun n => by kernel_rfl
  have hl := Rb_loop (fs := fs) (cs := cs) (S := fun j => M1 fibC m r 4 (lc (j : Nat) b (fibW (k - j)).1 (fibW (k - j)).2 0 0 0 0) []) (B := 17) (N := k) (fun j hj => by
    have := fib_body (fs := fs) (cs := cs) (m := m) (r := r) (a := ((j + 1 : Nat) : Int)) (b := b) (c := (fibW (k - (j + 1))).1) (d := (fibW (k - (j + 1))).2) (e := 0) (f := 0) (g := 0) (h := 0) (by omega)
    rw [wI_eq (by omega) (by omega), show ((j + 1 : Nat) : Int) - 1 = (j : Nat) by omega] at this
    show Rb fs cs 17 _ (M1 fibC m r 4 (lc (j : Nat) b (fibW (k - j)).1 (fibW (k - j)).2 0 0 0 0) [])
    rw [show k - j = k - (j + 1) + 1 by omega]
    exact this) k (Nat.le_refl _)
  simp only [Nat.sub_self, Nat.sub_zero] at hl
  have e2 : Rn fs cs 6 (M1 fibC m r 4 (lc (0 : Nat) b (fibW k).1 (fibW k).2 0 0 0 0) []) (M1 fibC m r 22 (lc (0 : Nat) b (fibW k).1 (fibW k).2 0 0 0 0) [(fibW k).1]) := fun n => by kernel_rfl
  exact ((e0.rb.trans hl).trans e2.rb).ends (by omega) (Nat.le_refl _)
/-- A number shifted up. -/
def dblC : Code' := ⟨[tk 91, tk 98, tk 33, tk 63, tk 126, tk 59, tk 97, tk 46, tk 43, tk 65, tk 98, nu 1, tk 45, tk 66, tk 93, tk 97], [-1, -1, -1, 5, 15, -1, -1, -1, -1, -1, -1, -1, -1, -1, 0, -1], 2⟩
def dblW (a : Int) : Nat → Int
  | 0 => a
  | n + 1 => wI (dblW a n + dblW a n)
theorem dbl_ends {k : Nat} (hk : k ≤ 127) (a : Int) : Ends fs cs 100000 (M1 dblC m r 0 (lc a k 0 0 0 0 0 0) []) (dblW a k) m r := by
  have hl := Rb_loop (fs := fs) (cs := cs) (S := fun j => M1 dblC m r 0 (lc (dblW a (k - j)) (j : Nat) 0 0 0 0 0 0) []) (B := 14) (N := k) (fun j hj => by
    have e1 : Rn fs cs 3 (M1 dblC m r 0 (lc (dblW a (k - (j + 1))) (j + 1 : Nat) 0 0 0 0 0 0) []) (M1 dblC m r 3 (lc (dblW a (k - (j + 1))) (j + 1 : Nat) 0 0 0 0 0 0) [bitI (((j + 1 : Nat) : Int) == 0)]) := fun n => by kernel_rfl
    rw [ne_b0 (by omega)] at e1
    have e2 : Rn fs cs 11 (M1 dblC m r 3 (lc (dblW a (k - (j + 1))) (j + 1 : Nat) 0 0 0 0 0 0) [bitI false]) (M1 dblC m r 0 (lc (dblW a (k - (j + 1) + 1)) (wI ((j + 1 : Nat) - 1)) 0 0 0 0 0 0) []) := fun n => by kernel_rfl
    rw [wI_eq (by omega) (by omega), show ((j + 1 : Nat) : Int) - 1 = (j : Nat) by omega, show k - (j + 1) + 1 = k - j by omega] at e2
    exact (e1.trans e2).rb) k (Nat.le_refl _)
  simp only [Nat.sub_self, Nat.sub_zero] at hl
  have e2 : Rn fs cs 6 (M1 dblC m r 0 (lc (dblW a k) (0 : Nat) 0 0 0 0 0 0) []) (M1 dblC m r 16 (lc (dblW a k) (0 : Nat) 0 0 0 0 0 0) [dblW a k]) := fun n => by kernel_rfl
  exact (hl.trans e2.rb).ends (by omega) (Nat.le_refl _)
end
end Go.Ev
namespace Go.Ev
open Go
def zeroM (pages : Nat) (most : Int) : Mem := ⟨List.replicate (pages * 64) 0, most, List.replicate pages false⟩
/-- Trap and value. -/
def resM (x : Option (Mc × Int × Nat)) : Option (Int × Int) := x.map fun y => (y.1.trap, y.2.1)
def callC : Code' := ⟨[tk 97, tk 63, tk 97, nu 1, tk 45, ⟨955, 0, 102⟩, nu 1, tk 43, tk 58, nu 0, tk 59], [-1, 9, -1, -1, -1, -1, -1, -1, 10, -1, -1], 1⟩
theorem call_all (b : ByteArray) : (List.range 64).all (fun k => resM (runM [⟨102, 1, b⟩] [callC] 9000 (M1 callC (zeroM 0 0) ⟨[], []⟩ 0 (lc k 0 0 0 0 0 0 0) [])) == some (if k < 32 then (0, (k : Int)) else (6, 0))) = true := by kernel_rfl
def facC : Code' := ⟨[tk 97, tk 63, tk 97, tk 97, nu 1, tk 45, ⟨955, 0, 102⟩, tk 42, tk 58, nu 1, tk 59], [-1, 9, -1, -1, -1, -1, -1, -1, 10, -1, -1], 1⟩
def facW : Nat → Int
  | 0 => 1
  | n + 1 => wI (facW n * (n + 1))
theorem fac_all (b : ByteArray) : (List.range 30).all (fun k => resM (runM [⟨102, 1, b⟩] [facC] 999 (M1 facC (zeroM 0 0) ⟨[], []⟩ 0 (lc k 0 0 0 0 0 0 0) [])) == some (0, facW k)) = true := by kernel_rfl
def evenC : Code' := ⟨[tk 97, tk 63, tk 97, nu 1, tk 45, tk 63, tk 97, nu 2, tk 45, ⟨955, 0, 111⟩, tk 58, nu 1, tk 59, tk 58, nu 0, tk 59], [-1, 14, -1, -1, -1, 11, -1, -1, -1, -1, 12, -1, -1, 15, -1, -1], 1⟩
theorem even_all (b : ByteArray) : (List.range 16).all (fun k => resM (runM [⟨111, 1, b⟩] [evenC] 999 (M1 evenC (zeroM 0 0) ⟨[], []⟩ 0 (lc k 0 0 0 0 0 0 0) [])) == some (0, (k : Int) % 2)) = true := by kernel_rfl
def gro1C : Code' := ⟨[tk 97, tk 164, tk 35, nu 256, tk 42, tk 43], [-1, -1, -1, -1, -1, -1], 2⟩
def gro2C : Code' := ⟨[nu 1, tk 164, tk 44, nu 64, tk 64], [-1, -1, -1, -1, -1], 2⟩
theorem gro1_all (fs : List Fn) (cs : List Code') : (List.range 12).all (fun k => resM (runM fs cs 100000 (M1 gro1C (zeroM 1 8) ⟨[], []⟩ 0 (lc k 0 0 0 0 0 0 0) [])) == some (0, (if 7 < k then -1 + 256 else 1 + (1 + (k : Int)) * 256 : Int))) = true := by kernel_rfl
theorem gro2_all (fs : List Fn) (cs : List Code') : resM (runM fs cs 100000 (M1 gro2C (zeroM 1 8) ⟨[], []⟩ 0 (lc 0 0 0 0 0 0 0 0) [])) = some (0, 0) := by kernel_rfl
/-- It traps. -/
def Traps (fs : List Fn) (cs : List Code') (N : Nat) (s : Mc) (t : Int) : Prop := ∃ s' n, runM fs cs N s = some (s', 0, n) ∧ s'.trap = t
section
variable {fs : List Fn} {cs : List Code'} {m : Mem} {r : Row}
theorem trap_at {n k : Nat} {s s' : Mc} (h : Rn fs cs k s s') (ht : s'.trap ≠ 0) : runM fs cs (n + k) s = some (s', 0, n) := by
  rw [h]; unfold runM; rw [if_pos ht]
theorem Rn.traps {N k : Nat} {s s' : Mc} (h : Rn fs cs k s s') (hk : k ≤ N) (ht : s'.trap ≠ 0) : Traps fs cs N s s'.trap := by
  have := trap_at (n := N - k) h ht
  rw [show N - k + k = N by omega] at this
  exact ⟨s', _, this, rfl⟩
def M1t (c : Code') (m : Mem) (r : Row) (i : Nat) (loc st : List Int) (t : Int) : Mc := ⟨[⟨c, i, loc, st⟩], m, r, t⟩
def trp0C : Code' := ⟨[tk 97, nu 0, tk 47], [-1, -1, -1], 2⟩
def trp1C : Code' := ⟨[nu 1, nu 63, tk 171, nu 0, nu 1, tk 45, tk 47], [-1, -1, -1, -1, -1, -1, -1], 2⟩
def trp2C : Code' := ⟨[nu 64, tk 169], [-1, -1], 2⟩
def trp3C : Code' := ⟨[tk 161], [-1], 2⟩
def trp4C : Code' := ⟨[tk 91, tk 93], [-1, 0], 2⟩
def trp5C : Code' := ⟨[nu 9, nu 0, nu 1, tk 45, tk 36, nu 1], [-1, -1, -1, -1, -1, -1], 2⟩
def trp6C : Code' := ⟨[tk 97, nu 0, tk 37], [-1, -1, -1], 2⟩
theorem trp0_ends (a b : Int) : Traps fs cs 100000 (M1 trp0C m r 0 (lc a b 0 0 0 0 0 0) []) 3 :=
  Rn.traps (k := 3) (s' := M1t trp0C m r 3 (lc a b 0 0 0 0 0 0) [0] 3) (fun n => by kernel_rfl) (by omega) (by simp [M1t])
theorem trp1_ends (a b : Int) : Traps fs cs 100000 (M1 trp1C m r 0 (lc a b 0 0 0 0 0 0) []) 4 :=
  Rn.traps (k := 7) (s' := M1t trp1C m r 7 (lc a b 0 0 0 0 0 0) [0] 4) (fun n => by kernel_rfl) (by omega) (by simp [M1t])
theorem trp2_ends (a b : Int) : Traps fs cs 100000 (M1 trp2C (zeroM 1 8) r 0 (lc a b 0 0 0 0 0 0) []) 5 :=
  Rn.traps (k := 2) (s' := M1t trp2C (zeroM 1 8) r 2 (lc a b 0 0 0 0 0 0) [0] 5) (fun n => by kernel_rfl) (by omega) (by simp [M1t])
theorem trp3_ends (a b : Int) : Traps fs cs 100000 (M1 trp3C m r 0 (lc a b 0 0 0 0 0 0) []) 2 :=
  Rn.traps (k := 1) (s' := M1t trp3C m r 1 (lc a b 0 0 0 0 0 0) [] 2) (fun n => by kernel_rfl) (by omega) (by simp [M1t])
theorem trp4_loop (a b : Int) : ∀ n, Traps fs cs n (M1 trp4C m r 0 (lc a b 0 0 0 0 0 0) []) 1 ∧ Traps fs cs n (M1 trp4C m r 1 (lc a b 0 0 0 0 0 0) []) 1
  | 0 => ⟨⟨M1t trp4C m r 0 (lc a b 0 0 0 0 0 0) [] 1, 0, by kernel_rfl, rfl⟩, ⟨M1t trp4C m r 1 (lc a b 0 0 0 0 0 0) [] 1, 0, by kernel_rfl, rfl⟩⟩
  | n + 1 => by
    obtain ⟨⟨s1, n1, h1, t1⟩, ⟨s2, n2, h2, t2⟩⟩ := trp4_loop a b n
    have e1 : runM fs cs (n + 1) (M1 trp4C m r 0 (lc a b 0 0 0 0 0 0) []) = runM fs cs n (M1 trp4C m r 1 (lc a b 0 0 0 0 0 0) []) := by kernel_rfl
    have e2 : runM fs cs (n + 1) (M1 trp4C m r 1 (lc a b 0 0 0 0 0 0) []) = runM fs cs n (M1 trp4C m r 0 (lc a b 0 0 0 0 0 0) []) := by kernel_rfl
    exact ⟨⟨s2, n2, e1.trans h2, t2⟩, ⟨s1, n1, e2.trans h1, t1⟩⟩
theorem trp5_ends (a b : Int) : ∃ m, Ends fs cs 100000 (M1 trp5C (zeroM 1 8) r 0 (lc a b 0 0 0 0 0 0) []) 1 m r :=
  ⟨_, Rb.ends (B := 6) (i := 6) (loc := lc a b 0 0 0 0 0 0) (st := []) (c := trp5C) (m := (storeM (zeroM 1 8) 9 (-1) true).1) (Rn.rb (fun n => by kernel_rfl)) (by omega) (Nat.le_refl _)⟩
theorem trp6_ends (a b : Int) : Traps fs cs 100000 (M1 trp6C m r 0 (lc a b 0 0 0 0 0 0) []) 3 :=
  Rn.traps (k := 3) (s' := M1t trp6C m r 3 (lc a b 0 0 0 0 0 0) [0] 3) (fun n => by kernel_rfl) (by omega) (by simp [M1t])
end
end Go.Ev
set_option linter.unusedSectionVars false
namespace Go.Ev
open Go
/-- A frame's cells: its code, where it is, its locals, its values. -/
def frC (la ta : AV) (a : Int) (p : Nat) (loc : List Int) (sa : AV) : List AV := la :: ta :: .int .i64 a :: .int .i64 p :: (loc.map (AV.int .i64) ++ [sa])
section
variable {la ta sa v : AV} {a : Int} {p : Nat} {loc : List Int}
theorem frC_len (h : loc.length = 26) : (frC la ta a p loc sa).length = 31 := by simp [frC, h]
theorem frC_30 (h : loc.length = 26) : (frC la ta a p loc sa)[30]? = some sa := by
  simp [frC, h]
theorem frC_0 : (frC la ta a p loc sa)[0]? = some la := rfl
theorem frC_1 : (frC la ta a p loc sa)[1]? = some ta := rfl
theorem frC_2 : (frC la ta a p loc sa)[2]? = some (.int .i64 a) := rfl
theorem frC_3 : (frC la ta a p loc sa)[3]? = some (.int .i64 p) := rfl
theorem frC_loc {i : Nat} {x : Int} (h : loc[i]? = some x) : (frC la ta a p loc sa)[4 + i]? = some (.int .i64 x) := by
  have hi := (List.getElem?_eq_some_iff.mp h).1
  show (la :: ta :: AV.int .i64 a :: AV.int .i64 p :: (loc.map (AV.int .i64) ++ [sa]))[4 + i]? = _
  rw [show 4 + i = i + 1 + 1 + 1 + 1 by omega]
  simp only [List.getElem?_cons_succ]
  rw [List.getElem?_append_left (by simpa using hi)]
  simp [h]
theorem frC_set30 (h : loc.length = 26) : splice (frC la ta a p loc sa) 30 [v] = frC la ta a p loc v := by
  have : (loc.map (AV.int .i64)).length = 26 := by simpa using h
  unfold splice frC
  have e1 : (la :: ta :: AV.int .i64 a :: AV.int .i64 p :: (loc.map (AV.int .i64) ++ [sa])).take 30 = la :: ta :: .int .i64 a :: .int .i64 p :: loc.map (AV.int .i64) := by
    simp only [List.take_succ_cons]
    rw [List.take_append_of_le_length (by omega), List.take_of_length_le (by omega)]
  rw [e1]
  have e2 : (la :: ta :: AV.int .i64 a :: AV.int .i64 p :: (loc.map (AV.int .i64) ++ [sa])).drop (30 + [v].length) = [] := by
    apply List.drop_eq_nil_of_le; simp [h]
  rw [e2]; simp
theorem frC_set3 {q : Nat} : splice (frC la ta a p loc sa) 3 [.int .i64 q] = frC la ta a q loc sa := rfl
theorem frC_setloc {i : Nat} {x : Int} (hi : i < loc.length) : splice (frC la ta a p loc sa) (4 + i) [.int .i64 x] = frC la ta a p (loc.set i x) sa := by
  unfold splice frC
  rw [show 4 + i = i + 1 + 1 + 1 + 1 by omega]
  simp only [List.take_succ_cons]
  rw [List.take_append_of_le_length (by simp; omega)]
  have e2 : (la :: ta :: AV.int .i64 a :: AV.int .i64 p :: (loc.map (AV.int .i64) ++ [sa])).drop (i + 1 + 1 + 1 + 1 + [AV.int .i64 x].length) = (loc.map (AV.int .i64)).drop (i + 1) ++ [sa] := by
    show (la :: ta :: AV.int .i64 a :: AV.int .i64 p :: (loc.map (AV.int .i64) ++ [sa])).drop (i + 1 + 1 + 1 + 1 + 1) = _
    rw [show i + 1 + 1 + 1 + 1 + 1 = (i + 1) + 1 + 1 + 1 + 1 by omega]
    simp only [List.drop_succ_cons]
    rw [List.drop_append_of_le_length (by simp; omega)]
  rw [e2, List.map_set, List.set_eq_take_append_cons_drop, if_pos (by simpa using hi)]
  simp
end
/-- The cells of a stack. -/
def stC (st : List Int) : List AV := st.reverse.map (AV.int .i64)
theorem stC_len (st : List Int) : (stC st).length = st.length := by simp [stC]
theorem stC_push (n : Int) (st : List Int) : stC (n :: st) = stC st ++ [.int .i64 n] := by simp [stC]
theorem stC_top (n : Int) (st : List Int) : (stC (n :: st))[st.length]? = some (.int .i64 n) := by
  rw [stC_push, List.getElem?_append_right (by rw [stC_len]; omega), stC_len, Nat.sub_self]; rfl
theorem stC_pop (n : Int) (st : List Int) : (stC (n :: st)).take (st.length * 1) = stC st := by
  rw [stC_push, Nat.mul_one, ← stC_len st]; exact List.take_left ..
/-- A frame in the heap, in object id. -/
structure FrV (g : H) (b : Nat) (f : Fm) (id : Nat) (la ta sa : AV) : Prop where
  get : g.get id = some (.cells (frC la ta f.c.args f.at' f.loc sa) 0)
  bid : b ≤ id
  lt : id < g.n
  loc : f.loc.length = 26
  st : OW 1 g b sa f.st.length (stC f.st)
  ne : ¬ sa.isAt id
  small : f.st.length ≤ 3000000
  at1 : f.at' ≤ 100000
section
variable {bar b : Nat} {g : H} {f : Fm} {id : Nat} {la ta sa : AV}
theorem FrV.mono {g' : H} (v : FrV g b f id la ta sa) (hn : g.n ≤ g'.n) (h1 : g'.get id = g.get id) (h2 : ∀ j, sa.isAt j → g'.get j = g.get j) : FrV g' b f id la ta sa :=
  ⟨by rw [h1]; exact v.get, v.bid, by have := v.lt; omega, v.loc, v.st.mono hn h2, v.ne, v.small, v.at1⟩
/-- One value more. -/
theorem push_ok (v : FrV g b f id la ta sa) (hb : bar ≤ b) (hbg : b ≤ g.n) (hs : f.st.length < 3000000) (n : Int) :
    ∃ g' sa', call tb prim n_engine_frame_push [.ptr id 0, .int .i64 n] bar g = some (.tup [], g') ∧ FrV g' b { f with st := n :: f.st } id la ta sa' ∧ (∀ j, sa'.isAt j → g.n ≤ j) ∧ g.n ≤ g'.n ∧ ∀ j, j < g.n → j ≠ id → ¬ sa.isAt j → g'.get j = g.get j := by
  obtain ⟨h', e2, o2, n1, f1⟩ := (v.st.bar_le hb).app (bar := bar) (by omega) 8 [.int .i64 n] rfl rfl (by omega) (by omega) (by omega)
  have o1 : OW 1 h' b (.sl (g.n + 1) 0 1 (f.st.length + 1) false) (f.st.length + 1) (stC f.st ++ [.int .i64 n]) := o2.up fun j hj => by cases hj; omega
  have hl := v.loc
  have hid := v.lt
  have hget := v.get
  have h30 : (frC la ta f.c.args f.at' f.loc sa)[30]? = some sa := frC_30 hl
  have hle : 30 + 1 ≤ (frC la ta f.c.args f.at' f.loc sa).length := by rw [frC_len hl]; omega
  have hs30 : splice (frC la ta f.c.args f.at' f.loc sa) 30 [.sl (g.n + 1) 0 1 (f.st.length + 1) false] = frC la ta f.c.args f.at' f.loc (.sl (g.n + 1) 0 1 (f.st.length + 1) false) := frC_set30 hl
  have hg' : h'.get id = some (.cells (frC la ta f.c.args f.at' f.loc sa) 0) := by rw [f1 id hid v.ne]; exact hget
  have hbid : bar ≤ id := Nat.le_trans hb v.bid
  obtain ⟨cs, hcs⟩ : ∃ cs, cs = frC la ta f.c.args f.at' f.loc sa := ⟨_, rfl⟩
  rw [← hcs] at hget h30 hle hs30 hg'
  have hfin : ∃ sa', (AV.tup []) = .tup [] ∧ FrV (h'.set id (.cells (frC la ta f.c.args f.at' f.loc (.sl (g.n + 1) 0 1 (f.st.length + 1) false)) 0)) b { f with st := n :: f.st } id la ta sa' ∧ (∀ j, sa'.isAt j → g.n ≤ j) ∧ g.n ≤ (h'.set id (.cells (frC la ta f.c.args f.at' f.loc (.sl (g.n + 1) 0 1 (f.st.length + 1) false)) 0)).n ∧ ∀ j, j < g.n → j ≠ id → ¬ sa.isAt j → (h'.set id (.cells (frC la ta f.c.args f.at' f.loc (.sl (g.n + 1) 0 1 (f.st.length + 1) false)) 0)).get j = g.get j := by
    refine ⟨.sl (g.n + 1) 0 1 (f.st.length + 1) false, rfl, ⟨by simp [get_set], v.bid, by simp [n_set]; omega, hl, ?_, ?_, by simp; omega, v.at1⟩, fun j hj => by cases hj; omega, by simp [n_set]; omega, fun j h1 h2 h3 => by rw [get_set_ne h2]; exact f1 j h1 h3⟩
    · have : stC (n :: f.st) = stC f.st ++ [.int .i64 n] := stC_push n f.st
      show OW 1 _ b _ (n :: f.st).length _
      rw [this]
      exact o1.mono (by simp [n_set]) (fun j hj => by cases hj; rw [get_set_ne (by omega)])
    · intro hj; cases hj; omega
  obtain ⟨r, g', hc, sa', rfl, k⟩ := callF_K (o := call tb prim) (F := f_engine_frame_push) (bar := bar) (h := g) (args := [.ptr id 0, .int .i64 n]) (P := fun r g' => ∃ sa', r = .tup [] ∧ FrV g' b { f with st := n :: f.st } id la ta sa' ∧ (∀ j, sa'.isAt j → g.n ≤ j) ∧ g.n ≤ g'.n ∧ ∀ j, j < g.n → j ≠ id → ¬ sa.isAt j → g'.get j = g.get j) rfl rfl (fun K hK => by
    simp [f_engine_frame_push, env0, go_sem, get_alloc, n_alloc, get_set, n_set, get_kill, n_kill, writeAt, a11, a21, a31, a41, a51, a61, a71, isNil, hget, h30, evParts, fillA, sp10, e2, hg', hle, hs30, hbid]
    simp [go_sem, endP, endI, resultsA, resultA, freezeL, freezeV, AV.free.freeL, AV.free, packA, dropS]
    exact ⟨_, _, ⟨rfl, rfl⟩, hK _ _ hfin⟩)
  exact ⟨g', sa', call_of tb_engine_frame_push hc, k⟩
/-- The top one goes. -/
theorem pop_ok {n : Int} {st : List Int} (v : FrV g b f id la ta sa) (hst : f.st = n :: st) (hb : bar ≤ b) :
    ∃ g' sa', call tb prim n_engine_frame_pop [.ptr id 0] bar g = some (.int .i64 n, g') ∧ FrV g' b { f with st := st } id la ta sa' ∧ (∀ j, sa'.isAt j → sa.isAt j) ∧ g'.n = g.n ∧ ∀ j, j ≠ id → g'.get j = g.get j := by
  have hl := v.loc
  have hget := v.get
  have hsm := v.small
  have hos := v.st
  rw [hst] at hos hsm
  simp only [List.length_cons] at hos hsm
  obtain ⟨sid, all, full, rfl, hbs, hsl, hgs, hle, htk, hcl, hgi, _, hcut⟩ := hos.cases (by omega)
  have hne : sid ≠ id := v.ne
  have h30 : (frC la ta f.c.args f.at' f.loc (.sl sid 0 1 (st.length + 1) full))[30]? = some (.sl sid 0 1 (st.length + 1) full) := frC_30 hl
  have hle30 : 30 + 1 ≤ (frC la ta f.c.args f.at' f.loc (.sl sid 0 1 (st.length + 1) full)).length := by rw [frC_len hl]; omega
  have hs30 : ∀ v, splice (frC la ta f.c.args f.at' f.loc (.sl sid 0 1 (st.length + 1) full)) 30 [v] = frC la ta f.c.args f.at' f.loc v := fun _ => frC_set30 hl
  have hbid : bar ≤ id := Nat.le_trans hb v.bid
  have htop : all[st.length]? = some (.int .i64 n) := by rw [hgi _ (by omega)]; exact stC_top n st
  have hw : IntKind.i64.wrap (st.length : Int) = (st.length : Nat) := w64 (by omega) (by omega)
  have hlt : st.length < st.length + 1 := by omega
  have hltI : (st.length : Int) < (st.length : Int) + 1 := by omega
  have hc := fun (g' : H) (fl : Bool) (h1 : g.n ≤ g'.n) (h2 : g'.get sid = g.get sid) => hcut g' st.length fl (by omega) h1 h2
  rw [stC_pop] at hc
  have hsl2 : sliceA 1 (.sl sid 0 1 (st.length + 1) full) none (some (.int .i64 (st.length : Nat))) none = some (.sl sid 0 1 st.length (full && decide (st.length = st.length + 1))) := by
    simp [sliceA, optBound, bound]
  obtain ⟨cs, hcs⟩ : ∃ cs, cs = frC la ta f.c.args f.at' f.loc (.sl sid 0 1 (st.length + 1) full) := ⟨_, rfl⟩
  rw [← hcs] at hget h30 hle30 hs30
  obtain ⟨fl, hfl⟩ : ∃ fl, fl = (full && decide (st.length = st.length + 1)) := ⟨_, rfl⟩
  rw [← hfl] at hsl2
  have hfin : ∃ sa', (AV.int .i64 n) = .int .i64 n ∧ FrV (g.set id (.cells (frC la ta f.c.args f.at' f.loc (.sl sid 0 1 st.length fl)) 0)) b { f with st := st } id la ta sa' ∧ (∀ j, sa'.isAt j → (AV.sl sid 0 1 (st.length + 1) full).isAt j) ∧ (g.set id (.cells (frC la ta f.c.args f.at' f.loc (.sl sid 0 1 st.length fl)) 0)).n = g.n ∧ ∀ j, j ≠ id → (g.set id (.cells (frC la ta f.c.args f.at' f.loc (.sl sid 0 1 st.length fl)) 0)).get j = g.get j :=
    ⟨.sl sid 0 1 st.length fl, rfl, ⟨by simp [get_set], v.bid, v.lt, hl, hc _ fl (by simp [n_set]) (get_set_ne hne), hne, by show st.length ≤ _; omega, v.at1⟩, fun j hj => hj, rfl, fun j h1 => get_set_ne h1⟩
  obtain ⟨r, g', hcall, sa', rfl, k⟩ := callF_K (o := call tb prim) (F := f_engine_frame_pop) (bar := bar) (h := g) (args := [.ptr id 0]) (P := fun r g' => ∃ sa', r = .int .i64 n ∧ FrV g' b { f with st := st } id la ta sa' ∧ (∀ j, sa'.isAt j → (AV.sl sid 0 1 (st.length + 1) full).isAt j) ∧ g'.n = g.n ∧ ∀ j, j ≠ id → g'.get j = g.get j) rfl rfl (fun K hK => by
    simp [f_engine_frame_pop, env0, go_sem, get_alloc, n_alloc, get_set, n_set, get_kill, n_kill, writeAt, a11, a21, a31, a41, a51, a61, a71, isNil, hget, h30, hw, hltI, indexIn, hgs, htop, hle30, hs30, hbid, optEv, hsl2]
    simp [go_sem, endP, endI, resultsA, resultA, freezeL, freezeV, AV.free.freeL, AV.free, packA, dropS]
    exact ⟨_, _, ⟨rfl, rfl⟩, hK _ _ hfin⟩)
  exact ⟨g', sa', call_of tb_engine_frame_pop hcall, k⟩
end
end Go.Ev
set_option linter.unusedSectionVars false
namespace Go.Ev
open Go
def byC (l : List Int) : List AV := l.map (AV.int .u8)
def boC (l : List Bool) : List AV := l.map AV.bool
/-- A memory in object M. -/
structure MemV (g : H) (b : Nat) (M : Nat) (m : Mem) (ba da : AV) : Prop where
  get : g.get M = some (.cells [ba, .int .i64 m.most, da] 0)
  bM : b ≤ M
  lt : M < g.n
  ob : OW 1 g b ba m.b.length (byC m.b)
  od : OW 1 g b da m.dirty.length (boC m.dirty)
  nb : ¬ ba.isAt M
  nd : ¬ da.isAt M
  ap : ba.apart da
  sz : m.b.length = 64 * m.dirty.length
  m0 : 0 ≤ m.most ∧ m.most ≤ 64
  m1 : (m.dirty.length : Int) ≤ m.most
  rng : ∀ x ∈ m.b, 0 ≤ x ∧ x < 256
theorem MemV.mono {g g' : H} {b M : Nat} {m : Mem} {ba da : AV} (v : MemV g b M m ba da) (hn : g.n ≤ g'.n) (h0 : g'.get M = g.get M) (h1 : ∀ j, ba.isAt j → g'.get j = g.get j) (h2 : ∀ j, da.isAt j → g'.get j = g.get j) : MemV g' b M m ba da :=
  ⟨by rw [h0]; exact v.get, v.bM, by have := v.lt; omega, v.ob.mono hn h1, v.od.mono hn h2, v.nb, v.nd, v.ap, v.sz, v.m0, v.m1, v.rng⟩
section
variable {bar b M : Nat} {g : H} {m : Mem} {ba da : AV}
theorem pages_ok (v : MemV g b M m ba da) : call tb prim n_cells_Memory_Pages [.ptr M 0] bar g = some (.int .i64 m.dirty.length, g) := by
  refine call_of tb_cells_Memory_Pages (callF_pureW rfl rfl (M_in ?_))
  have hg := v.get
  have hl := v.od.len
  simp [f_cells_Memory_Pages, env0, go_sem, get_alloc, n_alloc, get_set, n_set, get_kill, n_kill, writeAt, a11, a21, a31, a41, a51, a61, a71, endP, endI, resultsA, resultA, freezeL, freezeV, AV.free.freeL, AV.free, packA, dropS, isNil, hg, hl]
theorem within_ok (v : MemV g b M m ba da) (at' : Int) (w : Bool) : call tb prim n_cells_Memory_within [.ptr M 0, .int .i64 at', .bool w] bar g = some (.tup [.int .i64 (wideN w), .bool (withinM m at' w)], g) := by
  refine call_of tb_cells_Memory_within (callF_pureW rfl rfl (M_in ?_))
  have hg := v.get
  have hl := v.ob.len
  have hsz : m.b.length ≤ 4096 := by have := v.sz; have := v.m0; have := v.m1; omega
  have w1 : IntKind.i64.wrap ((m.b.length : Int) - 1) = (m.b.length : Int) - 1 := w64 (by omega) (by omega)
  have w8 : IntKind.i64.wrap ((m.b.length : Int) - 8) = (m.b.length : Int) - 8 := w64 (by omega) (by omega)
  by_cases h0 : 0 ≤ at'
  · cases w <;> simp [f_cells_Memory_within, env0, go_sem, get_alloc, n_alloc, get_set, n_set, get_kill, n_kill, writeAt, a11, a21, a31, a41, a51, a61, a71, isNil, hg, hl, h0, goI, w1, w8, wideN, withinM] <;> simp [go_sem, endP, endI, resultsA, resultA, freezeL, freezeV, AV.free.freeL, AV.free, packA, dropS]
  · cases w <;> simp [f_cells_Memory_within, env0, go_sem, get_alloc, n_alloc, get_set, n_set, get_kill, n_kill, writeAt, a11, a21, a31, a41, a51, a61, a71, isNil, hg, hl, h0, goI, w1, w8, wideN, withinM] <;> simp [go_sem, endP, endI, resultsA, resultA, freezeL, freezeV, AV.free.freeL, AV.free, packA, dropS]
end
theorem leN_rng : ∀ (l : List Int) (k : Nat), l.length ≤ k → (∀ x ∈ l, 0 ≤ x ∧ x < 256) → 0 ≤ leN l ∧ leN l < 256 ^ k
  | [], k, _, _ => by
    have : (0 : Int) < 256 ^ k := Int.pow_pos (by omega)
    simp only [leN]; omega
  | x :: r, 0, h, _ => by simp at h
  | x :: r, k + 1, hk, h => by
    have h1 := h x (List.mem_cons_self ..)
    have h2 := leN_rng r k (by simpa using hk) fun y hy => h y (List.mem_cons_of_mem _ hy)
    simp only [leN, Int.pow_succ]
    omega
theorem orU {x y : Int} (hx : 0 ≤ x) (hx2 : x < 72057594037927936) (hy : 0 ≤ y) (hy2 : y < 256) : IntKind.u64.wrap (((BitVec.ofInt 64 (x * 256) ||| BitVec.ofInt 64 y).toNat : Nat) : Int) = x * 256 + y := by
  obtain ⟨x, rfl⟩ := Int.eq_ofNat_of_zero_le hx
  obtain ⟨y, rfl⟩ := Int.eq_ofNat_of_zero_le hy
  rw [BitVec.toNat_or, BitVec.toNat_ofInt, BitVec.toNat_ofInt]
  have e1 : (((x : Int) * 256) % ((2 ^ 64 : Nat) : Int)).toNat = x * 256 := by omega
  have e2 : ((y : Int) % ((2 ^ 64 : Nat) : Int)).toNat = y := by omega
  rw [e1, e2]
  have e3 : x * 256 ||| y = x * 256 + y := by
    have := Nat.shiftLeft_add_eq_or_of_lt (b := y) (i := 8) (by omega) x
    rw [Nat.shiftLeft_eq] at this
    exact this.symm
  rw [e3, wu64 (by omega) (by omega)]
  omega
section
variable {bar b M : Nat} {g : H} {m : Mem} {ba da : AV}
theorem load_loop (v : MemV g b M m ba da) (p n : Nat) (hn : n ≤ 8) (hp : p + n ≤ m.b.length) (Q : Ex → Env → H → Prop) (hq : ∀ e, e.get 10 = some (.int .u64 (leN ((m.b.drop p).take n))) → Q (.exit 0) e g) : ∀ j : Nat, j ≤ n →
    wpL (call tb prim) bar [0, 1, 10, 11] l0_cells_Memory_Load [(0, .ptr M 0), (1, .int .i64 p), (10, .int .u64 (leN ((m.b.drop (p + j)).take (n - j)))), (11, .int .i64 ((j : Int) - 1))] g Q := by
  intro j
  induction j with
  | zero =>
    intro _
    refine M_loop l0_cells_Memory_Load.eq_1 ?_
    simp [go_sem]
    exact hq _ rfl
  | succ j ih =>
    intro hj
    refine M_loop l0_cells_Memory_Load.eq_1 ?_
    have hg := v.get
    have hsz : m.b.length ≤ 4096 := by have := v.sz; have := v.m0; have := v.m1; omega
    have hlt : p + j < m.b.length := by omega
    obtain ⟨id, all, full, rfl, _, _, hgs, _, _, _, hgi, _, _⟩ := v.ob.cases (by omega)
    have hx : all[p + j]? = some (.int .u8 m.b[p + j]) := by rw [hgi _ (by omega)]; simp [byC, hlt]
    have hr := v.rng m.b[p + j] (List.getElem_mem _)
    have hw1 : IntKind.i64.wrap ((p : Int) + (j : Int)) = (p : Int) + (j : Int) := w64 (by omega) (by omega)
    have hix : indexIn (.int .i64 ((p : Int) + (j : Int))) m.b.length = some (p + j) := by
      have c1 : 0 ≤ (p : Int) + (j : Int) ∧ (p : Int) + (j : Int) < (m.b.length : Int) := by omega
      have c2 : ((p : Int) + (j : Int)).toNat = p + j := by omega
      simp only [indexIn]; rw [if_pos c1, c2]
    have hw2 : IntKind.i64.wrap ((j : Int) - 1) = (j : Int) - 1 := w64 (by omega) (by omega)
    have hrl : ∀ x ∈ (m.b.drop (p + (j + 1))).take (n - (j + 1)), 0 ≤ x ∧ x < 256 := fun x hx => v.rng x (List.mem_of_mem_drop (List.mem_of_mem_take hx))
    obtain ⟨r0, r1⟩ := leN_rng _ 7 (by rw [List.length_take]; omega) hrl
    have h7 : (256 : Int) ^ 7 = 72057594037927936 := by decide
    rw [h7] at r1
    have hnext : leN ((m.b.drop (p + j)).take (n - j)) = leN ((m.b.drop (p + (j + 1))).take (n - (j + 1))) * 256 + m.b[p + j] := by
      rw [List.drop_eq_getElem_cons hlt, show n - j = (n - (j + 1)) + 1 by omega, List.take_succ_cons]
      simp only [leN]
      rw [show p + (j + 1) = p + j + 1 by omega]
      omega
    obtain ⟨acc, hacc⟩ : ∃ acc, acc = leN ((m.b.drop (p + (j + 1))).take (n - (j + 1))) := ⟨_, rfl⟩
    rw [← hacc] at r0 r1 hnext ⊢
    have hsh : IntKind.u64.wrap (acc * 256) = acc * 256 := wu64 (by omega) (by omega)
    have hu : IntKind.u64.wrap m.b[p + j] = m.b[p + j] := wu64 (by omega) (by omega)
    have hor := orU r0 (by omega) hr.1 hr.2
    have hgo := ih (by omega)
    rw [hnext] at hgo
    have hjj : ((j + 1 : Nat) : Int) - 1 = (j : Int) := by omega
    rw [hjj]
    have hc : (0 : Int) ≤ (j : Int) := by omega
    simp [go_sem, get_alloc, n_alloc, get_set, n_set, get_kill, n_kill, writeAt, a11, a21, a31, a41, a51, a61, a71, isNil, hg, hc, hw1, hix, hgs, hx, hu, shiftA, hsh, hw2]
    rw [← hor] at hgo
    exact hgo
theorem load_ok (v : MemV g b M m ba da) (at' : Int) (w : Bool) : call tb prim n_cells_Memory_Load [.ptr M 0, .int .i64 at', .bool w] bar g = some (.tup [.int .i64 (loadM m at' w).1, .bool (loadM m at' w).2], g) := by
  refine call_of tb_cells_Memory_Load (callF_pureW rfl rfl (M_in ?_))
  have hwi := within_ok (bar := g.n) v at' w
  have hsz : m.b.length ≤ 4096 := by have := v.sz; have := v.m0; have := v.m1; omega
  unfold loadM
  by_cases hc : withinM m at' w = true
  · rw [hc] at hwi
    simp only [withinM, Bool.and_eq_true, decide_eq_true_eq] at hc
    have hn : wideN w = 1 ∨ wideN w = 8 := by cases w <;> simp [wideN]
    obtain ⟨p, rfl⟩ := Int.eq_ofNat_of_zero_le hc.1
    obtain ⟨n, hn2⟩ : ∃ n : Nat, wideN w = (n : Int) := ⟨(wideN w).toNat, by omega⟩
    rw [hn2] at hwi hc hn
    have hw1 : IntKind.i64.wrap ((n : Int) - 1) = (n : Int) - 1 := w64 (by omega) (by omega)
    have htrue : withinM m (p : Int) w = true := by simp [withinM, hn2]; omega
    rw [htrue]
    simp only [if_true, hn2, Int.toNat_natCast]
    simp [f_cells_Memory_Load, env0, go_sem, get_alloc, n_alloc, get_set, n_set, get_kill, n_kill, writeAt, a11, a21, a31, a41, a51, a61, a71, hwi, hw1]
    have h0 : leN ((m.b.drop (p + n)).take (n - n)) = 0 := by simp [leN]
    rw [← h0]
    refine load_loop (bar := g.n) v p n (by omega) (by omega) _ (fun e he => ?_) n (Nat.le_refl _)
    simp [go_sem, endP, endI, resultsA, resultA, freezeL, freezeV, AV.free.freeL, AV.free, packA, dropS, he, wI]
  · have hcf : withinM m at' w = false := by simpa using hc
    rw [hcf] at hwi ⊢
    simp [f_cells_Memory_Load, env0, go_sem, get_alloc, n_alloc, get_set, n_set, get_kill, n_kill, writeAt, a11, a21, a31, a41, a51, a61, a71, endP, endI, resultsA, resultA, freezeL, freezeV, AV.free.freeL, AV.free, packA, dropS, hwi]
end
end Go.Ev
set_option linter.unusedSectionVars false
namespace Go.Ev
open Go
/-- Bytes laid one behind the other. -/
def putL (b : List Int) : Nat → List Int → List Int
  | _, [] => b
  | p, v :: r => putL (b.set p v) (p + 1) r
theorem putL_len : ∀ (l : List Int) (b : List Int) (p : Nat), (putL b p l).length = b.length
  | [], b, p => rfl
  | v :: r, b, p => by simp only [putL]; rw [putL_len r]; simp
theorem putL_eq : ∀ (l : List Int) (b : List Int) (p : Nat), p + l.length ≤ b.length → putL b p l = putB b p l
  | [], b, p, h => by simp [putL, putB]
  | v :: r, b, p, h => by
    simp only [List.length_cons] at h
    simp only [putL]
    rw [putL_eq r _ _ (by simp; omega)]
    unfold putB
    have e1 : (b.set p v).take (p + 1) = b.take p ++ [v] := by
      rw [List.set_eq_take_append_cons_drop, if_pos (by omega), List.take_append, List.take_take]
      simp [show min (p + 1) p = p by omega, show p + 1 - p = 1 by omega, show min p b.length = p by omega]
    have e2 : (b.set p v).drop (p + 1 + r.length) = b.drop (p + (v :: r).length) := by
      rw [List.drop_set_of_lt (by omega)]; simp only [List.length_cons]; congr 1; omega
    rw [e1, e2]; simp
theorem putL_rng : ∀ (l : List Int) (b : List Int) (p : Nat), (∀ x ∈ b, 0 ≤ x ∧ x < 256) → (∀ x ∈ l, 0 ≤ x ∧ x < 256) → ∀ x ∈ putL b p l, 0 ≤ x ∧ x < 256
  | [], b, p, h, _ => h
  | v :: r, b, p, h, h2 => by
    refine putL_rng r _ _ (fun x hx => ?_) (fun x hx => h2 x (List.mem_cons_of_mem _ hx))
    rcases List.mem_or_eq_of_mem_set hx with hx | rfl
    · exact h x hx
    · exact h2 _ (List.mem_cons_self ..)
theorem markD_len : ∀ (k : Nat) (d : List Bool) (p : Nat), (markD d p k).length = d.length
  | 0, d, p => rfl
  | k + 1, d, p => by simp only [markD]; rw [markD_len k]; simp
theorem leB_rng : ∀ (k : Nat) (n : Int), ∀ x ∈ leB k n, 0 ≤ x ∧ x < 256
  | 0, n, x, h => by simp [leB] at h
  | k + 1, n, x, h => by
    simp only [leB, List.mem_cons] at h
    rcases h with rfl | h
    · omega
    · exact leB_rng k _ x h
theorem leB_len : ∀ (k : Nat) (n : Int), (leB k n).length = k
  | 0, _ => rfl
  | k + 1, n => by simp [leB, leB_len k]
theorem splice_set {A : Type} {c : A → AV} (l : List A) (i : Nat) (x : A) (hi : i < l.length) : splice (l.map c) i [c x] = (l.set i x).map c := by
  unfold splice
  rw [List.map_set, List.set_eq_take_append_cons_drop, if_pos (by simpa using hi)]
  simp
theorem wu8 (x : Int) : IntKind.u8.wrap x = x % 256 := by
  show IntKind.wrap .u8 x = _
  simp [IntKind.wrap, IntKind.signed, IntKind.bits]
section
variable {bar b M : Nat} {g : H} {m : Mem} {ba da : AV}
/-- One byte stored. -/
theorem MemV.put (v : MemV g b M m ba da) {p : Nat} {x : Int} (hp : p < m.b.length) (hx : 0 ≤ x ∧ x < 256) : ∃ id all full, ba = .sl id 0 1 m.b.length full ∧ b ≤ id ∧ g.get id = some (.cells all 0) ∧ p + 1 ≤ all.length ∧ id ≠ M ∧ ¬ da.isAt id ∧
    MemV (g.set id (.cells (splice all p [.int .u8 x]) 0)) b M ⟨m.b.set p x, m.most, m.dirty⟩ ba da := by
  have hos := v.ob
  obtain ⟨id, all, full, e, hb, hl, hgs, hle, _, _, _, hset, _⟩ := hos.cases (by omega)
  refine ⟨id, all, full, e, hb, hgs, by omega, fun q => v.nb (by rw [e]; exact q), fun q => v.ap id (by rw [e]; rfl) q, ?_⟩
  have hidM : M ≠ id := fun q => v.nb (by rw [e]; exact q.symm)
  refine ⟨by rw [get_set_ne hidM]; exact v.get, v.bM, v.lt, ?_, v.od.mono (Nat.le_refl _) (fun j hj => get_set_ne (fun q => v.ap id (by rw [e]; rfl) (q ▸ hj))), v.nb, v.nd, v.ap, by simpa using v.sz, v.m0, v.m1, fun y hy => ?_⟩
  · have := hset (g.set id (.cells (splice all p [.int .u8 x]) 0)) p [.int .u8 x] (by simp; omega) rfl (Nat.le_refl _) (by rw [get_set, if_pos rfl])
    rw [show splice (byC m.b) p [AV.int .u8 x] = byC (m.b.set p x) from splice_set m.b p x hp] at this
    simpa using this
  · rcases List.mem_or_eq_of_mem_set hy with hy | rfl
    · exact v.rng y hy
    · exact hx
/-- One page marked. -/
theorem MemV.mark (v : MemV g b M m ba da) {p : Nat} (hp : p < m.dirty.length) : ∃ id all full, da = .sl id 0 1 m.dirty.length full ∧ b ≤ id ∧ g.get id = some (.cells all 0) ∧ p + 1 ≤ all.length ∧ id ≠ M ∧ ¬ ba.isAt id ∧
    MemV (g.set id (.cells (splice all p [.bool true]) 0)) b M ⟨m.b, m.most, m.dirty.set p true⟩ ba da := by
  have hos := v.od
  obtain ⟨id, all, full, e, hb, hl, hgs, hle, _, _, _, hset, _⟩ := hos.cases (by omega)
  refine ⟨id, all, full, e, hb, hgs, by omega, fun q => v.nd (by rw [e]; exact q), fun q => v.ap id q (by rw [e]; rfl), ?_⟩
  have hidM : M ≠ id := fun q => v.nd (by rw [e]; exact q.symm)
  refine ⟨by rw [get_set_ne hidM]; exact v.get, v.bM, v.lt, v.ob.mono (Nat.le_refl _) (fun j hj => get_set_ne (fun q => v.ap j hj (by rw [e, q]; rfl))), ?_, v.nb, v.nd, v.ap, by simpa using v.sz, v.m0, by simpa using v.m1, v.rng⟩
  have := hset (g.set id (.cells (splice all p [.bool true]) 0)) p [.bool true] (by simp; omega) rfl (Nat.le_refl _) (by rw [get_set, if_pos rfl])
  rw [show splice (boC m.dirty) p [AV.bool true] = boC (m.dirty.set p true) from splice_set m.dirty p true hp] at this
  simpa using this
/-- What a store leaves as it was. -/
def MKeep (g g' : H) (ba da : AV) : Prop := g'.n = g.n ∧ ∀ j, ¬ ba.isAt j → ¬ da.isAt j → g'.get j = g.get j
theorem store_loop (hb : bar ≤ b) (val : Int) (p n : Nat) (hn : n ≤ 8) (g0 : H) (Q : Ex → Env → H → Prop) : ∀ (k i : Nat) (g : H) (m : Mem) (nv : Int), n = i + k → p + n ≤ m.b.length → nv = val / 256 ^ i → MemV g b M m ba da → MKeep g0 g ba da →
    (∀ e g', MemV g' b M ⟨putL m.b (p + i) (leB k nv), m.most, markD m.dirty (p + i) k⟩ ba da → MKeep g0 g' ba da → Q (.exit 0) e g') →
    wpL (call tb prim) bar [0, 1, 2, 22, 23] l0_cells_Memory_Store [(0, .ptr M 0), (1, .int .i64 p), (2, .int .i64 val), (22, .int .i64 n), (23, .int .i64 i)] g Q := by
  intro k
  induction k with
  | zero =>
    intro i g m nv hk hp hnv v hk0 hq
    refine M_loop l0_cells_Memory_Store.eq_1 ?_
    have c : ¬ (i : Int) < (n : Int) := by omega
    simp [go_sem, c]
    exact hq _ g v hk0
  | succ k ih =>
    intro i g m nv hk hp hnv v hk0 hq
    refine M_loop l0_cells_Memory_Store.eq_1 ?_
    have hsz : m.b.length ≤ 4096 := by have := v.sz; have := v.m0; have := v.m1; omega
    have hlt : p + i < m.b.length := by omega
    have hdl : (p + i) / 64 < m.dirty.length := by have := v.sz; omega
    have c : (i : Int) < (n : Int) := by omega
    have hg := v.get
    have hw1 : IntKind.i64.wrap ((p : Int) + (i : Int)) = ((p + i : Nat) : Int) := by rw [w64 (by omega) (by omega)]; omega
    have hw8 : IntKind.i64.wrap (8 * (i : Int)) = ((8 * i : Nat) : Int) := by rw [w64 (by omega) (by omega)]; omega
    have hwn : IntKind.i64.wrap ((i : Int) + 1) = ((i + 1 : Nat) : Int) := w64_succ (by omega)
    have hsh : shiftA .shr .i64 val ((8 * i : Nat) : Int) = some (.int .i64 nv) := by
      have c0 : ¬ ((8 * i : Nat) : Int) < 0 := by omega
      simp only [shiftA]
      rw [if_neg c0]
      have : min (((8 * i : Nat) : Int).toNat) IntKind.i64.bits = 8 * i := by show min _ 64 = _; omega
      rw [this, Int.fdiv_eq_ediv_of_nonneg _ (Int.pow_nonneg (by omega)), hnv]
      have : (2 : Int) ^ (8 * i) = 256 ^ i := by rw [Int.pow_mul]; rfl
      rw [this]
    have hsh' : shiftA .shr .i64 val (8 * (i : Int)) = some (.int .i64 nv) := by rw [← hsh]; congr 1
    have hu8 : IntKind.u8.wrap nv = nv % 256 := wu8 nv
    obtain ⟨id, all, full, e1, hbi, hgs, hal, hidM, hidd, v1⟩ := v.put (p := p + i) (x := nv % 256) hlt (by omega)
    obtain ⟨id2, all2, full2, e2, hbi2, hgs2, hal2, hidM2, hidb2, v2⟩ := v1.mark (p := (p + i) / 64) hdl
    simp only at e2 v2
    have hix : indexIn (.int .i64 ((p + i : Nat) : Int)) m.b.length = some (p + i) := by
      simp only [indexIn]; rw [if_pos (by omega), Int.toNat_natCast]
    have hq64 : IntKind.i64.wrap (((p + i : Nat) : Int) / 64) = ((p + i : Nat) : Int) / 64 := w64 (by omega) (by omega)
    have hix2 : indexIn (.int .i64 (((p + i : Nat) : Int) / 64)) m.dirty.length = some ((p + i) / 64) := by
      have : (((p + i : Nat) : Int) / 64).toNat = (p + i) / 64 := by omega
      simp only [indexIn]; rw [if_pos (by omega), this]
    have hne2 : ¬ id2 = id := fun q => hidb2 (by rw [e1, q]; rfl)
    have hgs3 : g.get id2 = some (.cells all2 0) := by rw [← hgs2, get_set_ne hne2]
    have hbid : bar ≤ id := Nat.le_trans hb hbi
    have hbid2 : bar ≤ id2 := Nat.le_trans hb hbi2
    have hMid : ¬ M = id := fun q => hidM q.symm
    have hkeep : MKeep g0 ((g.set id (.cells (splice all (p + i) [.int .u8 (nv % 256)]) 0)).set id2 (.cells (splice all2 ((p + i) / 64) [.bool true]) 0)) ba da := by
      refine ⟨by simp only [n_set]; exact hk0.1, fun j h1 h2 => ?_⟩
      rw [get_set_ne (fun q => h2 (by rw [e2, q]; rfl)), get_set_ne (fun q => h1 (by rw [e1, q]; rfl))]
      exact hk0.2 j h1 h2
    have hgo := ih (i + 1) _ ⟨m.b.set (p + i) (nv % 256), m.most, m.dirty.set ((p + i) / 64) true⟩ (nv / 256) (by omega) (by simp; omega) (by rw [hnv, Int.ediv_ediv_of_nonneg (Int.pow_nonneg (by omega)), ← Int.pow_succ]) v2 hkeep (fun e g' h1 h2 => hq e g' (by
      rw [show p + i + 1 = p + (i + 1) by omega] at *
      simpa [putL, leB, markD, Nat.add_assoc] using h1) h2)
    obtain ⟨P, hP⟩ : ∃ P, P = p + i := ⟨_, rfl⟩
    rw [← hP] at hw1 hix hq64 hix2 hal hgs2 hal2 hgo
    subst e1 e2
    have hd64 : ¬ (64 : Int) = 0 := by omega
    simp [go_sem, get_alloc, n_alloc, get_set, n_set, get_kill, n_kill, writeAt, a11, a21, a31, a41, a51, a61, a71, c, isNil, hg, hw1, hw8, hsh', hu8, hix, hgs, hbid, hal, hMid, hq64, hix2, hgs3, hne2, hbid2, hal2, hwn, o_int]
    exact hgo
theorem store_ok (v : MemV g b M m ba da) (hb : bar ≤ b) (at' n : Int) (w : Bool) : ∃ g', call tb prim n_cells_Memory_Store [.ptr M 0, .int .i64 at', .int .i64 n, .bool w] bar g = some (.bool (storeM m at' n w).2, g') ∧ MemV g' b M (storeM m at' n w).1 ba da ∧ MKeep g g' ba da := by
  have hwi := fun g' : H => within_ok (bar := bar) v at' w
  have hsz : m.b.length ≤ 4096 := by have := v.sz; have := v.m0; have := v.m1; omega
  unfold storeM
  by_cases hc : withinM m at' w = true
  · have hc0 := hc
    rw [hc]
    simp only [withinM, Bool.and_eq_true, decide_eq_true_eq] at hc
    have hn : wideN w = 1 ∨ wideN w = 8 := by cases w <;> simp [wideN]
    obtain ⟨p, rfl⟩ := Int.eq_ofNat_of_zero_le hc.1
    obtain ⟨k, hk2⟩ : ∃ k : Nat, wideN w = (k : Int) := ⟨(wideN w).toNat, by omega⟩
    rw [hk2] at hc hn
    simp only [if_true, hk2, Int.toNat_natCast]
    have hwi' : call tb prim n_cells_Memory_within [.ptr M 0, .int .i64 (p : Int), .bool w] bar g = some (.tup [.int .i64 k, .bool true], g) := by rw [within_ok v, hc0, hk2]
    obtain ⟨r, g', hcall, rfl, h1, h2⟩ := callF_K (o := call tb prim) (F := f_cells_Memory_Store) (bar := bar) (h := g) (args := [.ptr M 0, .int .i64 (p : Int), .int .i64 n, .bool w]) (P := fun r g' => r = .bool true ∧ MemV g' b M ⟨putB m.b p (leB k n), m.most, markD m.dirty p k⟩ ba da ∧ MKeep g g' ba da) rfl rfl (fun K hK => by
      simp [f_cells_Memory_Store, env0, go_sem, get_alloc, n_alloc, get_set, n_set, get_kill, n_kill, writeAt, a11, a21, a31, a41, a51, a61, a71, hwi']
      refine store_loop hb n p k (by omega) g _ k 0 g m n (by omega) (by omega) (by simp) v ⟨rfl, fun _ _ _ => rfl⟩ (fun e g' h1 h2 => ?_)
      rw [Nat.add_zero, putL_eq _ _ _ (by rw [leB_len]; omega)] at h1
      simp [go_sem, endP, endI, resultsA, resultA, freezeL, freezeV, AV.free.freeL, AV.free, packA, dropS]
      exact ⟨_, _, ⟨rfl, rfl⟩, hK _ _ ⟨rfl, h1, h2⟩⟩)
    exact ⟨g', call_of tb_cells_Memory_Store hcall, h1, h2⟩
  · have hcf : withinM m at' w = false := by simpa using hc
    rw [hcf]
    have hwi' : call tb prim n_cells_Memory_within [.ptr M 0, .int .i64 at', .bool w] bar g = some (.tup [.int .i64 (wideN w), .bool false], g) := by rw [within_ok v, hcf]
    obtain ⟨r, g', hcall, rfl, rfl⟩ := callF_K (o := call tb prim) (F := f_cells_Memory_Store) (bar := bar) (h := g) (args := [.ptr M 0, .int .i64 at', .int .i64 n, .bool w]) (P := fun r g' => r = .bool false ∧ g' = g) rfl rfl (fun K hK => by
      simp [f_cells_Memory_Store, env0, go_sem, get_alloc, n_alloc, get_set, n_set, get_kill, n_kill, writeAt, a11, a21, a31, a41, a51, a61, a71, hwi']
      simp [go_sem, endP, endI, resultsA, resultA, freezeL, freezeV, AV.free.freeL, AV.free, packA, dropS]
      exact ⟨_, _, ⟨rfl, rfl⟩, hK _ _ ⟨rfl, rfl⟩⟩)
    exact ⟨_, call_of tb_cells_Memory_Store hcall, v, ⟨rfl, fun _ _ _ => rfl⟩⟩
end
end Go.Ev
set_option linter.unusedSectionVars false
namespace Go.Ev
open Go
theorem vw_source {k : Nat} {h : H} {a : AV} {n : Nat} {cs : List AV} (v : Vw k h a n cs) : source k h a = some (n, cs) := by
  obtain ⟨h1, h2, ⟨rfl, rfl⟩ | ⟨full, rfl⟩ | ⟨id, off, full, all, p, rfl, e2, e3, e4, e5⟩⟩ := v
  · have : cs = [] := List.length_eq_zero_iff.mp (by rw [h1]; simp)
    subst this; rfl
  · simp [Go.Ev.source, h1]
  · simp [Go.Ev.source, e3, e4, e5]
/-- A list's elements behind an empty one. -/
theorem appR_empty {k : Nat} {h : H} {bar : Nat} {a : AV} {n : Nat} {cs : List AV} (v : Vw k h a n cs) (hc : cs.all AV.one = true) (hk : 0 < k) (bytes : Nat) (hs : n * bytes ≤ 140737488355328) (E : Nat) (hE : h.get E = some (.cells [] 0)) (hbE : bar ≤ E) (hEn : E < h.n) (hb : bar ≤ h.n) :
    ∃ a' h', appR bar k bytes (some (.sl E 0 k 0 true)) (some a) h = some (a', h') ∧ OW k h' bar a' n cs ∧ h.n ≤ h'.n ∧ (∀ j, j < h.n → h'.get j = h.get j) ∧ (∀ j, a'.isAt j → E ≤ j) ∧ a' ≠ .nilsl := by
  by_cases hn : n = 0
  · subst hn
    have : cs = [] := List.length_eq_zero_iff.mp (by rw [v.1]; simp)
    subst this
    refine ⟨.sl E 0 k 0 true, h, ?_, ⟨by simp, rfl, .inr ⟨E, [], true, rfl, hbE, hEn, by simpa using hE⟩⟩, Nat.le_refl _, fun _ _ => rfl, fun j hj => by cases hj; exact Nat.le_refl _, by simp⟩
    simp only [appR, vw_source v, if_pos hk, appendA, if_true]
  · refine ⟨.sl h.n 0 k n false, h.alloc (.cells cs 0), ?_, ⟨v.1, hc, .inr ⟨h.n, [], false, rfl, hb, by simp [n_alloc], by simp [get_alloc]⟩⟩, by simp [n_alloc], fun j hj => by rw [get_alloc, if_neg (by omega)], fun j hj => by cases hj; omega, by simp⟩
    simp only [appR, vw_source v, if_pos hk, appendA, if_true]
    rw [if_neg hn, hE]
    simp only
    rw [if_pos ⟨by simp, by simpa using hs, by have := v.2.1; omega⟩]
    simp
section
variable {bar : Nat} {g : H} {a : AV} {n : Nat} {cs : List AV}
theorem clone_byte_ok (v : Vw 1 g a n cs) (ha : isNilK 1 a = some false) (hc : cs.all AV.one = true) (hn : n ≤ 100000) (hb : bar ≤ g.n) :
    ∃ g' r, call tb prim n_slices_Clone_byte_byte [a] bar g = some (r, g') ∧ OW 1 g' g.n r n cs ∧ g.n ≤ g'.n ∧ ∀ j, j < g.n → g'.get j = g.get j := by
  have v2 : Vw 1 (g.alloc (.cells [] 0)) a n cs := v.mono (Ag.alloc _ (Nat.le_refl _)) (Nat.le_refl _)
  obtain ⟨r, g', e1, o1, n1, f1, i1, hnn⟩ := appR_empty (bar := bar) v2 hc (by omega) 1 (by omega) g.n (by rw [get_alloc, if_pos rfl]) hb (by simp [n_alloc]) (by simp [n_alloc]; omega)
  have hone : r.one = true := o1.one
  have hfin : OW 1 g' g.n r n cs ∧ g.n ≤ g'.n ∧ ∀ j, j < g.n → g'.get j = g.get j :=
    ⟨o1.up i1, by simp [n_alloc] at n1; omega, fun j hj => by rw [f1 j (by simp [n_alloc]; omega), get_alloc, if_neg (by omega)]⟩
  obtain ⟨x, g2, hcall, hr, h1⟩ := callF_K (o := call tb prim) (F := f_slices_Clone_byte_byte) (bar := bar) (h := g) (args := [a]) (P := fun x g2 => x = r ∧ g2 = g') rfl rfl (fun K hK => by
    simp [f_slices_Clone_byte_byte, env0, go_sem, get_alloc, n_alloc, get_set, n_set, get_kill, n_kill, writeAt, a11, a21, a31, a41, a51, a61, a71, ha, evParts, fillA, e1]
    simp [go_sem, endP, endI, resultsA, resultA, freezeL, freezeV, AV.free.freeL, AV.free, packA, dropS]
    exact ⟨_, _, ⟨rfl, rfl⟩, hK _ _ ⟨rfl, rfl⟩⟩)
  subst hr h1
  exact ⟨_, _, call_of tb_slices_Clone_byte_byte hcall, hfin⟩
theorem may_ok (p mo : Int) : call tb prim n_cells_may [.int .i64 p, .int .i64 mo] bar g = some (.bool (decide (0 ≤ p) && decide (p ≤ mo) && decide (mo ≤ 64)), g) := by
  refine call_of tb_cells_may (callF_pureW rfl rfl (M_in ?_))
  by_cases h0 : 0 ≤ p
  · by_cases h1 : p ≤ mo
    · simp [f_cells_may, env0, go_sem, get_alloc, n_alloc, get_set, n_set, get_kill, n_kill, writeAt, a11, a21, a31, a41, a51, a61, a71, endP, endI, resultsA, resultA, freezeL, freezeV, AV.free.freeL, AV.free, packA, dropS, h0, h1]
    · simp [f_cells_may, env0, go_sem, get_alloc, n_alloc, get_set, n_set, get_kill, n_kill, writeAt, a11, a21, a31, a41, a51, a61, a71, endP, endI, resultsA, resultA, freezeL, freezeV, AV.free.freeL, AV.free, packA, dropS, h0, h1]
  · simp [f_cells_may, env0, go_sem, get_alloc, n_alloc, get_set, n_set, get_kill, n_kill, writeAt, a11, a21, a31, a41, a51, a61, a71, endP, endI, resultsA, resultA, freezeL, freezeV, AV.free.freeL, AV.free, packA, dropS, h0]
theorem rep_byte (n : Nat) : rep [AV.int .u8 0] n = byC (List.replicate n 0) := by
  induction n with
  | zero => rfl
  | succ n ih => simp only [rep, ih, List.replicate_succ]; rfl
theorem rep_bool (n : Nat) : rep [AV.bool false] n = boC (List.replicate n false) := by
  induction n with
  | zero => rfl
  | succ n ih => simp only [rep, ih, List.replicate_succ]; rfl
theorem of_ok {l : List Int} {q : Nat} {mo : Int} (v : Vw 1 g a (64 * q) (byC l)) (ha : isNilK 1 a = some false) (hq : (q : Int) ≤ mo) (hmo : mo ≤ 64) (hl : l.length = 64 * q) (hr : ∀ x ∈ l, 0 ≤ x ∧ x < 256) (hb : bar ≤ g.n) :
    ∃ g' M ba da, call tb prim n_cells_Of [a, .int .i64 mo] bar g = some (.ptr M 0, g') ∧ MemV g' g.n M ⟨l, mo, List.replicate q false⟩ ba da ∧ g.n ≤ g'.n ∧ ∀ j, j < g.n → g'.get j = g.get j := by
  have hlen := v.len
  have hone : (byC l).all AV.one = true := by rw [List.all_eq_true]; intro x hx; simp only [byC, List.mem_map] at hx; obtain ⟨y, _, rfl⟩ := hx; rfl
  obtain ⟨g1, ba, ec, ob, n1, f1⟩ := clone_byte_ok (bar := bar) v ha hone (by omega) hb
  have hone2 : ba.one = true := ob.one
  have hmay := fun g : H => may_ok (bar := bar) (g := g) (q : Int) mo
  have hm : (decide (0 ≤ (q : Int)) && decide ((q : Int) ≤ mo) && decide (mo ≤ 64)) = true := by simp; omega
  rw [hm] at hmay
  have hrem : (((64 * q : Nat) : Int)).tmod 64 = 0 := by rw [Int.tmod_eq_emod_of_nonneg (by omega)]; omega
  have hquo : IntKind.i64.wrap ((((64 * q : Nat) : Int)).tdiv 64) = (q : Int) := by rw [Int.tdiv_eq_ediv_of_nonneg (by omega), w64 (by omega) (by omega)]; omega
  obtain ⟨N, hN⟩ : ∃ N : Int, N = ((64 * q : Nat) : Int) := ⟨_, rfl⟩
  rw [← hN] at hrem hquo hlen
  have hq0 : (0 : Int) ≤ (q : Int) := by omega
  have hq1 : (q : Int) ≤ 140737488355328 := by omega
  have hq2 : (q : Int) ≤ 9223372036854775807 := by omega
  obtain ⟨g3, hg3⟩ : ∃ g3, g3 = (g1.alloc (.cells (boC (List.replicate q false)) 0)).alloc (.cells [ba, .int .i64 mo, .sl g1.n 0 1 q true] 0) := ⟨_, rfl⟩
  have n3 : g3.n = g1.n + 2 := by rw [hg3]; simp [n_alloc]
  have k3 : ∀ j, j < g1.n → g3.get j = g1.get j := fun j hj => by rw [hg3, get_alloc, if_neg (by simp [n_alloc]; omega), get_alloc, if_neg (by omega)]
  have ga : g3.get (g1.n + 1) = some (.cells [ba, .int .i64 mo, .sl g1.n 0 1 q true] 0) := by rw [hg3, get_alloc, if_pos (by simp [n_alloc])]
  have gd : g3.get g1.n = some (.cells (boC (List.replicate q false)) 0) := by rw [hg3, get_alloc, if_neg (by simp [n_alloc]), get_alloc, if_pos rfl]
  have hba : ∀ j, ba.isAt j → g.n ≤ j ∧ j < g1.n := fun j hj => ob.at_lt hj
  have hM : MemV g3 g.n (g1.n + 1) ⟨l, mo, List.replicate q false⟩ ba (.sl g1.n 0 1 q true) := by
    refine ⟨ga, by omega, by omega, ?_, ?_, fun h => by have := hba _ h; omega, fun h => by have h' : g1.n = g1.n + 1 := h; omega, fun j h1 h2 => by have h' : g1.n = j := h2; have := hba _ h1; omega, by simp [hl], ⟨by simp only; omega, hmo⟩, by simp; exact hq, hr⟩
    · have := ob.mono (h' := g3) (by omega) (fun j hj => k3 j (hba j hj).2)
      show OW 1 g3 g.n ba l.length _
      rw [hl]; exact this
    · refine ⟨by simp [boC], ?_, .inr ⟨g1.n, [], true, by simp, by omega, by omega, by simpa using gd⟩⟩
      rw [List.all_eq_true]; intro x hx; simp only [boC, List.mem_map] at hx; obtain ⟨y, _, rfl⟩ := hx; rfl
  obtain ⟨x, g2, hcall, hr2, h1⟩ := callF_K (o := call tb prim) (F := f_cells_Of) (bar := bar) (h := g) (args := [a, .int .i64 mo]) (P := fun x g2 => x = .ptr (g1.n + 1) 0 ∧ g2 = g3) rfl rfl (fun K hK => by
    simp [f_cells_Of, env0, go_sem, get_alloc, n_alloc, get_set, n_set, get_kill, n_kill, writeAt, a11, a21, a31, a41, a51, a61, a71, hlen, goI, ← hN, hrem, hquo, hmay, ec, hq0, hq1, hq2, rep_bool, evParts, fillA, hone2, sp30, sp31, sp32]
    rw [← hg3]
    simp [go_sem, endP, endI, resultsA, resultA, freezeL, freezeV, AV.free.freeL, AV.free, packA, dropS]
    exact ⟨_, _, ⟨rfl, rfl⟩, hK _ _ ⟨rfl, rfl⟩⟩)
  subst hr2 h1
  exact ⟨_, _, _, _, call_of tb_cells_Of hcall, hM, by omega, fun j hj => by rw [k3 j (by omega), f1 j hj]⟩
theorem new_ok (p : Nat) (mo : Int) (hp : (p : Int) ≤ mo) (hmo : mo ≤ 64) (hb : bar ≤ g.n) :
    ∃ g' M ba da, call tb prim n_cells_New [.int .i64 p, .int .i64 mo] bar g = some (.ptr M 0, g') ∧ MemV g' g.n M (zeroM p mo) ba da ∧ g.n ≤ g'.n ∧ ∀ j, j < g.n → g'.get j = g.get j := by
  have hmay := fun g : H => may_ok (bar := bar) (g := g) (p : Int) mo
  have hm : (decide (0 ≤ (p : Int)) && decide ((p : Int) ≤ mo) && decide (mo ≤ 64)) = true := by simp; omega
  rw [hm] at hmay
  have hmul : IntKind.i64.wrap ((p : Int) * 64) = ((64 * p : Nat) : Int) := by rw [w64 (by omega) (by omega)]; omega
  obtain ⟨h1, hh1⟩ : ∃ h1, h1 = g.alloc (.cells (byC (List.replicate (64 * p) 0)) 0) := ⟨_, rfl⟩
  have n1 : h1.n = g.n + 1 := by rw [hh1]; simp [n_alloc]
  have hv : Vw 1 h1 (.sl g.n 0 1 (64 * p) true) (64 * p) (byC (List.replicate (64 * p) 0)) :=
    ⟨by simp [byC], by omega, .inr (.inr ⟨g.n, 0, true, _, 0, rfl, by omega, by rw [hh1, get_alloc, if_pos rfl], by simp [byC], by simp [byC]⟩)⟩
  obtain ⟨g', M, ba, da, e1, m1, n2, f2⟩ := of_ok (bar := bar) (q := p) (mo := mo) hv rfl hp hmo (by simp) (fun x hx => by rw [List.mem_replicate] at hx; omega) (by omega)
  have hz : zeroM p mo = ⟨List.replicate (64 * p) 0, mo, List.replicate p false⟩ := by simp [zeroM, Nat.mul_comm]
  obtain ⟨N, hN⟩ : ∃ N : Int, N = ((64 * p : Nat) : Int) := ⟨_, rfl⟩
  have hNn : N.toNat = 64 * p := by omega
  rw [← hN] at hmul
  have hq0 : (0 : Int) ≤ N := by omega
  have hq1 : N ≤ 140737488355328 := by omega
  have hq2 : N ≤ 9223372036854775807 := by omega
  rw [hh1] at e1
  obtain ⟨x, g2, hcall, hr2, h2⟩ := callF_K (o := call tb prim) (F := f_cells_New) (bar := bar) (h := g) (args := [.int .i64 p, .int .i64 mo]) (P := fun x g2 => x = .ptr M 0 ∧ g2 = g') rfl rfl (fun K hK => by
    simp [f_cells_New, env0, go_sem, get_alloc, n_alloc, get_set, n_set, get_kill, n_kill, writeAt, a11, a21, a31, a41, a51, a61, a71, hmay, hmul, hq0, hq1, hq2, hNn, rep_byte, e1]
    simp [go_sem, endP, endI, resultsA, resultA, freezeL, freezeV, AV.free.freeL, AV.free, packA, dropS]
    exact ⟨_, _, ⟨rfl, rfl⟩, hK _ _ ⟨rfl, rfl⟩⟩)
  subst hr2 h2
  refine ⟨_, M, ba, da, call_of tb_cells_New hcall, ?_, by omega, fun j hj => by rw [f2 j (by omega), hh1, get_alloc, if_neg (by omega)]⟩
  rw [hz]
  exact ⟨m1.get, by have := m1.bM; omega, m1.lt, m1.ob.bar_le (by omega), m1.od.bar_le (by omega), m1.nb, m1.nd, m1.ap, m1.sz, m1.m0, m1.m1, m1.rng⟩
end
end Go.Ev
set_option linter.unusedSectionVars false
namespace Go.Ev
open Go
def anC (x : Int × Bool) : List AV := [.int .i64 x.1, .bool x.2]
def asC (x : Int × Int) : List AV := [.int .i32 x.1, .int .i64 x.2]
/-- Answers in object R. -/
structure RowV (g : H) (b : Nat) (R : Nat) (r : Row) (la aa : AV) : Prop where
  get : g.get R = some (.cells [la, aa] 0)
  bR : b ≤ R
  lt : R < g.n
  l : Vw 2 g la r.l.length (r.l.flatMap anC)
  asks : OW 2 g b aa r.asks.length (r.asks.flatMap asC)
  nl : ¬ la.isAt R
  na : ¬ aa.isAt R
  ap : la.apart aa
  sm : r.asks.length ≤ 2000000
theorem Vw.at_lt' {k : Nat} {h : H} {a : AV} {n : Nat} {cs : List AV} (v : Vw k h a n cs) {j : Nat} (hj : a.isAt j) : j < h.n := by
  obtain ⟨_, _, ⟨rfl, _⟩ | ⟨full, rfl⟩ | ⟨id, off, full, all, p, rfl, e2, _⟩⟩ := v
  · exact hj.elim
  · exact hj.elim
  · cases hj; exact e2
theorem Vw.keep {k : Nat} {h h' : H} {a : AV} {n : Nat} {cs : List AV} (v : Vw k h a n cs) (hn : h.n ≤ h'.n) (hf : ∀ j, a.isAt j → h'.get j = h.get j) : Vw k h' a n cs := by
  obtain ⟨h1, h2, h3 | h3 | ⟨id, off, full, all, p, e1, e2, e3, e4, e5⟩⟩ := v
  · exact ⟨h1, h2, .inl h3⟩
  · exact ⟨h1, h2, .inr (.inl h3)⟩
  · exact ⟨h1, h2, .inr (.inr ⟨id, off, full, all, p, e1, by omega, by rw [hf id (by rw [e1]; rfl)]; exact e3, e4, e5⟩)⟩
theorem RowV.mono {g g' : H} {b R : Nat} {r : Row} {la aa : AV} (v : RowV g b R r la aa) (hn : g.n ≤ g'.n) (h0 : g'.get R = g.get R) (h1 : ∀ j, la.isAt j → g'.get j = g.get j) (h2 : ∀ j, aa.isAt j → g'.get j = g.get j) : RowV g' b R r la aa :=
  ⟨by rw [h0]; exact v.get, v.bR, by have := v.lt; omega, v.l.keep hn h1, v.asks.mono hn h2, v.nl, v.na, v.ap, v.sm⟩
section
variable {bar b R : Nat} {g : H} {r : Row} {la aa : AV}
theorem row_new_nil (hb : bar ≤ g.n) : ∃ g', call tb prim n_reply_New [.nilsl] bar g = some (.ptr g.n 0, g') ∧ RowV g' g.n g.n ⟨[], []⟩ .nilsl .nilsl ∧ g'.n = g.n + 1 ∧ ∀ j, j < g.n → g'.get j = g.get j := by
  obtain ⟨x, g2, hcall, hr2, h2⟩ := callF_K (o := call tb prim) (F := f_reply_New) (bar := bar) (h := g) (args := [.nilsl]) (P := fun x g2 => x = .ptr g.n 0 ∧ g2 = g.alloc (.cells [.nilsl, .nilsl] 0)) rfl rfl (fun K hK => by
    simp [f_reply_New, env0, go_sem, get_alloc, n_alloc, get_set, n_set, get_kill, n_kill, writeAt, a11, a21, a31, a41, a51, a61, a71, evParts, fillA, optEv, sliceA, optBound, bound]
    refine M_loop l0_reply_New.eq_1 ?_
    simp [go_sem]
    simp [go_sem, endP, endI, resultsA, resultA, freezeL, freezeV, AV.free.freeL, AV.free, packA, dropS]
    exact ⟨_, _, ⟨rfl, rfl⟩, hK _ _ ⟨rfl, rfl⟩⟩)
  subst hr2 h2
  refine ⟨_, call_of tb_reply_New hcall, ⟨by simp [get_alloc], Nat.le_refl _, by simp [n_alloc], Vw.nil, OW.nil, fun h => h, fun h => h, fun j h => h.elim, by simp⟩, by simp [n_alloc], fun j hj => by rw [get_alloc, if_neg (by omega)]⟩
theorem clone_ask_ok {l : List (Int × Int)} {a : AV} {g0 : H} (v : OW 2 g b a l.length (l.flatMap asC)) (hs : l.length ≤ 2000000) :
    ∃ r, call tb prim n_slices_Clone_api_Ask_api_Ask [a] bar g = some (r, g) ∧ FzV 2 r l.length (l.flatMap asC) := by
  obtain ⟨r, hc, h⟩ := callF_pureK (o := call tb prim) (F := f_slices_Clone_api_Ask_api_Ask) (bar := bar) (h := g) (args := [a]) (P := fun r => FzV 2 r l.length (l.flatMap asC)) rfl rfl (fun K hK => by
    have hone : (l.flatMap asC).all AV.one = true := v.2.1
    have hstill : (l.flatMap asC).all AV.still = true := by
      rw [List.all_eq_true]; intro y hy; rw [List.mem_flatMap] at hy; obtain ⟨u, _, hy⟩ := hy; simp [asC] at hy; rcases hy with rfl | rfl <;> rfl
    by_cases hz : a = .nilsl
    · subst hz
      have hl : l.length = 0 := by
        obtain ⟨_, _, ⟨_, e⟩ | ⟨id, rest, full, e, _⟩⟩ := v
        · exact e
        · cases e
      have hl0 : l = [] := List.length_eq_zero_iff.mp hl
      subst hl0
      simp [f_slices_Clone_api_Ask_api_Ask, env0, go_sem, get_alloc, n_alloc, get_set, n_set, get_kill, n_kill, writeAt, a11, a21, a31, a41, a51, a61, a71, isNilK]
      simp [go_sem, endX, resultsA, resultA, freezeL, AV.free.freeL, packA, freezeV, AV.free]
      exact hK _ ⟨rfl, by simp, .inl ⟨rfl, rfl⟩⟩
    · have ha : isNilK 1 a = some false := by
        obtain ⟨_, _, ⟨e, _⟩ | ⟨id, rest, full, e, _⟩⟩ := v
        · exact absurd e hz
        · subst e; rfl
      have v2 : Vw 2 (g.alloc (.cells [] 0)) a l.length (l.flatMap asC) := (v.vw (by omega)).mono (Ag.alloc _ (Nat.le_refl _)) (Nat.le_refl _)
      obtain ⟨x, g', e1, o1, n1, f1, i1, hnn⟩ := appR_empty (bar := g.n) v2 hone (by omega) 16 (by omega) g.n (by rw [get_alloc, if_pos rfl]) (Nat.le_refl _) (by simp [n_alloc]) (by simp [n_alloc])
      have hone2 : x.one = true := o1.one
      obtain ⟨a', h', hfz, hfv⟩ : ∃ a' h', freezeV g.n 4 g' x = some (a', h') ∧ FzV 2 a' l.length (l.flatMap asC) := by
        obtain ⟨h1, h2, ⟨rfl, e⟩ | ⟨id, rest, full, rfl, g1, g2, g3⟩⟩ := o1
        · exact absurd rfl hnn
        · refine ⟨.fz 2 l.length (l.flatMap asC) full, g'.set id (.cells (l.flatMap asC ++ rest) (max 0 (0 + l.length * 2))), ?_, h1, by omega, .inr ⟨full, rfl⟩⟩
          have hcs : ((l.flatMap asC ++ rest).drop 0).take (l.length * 2) = l.flatMap asC := by rw [List.drop_zero, ← h1, List.take_left]
          have hf : (l.flatMap asC).all AV.free = true := by rw [List.all_eq_true] at hstill ⊢; exact fun x hx => still_free (hstill x hx)
          simp only [freezeV, g3]
          rw [if_pos ⟨g1, by simp [h1]⟩, hcs, freezeL_still hstill]
          simp only
          rw [if_pos ⟨hf, h2⟩]
      simp [f_slices_Clone_api_Ask_api_Ask, env0, go_sem, get_alloc, n_alloc, get_set, n_set, get_kill, n_kill, writeAt, a11, a21, a31, a41, a51, a61, a71, ha, evParts, fillA, e1]
      simp [go_sem, endX, resultsA, resultA, freezeL, AV.free.freeL, packA, hfz, hfv.free]
      exact hK _ hfv)
  exact ⟨r, call_of tb_slices_Clone_api_Ask_api_Ask hc, h⟩
theorem asks_ok (v : RowV g b R r la aa) : ∃ x, call tb prim n_reply_Row_Asks [.ptr R 0] bar g = some (x, g) ∧ FzV 2 x r.asks.length (r.asks.flatMap asC) := by
  obtain ⟨x, hc, h⟩ := callF_pureK (o := call tb prim) (F := f_reply_Row_Asks) (bar := bar) (h := g) (args := [.ptr R 0]) (P := fun x => FzV 2 x r.asks.length (r.asks.flatMap asC)) rfl rfl (fun K hK => by
    obtain ⟨x, e1, h1⟩ := clone_ask_ok (bar := g.n) (g0 := g) v.asks v.sm
    have hg := v.get
    simp [f_reply_Row_Asks, env0, go_sem, get_alloc, n_alloc, get_set, n_set, get_kill, n_kill, writeAt, a11, a21, a31, a41, a51, a61, a71, isNil, hg, e1]
    have hfz : freezeV g.n 4 g x = some (x, g) := by
      obtain ⟨h1, h2, ⟨rfl, _⟩ | ⟨f, rfl⟩⟩ := h1 <;> simp [freezeV]
    simp [go_sem, endX, resultsA, resultA, freezeL, AV.free.freeL, packA, hfz, h1.free]
    exact hK _ h1)
  exact ⟨x, call_of tb_reply_Row_Asks hc, h⟩
end
end Go.Ev
set_option linter.unusedSectionVars false
namespace Go.Ev
open Go
theorem spR0 (a b v : AV) : splice [a, b] 0 [v] = [v, b] := Eq.trans rfl rfl
theorem spR1 (a b v : AV) : splice [a, b] 1 [v] = [a, v] := Eq.trans rfl rfl
theorem spR01 (a b u v : AV) : splice [a, b] 0 [u, v] = [u, v] := Eq.trans rfl rfl
/-- A list without its first. -/
theorem Vw.tail {A : Type} {c : A → List AV} {k : Nat} (hk : ∀ x, (c x).length = k) {h : H} {a : AV} {x : A} {l : List A} (v : Vw k h a (x :: l).length ((x :: l).flatMap c)) :
    ∃ a', sliceA k a (some (.int .i64 1)) none none = some a' ∧ a'.one = true ∧ (∀ j, a'.isAt j → a.isAt j) ∧ Vw k h a' l.length (l.flatMap c) := by
  have e1 : optBound 0 (some (AV.int .i64 1)) = some 1 := rfl
  have e2 : ∀ n, optBound n none = some n := fun _ => rfl
  have hd : ((x :: l).flatMap c).drop (1 * k) = l.flatMap c := by rw [flat_drop hk]; rfl
  have hll : (l.flatMap c).length = l.length * k := flat_len hk l
  obtain ⟨hl, hn, ⟨_, e⟩ | ⟨full, rfl⟩ | ⟨id, off, full, all, q, rfl, hid, hgi, hle, hc⟩⟩ := v
  · simp at e
  · refine ⟨.fz k ((x :: l).length - 1) ((((x :: l).flatMap c).drop (1 * k)).take (((x :: l).length - 1) * k)) (full && decide ((x :: l).length = (x :: l).length)), ?_, rfl, fun j hj => hj, ?_⟩
    · simp only [sliceA, e1, e2]
      rw [if_pos ⟨trivial, hl, by simp, Nat.le_refl _⟩]
    · rw [hd, List.take_of_length_le (by rw [hll]; simp)]
      exact Vw.fz hll (by have : (x :: l).length = l.length + 1 := rfl; omega)
  · refine ⟨.sl id (off + 1 * k) k ((x :: l).length - 1) (full && decide ((x :: l).length = (x :: l).length)), ?_, rfl, fun j hj => hj, ?_⟩
    · simp only [sliceA, e1, e2]
      rw [if_pos ⟨trivial, by simp, Nat.le_refl _⟩]
    · refine ⟨hll, by have : (x :: l).length = l.length + 1 := rfl; omega, .inr (.inr ⟨id, off + 1 * k, _, all, q, rfl, hid, hgi, ?_, ?_⟩)⟩
      · simp only [List.length_cons, Nat.succ_mul] at hle; omega
      · rw [← hd, ← hc, List.drop_take, List.drop_drop]
        congr 1
        simp only [List.length_cons, Nat.succ_mul]; omega
/-- The first row of a list. -/
theorem S_vrow0 {o : Oracle} {bar : Nat} {g : H} {v : AV} {x : Int × Bool} {l : List (Int × Bool)} {n : Nat} (hv : Vw 2 g v n ((x :: l).flatMap anC)) (hn : n = l.length + 1) {c d : Nat} {r : List IOper} {ks : List Fr} {e : Env} {Q : Ex → Env → H → Prop}
    (hw : ∀ u, wpX o bar r ks ((d, .agg (anC x)) :: (c, u) :: e) g Q) : wpS o bar (iadrR 2 (some v) (some (.int .i64 0)) g) (some c) (⟨some d, .ld true 2 (.t c), none⟩ :: r) ks e Q := by
  have hrow := flat_row (c := anC) (k := 2) (fun _ => rfl) (x :: l) 0 x rfl
  have hix : indexIn (.int .i64 0) n = some 0 := by
    simp only [indexIn]; rw [if_pos ⟨by omega, by omega⟩]; rfl
  have hlen : ((x :: l).flatMap anC).length = n * 2 := hv.1
  have h2 : 2 ≤ ((x :: l).flatMap anC).length := by rw [hlen]; omega
  simp only [Nat.zero_mul, List.drop_zero] at hrow
  obtain ⟨hl, _, ⟨rfl, h2'⟩ | ⟨full, rfl⟩ | ⟨id, off, full, all, q, rfl, hid, hg, hle2, hc⟩⟩ := hv
  · omega
  · generalize (x :: l).flatMap anC = cs at *
    have hl' : (cs.length = n * 2) = True := by simpa using hl
    simp [go_sem, hix, hl', h2, hrow]
    exact hw _
  · have hrow2 : (all.drop off).take 2 = anC x := by
      rw [← hrow, ← hc, List.take_take]
      congr 1; omega
    have h3 : off + 2 ≤ all.length := by omega
    simp [go_sem, hix, hg, hrow2, h3]
    exact hw _
section
variable {bar b R : Nat} {g : H} {r : Row} {la aa : AV}
theorem ask_ok (v : RowV g b R r la aa) (hb : bar ≤ b) (hbg : b ≤ g.n) (hs : r.asks.length < 2000000) (nm n : Int) :
    ∃ g' la' aa', call tb prim n_reply_Row_Ask [.ptr R 0, .int .i32 nm, .int .i64 n] bar g = some (.tup [.int .i64 (askR r nm n).2.1, .bool (askR r nm n).2.2], g') ∧ RowV g' b R (askR r nm n).1 la' aa' ∧ (∀ j, la'.isAt j → la.isAt j) ∧ (∀ j, aa'.isAt j → g.n ≤ j) ∧ g.n ≤ g'.n ∧ ∀ j, j < g.n → j ≠ R → ¬ aa.isAt j → g'.get j = g.get j := by
  obtain ⟨h', e2, o2, n1, f1⟩ := (v.asks.bar_le hb).app (bar := bar) (by omega) 16 [.int .i32 nm, .int .i64 n] rfl rfl (by omega) (by omega) (by omega)
  have o1 : OW 2 h' b (.sl (g.n + 1) 0 2 (r.asks.length + 1) false) (r.asks ++ [(nm, n)]).length ((r.asks ++ [(nm, n)]).flatMap asC) := by
    have := o2.up (b := b) fun j hj => by cases hj; omega
    simpa [asC] using this
  have hg := v.get
  have hR := v.lt
  have hbR : bar ≤ R := Nat.le_trans hb v.bR
  have hgR : h'.get R = some (.cells [la, aa] 0) := by rw [f1 R hR v.na]; exact hg
  have hla : la.one = true := v.l.one
  have hll := v.l.len
  have hRn : ¬ R = g.n + 2 := by omega
  have hRn' : R ≠ h'.n := by omega
  obtain ⟨h2, hh2⟩ : ∃ h2, h2 = h'.set R (.cells [la, .sl (g.n + 1) 0 2 (r.asks.length + 1) false] 0) := ⟨_, rfl⟩
  have n2 : h2.n = g.n + 2 := by rw [hh2, n_set]; exact n1
  have k2 : ∀ j, j < g.n → j ≠ R → ¬ aa.isAt j → h2.get j = g.get j := fun j h1 h3 h4 => by rw [hh2, get_set_ne h3]; exact f1 j h1 h4
  have hl2 : Vw 2 h2 la r.l.length (r.l.flatMap anC) := v.l.keep (by omega) fun j hj => k2 j (v.l.at_lt' hj) (fun q => v.nl (q ▸ hj)) (v.ap j hj)
  have o3 : OW 2 h2 b (.sl (g.n + 1) 0 2 (r.asks.length + 1) false) (r.asks ++ [(nm, n)]).length ((r.asks ++ [(nm, n)]).flatMap asC) := o1.mono (by omega) fun j hj => by cases hj; rw [hh2, get_set_ne (by omega)]
  cases hr : r.l with
  | nil =>
    have e0 : askR r nm n = (⟨[], r.asks ++ [(nm, n)]⟩, 0, true) := by simp [askR, hr]
    rw [e0]
    rw [hr] at hll hl2
    have hz : ((0 : Int) == 0) = true := rfl
    have hfin : RowV h2 b R ⟨[], r.asks ++ [(nm, n)]⟩ la (.sl (g.n + 1) 0 2 (r.asks.length + 1) false) ∧ (∀ j, la.isAt j → la.isAt j) ∧ (∀ j, (AV.sl (g.n + 1) 0 2 (r.asks.length + 1) false).isAt j → g.n ≤ j) ∧ g.n ≤ h2.n ∧ ∀ j, j < g.n → j ≠ R → ¬ aa.isAt j → h2.get j = g.get j :=
      ⟨⟨by rw [hh2, get_set, if_pos rfl], v.bR, by omega, hl2, o3, v.nl, fun h => by cases h; omega, fun j h1 h3 => by cases h3; have := v.l.at_lt' h1; omega, by simp; omega⟩, fun j h => h, fun j h => by cases h; omega, by omega, k2⟩
    obtain ⟨x, g2, hcall, hr2, h2'⟩ := callF_K (o := call tb prim) (F := f_reply_Row_Ask) (bar := bar) (h := g) (args := [.ptr R 0, .int .i32 nm, .int .i64 n]) (P := fun x g2 => x = .tup [.int .i64 0, .bool true] ∧ g2 = h2) rfl rfl (fun K hK => by
      simp [f_reply_Row_Ask, env0, go_sem, get_alloc, n_alloc, get_set, n_set, get_kill, n_kill, writeAt, a11, a21, a31, a41, a51, a61, a71, isNil, hg, evParts, fillA, spR0, spR1, spR01, e2, hgR, hbR, hll, goI]
      rw [← hh2]
      simp [go_sem, endP, endI, resultsA, resultA, freezeL, freezeV, AV.free.freeL, AV.free, packA, dropS]
      exact ⟨_, _, ⟨rfl, rfl⟩, hK _ _ ⟨rfl, rfl⟩⟩)
    subst hr2 h2'
    exact ⟨_, _, _, call_of tb_reply_Row_Ask hcall, hfin⟩
  | cons x l =>
    have e0 : askR r nm n = (⟨l, r.asks ++ [(nm, n)]⟩, x.1, x.2) := by simp [askR, hr]
    rw [e0]
    rw [hr] at hll hl2
    have hz : (((l.length : Int) + 1) == 0) = false := by simp; omega
    obtain ⟨la', htl, hla1, hat, hv2⟩ := Vw.tail (c := anC) (k := 2) (fun _ => rfl) hl2
    obtain ⟨h3, hh3⟩ : ∃ h3, h3 = (h2.alloc (.cells [.int .i64 0, .bool false] 0)).set h2.n (.cells [.int .i64 x.1, .bool x.2] 0) := ⟨_, rfl⟩
    have n3 : h3.n = g.n + 3 := by rw [hh3]; simp [n_set, n_alloc, n2]
    have k3 : ∀ j, j < h2.n → h3.get j = h2.get j := fun j hj => by rw [hh3, get_set_ne (by omega), get_alloc, if_neg (by omega)]
    obtain ⟨h4, hh4⟩ : ∃ h4, h4 = h3.set R (.cells [la', .sl (g.n + 1) 0 2 (r.asks.length + 1) false] 0) := ⟨_, rfl⟩
    have n4 : h4.n = g.n + 3 := by rw [hh4, n_set]; exact n3
    have k4 : ∀ j, j < h2.n → j ≠ R → h4.get j = h2.get j := fun j h1 h3 => by rw [hh4, get_set_ne h3]; exact k3 j h1
    have hfin : RowV h4 b R ⟨l, r.asks ++ [(nm, n)]⟩ la' (.sl (g.n + 1) 0 2 (r.asks.length + 1) false) ∧ (∀ j, la'.isAt j → la.isAt j) ∧ (∀ j, (AV.sl (g.n + 1) 0 2 (r.asks.length + 1) false).isAt j → g.n ≤ j) ∧ g.n ≤ h4.n ∧ ∀ j, j < g.n → j ≠ R → ¬ aa.isAt j → h4.get j = g.get j :=
      ⟨⟨by rw [hh4, get_set, if_pos rfl], v.bR, by omega, hv2.keep (by omega) (fun j hj => k4 j (by have := v.l.at_lt' (hat j hj); omega) (fun q => v.nl (q ▸ hat j hj))), o3.mono (by omega) (fun j hj => by cases hj; exact k4 _ (by omega) (by omega)), fun h => v.nl (hat _ h), fun h => by cases h; omega, fun j h1 h5 => by cases h5; have := v.l.at_lt' (hat _ h1); omega, by simp; omega⟩, hat, fun j h => by cases h; omega, by omega, fun j h1 h5 h6 => by rw [k4 j (by omega) h5]; exact k2 j h1 h5 h6⟩
    have hrow := fun {c d : Nat} {rr : List IOper} {ks : List Fr} {e : Env} {Q : Ex → Env → H → Prop} => S_vrow0 (o := call tb prim) (bar := bar) (c := c) (d := d) (r := rr) (ks := ks) (e := e) (Q := Q) hl2 rfl
    have hg2 : h2.get R = some (.cells [la, .sl (g.n + 1) 0 2 (r.asks.length + 1) false] 0) := by rw [hh2, get_set, if_pos rfl]
    have hg3 : h3.get R = some (.cells [la, .sl (g.n + 1) 0 2 (r.asks.length + 1) false] 0) := by rw [k3 R (by omega)]; exact hg2
    obtain ⟨y, g2, hcall, hr2, h2'⟩ := callF_K (o := call tb prim) (F := f_reply_Row_Ask) (bar := bar) (h := g) (args := [.ptr R 0, .int .i32 nm, .int .i64 n]) (P := fun y g2 => y = .tup [.int .i64 x.1, .bool x.2] ∧ g2 = h4) rfl rfl (fun K hK => by
      simp [f_reply_Row_Ask, env0, go_sem, get_alloc, n_alloc, get_set, n_set, get_kill, n_kill, writeAt, a11, a21, a31, a41, a51, a61, a71, isNil, hg, evParts, fillA, spR0, spR1, spR01, e2, hgR, hbR, hll, goI, hz]
      rw [← hh2]
      refine hrow fun u => ?_
      have hb2 : bar ≤ h2.n := by omega
      have hRn2 : ¬ R = h2.n := by omega
      have hRn3 : ¬ h2.n = R := by omega
      simp [go_sem, get_alloc, n_alloc, get_set, n_set, get_kill, n_kill, writeAt, a11, a21, a31, a41, a51, a61, a71, isNil, anC, spR01, spR0, hb2, hRn2, hRn3, hg2, optEv, htl, hbR, hla1]
      rw [← hh3, ← hh4]
      simp [go_sem, endP, endI, resultsA, resultA, freezeL, freezeV, AV.free.freeL, AV.free, packA, dropS]
      exact ⟨_, _, ⟨rfl, rfl⟩, hK _ _ ⟨rfl, rfl⟩⟩)
    subst hr2 h2'
    exact ⟨_, _, _, call_of tb_reply_Row_Ask hcall, hfin⟩
end
end Go.Ev
set_option linter.unusedSectionVars false
namespace Go.Ev
open Go
section
variable {bar : Nat} {g : H}
theorem bit_ok (p : Bool) : call tb prim n_word_bit [.bool p] bar g = some (.int .i64 (bitI p), g) := by
  refine call_of tb_word_bit (callF_pureW rfl rfl (M_in ?_))
  cases p <;> simp [f_word_bit, env0, go_sem, get_alloc, n_alloc, get_set, n_set, get_kill, n_kill, writeAt, a11, a21, a31, a41, a51, a61, a71, endP, endI, resultsA, resultA, freezeL, freezeV, AV.free.freeL, AV.free, packA, dropS, bitI]
theorem parted_ok (sg a b : Int) : call tb prim n_word_parted [.int .i32 sg, .int .i64 a, .int .i64 b] bar g = some (.tup [.int .i64 (partedN sg a b).1, .int .i64 (partedN sg a b).2], g) := by
  refine call_of tb_word_parted (callF_pureW rfl rfl (M_in ?_))
  unfold partedN
  by_cases h0 : b = 0
  · subst h0; simp [f_word_parted, env0, go_sem, get_alloc, n_alloc, get_set, n_set, get_kill, n_kill, writeAt, a11, a21, a31, a41, a51, a61, a71, endP, endI, resultsA, resultA, freezeL, freezeV, AV.free.freeL, AV.free, packA, dropS]
  have h0' : (b == 0) = false := by simpa using h0
  by_cases h1 : sg = 37
  · subst h1
    by_cases h2 : b = -1
    · subst h2; simp [f_word_parted, env0, go_sem, get_alloc, n_alloc, get_set, n_set, get_kill, n_kill, writeAt, a11, a21, a31, a41, a51, a61, a71, endP, endI, resultsA, resultA, freezeL, freezeV, AV.free.freeL, AV.free, packA, dropS]
    · have h2' : (b == -1) = false := by simpa using h2
      simp [f_word_parted, env0, go_sem, get_alloc, n_alloc, get_set, n_set, get_kill, n_kill, writeAt, a11, a21, a31, a41, a51, a61, a71, endP, endI, resultsA, resultA, freezeL, freezeV, AV.free.freeL, AV.free, packA, dropS, h0', h2', h0, h2]
  · have h1' : (sg == 37) = false := by simpa using h1
    by_cases h3 : a = -9223372036854775808
    · subst h3
      by_cases h2 : b = -1
      · subst h2; simp [f_word_parted, env0, go_sem, get_alloc, n_alloc, get_set, n_set, get_kill, n_kill, writeAt, a11, a21, a31, a41, a51, a61, a71, endP, endI, resultsA, resultA, freezeL, freezeV, AV.free.freeL, AV.free, packA, dropS, h1', h1]
      · have h2' : (b == -1) = false := by simpa using h2
        simp [f_word_parted, env0, go_sem, get_alloc, n_alloc, get_set, n_set, get_kill, n_kill, writeAt, a11, a21, a31, a41, a51, a61, a71, endP, endI, resultsA, resultA, freezeL, freezeV, AV.free.freeL, AV.free, packA, dropS, h0', h1', h2', h0, h1, h2, wI]
    · have h3' : (a == -9223372036854775808) = false := by simpa using h3
      simp [f_word_parted, env0, go_sem, get_alloc, n_alloc, get_set, n_set, get_kill, n_kill, writeAt, a11, a21, a31, a41, a51, a61, a71, endP, endI, resultsA, resultA, freezeL, freezeV, AV.free.freeL, AV.free, packA, dropS, h0', h1', h3', h0, h1, h3, wI]
theorem shl_i64 (a b : Int) : shiftA .shl .i64 a (b % 64) = some (.int .i64 (wI (a * 2 ^ (b % 64).toNat))) := by
  have c0 : ¬ (b % 64) < 0 := by omega
  simp only [shiftA]
  rw [if_neg c0]
  have : min (b % 64).toNat IntKind.i64.bits = (b % 64).toNat := by show min _ 64 = _; omega
  rw [this]; rfl
theorem shr_i64 (a b : Int) : shiftA .shr .i64 a (b % 64) = some (.int .i64 (a.fdiv (2 ^ (b % 64).toNat))) := by
  have c0 : ¬ (b % 64) < 0 := by omega
  simp only [shiftA]
  rw [if_neg c0]
  have : min (b % 64).toNat IntKind.i64.bits = (b % 64).toNat := by show min _ 64 = _; omega
  rw [this]
theorem and63 (b : Int) : intBin .and .i64 b 63 = some (.int .i64 (b % 64)) := by
  have h : andI b 63 = b % 64 := andI_mask b 6 (by omega)
  have : intBin .and .i64 b 63 = some (.int .i64 (andI b 63)) := rfl
  rw [this, h]
theorem do_ok (sg a b : Int) : call tb prim n_word_Do [.int .i32 sg, .int .i64 a, .int .i64 b] bar g = some (.tup [.int .i64 (doN sg a b).1, .int .i64 (doN sg a b).2], g) := by
  refine call_of tb_word_Do (callF_pureW rfl rfl (M_in ?_))
  by_cases h1 : sg = 43
  · subst h1; simp [f_word_Do, env0, go_sem, get_alloc, n_alloc, get_set, n_set, get_kill, n_kill, writeAt, a11, a21, a31, a41, a51, a61, a71, endP, endI, resultsA, resultA, freezeL, freezeV, AV.free.freeL, AV.free, packA, dropS, doN, wI]
  by_cases h2 : sg = 45
  · subst h2; simp [f_word_Do, env0, go_sem, get_alloc, n_alloc, get_set, n_set, get_kill, n_kill, writeAt, a11, a21, a31, a41, a51, a61, a71, endP, endI, resultsA, resultA, freezeL, freezeV, AV.free.freeL, AV.free, packA, dropS, doN, wI]
  by_cases h3 : sg = 42
  · subst h3; simp [f_word_Do, env0, go_sem, get_alloc, n_alloc, get_set, n_set, get_kill, n_kill, writeAt, a11, a21, a31, a41, a51, a61, a71, endP, endI, resultsA, resultA, freezeL, freezeV, AV.free.freeL, AV.free, packA, dropS, doN, wI]
  by_cases h4 : sg = 47
  · subst h4; simp [f_word_Do, env0, go_sem, get_alloc, n_alloc, get_set, n_set, get_kill, n_kill, writeAt, a11, a21, a31, a41, a51, a61, a71, endP, endI, resultsA, resultA, freezeL, freezeV, AV.free.freeL, AV.free, packA, dropS, doN, parted_ok]
  by_cases h5 : sg = 37
  · subst h5; simp [f_word_Do, env0, go_sem, get_alloc, n_alloc, get_set, n_set, get_kill, n_kill, writeAt, a11, a21, a31, a41, a51, a61, a71, endP, endI, resultsA, resultA, freezeL, freezeV, AV.free.freeL, AV.free, packA, dropS, doN, parted_ok]
  by_cases h6 : sg = 38
  · subst h6
    simp [f_word_Do, env0, go_sem, get_alloc, n_alloc, get_set, n_set, get_kill, n_kill, writeAt, a11, a21, a31, a41, a51, a61, a71, endP, endI, resultsA, resultA, freezeL, freezeV, AV.free.freeL, AV.free, packA, dropS, doN]
    rfl
  by_cases h7 : sg = 124
  · subst h7
    simp [f_word_Do, env0, go_sem, get_alloc, n_alloc, get_set, n_set, get_kill, n_kill, writeAt, a11, a21, a31, a41, a51, a61, a71, endP, endI, resultsA, resultA, freezeL, freezeV, AV.free.freeL, AV.free, packA, dropS, doN]
    rfl
  by_cases h8 : sg = 94
  · subst h8
    simp [f_word_Do, env0, go_sem, get_alloc, n_alloc, get_set, n_set, get_kill, n_kill, writeAt, a11, a21, a31, a41, a51, a61, a71, endP, endI, resultsA, resultA, freezeL, freezeV, AV.free.freeL, AV.free, packA, dropS, doN]
    rfl
  by_cases h9 : sg = 60
  · subst h9; simp [f_word_Do, env0, go_sem, get_alloc, n_alloc, get_set, n_set, get_kill, n_kill, writeAt, a11, a21, a31, a41, a51, a61, a71, endP, endI, resultsA, resultA, freezeL, freezeV, AV.free.freeL, AV.free, packA, dropS, doN, bit_ok]
  by_cases h10 : sg = 61
  · subst h10; simp [f_word_Do, env0, go_sem, get_alloc, n_alloc, get_set, n_set, get_kill, n_kill, writeAt, a11, a21, a31, a41, a51, a61, a71, endP, endI, resultsA, resultA, freezeL, freezeV, AV.free.freeL, AV.free, packA, dropS, doN, bit_ok]
  by_cases h11 : sg = 33
  · subst h11; simp [f_word_Do, env0, go_sem, get_alloc, n_alloc, get_set, n_set, get_kill, n_kill, writeAt, a11, a21, a31, a41, a51, a61, a71, endP, endI, resultsA, resultA, freezeL, freezeV, AV.free.freeL, AV.free, packA, dropS, doN, bit_ok]
  by_cases h12 : sg = 171
  · subst h12
    have e := shl_i64 a b
    have e2 : IntKind.i64.wrap (((BitVec.ofInt 64 b &&& 63#64).toNat : Nat) : Int) = b % 64 := andI_mask b 6 (by omega)
    simp [f_word_Do, env0, go_sem, get_alloc, n_alloc, get_set, n_set, get_kill, n_kill, writeAt, a11, a21, a31, a41, a51, a61, a71, doN]
    erw [e2]
    rw [e]
    simp [go_sem, endP, endI, resultsA, resultA, freezeL, freezeV, AV.free.freeL, AV.free, packA, dropS]
  by_cases h13 : sg = 187
  · subst h13
    have e := shr_i64 a b
    have e2 : IntKind.i64.wrap (((BitVec.ofInt 64 b &&& 63#64).toNat : Nat) : Int) = b % 64 := andI_mask b 6 (by omega)
    simp [f_word_Do, env0, go_sem, get_alloc, n_alloc, get_set, n_set, get_kill, n_kill, writeAt, a11, a21, a31, a41, a51, a61, a71, doN]
    erw [e2]
    rw [e]
    simp [go_sem, endP, endI, resultsA, resultA, freezeL, freezeV, AV.free.freeL, AV.free, packA, dropS]
  have q1 : (sg == 43) = false := by simpa using h1
  have q2 : (sg == 45) = false := by simpa using h2
  have q3 : (sg == 42) = false := by simpa using h3
  have q4 : (sg == 47) = false := by simpa using h4
  have q5 : (sg == 37) = false := by simpa using h5
  have q6 : (sg == 38) = false := by simpa using h6
  have q7 : (sg == 124) = false := by simpa using h7
  have q8 : (sg == 94) = false := by simpa using h8
  have q9 : (sg == 60) = false := by simpa using h9
  have q10 : (sg == 61) = false := by simpa using h10
  have q11 : (sg == 33) = false := by simpa using h11
  have q12 : (sg == 171) = false := by simpa using h12
  have q13 : (sg == 187) = false := by simpa using h13
  simp [f_word_Do, env0, go_sem, get_alloc, n_alloc, get_set, n_set, get_kill, n_kill, writeAt, a11, a21, a31, a41, a51, a61, a71, endP, endI, resultsA, resultA, freezeL, freezeV, AV.free.freeL, AV.free, packA, dropS, doN, q1, q2, q3, q4, q5, q6, q7, q8, q9, q10, q11, q12, q13, h1, h2, h3, h4, h5, h6, h7, h8, h9, h10, h11, h12, h13]
end
end Go.Ev
set_option linter.unusedSectionVars false
namespace Go.Ev
open Go
section
variable {bar : Nat} {g : H}
theorem ir_ascii (s : ByteArray) (r : Int) (h0 : 0 ≤ r) (h1 : r < 128) : call tb prim n_strings_IndexRune [.str s, .int .i32 r] bar g = some (.int .i64 (Lib.indexByte s.data.toList r.toNat.toUInt8), g) := by
  refine call_of tb_strings_IndexRune (callF_pureW rfl rfl (M_in ?_))
  have hu : IntKind.u8.wrap r = r := by rw [wu8]; omega
  have hi2 := fun (b : Nat) (g : H) => strings_IndexByte_ok (bar := b) (h := g) s r
  simp [f_strings_IndexRune, env0, go_sem, get_alloc, n_alloc, get_set, n_set, get_kill, n_kill, writeAt, a11, a21, a31, a41, a51, a61, a71, endP, endI, resultsA, resultA, freezeL, freezeV, AV.free.freeL, AV.free, packA, dropS, h0, h1, hu, hi2]
theorem wl0 : IntKind.i64.wrap 0 = 0 := rfl
theorem wl1 : IntKind.i64.wrap 1 = 1 := rfl
theorem wl2 : IntKind.i64.wrap 2 = 2 := rfl
theorem wl3 : IntKind.i64.wrap 3 = 3 := rfl
theorem wl4 : IntKind.i64.wrap 4 = 4 := rfl
theorem wl5 : IntKind.i64.wrap 5 = 5 := rfl
theorem wl6 : IntKind.i64.wrap 6 = 6 := rfl
theorem wl7 : IntKind.i64.wrap 7 = 7 := rfl
theorem wl8 : IntKind.i64.wrap 8 = 8 := rfl
theorem ir_a171 : call tb prim n_strings_IndexRune [.str ⟨#[63, 58, 93, 126]⟩, .int .i32 171] bar g = some (.int .i64 (-1), g) := by
  refine call_of tb_strings_IndexRune (callF_pureW rfl rfl (M_in ?_))
  have hv := fun (b : Nat) (g : H) => utf8_ValidRune_ok (pr := prim) (bar := b) (h := g) 171
  have hvr : validR 171 = true := rfl
  have he : Utf8.encode 171 = ⟨#[194, 171]⟩ := by decide +kernel
  have hz : (ByteArray.mk #[194, 171]).size = 2 := rfl
  have hz4 : (ByteArray.mk #[63, 58, 93, 126]).size = 4 := rfl
  have hib := fun (b : Nat) (g : H) => strings_IndexByte_ok (bar := b) (h := g) ⟨#[93, 126]⟩ 171
  have hx : Lib.indexByte (ByteArray.mk #[93, 126]).data.toList (171 : Int).toNat.toUInt8 = -1 := by decide +kernel
  have hex : (ByteArray.mk #[63, 58, 93, 126]).extract 2 4 = ⟨#[93, 126]⟩ := by decide +kernel
  have hsl : sliceS ⟨#[63, 58, 93, 126]⟩ (some (.int .i64 2)) none = some (.str ⟨#[93, 126]⟩) := by
    simp [sliceS, optBound, bound, hz4, hex]
  rw [hx] at hib
  simp [f_strings_IndexRune, env0, go_sem, get_alloc, n_alloc, get_set, n_set, get_kill, n_kill, writeAt, a11, a21, a31, a41, a51, a61, a71, hv, hvr, he, hz, wl1, wl2]
  refine M_loop l2_strings_IndexRune.eq_1 ?_
  simp [go_sem, get_alloc, n_alloc, get_set, n_set, get_kill, n_kill, writeAt, a11, a21, a31, a41, a51, a61, a71, hz, hz4, indexIn, optEv, hsl, hib, wl0, wl1, wl2, wl3, wl4, wl5, wl6, wl7, wl8]
  simp [go_sem, endP, endI, resultsA, resultA, freezeL, freezeV, AV.free.freeL, AV.free, packA, dropS]
theorem ir_a187 : call tb prim n_strings_IndexRune [.str ⟨#[63, 58, 93, 126]⟩, .int .i32 187] bar g = some (.int .i64 (-1), g) := by
  refine call_of tb_strings_IndexRune (callF_pureW rfl rfl (M_in ?_))
  have hv := fun (b : Nat) (g : H) => utf8_ValidRune_ok (pr := prim) (bar := b) (h := g) 187
  have hvr : validR 187 = true := rfl
  have he : Utf8.encode 187 = ⟨#[194, 187]⟩ := by decide +kernel
  have hz : (ByteArray.mk #[194, 187]).size = 2 := rfl
  have hz4 : (ByteArray.mk #[63, 58, 93, 126]).size = 4 := rfl
  have hib := fun (b : Nat) (g : H) => strings_IndexByte_ok (bar := b) (h := g) ⟨#[93, 126]⟩ 187
  have hx : Lib.indexByte (ByteArray.mk #[93, 126]).data.toList (187 : Int).toNat.toUInt8 = -1 := by decide +kernel
  have hex : (ByteArray.mk #[63, 58, 93, 126]).extract 2 4 = ⟨#[93, 126]⟩ := by decide +kernel
  have hsl : sliceS ⟨#[63, 58, 93, 126]⟩ (some (.int .i64 2)) none = some (.str ⟨#[93, 126]⟩) := by
    simp [sliceS, optBound, bound, hz4, hex]
  rw [hx] at hib
  simp [f_strings_IndexRune, env0, go_sem, get_alloc, n_alloc, get_set, n_set, get_kill, n_kill, writeAt, a11, a21, a31, a41, a51, a61, a71, hv, hvr, he, hz, wl1, wl2]
  refine M_loop l2_strings_IndexRune.eq_1 ?_
  simp [go_sem, get_alloc, n_alloc, get_set, n_set, get_kill, n_kill, writeAt, a11, a21, a31, a41, a51, a61, a71, hz, hz4, indexIn, optEv, hsl, hib, wl0, wl1, wl2, wl3, wl4, wl5, wl6, wl7, wl8]
  simp [go_sem, endP, endI, resultsA, resultA, freezeL, freezeV, AV.free.freeL, AV.free, packA, dropS]
theorem ir_a169 : call tb prim n_strings_IndexRune [.str ⟨#[63, 58, 93, 126]⟩, .int .i32 169] bar g = some (.int .i64 (-1), g) := by
  refine call_of tb_strings_IndexRune (callF_pureW rfl rfl (M_in ?_))
  have hv := fun (b : Nat) (g : H) => utf8_ValidRune_ok (pr := prim) (bar := b) (h := g) 169
  have hvr : validR 169 = true := rfl
  have he : Utf8.encode 169 = ⟨#[194, 169]⟩ := by decide +kernel
  have hz : (ByteArray.mk #[194, 169]).size = 2 := rfl
  have hz4 : (ByteArray.mk #[63, 58, 93, 126]).size = 4 := rfl
  have hib := fun (b : Nat) (g : H) => strings_IndexByte_ok (bar := b) (h := g) ⟨#[93, 126]⟩ 169
  have hx : Lib.indexByte (ByteArray.mk #[93, 126]).data.toList (169 : Int).toNat.toUInt8 = -1 := by decide +kernel
  have hex : (ByteArray.mk #[63, 58, 93, 126]).extract 2 4 = ⟨#[93, 126]⟩ := by decide +kernel
  have hsl : sliceS ⟨#[63, 58, 93, 126]⟩ (some (.int .i64 2)) none = some (.str ⟨#[93, 126]⟩) := by
    simp [sliceS, optBound, bound, hz4, hex]
  rw [hx] at hib
  simp [f_strings_IndexRune, env0, go_sem, get_alloc, n_alloc, get_set, n_set, get_kill, n_kill, writeAt, a11, a21, a31, a41, a51, a61, a71, hv, hvr, he, hz, wl1, wl2]
  refine M_loop l2_strings_IndexRune.eq_1 ?_
  simp [go_sem, get_alloc, n_alloc, get_set, n_set, get_kill, n_kill, writeAt, a11, a21, a31, a41, a51, a61, a71, hz, hz4, indexIn, optEv, hsl, hib, wl0, wl1, wl2, wl3, wl4, wl5, wl6, wl7, wl8]
  simp [go_sem, endP, endI, resultsA, resultA, freezeL, freezeV, AV.free.freeL, AV.free, packA, dropS]
theorem ir_a174 : call tb prim n_strings_IndexRune [.str ⟨#[63, 58, 93, 126]⟩, .int .i32 174] bar g = some (.int .i64 (-1), g) := by
  refine call_of tb_strings_IndexRune (callF_pureW rfl rfl (M_in ?_))
  have hv := fun (b : Nat) (g : H) => utf8_ValidRune_ok (pr := prim) (bar := b) (h := g) 174
  have hvr : validR 174 = true := rfl
  have he : Utf8.encode 174 = ⟨#[194, 174]⟩ := by decide +kernel
  have hz : (ByteArray.mk #[194, 174]).size = 2 := rfl
  have hz4 : (ByteArray.mk #[63, 58, 93, 126]).size = 4 := rfl
  have hib := fun (b : Nat) (g : H) => strings_IndexByte_ok (bar := b) (h := g) ⟨#[93, 126]⟩ 174
  have hx : Lib.indexByte (ByteArray.mk #[93, 126]).data.toList (174 : Int).toNat.toUInt8 = -1 := by decide +kernel
  have hex : (ByteArray.mk #[63, 58, 93, 126]).extract 2 4 = ⟨#[93, 126]⟩ := by decide +kernel
  have hsl : sliceS ⟨#[63, 58, 93, 126]⟩ (some (.int .i64 2)) none = some (.str ⟨#[93, 126]⟩) := by
    simp [sliceS, optBound, bound, hz4, hex]
  rw [hx] at hib
  simp [f_strings_IndexRune, env0, go_sem, get_alloc, n_alloc, get_set, n_set, get_kill, n_kill, writeAt, a11, a21, a31, a41, a51, a61, a71, hv, hvr, he, hz, wl1, wl2]
  refine M_loop l2_strings_IndexRune.eq_1 ?_
  simp [go_sem, get_alloc, n_alloc, get_set, n_set, get_kill, n_kill, writeAt, a11, a21, a31, a41, a51, a61, a71, hz, hz4, indexIn, optEv, hsl, hib, wl0, wl1, wl2, wl3, wl4, wl5, wl6, wl7, wl8]
  simp [go_sem, endP, endI, resultsA, resultA, freezeL, freezeV, AV.free.freeL, AV.free, packA, dropS]
theorem ir_a164 : call tb prim n_strings_IndexRune [.str ⟨#[63, 58, 93, 126]⟩, .int .i32 164] bar g = some (.int .i64 (-1), g) := by
  refine call_of tb_strings_IndexRune (callF_pureW rfl rfl (M_in ?_))
  have hv := fun (b : Nat) (g : H) => utf8_ValidRune_ok (pr := prim) (bar := b) (h := g) 164
  have hvr : validR 164 = true := rfl
  have he : Utf8.encode 164 = ⟨#[194, 164]⟩ := by decide +kernel
  have hz : (ByteArray.mk #[194, 164]).size = 2 := rfl
  have hz4 : (ByteArray.mk #[63, 58, 93, 126]).size = 4 := rfl
  have hib := fun (b : Nat) (g : H) => strings_IndexByte_ok (bar := b) (h := g) ⟨#[93, 126]⟩ 164
  have hx : Lib.indexByte (ByteArray.mk #[93, 126]).data.toList (164 : Int).toNat.toUInt8 = -1 := by decide +kernel
  have hex : (ByteArray.mk #[63, 58, 93, 126]).extract 2 4 = ⟨#[93, 126]⟩ := by decide +kernel
  have hsl : sliceS ⟨#[63, 58, 93, 126]⟩ (some (.int .i64 2)) none = some (.str ⟨#[93, 126]⟩) := by
    simp [sliceS, optBound, bound, hz4, hex]
  rw [hx] at hib
  simp [f_strings_IndexRune, env0, go_sem, get_alloc, n_alloc, get_set, n_set, get_kill, n_kill, writeAt, a11, a21, a31, a41, a51, a61, a71, hv, hvr, he, hz, wl1, wl2]
  refine M_loop l2_strings_IndexRune.eq_1 ?_
  simp [go_sem, get_alloc, n_alloc, get_set, n_set, get_kill, n_kill, writeAt, a11, a21, a31, a41, a51, a61, a71, hz, hz4, indexIn, optEv, hsl, hib, wl0, wl1, wl2, wl3, wl4, wl5, wl6, wl7, wl8]
  simp [go_sem, endP, endI, resultsA, resultA, freezeL, freezeV, AV.free.freeL, AV.free, packA, dropS]
theorem ir_a161 : call tb prim n_strings_IndexRune [.str ⟨#[63, 58, 93, 126]⟩, .int .i32 161] bar g = some (.int .i64 (-1), g) := by
  refine call_of tb_strings_IndexRune (callF_pureW rfl rfl (M_in ?_))
  have hv := fun (b : Nat) (g : H) => utf8_ValidRune_ok (pr := prim) (bar := b) (h := g) 161
  have hvr : validR 161 = true := rfl
  have he : Utf8.encode 161 = ⟨#[194, 161]⟩ := by decide +kernel
  have hz : (ByteArray.mk #[194, 161]).size = 2 := rfl
  have hz4 : (ByteArray.mk #[63, 58, 93, 126]).size = 4 := rfl
  have hib := fun (b : Nat) (g : H) => strings_IndexByte_ok (bar := b) (h := g) ⟨#[93, 126]⟩ 161
  have hx : Lib.indexByte (ByteArray.mk #[93, 126]).data.toList (161 : Int).toNat.toUInt8 = -1 := by decide +kernel
  have hex : (ByteArray.mk #[63, 58, 93, 126]).extract 2 4 = ⟨#[93, 126]⟩ := by decide +kernel
  have hsl : sliceS ⟨#[63, 58, 93, 126]⟩ (some (.int .i64 2)) none = some (.str ⟨#[93, 126]⟩) := by
    simp [sliceS, optBound, bound, hz4, hex]
  rw [hx] at hib
  simp [f_strings_IndexRune, env0, go_sem, get_alloc, n_alloc, get_set, n_set, get_kill, n_kill, writeAt, a11, a21, a31, a41, a51, a61, a71, hv, hvr, he, hz, wl1, wl2]
  refine M_loop l2_strings_IndexRune.eq_1 ?_
  simp [go_sem, get_alloc, n_alloc, get_set, n_set, get_kill, n_kill, writeAt, a11, a21, a31, a41, a51, a61, a71, hz, hz4, indexIn, optEv, hsl, hib, wl0, wl1, wl2, wl3, wl4, wl5, wl6, wl7, wl8]
  simp [go_sem, endP, endI, resultsA, resultA, freezeL, freezeV, AV.free.freeL, AV.free, packA, dropS]
theorem ir_a960 : call tb prim n_strings_IndexRune [.str ⟨#[63, 58, 93, 126]⟩, .int .i32 960] bar g = some (.int .i64 (-1), g) := by
  refine call_of tb_strings_IndexRune (callF_pureW rfl rfl (M_in ?_))
  have hv := fun (b : Nat) (g : H) => utf8_ValidRune_ok (pr := prim) (bar := b) (h := g) 960
  have hvr : validR 960 = true := rfl
  have he : Utf8.encode 960 = ⟨#[207, 128]⟩ := by decide +kernel
  have hz : (ByteArray.mk #[207, 128]).size = 2 := rfl
  have hz4 : (ByteArray.mk #[63, 58, 93, 126]).size = 4 := rfl
  have hib := fun (b : Nat) (g : H) => strings_IndexByte_ok (bar := b) (h := g) ⟨#[93, 126]⟩ 128
  have hx : Lib.indexByte (ByteArray.mk #[93, 126]).data.toList (128 : Int).toNat.toUInt8 = -1 := by decide +kernel
  have hex : (ByteArray.mk #[63, 58, 93, 126]).extract 2 4 = ⟨#[93, 126]⟩ := by decide +kernel
  have hsl : sliceS ⟨#[63, 58, 93, 126]⟩ (some (.int .i64 2)) none = some (.str ⟨#[93, 126]⟩) := by
    simp [sliceS, optBound, bound, hz4, hex]
  rw [hx] at hib
  simp [f_strings_IndexRune, env0, go_sem, get_alloc, n_alloc, get_set, n_set, get_kill, n_kill, writeAt, a11, a21, a31, a41, a51, a61, a71, hv, hvr, he, hz, wl1, wl2]
  refine M_loop l2_strings_IndexRune.eq_1 ?_
  simp [go_sem, get_alloc, n_alloc, get_set, n_set, get_kill, n_kill, writeAt, a11, a21, a31, a41, a51, a61, a71, hz, hz4, indexIn, optEv, hsl, hib, wl0, wl1, wl2, wl3, wl4, wl5, wl6, wl7, wl8]
  simp [go_sem, endP, endI, resultsA, resultA, freezeL, freezeV, AV.free.freeL, AV.free, packA, dropS]
theorem ir_b171 : call tb prim n_strings_IndexRune [.str ⟨#[64, 194, 169, 36, 194, 174, 35, 194, 164]⟩, .int .i32 171] bar g = some (.int .i64 (-1), g) := by
  refine call_of tb_strings_IndexRune (callF_pureW rfl rfl (M_in ?_))
  have hv := fun (b : Nat) (g : H) => utf8_ValidRune_ok (pr := prim) (bar := b) (h := g) 171
  have hvr : validR 171 = true := rfl
  have he : Utf8.encode 171 = ⟨#[194, 171]⟩ := by decide +kernel
  have hz : (ByteArray.mk #[194, 171]).size = 2 := rfl
  have hz4 : (ByteArray.mk #[64, 194, 169, 36, 194, 174, 35, 194, 164]).size = 9 := rfl
  have hib := fun (b : Nat) (g : H) => strings_IndexByte_ok (bar := b) (h := g) ⟨#[169, 36, 194, 174, 35, 194, 164]⟩ 171
  have hx : Lib.indexByte (ByteArray.mk #[169, 36, 194, 174, 35, 194, 164]).data.toList (171 : Int).toNat.toUInt8 = -1 := by decide +kernel
  have hex : (ByteArray.mk #[64, 194, 169, 36, 194, 174, 35, 194, 164]).extract 2 9 = ⟨#[169, 36, 194, 174, 35, 194, 164]⟩ := by decide +kernel
  have hsl : sliceS ⟨#[64, 194, 169, 36, 194, 174, 35, 194, 164]⟩ (some (.int .i64 2)) none = some (.str ⟨#[169, 36, 194, 174, 35, 194, 164]⟩) := by
    simp [sliceS, optBound, bound, hz4, hex]
  rw [hx] at hib
  simp [f_strings_IndexRune, env0, go_sem, get_alloc, n_alloc, get_set, n_set, get_kill, n_kill, writeAt, a11, a21, a31, a41, a51, a61, a71, hv, hvr, he, hz, wl1, wl2]
  refine M_loop l2_strings_IndexRune.eq_1 ?_
  simp [go_sem, get_alloc, n_alloc, get_set, n_set, get_kill, n_kill, writeAt, a11, a21, a31, a41, a51, a61, a71, hz, hz4, indexIn, optEv, hsl, hib, wl0, wl1, wl2, wl3, wl4, wl5, wl6, wl7, wl8]
  simp [go_sem, endP, endI, resultsA, resultA, freezeL, freezeV, AV.free.freeL, AV.free, packA, dropS]
theorem ir_b187 : call tb prim n_strings_IndexRune [.str ⟨#[64, 194, 169, 36, 194, 174, 35, 194, 164]⟩, .int .i32 187] bar g = some (.int .i64 (-1), g) := by
  refine call_of tb_strings_IndexRune (callF_pureW rfl rfl (M_in ?_))
  have hv := fun (b : Nat) (g : H) => utf8_ValidRune_ok (pr := prim) (bar := b) (h := g) 187
  have hvr : validR 187 = true := rfl
  have he : Utf8.encode 187 = ⟨#[194, 187]⟩ := by decide +kernel
  have hz : (ByteArray.mk #[194, 187]).size = 2 := rfl
  have hz4 : (ByteArray.mk #[64, 194, 169, 36, 194, 174, 35, 194, 164]).size = 9 := rfl
  have hib := fun (b : Nat) (g : H) => strings_IndexByte_ok (bar := b) (h := g) ⟨#[169, 36, 194, 174, 35, 194, 164]⟩ 187
  have hx : Lib.indexByte (ByteArray.mk #[169, 36, 194, 174, 35, 194, 164]).data.toList (187 : Int).toNat.toUInt8 = -1 := by decide +kernel
  have hex : (ByteArray.mk #[64, 194, 169, 36, 194, 174, 35, 194, 164]).extract 2 9 = ⟨#[169, 36, 194, 174, 35, 194, 164]⟩ := by decide +kernel
  have hsl : sliceS ⟨#[64, 194, 169, 36, 194, 174, 35, 194, 164]⟩ (some (.int .i64 2)) none = some (.str ⟨#[169, 36, 194, 174, 35, 194, 164]⟩) := by
    simp [sliceS, optBound, bound, hz4, hex]
  rw [hx] at hib
  simp [f_strings_IndexRune, env0, go_sem, get_alloc, n_alloc, get_set, n_set, get_kill, n_kill, writeAt, a11, a21, a31, a41, a51, a61, a71, hv, hvr, he, hz, wl1, wl2]
  refine M_loop l2_strings_IndexRune.eq_1 ?_
  simp [go_sem, get_alloc, n_alloc, get_set, n_set, get_kill, n_kill, writeAt, a11, a21, a31, a41, a51, a61, a71, hz, hz4, indexIn, optEv, hsl, hib, wl0, wl1, wl2, wl3, wl4, wl5, wl6, wl7, wl8]
  simp [go_sem, endP, endI, resultsA, resultA, freezeL, freezeV, AV.free.freeL, AV.free, packA, dropS]
theorem ir_b169 : call tb prim n_strings_IndexRune [.str ⟨#[64, 194, 169, 36, 194, 174, 35, 194, 164]⟩, .int .i32 169] bar g = some (.int .i64 1, g) := by
  refine call_of tb_strings_IndexRune (callF_pureW rfl rfl (M_in ?_))
  have hv := fun (b : Nat) (g : H) => utf8_ValidRune_ok (pr := prim) (bar := b) (h := g) 169
  have hvr : validR 169 = true := rfl
  have he : Utf8.encode 169 = ⟨#[194, 169]⟩ := by decide +kernel
  have hz : (ByteArray.mk #[194, 169]).size = 2 := rfl
  have hz4 : (ByteArray.mk #[64, 194, 169, 36, 194, 174, 35, 194, 164]).size = 9 := rfl
  have hib := fun (b : Nat) (g : H) => strings_IndexByte_ok (bar := b) (h := g) ⟨#[169, 36, 194, 174, 35, 194, 164]⟩ 169
  have hx : Lib.indexByte (ByteArray.mk #[169, 36, 194, 174, 35, 194, 164]).data.toList (169 : Int).toNat.toUInt8 = 0 := by decide +kernel
  have hex : (ByteArray.mk #[64, 194, 169, 36, 194, 174, 35, 194, 164]).extract 2 9 = ⟨#[169, 36, 194, 174, 35, 194, 164]⟩ := by decide +kernel
  have hsl : sliceS ⟨#[64, 194, 169, 36, 194, 174, 35, 194, 164]⟩ (some (.int .i64 2)) none = some (.str ⟨#[169, 36, 194, 174, 35, 194, 164]⟩) := by
    simp [sliceS, optBound, bound, hz4, hex]
  rw [hx] at hib
  simp [f_strings_IndexRune, env0, go_sem, get_alloc, n_alloc, get_set, n_set, get_kill, n_kill, writeAt, a11, a21, a31, a41, a51, a61, a71, hv, hvr, he, hz, wl1, wl2]
  refine M_loop l2_strings_IndexRune.eq_1 ?_
  simp [go_sem, get_alloc, n_alloc, get_set, n_set, get_kill, n_kill, writeAt, a11, a21, a31, a41, a51, a61, a71, hz, hz4, indexIn, optEv, hsl, hib, wl0, wl1, wl2, wl3, wl4, wl5, wl6, wl7, wl8]
  refine M_loop l1_strings_IndexRune.eq_1 ?_
  simp [go_sem, get_alloc, n_alloc, get_set, n_set, get_kill, n_kill, writeAt, a11, a21, a31, a41, a51, a61, a71, hz, hz4, indexIn, wl0, wl1, wl2, wl3, wl4, wl5, wl6, wl7, wl8]
  refine M_loop l1_strings_IndexRune.eq_1 ?_
  simp [go_sem, get_alloc, n_alloc, get_set, n_set, get_kill, n_kill, writeAt, a11, a21, a31, a41, a51, a61, a71, hz, hz4, indexIn, wl0, wl1, wl2, wl3, wl4, wl5, wl6, wl7, wl8]
  simp [go_sem, endP, endI, resultsA, resultA, freezeL, freezeV, AV.free.freeL, AV.free, packA, dropS]
theorem ir_b174 : call tb prim n_strings_IndexRune [.str ⟨#[64, 194, 169, 36, 194, 174, 35, 194, 164]⟩, .int .i32 174] bar g = some (.int .i64 4, g) := by
  refine call_of tb_strings_IndexRune (callF_pureW rfl rfl (M_in ?_))
  have hv := fun (b : Nat) (g : H) => utf8_ValidRune_ok (pr := prim) (bar := b) (h := g) 174
  have hvr : validR 174 = true := rfl
  have he : Utf8.encode 174 = ⟨#[194, 174]⟩ := by decide +kernel
  have hz : (ByteArray.mk #[194, 174]).size = 2 := rfl
  have hz4 : (ByteArray.mk #[64, 194, 169, 36, 194, 174, 35, 194, 164]).size = 9 := rfl
  have hib := fun (b : Nat) (g : H) => strings_IndexByte_ok (bar := b) (h := g) ⟨#[169, 36, 194, 174, 35, 194, 164]⟩ 174
  have hx : Lib.indexByte (ByteArray.mk #[169, 36, 194, 174, 35, 194, 164]).data.toList (174 : Int).toNat.toUInt8 = 3 := by decide +kernel
  have hex : (ByteArray.mk #[64, 194, 169, 36, 194, 174, 35, 194, 164]).extract 2 9 = ⟨#[169, 36, 194, 174, 35, 194, 164]⟩ := by decide +kernel
  have hsl : sliceS ⟨#[64, 194, 169, 36, 194, 174, 35, 194, 164]⟩ (some (.int .i64 2)) none = some (.str ⟨#[169, 36, 194, 174, 35, 194, 164]⟩) := by
    simp [sliceS, optBound, bound, hz4, hex]
  rw [hx] at hib
  simp [f_strings_IndexRune, env0, go_sem, get_alloc, n_alloc, get_set, n_set, get_kill, n_kill, writeAt, a11, a21, a31, a41, a51, a61, a71, hv, hvr, he, hz, wl1, wl2]
  refine M_loop l2_strings_IndexRune.eq_1 ?_
  simp [go_sem, get_alloc, n_alloc, get_set, n_set, get_kill, n_kill, writeAt, a11, a21, a31, a41, a51, a61, a71, hz, hz4, indexIn, optEv, hsl, hib, wl0, wl1, wl2, wl3, wl4, wl5, wl6, wl7, wl8]
  refine M_loop l1_strings_IndexRune.eq_1 ?_
  simp [go_sem, get_alloc, n_alloc, get_set, n_set, get_kill, n_kill, writeAt, a11, a21, a31, a41, a51, a61, a71, hz, hz4, indexIn, wl0, wl1, wl2, wl3, wl4, wl5, wl6, wl7, wl8]
  refine M_loop l1_strings_IndexRune.eq_1 ?_
  simp [go_sem, get_alloc, n_alloc, get_set, n_set, get_kill, n_kill, writeAt, a11, a21, a31, a41, a51, a61, a71, hz, hz4, indexIn, wl0, wl1, wl2, wl3, wl4, wl5, wl6, wl7, wl8]
  simp [go_sem, endP, endI, resultsA, resultA, freezeL, freezeV, AV.free.freeL, AV.free, packA, dropS]
theorem ir_b164 : call tb prim n_strings_IndexRune [.str ⟨#[64, 194, 169, 36, 194, 174, 35, 194, 164]⟩, .int .i32 164] bar g = some (.int .i64 7, g) := by
  refine call_of tb_strings_IndexRune (callF_pureW rfl rfl (M_in ?_))
  have hv := fun (b : Nat) (g : H) => utf8_ValidRune_ok (pr := prim) (bar := b) (h := g) 164
  have hvr : validR 164 = true := rfl
  have he : Utf8.encode 164 = ⟨#[194, 164]⟩ := by decide +kernel
  have hz : (ByteArray.mk #[194, 164]).size = 2 := rfl
  have hz4 : (ByteArray.mk #[64, 194, 169, 36, 194, 174, 35, 194, 164]).size = 9 := rfl
  have hib := fun (b : Nat) (g : H) => strings_IndexByte_ok (bar := b) (h := g) ⟨#[169, 36, 194, 174, 35, 194, 164]⟩ 164
  have hx : Lib.indexByte (ByteArray.mk #[169, 36, 194, 174, 35, 194, 164]).data.toList (164 : Int).toNat.toUInt8 = 6 := by decide +kernel
  have hex : (ByteArray.mk #[64, 194, 169, 36, 194, 174, 35, 194, 164]).extract 2 9 = ⟨#[169, 36, 194, 174, 35, 194, 164]⟩ := by decide +kernel
  have hsl : sliceS ⟨#[64, 194, 169, 36, 194, 174, 35, 194, 164]⟩ (some (.int .i64 2)) none = some (.str ⟨#[169, 36, 194, 174, 35, 194, 164]⟩) := by
    simp [sliceS, optBound, bound, hz4, hex]
  rw [hx] at hib
  simp [f_strings_IndexRune, env0, go_sem, get_alloc, n_alloc, get_set, n_set, get_kill, n_kill, writeAt, a11, a21, a31, a41, a51, a61, a71, hv, hvr, he, hz, wl1, wl2]
  refine M_loop l2_strings_IndexRune.eq_1 ?_
  simp [go_sem, get_alloc, n_alloc, get_set, n_set, get_kill, n_kill, writeAt, a11, a21, a31, a41, a51, a61, a71, hz, hz4, indexIn, optEv, hsl, hib, wl0, wl1, wl2, wl3, wl4, wl5, wl6, wl7, wl8]
  refine M_loop l1_strings_IndexRune.eq_1 ?_
  simp [go_sem, get_alloc, n_alloc, get_set, n_set, get_kill, n_kill, writeAt, a11, a21, a31, a41, a51, a61, a71, hz, hz4, indexIn, wl0, wl1, wl2, wl3, wl4, wl5, wl6, wl7, wl8]
  refine M_loop l1_strings_IndexRune.eq_1 ?_
  simp [go_sem, get_alloc, n_alloc, get_set, n_set, get_kill, n_kill, writeAt, a11, a21, a31, a41, a51, a61, a71, hz, hz4, indexIn, wl0, wl1, wl2, wl3, wl4, wl5, wl6, wl7, wl8]
  simp [go_sem, endP, endI, resultsA, resultA, freezeL, freezeV, AV.free.freeL, AV.free, packA, dropS]
theorem ir_b161 : call tb prim n_strings_IndexRune [.str ⟨#[64, 194, 169, 36, 194, 174, 35, 194, 164]⟩, .int .i32 161] bar g = some (.int .i64 (-1), g) := by
  refine call_of tb_strings_IndexRune (callF_pureW rfl rfl (M_in ?_))
  have hv := fun (b : Nat) (g : H) => utf8_ValidRune_ok (pr := prim) (bar := b) (h := g) 161
  have hvr : validR 161 = true := rfl
  have he : Utf8.encode 161 = ⟨#[194, 161]⟩ := by decide +kernel
  have hz : (ByteArray.mk #[194, 161]).size = 2 := rfl
  have hz4 : (ByteArray.mk #[64, 194, 169, 36, 194, 174, 35, 194, 164]).size = 9 := rfl
  have hib := fun (b : Nat) (g : H) => strings_IndexByte_ok (bar := b) (h := g) ⟨#[169, 36, 194, 174, 35, 194, 164]⟩ 161
  have hx : Lib.indexByte (ByteArray.mk #[169, 36, 194, 174, 35, 194, 164]).data.toList (161 : Int).toNat.toUInt8 = -1 := by decide +kernel
  have hex : (ByteArray.mk #[64, 194, 169, 36, 194, 174, 35, 194, 164]).extract 2 9 = ⟨#[169, 36, 194, 174, 35, 194, 164]⟩ := by decide +kernel
  have hsl : sliceS ⟨#[64, 194, 169, 36, 194, 174, 35, 194, 164]⟩ (some (.int .i64 2)) none = some (.str ⟨#[169, 36, 194, 174, 35, 194, 164]⟩) := by
    simp [sliceS, optBound, bound, hz4, hex]
  rw [hx] at hib
  simp [f_strings_IndexRune, env0, go_sem, get_alloc, n_alloc, get_set, n_set, get_kill, n_kill, writeAt, a11, a21, a31, a41, a51, a61, a71, hv, hvr, he, hz, wl1, wl2]
  refine M_loop l2_strings_IndexRune.eq_1 ?_
  simp [go_sem, get_alloc, n_alloc, get_set, n_set, get_kill, n_kill, writeAt, a11, a21, a31, a41, a51, a61, a71, hz, hz4, indexIn, optEv, hsl, hib, wl0, wl1, wl2, wl3, wl4, wl5, wl6, wl7, wl8]
  simp [go_sem, endP, endI, resultsA, resultA, freezeL, freezeV, AV.free.freeL, AV.free, packA, dropS]
theorem ir_b960 : call tb prim n_strings_IndexRune [.str ⟨#[64, 194, 169, 36, 194, 174, 35, 194, 164]⟩, .int .i32 960] bar g = some (.int .i64 (-1), g) := by
  refine call_of tb_strings_IndexRune (callF_pureW rfl rfl (M_in ?_))
  have hv := fun (b : Nat) (g : H) => utf8_ValidRune_ok (pr := prim) (bar := b) (h := g) 960
  have hvr : validR 960 = true := rfl
  have he : Utf8.encode 960 = ⟨#[207, 128]⟩ := by decide +kernel
  have hz : (ByteArray.mk #[207, 128]).size = 2 := rfl
  have hz4 : (ByteArray.mk #[64, 194, 169, 36, 194, 174, 35, 194, 164]).size = 9 := rfl
  have hib := fun (b : Nat) (g : H) => strings_IndexByte_ok (bar := b) (h := g) ⟨#[169, 36, 194, 174, 35, 194, 164]⟩ 128
  have hx : Lib.indexByte (ByteArray.mk #[169, 36, 194, 174, 35, 194, 164]).data.toList (128 : Int).toNat.toUInt8 = -1 := by decide +kernel
  have hex : (ByteArray.mk #[64, 194, 169, 36, 194, 174, 35, 194, 164]).extract 2 9 = ⟨#[169, 36, 194, 174, 35, 194, 164]⟩ := by decide +kernel
  have hsl : sliceS ⟨#[64, 194, 169, 36, 194, 174, 35, 194, 164]⟩ (some (.int .i64 2)) none = some (.str ⟨#[169, 36, 194, 174, 35, 194, 164]⟩) := by
    simp [sliceS, optBound, bound, hz4, hex]
  rw [hx] at hib
  simp [f_strings_IndexRune, env0, go_sem, get_alloc, n_alloc, get_set, n_set, get_kill, n_kill, writeAt, a11, a21, a31, a41, a51, a61, a71, hv, hvr, he, hz, wl1, wl2]
  refine M_loop l2_strings_IndexRune.eq_1 ?_
  simp [go_sem, get_alloc, n_alloc, get_set, n_set, get_kill, n_kill, writeAt, a11, a21, a31, a41, a51, a61, a71, hz, hz4, indexIn, optEv, hsl, hib, wl0, wl1, wl2, wl3, wl4, wl5, wl6, wl7, wl8]
  simp [go_sem, endP, endI, resultsA, resultA, freezeL, freezeV, AV.free.freeL, AV.free, packA, dropS]
/-- Signs that may come there. -/
def sgG (r : Int) : Bool := decide (r = 43 ∨ r = 45 ∨ r = 42 ∨ r = 47 ∨ r = 37 ∨ r = 38 ∨ r = 124 ∨ r = 94 ∨ r = 60 ∨ r = 61 ∨ r = 33 ∨ r = 46 ∨ r = 44 ∨ r = 64 ∨ r = 36 ∨ r = 35 ∨ r = 63 ∨ r = 58 ∨ r = 59 ∨ r = 91 ∨ r = 93 ∨ r = 126 ∨ r = 171 ∨ r = 187 ∨ r = 169 ∨ r = 174 ∨ r = 164 ∨ r = 161 ∨ r = 960)
theorem con_of {s : ByteArray} {r i : Int} (h : ∀ (b : Nat) (g : H), call tb prim n_strings_IndexRune [.str s, .int .i32 r] b g = some (.int .i64 i, g)) : call tb prim n_strings_ContainsRune [.str s, .int .i32 r] bar g = some (.bool (decide (0 ≤ i)), g) := by
  refine call_of tb_strings_ContainsRune (callF_pureW rfl rfl (M_in ?_))
  simp [f_strings_ContainsRune, env0, go_sem, get_alloc, n_alloc, get_set, n_set, get_kill, n_kill, writeAt, a11, a21, a31, a41, a51, a61, a71, endP, endI, resultsA, resultA, freezeL, freezeV, AV.free.freeL, AV.free, packA, dropS, h]
theorem con_a {r : Int} (h : sgG r = true) : call tb prim n_strings_ContainsRune [.str ⟨#[63, 58, 93, 126]⟩, .int .i32 r] bar g = some (.bool (isGo r), g) := by
  have h' : r = 43 ∨ r = 45 ∨ r = 42 ∨ r = 47 ∨ r = 37 ∨ r = 38 ∨ r = 124 ∨ r = 94 ∨ r = 60 ∨ r = 61 ∨ r = 33 ∨ r = 46 ∨ r = 44 ∨ r = 64 ∨ r = 36 ∨ r = 35 ∨ r = 63 ∨ r = 58 ∨ r = 59 ∨ r = 91 ∨ r = 93 ∨ r = 126 ∨ r = 171 ∨ r = 187 ∨ r = 169 ∨ r = 174 ∨ r = 164 ∨ r = 161 ∨ r = 960 := by simpa [sgG] using h
  rcases h' with rfl | rfl | rfl | rfl | rfl | rfl | rfl | rfl | rfl | rfl | rfl | rfl | rfl | rfl | rfl | rfl | rfl | rfl | rfl | rfl | rfl | rfl | rfl | rfl | rfl | rfl | rfl | rfl | rfl
  · exact (con_of (i := Lib.indexByte (ByteArray.mk #[63, 58, 93, 126]).data.toList (43 : Int).toNat.toUInt8) (fun b g => ir_ascii _ 43 (by omega) (by omega))).trans (by rw [show (decide (0 ≤ Lib.indexByte (ByteArray.mk #[63, 58, 93, 126]).data.toList (43 : Int).toNat.toUInt8)) = isGo 43 from by decide +kernel])
  · exact (con_of (i := Lib.indexByte (ByteArray.mk #[63, 58, 93, 126]).data.toList (45 : Int).toNat.toUInt8) (fun b g => ir_ascii _ 45 (by omega) (by omega))).trans (by rw [show (decide (0 ≤ Lib.indexByte (ByteArray.mk #[63, 58, 93, 126]).data.toList (45 : Int).toNat.toUInt8)) = isGo 45 from by decide +kernel])
  · exact (con_of (i := Lib.indexByte (ByteArray.mk #[63, 58, 93, 126]).data.toList (42 : Int).toNat.toUInt8) (fun b g => ir_ascii _ 42 (by omega) (by omega))).trans (by rw [show (decide (0 ≤ Lib.indexByte (ByteArray.mk #[63, 58, 93, 126]).data.toList (42 : Int).toNat.toUInt8)) = isGo 42 from by decide +kernel])
  · exact (con_of (i := Lib.indexByte (ByteArray.mk #[63, 58, 93, 126]).data.toList (47 : Int).toNat.toUInt8) (fun b g => ir_ascii _ 47 (by omega) (by omega))).trans (by rw [show (decide (0 ≤ Lib.indexByte (ByteArray.mk #[63, 58, 93, 126]).data.toList (47 : Int).toNat.toUInt8)) = isGo 47 from by decide +kernel])
  · exact (con_of (i := Lib.indexByte (ByteArray.mk #[63, 58, 93, 126]).data.toList (37 : Int).toNat.toUInt8) (fun b g => ir_ascii _ 37 (by omega) (by omega))).trans (by rw [show (decide (0 ≤ Lib.indexByte (ByteArray.mk #[63, 58, 93, 126]).data.toList (37 : Int).toNat.toUInt8)) = isGo 37 from by decide +kernel])
  · exact (con_of (i := Lib.indexByte (ByteArray.mk #[63, 58, 93, 126]).data.toList (38 : Int).toNat.toUInt8) (fun b g => ir_ascii _ 38 (by omega) (by omega))).trans (by rw [show (decide (0 ≤ Lib.indexByte (ByteArray.mk #[63, 58, 93, 126]).data.toList (38 : Int).toNat.toUInt8)) = isGo 38 from by decide +kernel])
  · exact (con_of (i := Lib.indexByte (ByteArray.mk #[63, 58, 93, 126]).data.toList (124 : Int).toNat.toUInt8) (fun b g => ir_ascii _ 124 (by omega) (by omega))).trans (by rw [show (decide (0 ≤ Lib.indexByte (ByteArray.mk #[63, 58, 93, 126]).data.toList (124 : Int).toNat.toUInt8)) = isGo 124 from by decide +kernel])
  · exact (con_of (i := Lib.indexByte (ByteArray.mk #[63, 58, 93, 126]).data.toList (94 : Int).toNat.toUInt8) (fun b g => ir_ascii _ 94 (by omega) (by omega))).trans (by rw [show (decide (0 ≤ Lib.indexByte (ByteArray.mk #[63, 58, 93, 126]).data.toList (94 : Int).toNat.toUInt8)) = isGo 94 from by decide +kernel])
  · exact (con_of (i := Lib.indexByte (ByteArray.mk #[63, 58, 93, 126]).data.toList (60 : Int).toNat.toUInt8) (fun b g => ir_ascii _ 60 (by omega) (by omega))).trans (by rw [show (decide (0 ≤ Lib.indexByte (ByteArray.mk #[63, 58, 93, 126]).data.toList (60 : Int).toNat.toUInt8)) = isGo 60 from by decide +kernel])
  · exact (con_of (i := Lib.indexByte (ByteArray.mk #[63, 58, 93, 126]).data.toList (61 : Int).toNat.toUInt8) (fun b g => ir_ascii _ 61 (by omega) (by omega))).trans (by rw [show (decide (0 ≤ Lib.indexByte (ByteArray.mk #[63, 58, 93, 126]).data.toList (61 : Int).toNat.toUInt8)) = isGo 61 from by decide +kernel])
  · exact (con_of (i := Lib.indexByte (ByteArray.mk #[63, 58, 93, 126]).data.toList (33 : Int).toNat.toUInt8) (fun b g => ir_ascii _ 33 (by omega) (by omega))).trans (by rw [show (decide (0 ≤ Lib.indexByte (ByteArray.mk #[63, 58, 93, 126]).data.toList (33 : Int).toNat.toUInt8)) = isGo 33 from by decide +kernel])
  · exact (con_of (i := Lib.indexByte (ByteArray.mk #[63, 58, 93, 126]).data.toList (46 : Int).toNat.toUInt8) (fun b g => ir_ascii _ 46 (by omega) (by omega))).trans (by rw [show (decide (0 ≤ Lib.indexByte (ByteArray.mk #[63, 58, 93, 126]).data.toList (46 : Int).toNat.toUInt8)) = isGo 46 from by decide +kernel])
  · exact (con_of (i := Lib.indexByte (ByteArray.mk #[63, 58, 93, 126]).data.toList (44 : Int).toNat.toUInt8) (fun b g => ir_ascii _ 44 (by omega) (by omega))).trans (by rw [show (decide (0 ≤ Lib.indexByte (ByteArray.mk #[63, 58, 93, 126]).data.toList (44 : Int).toNat.toUInt8)) = isGo 44 from by decide +kernel])
  · exact (con_of (i := Lib.indexByte (ByteArray.mk #[63, 58, 93, 126]).data.toList (64 : Int).toNat.toUInt8) (fun b g => ir_ascii _ 64 (by omega) (by omega))).trans (by rw [show (decide (0 ≤ Lib.indexByte (ByteArray.mk #[63, 58, 93, 126]).data.toList (64 : Int).toNat.toUInt8)) = isGo 64 from by decide +kernel])
  · exact (con_of (i := Lib.indexByte (ByteArray.mk #[63, 58, 93, 126]).data.toList (36 : Int).toNat.toUInt8) (fun b g => ir_ascii _ 36 (by omega) (by omega))).trans (by rw [show (decide (0 ≤ Lib.indexByte (ByteArray.mk #[63, 58, 93, 126]).data.toList (36 : Int).toNat.toUInt8)) = isGo 36 from by decide +kernel])
  · exact (con_of (i := Lib.indexByte (ByteArray.mk #[63, 58, 93, 126]).data.toList (35 : Int).toNat.toUInt8) (fun b g => ir_ascii _ 35 (by omega) (by omega))).trans (by rw [show (decide (0 ≤ Lib.indexByte (ByteArray.mk #[63, 58, 93, 126]).data.toList (35 : Int).toNat.toUInt8)) = isGo 35 from by decide +kernel])
  · exact (con_of (i := Lib.indexByte (ByteArray.mk #[63, 58, 93, 126]).data.toList (63 : Int).toNat.toUInt8) (fun b g => ir_ascii _ 63 (by omega) (by omega))).trans (by rw [show (decide (0 ≤ Lib.indexByte (ByteArray.mk #[63, 58, 93, 126]).data.toList (63 : Int).toNat.toUInt8)) = isGo 63 from by decide +kernel])
  · exact (con_of (i := Lib.indexByte (ByteArray.mk #[63, 58, 93, 126]).data.toList (58 : Int).toNat.toUInt8) (fun b g => ir_ascii _ 58 (by omega) (by omega))).trans (by rw [show (decide (0 ≤ Lib.indexByte (ByteArray.mk #[63, 58, 93, 126]).data.toList (58 : Int).toNat.toUInt8)) = isGo 58 from by decide +kernel])
  · exact (con_of (i := Lib.indexByte (ByteArray.mk #[63, 58, 93, 126]).data.toList (59 : Int).toNat.toUInt8) (fun b g => ir_ascii _ 59 (by omega) (by omega))).trans (by rw [show (decide (0 ≤ Lib.indexByte (ByteArray.mk #[63, 58, 93, 126]).data.toList (59 : Int).toNat.toUInt8)) = isGo 59 from by decide +kernel])
  · exact (con_of (i := Lib.indexByte (ByteArray.mk #[63, 58, 93, 126]).data.toList (91 : Int).toNat.toUInt8) (fun b g => ir_ascii _ 91 (by omega) (by omega))).trans (by rw [show (decide (0 ≤ Lib.indexByte (ByteArray.mk #[63, 58, 93, 126]).data.toList (91 : Int).toNat.toUInt8)) = isGo 91 from by decide +kernel])
  · exact (con_of (i := Lib.indexByte (ByteArray.mk #[63, 58, 93, 126]).data.toList (93 : Int).toNat.toUInt8) (fun b g => ir_ascii _ 93 (by omega) (by omega))).trans (by rw [show (decide (0 ≤ Lib.indexByte (ByteArray.mk #[63, 58, 93, 126]).data.toList (93 : Int).toNat.toUInt8)) = isGo 93 from by decide +kernel])
  · exact (con_of (i := Lib.indexByte (ByteArray.mk #[63, 58, 93, 126]).data.toList (126 : Int).toNat.toUInt8) (fun b g => ir_ascii _ 126 (by omega) (by omega))).trans (by rw [show (decide (0 ≤ Lib.indexByte (ByteArray.mk #[63, 58, 93, 126]).data.toList (126 : Int).toNat.toUInt8)) = isGo 126 from by decide +kernel])
  · exact (con_of (fun b g => ir_a171)).trans rfl
  · exact (con_of (fun b g => ir_a187)).trans rfl
  · exact (con_of (fun b g => ir_a169)).trans rfl
  · exact (con_of (fun b g => ir_a174)).trans rfl
  · exact (con_of (fun b g => ir_a164)).trans rfl
  · exact (con_of (fun b g => ir_a161)).trans rfl
  · exact (con_of (fun b g => ir_a960)).trans rfl
theorem con_b {r : Int} (h : sgG r = true) : call tb prim n_strings_ContainsRune [.str ⟨#[64, 194, 169, 36, 194, 174, 35, 194, 164]⟩, .int .i32 r] bar g = some (.bool (isMemS r), g) := by
  have h' : r = 43 ∨ r = 45 ∨ r = 42 ∨ r = 47 ∨ r = 37 ∨ r = 38 ∨ r = 124 ∨ r = 94 ∨ r = 60 ∨ r = 61 ∨ r = 33 ∨ r = 46 ∨ r = 44 ∨ r = 64 ∨ r = 36 ∨ r = 35 ∨ r = 63 ∨ r = 58 ∨ r = 59 ∨ r = 91 ∨ r = 93 ∨ r = 126 ∨ r = 171 ∨ r = 187 ∨ r = 169 ∨ r = 174 ∨ r = 164 ∨ r = 161 ∨ r = 960 := by simpa [sgG] using h
  rcases h' with rfl | rfl | rfl | rfl | rfl | rfl | rfl | rfl | rfl | rfl | rfl | rfl | rfl | rfl | rfl | rfl | rfl | rfl | rfl | rfl | rfl | rfl | rfl | rfl | rfl | rfl | rfl | rfl | rfl
  · exact (con_of (i := Lib.indexByte (ByteArray.mk #[64, 194, 169, 36, 194, 174, 35, 194, 164]).data.toList (43 : Int).toNat.toUInt8) (fun b g => ir_ascii _ 43 (by omega) (by omega))).trans (by rw [show (decide (0 ≤ Lib.indexByte (ByteArray.mk #[64, 194, 169, 36, 194, 174, 35, 194, 164]).data.toList (43 : Int).toNat.toUInt8)) = isMemS 43 from by decide +kernel])
  · exact (con_of (i := Lib.indexByte (ByteArray.mk #[64, 194, 169, 36, 194, 174, 35, 194, 164]).data.toList (45 : Int).toNat.toUInt8) (fun b g => ir_ascii _ 45 (by omega) (by omega))).trans (by rw [show (decide (0 ≤ Lib.indexByte (ByteArray.mk #[64, 194, 169, 36, 194, 174, 35, 194, 164]).data.toList (45 : Int).toNat.toUInt8)) = isMemS 45 from by decide +kernel])
  · exact (con_of (i := Lib.indexByte (ByteArray.mk #[64, 194, 169, 36, 194, 174, 35, 194, 164]).data.toList (42 : Int).toNat.toUInt8) (fun b g => ir_ascii _ 42 (by omega) (by omega))).trans (by rw [show (decide (0 ≤ Lib.indexByte (ByteArray.mk #[64, 194, 169, 36, 194, 174, 35, 194, 164]).data.toList (42 : Int).toNat.toUInt8)) = isMemS 42 from by decide +kernel])
  · exact (con_of (i := Lib.indexByte (ByteArray.mk #[64, 194, 169, 36, 194, 174, 35, 194, 164]).data.toList (47 : Int).toNat.toUInt8) (fun b g => ir_ascii _ 47 (by omega) (by omega))).trans (by rw [show (decide (0 ≤ Lib.indexByte (ByteArray.mk #[64, 194, 169, 36, 194, 174, 35, 194, 164]).data.toList (47 : Int).toNat.toUInt8)) = isMemS 47 from by decide +kernel])
  · exact (con_of (i := Lib.indexByte (ByteArray.mk #[64, 194, 169, 36, 194, 174, 35, 194, 164]).data.toList (37 : Int).toNat.toUInt8) (fun b g => ir_ascii _ 37 (by omega) (by omega))).trans (by rw [show (decide (0 ≤ Lib.indexByte (ByteArray.mk #[64, 194, 169, 36, 194, 174, 35, 194, 164]).data.toList (37 : Int).toNat.toUInt8)) = isMemS 37 from by decide +kernel])
  · exact (con_of (i := Lib.indexByte (ByteArray.mk #[64, 194, 169, 36, 194, 174, 35, 194, 164]).data.toList (38 : Int).toNat.toUInt8) (fun b g => ir_ascii _ 38 (by omega) (by omega))).trans (by rw [show (decide (0 ≤ Lib.indexByte (ByteArray.mk #[64, 194, 169, 36, 194, 174, 35, 194, 164]).data.toList (38 : Int).toNat.toUInt8)) = isMemS 38 from by decide +kernel])
  · exact (con_of (i := Lib.indexByte (ByteArray.mk #[64, 194, 169, 36, 194, 174, 35, 194, 164]).data.toList (124 : Int).toNat.toUInt8) (fun b g => ir_ascii _ 124 (by omega) (by omega))).trans (by rw [show (decide (0 ≤ Lib.indexByte (ByteArray.mk #[64, 194, 169, 36, 194, 174, 35, 194, 164]).data.toList (124 : Int).toNat.toUInt8)) = isMemS 124 from by decide +kernel])
  · exact (con_of (i := Lib.indexByte (ByteArray.mk #[64, 194, 169, 36, 194, 174, 35, 194, 164]).data.toList (94 : Int).toNat.toUInt8) (fun b g => ir_ascii _ 94 (by omega) (by omega))).trans (by rw [show (decide (0 ≤ Lib.indexByte (ByteArray.mk #[64, 194, 169, 36, 194, 174, 35, 194, 164]).data.toList (94 : Int).toNat.toUInt8)) = isMemS 94 from by decide +kernel])
  · exact (con_of (i := Lib.indexByte (ByteArray.mk #[64, 194, 169, 36, 194, 174, 35, 194, 164]).data.toList (60 : Int).toNat.toUInt8) (fun b g => ir_ascii _ 60 (by omega) (by omega))).trans (by rw [show (decide (0 ≤ Lib.indexByte (ByteArray.mk #[64, 194, 169, 36, 194, 174, 35, 194, 164]).data.toList (60 : Int).toNat.toUInt8)) = isMemS 60 from by decide +kernel])
  · exact (con_of (i := Lib.indexByte (ByteArray.mk #[64, 194, 169, 36, 194, 174, 35, 194, 164]).data.toList (61 : Int).toNat.toUInt8) (fun b g => ir_ascii _ 61 (by omega) (by omega))).trans (by rw [show (decide (0 ≤ Lib.indexByte (ByteArray.mk #[64, 194, 169, 36, 194, 174, 35, 194, 164]).data.toList (61 : Int).toNat.toUInt8)) = isMemS 61 from by decide +kernel])
  · exact (con_of (i := Lib.indexByte (ByteArray.mk #[64, 194, 169, 36, 194, 174, 35, 194, 164]).data.toList (33 : Int).toNat.toUInt8) (fun b g => ir_ascii _ 33 (by omega) (by omega))).trans (by rw [show (decide (0 ≤ Lib.indexByte (ByteArray.mk #[64, 194, 169, 36, 194, 174, 35, 194, 164]).data.toList (33 : Int).toNat.toUInt8)) = isMemS 33 from by decide +kernel])
  · exact (con_of (i := Lib.indexByte (ByteArray.mk #[64, 194, 169, 36, 194, 174, 35, 194, 164]).data.toList (46 : Int).toNat.toUInt8) (fun b g => ir_ascii _ 46 (by omega) (by omega))).trans (by rw [show (decide (0 ≤ Lib.indexByte (ByteArray.mk #[64, 194, 169, 36, 194, 174, 35, 194, 164]).data.toList (46 : Int).toNat.toUInt8)) = isMemS 46 from by decide +kernel])
  · exact (con_of (i := Lib.indexByte (ByteArray.mk #[64, 194, 169, 36, 194, 174, 35, 194, 164]).data.toList (44 : Int).toNat.toUInt8) (fun b g => ir_ascii _ 44 (by omega) (by omega))).trans (by rw [show (decide (0 ≤ Lib.indexByte (ByteArray.mk #[64, 194, 169, 36, 194, 174, 35, 194, 164]).data.toList (44 : Int).toNat.toUInt8)) = isMemS 44 from by decide +kernel])
  · exact (con_of (i := Lib.indexByte (ByteArray.mk #[64, 194, 169, 36, 194, 174, 35, 194, 164]).data.toList (64 : Int).toNat.toUInt8) (fun b g => ir_ascii _ 64 (by omega) (by omega))).trans (by rw [show (decide (0 ≤ Lib.indexByte (ByteArray.mk #[64, 194, 169, 36, 194, 174, 35, 194, 164]).data.toList (64 : Int).toNat.toUInt8)) = isMemS 64 from by decide +kernel])
  · exact (con_of (i := Lib.indexByte (ByteArray.mk #[64, 194, 169, 36, 194, 174, 35, 194, 164]).data.toList (36 : Int).toNat.toUInt8) (fun b g => ir_ascii _ 36 (by omega) (by omega))).trans (by rw [show (decide (0 ≤ Lib.indexByte (ByteArray.mk #[64, 194, 169, 36, 194, 174, 35, 194, 164]).data.toList (36 : Int).toNat.toUInt8)) = isMemS 36 from by decide +kernel])
  · exact (con_of (i := Lib.indexByte (ByteArray.mk #[64, 194, 169, 36, 194, 174, 35, 194, 164]).data.toList (35 : Int).toNat.toUInt8) (fun b g => ir_ascii _ 35 (by omega) (by omega))).trans (by rw [show (decide (0 ≤ Lib.indexByte (ByteArray.mk #[64, 194, 169, 36, 194, 174, 35, 194, 164]).data.toList (35 : Int).toNat.toUInt8)) = isMemS 35 from by decide +kernel])
  · exact (con_of (i := Lib.indexByte (ByteArray.mk #[64, 194, 169, 36, 194, 174, 35, 194, 164]).data.toList (63 : Int).toNat.toUInt8) (fun b g => ir_ascii _ 63 (by omega) (by omega))).trans (by rw [show (decide (0 ≤ Lib.indexByte (ByteArray.mk #[64, 194, 169, 36, 194, 174, 35, 194, 164]).data.toList (63 : Int).toNat.toUInt8)) = isMemS 63 from by decide +kernel])
  · exact (con_of (i := Lib.indexByte (ByteArray.mk #[64, 194, 169, 36, 194, 174, 35, 194, 164]).data.toList (58 : Int).toNat.toUInt8) (fun b g => ir_ascii _ 58 (by omega) (by omega))).trans (by rw [show (decide (0 ≤ Lib.indexByte (ByteArray.mk #[64, 194, 169, 36, 194, 174, 35, 194, 164]).data.toList (58 : Int).toNat.toUInt8)) = isMemS 58 from by decide +kernel])
  · exact (con_of (i := Lib.indexByte (ByteArray.mk #[64, 194, 169, 36, 194, 174, 35, 194, 164]).data.toList (59 : Int).toNat.toUInt8) (fun b g => ir_ascii _ 59 (by omega) (by omega))).trans (by rw [show (decide (0 ≤ Lib.indexByte (ByteArray.mk #[64, 194, 169, 36, 194, 174, 35, 194, 164]).data.toList (59 : Int).toNat.toUInt8)) = isMemS 59 from by decide +kernel])
  · exact (con_of (i := Lib.indexByte (ByteArray.mk #[64, 194, 169, 36, 194, 174, 35, 194, 164]).data.toList (91 : Int).toNat.toUInt8) (fun b g => ir_ascii _ 91 (by omega) (by omega))).trans (by rw [show (decide (0 ≤ Lib.indexByte (ByteArray.mk #[64, 194, 169, 36, 194, 174, 35, 194, 164]).data.toList (91 : Int).toNat.toUInt8)) = isMemS 91 from by decide +kernel])
  · exact (con_of (i := Lib.indexByte (ByteArray.mk #[64, 194, 169, 36, 194, 174, 35, 194, 164]).data.toList (93 : Int).toNat.toUInt8) (fun b g => ir_ascii _ 93 (by omega) (by omega))).trans (by rw [show (decide (0 ≤ Lib.indexByte (ByteArray.mk #[64, 194, 169, 36, 194, 174, 35, 194, 164]).data.toList (93 : Int).toNat.toUInt8)) = isMemS 93 from by decide +kernel])
  · exact (con_of (i := Lib.indexByte (ByteArray.mk #[64, 194, 169, 36, 194, 174, 35, 194, 164]).data.toList (126 : Int).toNat.toUInt8) (fun b g => ir_ascii _ 126 (by omega) (by omega))).trans (by rw [show (decide (0 ≤ Lib.indexByte (ByteArray.mk #[64, 194, 169, 36, 194, 174, 35, 194, 164]).data.toList (126 : Int).toNat.toUInt8)) = isMemS 126 from by decide +kernel])
  · exact (con_of (fun b g => ir_b171)).trans rfl
  · exact (con_of (fun b g => ir_b187)).trans rfl
  · exact (con_of (fun b g => ir_b169)).trans rfl
  · exact (con_of (fun b g => ir_b174)).trans rfl
  · exact (con_of (fun b g => ir_b164)).trans rfl
  · exact (con_of (fun b g => ir_b161)).trans rfl
  · exact (con_of (fun b g => ir_b960)).trans rfl
end
end Go.Ev
set_option linter.unusedSectionVars false
namespace Go.Ev
open Go
/-- Whose an object is; objects from n on are k's. -/
def ext (own : Nat → Nat) (n k : Nat) : Nat → Nat := fun j => if j < n then own j else k
def At (own : Nat → Nat) (a : AV) (k : Nat) : Prop := ∀ j, a.isAt j → own j = k
/-- Nothing has turned but what belongs to S. -/
def Kp (own : Nat → Nat) (S : Nat → Prop) (g g' : H) : Prop := g.n ≤ g'.n ∧ ∀ j, j < g.n → ¬ S (own j) → g'.get j = g.get j
def Agr (n : Nat) (own own' : Nat → Nat) : Prop := ∀ j, j < n → own' j = own j
theorem Agr.ext {own : Nat → Nat} {n k : Nat} : Agr n own (ext own n k) := fun j hj => by simp [Go.Ev.ext, hj]
theorem Agr.refl {own : Nat → Nat} {n : Nat} : Agr n own own := fun _ _ => rfl
theorem Agr.trans {a b c : Nat → Nat} {n m : Nat} (h : Agr n a b) (h2 : Agr m b c) (hn : n ≤ m) : Agr n a c := fun j hj => (h2 j (by omega)).trans (h j hj)
theorem Kp.trans {own own' : Nat → Nat} {S : Nat → Prop} {g g' g'' : H} (h : Kp own S g g') (ha : Agr g.n own own') (h2 : Kp own' S g' g'') : Kp own S g g'' :=
  ⟨by have := h.1; have := h2.1; omega, fun j hj hs => by rw [h2.2 j (by have := h.1; omega) (by rw [ha j hj]; exact hs), h.2 j hj hs]⟩
theorem Kp.le {own : Nat → Nat} {S T : Nat → Prop} {g g' : H} (h : Kp own S g g') (hst : ∀ k, S k → T k) : Kp own T g g' := ⟨h.1, fun j hj hs => h.2 j hj fun q => hs (hst _ q)⟩
theorem Kp.refl {own : Nat → Nat} {S : Nat → Prop} {g : H} : Kp own S g g := ⟨Nat.le_refl _, fun _ _ _ => rfl⟩
def CodeV (c : Code') (la ta : AV) : Prop := (FzV 3 la c.l.length (c.l.flatMap Tok.cells) ∧ FzV 1 ta c.to.length (c.to.flatMap i64c)) ∧ c.l.length ≤ 2000 ∧ c.to.length ≤ 2000 ∧ ∀ x ∈ c.to, x ≤ 2000
structure FrO (g : H) (b : Nat) (own : Nat → Nat) (t : Nat) (f : Fm) (id : Nat) : Prop where
  ex : ∃ la ta sa, FrV g b f id la ta sa ∧ At own sa (2 * t + 11) ∧ CodeV f.c la ta
  own : own id = 2 * t + 10
theorem FrO.mono {g g' : H} {b : Nat} {own own' : Nat → Nat} {S : Nat → Prop} {t : Nat} {f : Fm} {id : Nat} (v : FrO g b own t f id) (k : Kp own S g g') (a : Agr g.n own own') (h1 : ¬ S (2 * t + 10)) (h2 : ¬ S (2 * t + 11)) : FrO g' b own' t f id := by
  obtain ⟨⟨la, ta, sa, hv, hs, hc⟩, ho⟩ := v
  refine ⟨⟨la, ta, sa, hv.mono k.1 (k.2 id hv.lt (by rw [ho]; exact h1)) (fun j hj => k.2 j (hv.st.at_lt hj).2 (by rw [hs j hj]; exact h2)), fun j hj => by rw [a j (hv.st.at_lt hj).2]; exact hs j hj, hc⟩, by rw [a id hv.lt]; exact ho⟩
def FrsV (g : H) (b : Nat) (own : Nat → Nat) : List Fm → List Nat → Prop
  | [], [] => True
  | f :: r, id :: l => FrO g b own r.length f id ∧ FrsV g b own r l
  | _, _ => False
theorem FrsV.len {g : H} {b : Nat} {own : Nat → Nat} : ∀ {fr : List Fm} {l : List Nat}, FrsV g b own fr l → l.length = fr.length
  | [], [], _ => rfl
  | _ :: r, _ :: l, h => by simp [FrsV.len h.2]
theorem FrsV.mono {g g' : H} {b : Nat} {own own' : Nat → Nat} {S : Nat → Prop} (k : Kp own S g g') (a : Agr g.n own own') : ∀ {fr : List Fm} {l : List Nat}, FrsV g b own fr l → (∀ t, t < fr.length → ¬ S (2 * t + 10) ∧ ¬ S (2 * t + 11)) → FrsV g' b own' fr l
  | [], [], _, _ => trivial
  | f :: r, id :: l, h, hs => ⟨h.1.mono k a (hs r.length (by simp)).1 (hs r.length (by simp)).2, FrsV.mono k a h.2 fun t ht => hs t (by simp; omega)⟩
structure MemO (g : H) (b : Nat) (own : Nat → Nat) (M : Nat) (m : Mem) : Prop where
  ex : ∃ ba da, MemV g b M m ba da ∧ At own ba 4 ∧ At own da 5
  own : own M = 3
theorem MemO.mono {g g' : H} {b : Nat} {own own' : Nat → Nat} {S : Nat → Prop} {M : Nat} {m : Mem} (v : MemO g b own M m) (k : Kp own S g g') (a : Agr g.n own own') (h : ¬ S 3 ∧ ¬ S 4 ∧ ¬ S 5) : MemO g' b own' M m := by
  obtain ⟨⟨ba, da, hv, h1, h2⟩, ho⟩ := v
  refine ⟨⟨ba, da, hv.mono k.1 (k.2 M hv.lt (by rw [ho]; exact h.1)) (fun j hj => k.2 j (hv.ob.at_lt hj).2 (by rw [h1 j hj]; exact h.2.1)) (fun j hj => k.2 j (hv.od.at_lt hj).2 (by rw [h2 j hj]; exact h.2.2)), fun j hj => by rw [a j (hv.ob.at_lt hj).2]; exact h1 j hj, fun j hj => by rw [a j (hv.od.at_lt hj).2]; exact h2 j hj⟩, by rw [a M hv.lt]; exact ho⟩
structure RowO (g : H) (b : Nat) (own : Nat → Nat) (R : Nat) (r : Row) : Prop where
  ex : ∃ la aa, RowV g b R r la aa ∧ At own la 7 ∧ At own aa 8
  own : own R = 6
theorem RowO.mono {g g' : H} {b : Nat} {own own' : Nat → Nat} {S : Nat → Prop} {R : Nat} {r : Row} (v : RowO g b own R r) (k : Kp own S g g') (a : Agr g.n own own') (h : ¬ S 6 ∧ ¬ S 7 ∧ ¬ S 8) : RowO g' b own' R r := by
  obtain ⟨⟨la, aa, hv, h1, h2⟩, ho⟩ := v
  refine ⟨⟨la, aa, hv.mono k.1 (k.2 R hv.lt (by rw [ho]; exact h.1)) (fun j hj => k.2 j (hv.l.at_lt' hj) (by rw [h1 j hj]; exact h.2.1)) (fun j hj => k.2 j (hv.asks.at_lt hj).2 (by rw [h2 j hj]; exact h.2.2)), fun j hj => by rw [a j (hv.l.at_lt' hj)]; exact h1 j hj, fun j hj => by rw [a j (hv.asks.at_lt hj).2]; exact h2 j hj⟩, by rw [a R hv.lt]; exact ho⟩
/-- What stays as it is through a run: the program, its codes, where memory and answers are. -/
structure Cx where
  X : Nat
  p : Int
  mo : Int
  fa : AV
  fs : List Fn
  ca : AV
  rows : List (AV × AV × Code')
  M : Nat
  R : Nat
def cdC (x : AV × AV × Code') : List AV := [x.1, x.2.1, .int .i64 x.2.2.args]
structure CxV (g : H) (own : Nat → Nat) (C : Cx) : Prop where
  fs : FV g C.fa C.fs
  fo : At own C.fa 0
  ca : FzV 3 C.ca C.rows.length (C.rows.flatMap cdC)
  cd : ∀ x ∈ C.rows, CodeV x.2.2 x.1 x.2.1 ∧ 0 ≤ x.2.2.args ∧ x.2.2.args ≤ 26
theorem CxV.mono {g g' : H} {own own' : Nat → Nat} {S : Nat → Prop} {C : Cx} (v : CxV g own C) (k : Kp own S g g') (a : Agr g.n own own') (h : ¬ S 0) : CxV g' own' C :=
  ⟨v.fs.keep k.1 (fun j hj => k.2 j (v.fs.at_lt' hj) (by rw [v.fo j hj]; exact h)), fun j hj => by rw [a j (v.fs.at_lt' hj)]; exact v.fo j hj, v.ca, v.cd⟩
def xC (C : Cx) (fra : AV) (tr val : Int) : List AV := [.int .i64 C.p, .int .i64 C.mo, C.fa, C.ca, .ptr C.M 0, .ptr C.R 0, fra, .int .i64 tr, .int .i64 val]
/-- The runner's own object, its frames' list. -/
structure XO (g : H) (b : Nat) (own : Nat → Nat) (C : Cx) (tr val : Int) (ids : List Nat) : Prop where
  ex : ∃ fra, g.get C.X = some (.cells (xC C fra tr val) 0) ∧ OW 1 g b fra ids.length (ids.reverse.map fun i => .ptr i 0) ∧ At own fra 2
  own : own C.X = 1
  bX : b ≤ C.X
  lt : C.X < g.n
  sm : ids.length ≤ 1000
theorem XO.mono {g g' : H} {b : Nat} {own own' : Nat → Nat} {S : Nat → Prop} {C : Cx} {tr val : Int} {ids : List Nat} (v : XO g b own C tr val ids) (k : Kp own S g g') (a : Agr g.n own own') (h : ¬ S 1 ∧ ¬ S 2) : XO g' b own' C tr val ids := by
  obtain ⟨⟨fra, h1, h2, h3⟩, ho, hb, hl, hs⟩ := v
  exact ⟨⟨fra, by rw [k.2 _ hl (by rw [ho]; exact h.1)]; exact h1, h2.mono k.1 (fun j hj => k.2 j (h2.at_lt hj).2 (by rw [h3 j hj]; exact h.2)), fun j hj => by rw [a j (h2.at_lt hj).2]; exact h3 j hj⟩, by rw [a _ hl]; exact ho, hb, by have := k.1; omega, hs⟩
/-- All of it. -/
structure XV (g : H) (b : Nat) (own : Nat → Nat) (C : Cx) (s : Mc) (val : Int) (ids : List Nat) : Prop where
  x : XO g b own C s.trap val ids
  cx : CxV g own C
  fr : FrsV g b own s.fr ids
  m : MemO g b own C.M s.m
  r : RowO g b own C.R s.r
  bn : b ≤ g.n
section
variable {bar b : Nat} {g : H} {own : Nat → Nat} {C : Cx} {tr val : Int} {ids : List Nat}
theorem stop_ok (v : XO g b own C tr val ids) (hb : bar ≤ b) (ok : Bool) (t : Int) :
    ∃ g', call tb prim n_engine_runner_stop [.ptr C.X 0, .bool ok, .int .i64 t] bar g = some (.tup [], g') ∧ XO g' b own C (trapIf ok t tr) val ids ∧ Kp own (fun k => k = 1) g g' ∧ g'.n = g.n := by
  obtain ⟨⟨fra, h1, h2, h3⟩, ho, hbX, hl, hs⟩ := v
  have hbx : bar ≤ C.X := Nat.le_trans hb hbX
  cases ok with
  | true =>
    obtain ⟨x, g2, hcall, rfl, rfl⟩ := callF_K (o := call tb prim) (F := f_engine_runner_stop) (bar := bar) (h := g) (args := [.ptr C.X 0, .bool true, .int .i64 t]) (P := fun x g2 => x = .tup [] ∧ g2 = g) rfl rfl (fun K hK => by
      simp [f_engine_runner_stop, env0, go_sem, get_alloc, n_alloc, get_set, n_set, get_kill, n_kill, writeAt, a11, a21, a31, a41, a51, a61, a71]
      simp [go_sem, endP, endI, resultsA, resultA, freezeL, freezeV, AV.free.freeL, AV.free, packA, dropS]
      exact ⟨_, _, ⟨rfl, rfl⟩, hK _ _ ⟨rfl, rfl⟩⟩)
    exact ⟨_, call_of tb_engine_runner_stop hcall, ⟨⟨fra, h1, h2, h3⟩, ho, hbX, hl, hs⟩, Kp.refl, rfl⟩
  | false =>
    have hsp : splice (xC C fra tr val) 7 [.int .i64 t] = xC C fra t val := rfl
    have hle : 7 + 1 ≤ (xC C fra tr val).length := by simp [xC]
    obtain ⟨cs, hcs⟩ : ∃ cs, cs = xC C fra tr val := ⟨_, rfl⟩
    rw [← hcs] at h1 hsp hle
    obtain ⟨x, g2, hcall, rfl, rfl⟩ := callF_K (o := call tb prim) (F := f_engine_runner_stop) (bar := bar) (h := g) (args := [.ptr C.X 0, .bool false, .int .i64 t]) (P := fun x g2 => x = .tup [] ∧ g2 = g.set C.X (.cells (xC C fra t val) 0)) rfl rfl (fun K hK => by
      simp [f_engine_runner_stop, env0, go_sem, get_alloc, n_alloc, get_set, n_set, get_kill, n_kill, writeAt, a11, a21, a31, a41, a51, a61, a71, isNil, h1, hle, hsp, hbx]
      simp [go_sem, endP, endI, resultsA, resultA, freezeL, freezeV, AV.free.freeL, AV.free, packA, dropS]
      exact ⟨_, _, ⟨rfl, rfl⟩, hK _ _ ⟨rfl, rfl⟩⟩)
    refine ⟨_, call_of tb_engine_runner_stop hcall, ⟨⟨fra, by rw [get_set, if_pos rfl]; rfl, h2.mono (Nat.le_refl _) (fun j hj => get_set_ne (fun q => by have := h3 j hj; rw [q, ho] at this; omega)), h3⟩, ho, hbX, hl, hs⟩, ⟨Nat.le_refl _, fun j hj hsj => get_set_ne (fun q => hsj (by rw [q]; exact ho))⟩, rfl⟩
end
end Go.Ev
set_option linter.unusedSectionVars false
namespace Go.Ev
open Go
def tS (t : Nat) : Nat → Prop := fun k => k = 2 * t + 10 ∨ k = 2 * t + 11
section
variable {bar b : Nat} {g : H} {own : Nat → Nat} {t : Nat} {f : Fm} {id : Nat}
theorem push_o (v : FrO g b own t f id) (hb : bar ≤ b) (hbg : b ≤ g.n) (hs : f.st.length < 3000000) (n : Int) :
    ∃ g' own', call tb prim n_engine_frame_push [.ptr id 0, .int .i64 n] bar g = some (.tup [], g') ∧ FrO g' b own' t { f with st := n :: f.st } id ∧ Kp own (tS t) g g' ∧ Agr g.n own own' := by
  obtain ⟨⟨la, ta, sa, hv, hsa, hc⟩, ho⟩ := v
  obtain ⟨g', sa', e, hv', hge, hn, hk⟩ := push_ok (bar := bar) hv hb hbg hs n
  refine ⟨g', ext own g.n (2 * t + 11), e, ⟨⟨la, ta, sa', hv', fun j hj => by have := hge j hj; simp [ext]; omega, hc⟩, by rw [Agr.ext id hv.lt]; exact ho⟩, ⟨hn, fun j hj hns => hk j hj (fun q => hns (.inl (by rw [q]; exact ho))) (fun q => hns (.inr (hsa j q)))⟩, Agr.ext⟩
theorem pop_o {n : Int} {st : List Int} (v : FrO g b own t f id) (hst : f.st = n :: st) (hb : bar ≤ b) :
    ∃ g', call tb prim n_engine_frame_pop [.ptr id 0] bar g = some (.int .i64 n, g') ∧ FrO g' b own t { f with st := st } id ∧ Kp own (tS t) g g' := by
  obtain ⟨⟨la, ta, sa, hv, hsa, hc⟩, ho⟩ := v
  obtain ⟨g', sa', e, hv', hge, hn, hk⟩ := pop_ok (bar := bar) hv hst hb
  exact ⟨g', e, ⟨⟨la, ta, sa', hv', fun j hj => hsa j (hge j hj), hc⟩, ho⟩, ⟨by omega, fun j hj hns => hk j (fun q => hns (.inl (by rw [q]; exact ho)))⟩⟩
/-- The frame's own cells turn, its values do not. -/
theorem FrO.setC {g' : H} {p : Nat} {loc : List Int} {la ta sa : AV} (hv : FrV g b f id la ta sa) (hsa : At own sa (2 * t + 11)) (hc : CodeV f.c la ta) (ho : own id = 2 * t + 10) (hl : loc.length = 26) (hp : p ≤ 100000) (hg : g' = g.set id (.cells (frC la ta f.c.args p loc sa) 0)) :
    FrO g' b own t { f with at' := p, loc := loc } id ∧ Kp own (tS t) g g' := by
  subst hg
  exact ⟨⟨⟨la, ta, sa, ⟨by simp [get_set], hv.bid, hv.lt, hl, hv.st.mono (Nat.le_refl _) (fun j hj => get_set_ne (fun q => hv.ne (q ▸ hj))), hv.ne, hv.small, hp⟩, hsa, hc⟩, ho⟩, ⟨Nat.le_refl _, fun j hj hns => get_set_ne (fun q => hns (.inl (by rw [q]; exact ho)))⟩⟩
/-- Where 'to' leads. -/
theorem to_get {ta : AV} {l : List Int} (hz : FzV 1 ta l.length (l.flatMap i64c)) {i : Nat} {j : Int} (hi : l[i]? = some j) : ∃ n cs full, ta = .fz 1 n cs full ∧ (cs.length = n) = True ∧ cs[i]? = some (.int .i64 j) ∧ i < n := by
  have hlt := (List.getElem?_eq_some_iff.mp hi).1
  obtain ⟨h1, h2, ⟨_, e⟩ | ⟨full, e⟩⟩ := hz
  · omega
  · refine ⟨l.length, _, full, e, by simpa using h1, ?_, hlt⟩
    have := flat_get0 (c := i64c) (k := 1) (fun _ => rfl) l i j (by omega) hi
    rw [Nat.mul_one] at this; rw [this]; rfl
/-- Another than '?': there. -/
theorem goes_to (v : FrO g b own t f id) (hb : bar ≤ b) {j : Nat} (hj : f.c.to[f.at']? = some (j : Int)) (X : AV) {s : Int} (hs : s ≠ 63) :
    ∃ g', call tb prim n_engine_runner_goes [X, .ptr id 0, .int .i32 s] bar g = some (.tup [], g') ∧ FrO g' b own t { f with at' := j } id ∧ Kp own (tS t) g g' := by
  obtain ⟨⟨la, ta, sa, hv, hsa, hc⟩, ho⟩ := v
  have hc' := hc
  obtain ⟨⟨hc1, hc2⟩, hc3, hc4, hc5⟩ := hc'
  obtain ⟨n, cs, full, rfl, hcl, hcj, hin⟩ := to_get hc2 hj
  have hjb := hc5 _ (List.mem_of_getElem? hj)
  have hfin := FrO.setC (g' := g.set id (.cells (frC la (.fz 1 n cs full) f.c.args j f.loc sa) 0)) hv hsa hc ho hv.loc (by omega : j ≤ 100000) rfl
  have hl := hv.loc
  have hget := hv.get
  have h1 : (frC la (.fz 1 n cs full) f.c.args f.at' f.loc sa)[1]? = some (.fz 1 n cs full) := frC_1
  have h3 : (frC la (.fz 1 n cs full) f.c.args f.at' f.loc sa)[3]? = some (.int .i64 f.at') := frC_3
  have hle : 3 + 1 ≤ (frC la (.fz 1 n cs full) f.c.args f.at' f.loc sa).length := by rw [frC_len hl]; omega
  have hsp : splice (frC la (.fz 1 n cs full) f.c.args f.at' f.loc sa) 3 [.int .i64 (j : Int)] = frC la (.fz 1 n cs full) f.c.args j f.loc sa := frC_set3
  have hix : indexIn (.int .i64 (f.at' : Int)) n = some f.at' := by simp only [indexIn]; rw [if_pos (by omega), Int.toNat_natCast]
  have hbid : bar ≤ id := Nat.le_trans hb hv.bid
  have hs' : (s == 63) = false := by simpa using hs
  obtain ⟨fc, hfc⟩ : ∃ fc, fc = frC la (.fz 1 n cs full) f.c.args f.at' f.loc sa := ⟨_, rfl⟩
  rw [← hfc] at hget h1 h3 hle hsp
  obtain ⟨x, g2, hcall, rfl, rfl⟩ := callF_K (o := call tb prim) (F := f_engine_runner_goes) (bar := bar) (h := g) (args := [X, .ptr id 0, .int .i32 s]) (P := fun x g2 => x = .tup [] ∧ g2 = g.set id (.cells (frC la (.fz 1 n cs full) f.c.args j f.loc sa) 0)) rfl rfl (fun K hK => by
    simp [f_engine_runner_goes, env0, go_sem, get_alloc, n_alloc, get_set, n_set, get_kill, n_kill, writeAt, a11, a21, a31, a41, a51, a61, a71, isNil, hs', hget, h1, h3, hix, hcl, hcj, hle, hsp, hbid]
    simp [go_sem, endP, endI, resultsA, resultA, freezeL, freezeV, AV.free.freeL, AV.free, packA, dropS]
    exact ⟨_, _, ⟨rfl, rfl⟩, hK _ _ ⟨rfl, rfl⟩⟩)
  exact ⟨_, call_of tb_engine_runner_goes hcall, hfin⟩
/-- '?', with a nought on top: there. -/
theorem goes_0 {st : List Int} (v : FrO g b own t f id) (hst : f.st = 0 :: st) (hb : bar ≤ b) {j : Nat} (hj : f.c.to[f.at']? = some (j : Int)) (X : AV) :
    ∃ g', call tb prim n_engine_runner_goes [X, .ptr id 0, .int .i32 63] bar g = some (.tup [], g') ∧ FrO g' b own t { f with at' := j, st := st } id ∧ Kp own (tS t) g g' := by
  obtain ⟨g1, e1, v1, k1⟩ := pop_o v hst hb
  obtain ⟨⟨la, ta, sa, hv, hsa, hc⟩, ho⟩ := v1
  have hc' := hc
  obtain ⟨⟨hc1, hc2⟩, hc3, hc4, hc5⟩ := hc'
  simp only at hc2 hc5
  obtain ⟨n, cs, full, rfl, hcl, hcj, hin⟩ := to_get hc2 hj
  have hjb := hc5 _ (List.mem_of_getElem? hj)
  have hfin := FrO.setC (g' := g1.set id (.cells (frC la (.fz 1 n cs full) f.c.args j f.loc sa) 0)) hv hsa hc ho hv.loc (by omega : j ≤ 100000) rfl
  have hl := hv.loc
  have hget := hv.get
  simp only at hl hget
  have h1 : (frC la (.fz 1 n cs full) f.c.args f.at' f.loc sa)[1]? = some (.fz 1 n cs full) := frC_1
  have h3 : (frC la (.fz 1 n cs full) f.c.args f.at' f.loc sa)[3]? = some (.int .i64 f.at') := frC_3
  have hle : 3 + 1 ≤ (frC la (.fz 1 n cs full) f.c.args f.at' f.loc sa).length := by rw [frC_len hl]; omega
  have hsp : splice (frC la (.fz 1 n cs full) f.c.args f.at' f.loc sa) 3 [.int .i64 (j : Int)] = frC la (.fz 1 n cs full) f.c.args j f.loc sa := frC_set3
  have hix : indexIn (.int .i64 (f.at' : Int)) n = some f.at' := by simp only [indexIn]; rw [if_pos (by omega), Int.toNat_natCast]
  have hbid : bar ≤ id := Nat.le_trans hb hv.bid
  obtain ⟨fc, hfc⟩ : ∃ fc, fc = frC la (.fz 1 n cs full) f.c.args f.at' f.loc sa := ⟨_, rfl⟩
  rw [← hfc] at hget h1 h3 hle hsp
  obtain ⟨x, g2, hcall, rfl, rfl⟩ := callF_K (o := call tb prim) (F := f_engine_runner_goes) (bar := bar) (h := g) (args := [X, .ptr id 0, .int .i32 63]) (P := fun x g2 => x = .tup [] ∧ g2 = g1.set id (.cells (frC la (.fz 1 n cs full) f.c.args j f.loc sa) 0)) rfl rfl (fun K hK => by
    simp [f_engine_runner_goes, env0, go_sem, get_alloc, n_alloc, get_set, n_set, get_kill, n_kill, writeAt, a11, a21, a31, a41, a51, a61, a71, isNil, e1, hget, h1, h3, hix, hcl, hcj, hle, hsp, hbid]
    simp [go_sem, endP, endI, resultsA, resultA, freezeL, freezeV, AV.free.freeL, AV.free, packA, dropS]
    exact ⟨_, _, ⟨rfl, rfl⟩, hK _ _ ⟨rfl, rfl⟩⟩)
  exact ⟨_, call_of tb_engine_runner_goes hcall, hfin.1, k1.trans Agr.refl hfin.2⟩
/-- '?', with another number on top: on. -/
theorem goes_1 {n : Int} {st : List Int} (v : FrO g b own t f id) (hst : f.st = n :: st) (hn : n ≠ 0) (hb : bar ≤ b) (ha : f.at' < f.c.l.length) (X : AV) :
    ∃ g', call tb prim n_engine_runner_goes [X, .ptr id 0, .int .i32 63] bar g = some (.tup [], g') ∧ FrO g' b own t { f with at' := f.at' + 1, st := st } id ∧ Kp own (tS t) g g' := by
  obtain ⟨g1, e1, v1, k1⟩ := pop_o v hst hb
  obtain ⟨⟨la, ta, sa, hv, hsa, hc⟩, ho⟩ := v1
  have hc' := hc
  obtain ⟨⟨hc1, hc2⟩, hc3, hc4, hc5⟩ := hc'
  simp only at hc3
  have hfin := FrO.setC (g' := g1.set id (.cells (frC la ta f.c.args (f.at' + 1) f.loc sa) 0)) hv hsa hc ho hv.loc (by omega : f.at' + 1 ≤ 100000) rfl
  have hl := hv.loc
  have hget := hv.get
  simp only at hl hget
  have h3 : (frC la ta f.c.args f.at' f.loc sa)[3]? = some (.int .i64 f.at') := frC_3
  have hle : 3 + 1 ≤ (frC la ta f.c.args f.at' f.loc sa).length := by rw [frC_len hl]; omega
  have hsp : splice (frC la ta f.c.args f.at' f.loc sa) 3 [.int .i64 ((f.at' + 1 : Nat) : Int)] = frC la ta f.c.args (f.at' + 1) f.loc sa := frC_set3
  have hw : IntKind.i64.wrap ((f.at' : Int) + 1) = ((f.at' + 1 : Nat) : Int) := w64_succ (by omega)
  have hbid : bar ≤ id := Nat.le_trans hb hv.bid
  have hn' : (n != 0) = true := by simpa using hn
  obtain ⟨fc, hfc⟩ : ∃ fc, fc = frC la ta f.c.args f.at' f.loc sa := ⟨_, rfl⟩
  rw [← hfc] at hget h3 hle hsp
  obtain ⟨A, hA⟩ : ∃ A, A = f.at' + 1 := ⟨_, rfl⟩
  rw [← hA] at hw hsp hfin
  obtain ⟨x, g2, hcall, rfl, rfl⟩ := callF_K (o := call tb prim) (F := f_engine_runner_goes) (bar := bar) (h := g) (args := [X, .ptr id 0, .int .i32 63]) (P := fun x g2 => x = .tup [] ∧ g2 = g1.set id (.cells (frC la ta f.c.args A f.loc sa) 0)) rfl rfl (fun K hK => by
    simp [f_engine_runner_goes, env0, go_sem, get_alloc, n_alloc, get_set, n_set, get_kill, n_kill, writeAt, a11, a21, a31, a41, a51, a61, a71, isNil, e1, hn', hget, h3, hw, hle, hsp, hbid]
    simp [go_sem, endP, endI, resultsA, resultA, freezeL, freezeV, AV.free.freeL, AV.free, packA, dropS]
    exact ⟨_, _, ⟨rfl, rfl⟩, hK _ _ ⟨rfl, rfl⟩⟩)
  rw [← hA]
  exact ⟨_, call_of tb_engine_runner_goes hcall, hfin.1, k1.trans Agr.refl hfin.2⟩
end
end Go.Ev
set_option linter.unusedSectionVars false
namespace Go.Ev
open Go
def tX (t : Nat) : Nat → Prop := fun k => k = 1 ∨ tS t k
def tM (t : Nat) : Nat → Prop := fun k => k = 1 ∨ k = 3 ∨ k = 4 ∨ k = 5 ∨ tS t k
theorem tS1 (t : Nat) : ¬ tS t 1 ∧ ¬ tS t 2 := by unfold tS; omega
theorem tS3 (t : Nat) : ¬ tS t 3 ∧ ¬ tS t 4 ∧ ¬ tS t 5 := by unfold tS; omega
section
variable {bar b : Nat} {g : H} {own : Nat → Nat} {C : Cx} {tr val : Int} {ids : List Nat} {t : Nat} {f : Fm} {id : Nat} {m : Mem}
/-- What memory does, in all four. -/
def MemR (bar b : Nat) (g : H) (own : Nat → Nat) (C : Cx) (val : Int) (ids : List Nat) (t : Nat) (f : Fm) (id : Nat) (sg : Int) (x : Option (List Int × Mem × Int)) : Prop :=
  ∀ st m' tr', x = some (st, m', tr') → ∃ g' own', call tb prim n_engine_runner_memory [.ptr C.X 0, .ptr id 0, .int .i32 sg] bar g = some (.tup [], g') ∧ FrO g' b own' t { f with st := st } id ∧ XO g' b own' C tr' val ids ∧ MemO g' b own' C.M m' ∧ Kp own (tM t) g g' ∧ Agr g.n own own'
theorem FrO.sm (v : FrO g b own t f id) : f.st.length ≤ 3000000 := by obtain ⟨⟨_, _, _, hv, _⟩, _⟩ := v; exact hv.small
theorem XO.cell4 (v : XO g b own C tr val ids) : ∃ cs, g.get C.X = some (.cells cs 0) ∧ cs[4]? = some (.ptr C.M 0) ∧ cs[5]? = some (.ptr C.R 0) := by
  obtain ⟨⟨fra, h, _⟩, _⟩ := v; exact ⟨_, h, rfl, rfl⟩
theorem tX_M {t k : Nat} (h : tX t k) : tM t k := by unfold tX at h; unfold tM; rcases h with h | h; exact .inl h; exact .inr (.inr (.inr (.inr h)))
theorem tS_M {t k : Nat} (h : tS t k) : tM t k := .inr (.inr (.inr (.inr h)))
theorem mem_load {a : Int} {st : List Int} (vx : XO g b own C tr val ids) (vf : FrO g b own t f id) (vm : MemO g b own C.M m) (hb : bar ≤ b) (hbg : b ≤ g.n) (hst : f.st = a :: st) {sg : Int} (hsg : sg = 64 ∨ sg = 169) :
    MemR bar b g own C val ids t f id sg (some ((loadM m a (sg == 64)).1 :: st, m, trapIf (loadM m a (sg == 64)).2 5 tr)) := by
  rintro st0 m0 tr0 h
  cases h
  have hsm := vf.sm
  rw [hst] at hsm
  obtain ⟨g1, e1, v1, k1⟩ := pop_o vf hst hb
  have x1 := vx.mono k1 Agr.refl (tS1 t)
  have m1 := vm.mono k1 Agr.refl (tS3 t)
  have hbg1 : b ≤ g1.n := Nat.le_trans hbg k1.1
  have m1' := m1
  obtain ⟨⟨ba, da, hmv, _, _⟩, _⟩ := m1'
  have e2 := load_ok (bar := bar) hmv a (sg == 64)
  obtain ⟨g2, e3, x2, k2, n2⟩ := stop_ok x1 hb (loadM m a (sg == 64)).2 5
  have v2 := v1.mono k2 Agr.refl (by omega) (by omega)
  have m2 := m1.mono k2 Agr.refl (by omega)
  obtain ⟨g3, own3, e4, v3, k3, a3⟩ := push_o v2 hb (by omega) (by simp at hsm ⊢; omega) (loadM m a (sg == 64)).1
  have x3 := x2.mono k3 a3 (tS1 t)
  have m3 := m2.mono k3 a3 (tS3 t)
  have hk : Kp own (tM t) g g3 := (k1.le fun k h => tS_M h).trans Agr.refl ((k2.le fun k h => .inl h).trans Agr.refl (k3.le fun k h => tS_M h))
  obtain ⟨cs, c1, c2, _⟩ := vx.cell4
  obtain ⟨cs', c1', c2', _⟩ := x1.cell4
  obtain ⟨x, g4, hcall, rfl, rfl⟩ := callF_K (o := call tb prim) (F := f_engine_runner_memory) (bar := bar) (h := g) (args := [.ptr C.X 0, .ptr id 0, .int .i32 sg]) (P := fun x g4 => x = .tup [] ∧ g4 = g3) rfl rfl (fun K hK => by
    rcases hsg with rfl | rfl
    · have hz : ((64 : Int) == 64) = true := rfl
      rw [hz] at e2 e3 e4
      simp [f_engine_runner_memory, env0, go_sem, get_alloc, n_alloc, get_set, n_set, get_kill, n_kill, writeAt, a11, a21, a31, a41, a51, a61, a71, isNil, c1, c2, e1, e2, e3, e4]
      refine ⟨sees_of rfl ?_, ?_⟩
      · simp [-getElem?_pos, R_nil, R_cons, RS_some, sameV_some, seesQ_some, List.take, List.take_succ_cons, List.take_zero, go_sem, get_alloc, n_alloc, get_set, n_set, get_kill, n_kill, writeAt, a11, a21, a31, a41, a51, a61, a71, isNil, c1, c2, c1', c2', e1, e2, List.getElem?_cons_zero, List.getElem?_cons_succ]
      · simp [go_sem, endP, endI, resultsA, resultA, freezeL, freezeV, AV.free.freeL, AV.free, packA, dropS]
        exact ⟨_, _, ⟨rfl, rfl⟩, hK _ _ ⟨rfl, rfl⟩⟩
    · have hz : ((169 : Int) == 64) = false := rfl
      rw [hz] at e2 e3 e4
      simp [f_engine_runner_memory, env0, go_sem, get_alloc, n_alloc, get_set, n_set, get_kill, n_kill, writeAt, a11, a21, a31, a41, a51, a61, a71, isNil, c1, c2, e1, e2, e3, e4]
      refine ⟨sees_of rfl ?_, ?_⟩
      · simp [-getElem?_pos, R_nil, R_cons, RS_some, sameV_some, seesQ_some, List.take, List.take_succ_cons, List.take_zero, go_sem, get_alloc, n_alloc, get_set, n_set, get_kill, n_kill, writeAt, a11, a21, a31, a41, a51, a61, a71, isNil, c1, c2, c1', c2', e1, e2, List.getElem?_cons_zero, List.getElem?_cons_succ]
      · simp [go_sem, endP, endI, resultsA, resultA, freezeL, freezeV, AV.free.freeL, AV.free, packA, dropS]
        exact ⟨_, _, ⟨rfl, rfl⟩, hK _ _ ⟨rfl, rfl⟩⟩)
  exact ⟨_, own3, call_of tb_engine_runner_memory hcall, v3, x3, m3, hk, Agr.trans Agr.refl a3 (by have := k1.1; have := k2.1; omega)⟩
theorem mem_store {n a : Int} {st : List Int} (vx : XO g b own C tr val ids) (vf : FrO g b own t f id) (vm : MemO g b own C.M m) (hb : bar ≤ b) (hbg : b ≤ g.n) (hst : f.st = n :: a :: st) {sg : Int} (hsg : sg = 36 ∨ sg = 174) :
    MemR bar b g own C val ids t f id sg (some (st, (storeM m a n (sg == 36)).1, trapIf (storeM m a n (sg == 36)).2 5 tr)) := by
  rintro st0 m0 tr0 h
  cases h
  obtain ⟨g1, e1, v1, k1⟩ := pop_o vf hst hb
  have x1 := vx.mono k1 Agr.refl (tS1 t)
  have m1 := vm.mono k1 Agr.refl (tS3 t)
  obtain ⟨g2, e2, v2, k2⟩ := pop_o v1 rfl hb
  have x2 := x1.mono k2 Agr.refl (tS1 t)
  have m2 := m1.mono k2 Agr.refl (tS3 t)
  obtain ⟨⟨ba, da, hmv, hba, hda⟩, hoM⟩ := m2
  obtain ⟨g3, e3, hmv3, hn3, hk3⟩ := store_ok (bar := bar) hmv hb a n (sg == 36)
  have k3 : Kp own (fun k => k = 4 ∨ k = 5) g2 g3 := ⟨by omega, fun j hj hs => hk3 j (fun q => hs (.inl (hba j q))) (fun q => hs (.inr (hda j q)))⟩
  have m3 : MemO g3 b own C.M (storeM m a n (sg == 36)).1 := ⟨⟨ba, da, hmv3, hba, hda⟩, hoM⟩
  have v3 := v2.mono k3 Agr.refl (by omega) (by omega)
  have x3 := x2.mono k3 Agr.refl (by omega)
  obtain ⟨g4, e4, x4, k4, n4⟩ := stop_ok x3 hb (storeM m a n (sg == 36)).2 5
  have v4 := v3.mono k4 Agr.refl (by omega) (by omega)
  have m4 := m3.mono k4 Agr.refl (by omega)
  have hk : Kp own (tM t) g g4 := (k1.le fun k h => tS_M h).trans Agr.refl ((k2.le fun k h => tS_M h).trans Agr.refl ((k3.le fun k h => by unfold tM; omega).trans Agr.refl (k4.le fun k h => .inl h)))
  obtain ⟨cs, c1, c2, _⟩ := x1.cell4
  obtain ⟨cs', c1', c2', _⟩ := x2.cell4
  obtain ⟨x, g5, hcall, rfl, rfl⟩ := callF_K (o := call tb prim) (F := f_engine_runner_memory) (bar := bar) (h := g) (args := [.ptr C.X 0, .ptr id 0, .int .i32 sg]) (P := fun x g5 => x = .tup [] ∧ g5 = g4) rfl rfl (fun K hK => by
    rcases hsg with rfl | rfl
    · have hz : ((36 : Int) == 36) = true := rfl
      rw [hz] at e3 e4
      simp [f_engine_runner_memory, env0, go_sem, get_alloc, n_alloc, get_set, n_set, get_kill, n_kill, writeAt, a11, a21, a31, a41, a51, a61, a71, isNil, c1, c2, e1, e2, e3, e4]
      refine ⟨sees_of rfl ?_, ?_⟩
      · simp [-getElem?_pos, R_nil, R_cons, RS_some, sameV_some, seesQ_some, List.take, List.take_succ_cons, List.take_zero, go_sem, get_alloc, n_alloc, get_set, n_set, get_kill, n_kill, writeAt, a11, a21, a31, a41, a51, a61, a71, isNil, c1, c2, c1', c2', e2, List.getElem?_cons_zero, List.getElem?_cons_succ]
      · simp [go_sem, endP, endI, resultsA, resultA, freezeL, freezeV, AV.free.freeL, AV.free, packA, dropS]
        exact ⟨_, _, ⟨rfl, rfl⟩, hK _ _ ⟨rfl, rfl⟩⟩
    · have hz : ((174 : Int) == 36) = false := rfl
      rw [hz] at e3 e4
      simp [f_engine_runner_memory, env0, go_sem, get_alloc, n_alloc, get_set, n_set, get_kill, n_kill, writeAt, a11, a21, a31, a41, a51, a61, a71, isNil, c1, c2, e1, e2, e3, e4]
      refine ⟨sees_of rfl ?_, ?_⟩
      · simp [-getElem?_pos, R_nil, R_cons, RS_some, sameV_some, seesQ_some, List.take, List.take_succ_cons, List.take_zero, go_sem, get_alloc, n_alloc, get_set, n_set, get_kill, n_kill, writeAt, a11, a21, a31, a41, a51, a61, a71, isNil, c1, c2, c1', c2', e2, List.getElem?_cons_zero, List.getElem?_cons_succ]
      · simp [go_sem, endP, endI, resultsA, resultA, freezeL, freezeV, AV.free.freeL, AV.free, packA, dropS]
        exact ⟨_, _, ⟨rfl, rfl⟩, hK _ _ ⟨rfl, rfl⟩⟩)
  exact ⟨_, own, call_of tb_engine_runner_memory hcall, v4, x4, m4, hk, Agr.refl⟩
theorem mem_pages (vx : XO g b own C tr val ids) (vf : FrO g b own t f id) (vm : MemO g b own C.M m) (hb : bar ≤ b) (hbg : b ≤ g.n) (hsm : f.st.length < 3000000) :
    MemR bar b g own C val ids t f id 35 (some ((m.dirty.length : Int) :: f.st, m, tr)) := by
  rintro st0 m0 tr0 h
  cases h
  have vm' := vm
  obtain ⟨⟨ba, da, hmv, _, _⟩, _⟩ := vm'
  have e2 := pages_ok (bar := bar) hmv
  obtain ⟨g3, own3, e4, v3, k3, a3⟩ := push_o vf hb hbg hsm (m.dirty.length : Int)
  have x3 := vx.mono k3 a3 (tS1 t)
  have m3 := vm.mono k3 a3 (tS3 t)
  obtain ⟨cs, c1, c2, _⟩ := vx.cell4
  obtain ⟨x, g4, hcall, rfl, rfl⟩ := callF_K (o := call tb prim) (F := f_engine_runner_memory) (bar := bar) (h := g) (args := [.ptr C.X 0, .ptr id 0, .int .i32 35]) (P := fun x g4 => x = .tup [] ∧ g4 = g3) rfl rfl (fun K hK => by
    simp [f_engine_runner_memory, env0, go_sem, get_alloc, n_alloc, get_set, n_set, get_kill, n_kill, writeAt, a11, a21, a31, a41, a51, a61, a71, isNil, c1, c2, e2, e4]
    simp [go_sem, endP, endI, resultsA, resultA, freezeL, freezeV, AV.free.freeL, AV.free, packA, dropS]
    exact ⟨_, _, ⟨rfl, rfl⟩, hK _ _ ⟨rfl, rfl⟩⟩)
  exact ⟨_, own3, call_of tb_engine_runner_memory hcall, v3, x3, m3, k3.le fun k h => tS_M h, a3⟩
end
end Go.Ev
