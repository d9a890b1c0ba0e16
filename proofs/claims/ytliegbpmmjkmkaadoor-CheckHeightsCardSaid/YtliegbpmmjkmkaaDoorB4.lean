/- Arguments of laws: lists of numbers, texts, structs of such. -/
import Derived.Test.YtliegbpmmjkmkaaDoorB3
set_option linter.unusedSimpArgs false
set_option linter.unusedVariables false
set_option linter.all false
namespace Go.Ev
open Go
def hts (fs : List Fn) : List Tok → Js → List Int
  | [], _ => []
  | t :: r, s => s.h :: hts fs r (jtok fs t s).2
theorem hts_len (fs : List Fn) : ∀ (l : List Tok) (s : Js), (hts fs l s).length = l.length
  | [], _ => rfl
  | t :: r, s => by simp [hts, hts_len fs r]
theorem jloop_hts (fs : List Fn) : ∀ (l : List Tok) (s : Js) (o : List Int), (jloop fs l s o).1 = 0 → (jloop fs l s o).2.2 = o ++ hts fs l s
  | [], s, o, _ => by simp [jloop, hts]
  | t :: r, s, o, h => by
    simp only [jloop] at h ⊢
    split at h
    · rename_i c
      rw [if_pos c, jloop_hts fs r _ _ h]; simp [hts]
    · rename_i c; exact absurd h c
/-- Between two heights. -/
def Step (fs : List Fn) (t : Tok) (a b : Int) : Prop := 0 ≤ a → plainS t.sign = true → (takesN fs t.sign t.name).2.2 = true ∧ (takesN fs t.sign t.name).1 ≤ a ∧ b = a - (takesN fs t.sign t.name).1 + (takesN fs t.sign t.name).2.1
theorem jturn_plain {sg : Int} {s : Js} (h : plainS sg = true) : (jturn sg s).2.h = s.h := by
  have hp : sg ≠ 58 ∧ sg ≠ 59 ∧ sg ≠ 93 ∧ sg ≠ 126 ∧ sg ≠ 161 := by simpa [plainS] using h
  unfold jturn
  split
  · rfl
  · rw [if_neg (by omega), if_neg (by omega), if_neg (by omega), if_neg (by omega), if_neg (by omega)]
theorem hts_spec (fs : List Fn) : ∀ (l : List Tok) (s : Js) (o : List Int), (jloop fs l s o).1 = 0 → JGood fs l s → (∀ (i : Nat) x, (hts fs l s)[i]? = some x → -1 ≤ x ∧ x ≤ 64) ∧ ∀ (i : Nat) x y t, (hts fs l s)[i]? = some x → (hts fs l s)[i + 1]? = some y → l[i]? = some t → Step fs t x y
  | [], s, o, _, _ => ⟨fun i x h => by simp [hts] at h, fun i x y t h => by simp [hts] at h⟩
  | t :: r, s, o, h, hg => by
    simp only [jloop] at h
    split at h
    · rename_i c
      obtain ⟨ok, _, _, _, hr⟩ := hg
      have ih := hts_spec fs r _ _ h (hr c)
      refine ⟨fun i x hx => ?_, fun i x y t' hx hy ht => ?_⟩
      · cases i with
        | zero => simp [hts] at hx; subst hx; exact ⟨ok.1, ok.2.1⟩
        | succ i => exact ih.1 i x (by simpa [hts] using hx)
      · cases i with
        | succ i => exact ih.2 i x y t' (by simpa [hts] using hx) (by simpa [hts] using hy) (by simpa using ht)
        | zero =>
          simp [hts] at hx ht
          subst hx; subst ht
          have hy2 : (jtok fs t s).2.h = y := by
            cases r with
            | nil => simp [hts] at hy
            | cons u r => simpa [hts] using hy
          intro h0 hp
          have b : 0 ≤ jbase s.ps := jbase_nn fun p hp => (ok.2.2.1 p hp).1
          rcases jtok_cases c with ⟨e, _⟩ | ⟨_, c1, c2, c3, c4⟩
          · omega
          · refine ⟨c3, by omega, ?_⟩
            rw [← hy2, c4, jturn_plain hp]; show s.h + _ = _; omega
    · rename_i c; exact absurd h c
/-- What a good code's judgement is. -/
theorem code_facts {fs : List Fn} {c : ByteArray} (h : (codeN fs c).2 = 0) : ∃ ts, toksN c = (ts, 0) ∧ nOk ts = true ∧ (jloop fs ts ⟨0, []⟩ []).1 = 0 ∧ (codeN fs c).1 = hts fs ts ⟨0, []⟩ ∧ ((jloop fs ts ⟨0, []⟩ []).2.1.h = -1 ∨ (jloop fs ts ⟨0, []⟩ []).2.1.h = 1) ∧ JGood fs ts ⟨0, []⟩ := by
  unfold codeN at h ⊢
  split at h
  · rename_i q; exact absurd h q
  rename_i q
  have q0 : (toksN c).2 = 0 := by omega
  refine ⟨(toksN c).1, by rw [← q0], ?_⟩
  rw [if_neg q]
  unfold funT at h ⊢
  split at h
  · simp at h
  rename_i q1
  have hn : nOk (toksN c).1 = true := by simpa using q1
  split at h
  · rename_i q2; exact absurd h q2
  rename_i q2
  have h0 : (jloop fs (toksN c).1 ⟨0, []⟩ []).1 = 0 := by omega
  split at h
  · simp at h
  rename_i q3
  refine ⟨hn, h0, ?_, by omega, ?_⟩
  · rw [if_neg q1, if_neg q2, if_neg q3]
    simpa using jloop_hts fs _ _ _ h0
  · unfold nOk at hn
    cases hx : nestP (toksN c).1 with
    | none => rw [hx] at hn; cases hn
    | some to => exact nestP_good fs _ hx
end Go.Ev
set_option linter.unusedSectionVars false
namespace Go.Ev
open Go
section
variable {bar U : Nat} {p m : Int} {fa : AV} {fs : List Fn} {g : H} {xs : List Int} {ts : List Tok} {cs ct : List AV} {f1 f2 : Bool} {v18 v19 v20 : AV}
theorem heights_l0 (hU : g.get U = some (.cells [.int .i64 p, .int .i64 m, fa] 0)) (hv : FV g fa fs) (hcs : cs = xs.flatMap i64c) (hct : ct = ts.flatMap Tok.cells) (hn : ts.length = xs.length)
    (hb : ∀ (i : Nat) x, xs[i]? = some x → -1 ≤ x ∧ x ≤ 64) (hs : ∀ (i : Nat) x y t, xs[i]? = some x → xs[i + 1]? = some y → ts[i]? = some t → Step fs t x y) (hz : xs.length ≤ 1000)
    (Q : Ex → Env → H → Prop) (hq : ∀ e, e.get 3 = some (.ptr U 0) → e.get 18 = some v18 → e.get 19 = some v19 → e.get 20 = some v20 → Q (.exit 2) e g) : ∀ k i : Nat, xs.length = i + k →
    wpL (call tb prim) bar [3, 6, 8, 18, 19, 20, 58, 59] l0_engramlaw9_CheckHeights [(3, .ptr U 0), (6, .fz 1 xs.length cs f1), (8, .fz 3 xs.length ct f2), (18, v18), (19, v19), (20, v20), (58, goI xs.length), (59, goI i)] g Q := by
  intro k
  induction k with
  | zero =>
    intro i hk
    refine M_loop l0_engramlaw9_CheckHeights.eq_1 ?_
    have c : ¬ (i : Int) < (xs.length : Int) := by omega
    simp [go_sem, c]
    exact hq _ rfl rfl rfl rfl
  | succ k ih =>
    intro i hk
    refine M_loop l0_engramlaw9_CheckHeights.eq_1 ?_
    have hi : i < xs.length := by omega
    have hit : i < ts.length := by omega
    have c : (i : Int) < (xs.length : Int) := by omega
    obtain ⟨x, hx⟩ : ∃ x, xs[i]? = some x := ⟨_, List.getElem?_eq_getElem hi⟩
    obtain ⟨t, ht⟩ : ∃ t, ts[i]? = some t := ⟨_, List.getElem?_eq_getElem hit⟩
    have hcl : (cs.length = xs.length) = True := by
      rw [hcs]; simp [flat_len (k := 1) (c := i64c) (fun _ => rfl)]
    have htl : (ct.length = xs.length * 3) = True := by
      rw [hct]; simp [flat_len (k := 3) (c := Tok.cells) (fun _ => rfl), hn]
    have hci : cs[i]? = some (.int .i64 x) := by
      have := flat_get0 (c := i64c) (k := 1) (fun _ => rfl) xs i x (by omega) hx
      rw [Nat.mul_one] at this; rw [hcs, this]; rfl
    have hti : ct[i * 3]? = some (.int .i32 t.sign) := by
      have := flat_get0 (c := Tok.cells) (k := 3) (fun _ => rfl) ts i t (by omega) ht
      rw [hct, this]; rfl
    have htr : (ct.drop (i * 3)).take 3 = [.int .i32 t.sign, .int .i64 t.n, .int .i32 t.name] := by
      rw [hct, flat_row (c := Tok.cells) (k := 3) (fun _ => rfl) ts i t ht]; rfl
    have hle : i * 3 + 3 ≤ ct.length := by have := of_eq_true htl; omega
    obtain ⟨b1, b2⟩ := hb i x hx
    have c1 : ¬ x < -1 := by omega
    have c2 : ¬ 64 < x := by omega
    have hw : IntKind.i64.wrap ((i : Int) + 1) = ((i + 1 : Nat) : Int) := w64_succ (by omega)
    have hgo := ih (i + 1) (by omega)
    by_cases d1 : i + 1 = xs.length
    · have d1' : ((i : Int) + 1 == (xs.length : Int)) = true := by simp; omega
      simp [go_sem, c, indexIn, hi, hcl, hci, c1, c2, htl, hti, hw, d1']
      exact hgo
    have d1' : ((i : Int) + 1 == (xs.length : Int)) = false := by simp; omega
    by_cases d2 : x < 0
    · simp [go_sem, c, indexIn, hi, hcl, hci, c1, c2, htl, hti, hw, d1', d2]
      exact hgo
    obtain ⟨y, hy⟩ : ∃ y, xs[i + 1]? = some y := ⟨_, List.getElem?_eq_getElem (by omega)⟩
    have hS := hs i x y t hx hy ht (by omega)
    obtain ⟨sg, hsg⟩ : ∃ sg, sg = t.sign := ⟨_, rfl⟩
    rw [← hsg] at hti htr hS
    by_cases d3 : sg = 58
    · subst d3
      simp [go_sem, c, indexIn, hi, hcl, hci, c1, c2, htl, hti, hw, d1', d2]
      exact hgo
    by_cases d4 : sg = 59
    · subst d4
      simp [go_sem, c, indexIn, hi, hcl, hci, c1, c2, htl, hti, hw, d1', d2]
      exact hgo
    by_cases d5 : sg = 93
    · subst d5
      simp [go_sem, c, indexIn, hi, hcl, hci, c1, c2, htl, hti, hw, d1', d2]
      exact hgo
    by_cases d6 : sg = 126
    · subst d6
      simp [go_sem, c, indexIn, hi, hcl, hci, c1, c2, htl, hti, hw, d1', d2]
      exact hgo
    by_cases d7 : sg = 161
    · subst d7
      simp [go_sem, c, indexIn, hi, hcl, hci, c1, c2, htl, hti, hw, d1', d2]
      exact hgo
    obtain ⟨s1, s2, s3⟩ := hS (by simp [plainS]; exact ⟨d3, d4, d5, d6, d7⟩)
    have htk := check_Takes_ok (pr := prim) (bar := bar) (h := g) fs fa sg t.n t.name p m hv
    obtain ⟨r1, r2, r3, r4⟩ := takes_rng fs sg t.name
    obtain ⟨tp, tg, tok, e⟩ : ∃ a b c, takesN fs sg t.name = (a, b, c) := ⟨_, _, _, rfl⟩
    rw [e] at htk s1 s2 s3 r1 r2 r3 r4
    simp only at htk s1 s2 s3 r1 r2 r3 r4
    subst s1
    have hone := Vw.one hv
    have c3 : ¬ x < tp := by omega
    have hw2 : IntKind.i64.wrap (x - tp) = x - tp := w64 (by omega) (by omega)
    have hw3 : IntKind.i64.wrap (x - tp + tg) = x - tp + tg := w64 (by omega) (by omega)
    have hc2 : cs[i + 1]? = some (.int .i64 y) := by
      have := flat_get0 (c := i64c) (k := 1) (fun _ => rfl) xs (i + 1) y (by omega) hy
      rw [Nat.mul_one] at this; rw [hcs, this]; rfl
    have hi1 : i + 1 < xs.length := by omega
    have hi1' : (i : Int) + 1 < (xs.length : Int) := by omega
    have hi0 : (0 : Int) ≤ (i : Int) + 1 := by omega
    have s3' : (y != x - tp + tg) = false := by rw [s3]; simp
    have e3 : (sg == 58) = false := by simpa using d3
    have e4 : (sg == 59) = false := by simpa using d4
    have e5 : (sg == 93) = false := by simpa using d5
    have e6 : (sg == 126) = false := by simpa using d6
    have e7 : (sg == 161) = false := by simpa using d7
    simp [go_sem, c, indexIn, hi, hcl, hci, c1, c2, htl, hti, hw, d1', d2, e3, e4, e5, e6, e7, hU, htr, hle, htk, c3, hw2, hw3, hone]
    rw [if_pos ⟨hi0, hi1'⟩]
    simp [go_sem, indexIn, hi, hci, hc2, hw2, hw3, s3', hcl, c, hw]
    exact hgo
end
end Go.Ev
set_option linter.unusedSectionVars false
namespace Go.Ev
open Go
section
variable {bar U : Nat} {p m : Int} {fa : AV} {fs : List Fn}
theorem heights_l1 (hG : GoodU fs) (hf : FzV 3 fa fs.length (fs.flatMap Fn.cells)) (hbU : bar ≤ U) (Q : Ex → Env → H → Prop) (hq : ∀ e g, Q (.exit 0) e g) : ∀ (k i : Nat) (g : H), fs.length = i + k → U < g.n → g.get U = some (.cells [.int .i64 p, .int .i64 m, fa] 0) →
    wpL (call tb prim) bar [3, 18, 19, 20] l1_engramlaw9_CheckHeights [(3, .ptr U 0), (18, fa), (19, goI fs.length), (20, goI i)] g Q := by
  intro k
  induction k with
  | zero =>
    intro i g hk hn hU
    refine M_loop l1_engramlaw9_CheckHeights.eq_1 ?_
    have c : ¬ (i : Int) < (fs.length : Int) := by omega
    simp [go_sem, c]
    exact hq _ _
  | succ k ih =>
    intro i g hk hn hU
    refine M_loop l1_engramlaw9_CheckHeights.eq_1 ?_
    have hi : i < fs.length := by omega
    have c : (i : Int) < (fs.length : Int) := by omega
    have h3 := hG.1
    have hone := (hf.vw g).one
    have nb : bar ≤ g.n := by omega
    have hUn : ¬ U = g.n := by omega
    obtain ⟨g2, hg2⟩ : ∃ g2, g2 = (g.alloc (.cells [.int .i32 0, .int .i64 0, .str ⟨#[]⟩] 0)).set g.n (.cells [.int .i32 fs[i].name, .int .i64 fs[i].args, .str fs[i].code] 0) := ⟨_, rfl⟩
    have n2 : g2.n = g.n + 1 := by rw [hg2]; simp [n_set, n_alloc]
    have hU2 : g2.get U = some (.cells [.int .i64 p, .int .i64 m, fa] 0) := by rw [hg2, get_set, if_neg hUn, get_alloc, if_neg hUn]; exact hU
    obtain ⟨_, hz⟩ := hG.2.2 i hi
    obtain ⟨ts, ht, _, h0, hh, he, hgood⟩ := code_facts hz
    obtain ⟨sb, ss⟩ := hts_spec fs ts ⟨0, []⟩ [] h0 hgood
    have hlen := hts_len fs ts ⟨0, []⟩
    have hfirst : ∀ x r, hts fs ts ⟨0, []⟩ = x :: r → x = 0 := fun x r e => by
      cases ts with
      | nil => simp [hts] at e
      | cons t r => simp [hts] at e; exact e.1.symm
    have hne : ts ≠ [] := fun e => by
      subst e; simp [jloop] at he
    obtain ⟨xs, hxs⟩ : ∃ xs, xs = hts fs ts ⟨0, []⟩ := ⟨_, rfl⟩
    rw [← hxs] at hh sb ss hlen hfirst
    obtain ⟨la, e1, v1⟩ := check_Func_N (bar := bar) (h := g2) (p := p) (m := m) fs i (hf.vw g2)
    rw [funN_code hi] at e1 v1
    rw [hz] at e1
    rw [hh] at v1
    obtain ⟨ta, e2, v2, l2⟩ := engramref9_Tokens_ok (pr := prim) (bar := bar) (h := g2) fs[i].code
    rw [ht] at e2 v2 l2
    simp only at e2 v2 l2
    have hpos : 0 < ts.length := List.length_pos_iff.mpr hne
    have hpx : (0 : Int) < (xs.length : Int) := by omega
    have hpx' : 0 < xs.length := by omega
    obtain ⟨c1, _, ⟨_, q⟩ | ⟨f1, rfl⟩⟩ := v1
    · omega
    obtain ⟨c2, _, ⟨_, q⟩ | ⟨f2, rfl⟩⟩ := v2
    · omega
    rw [← hlen] at e2
    have hc0 : (xs.flatMap i64c)[0]? = some (.int .i64 0) := by
      cases xs with
      | nil => simp at hpx'
      | cons x r => rw [hfirst x r rfl]; rfl
    obtain ⟨cs, hcs⟩ : ∃ cs, cs = xs.flatMap i64c := ⟨_, rfl⟩
    obtain ⟨ct, hct⟩ : ∃ ct, ct = ts.flatMap Tok.cells := ⟨_, rfl⟩
    rw [← hcs] at e1 hc0 c1
    rw [← hct] at e2 c2
    have hcl : (cs.length = xs.length) = True := by simpa using c1
    have hw : IntKind.i64.wrap ((i : Int) + 1) = ((i + 1 : Nat) : Int) := w64_succ (by omega)
    rw [hg2] at e1 e2 hU2
    simp [go_sem, c]
    refine S_row (hf.vw g) hi fun v1 => ?_
    simp [go_sem, get_alloc, n_alloc, get_set, n_set, get_kill, n_kill, writeAt, a11, a21, a31, a41, a51, a61, a71, Fn.cells, sp33, nb, hU2, hUn, hU, hone, e1, e2, hpx, hpx', indexIn, hcl, hc0]
    rw [← hg2]
    refine heights_l0 (by rw [hg2]; simpa [get_set, get_alloc, hUn] using hU) (hf.vw g2) hcs hct hlen.symm sb ss (by omega) _ (fun e q1 q2 q3 q4 => ?_) xs.length 0 (by omega)
    simp [go_sem, q1, q2, q3, q4, hw]
    exact ih (i + 1) g2 (by omega) (by omega) (by rw [hg2, get_set, if_neg hUn, get_alloc, if_neg hUn]; exact hU)
end
theorem CheckHeights_ok {bar : Nat} {h : H} {la : AV} {L : List Int} (hL : FzV 1 la L.length (L.flatMap i64c)) : call tb prim n_engramlaw9_CheckHeights [la] bar h = some (.bool true, h) := by
  refine call_of tb_engramlaw9_CheckHeights (callF_pureW rfl rfl (M_in ?_))
  obtain ⟨p, m, fa, fs, hU, hf, hG⟩ := Unit_ok (bar := h.n) (h := h) (hL.vw h)
  have hone := (hf.vw h).one
  have hlen := fun g : H => (hf.vw h).len g
  have hkn := fun g : H => known_ok (bar := h.n) (h := g)
  simp [f_engramlaw9_CheckHeights, env0, go_sem, get_alloc, n_alloc, get_set, n_set, get_kill, n_kill, writeAt, a11, a21, a31, a41, a51, a61, a71, hU, hone, hlen, sp33]
  refine heights_l1 (bar := h.n) (p := p) (m := m) hG hf (Nat.le_refl _) _ (fun e g => ?_) fs.length 0 _ (by omega) (by simp [n_set, n_alloc]) (by simp [get_set, get_alloc])
  simp [go_sem, endP, endI, resultsA, resultA, freezeL, freezeV, AV.free.freeL, AV.free, packA, dropS, hkn]
end Go.Ev
namespace Go.Ev
open Go
def chkF (P : Program) : Nat → List (Option IntKind) → List Field → Bool
  | _, [], [] => true
  | off, k :: ks, f :: r => decide (f.offset = off) && decide (P.cellsOf f.type = 1) && (match k, P.underlying f.type with | some k, some (.int k') => decide (k = k') | none, some .string => true | _, _ => false) && chkF P (off + 1) ks r
  | _, _, _ => false
/-- A struct of numbers and texts: of these kinds. -/
def chkT (P : Program) (t : TypeId) (ks : List (Option IntKind)) : Bool := match P.underlying t with
  | some (.struct fs) => chkF P 0 ks fs.toList && decide (P.cellsOf t = ks.length)
  | _ => false
def RowOf (ks : List (Option IntKind)) (xs : List AV) : Prop := xs.length = ks.length ∧ ∀ (i : Nat) k, ks[i]? = some k → match k with | some k => ∃ z, xs[i]? = some (.int k z) | none => ∃ s, xs[i]? = some (.str s)
theorem take_one {xs : List AV} {i : Nat} {v : AV} (h : (xs.drop i).take 1 = [v]) : xs[i]? = some v := by
  have : ((xs.drop i).take 1)[0]? = some v := by rw [h]; rfl
  rwa [List.getElem?_take_of_lt (by omega), List.getElem?_drop, Nat.add_zero] at this
theorem chkF_ok {P : Program} {n : Nat} {xs : List AV} : ∀ (ks : List (Option IntKind)) (fs : List Field) (off : Nat), chkF P off ks fs = true → (∀ f ∈ fs, Fits P (n + 1) f.type ((xs.drop f.offset).take (P.cellsOf f.type))) →
    ∀ (i : Nat) k, ks[i]? = some k → match k with | some k => ∃ z, xs[off + i]? = some (.int k z) | none => ∃ s, xs[off + i]? = some (.str s)
  | [], _, _, _, _, i, k, hk => by simp at hk
  | k0 :: ks, [], off, h, _, i, k, hk => by simp [chkF] at h
  | k0 :: ks, f :: r, off, h, hf, i, k, hk => by
    simp only [chkF, Bool.and_eq_true, decide_eq_true_eq] at h
    obtain ⟨⟨⟨h1, h2⟩, h3⟩, h4⟩ := h
    cases i with
    | succ i =>
      have := chkF_ok ks r (off + 1) h4 (fun g hg => hf g (List.mem_cons_of_mem _ hg)) i k (by simpa using hk)
      have e : off + 1 + i = off + (i + 1) := by omega
      rw [e] at this; exact this
    | zero =>
      simp at hk; subst hk
      have hx := hf f (List.mem_cons_self ..)
      rw [h1, h2] at hx
      unfold Fits at hx
      rw [Nat.add_zero]
      cases k0 with
      | some kk =>
        split at h3 <;> first | (cases h3; done) | skip
        · rename_i k' _ e1 e2
          cases e1
          simp only [decide_eq_true_eq] at h3
          subst h3
          rw [e2] at hx
          obtain ⟨z, hz, _⟩ := hx
          exact ⟨z, take_one hz⟩
        · rename_i e1 _; cases e1
      | none =>
        split at h3 <;> first | (cases h3; done) | skip
        · rename_i e1 _; cases e1
        · rename_i e1 e2
          rw [e2] at hx
          obtain ⟨s, hs, _⟩ := hx
          exact ⟨s, take_one hs⟩
theorem chkT_ok {P : Program} {n : Nat} {t : TypeId} {ks : List (Option IntKind)} {xs : List AV} (hc : chkT P t ks = true) (h : Fits P (n + 2) t xs) : RowOf ks xs := by
  unfold chkT at hc
  unfold Fits at h
  split at hc
  · rename_i fs hu
    rw [hu] at h
    simp only [Bool.and_eq_true, decide_eq_true_eq] at hc
    refine ⟨by rw [h.1, hc.2], fun i k hk => ?_⟩
    have := chkF_ok ks fs.toList 0 hc.1 h.2 i k hk
    rwa [Nat.zero_add] at this
  · cases hc
theorem rows_list {A : Type} {c : A → List AV} {k : Nat} (hk : ∀ x, (c x).length = k) : ∀ (len : Nat) (cs : List AV), cs.length = len * k → (∀ i, i < len → ∃ x, (cs.drop (i * k)).take k = c x) → ∃ l : List A, l.length = len ∧ cs = l.flatMap c
  | 0, cs, h, _ => ⟨[], rfl, List.length_eq_zero_iff.mp (by simpa using h)⟩
  | len + 1, cs, h, hx => by
    obtain ⟨x, h0⟩ := hx 0 (by omega)
    obtain ⟨l, hl, hc⟩ := rows_list hk len (cs.drop k) (by rw [List.length_drop, h, Nat.succ_mul]; omega) (fun i hi => by
      obtain ⟨y, hy⟩ := hx (i + 1) (by omega)
      exact ⟨y, by rw [List.drop_drop, ← hy, Nat.succ_mul, Nat.add_comm]⟩)
    refine ⟨x :: l, by simp [hl], ?_⟩
    rw [List.flatMap_cons, ← hc, ← h0]
    simp
/-- A list of rows: an argument. -/
theorem arg_list {A : Type} {c : A → List AV} {P : Program} {n : Nat} {t e : TypeId} {k : Nat} {a : AV} (hk : ∀ x, (c x).length = k) (hu : P.underlying t = some (.slice e)) (hce : P.cellsOf e = k) (hx : ∀ xs, Fits P n e xs → ∃ x, xs = c x) (h : argOk P (n + 1) t a) : ∃ l : List A, FzV k a l.length (l.flatMap c) := by
  unfold argOk at h
  rw [hu] at h
  simp only at h
  unfold Fits at h
  rw [hu] at h
  rcases h with h | ⟨len, cs, h, hm, hl, hr⟩
  · cases h; exact ⟨[], by simp, by simp, .inl ⟨rfl, rfl⟩⟩
  · rw [hce] at h hl hr
    cases h
    obtain ⟨l, hl2, rfl⟩ := rows_list hk len cs hl (fun i hi => hx _ (hr i hi))
    have hm2 : maxLen ≤ 9223372036854775807 := by decide
    exact ⟨l, by rw [hl, hl2], by omega, .inr ⟨false, by rw [hl2]⟩⟩
theorem fits_int {P : Program} {n : Nat} {t : TypeId} {k : IntKind} {xs : List AV} (hu : P.underlying t = some (.int k)) (h : Fits P (n + 1) t xs) : ∃ x, xs = [.int k x] := by
  unfold Fits at h; rw [hu] at h; obtain ⟨z, hz, _⟩ := h; exact ⟨z, hz⟩
theorem arg_str {P : Program} {n : Nat} {t : TypeId} {a : AV} (hu : P.underlying t = some .string) (h : argOk P (n + 1) t a) : ∃ s, a = .str s := by
  unfold argOk at h; rw [hu] at h; unfold Fits at h; simp only [hu] at h
  obtain ⟨s, hs, _⟩ := h; cases hs; exact ⟨s, rfl⟩
theorem arg_struct {P : Program} {n : Nat} {t : TypeId} {ks : List (Option IntKind)} {a : AV} (hc : chkT P t ks = true) (h : argOk P (n + 2) t a) : ∃ xs, a = .agg xs ∧ RowOf ks xs := by
  have hc' := hc
  unfold chkT at hc
  unfold argOk at h
  split at hc
  · rename_i fs hu
    rw [hu] at h
    obtain ⟨xs, rfl, h⟩ := h
    exact ⟨xs, rfl, chkT_ok hc' h⟩
  · cases hc
end Go.Ev
