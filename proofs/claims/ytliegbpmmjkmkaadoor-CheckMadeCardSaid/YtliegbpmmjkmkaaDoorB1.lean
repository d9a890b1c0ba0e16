/- What both judgements of a function come to, and that they are the same; nothing is assumed. -/
import Derived.Test.YtliegbpmmjkmkaaDoorA9
set_option linter.unusedSimpArgs false
set_option linter.unusedVariables false
set_option linter.all false
namespace Go.Ev
open Go
def jloop (fs : List Fn) : List Tok → Js → List Int → Int × Js × List Int
  | [], s, o => (0, s, o)
  | t :: r, s, o => if (jtok fs t s).1 = 0 then jloop fs r (jtok fs t s).2 (o ++ [s.h]) else ((jtok fs t s).1, s, o)
def funT (fs : List Fn) (ts : List Tok) (ok : Bool) : List Int × Int :=
  if ok = false then ([], 13) else
  if (jloop fs ts ⟨0, []⟩ []).1 ≠ 0 then ([], (jloop fs ts ⟨0, []⟩ []).1) else
  if (jloop fs ts ⟨0, []⟩ []).2.1.h ≠ -1 ∧ (jloop fs ts ⟨0, []⟩ []).2.1.h ≠ 1 then ([], 14) else ((jloop fs ts ⟨0, []⟩ []).2.2, 0)
def funN (nest : List Tok → Bool) (fs : List Fn) (k : Int) : List Int × Int :=
  if k < 0 ∨ (fs.length : Int) ≤ k then ([], 23) else
  match fs[k.toNat]? with
  | none => ([], 23)
  | some f => if (toksN f.code).2 ≠ 0 then ([], (toksN f.code).2) else funT fs (toksN f.code).1 (nest (toksN f.code).1)
theorem jtok_code (fs : List Fn) (t : Tok) (s : Js) : 0 ≤ (jtok fs t s).1 ∧ (jtok fs t s).1 ≤ 100 := by
  have h : ∀ sg j, 0 ≤ (jturn sg j).1 ∧ (jturn sg j).1 ≤ 100 := fun sg j => by
    unfold jturn
    repeat' split
    all_goals simp
  unfold jtok
  repeat' split
  all_goals first | exact h _ _ | simp
theorem jloop_len (fs : List Fn) : ∀ (l : List Tok) (s : Js) (o : List Int), (jloop fs l s o).1 = 0 → (jloop fs l s o).2.2.length = o.length + l.length
  | [], s, o, _ => by simp [jloop]
  | t :: r, s, o, h => by
    simp only [jloop] at h ⊢
    split at h
    · rename_i c
      rw [if_pos c, jloop_len fs r _ _ h]; simp; omega
    · rename_i c; exact absurd h c
/-- A function's field, read out of wherever the functions lie. -/
theorem S_field {o : Oracle} {bar : Nat} {h0 g : H} {fa : AV} {fs : List Fn} (hv : FV h0 fa fs) (hag : Ag h0.n h0 g) {i : Nat} (hi : i < fs.length) {f : Nat} {y : AV} (hy : (fs[i]).cells[f]? = some y) {a c d : Nat} {r : List IOper} {ks : List Fr} {e : Env} {Q : Ex → Env → H → Prop}
    (hw : ∀ v1 v2, wpX o bar r ks ((d, y) :: (c, v2) :: (a, v1) :: e) g Q) :
    wpS o bar (iadrR 3 (some fa) (some (.int .i64 (i : Nat))) g) (some a) (⟨some c, .fadr f (.t a), none⟩ :: ⟨some d, .ld false 1 (.t c), none⟩ :: r) ks e Q := by
  have hbi : (i : Int) < (fs.length : Int) := by omega
  rcases hv.cases with ⟨rfl, rfl⟩ | ⟨full, cs, rfl, hl, hx, _⟩ | ⟨id', off, full, all, p', rfl, hlt, hg', hx, _⟩
  · cases hi
  · have hcf : cs[i * 3 + f]? = some y := by
      obtain ⟨q0, q1, q2⟩ := hx i hi
      match f, hy with
      | 0, hy => rw [Nat.add_zero, q0]; exact hy
      | 1, hy => rw [q1]; exact hy
      | 2, hy => rw [q2]; exact hy
      | n + 3, hy => simp [Fn.cells] at hy
    simp [go_sem, indexIn, hi, hbi, hl, hcf]
    exact hw _ _
  · have hcf : all[off + i * 3 + f]? = some y := by
      obtain ⟨q0, q1, q2⟩ := hx i hi
      match f, hy with
      | 0, hy => rw [Nat.add_zero, q0]; exact hy
      | 1, hy => rw [q1]; exact hy
      | 2, hy => rw [q2]; exact hy
      | n + 3, hy => simp [Fn.cells] at hy
    have hg2 := (hag.2 _ hlt).trans hg'
    simp [go_sem, indexIn, hi, hbi, hg2, hcf]
    exact hw _ _
section
variable {bar b : Nat} {h : H} {J : Nat} {p m : Int} {fa : AV}
theorem check_func_loop (fs : List Fn) (l : List Tok) (la : AV) (hla : FzV 3 la l.length (l.flatMap Tok.cells)) (hlen : l.length ≤ 2000) (h0 : H) (hfv : FV h0 fa fs) (h0n : h0.n ≤ b) (hbb : bar ≤ b) (Q : Ex → Env → H → Prop) : ∀ (k i : Nat) (g : H) (s : Js) (out : List Int), l.length = i + k → b ≤ g.n → Ag h0.n h0 g → JV g b J p m fa s out → JGood fs (l.drop i) s → out.length ≤ i →
    (∀ e g' x, e.get 4 = some .nilsl → e.get 5 = some (.int .i64 x) → x ≠ 0 → (jloop fs (l.drop i) s out).1 = x → Q .ret e g') →
    (∀ e g' s' out', e.get 10 = some (.ptr J 0) → jloop fs (l.drop i) s out = (0, s', out') → JV g' b J p m fa s' out' → out'.length ≤ 2000 → Q (.exit 0) e g') →
    wpL (call tb prim) bar [10, 47, 48, 49] l0_check_Func [(10, .ptr J 0), (47, la), (48, goI l.length), (49, goI i)] g Q := by
  intro k
  induction k with
  | zero =>
    intro i g s out hk hb hag hv hg ho h1 h2
    refine M_loop l0_check_Func.eq_1 ?_
    simp [go_sem, hk]
    exact h2 _ _ s out rfl (by rw [List.drop_eq_nil_of_le (by omega)]; rfl) hv (by omega)
  | succ k ih =>
    intro i g s out hk hb hag hv hg ho h1 h2
    refine M_loop l0_check_Func.eq_1 ?_
    have hi : i < l.length := by omega
    have hbi : (i : Int) < (l.length : Int) := by omega
    have hw := w64_succ (n := i) (by omega)
    rcases tok_cases hla with ⟨rfl, rfl⟩ | ⟨full, cs, rfl, hl, hx, hy⟩
    · cases hi
    have hyi := hy i hi
    have hd : l.drop i = l[i] :: l.drop (i + 1) := List.drop_eq_getElem_cons hi
    rw [hd] at hg h1 h2
    generalize hti : l[i] = t at *
    obtain ⟨hok, hpl, _, hpre, hnext⟩ := hg
    have hbn : bar ≤ g.n := by omega
    have hv2 : JV ((g.alloc (.cells [.int .i32 0, .int .i64 0, .int .i32 0] 0)).set g.n (.cells t.cells 0)) b J p m fa s out := by
      obtain ⟨pa, oa, hv⟩ := hv
      exact ⟨pa, oa, hv.mono (by simp [n_set, n_alloc]) (fun j hj => by rw [get_set_ne (by omega), get_alloc, if_neg (by omega)])⟩
    have hag2 : Ag h0.n h0 ((g.alloc (.cells [.int .i32 0, .int .i64 0, .int .i32 0] 0)).set g.n (.cells t.cells 0)) := ⟨by simp only [n_set, n_alloc]; have := hag.1; omega, fun j hj => by rw [get_set_ne (by omega), get_alloc, if_neg (by omega), hag.2 j hj]⟩
    obtain ⟨r, g', c1, c2, c3, c4, c5⟩ := jtoken_ok (bar := bar) fs t h0 hfv h0n hag2 hbb (by simp only [n_set, n_alloc]; omega) hv2 hok hpl (by omega) hpre
    simp only [n_set, n_alloc] at c3
    simp only [Tok.cells] at c1
    have hjl : jloop fs (t :: l.drop (i + 1)) s out = if (jtok fs t s).1 = 0 then jloop fs (l.drop (i + 1)) (jtok fs t s).2 (out ++ [s.h]) else ((jtok fs t s).1, s, out) := rfl
    rw [hjl] at h1 h2
    subst c2
    by_cases c0 : (jtok fs t s).1 = 0
    · rw [if_pos c0] at h1 h2
      have c0' : ((jtok fs t s).1 != 0) = false := ne_b' c0
      simp [go_sem, get_alloc, n_alloc, get_set, n_set, get_kill, n_kill, writeAt, a11, a21, a31, a41, a51, a61, a71, hi, hbi, indexIn, hl, hyi, Tok.cells, splice, hbn, c1, c0', hw]
      exact ih (i + 1) g' _ _ (by omega) (by omega) ⟨by have := hag2.1; simp only [n_set, n_alloc] at this; omega, fun j hj => by rw [c4 j (by omega), hag2.2 j hj]⟩ (c5 c0) (hnext c0) (by simp; omega) h1 h2
    · rw [if_neg c0] at h1 h2
      have c0' : ((jtok fs t s).1 != 0) = true := ne_b c0
      simp [go_sem, get_alloc, n_alloc, get_set, n_set, get_kill, n_kill, writeAt, a11, a21, a31, a41, a51, a61, a71, hi, hbi, indexIn, hl, hyi, Tok.cells, splice, hbn, c1, c0']
      exact h1 _ _ _ rfl rfl c0 rfl
theorem check_Func_ok (fs : List Fn) (k : Int) (hv : FV h fa fs) : ∃ a, call tb prim n_check_Func [.agg [.int .i64 p, .int .i64 m, fa], .int .i64 k] bar h = some (.tup [a, .int .i64 (funN (fun l => (nestP l).isSome) fs k).2], h) ∧ FzV 1 a (funN (fun l => (nestP l).isSome) fs k).1.length ((funN (fun l => (nestP l).isSome) fs k).1.flatMap i64c) := by
  suffices hw : ∃ r, callF (call tb prim) f_check_Func [.agg [.int .i64 p, .int .i64 m, fa], .int .i64 k] bar h = some (r, h) ∧ ∃ a, r = .tup [a, .int .i64 (funN (fun l => (nestP l).isSome) fs k).2] ∧ FzV 1 a (funN (fun l => (nestP l).isSome) fs k).1.length ((funN (fun l => (nestP l).isSome) fs k).1.flatMap i64c) by
    obtain ⟨r, h1, a, rfl, h2⟩ := hw; exact ⟨a, call_of tb_check_Func h1, h2⟩
  refine callF_pureK rfl rfl fun K hK => ?_
  have hnil : ∀ x, funN (fun l => (nestP l).isSome) fs k = ([], x) → K (.tup [.nilsl, .int .i64 x]) := fun x hx => by
    refine hK _ ⟨.nilsl, by rw [hx], ?_⟩
    rw [hx]; exact ⟨rfl, by simp, .inl ⟨rfl, rfl⟩⟩
  have hlen := hv.len
  by_cases c1 : k < 0
  · have := hnil 23 (by unfold funN; rw [if_pos (.inl c1)])
    simp [f_check_Func, env0, go_sem, get_alloc, n_alloc, get_set, n_set, get_kill, n_kill, writeAt, a11, a21, a31, a41, a51, a61, a71, endX, resultsA, resultA, freezeL, AV.free.freeL, packA, Vw.one hv, c1, freezeV, AV.free]
    exact this
  by_cases c2 : (fs.length : Int) ≤ k
  · have := hnil 23 (by unfold funN; rw [if_pos (.inr c2)])
    simp [f_check_Func, env0, go_sem, get_alloc, n_alloc, get_set, n_set, get_kill, n_kill, writeAt, a11, a21, a31, a41, a51, a61, a71, endX, resultsA, resultA, freezeL, AV.free.freeL, packA, Vw.one hv, c1, hlen, c2, freezeV, AV.free]
    exact this
  obtain ⟨i, hik⟩ : ∃ i : Nat, k = i := ⟨k.toNat, by omega⟩
  subst hik
  have hi : i < fs.length := by omega
  have hbi : (i : Int) < (fs.length : Int) := by omega
  have hf : funN (fun l => (nestP l).isSome) fs (i : Int) = if (toksN fs[i].code).2 ≠ 0 then ([], (toksN fs[i].code).2) else funT fs (toksN fs[i].code).1 ((nestP (toksN fs[i].code).1).isSome) := by
    unfold funN; rw [if_neg (by omega)]; simp [hi]
  rw [hf] at hK hnil
  have hone := Vw.one hv
  have hag : ∀ o, Ag h.n h (h.alloc o) := fun o => Ag.alloc _ (Nat.le_refl _)
  obtain ⟨la, ht, hla, hll⟩ := glyph_Tokens_ok (bar := h.n) (h := h.alloc (.cells [.int .i64 p, .int .i64 m, fa] 0)) fs[i].code
  rw [gTok_eq] at ht hla hll
  have hpos : ¬ ((i : Int) < 0) := by omega
  have c2' : ¬ ((fs.length : Int) ≤ (i : Int)) := c2
  have c2n : ¬ fs.length ≤ i := by omega
  simp [f_check_Func, env0, go_sem, get_alloc, n_alloc, get_set, n_set, get_kill, n_kill, writeAt, a11, a21, a31, a41, a51, a61, a71, hone, hpos, hlen, c2', c2n]
  refine S_field (f := 2) hv (hag _) hi rfl (fun v1 v2 => ?_)
  by_cases d1 : (toksN fs[i].code).2 = 0
  · have d1' : ((toksN fs[i].code).2 != 0) = false := ne_b' d1
    rw [if_neg (by simp [d1])] at hK hnil
    simp [go_sem, get_alloc, n_alloc, get_set, n_set, get_kill, n_kill, writeAt, a11, a21, a31, a41, a51, a61, a71, ht, d1']
    have hof := nest_Of_ok (pr := prim) (bar := h.n) (g := h.alloc (.cells [.int .i64 p, .int .i64 m, fa] 0)) (toksN fs[i].code).1 la hla (by omega)
    have hlla := (hla.vw h).len
    generalize (toksN fs[i].code).1 = ts at *
    cases hne : nestP ts with
    | none =>
      rw [hne] at hof hnil
      simp [go_sem, get_alloc, n_alloc, get_set, n_set, get_kill, n_kill, writeAt, a11, a21, a31, a41, a51, a61, a71, endX, resultsA, resultA, freezeL, AV.free.freeL, packA, hof, freezeV, AV.free]
      exact hnil 13 rfl
    | some to =>
      rw [hne] at hof hnil hK
      obtain ⟨ta, hof, _, _⟩ := hof
      have hgood := nestP_good fs ts hne
      have hag1 : Ag h.n h ((h.alloc (.cells [.int .i64 p, .int .i64 m, fa] 0)).alloc (.cells [.int .i64 p, .int .i64 m, fa, .int .i64 0, .nilsl, .nilsl] 0)) := (hag _).trans (Ag.alloc _ (by simp [n_alloc]))
      have hJV : JV ((h.alloc (.cells [.int .i64 p, .int .i64 m, fa] 0)).alloc (.cells [.int .i64 p, .int .i64 m, fa, .int .i64 0, .nilsl, .nilsl] 0)) h.n (h.n + 1) p m fa ⟨0, []⟩ [] := ⟨.nilsl, .nilsl, {
        cell := by simp [get_alloc, n_alloc]
        bJ := by omega
        Jn := by simp only [n_alloc]; omega
        os := OS.nil
        oo := OS.nil
        pJ := fun q => q
        oJ := fun q => q
        ap := fun j q => q.elim }⟩
      simp [go_sem, get_alloc, n_alloc, get_set, n_set, get_kill, n_kill, writeAt, a11, a21, a31, a41, a51, a61, a71, hof, evParts, fillA, splice, hone, hlla]
      refine check_func_loop fs ts la hla (by omega) h hv (Nat.le_refl _) (Nat.le_refl _) _ ts.length 0 _ ⟨0, []⟩ [] (by omega) (by simp only [n_alloc]; omega) hag1 hJV (by simpa using hgood) (by simp) (fun e g' x q1 q2 q3 q4 => ?_) (fun e g' s' out' q1 q2 q3 q4 => ?_)
      · rw [List.drop_zero] at q4
        have := hnil x (by simp only [funT, Option.isSome_some, Bool.true_eq_false, if_false]; rw [q4, if_pos q3])
        simp [go_sem, endX, resultsA, resultA, freezeL, AV.free.freeL, packA, q1, q2, freezeV, AV.free]
        exact this
      · rw [List.drop_zero] at q2
        obtain ⟨pa, oa, hv'⟩ := q3
        by_cases e1 : s'.h = -1
        · have hK' := hK
          obtain ⟨a2, f1, f2, f3⟩ := hv'.oo.freeze (still_i64 _) (by omega) 2
          simp [go_sem, endX, resultsA, resultA, freezeL, AV.free.freeL, packA, q1, isNil, hv'.cell, e1, f2, f3.free, freezeV, AV.free]
          refine hK _ ⟨a2, ?_, ?_⟩
          · simp [funT, q2, e1, packA]
          · simp [funT, q2, e1]; exact f3
        · have e1' := ne_b e1
          by_cases e2 : s'.h = 1
          · have e2' := ne_b' e2
            obtain ⟨a2, f1, f2, f3⟩ := hv'.oo.freeze (still_i64 _) (by omega) 2
            simp [go_sem, endX, resultsA, resultA, freezeL, AV.free.freeL, packA, q1, isNil, hv'.cell, e1', e2', f2, f3.free, freezeV, AV.free]
            refine hK _ ⟨a2, ?_, ?_⟩
            · simp [funT, q2, e2, packA]
            · simp [funT, q2, e2]; exact f3
          · have e2' := ne_b e2
            have := hnil 14 (by simp only [funT, Option.isSome_some, Bool.true_eq_false, if_false]; rw [q2]; simp [e1, e2])
            simp [go_sem, endX, resultsA, resultA, freezeL, AV.free.freeL, packA, q1, isNil, hv'.cell, e1', e2', freezeV, AV.free]
            exact this
  · have d1' : ((toksN fs[i].code).2 != 0) = true := ne_b d1
    rw [if_pos d1] at hnil
    simp [go_sem, get_alloc, n_alloc, get_set, n_set, get_kill, n_kill, writeAt, a11, a21, a31, a41, a51, a61, a71, endX, resultsA, resultA, freezeL, AV.free.freeL, packA, ht, d1', freezeV, AV.free]
    exact hnil _ rfl
end
end Go.Ev
namespace Go.Ev
open Go
def rsg (p : Jp) : Int := if p.loop then 91 else if p.other then 58 else 63
def Jp.rc (p : Jp) : List AV := [.int .i32 (rsg p), .int .i64 p.base, .int .i64 p.fin, .bool p.left]
theorem Jp.rc_len (p : Jp) : p.rc.length = 4 := rfl
theorem Jp.rc_one (p : Jp) : p.rc.all AV.one = true := by simp [Jp.rc, AV.one]
structure SVp (g : H) (b S : Nat) (Z : Nat → Prop) (s : Js) (pa : AV) : Prop where
  cell : g.get S = some (.cells [.int .i64 s.h, pa] 0)
  bS : b ≤ S
  Sn : S < g.n
  os : OS 4 g b pa s.ps.length (s.ps.flatMap Jp.rc)
  pS : ¬ pa.isAt S
  zz : ∀ j, Z j → j < g.n ∧ j ≠ S ∧ ¬ pa.isAt j
def SV (g : H) (b S : Nat) (Z : Nat → Prop) (s : Js) : Prop := ∃ pa, SVp g b S Z s pa
theorem sp20 (a b v : AV) : splice [a, b] 0 [v] = [v, b] := Eq.trans rfl rfl
theorem sp21 (a b v : AV) : splice [a, b] 1 [v] = [a, v] := Eq.trans rfl rfl
section
variable {bar b : Nat} {g : H} {S : Nat} {Z : Nat → Prop} {s : Js} {pa : AV}
theorem SVp.mono (hv : SVp g b S Z s pa) {h : H} (hn : g.n ≤ h.n) (hf : ∀ j, j < g.n → h.get j = g.get j) : SVp h b S Z s pa where
  cell := by rw [hf S hv.Sn]; exact hv.cell
  bS := hv.bS
  Sn := by have := hv.Sn; omega
  os := hv.os.mono hn (fun j hj => hf j (hv.os.at_lt hj).2)
  pS := hv.pS
  zz := fun j hj => ⟨by have := (hv.zz j hj).1; omega, (hv.zz j hj).2⟩
theorem SVp.seth (hv : SVp g b S Z s pa) (x : Int) : SVp (g.set S (.cells [.int .i64 x, pa] 0)) b S Z ⟨x, s.ps⟩ pa where
  cell := by rw [get_set, if_pos rfl]
  bS := hv.bS
  Sn := hv.Sn
  os := hv.os.set _ hv.pS
  pS := hv.pS
  zz := hv.zz
theorem SVp.last (hv : SVp g b S Z s pa) (hne : s.ps ≠ []) : ∃ id all x, pa = .sl id 0 4 s.ps.length false ∧ b ≤ id ∧ id < g.n ∧ g.get id = some (.cells all 0) ∧ id ≠ S ∧
    s.ps[s.ps.length - 1]? = some x ∧ x ∈ s.ps ∧ s.ps.getLast? = some x ∧
    (∀ h : H, g.n ≤ h.n → h.get id = g.get id → OS 4 h b (.sl id 0 4 (s.ps.length - 1) false) s.ps.dropLast.length (s.ps.dropLast.flatMap Jp.rc)) ∧
    (∀ i x x' f vs (h : H), s.ps[i]? = some x → f + vs.length ≤ 4 → Jp.rc x' = splice (Jp.rc x) f vs → (Jp.rc x').all AV.one = true → g.n ≤ h.n → h.get id = some (.cells (splice all (i * 4 + f) vs) 0) → OS 4 h b pa (s.ps.set i x').length ((s.ps.set i x').flatMap Jp.rc)) ∧
    (∀ i x, s.ps[i]? = some x → i * 4 + 4 ≤ all.length ∧ all[i * 4]? = some (.int .i32 (rsg x)) ∧ all[i * 4 + 1]? = some (.int .i64 x.base) ∧ all[i * 4 + 2]? = some (.int .i64 x.fin) ∧ all[i * 4 + 3]? = some (.bool x.left)) := by
  obtain ⟨id, all, hpa, e1, e2, e3, e4, e5, e6, e7⟩ := hv.os.elems Jp.rc_len hne
  obtain ⟨x, hx1, hx2, hx3, hx4⟩ := drop_last_split hne
  have hS := hv.pS
  rw [hpa] at hS
  refine ⟨id, all, x, hpa, e1, e2, e3, hS, hx3, List.mem_of_getElem? hx3, hx1, e6, e7, fun i y hy => ?_⟩
  obtain ⟨hi, _⟩ := List.getElem?_eq_some_iff.mp hy
  exact ⟨by omega, e5 i y 0 hy (by omega), e5 i y 1 hy (by omega), e5 i y 2 hy (by omega), e5 i y 3 hy (by omega)⟩
theorem sbase_ok (hv : SVp g b S Z s pa) (hl : s.ps.length ≤ 1000) : call tb prim n_engramref9_state_base [.ptr S 0] bar g = some (.int .i64 (jbase s.ps), g) := by
  refine call_of tb_engramref9_state_base (callF_pureW rfl rfl (M_in ?_))
  by_cases hne : s.ps = []
  · have h0 : s.ps.length = 0 := by rw [hne]; rfl
    have hb : jbase s.ps = 0 := by rw [hne]; rfl
    rw [hb]
    simp [f_engramref9_state_base, env0, go_sem, endP, endI, resultsA, resultA, freezeL, freezeV, AV.free.freeL, AV.free, packA, dropS, hv.cell, isNil, hv.os.len, h0]
  · obtain ⟨id, all, x, hpa, h1, h2, h3, h4, h6, h7, h8, h9, h10, h11⟩ := hv.last hne
    obtain ⟨q1, q2, q3, q4, q5, q6, q7⟩ := pos_facts (List.length_pos_iff.mpr hne) hl
    have hb : jbase s.ps = x.base := by unfold jbase; rw [h8]
    rw [hb]
    have hf := h11 _ _ h6
    have hpos := List.length_pos_iff.mpr hne
    subst hpa
    simp [f_engramref9_state_base, env0, go_sem, endP, endI, resultsA, resultA, freezeL, freezeV, AV.free.freeL, AV.free, packA, dropS, hv.cell, isNil, q1, q2, q3, q4, indexIn, h3, hf, hne]
/-- What a step of the document's judge must come to. -/
def SR (g : H) (b S : Nat) (Z : Nat → Prop) (x : Int × Js) (r : AV) (g' : H) : Prop := r = .bool (decide (x.1 = 0)) ∧ g.n ≤ g'.n ∧ (∀ j, j < b ∨ Z j → g'.get j = g.get j) ∧ (x.1 = 0 → SV g' b S Z x.2)
theorem sends_ok (sg : Int) (hE : isEnd sg = true) (hbb : bar ≤ b) (hb : b ≤ g.n) (hv : SV g b S Z s) (hok : JOk s) (hpre : jpre sg s.ps) : ∃ r g', call tb prim n_engramref9_state_ends [.ptr S 0, .int .i32 sg] bar g = some (r, g') ∧ SR g b S Z (jturn sg s) r g' := by
  suffices hw : ∃ r g', callF (call tb prim) f_engramref9_state_ends [.ptr S 0, .int .i32 sg] bar g = some (r, g') ∧ SR g b S Z (jturn sg s) r g' by
    obtain ⟨r, h', h1, h2⟩ := hw; exact ⟨r, h', call_of tb_engramref9_state_ends h1, h2⟩
  refine callF_K rfl rfl fun K hK => ?_
  obtain ⟨pa, hv⟩ := hv
  obtain ⟨ok1, ok2, ok3, ok4⟩ := hok
  have hE' : sg = 58 ∨ sg = 59 ∨ sg = 93 := by simpa [isEnd] using hE
  have hne : s.ps ≠ [] := by
    rcases hE' with rfl | rfl | rfl
    · obtain ⟨p, hp, _⟩ := hpre.1 rfl; intro e; rw [e] at hp; cases hp
    · obtain ⟨p, hp, _⟩ := hpre.2.1 rfl; intro e; rw [e] at hp; cases hp
    · obtain ⟨p, hp, _⟩ := hpre.2.2.1 rfl; intro e; rw [e] at hp; cases hp
  have hv0 := hv
  obtain ⟨id, all, x, hpa, h1, h2, h3, h4, h6, h7, h8, h9, h10, h11⟩ := hv.last hne
  obtain ⟨q1, q2, q3, q4, q5, q6, q7⟩ := pos_facts (List.length_pos_iff.mpr hne) ok4
  obtain ⟨f0, f1, f2, f3, f4⟩ := h11 _ _ h6
  obtain ⟨o1, o2, o3, o4⟩ := ok3 x h7
  have hSn := hv.Sn
  have hbS : bar ≤ S := by have := hv.bS; omega
  have hbi : bar ≤ id := by omega
  have n1 : S ≠ id := fun e => h4 e.symm
  have hjS : ∀ j, j < b ∨ Z j → j ≠ S := fun j hj => by
    rcases hj with hj | hj
    · have := hv.bS; omega
    · exact (hv.zz j hj).2.1
  have hjI : ∀ j, j < b ∨ Z j → j ≠ id := fun j hj => by
    rcases hj with hj | hj
    · omega
    · intro e; exact (hv.zz j hj).2.2 (by rw [hpa, e]; rfl)
  have hzz : ∀ j, Z j → j < g.n ∧ j ≠ S ∧ ¬ (AV.sl id 0 4 (s.ps.length - 1) false).isAt j := fun j hj => ⟨(hv.zz j hj).1, (hv.zz j hj).2.1, fun e => hjI j (.inr hj) e.symm⟩
  have hzz0 : ∀ j, Z j → j < g.n ∧ j ≠ S ∧ ¬ (AV.sl id 0 4 s.ps.length false).isAt j := fun j hj => ⟨(hv.zz j hj).1, (hv.zz j hj).2.1, fun e => hjI j (.inr hj) e.symm⟩
  have hfrS : ∀ c j, j < b ∨ Z j → (g.set S c).get j = g.get j := fun c j hj => get_set_ne (hjS j hj)
  rcases hE' with rfl | rfl | rfl
  · -- ':'
    obtain ⟨p, hp, hp1, hp2⟩ := hpre.1 rfl
    rw [h8] at hp; injection hp with hp; subst hp
    have hj : jturn 58 s = (0, ⟨x.base, s.ps.set (s.ps.length - 1) ⟨x.loop, true, x.left, x.base, s.h⟩⟩) := by simp [jturn, h8]
    rw [hj] at hK
    have hos1 := h10 (s.ps.length - 1) x ⟨x.loop, true, x.left, x.base, x.fin⟩ 0 [.int .i32 58] (g.set id (.cells (splice all ((s.ps.length - 1) * 4) [.int .i32 58]) 0)) h6 (by simp) (by simp [Jp.rc, rsg, hp1, splice]) (Jp.rc_one _) (Nat.le_refl _) (by rw [get_set, if_pos rfl]; rfl)
    have hne1 : s.ps.set (s.ps.length - 1) ⟨x.loop, true, x.left, x.base, x.fin⟩ ≠ [] := List.length_pos_iff.mp (by rw [List.length_set]; exact List.length_pos_iff.mpr hne)
    obtain ⟨id', all', hpa', _, _, h3', hle', _, _, h10'⟩ := hos1.elems Jp.rc_len hne1
    rw [hpa] at hpa'
    injection hpa' with hid
    subst hid
    rw [get_set, if_pos rfl] at h3'
    injection h3' with h3'
    injection h3' with h3'
    have hos2 := h10' (s.ps.length - 1) ⟨x.loop, true, x.left, x.base, x.fin⟩ ⟨x.loop, true, x.left, x.base, s.h⟩ 2 [.int .i64 s.h] (((g.set id (.cells (splice all ((s.ps.length - 1) * 4) [.int .i32 58]) 0)).set id (.cells (splice all' ((s.ps.length - 1) * 4 + 2) [.int .i64 s.h]) 0)).set S (.cells [.int .i64 x.base, pa] 0))
      (by rw [List.getElem?_set, if_pos rfl, if_pos q2]) (by simp) rfl (Jp.rc_one _) (Nat.le_refl _) (by rw [get_set_ne h4, get_set, if_pos rfl])
    rw [List.set_set, h3'] at hos2
    rw [List.length_set] at hle'
    have hle1 : (s.ps.length - 1) * 4 + 1 ≤ all.length := by omega
    have hle2 : (s.ps.length - 1) * 4 + 2 + 1 ≤ all'.length := by omega
    subst hpa
    simp [f_engramref9_state_ends, env0, go_sem, get_alloc, n_alloc, get_set, n_set, get_kill, n_kill, writeAt, a11, a21, a31, a41, a51, a61, a71, endP, endI, resultsA, resultA, freezeL, freezeV, AV.free.freeL, AV.free, packA, dropS, hv.cell, isNil, q1, q2, q3, indexIn, h3, f2, n1, hbi, hle1, h3', hle2, hbS, sp20]
    refine ⟨_, _, ⟨rfl, rfl⟩, hK _ _ ⟨by simp [packA], Nat.le_refl _, fun j hj => by rw [get_set_ne (hjS j hj), get_set_ne (hjI j hj), get_set_ne (hjI j hj)], fun _ => ⟨.sl id 0 4 s.ps.length false, ?_⟩⟩⟩
    exact { cell := by rw [get_set, if_pos rfl], bS := hv.bS, Sn := hv.Sn, os := hos2, pS := hv.pS, zz := hzz0 }
  · -- ';'
    obtain ⟨p, hp, hp1⟩ := hpre.2.1 rfl
    rw [h8] at hp; injection hp with hp; subst hp
    have hj : jturn 59 s = if x.other then (if s.h ≠ -1 ∧ x.fin ≠ -1 ∧ s.h ≠ x.fin then (14, s) else (0, ⟨max s.h x.fin, s.ps.dropLast⟩)) else (if s.h ≠ -1 ∧ s.h ≠ x.base then (14, s) else (0, ⟨x.base, s.ps.dropLast⟩)) := by
      simp [jturn, h8]
    rw [hj] at hK
    have hbase : SVp (g.set S (.cells [.int .i64 s.h, .sl id 0 4 (s.ps.length - 1) false] 0)) b S Z ⟨s.h, s.ps.dropLast⟩ (.sl id 0 4 (s.ps.length - 1) false) :=
      { cell := by rw [get_set, if_pos rfl], bS := hv.bS, Sn := hv.Sn, os := h9 _ (Nat.le_refl _) (get_set_ne h4), pS := h4, zz := hzz }
    have hgood : ∀ y, SV ((g.set S (.cells [.int .i64 s.h, .sl id 0 4 (s.ps.length - 1) false] 0)).set S (.cells [.int .i64 y, .sl id 0 4 (s.ps.length - 1) false] 0)) b S Z ⟨y, s.ps.dropLast⟩ := fun y =>
      ⟨_, hbase.seth y⟩
    have hfr2 : ∀ c d j, j < b ∨ Z j → ((g.set S c).set S d).get j = g.get j := fun c d j hj => by rw [get_set_ne (hjS j hj), hfrS c j hj]
    subst hpa
    cases ho : x.other with
    | true =>
      have hs58 : rsg x = 58 := by simp [rsg, hp1, ho]
      rw [hs58] at f1
      simp only [ho, if_true] at hK
      have hmx : (if x.fin > s.h then x.fin else s.h) = max s.h x.fin := by split <;> omega
      by_cases c1 : x.fin = -1
      · rw [if_neg (fun e => e.2.1 c1), ← hmx] at hK
        have d1 : ¬ (0 ≤ x.fin) := by omega
        simp [f_engramref9_state_ends, env0, go_sem, get_alloc, n_alloc, get_set, n_set, get_kill, n_kill, writeAt, a11, a21, a31, a41, a51, a61, a71, endP, endI, resultsA, resultA, freezeL, freezeV, AV.free.freeL, AV.free, packA, dropS, hv.cell, isNil, q1, q2, q3, q5, q6, q7, indexIn, h3, f1, f3, h4, n1, hbS, sp20, sp21, sliceA, optEv, optBound, bound, d1]
        exact ⟨_, _, ⟨rfl, rfl⟩, hK _ _ ⟨by simp [packA], Nat.le_refl _, fun j hj => hfr2 _ _ j hj, fun _ => hgood _⟩⟩
      · have d1 : 0 ≤ x.fin := by omega
        by_cases c2 : s.h = -1
        · rw [if_neg (fun e => e.1 c2), ← hmx] at hK
          have d2 : ¬ (0 ≤ s.h) := by omega
          simp [f_engramref9_state_ends, env0, go_sem, get_alloc, n_alloc, get_set, n_set, get_kill, n_kill, writeAt, a11, a21, a31, a41, a51, a61, a71, endP, endI, resultsA, resultA, freezeL, freezeV, AV.free.freeL, AV.free, packA, dropS, hv.cell, isNil, q1, q2, q3, q5, q6, q7, indexIn, h3, f1, f3, h4, n1, hbS, sp20, sp21, sliceA, optEv, optBound, bound, d1, d2]
          exact ⟨_, _, ⟨rfl, rfl⟩, hK _ _ ⟨by simp [packA], Nat.le_refl _, fun j hj => hfr2 _ _ j hj, fun _ => hgood _⟩⟩
        · have d2 : 0 ≤ s.h := by omega
          by_cases c3 : s.h = x.fin
          · rw [if_neg (fun e => e.2.2 c3), ← hmx] at hK
            have d3 : (x.fin != s.h) = false := ne_b' c3.symm
            simp [f_engramref9_state_ends, env0, go_sem, get_alloc, n_alloc, get_set, n_set, get_kill, n_kill, writeAt, a11, a21, a31, a41, a51, a61, a71, endP, endI, resultsA, resultA, freezeL, freezeV, AV.free.freeL, AV.free, packA, dropS, hv.cell, isNil, q1, q2, q3, q5, q6, q7, indexIn, h3, f1, f3, h4, n1, hbS, sp20, sp21, sliceA, optEv, optBound, bound, d1, d2, d3]
            exact ⟨_, _, ⟨rfl, rfl⟩, hK _ _ ⟨by simp [packA], Nat.le_refl _, fun j hj => hfr2 _ _ j hj, fun _ => hgood _⟩⟩
          · rw [if_pos ⟨c2, c1, c3⟩] at hK
            have d3 : (x.fin != s.h) = true := ne_b (fun e => c3 e.symm)
            simp [f_engramref9_state_ends, env0, go_sem, get_alloc, n_alloc, get_set, n_set, get_kill, n_kill, writeAt, a11, a21, a31, a41, a51, a61, a71, endP, endI, resultsA, resultA, freezeL, freezeV, AV.free.freeL, AV.free, packA, dropS, hv.cell, isNil, q1, q2, q3, q5, q6, q7, indexIn, h3, f1, f3, h4, n1, hbS, sp20, sp21, sliceA, optEv, optBound, bound, d1, d2, d3]
            exact ⟨_, _, ⟨rfl, rfl⟩, hK _ _ ⟨by simp [packA], Nat.le_refl _, fun j hj => hfrS _ j hj, fun e => by cases e⟩⟩
    | false =>
      have hs63 : rsg x = 63 := by simp [rsg, hp1, ho]
      rw [hs63] at f1
      simp only [ho, Bool.false_eq_true, if_false] at hK
      by_cases c2 : s.h = -1
      · rw [if_neg (fun e => e.1 c2)] at hK
        have d2 : ¬ (0 ≤ s.h) := by omega
        simp [f_engramref9_state_ends, env0, go_sem, get_alloc, n_alloc, get_set, n_set, get_kill, n_kill, writeAt, a11, a21, a31, a41, a51, a61, a71, endP, endI, resultsA, resultA, freezeL, freezeV, AV.free.freeL, AV.free, packA, dropS, hv.cell, isNil, q1, q2, q3, q5, q6, q7, indexIn, h3, f1, f2, h4, n1, hbS, sp20, sp21, sliceA, optEv, optBound, bound, d2]
        exact ⟨_, _, ⟨rfl, rfl⟩, hK _ _ ⟨by simp [packA], Nat.le_refl _, fun j hj => hfr2 _ _ j hj, fun _ => hgood _⟩⟩
      · have d2 : 0 ≤ s.h := by omega
        by_cases c3 : s.h = x.base
        · rw [if_neg (fun e => e.2 c3)] at hK
          have d3 := ne_b' c3
          simp [f_engramref9_state_ends, env0, go_sem, get_alloc, n_alloc, get_set, n_set, get_kill, n_kill, writeAt, a11, a21, a31, a41, a51, a61, a71, endP, endI, resultsA, resultA, freezeL, freezeV, AV.free.freeL, AV.free, packA, dropS, hv.cell, isNil, q1, q2, q3, q5, q6, q7, indexIn, h3, f1, f2, h4, n1, hbS, sp20, sp21, sliceA, optEv, optBound, bound, d2, d3]
          exact ⟨_, _, ⟨rfl, rfl⟩, hK _ _ ⟨by simp [packA], Nat.le_refl _, fun j hj => hfr2 _ _ j hj, fun _ => hgood _⟩⟩
        · rw [if_pos ⟨c2, c3⟩] at hK
          have d3 := ne_b c3
          simp [f_engramref9_state_ends, env0, go_sem, get_alloc, n_alloc, get_set, n_set, get_kill, n_kill, writeAt, a11, a21, a31, a41, a51, a61, a71, endP, endI, resultsA, resultA, freezeL, freezeV, AV.free.freeL, AV.free, packA, dropS, hv.cell, isNil, q1, q2, q3, q5, q6, q7, indexIn, h3, f1, f2, h4, n1, hbS, sp20, sp21, sliceA, optEv, optBound, bound, d2, d3]
          exact ⟨_, _, ⟨rfl, rfl⟩, hK _ _ ⟨by simp [packA], Nat.le_refl _, fun j hj => hfrS _ j hj, fun e => by cases e⟩⟩
  · -- ']'
    obtain ⟨p, hp, hp1, hp2⟩ := hpre.2.2.1 rfl
    rw [h8] at hp; injection hp with hp; subst hp
    have hj : jturn 93 s = if s.h ≠ -1 ∧ s.h ≠ x.base then (14, s) else (0, ⟨if x.left then x.base else -1, s.ps.dropLast⟩) := by
      simp [jturn, h8]
    rw [hj] at hK
    have hbase : SVp (g.set S (.cells [.int .i64 s.h, .sl id 0 4 (s.ps.length - 1) false] 0)) b S Z ⟨s.h, s.ps.dropLast⟩ (.sl id 0 4 (s.ps.length - 1) false) :=
      { cell := by rw [get_set, if_pos rfl], bS := hv.bS, Sn := hv.Sn, os := h9 _ (Nat.le_refl _) (get_set_ne h4), pS := h4, zz := hzz }
    have hs91 : rsg x = 91 := by simp [rsg, hp1]
    rw [hs91] at f1
    have hgood0 : ∀ y, SVp ((g.set S (.cells [.int .i64 s.h, .sl id 0 4 (s.ps.length - 1) false] 0)).set S (.cells [.int .i64 y, .sl id 0 4 (s.ps.length - 1) false] 0)) b S Z ⟨y, s.ps.dropLast⟩ (.sl id 0 4 (s.ps.length - 1) false) := fun y =>
      hbase.seth y
    have hfr2 : ∀ c d j, j < b ∨ Z j → ((g.set S c).set S d).get j = g.get j := fun c d j hj => by rw [get_set_ne (hjS j hj), hfrS c j hj]
    have hfr3 : ∀ c d e j, j < b ∨ Z j → (((g.set S c).set S d).set S e).get j = g.get j := fun c d e j hj => by rw [get_set_ne (hjS j hj), hfr2 c d j hj]
    subst hpa
    by_cases hbad : s.h ≠ -1 ∧ s.h ≠ x.base
    · rw [if_pos hbad] at hK
      have d2 : 0 ≤ s.h := by have := hbad.1; omega
      have d3 := ne_b hbad.2
      simp [f_engramref9_state_ends, env0, go_sem, get_alloc, n_alloc, get_set, n_set, get_kill, n_kill, writeAt, a11, a21, a31, a41, a51, a61, a71, endP, endI, resultsA, resultA, freezeL, freezeV, AV.free.freeL, AV.free, packA, dropS, hv.cell, isNil, q1, q2, q3, q5, q6, q7, indexIn, h3, f1, f2, h4, n1, hbS, sp20, sp21, sliceA, optEv, optBound, bound, d2, d3]
      exact ⟨_, _, ⟨rfl, rfl⟩, hK _ _ ⟨by simp [packA], Nat.le_refl _, fun j hj => hfrS _ j hj, fun e => by cases e⟩⟩
    · rw [if_neg hbad] at hK
      by_cases c2 : s.h = -1
      · have d2 : ¬ (0 ≤ s.h) := by omega
        cases hlf : x.left with
        | true =>
          simp only [hlf, if_true] at hK
          simp [f_engramref9_state_ends, env0, go_sem, get_alloc, n_alloc, get_set, n_set, get_kill, n_kill, writeAt, a11, a21, a31, a41, a51, a61, a71, endP, endI, resultsA, resultA, freezeL, freezeV, AV.free.freeL, AV.free, packA, dropS, hv.cell, isNil, q1, q2, q3, q5, q6, q7, indexIn, h3, f1, f2, f4, h4, n1, hbS, sp20, sp21, sliceA, optEv, optBound, bound, d2, hlf]
          exact ⟨_, _, ⟨rfl, rfl⟩, hK _ _ ⟨by simp [packA], Nat.le_refl _, fun j hj => hfr2 _ _ j hj, fun _ => ⟨_, hgood0 _⟩⟩⟩
        | false =>
          simp only [hlf, Bool.false_eq_true, if_false] at hK
          simp [f_engramref9_state_ends, env0, go_sem, get_alloc, n_alloc, get_set, n_set, get_kill, n_kill, writeAt, a11, a21, a31, a41, a51, a61, a71, endP, endI, resultsA, resultA, freezeL, freezeV, AV.free.freeL, AV.free, packA, dropS, hv.cell, isNil, q1, q2, q3, q5, q6, q7, indexIn, h3, f1, f2, f4, h4, n1, hbS, sp20, sp21, sliceA, optEv, optBound, bound, d2, hlf]
          exact ⟨_, _, ⟨rfl, rfl⟩, hK _ _ ⟨by simp [packA], Nat.le_refl _, fun j hj => hfr3 _ _ _ j hj, fun _ => ⟨_, (hgood0 _).seth (-1)⟩⟩⟩
      · have d2 : 0 ≤ s.h := by omega
        have d3 := ne_b' (show s.h = x.base from Classical.byContradiction fun e => hbad ⟨c2, e⟩)
        cases hlf : x.left with
        | true =>
          simp only [hlf, if_true] at hK
          simp [f_engramref9_state_ends, env0, go_sem, get_alloc, n_alloc, get_set, n_set, get_kill, n_kill, writeAt, a11, a21, a31, a41, a51, a61, a71, endP, endI, resultsA, resultA, freezeL, freezeV, AV.free.freeL, AV.free, packA, dropS, hv.cell, isNil, q1, q2, q3, q5, q6, q7, indexIn, h3, f1, f2, f4, h4, n1, hbS, sp20, sp21, sliceA, optEv, optBound, bound, d2, d3, hlf]
          exact ⟨_, _, ⟨rfl, rfl⟩, hK _ _ ⟨by simp [packA], Nat.le_refl _, fun j hj => hfr2 _ _ j hj, fun _ => ⟨_, hgood0 _⟩⟩⟩
        | false =>
          simp only [hlf, Bool.false_eq_true, if_false] at hK
          simp [f_engramref9_state_ends, env0, go_sem, get_alloc, n_alloc, get_set, n_set, get_kill, n_kill, writeAt, a11, a21, a31, a41, a51, a61, a71, endP, endI, resultsA, resultA, freezeL, freezeV, AV.free.freeL, AV.free, packA, dropS, hv.cell, isNil, q1, q2, q3, q5, q6, q7, indexIn, h3, f1, f2, f4, h4, n1, hbS, sp20, sp21, sliceA, optEv, optBound, bound, d2, d3, hlf]
          exact ⟨_, _, ⟨rfl, rfl⟩, hK _ _ ⟨by simp [packA], Nat.le_refl _, fun j hj => hfr3 _ _ _ j hj, fun _ => ⟨_, (hgood0 _).seth (-1)⟩⟩⟩
end
end Go.Ev
namespace Go.Ev
open Go
section
variable {bar b : Nat} {g : H} {S : Nat} {Z : Nat → Prop} {s : Js} {pa : AV}
theorem sleave_loop (hbb : bar ≤ b) (hv : SVp g b S Z s pa) (hl : s.ps.length ≤ 1000) (ho91 : ∀ p ∈ s.ps, p.loop = true ∨ rsg p ≠ 91) (k0 : Nat) (Q : Ex → Env → H → Prop) (hq : ∀ e r g', e.get 2 = some r → SR g b S Z (jturn 126 s) r g' → Q .ret e g') (hk0 : lastLoopJ s.ps s.ps.length = some k0) : ∀ (n : Nat), n ≤ s.ps.length → lastLoopJ s.ps n = some k0 →
    wpL (call tb prim) bar [0, 3] l0_engramref9_state_leave [(0, .ptr S 0), (3, .int .i64 ((n : Int) - 1))] g Q := by
  intro n
  induction n with
  | zero => intro _ h; simp [lastLoopJ] at h
  | succ k ih =>
    intro hn hll
    refine M_loop l0_engramref9_state_leave.eq_1 ?_
    have hne : s.ps ≠ [] := List.length_pos_iff.mp (by omega)
    obtain ⟨id, all, _, hpa, h1, h2, h3, h4, _, _, _, h9, h10, h11⟩ := hv.last hne
    have hk : k < s.ps.length := by omega
    have hk' : (k : Int) < (s.ps.length : Int) := by omega
    have hxk : s.ps[k]? = some s.ps[k] := List.getElem?_eq_getElem hk
    obtain ⟨f0, f1, f2, f3, f4⟩ := h11 k _ hxk
    have hkk : ((k + 1 : Nat) : Int) - 1 = (k : Int) := by omega
    rw [hkk]
    simp only [lastLoopJ, hxk] at hll
    have hrs := ho91 _ (List.getElem_mem hk)
    have hw : IntKind.i64.wrap ((k : Int) - 1) = (k : Int) - 1 := w64 (by omega) (by omega)
    have hpos : (0 : Int) ≤ (k : Int) := by omega
    have hjS : ∀ j, j < b ∨ Z j → j ≠ S := fun j hj => by
      rcases hj with hj | hj
      · have := hv.bS; omega
      · exact (hv.zz j hj).2.1
    have hjI : ∀ j, j < b ∨ Z j → j ≠ id := fun j hj => by
      rcases hj with hj | hj
      · omega
      · intro e; exact (hv.zz j hj).2.2 (by rw [hpa, e]; rfl)
    generalize s.ps[k] = x at *
    cases hlp : x.loop with
    | false =>
      rw [hlp] at hll
      simp only [Bool.false_eq_true, if_false] at hll
      have hr91 : (rsg x == 91) = false := by rcases hrs with h | h <;> simp_all
      subst hpa
      simp [go_sem, hv.cell, isNil, indexIn, hk, hk', h3, f1, hr91, hw]
      exact ih (by omega) hll
    | true =>
      rw [hlp, if_pos rfl] at hll
      injection hll with hll
      subst hll
      have hr91 : rsg x = 91 := by simp [rsg, hlp]
      rw [hr91] at f1
      have hj : jturn 126 s = if s.h ≠ x.base then (14, s) else (0, ⟨-1, s.ps.set k ⟨x.loop, x.other, true, x.base, x.fin⟩⟩) := by
        simp only [jturn, hk0, hxk]
        rfl
      have hbS : bar ≤ S := by have := hv.bS; omega
      have hbi : bar ≤ id := by omega
      have hle : k * 4 + 3 + 1 ≤ all.length := by omega
      have n1 : S ≠ id := fun e => h4 e.symm
      have hsp : (splice all (k * 4 + 3) [.bool true])[k * 4 + 1]? = some (.int .i64 x.base) := by
        unfold splice
        rw [List.append_assoc, List.getElem?_append_left (by rw [List.length_take]; omega), List.getElem?_take_of_lt (by omega)]
        exact f2
      have hos := h10 k x ⟨x.loop, x.other, true, x.base, x.fin⟩ 3 [.bool true] ((g.set id (.cells (splice all (k * 4 + 3) [.bool true]) 0)).set S (.cells [.int .i64 (-1), pa] 0)) hxk (by simp) rfl (Jp.rc_one _) (Nat.le_refl _) (by rw [get_set_ne h4, get_set, if_pos rfl])
      have hSV : SV ((g.set id (.cells (splice all (k * 4 + 3) [.bool true]) 0)).set S (.cells [.int .i64 (-1), pa] 0)) b S Z ⟨-1, s.ps.set k ⟨x.loop, x.other, true, x.base, x.fin⟩⟩ := ⟨pa, { cell := by rw [get_set, if_pos rfl], bS := hv.bS, Sn := hv.Sn, os := hos, pS := hv.pS, zz := hv.zz }⟩
      have hfr : ∀ j, j < b ∨ Z j → ((g.set id (.cells (splice all (k * 4 + 3) [.bool true]) 0)).set S (.cells [.int .i64 (-1), pa] 0)).get j = g.get j := fun j hj => by rw [get_set_ne (hjS j hj), get_set_ne (hjI j hj)]
      subst hpa
      simp [go_sem, get_alloc, n_alloc, get_set, n_set, get_kill, n_kill, writeAt, a11, a21, a31, a41, a51, a61, a71, hv.cell, isNil, indexIn, hk, hk', h3, f1, hbi, hle, n1, hsp, hbS, sp20]
      refine hq _ (.bool (s.h == x.base)) _ rfl ?_
      rw [hj]
      by_cases c : s.h = x.base
      · rw [if_neg (fun e => e c)]
        exact ⟨by simp [c], Nat.le_refl _, hfr, fun _ => hSV⟩
      · rw [if_pos c]
        exact ⟨by simp [c], Nat.le_refl _, hfr, fun e => by cases e⟩
theorem sleave_ok (hbb : bar ≤ b) (hv : SV g b S Z s) (hl : s.ps.length ≤ 1000) (hll : ∃ k, lastLoopJ s.ps s.ps.length = some k) : ∃ r g', call tb prim n_engramref9_state_leave [.ptr S 0] bar g = some (r, g') ∧ SR g b S Z (jturn 126 s) r g' := by
  suffices hw : ∃ r g', callF (call tb prim) f_engramref9_state_leave [.ptr S 0] bar g = some (r, g') ∧ SR g b S Z (jturn 126 s) r g' by
    obtain ⟨r, h', h1, h2⟩ := hw; exact ⟨r, h', call_of tb_engramref9_state_leave h1, h2⟩
  refine callF_K rfl rfl fun K hK => ?_
  obtain ⟨pa, hv⟩ := hv
  obtain ⟨k, hll⟩ := hll
  obtain ⟨hk, _⟩ := lastLoopJ_some _ _ _ hll
  have hw : IntKind.i64.wrap ((s.ps.length : Int) - 1) = (s.ps.length : Int) - 1 := w64 (by omega) (by omega)
  simp [f_engramref9_state_leave, env0, go_sem, hv.cell, isNil, hv.os.len, hw]
  refine sleave_loop hbb hv hl (fun p _ => ?_) k _ (fun e r g' q1 q2 => ?_) hll s.ps.length (Nat.le_refl _) hll
  · cases h : p.loop with
    | true => exact .inl rfl
    | false => right; unfold rsg; rw [h]; simp only [Bool.false_eq_true, if_false]; split <;> omega
  · simp [go_sem, endP, endI, resultsA, resultA, freezeL, freezeV, AV.free.freeL, AV.free, packA, dropS, q1]
    exact ⟨_, _, ⟨rfl, rfl⟩, hK _ _ q2⟩
/-- What a token must come to. -/
def SRi (g : H) (b S : Nat) (Z : Nat → Prop) (x : Int × Js) (r : AV) (g' : H) : Prop := r = .int .i64 x.1 ∧ g.n ≤ g'.n ∧ (∀ j, j < b ∨ Z j → g'.get j = g.get j) ∧ (x.1 = 0 → SV g' b S Z x.2)
set_option maxHeartbeats 2000000 in
theorem stoken_ok (fs : List Fn) (t : Tok) {fa : AV} {p m : Int} (h0 : H) (hfv : FV h0 fa fs) (h0n : h0.n ≤ b) (hag : Ag h0.n h0 g) (hbb : bar ≤ b) (hb : b ≤ g.n) (hv : SV g b S Z s) (hok : JOk s) (hl : s.ps.length ≤ 800) (hjb : s.h ≠ -1 → jbase s.ps ≤ s.h) (hpre : jpre t.sign s.ps) :
    ∃ r g', call tb prim n_engramref9_state_token [.ptr S 0, .agg [.int .i64 p, .int .i64 m, fa], .agg t.cells] bar g = some (r, g') ∧ SRi g b S Z (jtok fs t s) r g' := by
  suffices hw : ∃ r g', callF (call tb prim) f_engramref9_state_token [.ptr S 0, .agg [.int .i64 p, .int .i64 m, fa], .agg t.cells] bar g = some (r, g') ∧ SRi g b S Z (jtok fs t s) r g' by
    obtain ⟨r, h', h1, h2⟩ := hw; exact ⟨r, h', call_of tb_engramref9_state_token h1, h2⟩
  refine callF_K rfl rfl fun K hK => ?_
  obtain ⟨pa, hv⟩ := hv
  have hSn := hv.Sn
  have hbS : bar ≤ S := by have := hv.bS; omega
  have n1 : S ≠ g.n := by omega
  have n2 : S ≠ g.n + 1 := by omega
  have hfone := Vw.one hfv
  have htc : t.cells = [.int .i32 t.sign, .int .i64 t.n, .int .i32 t.name] := rfl
  have hv1 : SVp ((g.alloc (.cells [.int .i64 p, .int .i64 m, fa] 0)).alloc (.cells t.cells 0)) b S Z s pa := hv.mono (by simp only [n_alloc]; omega) (fun j hj => by rw [get_alloc, n_alloc, if_neg (by omega), get_alloc, if_neg (by omega)])
  have hfr0 : ∀ j, j < b ∨ Z j → ((g.alloc (.cells [.int .i64 p, .int .i64 m, fa] 0)).alloc (.cells t.cells 0)).get j = g.get j := fun j hj => by
    have hjn : j < g.n := by
      rcases hj with hj | hj
      · omega
      · exact (hv.zz j hj).1
    rw [get_alloc, n_alloc, if_neg (by omega), get_alloc, if_neg (by omega)]
  have hg1u : ((g.alloc (.cells [.int .i64 p, .int .i64 m, fa] 0)).alloc (.cells t.cells 0)).get g.n = some (.cells [.int .i64 p, .int .i64 m, fa] 0) := by rw [get_alloc, n_alloc, if_neg (by omega), get_alloc, if_pos rfl]
  have hg1t : ((g.alloc (.cells [.int .i64 p, .int .i64 m, fa] 0)).alloc (.cells t.cells 0)).get (g.n + 1) = some (.cells t.cells 0) := by rw [get_alloc, n_alloc, if_pos rfl]
  have hg1n : ((g.alloc (.cells [.int .i64 p, .int .i64 m, fa] 0)).alloc (.cells t.cells 0)).n = g.n + 2 := by simp [n_alloc]
  have hfv2 : FV ((g.alloc (.cells [.int .i64 p, .int .i64 m, fa] 0)).alloc (.cells t.cells 0)) fa fs := hfv.mono ⟨by have := hag.1; omega, fun j hj => by rw [hfr0 j (.inl (by omega)), hag.2 j hj]⟩ (Nat.le_refl _)
  have htk : call tb prim n_engramref9_Takes [.agg [.int .i64 p, .int .i64 m, fa], .agg t.cells] bar ((g.alloc (.cells [.int .i64 p, .int .i64 m, fa] 0)).alloc (.cells t.cells 0)) = _ := engramref9_Takes_ok fs fa t.sign t.n t.name p m hfv2
  have hbase : call tb prim n_engramref9_state_base [.ptr S 0] bar ((g.alloc (.cells [.int .i64 p, .int .i64 m, fa] 0)).alloc (.cells t.cells 0)) = some (.int .i64 (jbase s.ps), _) := sbase_ok hv1 (by omega)
  obtain ⟨b1, b2⟩ := jbase_rng hok
  obtain ⟨b3, b4, b5, b6⟩ := takes_rng fs t.sign t.name
  have hok0 := hok
  obtain ⟨b7, b8, _, _⟩ := hok
  simp only [htc] at hg1t htk hv1 hfr0 hg1u hg1n hbase ⊢
  have hcell1 := hv1.cell
  -- what a turn comes to from a height
  have hE : isEnd t.sign = (decide (t.sign = 58) || (decide (t.sign = 59) || decide (t.sign = 93))) := by simp [isEnd]
  generalize hg1 : (g.alloc (.cells [.int .i64 p, .int .i64 m, fa] 0)).alloc (.cells [.int .i32 t.sign, .int .i64 t.n, .int .i32 t.name] 0) = g1 at *
  generalize htv : takesN fs t.sign t.name = tv at *
  have hKc : ∀ x, x ≠ 0 → (jtok fs t s).1 = x → ∀ g', g.n ≤ g'.n → (∀ j, j < b ∨ Z j → g'.get j = g.get j) → K (.int .i64 x) g' := fun x hx0 hx g' q1 q2 => by
    refine hK _ _ ⟨by rw [hx], q1, q2, fun e => absurd (hx.symm.trans e) hx0⟩
  by_cases hEn : isEnd t.sign = true
  · -- an end
    have hE' : t.sign = 58 ∨ t.sign = 59 ∨ t.sign = 93 := by simpa [isEnd] using hEn
    have htv0 : tv = (0, 0, true) := by rw [← htv]; exact takes_end fs t.name hEn
    have hgo : jtok fs t s = jturn t.sign s := by
      unfold jtok; rw [htv, htv0, if_neg (by simp [hEn])]
      simp only [Bool.true_eq_false, if_false]
      by_cases a : s.h = -1
      · rw [if_pos a]
      · rw [if_neg a, if_neg (by have := hjb a; omega)]; simp
    rw [hgo] at hK hKc
    rw [htv0] at htk
    obtain ⟨r, g2, c1, c2, c3, c4, c5⟩ := sends_ok (b := b) (bar := bar) (g := g1) (S := S) (Z := Z) (s := s) t.sign hEn hbb (by omega) ⟨pa, hv1⟩ hok0 hpre
    subst c2
    have hn2 : g.n ≤ g2.n := by omega
    have hf2 : ∀ j, j < b ∨ Z j → g2.get j = g.get j := fun j hj => by rw [c4 j hj, hfr0 j hj]
    by_cases c0 : (jturn t.sign s).1 = 0
    · have hfin := hK (.int .i64 0) g2 ⟨by rw [c0], hn2, hf2, c5⟩
      rcases hE' with hE' | hE' | hE'
      all_goals
        simp only [hE'] at *
        by_cases dd : s.h < 0 <;> simp [f_engramref9_state_token, env0, go_sem, get_alloc, n_alloc, get_set, n_set, get_kill, n_kill, writeAt, a11, a21, a31, a41, a51, a61, a71, endP, endI, resultsA, resultA, freezeL, freezeV, AV.free.freeL, AV.free, packA, dropS, hfone, hg1, hg1t, hg1u, hcell1, isNil, htk, c1, dd, c0]
        all_goals exact ⟨_, _, ⟨rfl, rfl⟩, hfin⟩
    · have h14 : (jturn t.sign s).1 = 14 := by
        have : ∀ sg j, (jturn sg j).1 = 0 ∨ (jturn sg j).1 = 14 := fun sg j => by
          unfold jturn
          repeat' split
          all_goals simp
        rcases this t.sign s with h | h
        · exact absurd h c0
        · exact h
      have hfin := hKc 14 (by omega) h14 g2 hn2 hf2
      have c0' : decide ((jturn t.sign s).1 = 0) = false := by simpa using c0
      rw [c0'] at c1
      rcases hE' with hE' | hE' | hE'
      all_goals
        simp only [hE'] at *
        by_cases dd : s.h < 0 <;> simp [f_engramref9_state_token, env0, go_sem, get_alloc, n_alloc, get_set, n_set, get_kill, n_kill, writeAt, a11, a21, a31, a41, a51, a61, a71, endP, endI, resultsA, resultA, freezeL, freezeV, AV.free.freeL, AV.free, packA, dropS, hfone, hg1, hg1t, hg1u, hcell1, isNil, htk, c1, dd]
        all_goals exact ⟨_, _, ⟨rfl, rfl⟩, hfin⟩
  · have hE0 : isEnd t.sign = false := by simpa using hEn
    have hE' : ¬ (t.sign = 58 ∨ t.sign = 59 ∨ t.sign = 93) := by simpa [isEnd] using hEn
    have f1 : (t.sign == 58) = false := by simp; omega
    have f2 : (t.sign == 59) = false := by simp; omega
    have f3 : (t.sign == 93) = false := by simp; omega
    by_cases a : s.h = -1
    · have hj : (jtok fs t s).1 = 15 := by unfold jtok; rw [if_pos ⟨a, hE0⟩]
      have d1 : s.h < 0 := by omega
      simp [f_engramref9_state_token, env0, go_sem, get_alloc, n_alloc, get_set, n_set, get_kill, n_kill, writeAt, a11, a21, a31, a41, a51, a61, a71, endP, endI, resultsA, resultA, freezeL, freezeV, AV.free.freeL, AV.free, packA, dropS, hfone, hg1, hg1t, hg1u, hcell1, isNil, f1, f2, f3, d1]
      exact ⟨_, _, ⟨rfl, rfl⟩, hKc 15 (by omega) hj _ (by omega) hfr0⟩
    · have d1 : ¬ s.h < 0 := by omega
      cases htv2 : tv.2.2 with
      | false =>
        rw [htv2] at htk
        have hj : (jtok fs t s).1 = 22 := by unfold jtok; rw [htv, if_neg (fun e => a e.1), if_pos htv2]
        simp [f_engramref9_state_token, env0, go_sem, get_alloc, n_alloc, get_set, n_set, get_kill, n_kill, writeAt, a11, a21, a31, a41, a51, a61, a71, endP, endI, resultsA, resultA, freezeL, freezeV, AV.free.freeL, AV.free, packA, dropS, hfone, hg1, hg1t, hg1u, hcell1, isNil, f1, f2, f3, d1, htk]
        exact ⟨_, _, ⟨rfl, rfl⟩, hKc 22 (by omega) hj _ (by omega) hfr0⟩
      | true =>
        rw [htv2] at htk
        have w1 : IntKind.i64.wrap (s.h - jbase s.ps) = s.h - jbase s.ps := w64 (by omega) (by omega)
        have w2 : IntKind.i64.wrap (s.h - tv.1) = s.h - tv.1 := w64 (by omega) (by omega)
        have w3 : IntKind.i64.wrap (s.h - tv.1 + tv.2.1) = s.h - tv.1 + tv.2.1 := w64 (by omega) (by omega)
        by_cases q1 : s.h - jbase s.ps < tv.1
        · have hj : (jtok fs t s).1 = 14 := by unfold jtok; rw [htv, if_neg (fun e => a e.1), if_neg (by simp [htv2]), if_neg a, if_pos (.inl q1)]
          simp [f_engramref9_state_token, env0, go_sem, get_alloc, n_alloc, get_set, n_set, get_kill, n_kill, writeAt, a11, a21, a31, a41, a51, a61, a71, endP, endI, resultsA, resultA, freezeL, freezeV, AV.free.freeL, AV.free, packA, dropS, hfone, hg1, hg1t, hg1u, hcell1, isNil, f1, f2, f3, d1, htk, hbase, w1, q1]
          exact ⟨_, _, ⟨rfl, rfl⟩, hKc 14 (by omega) hj _ (by omega) hfr0⟩
        · by_cases q2 : 64 < s.h - tv.1 + tv.2.1
          · have hj : (jtok fs t s).1 = 14 := by unfold jtok; rw [htv, if_neg (fun e => a e.1), if_neg (by simp [htv2]), if_neg a, if_pos (.inr q2)]
            simp [f_engramref9_state_token, env0, go_sem, get_alloc, n_alloc, get_set, n_set, get_kill, n_kill, writeAt, a11, a21, a31, a41, a51, a61, a71, endP, endI, resultsA, resultA, freezeL, freezeV, AV.free.freeL, AV.free, packA, dropS, hfone, hg1, hg1t, hg1u, hcell1, isNil, f1, f2, f3, d1, htk, hbase, w1, q1, w2, w3, q2]
            exact ⟨_, _, ⟨rfl, rfl⟩, hKc 14 (by omega) hj _ (by omega) hfr0⟩
          · have hx : s.h + (tv.2.1 - tv.1) = s.h - tv.1 + tv.2.1 := by omega
            have hgo : jtok fs t s = jturn t.sign ⟨s.h - tv.1 + tv.2.1, s.ps⟩ := by
              unfold jtok; rw [htv, if_neg (fun e => a e.1), if_neg (by simp [htv2]), if_neg a, if_neg (by omega), hx]
            rw [hgo] at hK hKc
            have hv2 := hv1.seth (s.h - tv.1 + tv.2.1)
            have hfr1 : ∀ j, j < b ∨ Z j → (g1.set S (.cells [.int .i64 (s.h - tv.1 + tv.2.1), pa] 0)).get j = g.get j := fun j hj => by
              rw [get_set_ne ?_, hfr0 j hj]
              rcases hj with hj | hj
              · have := hv.bS; omega
              · exact (hv.zz j hj).2.1
            have n3 : g.n + 1 ≠ S := by omega
            generalize hnh : s.h - tv.1 + tv.2.1 = nh at *
            have hg2t : (g1.set S (.cells [.int .i64 nh, pa] 0)).get (g.n + 1) = g1.get (g.n + 1) := get_set_ne n3
            have hcell2 := hv2.cell
            have hg2n : (g1.set S (.cells [.int .i64 nh, pa] 0)).n = g.n + 2 := by simp only [n_set]; omega
            generalize hg2 : g1.set S (.cells [.int .i64 nh, pa] 0) = g2 at *
            rw [hg1t] at hg2t
            simp only at hcell2
            by_cases s1 : t.sign = 63 ∨ t.sign = 91
            · have hj : jturn t.sign ⟨nh, s.ps⟩ = (0, ⟨nh, s.ps ++ [⟨t.sign == 91, false, false, nh, 0⟩]⟩) := by simp only [jturn]; rw [if_pos s1]
              rw [hj] at hK
              obtain ⟨a', g', e1, e2, e3, e4, e5⟩ := hv2.os.app' (by omega) hbb 32 (Jp.rc ⟨t.sign == 91, false, false, nh, 0⟩) rfl (Jp.rc_one _) (by omega) (by first | omega | (simp only; omega)) (by first | omega | (simp only; omega))
              have hrsg : rsg ⟨t.sign == 91, false, false, nh, 0⟩ = t.sign := by
                rcases s1 with h | h <;> simp [rsg, h]
              simp only [Jp.rc, hrsg, hg2n] at e1 e3 e4 e5
              have hgS : g'.get S = some (.cells [.int .i64 nh, pa] 0) := by rw [e4 S (by omega) hv.pS]; exact hcell2
              have m1 : S ≠ g.n + 2 := by omega
              have m2 : g.n + 1 ≠ g.n + 2 := by omega
              have haS : ¬ a'.isAt S := fun q => by have := e5 _ q; omega
              have hfin := hK (.int .i64 0) (g'.set S (.cells [.int .i64 nh, a'] 0)) ⟨rfl, by simp only [n_set]; omega, fun j hj => by
                have hjn : j < g.n ∧ j ≠ S ∧ ¬ pa.isAt j := by
                  rcases hj with hj | hj
                  · exact ⟨by omega, by have := hv.bS; omega, fun q => by have := hv.os.at_lt q; omega⟩
                  · exact hv.zz j hj
                rw [get_set_ne hjn.2.1, e4 j (by omega) hjn.2.2, hfr1 j hj], fun _ => ⟨a', {
                  cell := by rw [get_set, if_pos rfl]
                  bS := hv.bS
                  Sn := by simp only [n_set]; omega
                  os := by have := e2.set (.cells [.int .i64 nh, a'] 0) haS; simpa [Jp.rc] using this
                  pS := haS
                  zz := fun j hj => ⟨by have := (hv.zz j hj).1; simp only [n_set]; omega, (hv.zz j hj).2.1, fun q => by have := e5 _ q; have := (hv.zz j hj).1; omega⟩ }⟩⟩
              rcases s1 with s1 | s1
              all_goals
                simp only [s1] at *
                simp [f_engramref9_state_token, env0, go_sem, get_alloc, n_alloc, get_set, n_set, get_kill, n_kill, writeAt, a11, a21, a31, a41, a51, a61, a71, endP, endI, resultsA, resultA, freezeL, freezeV, AV.free.freeL, AV.free, packA, dropS, hfone, hg1, hg1t, hg1u, hcell1, isNil, d1, htk, hbase, w1, q1, w2, w3, hnh, q2, hbS, sp20, hg2, hg2t]
                refine ⟨?_, ?_⟩
                · refine sees_of rfl ?_
                  simp [R_nil, R_cons, RS_some, sameV_some, seesQ_some, List.take, List.take_succ_cons, List.take_zero, go_sem, get_alloc, n_alloc, get_set, n_set, get_kill, n_kill, writeAt, a11, a21, a31, a41, a51, a61, a71, hcell2, hg2t, isNil, evParts, fillA, splice, hg2n, m1, m2]
                · simp [go_sem, get_alloc, n_alloc, get_set, n_set, get_kill, n_kill, writeAt, a11, a21, a31, a41, a51, a61, a71, endP, endI, resultsA, resultA, freezeL, freezeV, AV.free.freeL, AV.free, packA, dropS, hcell2, hg2t, isNil, evParts, fillA, splice, hg2n, m1, m2, e1, hgS, hbS, e2.one]
                  exact ⟨_, _, ⟨rfl, rfl⟩, hfin⟩
            · have g1' : (t.sign == 63) = false := by simp; omega
              have g2' : (t.sign == 91) = false := by simp; omega
              by_cases s2 : t.sign = 126
              · obtain ⟨r, g3, c1, c2, c3, c4, c5⟩ := sleave_ok (b := b) (bar := bar) (g := g2) (S := S) (Z := Z) (s := ⟨nh, s.ps⟩) hbb ⟨pa, hv2⟩ (by simp only; omega) (hpre.2.2.2 s2)
                have hn3 : g.n ≤ g3.n := by omega
                have hf3 : ∀ j, j < b ∨ Z j → g3.get j = g.get j := fun j hj => by rw [c4 j hj, hfr1 j hj]
                subst c2
                simp only [s2] at *
                by_cases c0 : (jturn 126 ⟨nh, s.ps⟩).1 = 0
                · have hfin := hK (.int .i64 0) g3 ⟨by rw [c0], hn3, hf3, c5⟩
                  simp [f_engramref9_state_token, env0, go_sem, get_alloc, n_alloc, get_set, n_set, get_kill, n_kill, writeAt, a11, a21, a31, a41, a51, a61, a71, endP, endI, resultsA, resultA, freezeL, freezeV, AV.free.freeL, AV.free, packA, dropS, hfone, hg1, hg1t, hg1u, hcell1, isNil, d1, htk, hbase, w1, q1, w2, w3, hnh, q2, hbS, sp20, hg2, hg2t, c1, c0]
                  exact ⟨_, _, ⟨rfl, rfl⟩, hfin⟩
                · have h14 : (jturn 126 ⟨nh, s.ps⟩).1 = 14 := by
                    have : ∀ sg j, (jturn sg j).1 = 0 ∨ (jturn sg j).1 = 14 := fun sg j => by
                      unfold jturn
                      repeat' split
                      all_goals simp
                    rcases this 126 ⟨nh, s.ps⟩ with h | h
                    · exact absurd h c0
                    · exact h
                  have hfin := hKc 14 (by omega) h14 g3 hn3 hf3
                  have c0' : decide ((jturn 126 ⟨nh, s.ps⟩).1 = 0) = false := by simpa using c0
                  rw [c0'] at c1
                  simp [f_engramref9_state_token, env0, go_sem, get_alloc, n_alloc, get_set, n_set, get_kill, n_kill, writeAt, a11, a21, a31, a41, a51, a61, a71, endP, endI, resultsA, resultA, freezeL, freezeV, AV.free.freeL, AV.free, packA, dropS, hfone, hg1, hg1t, hg1u, hcell1, isNil, d1, htk, hbase, w1, q1, w2, w3, hnh, q2, hbS, sp20, hg2, hg2t, c1]
                  exact ⟨_, _, ⟨rfl, rfl⟩, hfin⟩
              · have g3' : (t.sign == 126) = false := by simpa using s2
                by_cases s3 : t.sign = 161
                · have hj : jturn t.sign ⟨nh, s.ps⟩ = (0, ⟨-1, s.ps⟩) := by rw [s3]; simp [jturn]
                  rw [hj] at hK
                  have hv3 := hv2.seth (-1)
                  have hfin := hK (.int .i64 0) (g2.set S (.cells [.int .i64 (-1), pa] 0)) ⟨rfl, by simp only [n_set]; omega, fun j hj => by
                    rw [get_set_ne ?_, hfr1 j hj]
                    rcases hj with hj | hj
                    · have := hv.bS; omega
                    · exact (hv.zz j hj).2.1, fun _ => ⟨pa, hv3⟩⟩
                  simp only [s3] at *
                  simp [f_engramref9_state_token, env0, go_sem, get_alloc, n_alloc, get_set, n_set, get_kill, n_kill, writeAt, a11, a21, a31, a41, a51, a61, a71, endP, endI, resultsA, resultA, freezeL, freezeV, AV.free.freeL, AV.free, packA, dropS, hfone, hg1, hg1t, hg1u, hcell1, hcell2, isNil, d1, htk, hbase, w1, q1, w2, w3, hnh, q2, hbS, sp20, hg2, hg2t]
                  exact ⟨_, _, ⟨rfl, rfl⟩, hfin⟩
                · have g4' : (t.sign == 161) = false := by simpa using s3
                  have hj : jturn t.sign ⟨nh, s.ps⟩ = (0, ⟨nh, s.ps⟩) := by unfold jturn; rw [if_neg s1, if_neg (by omega), if_neg (by omega), if_neg (by omega), if_neg s2, if_neg s3]
                  rw [hj] at hK
                  have hfin := hK (.int .i64 0) g2 ⟨rfl, by omega, hfr1, fun _ => ⟨pa, hv2⟩⟩
                  simp [f_engramref9_state_token, env0, go_sem, get_alloc, n_alloc, get_set, n_set, get_kill, n_kill, writeAt, a11, a21, a31, a41, a51, a61, a71, endP, endI, resultsA, resultA, freezeL, freezeV, AV.free.freeL, AV.free, packA, dropS, hfone, hg1, hg1t, hg1u, hcell1, isNil, f1, f2, f3, d1, htk, hbase, w1, q1, w2, w3, hnh, q2, hbS, sp20, hg2, hg2t, g1', g2', g3', g4']
                  exact ⟨_, _, ⟨rfl, rfl⟩, hfin⟩
end
end Go.Ev
namespace Go.Ev
open Go
section
variable {bar b : Nat} {h : H} {S U : Nat} {p m : Int} {fa : AV}
theorem SVp.reZ {g : H} {Z Z' : Nat → Prop} {s : Js} {pa : AV} (hv : SVp g b S Z s pa) (hz : ∀ j, Z' j → j < g.n ∧ j ≠ S ∧ ¬ pa.isAt j) : SVp g b S Z' s pa := { cell := hv.cell, bS := hv.bS, Sn := hv.Sn, os := hv.os, pS := hv.pS, zz := hz }
set_option maxHeartbeats 1000000 in
theorem ref_func_loop (fs : List Fn) (l : List Tok) (la : AV) (hla : FzV 3 la l.length (l.flatMap Tok.cells)) (hlen : l.length ≤ 2000) (h0 : H) (hfv : FV h0 fa fs) (h0n : h0.n ≤ b) (hbb : bar ≤ b) (hU : U < b) (Q : Ex → Env → H → Prop) : ∀ (k i : Nat) (g : H) (s : Js) (oa : AV) (out : List Int), l.length = i + k → b ≤ g.n → Ag h0.n h0 g → g.get U = some (.cells [.int .i64 p, .int .i64 m, fa] 0) → SV g b S oa.isAt s → OS 1 g b oa out.length (out.flatMap i64c) → JGood fs (l.drop i) s → out.length ≤ i →
    (∀ e g' x, e.get 4 = some .nilsl → e.get 5 = some (.int .i64 x) → x ≠ 0 → (jloop fs (l.drop i) s out).1 = x → Q .ret e g') →
    (∀ e g' s' oa' out' , e.get 11 = some (.ptr S 0) → e.get 12 = some oa' → jloop fs (l.drop i) s out = (0, s', out') → SV g' b S oa'.isAt s' → OS 1 g' b oa' out'.length (out'.flatMap i64c) → out'.length ≤ 2000 → -1 ≤ s'.h → Q (.exit 0) e g') →
    wpL (call tb prim) bar [2, 11, 12, 49, 50, 51] l0_engramref9_Func [(2, .ptr U 0), (11, .ptr S 0), (12, oa), (49, la), (50, goI l.length), (51, goI i)] g Q := by
  intro k
  induction k with
  | zero =>
    intro i g s oa out hk hb hag hgU hv hos hg ho h1 h2
    refine M_loop l0_engramref9_Func.eq_1 ?_
    rw [List.drop_eq_nil_of_le (by omega)] at hg
    simp [go_sem, hk]
    exact h2 _ _ s oa out rfl rfl (by rw [List.drop_eq_nil_of_le (by omega)]; rfl) hv hos (by omega) hg.1
  | succ k ih =>
    intro i g s oa out hk hb hag hgU hv hos hg ho h1 h2
    refine M_loop l0_engramref9_Func.eq_1 ?_
    have hi : i < l.length := by omega
    have hbi : (i : Int) < (l.length : Int) := by omega
    have hw := w64_succ (n := i) (by omega)
    rcases tok_cases hla with ⟨rfl, rfl⟩ | ⟨full, cs, rfl, hl, hx, hy⟩
    · cases hi
    have hyi := hy i hi
    have hd : l.drop i = l[i] :: l.drop (i + 1) := List.drop_eq_getElem_cons hi
    rw [hd] at hg h1 h2
    generalize hti : l[i] = t at *
    obtain ⟨hok, hpl, hjb, hpre, hnext⟩ := hg
    have hbn : bar ≤ g.n := by omega
    obtain ⟨pa, hv⟩ := hv
    have hSn := hv.Sn
    have hbS := hv.bS
    -- the token's copy
    have hA1 : ∀ j, j < g.n → ((g.alloc (.cells [.int .i32 0, .int .i64 0, .int .i32 0] 0)).set g.n (.cells t.cells 0)).get j = g.get j := fun j hj => by rw [get_set_ne (by omega), get_alloc, if_neg (by omega)]
    have hos1 : OS 1 ((g.alloc (.cells [.int .i32 0, .int .i64 0, .int .i32 0] 0)).set g.n (.cells t.cells 0)) b oa out.length (out.flatMap i64c) := hos.mono (by simp [n_set, n_alloc]) (fun j hj => hA1 j (hos.at_lt hj).2)
    obtain ⟨a', g', e1, e2, e3, e4, e5⟩ := hos1.app' (by simp only [n_set, n_alloc]; omega) hbb 8 (i64c s.h) rfl rfl (by omega) (by omega) (by omega)
    simp only [n_set, n_alloc] at e1 e3 e4 e5
    simp only [i64c] at e1
    have hB : ∀ j, j < g.n → ¬ oa.isAt j → g'.get j = g.get j := fun j hj q => by rw [e4 j (by omega) q, hA1 j hj]
    have hpaO : ∀ j, pa.isAt j → ¬ oa.isAt j := fun j q1 q2 => (hv.zz j q2).2.2 q1
    have hSO : ¬ oa.isAt S := fun q => (hv.zz S q).2.1 rfl
    have hgS : g'.get S = some (.cells [.int .i64 s.h, pa] 0) := by rw [hB S hSn hSO]; exact hv.cell
    have hgU' : g'.get U = some (.cells [.int .i64 p, .int .i64 m, fa] 0) := by rw [hB U (by omega) (fun q => by have := hos.at_lt q; omega)]; exact hgU
    have hgt : g'.get g.n = some (.cells t.cells 0) := by rw [e4 g.n (by omega) (fun q => by have := hos.at_lt q; omega), get_set, if_pos rfl]
    have hv1 : SVp g' b S a'.isAt s pa := {
      cell := hgS
      bS := hv.bS
      Sn := by omega
      os := hv.os.mono (by omega) (fun j q => hB j (hv.os.at_lt q).2 (hpaO j q))
      pS := hv.pS
      zz := fun j q => by
        have q1 := e5 j q
        have q2 := e2.at_lt q
        exact ⟨q2.2, by omega, fun q3 => by have := hv.os.at_lt q3; omega⟩ }
    have hag1 : Ag h0.n h0 g' := ⟨by have := hag.1; omega, fun j hj => by rw [hB j (by omega) (fun q => by have := hos.at_lt q; omega), hag.2 j hj]⟩
    obtain ⟨r, g2, c1, c2, c3, c4, c5⟩ := stoken_ok (bar := bar) (p := p) (m := m) fs t h0 hfv h0n hag1 hbb (by omega) ⟨pa, hv1⟩ hok hpl hjb hpre
    have hos2 : OS 1 g2 b a' (out ++ [s.h]).length ((out ++ [s.h]).flatMap i64c) := by
      have := e2.mono c3 (fun j q => c4 j (.inr q))
      simpa [i64c] using this
    have hjl : jloop fs (t :: l.drop (i + 1)) s out = if (jtok fs t s).1 = 0 then jloop fs (l.drop (i + 1)) (jtok fs t s).2 (out ++ [s.h]) else ((jtok fs t s).1, s, out) := rfl
    rw [hjl] at h1 h2
    subst c2
    have n1 : S ≠ g.n := by omega
    have n2 : S ≠ g.n + 1 := by omega
    simp only [Tok.cells] at c1 e1 hgt
    by_cases c0 : (jtok fs t s).1 = 0
    · rw [if_pos c0] at h1 h2
      have c0' : ((jtok fs t s).1 != 0) = false := ne_b' c0
      simp [go_sem, get_alloc, n_alloc, get_set, n_set, get_kill, n_kill, writeAt, a11, a21, a31, a41, a51, a61, a71, hi, hbi, indexIn, hl, hyi, Tok.cells, splice, hbn, isNil, hv.cell, n1, n2, evParts, fillA, e1, hgU', hgt, c1, c0', hw]
      exact ih (i + 1) g2 _ a' _ (by omega) (by omega) ⟨by have := hag1.1; omega, fun j hj => by rw [c4 j (.inl (by omega)), hag1.2 j hj]⟩ (by rw [c4 U (.inl hU)]; exact hgU') (c5 c0) hos2 (hnext c0) (by simp; omega) h1 h2
    · rw [if_neg c0] at h1 h2
      have c0' : ((jtok fs t s).1 != 0) = true := ne_b c0
      simp [go_sem, get_alloc, n_alloc, get_set, n_set, get_kill, n_kill, writeAt, a11, a21, a31, a41, a51, a61, a71, hi, hbi, indexIn, hl, hyi, Tok.cells, splice, hbn, isNil, hv.cell, n1, n2, evParts, fillA, e1, hgU', hgt, c1, c0']
      exact h1 _ _ _ rfl rfl c0 rfl
theorem ref_Func_ok (nst : List Tok → Bool) (fs : List Fn) (k : Int) (hv : FV h fa fs) (hnst : ∀ l, nst l = (nestR l).isSome) (hgd : ∀ l, nst l = true → JGood fs l ⟨0, []⟩) : ∃ a, call tb prim n_engramref9_Func [.agg [.int .i64 p, .int .i64 m, fa], .int .i64 k] bar h = some (.tup [a, .int .i64 (funN nst fs k).2], h) ∧ FzV 1 a (funN nst fs k).1.length ((funN nst fs k).1.flatMap i64c) := by
  suffices hw : ∃ r, callF (call tb prim) f_engramref9_Func [.agg [.int .i64 p, .int .i64 m, fa], .int .i64 k] bar h = some (r, h) ∧ ∃ a, r = .tup [a, .int .i64 (funN nst fs k).2] ∧ FzV 1 a (funN nst fs k).1.length ((funN nst fs k).1.flatMap i64c) by
    obtain ⟨r, h1, a, rfl, h2⟩ := hw; exact ⟨a, call_of tb_engramref9_Func h1, h2⟩
  refine callF_pureK rfl rfl fun K hK => ?_
  have hnil : ∀ x, funN nst fs k = ([], x) → K (.tup [.nilsl, .int .i64 x]) := fun x hx => by
    refine hK _ ⟨.nilsl, by rw [hx], ?_⟩
    rw [hx]; exact ⟨rfl, by simp, .inl ⟨rfl, rfl⟩⟩
  have hlen := hv.len
  by_cases c1 : k < 0
  · have := hnil 23 (by unfold funN; rw [if_pos (.inl c1)])
    simp [f_engramref9_Func, env0, go_sem, get_alloc, n_alloc, get_set, n_set, get_kill, n_kill, writeAt, a11, a21, a31, a41, a51, a61, a71, endX, resultsA, resultA, freezeL, AV.free.freeL, packA, Vw.one hv, c1, freezeV, AV.free]
    exact this
  by_cases c2 : (fs.length : Int) ≤ k
  · have := hnil 23 (by unfold funN; rw [if_pos (.inr c2)])
    simp [f_engramref9_Func, env0, go_sem, get_alloc, n_alloc, get_set, n_set, get_kill, n_kill, writeAt, a11, a21, a31, a41, a51, a61, a71, endX, resultsA, resultA, freezeL, AV.free.freeL, packA, Vw.one hv, c1, hlen, c2, freezeV, AV.free]
    exact this
  obtain ⟨i, hik⟩ : ∃ i : Nat, k = i := ⟨k.toNat, by omega⟩
  subst hik
  have hi : i < fs.length := by omega
  have hbi : (i : Int) < (fs.length : Int) := by omega
  have hf : funN nst fs (i : Int) = if (toksN fs[i].code).2 ≠ 0 then ([], (toksN fs[i].code).2) else funT fs (toksN fs[i].code).1 (nst (toksN fs[i].code).1) := by
    unfold funN; rw [if_neg (by omega)]; simp [hi]
  rw [hf] at hK hnil
  have hone := Vw.one hv
  have hag : ∀ o, Ag h.n h (h.alloc o) := fun o => Ag.alloc _ (Nat.le_refl _)
  obtain ⟨la, ht, hla, hll⟩ := engramref9_Tokens_ok (pr := prim) (bar := h.n) (h := h.alloc (.cells [.int .i64 p, .int .i64 m, fa] 0)) fs[i].code
  have hpos : ¬ ((i : Int) < 0) := by omega
  have c2' : ¬ ((fs.length : Int) ≤ (i : Int)) := c2
  have c2n : ¬ fs.length ≤ i := by omega
  simp [f_engramref9_Func, env0, go_sem, get_alloc, n_alloc, get_set, n_set, get_kill, n_kill, writeAt, a11, a21, a31, a41, a51, a61, a71, hone, hpos, hlen, c2', c2n]
  refine S_field (f := 2) hv (hag _) hi rfl (fun v1 v2 => ?_)
  by_cases d1 : (toksN fs[i].code).2 = 0
  · have d1' : ((toksN fs[i].code).2 != 0) = false := ne_b' d1
    rw [if_neg (by simp [d1])] at hK hnil
    simp [go_sem, get_alloc, n_alloc, get_set, n_set, get_kill, n_kill, writeAt, a11, a21, a31, a41, a51, a61, a71, ht, d1']
    have hof := engramref9_Nest_ok (pr := prim) (bar := h.n) (h := h.alloc (.cells [.int .i64 p, .int .i64 m, fa] 0)) (toksN fs[i].code).1 la hla (by omega)
    have hlla := (hla.vw h).len
    generalize (toksN fs[i].code).1 = ts at *
    have hns := hnst ts
    cases hne : nestR ts with
    | none =>
      rw [hne] at hof hns
      rw [hns] at hnil
      simp [go_sem, get_alloc, n_alloc, get_set, n_set, get_kill, n_kill, writeAt, a11, a21, a31, a41, a51, a61, a71, endX, resultsA, resultA, freezeL, AV.free.freeL, packA, hof, freezeV, AV.free]
      exact hnil 13 rfl
    | some to =>
      obtain ⟨to, deep⟩ := to
      rw [hne] at hof hns
      rw [hns] at hnil hK
      obtain ⟨ta, hof, _, _⟩ := hof
      have hgood := hgd ts hns
      have hag1 : Ag h.n h ((h.alloc (.cells [.int .i64 p, .int .i64 m, fa] 0)).alloc (.cells [.int .i64 0, .nilsl] 0)) := (hag _).trans (Ag.alloc _ (by simp [n_alloc]))
      have hSV : SV ((h.alloc (.cells [.int .i64 p, .int .i64 m, fa] 0)).alloc (.cells [.int .i64 0, .nilsl] 0)) (h.n + 1) (h.n + 1) AV.nilsl.isAt ⟨0, []⟩ := ⟨.nilsl, {
        cell := by simp [get_alloc, n_alloc]
        bS := Nat.le_refl _
        Sn := by simp only [n_alloc]; omega
        os := OS.nil
        pS := fun q => q
        zz := fun j q => q.elim }⟩
      simp [go_sem, get_alloc, n_alloc, get_set, n_set, get_kill, n_kill, writeAt, a11, a21, a31, a41, a51, a61, a71, hof, evParts, fillA, splice, hlla]
      refine ref_func_loop (b := h.n + 1) (S := h.n + 1) (U := h.n) (p := p) (m := m) fs ts la hla (by omega) h hv (by omega) (by omega) (by omega) _ ts.length 0 _ ⟨0, []⟩ .nilsl [] (by omega) (by simp only [n_alloc]; omega) hag1 (by simp [get_alloc, n_alloc]) hSV OS.nil (by simpa using hgood) (by simp) (fun e g' x q1 q2 q3 q4 => ?_) (fun e g' s' oa' out' q1 q2 q3 q4 q5 q6 q7 => ?_)
      · rw [List.drop_zero] at q4
        have := hnil x (by simp only [funT, Option.isSome_some, Bool.true_eq_false, if_false]; rw [q4, if_pos q3])
        simp [go_sem, endX, resultsA, resultA, freezeL, AV.free.freeL, packA, q1, q2, freezeV, AV.free]
        exact this
      · rw [List.drop_zero] at q3
        obtain ⟨pa, hv'⟩ := q4
        have q5' : OS 1 g' h.n oa' out'.length (out'.flatMap i64c) := by
          obtain ⟨z1, z2, z3 | ⟨id, rest, y1, y2, y3, y4⟩⟩ := q5
          · exact ⟨z1, z2, .inl z3⟩
          · exact ⟨z1, z2, .inr ⟨id, rest, y1, by omega, y3, y4⟩⟩
        obtain ⟨a2, f1, f2, f3⟩ := q5'.freeze (still_i64 _) (by omega) 2
        by_cases e2 : s'.h = 1
        · have e2' := ne_b' e2
          simp [go_sem, endX, resultsA, resultA, freezeL, AV.free.freeL, packA, q1, q2, isNil, hv'.cell, e2', f2, f3.free, freezeV, AV.free]
          refine hK _ ⟨a2, ?_, ?_⟩
          · simp [funT, q3, e2, packA]
          · simp [funT, q3, e2]; exact f3
        · have e2' := ne_b e2
          by_cases e1 : s'.h = -1
          · have d3 : ¬ (0 ≤ s'.h) := by omega
            simp [go_sem, endX, resultsA, resultA, freezeL, AV.free.freeL, packA, q1, q2, isNil, hv'.cell, e2', d3, f2, f3.free, freezeV, AV.free]
            refine hK _ ⟨a2, ?_, ?_⟩
            · simp [funT, q3, e1, packA]
            · simp [funT, q3, e1]; exact f3
          · have d3 : 0 ≤ s'.h := by omega
            have := hnil 14 (by simp only [funT, Option.isSome_some, Bool.true_eq_false, if_false]; rw [q3]; simp [e1, e2])
            simp [go_sem, endX, resultsA, resultA, freezeL, AV.free.freeL, packA, q1, q2, isNil, hv'.cell, e2', d3, freezeV, AV.free]
            exact this
  · have d1' : ((toksN fs[i].code).2 != 0) = true := ne_b d1
    rw [if_pos d1] at hnil
    simp [go_sem, get_alloc, n_alloc, get_set, n_set, get_kill, n_kill, writeAt, a11, a21, a31, a41, a51, a61, a71, endX, resultsA, resultA, freezeL, AV.free.freeL, packA, ht, d1', freezeV, AV.free]
    exact hnil _ rfl
end
end Go.Ev
namespace Go.Ev
open Go
/-- What stands open, for the document. -/
structure ROk (l : List Tok) (i : Nat) (r : NS) : Prop where
  lt : ∀ q ∈ r.op, q < i
  sg : ∀ q ∈ r.op, sgn l q = 63 ∨ sgn l q = 91 ∨ sgn l q = 58
  tl : r.to.length = l.length
theorem last_split {A : Type} {l : List A} {x : A} (h : l.getLast? = some x) : l = l.dropLast ++ [x] := by
  have hne : l ≠ [] := fun e => by rw [e] at h; cases h
  obtain ⟨y, hy1, hy2, _, _⟩ := drop_last_split hne
  rw [h] at hy1; injection hy1 with hy1; subst hy1
  exact hy2
theorem mem_split {A : Type} {l : List A} {x y : A} (h : l.getLast? = some x) (hy : y ∈ l) : y ∈ l.dropLast ∨ y = x := by
  rw [last_split h, List.mem_append] at hy
  rcases hy with hy | hy
  · exact .inl hy
  · simp at hy; exact .inr hy
/-- What a step does, in one place. -/
theorem rstep_cases {l : List Tok} {i : Nat} {r r1 : NS} (h : rstep l i r = some r1) :
    ((sgn l i = 63 ∨ sgn l i = 91) ∧ r.op.length + 1 ≤ 16 ∧ r1.op = r.op ++ [i] ∧ r1.to = r.to.set i (-1)) ∨
    (sgn l i = 58 ∧ ∃ p, r.op.getLast? = some p ∧ sgn l p = 63 ∧ r1.op = r.op.dropLast ++ [i] ∧ r1.to = (r.to.set i (-1)).set p ((i + 1 : Nat) : Int)) ∨
    (sgn l i = 59 ∧ ∃ p, r.op.getLast? = some p ∧ sgn l p ≠ 91 ∧ r1.op = r.op.dropLast ∧ r1.to = (r.to.set i (-1)).set p (i : Int)) ∨
    (sgn l i = 93 ∧ ∃ p, r.op.getLast? = some p ∧ sgn l p = 91 ∧ r1.op = r.op.dropLast ∧ r1.to = (r.to.set i (-1)).set i (p : Int)) ∨
    (¬ (sgn l i = 63 ∨ sgn l i = 91 ∨ sgn l i = 58 ∨ sgn l i = 59 ∨ sgn l i = 93) ∧ r1.op = r.op ∧ r1.to = r.to.set i (-1)) := by
  unfold rstep at h
  split at h
  · rename_i c
    split at h
    · cases h
    · injection h with h; subst h; exact .inl ⟨c, by omega, rfl, rfl⟩
  · rename_i c
    split at h
    · rename_i c2
      split at h
      · cases h
      · rename_i p hp
        split at h
        · rename_i c3; injection h with h; subst h; exact .inr (.inl ⟨c2, p, hp, c3, rfl, rfl⟩)
        · cases h
    · rename_i c2
      split at h
      · rename_i c3
        split at h
        · cases h
        · rename_i p hp
          split at h
          · cases h
          · rename_i c4; injection h with h; subst h; exact .inr (.inr (.inl ⟨c3, p, hp, c4, rfl, rfl⟩))
      · rename_i c3
        split at h
        · rename_i c4
          split at h
          · cases h
          · rename_i p hp
            split at h
            · rename_i c5; injection h with h; subst h; exact .inr (.inr (.inr (.inl ⟨c4, p, hp, c5, rfl, rfl⟩)))
            · cases h
        · rename_i c4
          injection h with h; subst h
          exact .inr (.inr (.inr (.inr ⟨by omega, rfl, rfl⟩)))
theorem ROk.step {l : List Tok} {i : Nat} {r r1 : NS} (hr : ROk l i r) (h : rstep l i r = some r1) : ROk l (i + 1) r1 := by
  have hlt : ∀ q ∈ r.op, q < i + 1 := fun q hq => by have := hr.lt q hq; omega
  rcases rstep_cases h with ⟨c, _, e1, e2⟩ | ⟨c, p, hp, c2, e1, e2⟩ | ⟨c, p, hp, c2, e1, e2⟩ | ⟨c, p, hp, c2, e1, e2⟩ | ⟨c, e1, e2⟩
  · refine ⟨fun q hq => ?_, fun q hq => ?_, by rw [e2, List.length_set]; exact hr.tl⟩
    · rw [e1, List.mem_append] at hq
      rcases hq with hq | hq
      · exact hlt q hq
      · simp at hq; omega
    · rw [e1, List.mem_append] at hq
      rcases hq with hq | hq
      · exact hr.sg q hq
      · simp at hq; subst hq; rcases c with c | c
        · exact .inl c
        · exact .inr (.inl c)
  · refine ⟨fun q hq => ?_, fun q hq => ?_, by rw [e2, List.length_set, List.length_set]; exact hr.tl⟩
    · rw [e1, List.mem_append] at hq
      rcases hq with hq | hq
      · exact hlt q (mem_drop hq)
      · simp at hq; omega
    · rw [e1, List.mem_append] at hq
      rcases hq with hq | hq
      · exact hr.sg q (mem_drop hq)
      · simp at hq; subst hq; exact .inr (.inr c)
  · exact ⟨fun q hq => hlt q (mem_drop (e1 ▸ hq)), fun q hq => hr.sg q (mem_drop (e1 ▸ hq)), by rw [e2, List.length_set, List.length_set]; exact hr.tl⟩
  · exact ⟨fun q hq => hlt q (mem_drop (e1 ▸ hq)), fun q hq => hr.sg q (mem_drop (e1 ▸ hq)), by rw [e2, List.length_set, List.length_set]; exact hr.tl⟩
  · exact ⟨fun q hq => hlt q (e1 ▸ hq), fun q hq => hr.sg q (e1 ▸ hq), by rw [e2, List.length_set]; exact hr.tl⟩
/-- At an end that lies behind, nothing is written any more. -/
theorem keep_to (l : List Tok) (j : Nat) (hj : sgn l j = 93) : ∀ (k i : Nat) (r r' : NS), rloop l k i r = some r' → ROk l i r → j < i → r'.to[j]? = r.to[j]? := by
  intro k
  induction k with
  | zero => intro i r r' h _ _; injection h with h; rw [h]
  | succ k ih =>
    intro i r r' h hr hji
    simp only [rloop] at h
    cases hs : rstep l i r with
    | none => rw [hs] at h; cases h
    | some r1 =>
      rw [hs] at h
      rw [ih (i + 1) r1 r' h (hr.step hs) (by omega)]
      have hne : i ≠ j := by omega
      have hp93 : ∀ p, r.op.getLast? = some p → p ≠ j := fun p hp e => by
        have := hr.sg p (List.mem_of_getLast? hp); rw [e] at this; omega
      rcases rstep_cases hs with ⟨c, _, e1, e2⟩ | ⟨c, p, hp, c2, e1, e2⟩ | ⟨c, p, hp, c2, e1, e2⟩ | ⟨c, p, hp, c2, e1, e2⟩ | ⟨c, e1, e2⟩
      · rw [e2, List.getElem?_set_ne hne]
      · rw [e2, List.getElem?_set_ne (hp93 p hp), List.getElem?_set_ne hne]
      · rw [e2, List.getElem?_set_ne (hp93 p hp), List.getElem?_set_ne hne]
      · rw [e2, List.getElem?_set_ne hne, List.getElem?_set_ne hne]
      · rw [e2, List.getElem?_set_ne hne]
/-- A loop that is open ends, and the end leads back. -/
theorem pops (l : List Tok) (q : Nat) (hq : sgn l q = 91) : ∀ (k i : Nat) (r r' : NS), l.length = i + k → rloop l k i r = some r' → r'.op = [] → ROk l i r → q ∈ r.op → ∃ m, i ≤ m ∧ m < l.length ∧ sgn l m = 93 ∧ r'.to[m]? = some (q : Int) := by
  intro k
  induction k with
  | zero => intro i r r' _ h he _ hm; injection h with h; rw [← h] at he; rw [he] at hm; cases hm
  | succ k ih =>
    intro i r r' hl h he hr hm
    simp only [rloop] at h
    cases hs : rstep l i r with
    | none => rw [hs] at h; cases h
    | some r1 =>
      rw [hs] at h
      have hr1 := hr.step hs
      have hgo : q ∈ r1.op → ∃ m, i ≤ m ∧ m < l.length ∧ sgn l m = 93 ∧ r'.to[m]? = some (q : Int) := fun h1 => by
        obtain ⟨m, a1, a2, a3, a4⟩ := ih (i + 1) r1 r' (by omega) h he hr1 h1
        exact ⟨m, by omega, a2, a3, a4⟩
      rcases rstep_cases hs with ⟨c, _, e1, e2⟩ | ⟨c, p, hp, c2, e1, e2⟩ | ⟨c, p, hp, c2, e1, e2⟩ | ⟨c, p, hp, c2, e1, e2⟩ | ⟨c, e1, e2⟩
      · exact hgo (by rw [e1]; exact List.mem_append_left _ hm)
      · rcases mem_split hp hm with h1 | h1
        · exact hgo (by rw [e1]; exact List.mem_append_left _ h1)
        · subst h1; omega
      · rcases mem_split hp hm with h1 | h1
        · exact hgo (by rw [e1]; exact h1)
        · subst h1; exact absurd hq c2
      · rcases mem_split hp hm with h1 | h1
        · exact hgo (by rw [e1]; exact h1)
        · subst h1
          refine ⟨i, Nat.le_refl _, by omega, c, ?_⟩
          rw [keep_to l i c k (i + 1) r1 r' h hr1 (by omega), e2, List.getElem?_set_self (by rw [List.length_set, hr.tl]; omega)]
      · exact hgo (by rw [e1]; exact hm)
/-- Where an end leads back ahead of here, a loop is open here. -/
theorem opens (l : List Tok) : ∀ (k i : Nat) (r r' : NS) (m q : Nat), l.length = i + k → rloop l k i r = some r' → ROk l i r → i ≤ m → m < l.length → sgn l m = 93 → r'.to[m]? = some (q : Int) → q < i → q ∈ r.op ∧ sgn l q = 91 := by
  intro k
  induction k with
  | zero => intro i r r' m q hl _ _ h1 h2; omega
  | succ k ih =>
    intro i r r' m q hl h hr h1 h2 h3 h4 h5
    simp only [rloop] at h
    cases hs : rstep l i r with
    | none => rw [hs] at h; cases h
    | some r1 =>
      rw [hs] at h
      have hr1 := hr.step hs
      by_cases hm : m = i
      · subst hm
        rw [keep_to l m h3 k (m + 1) r1 r' h hr1 (by omega)] at h4
        rcases rstep_cases hs with ⟨c, _, e1, e2⟩ | ⟨c, p, hp, c2, e1, e2⟩ | ⟨c, p, hp, c2, e1, e2⟩ | ⟨c, p, hp, c2, e1, e2⟩ | ⟨c, e1, e2⟩
        · omega
        · omega
        · omega
        · rw [e2, List.getElem?_set_self (by rw [List.length_set, hr.tl]; omega)] at h4
          injection h4 with h4
          have : p = q := by omega
          subst this
          exact ⟨List.mem_of_getLast? hp, c2⟩
        · omega
      · obtain ⟨g1, g2⟩ := ih (i + 1) r1 r' m q (by omega) h hr1 (by omega) h2 h3 h4 (by omega)
        refine ⟨?_, g2⟩
        rcases rstep_cases hs with ⟨c, _, e1, e2⟩ | ⟨c, p, hp, c2, e1, e2⟩ | ⟨c, p, hp, c2, e1, e2⟩ | ⟨c, p, hp, c2, e1, e2⟩ | ⟨c, e1, e2⟩
        · rw [e1, List.mem_append] at g1
          rcases g1 with g1 | g1
          · exact g1
          · simp at g1; omega
        · rw [e1, List.mem_append] at g1
          rcases g1 with g1 | g1
          · exact mem_drop g1
          · simp at g1; omega
        · exact mem_drop (e1 ▸ g1)
        · exact mem_drop (e1 ▸ g1)
        · exact e1 ▸ g1
theorem leaves_iff (l : List Tok) (to : List Int) (at' : Nat) : ∀ (k i : Nat), 0 ≤ leavesN l to at' k i ↔ ∃ m, i ≤ m ∧ m < i + k ∧ sgn l m = 93 ∧ to.getD m 0 < at' := by
  intro k
  induction k with
  | zero => intro i; simp only [leavesN]; exact ⟨fun h => by omega, fun ⟨m, h1, h2, _⟩ => by omega⟩
  | succ k ih =>
    intro i
    simp only [leavesN]
    split
    · rename_i c
      exact ⟨fun _ => ⟨i, Nat.le_refl _, by omega, c⟩, fun _ => by omega⟩
    · rename_i c
      rw [ih (i + 1)]
      exact ⟨fun ⟨m, h1, h2, h3⟩ => ⟨m, by omega, by omega, h3⟩, fun ⟨m, h1, h2, h3⟩ => ⟨m, by
        have : m ≠ i := fun e => c (by rw [← e]; exact h3)
        omega, by omega, h3⟩⟩
theorem leaves_set (l : List Tok) (to : List Int) (j : Nat) (v : Int) (hj : sgn l j ≠ 93) (at' : Nat) : ∀ (k i : Nat), leavesN l (to.set j v) at' k i = leavesN l to at' k i := by
  intro k
  induction k with
  | zero => intro i; rfl
  | succ k ih =>
    intro i
    simp only [leavesN]
    rw [ih (i + 1)]
    by_cases c : sgn l i = 93
    · have hne : j ≠ i := fun e => hj (by rw [e]; exact c)
      have : (to.set j v).getD i 0 = to.getD i 0 := by rw [List.getD_eq_getElem?_getD, List.getD_eq_getElem?_getD, List.getElem?_set_ne hne]
      rw [this]
    · simp [c]
theorem rloop2_iff (l : List Tok) : ∀ (k i : Nat) (to : List Int), (rloop2 l k i to).isSome = true ↔ ∀ j, i ≤ j → j < i + k → sgn l j = 126 → 0 ≤ leavesN l to j (l.length - j) j := by
  intro k
  induction k with
  | zero => intro i to; simp only [rloop2, Option.isSome_some, true_iff]; intro j h1 h2; omega
  | succ k ih =>
    intro i to
    simp only [rloop2]
    by_cases c : sgn l i = 126
    · rw [if_pos c]
      by_cases d : leavesN l to i (l.length - i) i < 0
      · rw [if_pos d]
        simp only [Option.isSome_none, Bool.false_eq_true, false_iff]
        intro h
        have := h i (Nat.le_refl _) (by omega) c
        omega
      · rw [if_neg d, ih (i + 1)]
        refine ⟨fun h j h1 h2 h3 => ?_, fun h j h1 h2 h3 => ?_⟩
        · by_cases hj : j = i
          · subst hj; omega
          · have := h j (by omega) (by omega) h3
            rwa [leaves_set l to i _ (by omega)] at this
        · rw [leaves_set l to i _ (by omega)]
          exact h j (by omega) (by omega) h3
    · rw [if_neg c, ih (i + 1)]
      refine ⟨fun h j h1 h2 h3 => ?_, fun h j h1 h2 h3 => h j (by omega) (by omega) h3⟩
      by_cases hj : j = i
      · subst hj; exact absurd h3 c
      · exact h j (by omega) (by omega) h3
/-- The two states, side by side. -/
structure PR (l : List Tok) (i : Nat) (s : Mt) (r : NS) : Prop where
  fl : s.op.map (fun p => (p.loop, decide (0 < p.ot))) = r.op.map fun q => (decide (sgn l q = 91), decide (sgn l q = 58))
  ok : ROk l i r
theorem PR.len {l : List Tok} {i : Nat} {s : Mt} {r : NS} (h : PR l i s r) : s.op.length = r.op.length := by
  have := congrArg List.length h.fl
  simpa using this
theorem PR.last {l : List Tok} {i : Nat} {s : Mt} {r : NS} (h : PR l i s r) : (s.op.getLast? = none ∧ r.op.getLast? = none) ∨ ∃ p q, s.op.getLast? = some p ∧ r.op.getLast? = some q ∧ p.loop = decide (sgn l q = 91) ∧ decide (0 < p.ot) = decide (sgn l q = 58) ∧ q < i ∧ (sgn l q = 63 ∨ sgn l q = 91 ∨ sgn l q = 58) := by
  have hn := congrArg List.getLast? h.fl
  rw [List.getLast?_map, List.getLast?_map] at hn
  cases hp : s.op.getLast? with
  | none =>
    rw [hp] at hn
    cases hq : r.op.getLast? with
    | none => exact .inl ⟨rfl, rfl⟩
    | some q => rw [hq] at hn; simp at hn
  | some p =>
    rw [hp] at hn
    cases hq : r.op.getLast? with
    | none => rw [hq] at hn; simp at hn
    | some q =>
      rw [hq] at hn
      simp only [Option.map_some, Option.some.injEq, Prod.mk.injEq] at hn
      have hm := List.mem_of_getLast? hq
      exact .inr ⟨p, q, rfl, rfl, hn.1, hn.2, h.ok.lt q hm, h.ok.sg q hm⟩
theorem loop_iff {l : List Tok} {s : Mt} {r : NS} (h : s.op.map (fun p => (p.loop, decide (0 < p.ot))) = r.op.map fun q => (decide (sgn l q = 91), decide (sgn l q = 58))) : (∃ k, lastLoop s.op s.op.length = some k) ↔ ∃ q ∈ r.op, sgn l q = 91 := by
  have hlen : s.op.length = r.op.length := by simpa using congrArg List.length h
  have hget : ∀ k : Nat, (s.op[k]?).map (fun p => p.loop) = (r.op[k]?).map fun q => decide (sgn l q = 91) := fun k => by
    have := congrArg (fun l => (l[k]?).map Prod.fst) h
    simpa [List.getElem?_map, Option.map_map, Function.comp_def] using this
  constructor
  · rintro ⟨k, hk⟩
    obtain ⟨h1, p, h2, h3⟩ := lastLoop_some _ _ _ hk
    have := hget k
    rw [h2] at this
    cases hq : r.op[k]? with
    | none => rw [hq] at this; simp at this
    | some q =>
      rw [hq] at this
      simp only [Option.map_some, Option.some.injEq] at this
      exact ⟨q, List.mem_of_getElem? hq, by rw [h3] at this; simpa using this.symm⟩
  · rintro ⟨q, hq, hs⟩
    obtain ⟨k, hk⟩ := List.mem_iff_getElem?.mp hq
    have hkl : k < s.op.length := by
      obtain ⟨h1, _⟩ := List.getElem?_eq_some_iff.mp hk; omega
    have hgen : ∀ n, k < n → n ≤ s.op.length → ∃ k', lastLoop s.op n = some k' := by
      intro n
      induction n with
      | zero => intro h; omega
      | succ n ih =>
        intro h1 h2
        simp only [lastLoop]
        have hn : n < s.op.length := by omega
        rw [List.getElem?_eq_getElem hn]
        simp only
        split
        · exact ⟨n, rfl⟩
        · rename_i hl
          by_cases hkn : k = n
          · subst hkn
            have := hget k
            rw [hk, List.getElem?_eq_getElem hn] at this
            simp only [Option.map_some, Option.some.injEq] at this
            exact absurd (by rw [this]; simp [hs]) hl
          · exact ih (by omega) (by omega)
    exact hgen _ hkl (Nat.le_refl _)
theorem PR.fwd {l : List Tok} {i : Nat} {s s1 : Mt} {r : NS} (h : PR l i s r) (hs : pstep (sgn l i) i s = some s1) : ∃ r1, rstep l i r = some r1 ∧ PR l (i + 1) s1 r1 ∧ (sgn l i = 126 → ∃ q ∈ r.op, sgn l q = 91) := by
  suffices hw : ∃ r1, rstep l i r = some r1 ∧ s1.op.map (fun p => (p.loop, decide (0 < p.ot))) = r1.op.map (fun q => (decide (sgn l q = 91), decide (sgn l q = 58))) ∧ (sgn l i = 126 → ∃ q ∈ r.op, sgn l q = 91) by
    obtain ⟨r1, h1, h2, h3⟩ := hw; exact ⟨r1, h1, ⟨h2, h.ok.step h1⟩, h3⟩
  have hlen := h.len
  unfold pstep at hs
  unfold rstep
  by_cases c1 : sgn l i = 63
  · rw [if_pos c1] at hs
    split at hs
    · injection hs with hs; subst hs
      exact ⟨_, by rw [if_pos (.inl c1), if_neg (by omega)], by simp [h.fl, c1], fun e => by omega⟩
    · cases hs
  rw [if_neg c1] at hs
  by_cases c2 : sgn l i = 91
  · rw [if_pos c2] at hs
    split at hs
    · injection hs with hs; subst hs
      exact ⟨_, by rw [if_pos (.inr c2), if_neg (by omega)], by simp [h.fl, c2], fun e => by omega⟩
    · cases hs
  rw [if_neg c2] at hs
  rw [if_neg (by omega)]
  by_cases c3 : sgn l i = 58
  · rw [if_pos c3] at hs ⊢
    rcases h.last with ⟨e1, e2⟩ | ⟨p, q, e1, e2, e3, e4, e5, e6⟩
    · rw [e1] at hs; cases hs
    · rw [e1] at hs
      rw [e2]
      simp only at hs ⊢
      split at hs
      · cases hs
      · rename_i hc
        simp at hc
        injection hs with hs; subst hs
        have hq91 : sgn l q ≠ 91 := by rw [hc.1] at e3; simpa using e3.symm
        have hq58 : sgn l q ≠ 58 := by
          have : decide (0 < p.ot) = false := by simp; omega
          rw [this] at e4; simpa using e4.symm
        have hq63 : sgn l q = 63 := by omega
        refine ⟨_, by rw [if_pos hq63], ?_, fun e => by omega⟩
        have hsp := last_split e1
        have hset : s.op.set (s.op.length - 1) ⟨p.loop, p.fr, i, p.leaves⟩ = s.op.dropLast ++ [⟨p.loop, p.fr, i, p.leaves⟩] := by
          conv => lhs; rw [hsp]
          rw [List.set_append_right _ _ (by simp)]
          simp
        simp only [hset, List.map_append, List.map_dropLast, h.fl]
        simp [hc.1, c3]; omega
  rw [if_neg c3] at hs ⊢
  by_cases c4 : sgn l i = 59
  · rw [if_pos c4] at hs ⊢
    rcases h.last with ⟨e1, e2⟩ | ⟨p, q, e1, e2, e3, e4, e5, e6⟩
    · rw [e1] at hs; cases hs
    · rw [e1] at hs
      rw [e2]
      simp only at hs ⊢
      split at hs
      · cases hs
      · rename_i hc
        simp at hc
        injection hs with hs; subst hs
        have hq91 : sgn l q ≠ 91 := by rw [hc] at e3; simpa using e3.symm
        exact ⟨_, by rw [if_neg hq91], by simp only [List.map_dropLast, h.fl], fun e => by omega⟩
  rw [if_neg c4] at hs ⊢
  by_cases c5 : sgn l i = 93
  · rw [if_pos c5] at hs ⊢
    rcases h.last with ⟨e1, e2⟩ | ⟨p, q, e1, e2, e3, e4, e5, e6⟩
    · rw [e1] at hs; cases hs
    · rw [e1] at hs
      rw [e2]
      simp only at hs ⊢
      split at hs
      · rename_i hc
        injection hs with hs; subst hs
        have hq91 : sgn l q = 91 := by rw [hc] at e3; simpa using e3.symm
        exact ⟨_, by rw [if_pos hq91], by simp only [List.map_dropLast, h.fl], fun e => by omega⟩
      · cases hs
  rw [if_neg c5] at hs ⊢
  by_cases c6 : sgn l i = 126
  · rw [if_pos c6] at hs
    cases hk : lastLoop s.op s.op.length with
    | none => rw [hk] at hs; cases hs
    | some k =>
      rw [hk] at hs
      obtain ⟨_, p, hp, _⟩ := lastLoop_some _ _ _ hk
      simp only [hp] at hs
      injection hs with hs; subst hs
      refine ⟨_, rfl, ?_, fun _ => (loop_iff h.fl).mp ⟨k, hk⟩⟩
      simp only [← h.fl]
      rw [List.map_set]
      apply List.ext_getElem?
      intro j
      rw [List.getElem?_set]
      split
      · rename_i e; subst e
        split
        · rw [List.getElem?_map, hp]; rfl
        · rename_i hh; simp at hh; rw [List.getElem?_map, hp]; simp [List.getElem?_eq_none_iff.mpr hh] at hp
      · rfl
  · rw [if_neg c6] at hs
    injection hs with hs; subst hs
    exact ⟨_, rfl, h.fl, fun e => absurd e c6⟩
theorem PR.bwd {l : List Tok} {i : Nat} {s : Mt} {r r1 : NS} (h : PR l i s r) (hs : rstep l i r = some r1) (hx : sgn l i = 126 → ∃ q ∈ r.op, sgn l q = 91) : ∃ s1, pstep (sgn l i) i s = some s1 := by
  have hlen := h.len
  unfold pstep
  rcases rstep_cases hs with ⟨c, c16, e1, e2⟩ | ⟨c, q, hq, c2, e1, e2⟩ | ⟨c, q, hq, c2, e1, e2⟩ | ⟨c, q, hq, c2, e1, e2⟩ | ⟨c, e1, e2⟩
  · rcases c with c | c
    · exact ⟨_, by rw [if_pos c, if_pos (by omega)]⟩
    · exact ⟨_, by rw [if_neg (by omega), if_pos c, if_pos (by omega)]⟩
  · rcases h.last with ⟨_, f2⟩ | ⟨p, q', f1, f2, f3, f4, f5, f6⟩
    · rw [hq] at f2; cases f2
    · rw [hq] at f2; injection f2 with f2; subst f2
      rw [if_neg (by omega), if_neg (by omega), if_pos c, f1]
      simp only
      have : (p.loop || decide (0 < p.ot)) = false := by rw [f3, f4]; simp; omega
      exact ⟨_, by rw [if_neg (by simp [this])]⟩
  · rcases h.last with ⟨_, f2⟩ | ⟨p, q', f1, f2, f3, f4, f5, f6⟩
    · rw [hq] at f2; cases f2
    · rw [hq] at f2; injection f2 with f2; subst f2
      rw [if_neg (by omega), if_neg (by omega), if_neg (by omega), if_pos c, f1]
      simp only
      have : p.loop = false := by rw [f3]; simpa using c2
      exact ⟨_, by rw [if_neg (by simp [this])]⟩
  · rcases h.last with ⟨_, f2⟩ | ⟨p, q', f1, f2, f3, f4, f5, f6⟩
    · rw [hq] at f2; cases f2
    · rw [hq] at f2; injection f2 with f2; subst f2
      rw [if_neg (by omega), if_neg (by omega), if_neg (by omega), if_neg (by omega), if_pos c, f1]
      simp only
      have : p.loop = true := by rw [f3]; simpa using c2
      exact ⟨_, by rw [if_pos this]⟩
  · rw [if_neg (by omega), if_neg (by omega), if_neg (by omega), if_neg (by omega), if_neg (by omega)]
    by_cases c6 : sgn l i = 126
    · rw [if_pos c6]
      obtain ⟨k, hk⟩ := (loop_iff h.fl).mpr (hx c6)
      obtain ⟨_, p, hp, _⟩ := lastLoop_some _ _ _ hk
      rw [hk]
      simp only [hp]
      exact ⟨_, rfl⟩
    · exact ⟨_, by rw [if_neg c6]⟩
/-- Each leaving has an end behind it that leads back ahead of it. -/
def Left (l : List Tok) (i : Nat) (to : List Int) : Prop := ∀ j, i ≤ j → j < l.length → sgn l j = 126 → ∃ m q : Nat, j ≤ m ∧ m < l.length ∧ sgn l m = 93 ∧ to[m]? = some (q : Int) ∧ q < j
theorem fwd_loop (l : List Tok) : ∀ (k i : Nat) (s s' : Mt) (r : NS), l.length = i + k → PR l i s r → ploop l k i s = some s' → s'.op = [] → ∃ r', rloop l k i r = some r' ∧ r'.op = [] ∧ Left l i r'.to := by
  intro k
  induction k with
  | zero =>
    intro i s s' r hl h hp he
    injection hp with hp; subst hp
    refine ⟨r, rfl, ?_, fun j h1 h2 => by omega⟩
    have := h.len; rw [he] at this; exact List.length_eq_zero_iff.mp this.symm
  | succ k ih =>
    intro i s s' r hl h hp he
    simp only [ploop] at hp
    cases hs : pstep (sgn l i) i s with
    | none => rw [hs] at hp; cases hp
    | some s1 =>
      rw [hs] at hp
      obtain ⟨r1, h1, h2, h3⟩ := h.fwd hs
      obtain ⟨r', g1, g2, g3⟩ := ih (i + 1) s1 s' r1 (by omega) h2 hp he
      refine ⟨r', by simp only [rloop, h1]; exact g1, g2, fun j j1 j2 j3 => ?_⟩
      by_cases hj : j = i
      · subst hj
        obtain ⟨q, q1, q2⟩ := h3 j3
        have hq1 : q ∈ r1.op := by
          rcases rstep_cases h1 with ⟨c, _, e1, e2⟩ | ⟨c, p, hp, c2, e1, e2⟩ | ⟨c, p, hp, c2, e1, e2⟩ | ⟨c, p, hp, c2, e1, e2⟩ | ⟨c, e1, e2⟩
          · omega
          · omega
          · omega
          · omega
          · rw [e1]; exact q1
        obtain ⟨m, m1, m2, m3, m4⟩ := pops l q q2 k (j + 1) r1 r' (by omega) g1 g2 h2.ok hq1
        exact ⟨m, q, by omega, m2, m3, m4, h.ok.lt q q1⟩
      · exact g3 j (by omega) j2 j3
theorem bwd_loop (l : List Tok) : ∀ (k i : Nat) (s : Mt) (r r' : NS), l.length = i + k → PR l i s r → rloop l k i r = some r' → r'.op = [] → Left l i r'.to → ∃ s', ploop l k i s = some s' ∧ s'.op = [] := by
  intro k
  induction k with
  | zero =>
    intro i s r r' hl h hp he _
    injection hp with hp; subst hp
    refine ⟨s, rfl, ?_⟩
    have := h.len; rw [he] at this; exact List.length_eq_zero_iff.mp this
  | succ k ih =>
    intro i s r r' hl h hp he hL
    have hp0 := hp
    simp only [rloop] at hp
    cases hs : rstep l i r with
    | none => rw [hs] at hp; cases hp
    | some r1 =>
      rw [hs] at hp
      obtain ⟨s1, h1⟩ := h.bwd hs (fun c => by
        obtain ⟨m, q, m1, m2, m3, m4, m5⟩ := hL i (Nat.le_refl _) (by omega) c
        obtain ⟨g1, g2⟩ := opens l (k + 1) i r r' m q hl hp0 h.ok m1 m2 m3 m4 m5
        exact ⟨q, g1, g2⟩)
      obtain ⟨r2, h2, h3, _⟩ := h.fwd h1
      rw [hs] at h2; injection h2 with h2; subst h2
      obtain ⟨s', g1, g2⟩ := ih (i + 1) s1 r1 r' (by omega) h3 hp he (fun j j1 j2 j3 => hL j (by omega) j2 j3)
      exact ⟨s', by simp only [ploop, h1]; exact g1, g2⟩
theorem rto_ok {l : List Tok} : ∀ (k i : Nat) (r r' : NS), rloop l k i r = some r' → ROk l i r → r'.to.length = l.length := by
  intro k
  induction k with
  | zero => intro i r r' h hr; injection h with h; subst h; exact hr.tl
  | succ k ih =>
    intro i r r' h hr
    simp only [rloop] at h
    cases hs : rstep l i r with
    | none => rw [hs] at h; cases h
    | some r1 => rw [hs] at h; exact ih (i + 1) r1 r' h (hr.step hs)
/-- At an end stands where its loop begins. -/
theorem end_to (l : List Tok) : ∀ (k i : Nat) (r r' : NS) (m : Nat), l.length = i + k → rloop l k i r = some r' → ROk l i r → i ≤ m → m < l.length → sgn l m = 93 → ∃ q : Nat, r'.to[m]? = some (q : Int) := by
  intro k
  induction k with
  | zero => intro i r r' m hl _ _ h1 h2; omega
  | succ k ih =>
    intro i r r' m hl h hr h1 h2 h3
    simp only [rloop] at h
    cases hs : rstep l i r with
    | none => rw [hs] at h; cases h
    | some r1 =>
      rw [hs] at h
      have hr1 := hr.step hs
      by_cases hm : m = i
      · subst hm
        rw [keep_to l m h3 k (m + 1) r1 r' h hr1 (by omega)]
        rcases rstep_cases hs with ⟨c, _, e1, e2⟩ | ⟨c, p, hp, c2, e1, e2⟩ | ⟨c, p, hp, c2, e1, e2⟩ | ⟨c, p, hp, c2, e1, e2⟩ | ⟨c, e1, e2⟩
        · omega
        · omega
        · omega
        · exact ⟨p, by rw [e2, List.getElem?_set_self (by rw [List.length_set, hr.tl]; omega)]⟩
        · omega
      · exact ih (i + 1) r1 r' m (by omega) h hr1 (by omega) h2 h3
theorem nest_same (l : List Tok) : (nestP l).isSome = (nestR l).isSome := by
  have h0 : PR l 0 ⟨List.replicate l.length (-1), [], 0⟩ ⟨List.replicate l.length 0, [], 0⟩ := ⟨rfl, ⟨by simp, by simp, by simp⟩⟩
  have hleft : ∀ r', rloop l l.length 0 ⟨List.replicate l.length 0, [], 0⟩ = some r' → ((rloop2 l l.length 0 r'.to).isSome = true ↔ Left l 0 r'.to) := fun r' hr' => by
    rw [rloop2_iff]
    have htl := rto_ok l.length 0 _ r' hr' h0.ok
    refine ⟨fun h j j1 j2 j3 => ?_, fun h j j1 j2 j3 => ?_⟩
    · obtain ⟨m, m1, m2, m3, m4⟩ := (leaves_iff l r'.to j (l.length - j) j).mp (h j j1 (by omega) j3)
      obtain ⟨q, hq⟩ := end_to l l.length 0 _ r' m (by omega) hr' h0.ok (by omega) (by omega) m3
      refine ⟨m, q, m1, by omega, m3, hq, ?_⟩
      rw [List.getD_eq_getElem?_getD, hq] at m4
      simp at m4; exact m4
    · obtain ⟨m, q, m1, m2, m3, m4, m5⟩ := h j j1 (by omega) j3
      refine (leaves_iff l r'.to j (l.length - j) j).mpr ⟨m, m1, by omega, m3, ?_⟩
      rw [List.getD_eq_getElem?_getD, m4]
      simp; exact m5
  rw [Bool.eq_iff_iff]
  constructor
  · intro h
    unfold nestP at h
    cases hp : ploop l l.length 0 ⟨List.replicate l.length (-1), [], 0⟩ with
    | none => rw [hp] at h; cases h
    | some s' =>
      rw [hp] at h
      simp only at h
      split at h
      · rename_i he
        obtain ⟨r', g1, g2, g3⟩ := fwd_loop l l.length 0 _ s' _ (by omega) h0 hp he
        have hs := (hleft r' g1).mpr g3
        unfold nestR
        rw [g1]
        simp only
        rw [if_pos g2, Option.isSome_map]
        exact hs
      · cases h
  · intro h
    unfold nestR at h
    cases hp : rloop l l.length 0 ⟨List.replicate l.length 0, [], 0⟩ with
    | none => rw [hp] at h; cases h
    | some r' =>
      rw [hp] at h
      simp only at h
      split at h
      · rename_i he
        rw [Option.isSome_map] at h
        obtain ⟨s', g1, g2⟩ := bwd_loop l l.length 0 _ _ r' (by omega) h0 hp he ((hleft r' hp).mp h)
        unfold nestP
        rw [g1]
        simp only
        rw [if_pos g2]
        rfl
      · cases h
end Go.Ev
namespace Go.Ev
open Go
section
variable {bar : Nat} {h : H} {p m : Int} {fa : AV}
/-- A number of a list, wherever it lies. -/
theorem S_num {o : Oracle} {bar : Nat} {h0 g : H} {a : AV} {l : List Int} (hv : Vw 1 h0 a l.length (l.flatMap i64c)) (hag : Ag h0.n h0 g) {i : Nat} (hi : i < l.length) {c d : Nat} {r : List IOper} {ks : List Fr} {e : Env} {Q : Ex → Env → H → Prop}
    (hw : ∀ v, wpX o bar r ks ((d, .int .i64 l[i]) :: (c, v) :: e) g Q) : wpS o bar (iadrR 1 (some a) (some (.int .i64 (i : Nat))) g) (some c) (⟨some d, .ld false 1 (.t c), none⟩ :: r) ks e Q := by
  have hbi : (i : Int) < (l.length : Int) := by omega
  obtain ⟨hl, _, ⟨rfl, h2⟩ | ⟨full, rfl⟩ | ⟨id, off, full, all, q, rfl, hid, hg, hle, hc⟩⟩ := hv
  · omega
  · have hcf := i64_get hi
    generalize l.flatMap i64c = cs at *
    have hl' : (cs.length = l.length) = True := by simpa using hl
    simp [go_sem, indexIn, hi, hbi, hl', hcf]
    exact hw _
  · have hcf : all[off + i]? = some (.int .i64 l[i]) := by
      have := i64_get hi
      rw [← hc, List.getElem?_take_of_lt (by omega), List.getElem?_drop] at this
      exact this
    have hg2 := (hag.2 _ hid).trans hg
    simp [go_sem, indexIn, hi, hbi, hg2, hcf]
    exact hw _
theorem Same_loop (l l' : List Int) (a a' : AV) (hlen : l.length = l'.length) (hv : Vw 1 h a l.length (l.flatMap i64c)) (hv' : Vw 1 h a' l'.length (l'.flatMap i64c)) (Q : Ex → Env → H → Prop) : ∀ (k i : Nat), l.length = i + k → (∀ j, j < i → l[j]? = l'[j]?) →
    (∀ e, e.get 4 = some (.bool false) → l ≠ l' → Q .ret e h) → (∀ e, l = l' → Q (.exit 0) e h) →
    wpL (call tb prim) bar [0, 1, 5] l0_engrambook_Same_int [(0, a), (1, a'), (5, goI i)] h Q := by
  intro k
  induction k with
  | zero =>
    intro i hk hj h1 h2
    refine M_loop l0_engrambook_Same_int.eq_1 ?_
    simp [go_sem, hv.len, hk]
    refine h2 _ ?_
    apply List.ext_getElem?
    intro j
    by_cases hji : j < i
    · exact hj j hji
    · rw [List.getElem?_eq_none (by omega), List.getElem?_eq_none (by omega)]
  | succ k ih =>
    intro i hk hj h1 h2
    refine M_loop l0_engrambook_Same_int.eq_1 ?_
    have hi : i < l.length := by omega
    have hi' : i < l'.length := by omega
    have hbi : (i : Int) < (l.length : Int) := by omega
    have hw := w64_succ (n := i) (by have := hv.2.1; omega)
    simp [go_sem, hv.len, hi]
    refine S_num hv (Ag.refl _ _) hi (fun v1 => ?_)
    simp [go_sem]
    refine S_num hv' (Ag.refl _ _) hi' (fun v2 => ?_)
    by_cases hc : l[i] = l'[i]
    · have hc' := ne_b' hc
      simp [go_sem, hc', hw]
      refine ih (i + 1) (by omega) (fun j hji => ?_) h1 h2
      by_cases hj2 : j < i
      · exact hj j hj2
      · have : j = i := by omega
        subst this
        rw [List.getElem?_eq_getElem hi, List.getElem?_eq_getElem hi', hc]
    · have hc' := ne_b hc
      simp [go_sem, hc']
      refine h1 _ rfl (fun e => hc ?_)
      subst e; rfl
theorem Same_ok (l l' : List Int) (a a' : AV) (hv : Vw 1 h a l.length (l.flatMap i64c)) (hv' : Vw 1 h a' l'.length (l'.flatMap i64c)) : call tb prim n_engrambook_Same_int [a, a'] bar h = some (.bool (decide (l = l')), h) := by
  refine call_of tb_engrambook_Same_int (callF_pureW rfl rfl (M_in ?_))
  by_cases hlen : l.length = l'.length
  · have h0 := ne_b' (show (l.length : Int) = (l'.length : Int) from by omega)
    simp [f_engrambook_Same_int, env0, go_sem, hv.len, hv'.len, h0]
    refine Same_loop (bar := h.n) l l' a a' hlen hv hv' _ l.length 0 (by omega) (fun j hj => by omega) (fun e h1 h2 => ?_) (fun e h1 => ?_)
    · simp [go_sem, endP, endI, resultsA, resultA, freezeL, freezeV, AV.free.freeL, AV.free, packA, dropS, h1, h2]
    · simp [go_sem, endP, endI, resultsA, resultA, freezeL, freezeV, AV.free.freeL, AV.free, packA, dropS, h1]
  · have h0 := ne_b (show (l.length : Int) ≠ (l'.length : Int) from by omega)
    have hne : l ≠ l' := fun e => hlen (by rw [e])
    simp [f_engrambook_Same_int, env0, go_sem, endP, endI, resultsA, resultA, freezeL, freezeV, AV.free.freeL, AV.free, packA, dropS, hv.len, hv'.len, h0, hne]
def oneF (s : ByteArray) : Fn := ⟨102, 1, s⟩
def oneA (s : ByteArray) : AV := .agg [.int .i64 0, .int .i64 0, .fz 3 1 (oneF s).cells true]
theorem one_fv (s : ByteArray) (g : H) : FV g (.fz 3 1 (oneF s).cells true) [oneF s] := Vw.fz (n := 1) (cs := (oneF s).cells) rfl (by omega)
theorem one_ok (s : ByteArray) : call tb prim n_engramlaw9_one [.str s] bar h = some (oneA s, h) := by
  refine call_of tb_engramlaw9_one (callF_pureW rfl rfl (M_in ?_))
  have n1 : h.n + 1 ≠ h.n := by omega
  simp [f_engramlaw9_one, env0, go_sem, get_alloc, n_alloc, get_set, n_set, get_kill, n_kill, writeAt, a11, a21, a31, a41, a51, a61, a71, endP, endI, resultsA, resultA, freezeL, freezeV, AV.free.freeL, AV.free, packA, dropS, evParts, fillA, splice, n1, oneA, oneF, Fn.cells]
theorem check_Func_N (fs : List Fn) (k : Int) (hv : FV h fa fs) : ∃ a, call tb prim n_check_Func [.agg [.int .i64 p, .int .i64 m, fa], .int .i64 k] bar h = some (.tup [a, .int .i64 (funN (fun l => (nestP l).isSome) fs k).2], h) ∧ FzV 1 a (funN (fun l => (nestP l).isSome) fs k).1.length ((funN (fun l => (nestP l).isSome) fs k).1.flatMap i64c) := check_Func_ok fs k hv
theorem ref_Func_N (fs : List Fn) (k : Int) (hv : FV h fa fs) : ∃ a, call tb prim n_engramref9_Func [.agg [.int .i64 p, .int .i64 m, fa], .int .i64 k] bar h = some (.tup [a, .int .i64 (funN (fun l => (nestP l).isSome) fs k).2], h) ∧ FzV 1 a (funN (fun l => (nestP l).isSome) fs k).1.length ((funN (fun l => (nestP l).isSome) fs k).1.flatMap i64c) :=
  ref_Func_ok (fun l => (nestP l).isSome) fs k hv nest_same (fun l hl => by
    cases hn : nestP l with
    | none => simp [hn] at hl
    | some to => exact nestP_good fs l hn)
theorem same_loop (fs : List Fn) (hv : FV h fa fs) (U q : Nat) (g : H) (hU : g.get U = some (.cells [.int .i64 p, .int .i64 m, fa] q)) (hag : Ag h.n h g) (Q : Ex → Env → H → Prop) (hq : ∀ e, Q (.exit 0) e g) : ∀ (k : Nat) (i : Int), -1 ≤ i → 10 ≤ i + k →
    wpL (call tb prim) bar [1, 3] l0_engramlaw9_same [(1, .ptr U 0), (3, .int .i64 i)] g Q := by
  intro k
  induction k with
  | zero =>
    intro i h1 h2
    refine M_loop l0_engramlaw9_same.eq_1 ?_
    have c1 : ¬ i < 9 := by omega
    by_cases c2 : i ≤ (fs.length : Int)
    · simp [go_sem, hU, hv.len, c1, c2]; exact hq _
    · simp [go_sem, hU, hv.len, c1, c2]; exact hq _
  | succ k ih =>
    intro i h1 h2
    refine M_loop l0_engramlaw9_same.eq_1 ?_
    by_cases c2 : i ≤ (fs.length : Int)
    · by_cases c1 : i < 9
      · obtain ⟨a, ca, va⟩ := check_Func_N (bar := bar) (p := p) (m := m) fs i (hv.mono hag (Nat.le_refl _))
        obtain ⟨a', cr, vr⟩ := ref_Func_N (bar := bar) (p := p) (m := m) fs i (hv.mono hag (Nat.le_refl _))
        have hs := Same_ok (bar := bar) (h := g) _ _ a a' (va.vw g) (vr.vw g)
        have hw : IntKind.i64.wrap (i + 1) = i + 1 := w64 (by omega) (by omega)
        simp [go_sem, hU, hv.len, c1, c2, ca, cr, hs, hw]
        exact ih (i + 1) (by omega) (by omega)
      · simp [go_sem, hU, hv.len, c1, c2]; exact hq _
    · simp [go_sem, hU, hv.len, c2]; exact hq _
theorem same_ok (fs : List Fn) (hv : FV h fa fs) : call tb prim n_engramlaw9_same [.agg [.int .i64 p, .int .i64 m, fa]] bar h = some (.bool true, h) := by
  refine call_of tb_engramlaw9_same (callF_pureW rfl rfl (M_in ?_))
  simp [f_engramlaw9_same, env0, go_sem, get_alloc, n_alloc, get_set, n_set, get_kill, n_kill, writeAt, a11, a21, a31, a41, a51, a61, a71, Vw.one hv]
  refine same_loop (bar := h.n) (p := p) (m := m) fs hv h.n 0 _ (by simp [get_alloc]) (Ag.alloc _ (Nat.le_refl _)) _ (fun e => ?_) 11 (-1) (by omega) (by omega)
  simp [go_sem, endP, endI, resultsA, resultA, freezeL, freezeV, AV.free.freeL, AV.free, packA, dropS]
theorem law_takes_ok (fs : List Fn) (s n nm : Int) (hv : FV h fa fs) : call tb prim n_engramlaw9_takes [.agg [.int .i64 p, .int .i64 m, fa], .agg [.int .i32 s, .int .i64 n, .int .i32 nm]] bar h = some (.bool true, h) := by
  refine call_of tb_engramlaw9_takes (callF_pureW rfl rfl (M_in ?_))
  have hv2 : ∀ x y, FV ((h.alloc x).alloc y) fa fs := fun x y => hv.mono ((Ag.alloc _ (Nat.le_refl _)).trans (Ag.alloc _ (by simp [n_alloc]))) (Nat.le_refl _)
  have t1 := fun x y b => check_Takes_ok (pr := prim) (bar := b) fs fa s n nm p m (hv2 x y)
  have t2 := fun x y b => engramref9_Takes_ok (pr := prim) (bar := b) fs fa s n nm p m (hv2 x y)
  have t3 := fun x y b => check_Find_ok (pr := prim) (bar := b) fs fa nm p m (hv2 x y)
  have t4 := fun x y b => engramref9_Find_ok (pr := prim) (bar := b) fs fa nm p m (hv2 x y)
  simp [f_engramlaw9_takes, env0, go_sem, get_alloc, n_alloc, get_set, n_set, get_kill, n_kill, writeAt, a11, a21, a31, a41, a51, a61, a71, endP, endI, resultsA, resultA, freezeL, freezeV, AV.free.freeL, AV.free, packA, dropS, Vw.one hv, t1, t2, t3, t4]
theorem tail_loop (n : Int) (hn : n ≤ 1000) (Q : Ex → Env → H → Prop) (hq : ∀ e s, e.get 3 = some (.str s) → s.size ≤ 1000 → Q (.exit 0) e h) : ∀ (k : Nat) (i : Int) (s : ByteArray), 0 ≤ i → i ≤ 1000 → 1000 ≤ i + k → (s.size : Int) ≤ i →
    wpL (call tb prim) bar [0, 3, 4] l0_engramlaw9_tail [(0, .int .i64 n), (3, .str s), (4, .int .i64 i)] h Q := by
  intro k
  induction k with
  | zero =>
    intro i s h1 h2 h3 h4
    refine M_loop l0_engramlaw9_tail.eq_1 ?_
    have c : ¬ i < n := by omega
    simp [go_sem, c]
    exact hq _ s rfl (by omega)
  | succ k ih =>
    intro i s h1 h2 h3 h4
    refine M_loop l0_engramlaw9_tail.eq_1 ?_
    by_cases c : i < n
    · have hw : IntKind.i64.wrap (i + 1) = i + 1 := w64 (by omega) (by omega)
      have hz : (ByteArray.mk #[43]).size = 1 := rfl
      have hsz : s.size + (ByteArray.mk #[43]).size ≤ 9223372036854775807 := by rw [hz]; omega
      have hs6 : s.size ≤ 9223372036854775806 := by omega
      simp [go_sem, c, strBin, hs6, hw]
      refine ih (i + 1) _ (by omega) (by omega) (by omega) ?_
      rw [ByteArray.size_append, hz]; omega
    · simp [go_sem, c]
      exact hq _ s rfl (by omega)
theorem tail_ok (n : Int) (hn : n ≤ 1000) : ∃ s, call tb prim n_engramlaw9_tail [.int .i64 n] bar h = some (.str s, h) ∧ s.size ≤ 1000 := by
  suffices hw : ∃ r, callF (call tb prim) f_engramlaw9_tail [.int .i64 n] bar h = some (r, h) ∧ ∃ s, r = .str s ∧ s.size ≤ 1000 by
    obtain ⟨r, h1, s, rfl, h2⟩ := hw; exact ⟨s, call_of tb_engramlaw9_tail h1, h2⟩
  refine callF_pureK rfl rfl fun K hK => ?_
  simp [f_engramlaw9_tail, env0, go_sem]
  refine tail_loop (bar := h.n) n hn _ (fun e s h1 h2 => ?_) 1000 0 ⟨#[]⟩ (by omega) (by omega) (by omega) (by show ((0 : Nat) : Int) ≤ 0; omega)
  simp [go_sem, endX, resultsA, resultA, freezeL, AV.free.freeL, packA, h1, freezeV, AV.free]
  exact hK _ ⟨s, rfl, h2⟩
theorem known_facts : funN (fun l => (nestP l).isSome) [oneF ⟨#[49, 32, 50, 43]⟩] 0 = ([0, 1, 2], 0) ∧ funN (fun l => (nestP l).isSome) [oneF ⟨#[43]⟩] 0 = ([], 14) ∧ funN (fun l => (nestP l).isSome) [oneF ⟨#[194, 161, 49]⟩] 0 = ([], 15) ∧ funN (fun l => (nestP l).isSome) [oneF ⟨#[49]⟩] 1 = ([], 23) ∧
    takesN [oneF ⟨#[]⟩] 36 0 = (2, 0, true) ∧ findN 102 [oneF ⟨#[]⟩] 0 = 0 ∧ findN 120 [oneF ⟨#[]⟩] 0 = -1 := by
  refine ⟨?_, ?_, ?_, ?_, ?_, ?_, ?_⟩ <;> decide +kernel
theorem known_ok : call tb prim n_engramlaw9_known [] bar h = some (.bool true, h) := by
  refine call_of tb_engramlaw9_known (callF_pureW rfl rfl (M_in ?_))
  obtain ⟨k1, k2, k3, k4, k5, k6, k7⟩ := known_facts
  have o := fun s b (g : H) => one_ok (bar := b) (h := g) s
  simp only [oneA] at o
  obtain ⟨a1, c1, v1⟩ := check_Func_N (bar := h.n) (h := h) (p := 0) (m := 0) _ 0 (one_fv ⟨#[49, 32, 50, 43]⟩ h)
  obtain ⟨a2, c2, v2⟩ := check_Func_N (bar := h.n) (h := h) (p := 0) (m := 0) _ 0 (one_fv ⟨#[43]⟩ h)
  obtain ⟨a3, c3, v3⟩ := check_Func_N (bar := h.n) (h := h) (p := 0) (m := 0) _ 0 (one_fv ⟨#[194, 161, 49]⟩ h)
  obtain ⟨a4, c4, v4⟩ := check_Func_N (bar := h.n) (h := h) (p := 0) (m := 0) _ 1 (one_fv ⟨#[49]⟩ h)
  rw [k1] at c1 v1
  rw [k2] at c2
  rw [k3] at c3
  rw [k4] at c4
  have c5 := check_Takes_ok (pr := prim) (bar := h.n) (h := h) [oneF ⟨#[]⟩] _ 36 0 0 0 0 (one_fv ⟨#[]⟩ h)
  rw [k5] at c5
  have hvs : Vw 1 (h.alloc (.cells [.int .i64 0, .int .i64 1, .int .i64 2] 0)) (.sl h.n 0 1 3 true) 3 [.int .i64 0, .int .i64 1, .int .i64 2] := ⟨rfl, by omega, .inr (.inr ⟨h.n, 0, true, _, 0, rfl, by simp [n_alloc], by rw [get_alloc, if_pos rfl], by simp, rfl⟩)⟩
  have c6 := Same_ok (bar := h.n) (h := h.alloc (.cells [.int .i64 0, .int .i64 1, .int .i64 2] 0)) [0, 1, 2] [0, 1, 2] a1 _ (v1.vw _) hvs
  have c7 := fun (g : H) => check_Find_ok (pr := prim) (bar := h.n) (h := g) [oneF ⟨#[]⟩] _ 102 0 0 (one_fv ⟨#[]⟩ g)
  have c8 := fun (g : H) => check_Find_ok (pr := prim) (bar := h.n) (h := g) [oneF ⟨#[]⟩] _ 120 0 0 (one_fv ⟨#[]⟩ g)
  rw [k6] at c7
  rw [k7] at c8
  simp [f_engramlaw9_known, env0, go_sem, get_alloc, n_alloc, get_set, n_set, get_kill, n_kill, writeAt, a11, a21, a31, a41, a51, a61, a71, endP, endI, resultsA, resultA, freezeL, freezeV, AV.free.freeL, AV.free, packA, dropS, o, c1, c2, c3, c4, c5, c6, c7, c8, evParts, fillA, splice]
end
end Go.Ev
