/- What a program that is made of a tape comes to; nothing is assumed. -/
import Derived.Test.YtliegbpmmjkmkaaDoorB2
set_option linter.unusedSimpArgs false
set_option linter.unusedVariables false
set_option linter.all false
namespace Go.Ev
open Go
def nOk (l : List Tok) : Bool := (nestP l).isSome
theorem findN_app {nm : Int} {g : List Fn} : ∀ (fs : List Fn) (j : Nat), findN nm fs j ≠ -1 → findN nm (fs ++ g) j = findN nm fs j
  | [], j, h => absurd rfl h
  | f :: r, j, h => by
    simp only [List.cons_append, findN] at h ⊢
    split
    · rfl
    · rename_i c
      rw [if_neg c] at h
      exact findN_app r (j + 1) h
theorem takes_app {fs g : List Fn} {s nm : Int} (h : (takesN fs s nm).2.2 = true) : takesN (fs ++ g) s nm = takesN fs s nm := by
  have hc : (callT fs nm).2.2 = true → callT (fs ++ g) nm = callT fs nm := fun h => by
    unfold callT at h ⊢
    rcases findN_some nm fs 0 with e | ⟨i, hi, e⟩
    · rw [e] at h
      split at h <;> simp at h
    · have e2 := findN_app (g := g) fs 0 (by rw [e]; omega)
      rw [e2, e] at *
      simp only [Nat.zero_add, Int.toNat_natCast] at *
      rw [List.getElem?_append_left hi]
  by_cases c : s = 955
  · rw [T9 c] at h ⊢; rw [T9 c]; exact hc h
  · unfold takesN; simp only [if_neg c]
theorem jtok_takes {fs : List Fn} {t : Tok} {s : Js} (h : (jtok fs t s).1 = 0) : (takesN fs t.sign t.name).2.2 = true := by
  rcases jtok_cases h with ⟨_, e, _⟩ | ⟨_, _, _, e, _⟩
  · rw [takes_end fs t.name e]
  · exact e
theorem jtok_app {fs g : List Fn} {t : Tok} {s : Js} (h : (jtok fs t s).1 = 0) : jtok (fs ++ g) t s = jtok fs t s := by
  have e := takes_app (g := g) (jtok_takes h)
  unfold jtok; rw [e]
theorem jloop_app {fs g : List Fn} : ∀ (l : List Tok) (s : Js) (o : List Int), (jloop fs l s o).1 = 0 → jloop (fs ++ g) l s o = jloop fs l s o
  | [], s, o, _ => rfl
  | t :: r, s, o, h => by
    simp only [jloop] at h ⊢
    split at h
    · rename_i c
      rw [jtok_app c, if_pos c, if_pos c]
      exact jloop_app r _ _ h
    · rename_i c; exact absurd h c
theorem funT_app {fs g : List Fn} {ts : List Tok} {ok : Bool} (h : (funT fs ts ok).2 = 0) : funT (fs ++ g) ts ok = funT fs ts ok := by
  unfold funT at h ⊢
  split at h
  · simp at h
  · rename_i c
    rw [if_neg c, if_neg c]
    split at h
    · rename_i c2; exact absurd h c2
    · rename_i c2
      have e := jloop_app (fs := fs) (g := g) ts ⟨0, []⟩ [] (by omega)
      rw [e]
/-- The judgement of one function, by its code. -/
def codeN (fs : List Fn) (c : ByteArray) : List Int × Int := if (toksN c).2 ≠ 0 then ([], (toksN c).2) else funT fs (toksN c).1 (nOk (toksN c).1)
theorem funN_code {fs : List Fn} {k : Nat} (hk : k < fs.length) : funN (fun l => (nestP l).isSome) fs k = codeN fs fs[k].code := by
  unfold funN
  rw [if_neg (by omega), Int.toNat_natCast, List.getElem?_eq_getElem hk]
  rfl
theorem codeN_app {fs g : List Fn} {c : ByteArray} (h : (codeN fs c).2 = 0) : codeN (fs ++ g) c = codeN fs c := by
  unfold codeN at h ⊢
  split at h
  · rename_i q; exact absurd h q
  · rename_i q
    rw [if_neg q, if_neg q]; exact funT_app h
/-- The judgement does not look at other codes. -/
theorem findN_names {nm : Int} : ∀ (fs gs : List Fn) (j : Nat), fs.map (·.name) = gs.map (·.name) → findN nm fs j = findN nm gs j
  | [], [], _, _ => rfl
  | [], _ :: _, _, h => by simp at h
  | _ :: _, [], _, h => by simp at h
  | f :: r, g :: q, j, h => by
    simp only [List.map_cons, List.cons.injEq] at h
    simp only [findN, h.1, findN_names r q (j + 1) h.2]
theorem toks_code {s : ByteArray} {l : List Tok} {n : Nat} (h : Code s l n) (hn : n ≤ 512) : toksN s = (l, 0) := by
  obtain ⟨rs, w, x, z⟩ := h
  unfold toksN
  rw [if_neg (by omega), w.runes, x.tok]
theorem Alive.app {l : List Tok} (m : List Tok) (h : Alive l) : Alive (m ++ l) := fun fs s s' hb hr => by
  rw [jrun_app] at hr
  cases h1 : jrun fs m s with
  | none => rw [h1] at hr; cases hr
  | some s1 => rw [h1] at hr; exact h fs s1 s' (jrun_JB hb h1) hr
def a1p : List Tok := [⟨97, 0, 0⟩, ⟨48, 1, 0⟩, ⟨43, 0, 0⟩]
theorem a1p_code : Code ⟨#[97, 32, 49, 43]⟩ a1p 4 := by
  have t : Tx ([97] ++ ([32, 49] ++ [43])) a1p := (Tx.sign (x := 97) (by omega) rfl (by omega) rfl).app ((Tx.num (ds := [49]) (by decide) (by simp) (by simp)).app (Tx.sign (x := 43) (by omega) rfl (by omega) rfl))
  exact ⟨[97, 32, 49, 43], asc_ok [97, 32, 49, 43] _ rfl, t, Nat.le_refl _⟩
theorem a1p_alive : Alive a1p := Alive.plain [⟨97, 0, 0⟩, ⟨48, 1, 0⟩] rfl
theorem a1p_fun (fs : List Fn) : funT fs a1p true = ([0, 1, 2], 0) := by
  have e1 : takesN fs 97 0 = (0, 1, true) := T1 (by omega)
  have e2 : takesN fs 48 0 = (0, 1, true) := T1 (by omega)
  have e3 : takesN fs 43 0 = (2, 1, true) := T4 rfl
  simp [funT, a1p, jloop, jtok, jturn, e1, e2, e3, jbase]
theorem a1p_ok (fs : List Fn) : (codeN fs ⟨#[97, 32, 49, 43]⟩).2 = 0 := by
  unfold codeN
  rw [toks_code a1p_code (by omega)]
  have : nOk a1p = true := rfl
  simp only [this, a1p_fun]; rfl
/-- A program that is made of a tape: its functions so far. -/
def FnOk1 (fs : List Fn) (c : ByteArray) : Prop := (∃ l, Code c l 400 ∧ Alive l) ∧ (codeN fs c).2 = 0
def nmI (i : Nat) : Int := if i = 0 then 102 else if i = 1 then 103 else 945
def GoodU (fs : List Fn) : Prop := fs.length ≤ 3 ∧ (∀ i (h : i < fs.length), fs[i].name = nmI i ∧ 0 ≤ fs[i].args ∧ fs[i].args ≤ 2) ∧ ∀ i (h : i < fs.length), FnOk1 fs fs[i].code
theorem GoodU.fns {fs : List Fn} (h : GoodU fs) : FnsOk fs := fun f hf => by
  obtain ⟨i, hi, rfl⟩ := List.getElem_of_mem hf
  have := h.2.1 i hi
  refine ⟨?_, this.2⟩
  rw [this.1]; unfold nmI
  split
  · exact .inl rfl
  · split
    · exact .inr (.inl rfl)
    · exact .inr (.inr rfl)
theorem GoodU.nil : GoodU [] := ⟨by simp, fun i h => by simp at h, fun i h => by simp at h⟩
theorem codeN_args {fs gs : List Fn} (hl : fs.length = gs.length) (h : ∀ i (a : i < fs.length) (b : i < gs.length), fs[i].name = gs[i].name ∧ fs[i].args = gs[i].args) (c : ByteArray) : codeN fs c = codeN gs c := by
  have hn : fs.map (·.name) = gs.map (·.name) := List.ext_getElem (by simp [hl]) fun i a b => by simp; exact (h i _ _).1
  have hc : ∀ nm, callT fs nm = callT gs nm := fun nm => by
    unfold callT
    rw [findN_names fs gs 0 hn]
    by_cases q : (findN nm gs 0).toNat < gs.length
    · rw [List.getElem?_eq_getElem q, List.getElem?_eq_getElem (by omega)]
      simp only [(h _ (by omega) q).2]
    · rw [List.getElem?_eq_none (by omega), List.getElem?_eq_none (by omega)]
  have ht : ∀ s nm, takesN fs s nm = takesN gs s nm := fun s nm => by unfold takesN; rw [hc]
  have hj : ∀ t s, jtok fs t s = jtok gs t s := fun t s => by unfold jtok; rw [ht]
  have hl : ∀ l s o, jloop fs l s o = jloop gs l s o := fun l => by
    induction l with
    | nil => intro s o; rfl
    | cons t r ih => intro s o; simp only [jloop, hj, ih]
  unfold codeN funT; simp only [hl]
/-- One function more. -/
theorem GoodU.snoc {fs : List Fn} (h : GoodU fs) (h3 : fs.length < 3) {a : Int} (ha : 0 ≤ a ∧ a ≤ 2) {c : ByteArray} (hc : ∃ l, Code c l 400 ∧ Alive l) (hok : (codeN (fs ++ [⟨nmI fs.length, a, c⟩]) c).2 = 0) : GoodU (fs ++ [⟨nmI fs.length, a, c⟩]) := by
  refine ⟨by simp; omega, fun i hi => ?_, fun i hi => ?_⟩
  · by_cases q : i < fs.length
    · rw [List.getElem_append_left q]; exact h.2.1 i q
    · have : i = fs.length := by simp at hi; omega
      subst this
      simp; exact ha
  · by_cases q : i < fs.length
    · rw [List.getElem_append_left q]
      obtain ⟨x, y⟩ := h.2.2 i q
      exact ⟨x, by rw [codeN_app y]; exact y⟩
    · have : i = fs.length := by simp at hi; omega
      subst this
      simp; exact ⟨hc, hok⟩
end Go.Ev
namespace Go.Ev
open Go
theorem Cd.cut {s : ByteArray} {n k : Nat} (h : Cd s n) (hs : s.size ≤ k) : Cd s k := by obtain ⟨l, r, w, x, _⟩ := h; exact ⟨l, r, w, x, hs⟩
section
variable {bar T U : Nat} {h : H} {fa : AV} {fs : List Fn} {L : List Int}
theorem unit_l0 (hb : bar ≤ T) (hfs : FnsOk fs) (hfl : fs.length ≤ 1000) (hv : FV h fa fs) (hfa : ¬ fa.isAt T) (p m : Int) (hU : h.get U = some (.cells [.int .i64 p, .int .i64 m, fa] 0)) (hUn : U < h.n) (hUT : U ≠ T) (r2 v5 v6 : AV) (Q : Ex → Env → H → Prop) : ∀ (n : Nat) (g : H) (s : ByteArray), Up T h g → TS g T L → Cd s 249 →
    (∀ e g' s', e.get 2 = some r2 → e.get 3 = some (.ptr T 0) → e.get 4 = some (.ptr U 0) → e.get 5 = some v5 → e.get 6 = some v6 → e.get 7 = some (.str s') → Up T h g' → TS g' T L → Cd s' 249 → Q (.exit 2) e g') →
    n < 100 → wpL (call tb prim) bar [2, 3, 4, 5, 6, 7, 8] l0_engramkeep_Unit [(2, r2), (3, .ptr T 0), (4, .ptr U 0), (5, v5), (6, v6), (7, .str s), (8, .int .i64 (n : Nat))] g Q := by
  intro n
  induction n with
  | zero =>
    intro g s hu ht hs hq _
    refine M_loop l0_engramkeep_Unit.eq_1 ?_
    simp [go_sem]
    exact hq _ _ s rfl rfl rfl rfl rfl rfl hu ht hs
  | succ n ih =>
    intro g s hu ht hs hq hn
    refine M_loop l0_engramkeep_Unit.eq_1 ?_
    have hgU := (hu.2 U hUn hUT).trans hU
    obtain ⟨d, g1, e1, c1, u1, t1⟩ := deed_ok (value_ok hfs hfl 2 2 (by omega) (by omega) (by omega)) (value_ok hfs hfl 1 1 (by omega) (by omega) (by omega)) 2 2 (by omega) (by omega) bar T g fa hb ht (Vw.up hv hu hfa) hfa
    have z := c1.size
    have z0 : dB (2 : Int).toNat = 321 := rfl
    have zs := hs.size
    obtain ⟨b, e2⟩ := halts_ok (bar := bar) (h := g1) d (by omega)
    have w1 : IntKind.i64.wrap ((s.size : Int) + (d.size : Int)) = (s.size : Int) + (d.size : Int) := w64 (by omega) (by omega)
    have w2 : IntKind.i64.wrap (((n + 1 : Nat) : Int) - 1) = (n : Nat) := by rw [w64 (by omega) (by omega)]; omega
    have w2' : IntKind.i64.wrap (n : Int) = (n : Nat) := w64 (by omega) (by omega)
    have cn : (0 : Int) < (n : Int) + 1 := by omega
    have g2 : s.size + d.size ≤ 9223372036854775807 := by omega
    by_cases c : (s.size : Int) + (d.size : Int) < 250
    · cases b with
      | false =>
        simp [go_sem, hgU, e1, w1, c, e2, sb_add, g2, w2, w2', cn]
        exact ih g1 _ (hu.trans u1) t1 ((hs.app c1).cut (by rw [ByteArray.size_append]; omega)) hq (by omega)
      | true =>
        simp [go_sem, hgU, e1, w1, c, e2, w2, w2', cn]
        exact ih g1 _ (hu.trans u1) t1 hs hq (by omega)
    · simp [go_sem, hgU, e1, w1, c, w2, w2', cn]
      exact ih g1 _ (hu.trans u1) t1 hs hq (by omega)
end
end Go.Ev
namespace Go.Ev
open Go
theorem OS.vw {k : Nat} {h : H} {bar : Nat} {a : AV} {n : Nat} {cs : List AV} (v : OS k h bar a n cs) (hn : n ≤ 9223372036854775807) : Vw k h a n cs := by
  obtain ⟨h1, h2, ⟨rfl, e⟩ | ⟨id, rest, e1, e2, e3, e4⟩⟩ := v
  · exact ⟨h1, hn, .inl ⟨rfl, e⟩⟩
  · refine ⟨h1, hn, .inr (.inr ⟨id, 0, false, _, 0, e1, e3, e4, by rw [List.length_append, h1]; omega, ?_⟩)⟩
    rw [List.drop_zero, ← h1]; exact List.take_left ..
theorem fn_one (l : List Fn) : (l.flatMap Fn.cells).all AV.one = true := by
  rw [List.all_eq_true]; intro y hy; rw [List.mem_flatMap] at hy; obtain ⟨u, _, hy⟩ := hy; simp [Fn.cells] at hy; rcases hy with rfl | rfl | rfl <;> rfl
theorem nm_get {i : Nat} (hi : i < 3) : ([.int .i32 102, .int .i32 103, .int .i32 945, .int .i32 104, .int .i32 19990] : List AV)[i]? = some (.int .i32 (nmI i)) := by
  match i, hi with
  | 0, _ => rfl
  | 1, _ => rfl
  | 2, _ => rfl
/-- What the program is made of lies in R, T, U and in the list's own object. -/
structure UI (g : H) (bar R T U : Nat) (L : List Int) (p m : Int) (fa : AV) (fs : List Fn) : Prop where
  ts : TS g T L
  r : g.get R = some (.cells [.int .i64 0, .int .i64 0, .nilsl] 0)
  u : g.get U = some (.cells [.int .i64 p, .int .i64 m, fa] 0)
  os : OS 3 g bar fa fs.length (fs.flatMap Fn.cells)
  ge : ∀ j, fa.isAt j → U < j
  good : GoodU fs
  un : U < g.n
section
variable {bar R T U : Nat} {L : List Int} {p m : Int}
theorem unit_l1 (hb : bar ≤ R) (hRT : R < T) (hTU : T < U) (Q : Ex → Env → H → Prop) (hq : ∀ e g fa fs, UI g bar R T U L p m fa fs → e.get 2 = some (.ptr R 0) → e.get 4 = some (.ptr U 0) → Q (.exit 0) e g) : ∀ (k i : Nat) (g : H) (fa : AV) (fs : List Fn), 3 ≤ i + k → i = fs.length → UI g bar R T U L p m fa fs →
    wpL (call tb prim) bar [2, 3, 4, 5] l1_engramkeep_Unit [(2, .ptr R 0), (3, .ptr T 0), (4, .ptr U 0), (5, goI i)] g Q := by
  intro k
  induction k with
  | zero =>
    intro i g fa fs hk hi hI
    refine M_loop l1_engramkeep_Unit.eq_1 ?_
    obtain ⟨v, g1, e1, v0, v1, n1, u1, t1⟩ := Next_ok (bar := bar) hI.ts 3 (by omega) (by omega) (by omega)
    have w1 : IntKind.i64.wrap (1 + v) = 1 + v := w64 (by omega) (by omega)
    have c : ¬ (i : Int) < 1 + v := by omega
    simp [go_sem, e1, w1, c]
    refine hq _ g1 fa fs ⟨t1, ?_, ?_, ?_, hI.ge, hI.good, by have := hI.un; omega⟩ rfl rfl
    · rw [u1.2 R (by have := hI.un; omega) (by omega)]; exact hI.r
    · rw [u1.2 U hI.un (by omega)]; exact hI.u
    · refine hI.os.mono u1.1 fun j hj => u1.2 j (hI.os.at_lt hj).2 (by have := hI.ge j hj; omega)
  | succ k ih =>
    intro i g fa fs hk hi hI
    refine M_loop l1_engramkeep_Unit.eq_1 ?_
    obtain ⟨v, g1, e1, v0, v1, n1, u1, t1⟩ := Next_ok (bar := bar) hI.ts 3 (by omega) (by omega) (by omega)
    have w1 : IntKind.i64.wrap (1 + v) = 1 + v := w64 (by omega) (by omega)
    have hun := hI.un
    have hI1 : UI g1 bar R T U L p m fa fs := ⟨t1, by rw [u1.2 R (by omega) (by omega)]; exact hI.r, by rw [u1.2 U hI.un (by omega)]; exact hI.u, hI.os.mono u1.1 fun j hj => u1.2 j (hI.os.at_lt hj).2 (by have := hI.ge j hj; omega), hI.ge, hI.good, by omega⟩
    by_cases c : (i : Int) < 1 + v
    · have hi3 : i < 3 := by omega
      have hi5 : (i : Int) < 5 := by omega
      have hnm := nm_get hi3
      obtain ⟨v2, g2, e2, v20, v21, n2, u2, t2⟩ := Next_ok (bar := bar) t1 3 (by omega) (by omega) (by omega)
      have hT2 := t2.lt
      have nb : bar ≤ g2.n := by omega
      obtain ⟨g3, hg3⟩ : ∃ g3, g3 = (g2.alloc (.cells [.int .i32 0, .int .i64 0, .str ⟨#[]⟩] 0)).set g2.n (.cells [.int .i32 (nmI i), .int .i64 v2, .str ⟨#[]⟩] 0) := ⟨_, rfl⟩
      have u3 : Up T g2 g3 := by rw [hg3]; exact ⟨by simp [n_set, n_alloc], fun j hj _ => by rw [get_set, if_neg (by omega), get_alloc, if_neg (by omega)]⟩
      have n3 : g3.n = g2.n + 1 := by rw [hg3]; simp [n_set, n_alloc]
      have hF3 : g3.get g2.n = some (.cells [.int .i32 (nmI i), .int .i64 v2, .str ⟨#[]⟩] 0) := by rw [hg3, get_set, if_pos rfl]
      have t3 : TS g3 T L := t2.up u3 (by rw [hg3, get_set, if_neg (by omega), get_alloc, if_neg (by omega)])
      obtain ⟨n, g4, e3, n0, n4', n4, u4, t4⟩ := Next_ok (bar := bar) t3 4 (by omega) (by omega) (by omega)
      obtain ⟨n, rfl⟩ : ∃ k : Nat, n = (k : Nat) := ⟨n.toNat, by omega⟩
      have U4 : Up T g1 g4 := u2.trans (u3.trans u4)
      have hI4 : UI g4 bar R T U L p m fa fs := ⟨t4, by rw [U4.2 R (by omega) (by omega)]; exact hI1.r, by rw [U4.2 U (by omega) (by omega)]; exact hI1.u, hI1.os.mono U4.1 fun j hj => U4.2 j (hI1.os.at_lt hj).2 (by have := hI.ge j hj; omega), hI.ge, hI.good, by omega⟩
      have hfa : ¬ fa.isAt T := fun q => by have := hI.ge T q; omega
      have hfl := hI.good.1
      have hv4 : FV g4 fa fs := hI4.os.vw (by omega)
      rw [hg3] at e3
      simp [go_sem, e1, w1, c]
      refine ⟨⟨?_, ?_⟩, ?_⟩
      · refine sees_of rfl ?_
        simp [-getElem?_pos, R_nil, R_cons, RS_some, sameV_some, seesQ_some, List.take, List.take_succ_cons, List.take_zero, go_sem, get_alloc, n_alloc, get_set, n_set, get_kill, n_kill, writeAt, a11, a21, a31, a41, a51, a61, a71, Names_ok, indexIn, hi5, hnm, e2, evParts, fillA, splice]
      · refine sees_of rfl ?_
        simp [-getElem?_pos, R_nil, R_cons, RS_some, sameV_some, seesQ_some, List.take, List.take_succ_cons, List.take_zero, go_sem, get_alloc, n_alloc, get_set, n_set, get_kill, n_kill, writeAt, a11, a21, a31, a41, a51, a61, a71, Names_ok, indexIn, hi5, hnm, e2, evParts, fillA, splice]
      · simp [-getElem?_pos, go_sem, get_alloc, n_alloc, get_set, n_set, get_kill, n_kill, writeAt, a11, a21, a31, a41, a51, a61, a71, Names_ok, indexIn, hi5, hnm, e2, evParts, fillA, splice, nb, e3]
        refine unit_l0 (by omega) hI.good.fns (by omega) hv4 hfa p m hI4.u hI4.un (by omega) _ _ _ _ n g4 ⟨#[]⟩ (Up.refl _ _) t4 (Cd.nil.le (by omega)) (fun e g5 s q2 q3 q4 q5 q6 q7 u5 t5 hs => ?_) (by omega)
        obtain ⟨d, g6, e6, ⟨lv, cv, av⟩, u6, t6⟩ := value_ok hI.good.fns (by omega) 3 3 (by omega) (by omega) (by omega) bar T g5 fa (by omega) t5 (Vw.up hv4 u5 hfa) hfa
        have U6 : Up T g4 g6 := u5.trans u6
        have hI6 : UI g6 bar R T U L p m fa fs := ⟨t6, by rw [U6.2 R (by omega) (by omega)]; exact hI4.r, by rw [U6.2 U (by omega) (by omega)]; exact hI4.u, hI4.os.mono U6.1 fun j hj => U6.2 j (hI4.os.at_lt hj).2 (by have := hI.ge j hj; omega), hI.ge, hI.good, by have := U6.1; omega⟩
        have hF6 : g6.get g2.n = some (.cells [.int .i32 (nmI i), .int .i64 v2, .str ⟨#[]⟩] 0) := (U6.2 g2.n (by omega) (by omega)).trans ((u4.2 g2.n (by omega) (by omega)).trans hF3)
        obtain ⟨_, _, _, zd⟩ := id cv
        have hvb : vB (3 : Int).toNat = 174 := rfl
        have zs := hs.size
        have w2 : IntKind.i64.wrap ((s.size : Int) + (d.size : Int)) = (s.size : Int) + (d.size : Int) := w64 (by omega) (by omega)
        -- the code
        obtain ⟨d', hd', c', hc', hcode⟩ : ∃ d' : ByteArray, ((400 : Int) < (s.size : Int) + (d.size : Int) → d' = ⟨#[32, 53]⟩) ∧ (¬ (400 : Int) < (s.size : Int) + (d.size : Int) → d' = d) ∧ s.size + d'.size ≤ 400 ∧ ∃ l, Code (s ++ d') l 400 ∧ Alive l := by
          obtain ⟨ls, cs⟩ := hs
          by_cases q : (400 : Int) < (s.size : Int) + (d.size : Int)
          · have c5 : Code ⟨#[32, 53]⟩ [⟨48, dnum 0 [53], 0⟩] 2 := ⟨[32, 53], asc_ok [32, 53] _ rfl, Tx.num (ds := [53]) (by decide) (by simp) (by simp), Nat.le_refl _⟩
            exact ⟨⟨#[32, 53]⟩, fun _ => rfl, fun e => absurd q e, by have : (ByteArray.mk #[32, 53]).size = 2 := rfl; omega, _, (cs.app c5).le (by omega), Alive.plain _ rfl⟩
          · obtain ⟨r, w, x, z⟩ := cs.app cv
            exact ⟨d, fun e => absurd e q, fun _ => rfl, by omega, ls ++ lv, ⟨r, w, x, by rw [ByteArray.size_append]; omega⟩, Alive.app _ av⟩
        have gsz : s.size + d'.size ≤ 9223372036854775807 := by omega
        obtain ⟨g7, hg7⟩ : ∃ g7, g7 = g6.set g2.n (.cells [.int .i32 (nmI i), .int .i64 v2, .str (s ++ d')] 0) := ⟨_, rfl⟩
        have n7 : g7.n = g6.n := by rw [hg7]; rfl
        have hF6n : g2.n < g6.n := by have := U6.1; omega
        have f7 : ∀ j, j ≠ g2.n → g7.get j = g6.get j := fun j hj => by rw [hg7, get_set, if_neg hj]
        have hfaF : ¬ fa.isAt g2.n := fun q => by have := hI1.os.at_lt q; omega
        have os7 : OS 3 g7 bar fa fs.length (fs.flatMap Fn.cells) := by rw [hg7]; exact hI6.os.set _ hfaF
        obtain ⟨a', g8, e8, o8, n8, f8, ge8⟩ := os7.app (by omega) 32 [.int .i32 (nmI i), .int .i64 v2, .str (s ++ d')] rfl rfl (by omega) (by omega) (by omega)
        have hU8 : g8.get U = some (.cells [.int .i64 p, .int .i64 m, fa] 0) := by
          rw [f8 U (by omega) (fun q => by have := hI.ge U q; omega), f7 U (by omega)]; exact hI6.u
        have fr8 : ∀ j, j < g6.n → j ≠ g2.n → ¬ fa.isAt j → g8.get j = g6.get j := fun j h1 h2 h3 => by rw [f8 j (by omega) h3, f7 j h2]
        have hbU : bar ≤ U := by omega
        have hbF : bar ≤ g2.n := by omega
        obtain ⟨f, hf⟩ : ∃ f : Fn, f = ⟨nmI fs.length, v2, s ++ d'⟩ := ⟨_, rfl⟩
        have o9 : OS 3 (g8.set U (.cells [.int .i64 p, .int .i64 m, a'] 0)) bar a' (fs ++ [f]).length ((fs ++ [f]).flatMap Fn.cells) := by
          have := o8.set (id := U) (.cells [.int .i64 p, .int .i64 m, a'] 0) (fun q => by have := ge8 U q; omega)
          rw [hf, List.length_append, List.flatMap_append]
          rw [hi] at this
          exact this
        have hlen : (fs ++ [f]).length = i + 1 := by simp [hi]
        obtain ⟨ra, e9, hra⟩ := ref_Func_N (bar := bar) (p := p) (m := m) (fs ++ [f]) i (o9.vw (by omega))
        have hfi : (fs ++ [f])[i]'(by omega) = f := by simp [hi]
        have hcN := funN_code (fs := fs ++ [f]) (k := i) (by omega)
        rw [hfi] at hcN
        rw [hcN] at e9
        have hw : IntKind.i64.wrap ((i : Int) + 1) = ((i + 1 : Nat) : Int) := w64_succ (by omega)
        rw [hg7] at e8
        simp only [n_set] at e8
        have hI9 : ∀ gf a fs', (∀ j, j < g6.n → j ≠ g2.n → ¬ fa.isAt j → j ≠ U → gf.get j = g6.get j) → gf.get U = some (.cells [.int .i64 p, .int .i64 m, a] 0) → OS 3 gf bar a fs'.length (fs'.flatMap Fn.cells) → (∀ j, a.isAt j → U < j) → g6.n ≤ gf.n → GoodU fs' → UI gf bar R T U L p m a fs' := fun gf a fs' h1 h2 h3 h4 h5 h6 =>
          ⟨t6.keep h5 (fun j hj => h1 j (by omega) (by omega) (fun q => by have := hI.ge j q; omega) (by omega)), by rw [h1 R (by omega) (by omega) (fun q => by have := hI.ge R q; omega) (by omega)]; exact hI6.r, h2, h3, h4, h6, by omega⟩
        have hgU5 := (u5.2 U (by omega) (by omega)).trans hI4.u
        have l5 := hI4.os.len
        have hone := hI4.os.one
        have hUF : U ≠ g2.n := by omega
        have hone9 := o8.one
        obtain ⟨id, all, ea, hbid, hid9, hgid, hall, hx9, _, hset⟩ := o9.elems Fn.cells_len (by simp)
        rw [hlen] at ea hall
        have hgeid : g7.n < id := ge8 id (by rw [ea]; rfl)
        have hidU : id ≠ U := by omega
        have hg8id : g8.get id = some (.cells all 0) := by rw [← hgid, get_set, if_neg hidU]
        have hle : i * 3 + 2 + 1 ≤ all.length := by omega
        have hlt1 : (i : Int) < (i : Int) + 1 := by omega
        have hgood : (codeN (fs ++ [f]) f.code).2 = 0 → GoodU (fs ++ [f]) := fun hz => by
          rw [hf] at hz ⊢
          exact hI.good.snoc (by omega) ⟨v20, by omega⟩ hcode hz
        have hgo1 : (codeN (fs ++ [f]) f.code).2 = 0 → wpL (call tb prim) bar [2, 3, 4, 5] l1_engramkeep_Unit [(2, .ptr R 0), (3, .ptr T 0), (4, .ptr U 0), (5, .int .i64 ((i + 1 : Nat) : Int))] (g8.set U (.cells [.int .i64 p, .int .i64 m, a'] 0)) Q := fun hz =>
          ih (i + 1) _ a' (fs ++ [f]) (by omega) (by rw [hlen]) (hI9 _ _ _ (fun j h1 h2 h3 h4 => by rw [get_set, if_neg h4]; exact fr8 j h1 h2 h3) (by rw [get_set, if_pos rfl]) o9 (fun j q => by have := ge8 j q; omega) (by rw [n_set]; omega) (hgood hz))
        have hgo2 : wpL (call tb prim) bar [2, 3, 4, 5] l1_engramkeep_Unit [(2, .ptr R 0), (3, .ptr T 0), (4, .ptr U 0), (5, .int .i64 ((i + 1 : Nat) : Int))] ((g8.set U (.cells [.int .i64 p, .int .i64 m, a'] 0)).set id (.cells (splice all (i * 3 + 2) [.str ⟨#[97, 32, 49, 43]⟩]) 0)) Q := by
          have hs := hset i f ⟨nmI fs.length, v2, ⟨#[97, 32, 49, 43]⟩⟩ 2 [.str ⟨#[97, 32, 49, 43]⟩] ((g8.set U (.cells [.int .i64 p, .int .i64 m, a'] 0)).set id (.cells (splice all (i * 3 + 2) [.str ⟨#[97, 32, 49, 43]⟩]) 0)) (by rw [List.getElem?_eq_getElem (by omega), hfi]) (by simp) (by rw [hf]; rfl) rfl (by rw [n_set]; exact Nat.le_refl _) (by rw [get_set, if_pos rfl])
          have hse : (fs ++ [f]).set i ⟨nmI fs.length, v2, ⟨#[97, 32, 49, 43]⟩⟩ = fs ++ [⟨nmI fs.length, v2, ⟨#[97, 32, 49, 43]⟩⟩] := by
            rw [hi, List.set_append_right _ _ (Nat.le_refl _)]; simp
          rw [hse] at hs
          refine ih (i + 1) _ a' _ (by omega) (by simp [hi]) (hI9 _ _ _ (fun j h1 h2 h3 h4 => ?_) ?_ hs (fun j q => by have := ge8 j q; omega) (by rw [n_set, n_set]; omega) ?_)
          · rw [get_set, if_neg (by omega), get_set, if_neg h4]; exact fr8 j h1 h2 h3
          · rw [get_set, if_neg (fun q => hidU q.symm), get_set, if_pos rfl]
          · exact hI.good.snoc (by omega) ⟨v20, by omega⟩ ⟨a1p, a1p_code.le (by omega), a1p_alive⟩ (a1p_ok _)
        by_cases cq : (400 : Int) < (s.size : Int) + (d.size : Int)
        · have hd'' := hd' cq
          subst hd''
          have hsb := sb_add gsz
          simp [go_sem, get_alloc, n_alloc, get_set, n_set, get_kill, n_kill, writeAt, a11, a21, a31, a41, a51, a61, a71, q2, q3, q4, q5, q6, q7, hgU5, e6, w2, cq, hsb, hF6, hbF, hI6.u, hUF, evParts, fillA, splice, e8, hU8, hbU, hone9, e9]
          by_cases hz : (codeN (fs ++ [f]) f.code).2 = 0
          · simp [go_sem, hz, hw]
            exact hgo1 hz
          · have hzb : ((codeN (fs ++ [f]) f.code).2 != 0) = true := by simpa using hz
            simp [go_sem, get_alloc, n_alloc, get_set, n_set, get_kill, n_kill, writeAt, a11, a21, a31, a41, a51, a61, a71, hzb, hw, ea, indexIn, hlt1, hidU, hg8id, hbid, hle, o_str, o_sl, cells_one]
            rw [ea] at hgo2
            exact hgo2
        · have hd'' := c' cq
          subst hd''
          have hsb := sb_add gsz
          simp [go_sem, get_alloc, n_alloc, get_set, n_set, get_kill, n_kill, writeAt, a11, a21, a31, a41, a51, a61, a71, q2, q3, q4, q5, q6, q7, hgU5, e6, w2, cq, hsb, hF6, hbF, hI6.u, hUF, evParts, fillA, splice, e8, hU8, hbU, hone9, e9]
          by_cases hz : (codeN (fs ++ [f]) f.code).2 = 0
          · simp [go_sem, hz, hw]
            exact hgo1 hz
          · have hzb : ((codeN (fs ++ [f]) f.code).2 != 0) = true := by simpa using hz
            simp [go_sem, get_alloc, n_alloc, get_set, n_set, get_kill, n_kill, writeAt, a11, a21, a31, a41, a51, a61, a71, hzb, hw, ea, indexIn, hlt1, hidU, hg8id, hbid, hle, o_str, o_sl, cells_one]
            rw [ea] at hgo2
            exact hgo2
    · simp [go_sem, e1, w1, c]
      exact hq _ g1 fa fs hI1 rfl rfl
end
end Go.Ev
namespace Go.Ev
open Go
theorem sp33 (a b c u v w : AV) : splice [a, b, c] 0 [u, v, w] = [u, v, w] := Eq.trans rfl rfl
theorem still_fn (l : List Fn) : (l.flatMap Fn.cells).all AV.still = true := by
  rw [List.all_eq_true]; intro y hy; rw [List.mem_flatMap] at hy; obtain ⟨u, _, hy⟩ := hy; simp [Fn.cells] at hy; rcases hy with rfl | rfl | rfl <;> rfl
section
variable {bar : Nat} {h : H} {la : AV} {L : List Int}
theorem Vw.at_lt {k : Nat} {h : H} {a : AV} {n : Nat} {cs : List AV} (v : Vw k h a n cs) {j : Nat} (hj : a.isAt j) : j < h.n := by
  obtain ⟨h1, h2, ⟨rfl, _⟩ | ⟨full, rfl⟩ | ⟨id, off, full, all, p, rfl, e2, _⟩⟩ := v
  · exact hj.elim
  · exact hj.elim
  · cases hj; exact e2
theorem Unit_ok (hv : Vw 1 h la L.length (L.flatMap i64c)) : ∃ p m fa fs, call tb prim n_engramkeep_Unit [la] bar h = some (.agg [.int .i64 p, .int .i64 m, fa], h) ∧ FzV 3 fa fs.length (fs.flatMap Fn.cells) ∧ GoodU fs := by
  obtain ⟨r, hc, p, m, fa, fs, rfl, k⟩ := callF_pureK (o := call tb prim) (F := f_engramkeep_Unit) (bar := bar) (h := h) (args := [la]) (P := fun r => ∃ p m fa fs, r = .agg [.int .i64 p, .int .i64 m, fa] ∧ FzV 3 fa fs.length (fs.flatMap Fn.cells) ∧ GoodU fs) rfl rfl (fun K hK => by
    have hla := hv.one
    obtain ⟨h2, hh2⟩ : ∃ h2, h2 = (h.alloc (.cells [.int .i64 0, .int .i64 0, .nilsl] 0)).alloc (.cells [la, .int .i64 0] 0) := ⟨_, rfl⟩
    have n2 : h2.n = h.n + 2 := by rw [hh2]; simp [n_alloc]
    have hag : Ag h.n h h2 := by rw [hh2]; exact (Ag.alloc _ (Nat.le_refl _)).trans (Ag.alloc _ (by simp [n_alloc]))
    have t2 : TS h2 (h.n + 1) L := ⟨la, 0, by rw [hh2]; simp [get_alloc, n_alloc], by omega, fun j hj => by have := hv.at_lt hj; omega, hv.mono hag (Nat.le_refl _), by omega⟩
    have r2 : h2.get h.n = some (.cells [.int .i64 0, .int .i64 0, .nilsl] 0) := by rw [hh2]; simp [get_alloc, n_alloc]
    obtain ⟨v, g1, e1, v0, v1, n1, u1, t1⟩ := Next_ok (bar := h.n) t2 3 (by omega) (by omega) (by omega)
    obtain ⟨g2, hg2⟩ : ∃ g2, g2 = (g1.alloc (.cells [.int .i64 0, .int .i64 0, .nilsl] 0)).set g1.n (.cells [.int .i64 v, .int .i64 0, .nilsl] 0) := ⟨_, rfl⟩
    have u2 : Up (h.n + 1) g1 g2 := by rw [hg2]; exact ⟨by simp [n_set, n_alloc], fun j hj _ => by rw [get_set, if_neg (by omega), get_alloc, if_neg (by omega)]⟩
    have t2' : TS g2 (h.n + 1) L := t1.up u2 (by rw [hg2, get_set, if_neg (by omega), get_alloc, if_neg (by omega)])
    have n3 : g2.n = g1.n + 1 := by rw [hg2]; simp [n_set, n_alloc]
    obtain ⟨x, g3, e3, x0, x1, n4, u3, t3⟩ := Next_ok (bar := h.n) t2' 3 (by omega) (by omega) (by omega)
    have hU2 : g2.get g1.n = some (.cells [.int .i64 v, .int .i64 0, .nilsl] 0) := by rw [hg2, get_set, if_pos rfl]
    have hU3 : g3.get g1.n = some (.cells [.int .i64 v, .int .i64 0, .nilsl] 0) := (u3.2 g1.n (by omega) (by omega)).trans hU2
    have hbU : h.n ≤ g1.n := by omega
    have w1 : IntKind.i64.wrap (v + 1) = v + 1 := w64 (by omega) (by omega)
    have w2 : IntKind.i64.wrap (v + 1 + x) = v + 1 + x := w64 (by omega) (by omega)
    rw [hh2] at e1
    rw [hg2] at e3
    simp [f_engramkeep_Unit, env0, go_sem, get_alloc, n_alloc, get_set, n_set, get_kill, n_kill, writeAt, a11, a21, a31, a41, a51, a61, a71, evParts, fillA, sp20, splice, hla, e1, hbU]
    refine ⟨?_, ?_⟩
    · refine sees_of rfl ?_
      simp [R_nil, R_cons, RS_some, sameV_some, seesQ_some, List.take, List.take_succ_cons, List.take_zero, go_sem, get_alloc, n_alloc, get_set, n_set, get_kill, n_kill, writeAt, a11, a21, a31, a41, a51, a61, a71, w1, e3, hU3, hbU, splice, w2]
    · simp [go_sem, get_alloc, n_alloc, get_set, n_set, get_kill, n_kill, writeAt, a11, a21, a31, a41, a51, a61, a71, w1, e3, hU3, hbU, splice, w2]
      have hI : UI (g3.set g1.n (.cells [.int .i64 v, .int .i64 (v + 1 + x), .nilsl] 0)) h.n h.n (h.n + 1) g1.n L v (v + 1 + x) .nilsl [] := {
        ts := t3.keep (by rw [n_set]; exact Nat.le_refl _) fun j hj => by rw [get_set, if_neg (by omega)]
        r := by rw [get_set, if_neg (by omega), u3.2 h.n (by omega) (by omega), hg2, get_set, if_neg (by omega), get_alloc, if_neg (by omega), u1.2 h.n (by omega) (by omega)]; exact r2
        u := by rw [get_set, if_pos rfl]
        os := OS.nil
        ge := fun j hj => hj.elim
        good := GoodU.nil
        un := by rw [n_set]; omega }
      refine unit_l1 (Nat.le_refl _) (by omega) (by omega) _ (fun e g fa fs hI q2 q4 => ?_) 3 0 _ .nilsl [] (by omega) rfl hI
      obtain ⟨fa', h', e1', fz⟩ := OS.freeze (h := g.set h.n (.cells [.int .i64 v, .int .i64 (v + 1 + x), fa] 0)) (hI.os.set _ (fun q => by have := hI.ge _ q; omega)) (still_fn fs) (by have := hI.good.1; omega) 1
      simp [go_sem, get_alloc, n_alloc, get_set, n_set, get_kill, n_kill, writeAt, a11, a21, a31, a41, a51, a61, a71, q2, q4, hI.u, hI.r, hI.os.one, sp33]
      simp [go_sem, endX, resultsA, resultA, freezeL, AV.free.freeL, packA, freezeV, freezeL, get_set, e1', fz.free, AV.free]
      exact hK _ ⟨_, _, _, _, rfl, fz, hI.good⟩)
  exact ⟨p, m, fa, fs, call_of tb_engramkeep_Unit hc, k⟩
end
end Go.Ev
