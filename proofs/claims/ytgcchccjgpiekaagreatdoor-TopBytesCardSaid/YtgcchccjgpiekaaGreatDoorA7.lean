/- Part 7 of the proof that a law of this seat (the one that GOCLAIM.json names) returns true for every argument; nothing is assumed. -/
import Derived.Test.YtgcchccjgpiekaaGreatDoorA6
set_option linter.unusedSimpArgs false
set_option linter.unusedVariables false
set_option linter.all false
set_option linter.unusedSectionVars false
namespace Go.Ev
open Go
def ptG : ByteArray := ⟨#[97, 49, 43, 65, 98, 50, 42, 66, 97, 98, 43]⟩
def ptF : ByteArray := ⟨#[97, 98, 206, 187, 103, 44, 97, 98, 45]⟩
def ptH : ByteArray := ⟨#[98, 97, 206, 187, 103, 97, 98, 206, 187, 102, 43]⟩
def ptFs : List Fn := [⟨103, 2, ptG⟩, ⟨102, 2, ptF⟩, ⟨104, 2, ptH⟩]
theorem part_unit : UnitOk 0 0 ptFs [partG, partF, partH] := by
  refine ⟨by kernel_rfl, fun f hf => ?_, fun f hf k hk => ?_, fun f hf => ?_, by decide, by kernel_rfl⟩
  · have : ptFs.all (fun f => nestP (gTok f.code).1 == some (codeW f).to && (codeW f).to.all (fun x => decide (x ≤ 2000))) = true := by kernel_rfl
    rw [List.all_eq_true] at this
    have := this f hf
    simp only [Bool.and_eq_true, beq_iff_eq, List.all_eq_true, decide_eq_true_eq] at this
    exact ⟨_, this.1, this.2⟩
  · have : ptFs.all (fun f => (gTok f.code).1.all (fun k => sigOk k.sign)) = true := by kernel_rfl
    rw [List.all_eq_true] at this
    have := this f hf
    rw [List.all_eq_true] at this
    exact this k hk
  · have : ptFs.all (fun f => decide (0 ≤ f.args) && decide (f.args ≤ 26)) = true := by kernel_rfl
    rw [List.all_eq_true] at this
    have := this f hf
    simpa using this
theorem fillO2 (nm : Int) (s : ByteArray) : fillA [.int .i32 0, .int .i64 0, .str ⟨#[]⟩] [(0, 1, .int .i32 nm), (1, 1, .int .i64 2), (2, 1, .str s)] = some [.int .i32 nm, .int .i64 2, .str s] := by
  rw [fillA_one rfl (by simp), fillA_one rfl (by simp [splice]), fillA_one rfl (by simp [splice])]; rfl
theorem fillO9 {a b c d e f g h i : AV} (ha : ([a, b, c].all AV.one) = true) (hb : ([d, e, f].all AV.one) = true) (hc : ([g, h, i].all AV.one) = true) : fillA [.int .i32 0, .int .i64 0, .str ⟨#[]⟩, .int .i32 0, .int .i64 0, .str ⟨#[]⟩, .int .i32 0, .int .i64 0, .str ⟨#[]⟩] [(0, 3, .agg [a, b, c]), (3, 3, .agg [d, e, f]), (6, 3, .agg [g, h, i])] = some [a, b, c, d, e, f, g, h, i] := by
  rw [fillA_cons (n := 3) (v := .agg [a, b, c]) rfl (by simp) ha, fillA_cons (n := 3) (v := .agg [d, e, f]) rfl (by simp [splice, AV.cells]) hb, fillA_cons (n := 3) (v := .agg [g, h, i]) rfl (by simp [splice, AV.cells]) hc]; rfl
theorem fillO2i (a b : Int) : fillA [.int .i64 0, .int .i64 0] [(0, 1, .int .i64 a), (1, 1, .int .i64 b)] = some [.int .i64 a, .int .i64 b] := by
  rw [fillA_one rfl (by simp), fillA_one rfl (by simp [splice])]; rfl
section
variable {bar : Nat} {g : H}
theorem run_two {ga : H} {nm : Int} {c : Code'} {k : Nat} {f : Fn} (hbar : bar ≤ ga.n) {id : Nat} (hFV : FV ga (.sl id 0 3 3 true) ptFs) (hk : findN nm ptFs 0 = k) (hf : ptFs[k]? = some f) (hc : codeW f = c) (ha : f.args = 2) {a b v : Int}
    (hr : resM (runM ptFs [partG, partF, partH] 99 (M1 c (zeroM 0 0) ⟨[], []⟩ 0 (lc a b 0 0 0 0 0 0) [])) = some (0, v)) :
    ∃ g2 M g3 g5 xa n', call tb prim n_cells_New [.int .i64 0, .int .i64 0] bar ga = some (.ptr M 0, g2) ∧ call tb prim n_reply_New [.nilsl] bar g2 = some (.ptr g2.n 0, g3) ∧ g3.n = g2.n + 1 ∧ ga.n ≤ g2.n ∧ (∀ j, j < ga.n → g2.get j = ga.get j) ∧ (∀ j, j < g2.n → g3.get j = g2.get j) ∧
      call tb prim n_engine_Run [.agg [.int .i64 0, .int .i64 0, .sl id 0 3 3 true], .ptr M 0, .ptr g2.n 0, .int .i32 nm, .int .i64 99, .sl g3.n 0 1 2 true] bar (g3.alloc (.cells [.int .i64 a, .int .i64 b] 0)) = some (.tup [.agg [.int .i64 v, .int .i64 0, .int .i64 n', xa], .int .i64 0], g5) ∧ xa.one = true ∧ ga.n ≤ g5.n ∧ (∀ j, j < ga.n → g5.get j = ga.get j) := by
  cases hrun : runM ptFs [partG, partF, partH] 99 (M1 c (zeroM 0 0) ⟨[], []⟩ 0 (lc a b 0 0 0 0 0 0) []) with
  | none => rw [hrun] at hr; cases hr
  | some x =>
    obtain ⟨s', w, n'⟩ := x
    rw [hrun] at hr
    simp only [resM, Option.map_some, Option.some.injEq, Prod.mk.injEq] at hr
    obtain ⟨hr1, hr2⟩ := hr
    obtain ⟨g2, M, g3, g5, xa, e2, e3, n3, n2, k2, k3, e5, hxa, n5, k5⟩ := run_new (bar := bar) (g := ga) part_unit hFV hbar (pages := 0) (most := 0) (by omega) (by omega) (nm := nm) (fuel := 99) (by omega) (by omega) (k := k) hk (f := f) hf (args := [a, b]) ha (by simp) (by rw [hc]; exact hrun)
    unfold runRes at e5
    rw [hr1, hr2] at e5
    exact ⟨g2, M, g3, g5, xa, n', e2, e3, n3, n2, k2, k3, e5, hxa.one, n5, fun j hj => k5 j hj (.inr trivial)⟩
theorem TopParts_ok {a b : Int} : call tb prim n_engramtop_TopParts [.int .i64 a, .int .i64 b] bar g = some (.bool true, g) := by
  refine call_of tb_engramtop_TopParts (callF_pureW rfl rfl (M_in ?_))
  have eA := fun g' => top_awake_ok (bar := g.n) (g := g')
  obtain ⟨U, hU⟩ : ∃ U : AV, U = .sl g.n 0 3 3 true := ⟨_, rfl⟩
  obtain ⟨ga, hga⟩ : ∃ ga, ga = ((g.alloc (.cells [.int .i32 103, .int .i64 2, .str ptG, .int .i32 102, .int .i64 2, .str ptF, .int .i32 104, .int .i64 2, .str ptH] 0)).alloc (.cells [.int .i64 0, .int .i64 0, .nilsl] 0)).set (g.n + 1) (.cells [.int .i64 0, .int .i64 0, .sl g.n 0 3 3 true] 0) := ⟨_, rfl⟩
  have na : ga.n = g.n + 2 := by rw [hga]; rfl
  have gU : ga.get (g.n + 1) = some (.cells [.int .i64 0, .int .i64 0, .sl g.n 0 3 3 true] 0) := by rw [hga, get_set, if_pos rfl]
  have gF : ga.get g.n = some (.cells [.int .i32 103, .int .i64 2, .str ptG, .int .i32 102, .int .i64 2, .str ptF, .int .i32 104, .int .i64 2, .str ptH] 0) := by
    rw [hga, get_set_ne (by omega), get_alloc, if_neg (by rw [n_alloc]; omega), get_alloc, if_pos rfl]
  have hFV : FV ga (.sl g.n 0 3 3 true) ptFs := ⟨rfl, by simp [ptFs], .inr (.inr ⟨g.n, 0, true, _, 0, rfl, by omega, gF, by simp [ptFs], rfl⟩)⟩
  obtain ⟨g2, M, g3, g5, xa, n', e2, e3, n3, n2, k2, k3, e5, hxa, n5, k5⟩ := run_two (bar := g.n) (by omega) hFV (nm := 102) (k := 1) rfl rfl (by kernel_rfl) rfl (part_f a b ptG ptF ptH)
  obtain ⟨gb, hgb⟩ : ∃ gb, gb = (g5.alloc (.cells [.int .i64 0, .int .i64 0, .int .i64 0, .nilsl] 0)).set g5.n (.cells [.int .i64 (wI (a - b)), .int .i64 0, .int .i64 n', xa] 0) := ⟨_, rfl⟩
  have nb : gb.n = g5.n + 1 := by rw [hgb]; rfl
  have kb : ∀ j, j < ga.n → gb.get j = ga.get j := fun j hj => by rw [hgb, get_set_ne (by omega), get_alloc, if_neg (by omega)]; exact k5 j hj
  have hFVb : FV gb (.sl g.n 0 3 3 true) ptFs := hFV.keep (by omega) (fun j hj => kb j (hFV.at_lt' hj))
  obtain ⟨h2, N, h3, h5, ya, m', d2, d3, p3, p2, l2, l3, d5, hya, p5, l5⟩ := run_two (bar := g.n) (by omega) hFVb (nm := 104) (k := 2) rfl rfl (by kernel_rfl) rfl (part_h a b ptG ptF ptH)
  have gU2 : g2.get (g.n + 1) = some (.cells [.int .i64 0, .int .i64 0, .sl g.n 0 3 3 true] 0) := by rw [k2 _ (by omega)]; exact gU
  have gU3 : g3.get (g.n + 1) = some (.cells [.int .i64 0, .int .i64 0, .sl g.n 0 3 3 true] 0) := by rw [k3 _ (by omega)]; exact gU2
  have gUb : gb.get (g.n + 1) = some (.cells [.int .i64 0, .int .i64 0, .sl g.n 0 3 3 true] 0) := by rw [kb _ (by omega)]; exact gU
  have hU2 : h2.get (g.n + 1) = some (.cells [.int .i64 0, .int .i64 0, .sl g.n 0 3 3 true] 0) := by rw [l2 _ (by omega)]; exact gUb
  have hU3 : h3.get (g.n + 1) = some (.cells [.int .i64 0, .int .i64 0, .sl g.n 0 3 3 true] 0) := by rw [l3 _ (by omega)]; exact hU2
  have hb15 : ¬ g.n + 1 = g5.n := by omega
  have gU5 : g5.get (g.n + 1) = some (.cells [.int .i64 0, .int .i64 0, .sl g.n 0 3 3 true] 0) := by rw [k5 _ (by omega)]; exact gU
  have gR : gb.get g5.n = some (.cells [.int .i64 (wI (a - b)), .int .i64 0, .int .i64 n', xa] 0) := by rw [hgb, get_set, if_pos rfl]
  have hR5 : h5.get g5.n = some (.cells [.int .i64 (wI (a - b)), .int .i64 0, .int .i64 n', xa] 0) := by rw [l5 _ (by omega)]; exact gR
  have hall : ∀ v : Int, ([.int .i64 v, .int .i64 0, .int .i64 n', xa] : List AV).all AV.one = true := fun v => by
    show (true && (true && (true && (xa.one && true)))) = true
    rw [hxa]; rfl
  have hall2 : ∀ v : Int, ([.int .i64 v, .int .i64 0, .int .i64 m', ya] : List AV).all AV.one = true := fun v => by
    show (true && (true && (true && (ya.one && true)))) = true
    rw [hya]; rfl
  have hU1 := fun (x : AV) (h : x.one = true) => fillO1U h
  have hb5 : g.n ≤ g5.n := by omega
  have hb5' : g.n ≤ h5.n := by omega
  have hb3 : ¬ g.n + 1 = g3.n := by omega
  have hb3' : ¬ g.n + 1 = h3.n := by omega
  have f9 := fillO9 (a := .int .i32 103) (b := .int .i64 2) (c := .str ptG) (d := .int .i32 102) (e := .int .i64 2) (f := .str ptF) (g := .int .i32 104) (h := .int .i64 2) (i := .str ptH) rfl rfl rfl
  have s1 : (ByteArray.mk #[97, 49, 43, 65, 98, 50, 42, 66, 97, 98, 43]) = ptG := rfl
  have s2 : (ByteArray.mk #[97, 98, 206, 187, 103, 44, 97, 98, 45]) = ptF := rfl
  have s3 : (ByteArray.mk #[98, 97, 206, 187, 103, 97, 98, 206, 187, 102, 43]) = ptH := rfl
  simp [f_engramtop_TopParts, env0, go_sem, get_alloc, n_alloc, get_set, n_set, get_kill, n_kill, writeAt, a11, a21, a31, a41, a51, a61, a71, isNil, evParts, fillO2, s1, s2, s3, f9, AV.cells, hU1, spT3]
  simp only [← hga]
  refine ⟨⟨sees_of rfl ?_, sees_of rfl ?_, sees_of rfl ?_, sees_mk rfl ?_⟩, ?_⟩
  · simp [-getElem?_pos, R_nil, R_cons, RS_some, sameV_some, seesQ_some, List.take, List.take_succ_cons, List.take_zero, go_sem, get_alloc, n_alloc, get_set, n_set, get_kill, n_kill, writeAt, a11, a21, a31, a41, a51, a61, a71, isNil, gU, gU2, gU3, e2, e3, evParts, fillO2i, List.getElem?_cons_zero, List.getElem?_cons_succ]
  · simp [-getElem?_pos, R_nil, R_cons, RS_some, sameV_some, seesQ_some, List.take, List.take_succ_cons, List.take_zero, go_sem, get_alloc, n_alloc, get_set, n_set, get_kill, n_kill, writeAt, a11, a21, a31, a41, a51, a61, a71, isNil, gU, gU2, gU3, e2, e3, evParts, fillO2i, List.getElem?_cons_zero, List.getElem?_cons_succ]
  · simp [-getElem?_pos, R_nil, R_cons, RS_some, sameV_some, seesQ_some, List.take, List.take_succ_cons, List.take_zero, go_sem, get_alloc, n_alloc, get_set, n_set, get_kill, n_kill, writeAt, a11, a21, a31, a41, a51, a61, a71, isNil, gU, gU2, gU3, hb3, e2, e3, evParts, fillO2i, List.getElem?_cons_zero, List.getElem?_cons_succ]
  · simp [-getElem?_pos, R_nil, R_cons, RS_some, sameV_some, seesQ_some, List.take, List.take_succ_cons, List.take_zero, go_sem, get_alloc, n_alloc, get_set, n_set, get_kill, n_kill, writeAt, a11, a21, a31, a41, a51, a61, a71, isNil, gU, gU2, gU3, e2, e3, evParts, fillO2i, freesQ_some, freeV_some, AV.free, List.getElem?_cons_zero, List.getElem?_cons_succ]
  simp [go_sem, get_alloc, n_alloc, get_set, n_set, get_kill, n_kill, writeAt, a11, a21, a31, a41, a51, a61, a71, isNil, gU, e2, e3, e5, evParts, fillO2i, AV.cells, hall, sp40, hb5]
  simp only [← hgb]
  refine ⟨⟨sees_of rfl ?_, sees_of rfl ?_, sees_of rfl ?_, sees_mk rfl ?_⟩, ?_⟩
  · simp [-getElem?_pos, R_nil, R_cons, RS_some, sameV_some, seesQ_some, List.take, List.take_succ_cons, List.take_zero, go_sem, get_alloc, n_alloc, get_set, n_set, get_kill, n_kill, writeAt, a11, a21, a31, a41, a51, a61, a71, isNil, gUb, hU2, hU3, d2, d3, evParts, fillO2i, List.getElem?_cons_zero, List.getElem?_cons_succ]
  · simp [-getElem?_pos, R_nil, R_cons, RS_some, sameV_some, seesQ_some, List.take, List.take_succ_cons, List.take_zero, go_sem, get_alloc, n_alloc, get_set, n_set, get_kill, n_kill, writeAt, a11, a21, a31, a41, a51, a61, a71, isNil, gUb, hU2, hU3, d2, d3, evParts, fillO2i, List.getElem?_cons_zero, List.getElem?_cons_succ]
  · simp [-getElem?_pos, R_nil, R_cons, RS_some, sameV_some, seesQ_some, List.take, List.take_succ_cons, List.take_zero, go_sem, get_alloc, n_alloc, get_set, n_set, get_kill, n_kill, writeAt, a11, a21, a31, a41, a51, a61, a71, isNil, gUb, hU2, hU3, hb3', d2, d3, evParts, fillO2i, List.getElem?_cons_zero, List.getElem?_cons_succ]
  · simp [-getElem?_pos, R_nil, R_cons, RS_some, sameV_some, seesQ_some, List.take, List.take_succ_cons, List.take_zero, go_sem, get_alloc, n_alloc, get_set, n_set, get_kill, n_kill, writeAt, a11, a21, a31, a41, a51, a61, a71, isNil, gUb, hU2, hU3, d2, d3, evParts, fillO2i, freesQ_some, freeV_some, AV.free, List.getElem?_cons_zero, List.getElem?_cons_succ]
  simp [go_sem, get_alloc, n_alloc, get_set, n_set, get_kill, n_kill, writeAt, a11, a21, a31, a41, a51, a61, a71, isNil, hb15, gU5, d2, d3, d5, evParts, fillO2i, AV.cells, hall2, sp40, hb5']
  have hb55 : ¬ g5.n = h5.n := by omega
  have w0 : ∀ x : Int, IntKind.i64.wrap x = wI x := fun _ => rfl
  have hEq : wI (wI (wI (wI (b + 1) + wI (2 * a)) + a) - b) = wI (wI (wI (b + 1) + wI (a * 2)) + wI (a - b)) := by
    rw [Int.mul_comm 2 a]
    obtain ⟨q4, h4⟩ := wI_mod (wI (wI (b + 1) + wI (a * 2)) + a)
    obtain ⟨q5, h5⟩ := wI_mod (a - b)
    exact wI_cong (q4 - q5) (by omega)
  simp [go_sem, get_alloc, n_alloc, get_set, n_set, get_kill, n_kill, writeAt, a11, a21, a31, a41, a51, a61, a71, isNil, hb55, hR5, w0, hEq, eA]
  simp [go_sem, endP, endI, resultsA, resultA, freezeL, freezeV, AV.free.freeL, AV.free, packA, dropS]
end
end Go.Ev
set_option linter.unusedSectionVars false
namespace Go.Ev
open Go
def rpT : ByteArray := ⟨#[48, 67, 91, 97, 33, 63, 126, 59, 99, 32, 49, 48, 42, 97, 207, 128, 113, 43, 67, 97, 32, 49, 45, 65, 93, 99]⟩
theorem rep_unit : UnitOk 0 0 [⟨102, 1, rpT⟩] [repC] := by
  refine ⟨by kernel_rfl, fun f hf => ?_, fun f hf k hk => ?_, fun f hf => ?_, by simp, by kernel_rfl⟩
  · rw [List.mem_singleton] at hf; subst hf
    refine ⟨repC.to, by kernel_rfl, fun x hx => ?_⟩
    have : repC.to.all (fun x => decide (x ≤ 2000)) = true := rfl
    rw [List.all_eq_true] at this
    simpa using this x hx
  · rw [List.mem_singleton] at hf; subst hf
    have : (gTok rpT).1.all (fun k => sigOk k.sign) = true := by kernel_rfl
    rw [List.all_eq_true] at this
    exact this k hk
  · rw [List.mem_singleton] at hf; subst hf; exact ⟨by show (0 : Int) ≤ 1; omega, by show (1 : Int) ≤ 26; omega⟩
def ifcC (x : Int) : List AV := [.ifc t_int64 (.int .i64 x)]
theorem replV_snoc : ∀ (l : List Int) (x c : Int), replV (l ++ [x]) c = wI (wI (replV l c * 10) + x)
  | [], x, c => rfl
  | y :: l, x, c => replV_snoc l x _
theorem replA_len : ∀ n, (replA n).length = n
  | 0 => rfl
  | n + 1 => by rw [replA, List.length_cons, replA_len n]
theorem replA_get : ∀ (n i : Nat), i < n → (replA n)[i]? = some (113, ((n : Nat) : Int) - i)
  | 0, i, h => by omega
  | n + 1, 0, h => by rw [replA]; simp
  | n + 1, i + 1, h => by
    rw [replA, List.getElem?_cons_succ, replA_get n i (by omega)]
    congr 2; omega
section
variable {bar : Nat} {g : H}
theorem rep_l0 {la : AV} {L : List Int} (hv : FzV 1 la L.length (L.flatMap i64c)) {x3 : AV} {n : Nat} (hn : n ≤ L.length) (hn2 : n ≤ 20) (b : Nat) (hbb : bar ≤ b) (ga : H) (Q : Ex → Env → H → Prop) (hq : ∀ e g va, e.get 3 = some x3 → e.get 4 = some va → e.get 5 = some (.int .i64 (replV (L.take n) 0)) → e.get 6 = some (.int .i64 (n : Nat)) → OW 1 g b va n ((L.take n).flatMap ifcC) → b ≤ g.n → (∀ j, j < b → g.get j = ga.get j) → Q (.exit 0) e g) : ∀ (k i : Nat) (g : H) (va : AV), n = i + k → OW 1 g b va i ((L.take i).flatMap ifcC) → b ≤ g.n → (∀ j, j < b → g.get j = ga.get j) →
    wpL (call tb prim) bar [0, 3, 4, 5, 6, 7] l0_engramtop_TopReplies [(0, la), (3, x3), (4, va), (5, .int .i64 (replV (L.take i) 0)), (6, .int .i64 (n : Nat)), (7, .int .i64 (i : Nat))] g Q
  | 0, i, g, va, hk, ho, hb, hg => by
    refine M_loop l0_engramtop_TopReplies.eq_1 ?_
    have hi : i = n := by omega
    subst hi
    simp [go_sem]
    exact hq _ _ _ rfl rfl rfl rfl ho hb hg
  | k + 1, i, g, va, hk, ho, hb, hg => by
    refine M_loop l0_engramtop_TopReplies.eq_1 ?_
    have hlt : (i : Int) < (n : Int) := by omega
    have hw := w64_succ (n := i) (by omega)
    have hx : L[i]? = some L[i] := List.getElem?_eq_getElem (by omega)
    obtain ⟨x, hx0⟩ : ∃ x, x = L[i] := ⟨_, rfl⟩
    rw [← hx0] at hx
    have hc : (L.flatMap i64c)[i]? = some (.int .i64 x) := by
      rw [i64_get (by omega), ← hx0]
    obtain ⟨h', e2, o2, n1, f1⟩ := (ho.bar_le (b := bar) hbb).app (bar := bar) (by omega) 16 [.ifc t_int64 (.int .i64 x)] rfl rfl (by omega) (by omega) (by omega)
    have f3 : fillA [.nilifc] [(0, 1, .ifc t_int64 (.int .i64 x))] = some [.ifc t_int64 (.int .i64 x)] := by
      rw [fillA_one rfl (by simp)]; rfl
    have hT : L.take (i + 1) = L.take i ++ [x] := by rw [List.take_add_one, hx]; rfl
    have o3 : OW 1 h' b (.sl (g.n + 1) 0 1 (i + 1) false) (i + 1) ((L.take (i + 1)).flatMap ifcC) := by
      rw [hT]
      simpa [ifcC] using o2.up (b := b) fun j hj => by cases hj; omega
    have hN := rep_l0 hv hn hn2 b hbb ga Q hq k (i + 1) h' _ (by omega) o3 (by omega) (fun j hj => by rw [f1 j (by omega) (fun q => by have := (ho.at_lt q).1; omega)]; exact hg j hj)
    rw [hT, replV_snoc] at hN
    have w0 : ∀ x : Int, IntKind.i64.wrap x = wI x := fun _ => rfl
    simp [go_sem, hlt]
    refine S_vcell (hv.vw _) (by omega) hc fun u => ?_
    simp [go_sem, get_alloc, n_alloc, get_set, n_set, get_kill, n_kill, writeAt, a11, a21, a31, a41, a51, a61, a71, isNil, evParts, f3, AV.cells, e2]
    refine S_vcell (hv.vw _) (by omega) hc fun u => ?_
    simp [go_sem, get_alloc, n_alloc, get_set, n_set, get_kill, n_kill, writeAt, a11, a21, a31, a41, a51, a61, a71, isNil, hw]
    simp only [w0]
    exact hN
theorem rep_l1 {xa : AV} {n : Nat} (hn : n ≤ 20) (hv : FzV 2 xa n ((replA n).flatMap asC)) (R : Nat) {x0 x1 x2 : AV} (hg : g.get R = some (.cells [x0, x1, x2, xa] 0)) (Q : Ex → Env → H → Prop) (hq : ∀ e, Q (.exit 2) e g) : ∀ (k i : Nat), n = i + k →
    wpL (call tb prim) bar [6, 8, 69, 70] l1_engramtop_TopReplies [(6, .int .i64 (n : Nat)), (8, .ptr R 0), (69, .int .i64 (n : Nat)), (70, .int .i64 (i : Nat))] g Q
  | 0, i, hk => by
    refine M_loop l1_engramtop_TopReplies.eq_1 ?_
    have hi : i = n := by omega
    subst hi
    simp [go_sem]
    exact hq _
  | k + 1, i, hk => by
    refine M_loop l1_engramtop_TopReplies.eq_1 ?_
    have hlt : (i : Int) < (n : Int) := by omega
    have hw := w64_succ (n := i) (by omega)
    have hw2 : IntKind.i64.wrap ((n : Int) - (i : Int)) = (n : Int) - i := w64 (by omega) (by omega)
    have hx := replA_get n i (by omega)
    have hlen := replA_len n
    have hv' : Vw 2 g xa (replA n).length ((replA n).flatMap asC) := by rw [hlen]; exact hv.vw g
    have hrow : ∀ {cc d : Nat} {r : List IOper} {ks : List Fr} {e : Env} {Q : Ex → Env → H → Prop}, (∀ u, wpX (call tb prim) bar r ks ((d, .agg [.int .i32 113, .int .i64 ((n : Int) - i)]) :: (cc, u) :: e) g Q) → wpS (call tb prim) bar (iadrR 2 (some xa) (some (.int .i64 (i : Nat))) g) (some cc) (⟨some d, .ld true 2 (.t cc), none⟩ :: r) ks e Q := fun hh => by
      have hg1 : (replA n)[i]'(by omega) = (113, ((n : Nat) : Int) - i) := by
        have := List.getElem?_eq_getElem (l := replA n) (i := i) (by omega)
        rw [this] at hx; injection hx
      refine S_vrowA (c := asC) (k := 2) (fun _ => rfl) hv' (i := i) (by omega) fun u => ?_
      rw [hg1]; exact hh u
    have f2 : fillA [.int .i32 0, .int .i64 0] [(0, 1, .int .i32 113), (1, 1, .int .i64 ((n : Int) - i))] = some [.int .i32 113, .int .i64 ((n : Int) - i)] := by
      rw [fillA_one rfl (by simp), fillA_one rfl (by simp [splice])]; rfl
    simp [go_sem, hlt, hg]
    refine hrow fun u => ?_
    simp [go_sem, hw2, evParts, f2, hw, sameCells, sameK]
    exact rep_l1 hn hv R hg Q hq k (i + 1) (by omega)
theorem TopReplies_ok {la : AV} {L : List Int} (hv : FzV 1 la L.length (L.flatMap i64c)) : call tb prim n_engramtop_TopReplies [la] bar g = some (.bool true, g) := by
  refine call_of tb_engramtop_TopReplies (callF_pureW rfl rfl (M_in ?_))
  have eA := fun g' => top_awake_ok (bar := g.n) (g := g')
  have hL := hv.2.1
  obtain ⟨n, hn⟩ : ∃ n, n = min L.length 20 := ⟨_, rfl⟩
  obtain ⟨ga, hga⟩ : ∃ ga, ga = ((g.alloc (.cells [.int .i32 102, .int .i64 1, .str rpT] 0)).alloc (.cells [.int .i64 0, .int .i64 0, .nilsl] 0)).set (g.n + 1) (.cells [.int .i64 0, .int .i64 0, .sl g.n 0 3 1 true] 0) := ⟨_, rfl⟩
  have na : ga.n = g.n + 2 := by rw [hga]; rfl
  have gU : ga.get (g.n + 1) = some (.cells [.int .i64 0, .int .i64 0, .sl g.n 0 3 1 true] 0) := by rw [hga, get_set, if_pos rfl]
  have gF : ga.get g.n = some (.cells [.int .i32 102, .int .i64 1, .str rpT] 0) := by
    rw [hga, get_set_ne (by omega), get_alloc, if_neg (by rw [n_alloc]; omega), get_alloc, if_pos rfl]
  have hFV : FV ga (.sl g.n 0 3 1 true) [⟨102, 1, rpT⟩] := ⟨rfl, by simp, .inr (.inr ⟨g.n, 0, true, _, 0, rfl, by omega, gF, by simp, rfl⟩)⟩
  have hU1 := fun (x : AV) (h : x.one = true) => fillO1U h
  have s1 : (ByteArray.mk #[48, 67, 91, 97, 33, 63, 126, 59, 99, 32, 49, 48, 42, 97, 207, 128, 113, 43, 67, 97, 32, 49, 45, 65, 93, 99]) = rpT := rfl
  have hlen := fun g' => hv.len g'
  have hmm : (if (20 : Int) < (L.length : Int) then (20 : Int) else (L.length : Int)) = (n : Int) := by split <;> omega
  simp [f_engramtop_TopReplies, env0, go_sem, get_alloc, n_alloc, get_set, n_set, get_kill, n_kill, writeAt, a11, a21, a31, a41, a51, a61, a71, isNil, evParts, s1, fillO1, fillO13, AV.cells, hU1, spT3, hlen, goI, hmm]
  simp only [← hga]
  refine rep_l0 hv (n := n) (by omega) (by omega) (g.n + 2) (by omega) ga _ (fun e gl va q3 q4 q5 q6 ho hb hg => ?_) n 0 ga .nilsl (by omega) (by simpa using OW.nil) (by omega) (fun _ _ => rfl)
  have hFVl : FV gl (.sl g.n 0 3 1 true) [⟨102, 1, rpT⟩] := hFV.keep (by omega) (fun j hj => hg j (by have := hFV.at_lt' hj; omega))
  have hTl : (L.take n).length = n := by rw [List.length_take]; omega
  have hvw : Vw 1 gl va n ((L.take n).flatMap ifcC) := ho.vw (by omega)
  obtain ⟨n', hE⟩ := rep_ends (fs := [⟨102, 1, rpT⟩]) (cs := [repC]) (m := zeroM 0 0) (L.take n) (by omega)
  rw [hTl] at hE
  have hxm : ((L.take n).map fun x => (x, true)).take 64 = (L.take n).map fun x => (x, true) := List.take_of_length_le (by simp; omega)
  obtain ⟨g2, M, g3, g5, xa, e2, e3, n3, n2, k2, k3, e5, hxa, n5, k5⟩ := run_newR (bar := g.n) (g := gl) rep_unit hFVl (by omega) hvw ((L.take n).map fun x => (x, true)) (by simp; omega) (fun i v x h1 h2 => by
    rw [List.getElem?_map] at h2
    cases hx : (L.take n)[i]? with
    | none => rw [hx] at h2; cases h2
    | some z =>
      rw [hx] at h2
      simp only [Option.map_some, Option.some.injEq] at h2
      subst h2
      have := flat_get (c := ifcC) (k := 1) (fun _ => rfl) (L.take n) i 0 z (by omega) hx
      simp only [Nat.mul_one, Nat.add_zero] at this
      rw [this] at h1
      simp only [ifcC, List.getElem?_cons_zero, Option.some.injEq] at h1
      subst h1
      exact of_int64 z) (pages := 0) (most := 0) (by omega) (by omega) (nm := 102) (fuel := 9999) (by omega) (by omega) (k := 0) rfl (f := ⟨102, 1, rpT⟩) rfl (args := [(n : Int)]) rfl (by simp) (by
      rw [hxm, show codeW ⟨102, 1, rpT⟩ = repC by kernel_rfl]
      exact hE)
  simp only at hxa
  rw [replA_len] at hxa
  unfold runRes at e5
  rw [show ((0 : Nat) : Int) = 0 from rfl] at e2
  rw [show (List.map (AV.int .i64) [(n : Int)]) = [.int .i64 (n : Int)] from rfl, show [(n : Int)].length = 1 from rfl] at e5
  have gUl : gl.get (g.n + 1) = some (.cells [.int .i64 0, .int .i64 0, .sl g.n 0 3 1 true] 0) := by rw [hg _ (by omega)]; exact gU
  have gU2 : g2.get (g.n + 1) = some (.cells [.int .i64 0, .int .i64 0, .sl g.n 0 3 1 true] 0) := by rw [k2 _ (by omega)]; exact gUl
  have gU3 : g3.get (g.n + 1) = some (.cells [.int .i64 0, .int .i64 0, .sl g.n 0 3 1 true] 0) := by rw [k3 _ (by omega)]; exact gU2
  have hall : ([.int .i64 (replV (L.take n) 0), .int .i64 0, .int .i64 n', xa] : List AV).all AV.one = true := by
    show (true && (true && (true && (xa.one && true)))) = true
    rw [hxa.one]; rfl
  have hb5 : g.n ≤ g5.n := by omega
  have hb3 : ¬ g.n + 1 = g3.n := by omega
  simp [go_sem, get_alloc, n_alloc, get_set, n_set, get_kill, n_kill, writeAt, a11, a21, a31, a41, a51, a61, a71, isNil, q3, q4, q5, q6]
  refine ⟨⟨sees_of rfl ?_, sees_of rfl ?_, sees_of rfl ?_, sees_mk rfl ?_⟩, ?_⟩
  · simp [-getElem?_pos, R_nil, R_cons, RS_some, sameV_some, seesQ_some, List.take, List.take_succ_cons, List.take_zero, go_sem, get_alloc, n_alloc, get_set, n_set, get_kill, n_kill, writeAt, a11, a21, a31, a41, a51, a61, a71, isNil, gUl, gU2, gU3, e2, e3, evParts, fillO1i, List.getElem?_cons_zero, List.getElem?_cons_succ]
  · simp [-getElem?_pos, R_nil, R_cons, RS_some, sameV_some, seesQ_some, List.take, List.take_succ_cons, List.take_zero, go_sem, get_alloc, n_alloc, get_set, n_set, get_kill, n_kill, writeAt, a11, a21, a31, a41, a51, a61, a71, isNil, gUl, gU2, gU3, e2, e3, evParts, fillO1i, List.getElem?_cons_zero, List.getElem?_cons_succ]
  · simp [-getElem?_pos, R_nil, R_cons, RS_some, sameV_some, seesQ_some, List.take, List.take_succ_cons, List.take_zero, go_sem, get_alloc, n_alloc, get_set, n_set, get_kill, n_kill, writeAt, a11, a21, a31, a41, a51, a61, a71, isNil, gUl, gU2, gU3, hb3, e2, e3, evParts, fillO1i, List.getElem?_cons_zero, List.getElem?_cons_succ]
  · simp [-getElem?_pos, R_nil, R_cons, RS_some, sameV_some, seesQ_some, List.take, List.take_succ_cons, List.take_zero, go_sem, get_alloc, n_alloc, get_set, n_set, get_kill, n_kill, writeAt, a11, a21, a31, a41, a51, a61, a71, isNil, gUl, gU2, gU3, e2, e3, evParts, fillO1i, freesQ_some, freeV_some, AV.free, List.getElem?_cons_zero, List.getElem?_cons_succ]
  have hxl := fun g' => hxa.len g'
  simp [go_sem, get_alloc, n_alloc, get_set, n_set, get_kill, n_kill, writeAt, a11, a21, a31, a41, a51, a61, a71, isNil, gUl, e2, e3, e5, evParts, fillO1i, AV.cells, hall, sp40, hb5, hxl, goI]
  refine rep_l1 (by omega) hxa g5.n (by rw [get_set, if_pos rfl]) _ (fun e => ?_) n 0 (by omega)
  simp [go_sem, get_alloc, n_alloc, get_set, n_set, get_kill, n_kill, writeAt, a11, a21, a31, a41, a51, a61, a71, isNil, eA]
  simp [go_sem, endP, endI, resultsA, resultA, freezeL, freezeV, AV.free.freeL, AV.free, packA, dropS]
end
end Go.Ev
set_option linter.unusedSectionVars false
namespace Go.Ev
open Go
def srtI : Nat → List Int → List Int
  | 0, l => l
  | k + 1, l => if l.getD (k + 1) 0 < l.getD k 0 then srtI k ((l.set k (l.getD (k + 1) 0)).set (k + 1) (l.getD k 0)) else l
def srtO : Nat → Nat → List Int → List Int
  | 0, _, l => l
  | n + 1, i, l => srtO n (i + 1) (srtI i l)
theorem getD_set (l : List Int) (i j : Nat) (v : Int) (hi : i < l.length) : (l.set i v).getD j 0 = if i = j then v else l.getD j 0 := by
  rw [List.getD_eq_getElem?_getD, List.getD_eq_getElem?_getD, List.getElem?_set]
  by_cases c : i = j
  · subst c; simp [hi]
  · simp [c]
theorem swap_perm (l : List Int) (k : Nat) (hk : k + 1 < l.length) : ((l.set k (l.getD (k + 1) 0)).set (k + 1) (l.getD k 0)).Perm l := by
  have h := @List.set_set_perm Int l k (k + 1) (by omega) hk
  have e1 : l.getD (k + 1) 0 = l[k + 1] := by rw [List.getD_eq_getElem?_getD, List.getElem?_eq_getElem hk]; rfl
  have e2 : l.getD k 0 = l[k] := by rw [List.getD_eq_getElem?_getD, List.getElem?_eq_getElem (by omega)]; rfl
  rw [e1, e2]; exact h
structure SrI (l : List Int) (k i : Nat) : Prop where
  ki : k ≤ i
  il : i < l.length
  o : ∀ a b, a < b → b ≤ i → a ≠ k → b ≠ k → l.getD a 0 ≤ l.getD b 0
  u : ∀ b, k < b → b ≤ i → l.getD k 0 ≤ l.getD b 0
theorem srtI_ok : ∀ (k : Nat) (l : List Int) (i : Nat), SrI l k i → (srtI k l).Perm l ∧ ∀ a b, a < b → b ≤ i → (srtI k l).getD a 0 ≤ (srtI k l).getD b 0
  | 0, l, i, h => ⟨List.Perm.refl _, fun a b h1 h2 => by
    rw [srtI]
    by_cases c : a = 0
    · subst c; exact h.u b h1 h2
    · exact h.o a b h1 h2 c (by omega)⟩
  | k + 1, l, i, h => by
    have hk := h.ki
    have hl := h.il
    rw [srtI]
    by_cases c : l.getD (k + 1) 0 < l.getD k 0
    · rw [if_pos c]
      obtain ⟨l', hl'⟩ : ∃ l', l' = (l.set k (l.getD (k + 1) 0)).set (k + 1) (l.getD k 0) := ⟨_, rfl⟩
      have hd : ∀ j, l'.getD j 0 = if k + 1 = j then l.getD k 0 else if k = j then l.getD (k + 1) 0 else l.getD j 0 := fun j => by
        rw [hl', getD_set _ _ _ _ (by rw [List.length_set]; omega), getD_set _ _ _ _ (by omega)]
      rw [← hl']
      have hp : l'.Perm l := by rw [hl']; exact swap_perm l k (by omega)
      have hS : SrI l' k i := by
        refine ⟨by omega, by rw [hp.length_eq]; exact hl, fun a b h1 h2 h3 h4 => ?_, fun b h1 h2 => ?_⟩
        · rw [hd a, hd b]
          by_cases ca : k + 1 = a
          · rw [if_pos ca, if_neg (by omega), if_neg (by omega)]
            exact h.o k b (by omega) h2 (by omega) (by omega)
          · rw [if_neg ca, if_neg (by omega)]
            by_cases cb : k + 1 = b
            · rw [if_pos cb]; exact h.o a k (by omega) (by omega) (by omega) (by omega)
            · rw [if_neg cb, if_neg (by omega)]; exact h.o a b h1 h2 (by omega) (by omega)
        · rw [hd k, hd b, if_neg (by omega), if_pos rfl]
          by_cases cb : k + 1 = b
          · rw [if_pos cb]; omega
          · rw [if_neg cb, if_neg (by omega)]; exact h.u b (by omega) h2
      obtain ⟨q1, q2⟩ := srtI_ok k l' i hS
      exact ⟨q1.trans hp, q2⟩
    · rw [if_neg c]
      refine ⟨List.Perm.refl _, fun a b h1 h2 => ?_⟩
      by_cases ca : a = k + 1
      · subst ca; exact h.u b h1 h2
      by_cases cb : b = k + 1
      · subst cb
        by_cases ck : a = k
        · subst ck; omega
        · have := h.o a k (by omega) (by omega) (by omega) (by omega); omega
      · exact h.o a b h1 h2 ca cb
theorem srtO_ok : ∀ (n i : Nat) (l : List Int), i + n = l.length → 0 < i → (∀ a b, a < b → b < i → l.getD a 0 ≤ l.getD b 0) → (srtO n i l).Perm l ∧ ∀ a b, a < b → b < l.length → (srtO n i l).getD a 0 ≤ (srtO n i l).getD b 0
  | 0, i, l, h, _, ho => ⟨List.Perm.refl _, fun a b h1 h2 => ho a b h1 (by omega)⟩
  | n + 1, i, l, h, h0, ho => by
    obtain ⟨q1, q2⟩ := srtI_ok i l i ⟨Nat.le_refl _, by omega, fun a b h1 h2 h3 h4 => ho a b h1 (by omega), fun b h1 h2 => by omega⟩
    have hl := q1.length_eq
    obtain ⟨p1, p2⟩ := srtO_ok n (i + 1) (srtI i l) (by omega) (by omega) (fun a b h1 h2 => q2 a b h1 (by omega))
    rw [srtO]
    exact ⟨p1.trans q1, fun a b h1 h2 => p2 a b h1 (by omega)⟩
theorem srt_eq (l : List Int) (hl : l.length = 6) : srtO 5 1 l = bubN 6 l := by
  obtain ⟨p1, p2⟩ := srtO_ok 5 1 l (by omega) (by omega) (fun a b h1 h2 => by omega)
  refine List.Perm.eq_of_pairwise (le := (· ≤ ·)) (fun a b _ _ h1 h2 => by omega) ?_ (bubN_sorted 6 l (by omega)) (p1.trans (bubN_perm 6 l).symm)
  rw [List.pairwise_iff_getElem]
  intro i j hi hj hij
  have hL := p1.length_eq
  have := p2 i j hij (by omega)
  rw [List.getD_eq_getElem?_getD, List.getD_eq_getElem?_getD, List.getElem?_eq_getElem hi, List.getElem?_eq_getElem hj] at this
  exact this
theorem srtI_len (k : Nat) : ∀ (l : List Int), (srtI k l).length = l.length := by
  induction k with
  | zero => intro l; rfl
  | succ k ih => intro l; rw [srtI]; split
                 · rw [ih]; simp
                 · rfl
theorem getD_at {l : List Int} {i : Nat} (h : i < l.length) : (l.flatMap i64c)[i]? = some (.int .i64 (l.getD i 0)) := by
  rw [i64_get h, List.getD_eq_getElem?_getD, List.getElem?_eq_getElem h]; rfl
section
variable {bar : Nat} {g : H}
theorem sort_l1 {x3 x4 x7 : AV} {W : Nat} (hW : bar ≤ W) (Q : Ex → Env → H → Prop) (l0 : List Int) (g0 : H) (hq : ∀ e g', e.get 3 = some x3 → e.get 4 = some x4 → e.get 5 = some (.ptr W 0) → e.get 7 = some x7 → g'.get W = some (.cells (l0.flatMap i64c) 0) → g'.n = g0.n → (∀ j, j ≠ W → g'.get j = g0.get j) → Q (.exit 4) e g') : ∀ (k kk : Nat) (l : List Int) (g : H), kk = k → l.length = 6 → k < 6 → srtI k l = l0 → g.get W = some (.cells (l.flatMap i64c) 0) → g.n = g0.n → (∀ j, j ≠ W → g.get j = g0.get j) →
    wpL (call tb prim) bar [3, 4, 5, 7, 8] l1_engramtop_TopSorts [(3, x3), (4, x4), (5, .ptr W 0), (7, x7), (8, .int .i64 (kk : Nat))] g Q
  | 0, kk, l, g, hkk, hl, hk, hs, hg, hn, hf => by
    subst hkk
    refine M_loop l1_engramtop_TopSorts.eq_1 ?_
    simp [go_sem]
    exact hq _ _ rfl rfl rfl rfl (by rw [← hs]; exact hg) hn hf
  | k + 1, kk, l, g, hkk, hl, hk, hs, hg, hn, hf => by
    refine M_loop l1_engramtop_TopSorts.eq_1 ?_
    have h0 : 0 < kk := by omega
    have hw : IntKind.i64.wrap ((kk : Int) - 1) = (k : Int) := by rw [w64 (by omega) (by omega)]; omega
    have i1 : indexIn (.int .i64 (k : Int)) 6 = some k := by simp only [indexIn]; rw [if_pos (by omega), Int.toNat_natCast]
    have i2 : indexIn (.int .i64 (kk : Int)) 6 = some kk := by simp only [indexIn]; rw [if_pos (by omega), Int.toNat_natCast]
    have c1 : (l.flatMap i64c)[k]? = some (.int .i64 (l.getD k 0)) := getD_at (by omega)
    have c2 : (l.flatMap i64c)[kk]? = some (.int .i64 (l.getD kk 0)) := getD_at (by omega)
    have ln : (l.flatMap i64c).length = 6 := by rw [i64_len, hl]
    have s1 : ∀ v, splice (l.flatMap i64c) k [.int .i64 v] = (l.set k v).flatMap i64c := fun v => i64_set (by omega) v
    have s2 : ∀ v w, splice ((l.set k v).flatMap i64c) kk [.int .i64 w] = ((l.set k v).set kk w).flatMap i64c := fun v w => i64_set (by rw [List.length_set]; omega) w
    have ln2 : ∀ v, ((l.set k v).flatMap i64c).length = 6 := fun v => by rw [i64_len, List.length_set, hl]
    rw [srtI, ← hkk] at hs
    obtain ⟨x, hx⟩ : ∃ x, x = l.getD k 0 := ⟨_, rfl⟩
    obtain ⟨y, hy⟩ : ∃ y, y = l.getD kk 0 := ⟨_, rfl⟩
    rw [← hx, ← hy] at hs
    rw [← hx] at c1
    rw [← hy] at c2
    by_cases c : y < x
    · rw [if_pos c] at hs
      have b1 : k < kk := by omega
      have hk6 : kk < 6 := by omega
      have hk5 : k < 6 := by omega
      have hk7 : kk + 1 ≤ 6 := by omega
      have hk8 : k + 1 ≤ 6 := by omega
      have hN := sort_l1 (x3 := x3) (x4 := x4) (x7 := x7) hW Q l0 g0 hq k k ((l.set k y).set kk x) ((g.set W (.cells ((l.set k y).flatMap i64c) 0)).set W (.cells (((l.set k y).set kk x).flatMap i64c) 0)) rfl (by simp [hl]) (by omega) hs (by rw [get_set, if_pos rfl]) (by rw [n_set, n_set]; exact hn) (fun j hj => by rw [get_set_ne hj, get_set_ne hj]; exact hf j hj)
      simp [go_sem, get_alloc, n_alloc, get_set, n_set, get_kill, n_kill, writeAt, a11, a21, a31, a41, a51, a61, a71, isNil, h0, hw, i1, i2, hg, c1, c2, c, hW, ln, ln2, s1, s2, hk7, hk8]
      exact hN
    · rw [if_neg c] at hs
      simp [go_sem, get_alloc, n_alloc, get_set, n_set, get_kill, n_kill, writeAt, a11, a21, a31, a41, a51, a61, a71, isNil, h0, hw, i1, i2, hg, c1, c2, c]
      exact hq _ _ rfl rfl rfl rfl (by rw [← hs]; exact hg) hn hf
theorem sort_l2 {x3 x4 : AV} {W : Nat} (hW : bar ≤ W) (Q : Ex → Env → H → Prop) (l0 : List Int) (g0 : H) (hq : ∀ e g', e.get 3 = some x3 → e.get 4 = some x4 → e.get 5 = some (.ptr W 0) → g'.get W = some (.cells (l0.flatMap i64c) 0) → g'.n = g0.n → (∀ j, j ≠ W → g'.get j = g0.get j) → Q (.exit 2) e g') : ∀ (n i : Nat) (l : List Int) (g : H), i + n = 6 → l.length = 6 → srtO n i l = l0 → g.get W = some (.cells (l.flatMap i64c) 0) → g.n = g0.n → (∀ j, j ≠ W → g.get j = g0.get j) →
    wpL (call tb prim) bar [3, 4, 5, 7] l2_engramtop_TopSorts [(3, x3), (4, x4), (5, .ptr W 0), (7, .int .i64 (i : Nat))] g Q
  | 0, i, l, g, hi, hl, hs, hg, hn, hf => by
    refine M_loop l2_engramtop_TopSorts.eq_1 ?_
    have h6 : i = 6 := by omega
    subst h6
    simp [go_sem]
    exact hq _ _ rfl rfl rfl (by rw [← hs]; exact hg) hn hf
  | n + 1, i, l, g, hi, hl, hs, hg, hn, hf => by
    refine M_loop l2_engramtop_TopSorts.eq_1 ?_
    have hlt : (i : Int) < 6 := by omega
    have hw := w64_succ (n := i) (by omega)
    rw [srtO] at hs
    simp [go_sem, hlt]
    refine sort_l1 (x3 := x3) (x4 := x4) (x7 := .int .i64 (i : Int)) hW _ (srtI i l) g (fun e g' q3 q4 q5 q7 q8 q9 q10 => ?_) i i l g rfl hl (by omega) rfl hg rfl (fun _ _ => rfl)
    simp [go_sem, q3, q4, q5, q7, hw]
    exact sort_l2 hW Q l0 g0 hq n (i + 1) (srtI i l) g' (by omega) (by rw [srtI_len]; exact hl) hs q8 (by omega) (fun j hj => by rw [q10 j hj]; exact hf j hj)
end
def vv (L : List Int) (i : Nat) : Int := if i < L.length then L.getD i 0 else 0
def arr (L : List Int) : Nat → List Int
  | 0 => [0, 0, 0, 0, 0, 0]
  | i + 1 => if i < L.length then (arr L i).set i (L.getD i 0) else arr L i
def memK (L : List Int) : Nat → Mem
  | 0 => zeroM 1 1
  | i + 1 => (storeM (memK L i) ((8 * i : Nat) : Int) (vv L i) true).1
theorem arr_len (L : List Int) : ∀ i, (arr L i).length = 6
  | 0 => rfl
  | i + 1 => by rw [arr]; split
                · rw [List.length_set]; exact arr_len L i
                · exact arr_len L i
theorem arr_get (L : List Int) : ∀ n i, n ≤ 6 → (arr L n).getD i 0 = if i < n then vv L i else 0
  | 0, i, _ => by
    rw [if_neg (by omega), arr]
    match i with
    | 0 | 1 | 2 | 3 | 4 | 5 => rfl
    | i + 6 => rfl
  | n + 1, i, h => by
    rw [arr]
    by_cases c : n < L.length
    · rw [if_pos c, getD_set _ _ _ _ (by rw [arr_len]; omega)]
      by_cases ci : n = i
      · subst ci; rw [if_pos rfl, if_pos (by omega)]; unfold vv; rw [if_pos c]
      · rw [if_neg ci, arr_get L n i (by omega)]
        by_cases c2 : i < n
        · rw [if_pos c2, if_pos (by omega)]
        · rw [if_neg c2, if_neg (by omega)]
    · rw [if_neg c, arr_get L n i (by omega)]
      by_cases c2 : i < n
      · rw [if_pos c2, if_pos (by omega)]
      · rw [if_neg c2]
        by_cases c3 : i < n + 1
        · rw [if_pos c3]; unfold vv; rw [if_neg (by omega)]
        · rw [if_neg c3]
theorem arr_six (L : List Int) : arr L 6 = [vv L 0, vv L 1, vv L 2, vv L 3, vv L 4, vv L 5] := by
  have hl := arr_len L 6
  have hg := fun i => arr_get L 6 i (Nat.le_refl _)
  match h : arr L 6, hl with
  | [a, b, c, d, e, f], _ =>
    rw [h] at hg
    have h0 := hg 0
    have h1 := hg 1
    have h2 := hg 2
    have h3 := hg 3
    have h4 := hg 4
    have h5 := hg 5
    simp at h0 h1 h2 h3 h4 h5
    rw [h0, h1, h2, h3, h4, h5]
theorem memK_six (L : List Int) : memK L 6 = sixM (arr L 6) := by
  rw [arr_six]
  have h : ∀ a b c d e f : Int, (storeM (storeM (storeM (storeM (storeM (storeM (zeroM 1 1) 0 a true).1 8 b true).1 16 c true).1 24 d true).1 32 e true).1 40 f true).1 = sixM [a, b, c, d, e, f] := fun a b c d e f => by kernel_rfl
  exact h _ _ _ _ _ _
theorem load_six {l : List Int} (hl : l.length = 6) (hr : ∀ y ∈ l, i64R y) {i : Nat} (hi : i < 6) : loadM (sixM l) ((8 * i : Nat) : Int) true = (l.getD i 0, true) := by
  match l, hl with
  | [a, b, c, d, e, f], _ =>
    have q : ∀ y ∈ [a, b, c, d, e, f], wI (leN (leB 8 y)) = y := fun y hy => leI (hr y hy)
    match i, hi with
    | 0, _ => rw [show loadM (sixM [a, b, c, d, e, f]) ((8 * 0 : Nat) : Int) true = (wI (leN (leB 8 a)), true) by kernel_rfl, q a (by simp)]; rfl
    | 1, _ => rw [show loadM (sixM [a, b, c, d, e, f]) ((8 * 1 : Nat) : Int) true = (wI (leN (leB 8 b)), true) by kernel_rfl, q b (by simp)]; rfl
    | 2, _ => rw [show loadM (sixM [a, b, c, d, e, f]) ((8 * 2 : Nat) : Int) true = (wI (leN (leB 8 c)), true) by kernel_rfl, q c (by simp)]; rfl
    | 3, _ => rw [show loadM (sixM [a, b, c, d, e, f]) ((8 * 3 : Nat) : Int) true = (wI (leN (leB 8 d)), true) by kernel_rfl, q d (by simp)]; rfl
    | 4, _ => rw [show loadM (sixM [a, b, c, d, e, f]) ((8 * 4 : Nat) : Int) true = (wI (leN (leB 8 e)), true) by kernel_rfl, q e (by simp)]; rfl
    | 5, _ => rw [show loadM (sixM [a, b, c, d, e, f]) ((8 * 5 : Nat) : Int) true = (wI (leN (leB 8 f)), true) by kernel_rfl, q f (by simp)]; rfl
section
variable {bar : Nat} {g : H}
theorem sort_l0 {la : AV} {L : List Int} (hv : FzV 1 la L.length (L.flatMap i64c)) {x3 : AV} {b M W : Nat} {ba da : AV} (hb : bar ≤ b) (hMW : M ≠ W) (hbW : ¬ ba.isAt W) (hdW : ¬ da.isAt W) (hW : bar ≤ W) (g0 : H) (Q : Ex → Env → H → Prop) (hq : ∀ e g', e.get 3 = some x3 → e.get 4 = some (.ptr M 0) → e.get 5 = some (.ptr W 0) → MemV g' b M (memK L 6) ba da → g'.get W = some (.cells ((arr L 6).flatMap i64c) 0) → g'.n = g0.n → (∀ j, j ≠ W → ¬ ba.isAt j → ¬ da.isAt j → g'.get j = g0.get j) → Q (.exit 0) e g') : ∀ (n i : Nat) (g : H), 6 = i + n → MemV g b M (memK L i) ba da → g.get W = some (.cells ((arr L i).flatMap i64c) 0) → g.n = g0.n → (∀ j, j ≠ W → ¬ ba.isAt j → ¬ da.isAt j → g.get j = g0.get j) →
    wpL (call tb prim) bar [0, 3, 4, 5, 6] l0_engramtop_TopSorts [(0, la), (3, x3), (4, .ptr M 0), (5, .ptr W 0), (6, .int .i64 (i : Nat))] g Q
  | 0, i, g, h6, hM, hg, hn, hf => by
    have hi : i = 6 := by omega
    subst hi
    refine M_loop l0_engramtop_TopSorts.eq_1 ?_
    simp [go_sem]
    exact hq _ _ rfl rfl rfl hM hg hn hf
  | n + 1, i, g, h6, hM, hg, hn, hf => by
    refine M_loop l0_engramtop_TopSorts.eq_1 ?_
    have hlt : (i : Int) < 6 := by omega
    have hi6 : i < 6 := by omega
    have hw := w64_succ (n := i) (by omega)
    have hw8 : IntKind.i64.wrap (8 * (i : Int)) = ((8 * i : Nat) : Int) := by rw [w64 (by omega) (by omega)]; omega
    have ix : indexIn (.int .i64 (i : Int)) 6 = some i := by simp only [indexIn]; rw [if_pos (by omega), Int.toNat_natCast]
    have ln : ((arr L i).flatMap i64c).length = 6 := by rw [i64_len, arr_len]
    have hlen := fun g' => hv.len g'
    have hA : ((arr L (i + 1)).flatMap i64c)[i]? = some (.int .i64 (vv L i)) := by
      rw [getD_at (by rw [arr_len]; omega), arr_get L (i + 1) i (by omega), if_pos (by omega)]
    by_cases c : i < L.length
    · have hci : (i : Int) < (L.length : Int) := by omega
      have hx : (L.flatMap i64c)[i]? = some (.int .i64 (L.getD i 0)) := getD_at c
      obtain ⟨x, hx0⟩ : ∃ x, x = L.getD i 0 := ⟨_, rfl⟩
      rw [← hx0] at hx
      have hs : splice ((arr L i).flatMap i64c) i [.int .i64 x] = (arr L (i + 1)).flatMap i64c := by
        rw [i64_set (by rw [arr_len]; omega), arr, if_pos c, ← hx0]
      obtain ⟨g1, hg1⟩ : ∃ g1, g1 = g.set W (.cells ((arr L (i + 1)).flatMap i64c) 0) := ⟨_, rfl⟩
      have k1 : ∀ j, j ≠ W → g1.get j = g.get j := fun j hj => by rw [hg1, get_set_ne hj]
      have gW : g1.get W = some (.cells ((arr L (i + 1)).flatMap i64c) 0) := by rw [hg1, get_set, if_pos rfl]
      have n1 : g1.n = g.n := by rw [hg1, n_set]
      have hM1 : MemV g1 b M (memK L i) ba da := hM.mono (by omega) (k1 M hMW) (fun j hj => k1 j (fun q => hbW (q ▸ hj))) (fun j hj => k1 j (fun q => hdW (q ▸ hj)))
      obtain ⟨g2, e2, hM2, k2⟩ := store_ok (bar := bar) hM1 hb ((8 * i : Nat) : Int) (vv L i) true
      have hN := sort_l0 hv hb hMW hbW hdW hW g0 Q hq n (i + 1) g2 (by omega) hM2 (by rw [k2.2 W hbW hdW]; exact gW) (by rw [k2.1, n1]; exact hn) (fun j h1 h2 h3 => by rw [k2.2 j h2 h3, k1 j h1]; exact hf j h1 h2 h3)
      have i1 : i + 1 ≤ 6 := by omega
      simp [go_sem, hlt, hlen, goI, hci, c, hi6]
      refine S_vcell (hv.vw _) c hx fun u => ?_
      simp [go_sem, get_alloc, n_alloc, get_set, n_set, get_kill, n_kill, writeAt, a11, a21, a31, a41, a51, a61, a71, isNil, ix, hg, ln, hs, hW, i1]
      rw [← hg1]
      simp [go_sem, get_alloc, n_alloc, get_set, n_set, get_kill, n_kill, writeAt, a11, a21, a31, a41, a51, a61, a71, isNil, hw8, ix, gW, hA]
      simp only [Int.natCast_mul, Int.cast_ofNat_Int] at e2
      simp [go_sem, get_alloc, n_alloc, get_set, n_set, get_kill, n_kill, writeAt, a11, a21, a31, a41, a51, a61, a71, isNil, e2, hw]
      exact hN
    · have hci : ¬ (i : Int) < (L.length : Int) := by omega
      have hAe : arr L (i + 1) = arr L i := by rw [arr, if_neg c]
      rw [hAe] at hA
      obtain ⟨g2, e2, hM2, k2⟩ := store_ok (bar := bar) hM hb ((8 * i : Nat) : Int) (vv L i) true
      have hN := sort_l0 hv hb hMW hbW hdW hW g0 Q hq n (i + 1) g2 (by omega) hM2 (by rw [k2.2 W hbW hdW, hAe]; exact hg) (by rw [k2.1]; exact hn) (fun j h1 h2 h3 => by rw [k2.2 j h2 h3]; exact hf j h1 h2 h3)
      simp only [Int.natCast_mul, Int.cast_ofNat_Int] at e2
      simp [go_sem, hlt, hlen, goI, hci, c, hi6, hw8, ix, hg, hA]
      simp [go_sem, get_alloc, n_alloc, get_set, n_set, get_kill, n_kill, writeAt, a11, a21, a31, a41, a51, a61, a71, isNil, e2, hw]
      exact hN
theorem sort_l3 {b M W : Nat} {ba da : AV} {l : List Int} (hl : l.length = 6) (hr : ∀ y ∈ l, i64R y) (hM : MemV g b M (sixM l) ba da) (hg : g.get W = some (.cells (l.flatMap i64c) 0)) (Q : Ex → Env → H → Prop) (hq : ∀ e, Q (.exit 6) e g) : ∀ (n i : Nat), 6 = i + n →
    wpL (call tb prim) bar [4, 5, 11] l3_engramtop_TopSorts [(4, .ptr M 0), (5, .ptr W 0), (11, .int .i64 (i : Nat))] g Q
  | 0, i, h6 => by
    have hi : i = 6 := by omega
    subst hi
    refine M_loop l3_engramtop_TopSorts.eq_1 ?_
    simp [go_sem]
    exact hq _
  | n + 1, i, h6 => by
    refine M_loop l3_engramtop_TopSorts.eq_1 ?_
    have hlt : (i : Int) < 6 := by omega
    have hi6 : i < 6 := by omega
    have hw := w64_succ (n := i) (by omega)
    have hw8 : IntKind.i64.wrap (8 * (i : Int)) = ((8 * i : Nat) : Int) := by rw [w64 (by omega) (by omega)]; omega
    have ix : indexIn (.int .i64 (i : Int)) 6 = some i := by simp only [indexIn]; rw [if_pos (by omega), Int.toNat_natCast]
    have e1 := load_ok (bar := bar) hM ((8 * i : Nat) : Int) true
    rw [load_six hl hr hi6] at e1
    have hx := getD_at (l := l) (i := i) (by omega)
    obtain ⟨x, hx0⟩ : ∃ x, x = l.getD i 0 := ⟨_, rfl⟩
    rw [← hx0] at hx e1
    simp only [Int.natCast_mul, Int.cast_ofNat_Int] at e1
    have hN := sort_l3 hl hr hM hg Q hq n (i + 1) (by omega)
    simp [go_sem, get_alloc, n_alloc, get_set, n_set, get_kill, n_kill, writeAt, a11, a21, a31, a41, a51, a61, a71, isNil, hlt, hi6, hw8, ix, e1, hg, hx, hw]
    exact hN
def soT : ByteArray := ⟨#[54, 67, 91, 99, 33, 63, 126, 59, 48, 68, 91, 100, 32, 53, 61, 63, 126, 59, 100, 56, 42, 69, 101, 64, 70, 101, 56, 43, 64, 71, 103, 102, 60, 63, 101, 103, 36, 101, 56, 43, 102, 36, 59, 100, 32, 49, 43, 68, 93, 99, 32, 49, 45, 67, 93, 48]⟩
theorem sort_unit : UnitOk 1 1 [⟨115, 0, soT⟩] [sortC] := by
  refine ⟨by kernel_rfl, fun f hf => ?_, fun f hf k hk => ?_, fun f hf => ?_, by simp, by kernel_rfl⟩
  · rw [List.mem_singleton] at hf; subst hf
    refine ⟨sortC.to, by kernel_rfl, fun x hx => ?_⟩
    have : sortC.to.all (fun x => decide (x ≤ 2000)) = true := rfl
    rw [List.all_eq_true] at this
    simpa using this x hx
  · rw [List.mem_singleton] at hf; subst hf
    have : (gTok soT).1.all (fun k => sigOk k.sign) = true := by kernel_rfl
    rw [List.all_eq_true] at this
    exact this k hk
  · rw [List.mem_singleton] at hf; subst hf; exact ⟨by show (0 : Int) ≤ 0; omega, by show (0 : Int) ≤ 26; omega⟩
theorem fillS0 (nm : Int) (s : ByteArray) : fillA [.int .i32 0, .int .i64 0, .str ⟨#[]⟩] [(0, 1, .int .i32 nm), (2, 1, .str s)] = some [.int .i32 nm, .int .i64 0, .str s] := by
  rw [fillA_one rfl (by simp), fillA_one rfl (by simp [splice])]; rfl
theorem fillS3 (nm : Int) (s : ByteArray) : fillA [.int .i32 0, .int .i64 0, .str ⟨#[]⟩] [(0, 3, .agg [.int .i32 nm, .int .i64 0, .str s])] = some [.int .i32 nm, .int .i64 0, .str s] := by
  rw [fillA_cons (n := 3) (v := .agg [.int .i32 nm, .int .i64 0, .str s]) rfl (by simp) rfl]; rfl
theorem fillSU {a : AV} (h : a.one = true) : fillA [.int .i64 0, .int .i64 0, .nilsl] [(0, 1, .int .i64 1), (1, 1, .int .i64 1), (2, 1, a)] = some [.int .i64 1, .int .i64 1, a] := by
  rw [fillA_one rfl (by simp), fillA_one rfl (by simp [splice]), fillA_one h (by simp [splice])]; rfl
theorem vv_rng {L : List Int} (hr : ∀ x ∈ L, i64R x) (i : Nat) : i64R (vv L i) := by
  unfold vv
  split
  · rename_i c
    rw [List.getD_eq_getElem?_getD, List.getElem?_eq_getElem c]
    exact hr _ (List.getElem_mem c)
  · exact ⟨by omega, by omega⟩
theorem TopSorts_ok {la : AV} {L : List Int} (hv : FzV 1 la L.length (L.flatMap i64c)) (hr : ∀ x ∈ L, i64R x) : call tb prim n_engramtop_TopSorts [la] bar g = some (.bool true, g) := by
  refine call_of tb_engramtop_TopSorts (callF_pureW rfl rfl (M_in ?_))
  have eA := fun g' => top_awake_ok (bar := g.n) (g := g')
  obtain ⟨ga, hga⟩ : ∃ ga, ga = ((g.alloc (.cells [.int .i32 115, .int .i64 0, .str soT] 0)).alloc (.cells [.int .i64 0, .int .i64 0, .nilsl] 0)).set (g.n + 1) (.cells [.int .i64 1, .int .i64 1, .sl g.n 0 3 1 true] 0) := ⟨_, rfl⟩
  have na : ga.n = g.n + 2 := by rw [hga]; rfl
  have gU : ga.get (g.n + 1) = some (.cells [.int .i64 1, .int .i64 1, .sl g.n 0 3 1 true] 0) := by rw [hga, get_set, if_pos rfl]
  have gF : ga.get g.n = some (.cells [.int .i32 115, .int .i64 0, .str soT] 0) := by
    rw [hga, get_set_ne (by omega), get_alloc, if_neg (by rw [n_alloc]; omega), get_alloc, if_pos rfl]
  have hFV : FV ga (.sl g.n 0 3 1 true) [⟨115, 0, soT⟩] := ⟨rfl, by simp, .inr (.inr ⟨g.n, 0, true, _, 0, rfl, by omega, gF, by simp, rfl⟩)⟩
  obtain ⟨g2, M, ba, da, e2, hM, n2, k2⟩ := new_ok (bar := g.n) (g := ga) 1 1 (by omega) (by omega) (by omega)
  rw [show ((1 : Nat) : Int) = 1 from rfl] at e2
  obtain ⟨g3, hg3⟩ : ∃ g3, g3 = g2.alloc (.cells [.int .i64 0, .int .i64 0, .int .i64 0, .int .i64 0, .int .i64 0, .int .i64 0] 0) := ⟨_, rfl⟩
  have n3 : g3.n = g2.n + 1 := by rw [hg3, n_alloc]
  have k3 : ∀ j, j < g2.n → g3.get j = g2.get j := fun j hj => by rw [hg3, get_alloc, if_neg (by omega)]
  have gW : g3.get g2.n = some (.cells ((arr L 0).flatMap i64c) 0) := by rw [hg3, get_alloc, if_pos rfl]; rfl
  have hMl := hM.lt
  have hMb := hM.bM
  have hbl := fun j hj => hM.ob.at_lt (j := j) hj
  have hdl := fun j hj => hM.od.at_lt (j := j) hj
  have hM3 : MemV g3 ga.n M (memK L 0) ba da := hM.mono (by omega) (k3 M hMl) (fun j hj => k3 j (hbl j hj).2) (fun j hj => k3 j (hdl j hj).2)
  have hU1 := fun (x : AV) (h : x.one = true) => fillSU h
  have s1 : (ByteArray.mk #[54, 67, 91, 99, 33, 63, 126, 59, 48, 68, 91, 100, 32, 53, 61, 63, 126, 59, 100, 56, 42, 69, 101, 64, 70, 101, 56, 43, 64, 71, 103, 102, 60, 63, 101, 103, 36, 101, 56, 43, 102, 36, 59, 100, 32, 49, 43, 68, 93, 99, 32, 49, 45, 67, 93, 48]) = soT := rfl
  simp [f_engramtop_TopSorts, env0, go_sem, get_alloc, n_alloc, get_set, n_set, get_kill, n_kill, writeAt, a11, a21, a31, a41, a51, a61, a71, isNil, evParts, s1, fillS0, fillS3, AV.cells, hU1, spT3]
  simp only [← hga]
  simp [go_sem, get_alloc, n_alloc, get_set, n_set, get_kill, n_kill, writeAt, a11, a21, a31, a41, a51, a61, a71, isNil, isNilK, e2]
  rw [← hg3]
  refine sort_l0 (b := ga.n) hv (M := M) (W := g2.n) (by omega) (by omega) (fun q => by have := (hbl _ q).2; omega) (fun q => by have := (hdl _ q).2; omega) (by omega) g3 _ (fun e g4 q3 q4 q5 hM4 gW4 n4 k4 => ?_) 6 0 g3 (by omega) hM3 gW rfl (fun _ _ _ _ => rfl)
  simp [go_sem, get_alloc, n_alloc, get_set, n_set, get_kill, n_kill, writeAt, a11, a21, a31, a41, a51, a61, a71, isNil, q3, q4, q5]
  refine sort_l2 (W := g2.n) (by omega) _ (srtO 5 1 (arr L 6)) g4 (fun e g5 p3 p4 p5 gW5 n5 k5 => ?_) 5 1 (arr L 6) g4 (by omega) (arr_len L 6) rfl gW4 rfl (fun _ _ => rfl)
  have hrA : ∀ y ∈ arr L 6, i64R y := fun y hy => by
    rw [arr_six] at hy
    simp only [List.mem_cons, List.not_mem_nil, or_false] at hy
    rcases hy with rfl | rfl | rfl | rfl | rfl | rfl <;> exact vv_rng hr _
  rw [srt_eq _ (arr_len L 6)] at gW5
  rw [memK_six] at hM4
  have hMW : M ≠ g2.n := by omega
  have hM5 : MemV g5 ga.n M (sixM (arr L 6)) ba da := hM4.mono (by omega) (k5 M hMW) (fun j hj => k5 j (fun q => by have := (hbl _ hj).2; omega)) (fun j hj => k5 j (fun q => by have := (hdl _ hj).2; omega))
  have gU5 : ∀ j, j < ga.n → g5.get j = ga.get j := fun j hj => by
    rw [k5 j (by omega), k4 j (by omega) (fun q => by have := (hbl _ q).1; omega) (fun q => by have := (hdl _ q).1; omega), k3 j (by omega), k2 j hj]
  have hU5 : g5.get (g.n + 1) = some (.cells [.int .i64 1, .int .i64 1, .sl g.n 0 3 1 true] 0) := by rw [gU5 _ (by omega)]; exact gU
  have hFV5 : FV g5 (.sl g.n 0 3 1 true) [⟨115, 0, soT⟩] := hFV.keep (by omega) (fun j hj => gU5 j (hFV.at_lt' hj))
  obtain ⟨g6, e6, hR, n6, k6⟩ := row_new_nil (bar := g.n) (g := g5) (by omega)
  have hM6 : MemV g6 g.n M (sixM (arr L 6)) ba da := by
    have h1 := hM5.mono (g' := g6) (by omega) (k6 M (by omega)) (fun j hj => k6 j (by have := (hbl _ hj).2; omega)) (fun j hj => k6 j (by have := (hdl _ hj).2; omega))
    exact ⟨h1.get, by omega, h1.lt, h1.ob.bar_le (by omega), h1.od.bar_le (by omega), h1.nb, h1.nd, h1.ap, h1.sz, h1.m0, h1.m1, h1.rng⟩
  have hR6 : RowV g6 g.n g5.n ⟨[], []⟩ .nilsl .nilsl := ⟨hR.get, by omega, hR.lt, hR.l, OW.nil, hR.nl, hR.na, hR.ap, hR.sm⟩
  have hFV6 : FV g6 (.sl g.n 0 3 1 true) [⟨115, 0, soT⟩] := hFV5.keep (by omega) (fun j hj => k6 j (by have := hFV5.at_lt' hj; omega))
  obtain ⟨nE, hE⟩ := sort_ends (fs := [⟨115, 0, soT⟩]) (cs := [sortC]) (r := ⟨[], []⟩) (arr_len L 6) hrA
  obtain ⟨xa, g7, own', ids, C, e7, hxa, _, _, _, hMO, _, k7, _⟩ := run_at (bar := g.n) sort_unit hFV6 hM6 hR6 (by omega) (by omega) (fun q => by have := (hbl _ q).2; omega) (fun q => by have := (hdl _ q).2; omega) (fun j hj => hj.elim) (fun j hj => hj.elim)
    (fun j hj => by have := hFV.at_lt' hj; exact ⟨by omega, by omega, fun q => by have := (hbl _ q).1; omega, fun q => by have := (hdl _ q).1; omega, fun q => q, fun q => q⟩) (nm := 115) (fuel := 20000) (by omega) (by omega) (k := 0) rfl (f := ⟨115, 0, soT⟩) rfl (aa := .nilsl) (args := []) Vw.nil rfl (by simp) (s' := ⟨[], sixM (bubN 6 (arr L 6)), ⟨[], []⟩, 0⟩) (v := 0) (n' := nE) (by
      rw [show codeW ⟨115, 0, soT⟩ = sortC by kernel_rfl]
      exact hE)
  unfold runRes at e7
  obtain ⟨⟨ba', da', hM7, _, _⟩, _⟩ := hMO
  have gW7 : g7.get g2.n = some (.cells ((bubN 6 (arr L 6)).flatMap i64c) 0) := by
    rw [k7.2 _ (by omega) ?_, k6 _ (by omega)]; exact gW5
    have h1 : g2.n ≠ M := by omega
    have h2 : g2.n ≠ g5.n := by omega
    have h3 : ¬ ba.isAt g2.n := fun q => by have := (hbl _ q).2; omega
    have h4 : ¬ da.isAt g2.n := fun q => by have := (hdl _ q).2; omega
    have h5 : ¬ (AV.nilsl).isAt g2.n := fun q => q
    have h6 : ¬ (AV.sl g.n 0 3 1 true).isAt g2.n := fun q => by have := hFV.at_lt' q; omega
    simp only [ownF, h1, h2, h3, h4, h5, h6, if_false]
    unfold tA
    omega
  have hall : ([.int .i64 0, .int .i64 0, .int .i64 nE, xa] : List AV).all AV.one = true := by
    show (true && (true && (true && (xa.one && true)))) = true
    rw [hxa.one]; rfl
  have hb7 : g.n ≤ g7.n := by have := k7.1; omega
  have hU6 : g6.get (g.n + 1) = some (.cells [.int .i64 1, .int .i64 1, .sl g.n 0 3 1 true] 0) := by rw [k6 _ (by omega)]; exact hU5
  simp [go_sem, get_alloc, n_alloc, get_set, n_set, get_kill, n_kill, writeAt, a11, a21, a31, a41, a51, a61, a71, isNil, p3, p4, p5]
  refine ⟨sees_of rfl ?_, ?_⟩
  · simp [-getElem?_pos, R_nil, R_cons, RS_some, sameV_some, seesQ_some, List.take, List.take_succ_cons, List.take_zero, go_sem, get_alloc, n_alloc, get_set, n_set, get_kill, n_kill, writeAt, a11, a21, a31, a41, a51, a61, a71, isNil, hU5, hU6, e6, List.getElem?_cons_zero, List.getElem?_cons_succ]
  obtain ⟨g8, hg8⟩ : ∃ g8, g8 = (g7.alloc (.cells [.int .i64 0, .int .i64 0, .int .i64 0, .nilsl] 0)).set g7.n (.cells [.int .i64 0, .int .i64 0, .int .i64 nE, xa] 0) := ⟨_, rfl⟩
  have n8 : g8.n = g7.n + 1 := by rw [hg8, n_set, n_alloc]
  have k8 : ∀ j, j < g7.n → g8.get j = g7.get j := fun j hj => by rw [hg8, get_set_ne (by omega), get_alloc, if_neg (by omega)]
  have gR8 : g8.get g7.n = some (.cells [.int .i64 0, .int .i64 0, .int .i64 nE, xa] 0) := by rw [hg8, get_set, if_pos rfl]
  have hM8 : MemV g8 g.n M (sixM (bubN 6 (arr L 6))) ba' da' := hM7.mono (by omega) (k8 M hM7.lt) (fun j hj => k8 j (hM7.ob.at_lt hj).2) (fun j hj => k8 j (hM7.od.at_lt hj).2)
  have gW8 : g8.get g2.n = some (.cells ((bubN 6 (arr L 6)).flatMap i64c) 0) := by rw [k8 _ (by have := k7.1; omega)]; exact gW7
  have hpm := bubN_perm 6 (arr L 6)
  simp [go_sem, get_alloc, n_alloc, get_set, n_set, get_kill, n_kill, writeAt, a11, a21, a31, a41, a51, a61, a71, isNil, hU5, e6, e7, AV.cells, hall, sp40, hb7]
  rw [← hg8]
  refine sort_l3 (b := g.n) (W := g2.n) (by rw [hpm.length_eq, arr_len]) (fun y hy => hrA y (hpm.mem_iff.mp hy)) hM8 gW8 _ (fun e => ?_) 6 0 (by omega)
  simp [go_sem, get_alloc, n_alloc, get_set, n_set, get_kill, n_kill, writeAt, a11, a21, a31, a41, a51, a61, a71, isNil, eA]
  simp [go_sem, endP, endI, resultsA, resultA, freezeL, freezeV, AV.free.freeL, AV.free, packA, dropS]
end
end Go.Ev
