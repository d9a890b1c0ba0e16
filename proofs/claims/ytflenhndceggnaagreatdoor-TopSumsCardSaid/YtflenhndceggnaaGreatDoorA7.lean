/- Part 7 of 8 of the proof that TopSums of engramtop returns true for every argument; nothing is assumed. -/
import Derived.Test.YtflenhndceggnaaGreatDoorA6
set_option linter.unusedSimpArgs false
set_option linter.unusedVariables false
set_option linter.all false
set_option linter.unusedSectionVars false
namespace Go.Ev
open Go
theorem FzV.drop {k : Nat} {a : AV} {n : Nat} {cs : List AV} (v : FzV k a n cs) {i : Nat} (hi : i ≤ n) : ∃ a', sliceA k a (some (.int .i64 (i : Int))) none none = some a' ∧ FzV k a' (n - i) (cs.drop (i * k)) := by
  obtain ⟨h1, h2, ⟨rfl, rfl⟩ | ⟨full, rfl⟩⟩ := v
  · have hi0 : i = 0 := by omega
    subst hi0
    refine ⟨.nilsl, by simp [sliceA, optBound, bound], by simp [h1], by omega, .inl ⟨rfl, rfl⟩⟩
  · have e1 : optBound 0 (some (AV.int .i64 (i : Int))) = some i := by simp [optBound, bound]
    have e2 : ∀ n, optBound n none = some n := fun _ => rfl
    refine ⟨.fz k (n - i) ((cs.drop (i * k)).take ((n - i) * k)) (full && decide (n = n)), ?_, ?_, by omega, ?_⟩
    · simp only [sliceA, e1, e2]
      rw [if_pos ⟨trivial, h1, by omega, Nat.le_refl _⟩]
    · rw [List.length_drop, h1, Nat.sub_mul]
    · exact .inr ⟨_, by rw [List.take_of_length_le (by rw [List.length_drop, h1, Nat.sub_mul]; exact Nat.le_refl _)]⟩
theorem askR_pre (r : Row) (nm n : Int) : ∃ l, (askR r nm n).1.asks = r.asks ++ l := by
  unfold askR; split <;> exact ⟨_, rfl⟩
theorem plainF_pre {t : Tok} {st st' : List Int} {r r' : Row} {tr tr' : Int} (h : plainF t st r tr = some (st', r', tr')) : ∃ l, r'.asks = r.asks ++ l := by
  unfold plainF at h
  repeat' split at h
  all_goals first
    | cases h; exact askR_pre _ _ _
    | cases h; exact ⟨[], by simp⟩
    | cases h
theorem stepM_pre {fs : List Fn} {cs : List Code'} {s s' : Mc} (h : stepM fs cs s = some s') : ∃ l, s'.r.asks = s.r.asks ++ l := by
  unfold stepM at h
  repeat' split at h
  all_goals first
    | cases h; done
    | (rename_i hm; cases h; exact plainF_pre hm)
    | cases h; exact ⟨[], by simp⟩
theorem runM_pre {fs : List Fn} {cs : List Code'} : ∀ (n : Nat) {s s' : Mc} {v : Int} {n' : Nat}, runM fs cs n s = some (s', v, n') → ∃ l, s'.r.asks = s.r.asks ++ l
  | n, s, s', v, n', h => by
    unfold runM at h
    split at h
    · cases h; exact ⟨[], by simp⟩
    · split at h
      · cases h
      · split at h
        · cases h
        · cases h; exact ⟨[], by simp⟩
        · split at h
          · cases h; exact ⟨[], by simp⟩
          · split at h
            · cases h
            · rename_i hs
              obtain ⟨l1, h1⟩ := stepM_pre hs
              obtain ⟨l2, h2⟩ := runM_pre _ h
              exact ⟨l1 ++ l2, by rw [h2, h1]; simp⟩
theorem sp40 (a b c d u v w x : AV) : splice [a, b, c, d] 0 [u, v, w, x] = [u, v, w, x] := Eq.trans rfl rfl
theorem fillA_cons {z : List AV} {off n : Nat} {v : AV} {r : List (Nat × Nat × AV)} (h1 : v.cells.length = n) (h2 : off + n ≤ z.length) (h3 : v.cells.all AV.one = true) : fillA z ((off, n, v) :: r) = fillA (splice z off v.cells) r := by
  rw [fillA, if_pos ⟨h1, h2, h3⟩]
theorem fillA_one {z : List AV} {off : Nat} {v : AV} {r : List (Nat × Nat × AV)} (h : v.one = true) (h2 : off + 1 ≤ z.length) : fillA z ((off, 1, v) :: r) = fillA (splice z off [v]) r := by
  have e := cells_one h
  rw [fillA_cons (by rw [e]; rfl) h2 (by rw [e]; simp [h]), e]
theorem fillX (p mo : Int) {fa ca : AV} (h1 : fa.one = true) (h2 : ca.one = true) (M R : Nat) : fillA [.int .i64 0, .int .i64 0, .nilsl, .nilsl, .nilptr, .nilptr, .nilsl, .int .i64 0, .int .i64 0] [(0, 3, .agg [.int .i64 p, .int .i64 mo, fa]), (3, 1, ca), (4, 1, .ptr M 0), (5, 1, .ptr R 0)] = some [.int .i64 p, .int .i64 mo, fa, ca, .ptr M 0, .ptr R 0, .nilsl, .int .i64 0, .int .i64 0] := by
  rw [fillA_cons (n := 3) (v := .agg [.int .i64 p, .int .i64 mo, fa]) rfl (by simp) (by
    show (true && (true && (fa.one && true))) = true
    rw [h1]; rfl), fillA_one h2 (by simp [splice, AV.cells]), fillA_one rfl (by simp [splice, AV.cells]), fillA_one rfl (by simp [splice, AV.cells])]
  rfl
theorem fill4 (a b c : Int) {d : AV} (h : d.one = true) : fillA [.int .i64 0, .int .i64 0, .int .i64 0, .nilsl] [(0, 1, .int .i64 a), (1, 1, .int .i64 b), (2, 1, .int .i64 c), (3, 1, d)] = some [.int .i64 a, .int .i64 b, .int .i64 c, d] := by
  rw [fillA_one rfl (by simp), fillA_one rfl (by simp [splice]), fillA_one rfl (by simp [splice]), fillA_one h (by simp [splice])]
  rfl
/-- What a run gives. -/
def runRes (v tr n : Int) (aa : AV) : AV := .tup [.agg [.int .i64 v, .int .i64 tr, .int .i64 n, aa], .int .i64 0]
section
variable {bar : Nat} {g : H} {own : Nat → Nat} {fa aa : AV} {fs : List Fn} {p mo : Int} {M R : Nat} {m : Mem} {r : Row}
theorem Run_ok (hv : FV g fa fs) (hfo : At own fa 0) (hm : MemO g bar own M m) (hr : RowO g bar own R r) (hbar : bar ≤ g.n) (hright : rightN p mo fs = 0) (hto : ∀ f ∈ fs, toOk f) (hsig : ∀ f ∈ fs, ∀ k ∈ (gTok f.code).1, sigOk k.sign = true) (harg : ∀ f ∈ fs, 0 ≤ f.args ∧ f.args ≤ 26) (hl32 : fs.length ≤ 32)
    {nm fuel : Int} (hf0 : 0 ≤ fuel) (hf1 : fuel ≤ 1048576) {k : Nat} (hk : findN nm fs 0 = k) {f : Fn} (hf : fs[k]? = some f) {args : List Int} (haa : Vw 1 g aa args.length (args.map (AV.int .i64))) (hargs : f.args = args.length) (hra : r.asks.length ≤ 900000)
    {s' : Mc} {v : Int} {n' : Nat} (hrun : runM fs (fs.map codeN) fuel.toNat ⟨[newF (codeN f) args], m, r, 0⟩ = some (s', v, n')) :
    ∃ xa g' own' ids C, call tb prim n_engine_Run [.agg [.int .i64 p, .int .i64 mo, fa], .ptr M 0, .ptr R 0, .int .i32 nm, .int .i64 fuel, aa] bar g = some (runRes v s'.trap n' xa, g') ∧ FzV 2 xa (s'.r.asks.length - r.asks.length) ((s'.r.asks.drop r.asks.length).flatMap asC) ∧ C.M = M ∧ C.R = R ∧ XO g' bar own' C s'.trap v ids ∧ MemO g' bar own' M s'.m ∧ RowO g' bar own' R s'.r ∧ Kp own tA g g' ∧ Agr g.n own own' := by
  -- ahead of the runner
  obtain ⟨g1, hg1⟩ : ∃ g1, g1 = (g.alloc (.cells [.int .i64 p, .int .i64 mo, fa] 0)).alloc (.cells [.int .i64 0, .int .i64 0, .int .i64 0, .nilsl] 0) := ⟨_, rfl⟩
  have n1 : g1.n = g.n + 2 := by rw [hg1]; simp [n_alloc]
  have k1 : ∀ j, j < g.n → g1.get j = g.get j := fun j hj => by rw [hg1, get_alloc, if_neg (by simp [n_alloc]; omega), get_alloc, if_neg (by omega)]
  have gU : g1.get g.n = some (.cells [.int .i64 p, .int .i64 mo, fa] 0) := by rw [hg1, get_alloc, if_neg (by simp [n_alloc]), get_alloc, if_pos rfl]
  have gC : g1.get (g.n + 1) = some (.cells [.int .i64 0, .int .i64 0, .int .i64 0, .nilsl] 0) := by rw [hg1, get_alloc, if_pos (by simp [n_alloc])]
  have hv1 : FV g1 fa fs := hv.keep (by omega) (fun j hj => k1 j (hv.at_lt' hj))
  have eR := unit_Right_ok (bar := bar) (p := p) (m := mo) hv1
  rw [hright] at eR
  have eF := check_Find_ok (pr := prim) (bar := bar) (h := g1) fs fa nm p mo hv1
  rw [hk] at eF
  have hkl := (List.getElem?_eq_some_iff.mp hf).1
  have hfk : fs[k] = f := (List.getElem?_eq_some_iff.mp hf).2
  obtain ⟨own1, hown1⟩ : ∃ own1, own1 = ext own g.n 9 := ⟨_, rfl⟩
  have kp1 : Kp own (fun _ => False) g g1 := ⟨by omega, fun j hj _ => k1 j hj⟩
  have ag1 : Agr g.n own own1 := by rw [hown1]; exact Agr.ext
  have m1 := hm.mono kp1 ag1 (by simp)
  have r1 := hr.mono kp1 ag1 (by simp)
  have r1' := r1
  obtain ⟨⟨rla, raa, hrv, _, _⟩, _⟩ := r1'
  obtain ⟨xa0, eA, hxa0⟩ := asks_ok (bar := bar) hrv
  have hlenA := hxa0.len
  obtain ⟨ca, rows, eC, hca, hrl, hrows⟩ := engine_codes_ok (bar := bar) (p := p) (m := mo) hv1 hto (by omega)
  -- the runner
  obtain ⟨C, hC⟩ : ∃ C : Cx, C = ⟨g1.n, p, mo, fa, fs, ca, rows, M, R⟩ := ⟨_, rfl⟩
  have hCM : C.M = M := by rw [hC]
  have hCR : C.R = R := by rw [hC]
  have hCX : C.X = g1.n := by rw [hC]
  have hCfs : C.fs = fs := by rw [hC]
  have hCrows : C.rows = rows := by rw [hC]
  obtain ⟨g2, hg2⟩ : ∃ g2, g2 = g1.alloc (.cells [.int .i64 p, .int .i64 mo, fa, ca, .ptr M 0, .ptr R 0, .nilsl, .int .i64 0, .int .i64 0] 0) := ⟨_, rfl⟩
  have n2 : g2.n = g1.n + 1 := by rw [hg2]; simp [n_alloc]
  obtain ⟨own2, hown2⟩ : ∃ own2, own2 = ext own1 g1.n 1 := ⟨_, rfl⟩
  have kp2 : Kp own1 (fun _ => False) g1 g2 := by rw [hg2]; exact alloc_kp
  have ag2 : Agr g1.n own1 own2 := by rw [hown2]; exact Agr.ext
  have hfo1 : At own1 fa 0 := fun j hj => by rw [ag1 j (hv.at_lt' hj)]; exact hfo j hj
  have cx1 : CxV g1 own1 C := by
    rw [hC]
    refine ⟨hv1, hfo1, hca, fun x hx => ?_⟩
    obtain ⟨j, hj⟩ := List.mem_iff_getElem?.mp hx
    obtain ⟨f2, hf2, e2, hcv⟩ := hrows j x hj
    refine ⟨hcv, ?_⟩
    rw [e2]; exact harg f2 (List.mem_of_getElem? hf2)
  have cx2 : CxV g2 own2 C := cx1.mono kp2 ag2 (by simp)
  have x2 : XO g2 bar own2 C 0 0 [] := ⟨⟨.nilsl, by rw [hCX, hg2, get_alloc, if_pos rfl, hC]; rfl, OW.nil, fun j hj => hj.elim⟩, by rw [hCX, hown2]; simp [ext], by rw [hCX]; omega, by rw [hCX]; omega, by simp⟩
  have m2 := m1.mono kp2 ag2 (by simp)
  have r2 := r1.mono kp2 ag2 (by simp)
  obtain ⟨x, hx⟩ : ∃ x, rows[k]? = some x := ⟨rows[k]'(by omega), List.getElem?_eq_getElem (by omega)⟩
  obtain ⟨f2, hf2, ex2, hcv2⟩ := hrows k x hx
  have : f2 = f := by rw [hf] at hf2; cases hf2; rfl
  subst this
  have haa2 : Vw 1 g2 aa args.length (args.map (AV.int .i64)) := haa.keep (by omega) (fun j hj => by have := haa.at_lt' hj; rw [hg2, get_alloc, if_neg (by omega)]; exact k1 j this)
  obtain ⟨g3, own3, e3, x3, f3, k3, a3⟩ := call_ok' (bar := bar) (args := args) x2 cx2 (Nat.le_refl _) (by omega) (by rw [hCrows]; exact hx) haa2 (by have := (harg f2 (List.mem_of_getElem? hf)).2; omega) (by simp)
  have cx3 := cx2.mono k3 a3 (by omega)
  have m3 := m2.mono k3 a3 (by omega)
  have r3 := r2.mono k3 a3 (by omega)
  have hsmall : totS [newF x.2.2 args] = 0 := rfl
  have xv3 : XV g3 bar own3 C ⟨[newF (codeN f2) args], m, r, 0⟩ 0 [g2.n] := ⟨x3, cx3, ⟨by rw [← ex2]; exact f3, trivial⟩, by rw [hCM]; exact m3, by rw [hCR]; exact r3, by have := k3.1; omega⟩
  have hmap : C.rows.map (·.2.2) = fs.map codeN := by
    rw [hCrows]
    apply List.ext_getElem?
    intro j
    rw [List.getElem?_map, List.getElem?_map]
    cases hj : rows[j]? with
    | none =>
      have : fs[j]? = none := by rw [List.getElem?_eq_none_iff] at hj ⊢; omega
      rw [this]; rfl
    | some y =>
      obtain ⟨f4, h4, h5, _⟩ := hrows j y hj
      rw [h4]; simp [h5]
  obtain ⟨lp, hlp⟩ := runM_pre _ hrun
  simp only at hlp
  have hws : (fuel.toNat : Int) = fuel := Int.toNat_of_nonneg hf0
  -- the result
  obtain ⟨y, g9, hcall, xa, own', ids, rfl, q1, q2, q3, q4, q5, q6⟩ := callF_K (o := call tb prim) (F := f_engine_Run) (bar := bar) (h := g) (args := [.agg [.int .i64 p, .int .i64 mo, fa], .ptr M 0, .ptr R 0, .int .i32 nm, .int .i64 fuel, aa])
    (P := fun y g' => ∃ xa own' ids, y = runRes v s'.trap n' xa ∧ FzV 2 xa (s'.r.asks.length - r.asks.length) ((s'.r.asks.drop r.asks.length).flatMap asC) ∧ XO g' bar own' C s'.trap v ids ∧ MemO g' bar own' M s'.m ∧ RowO g' bar own' R s'.r ∧ Kp own tA g g' ∧ Agr g.n own own') rfl rfl (fun K hK => by
    have d0 : decide (fuel < 0) = false := by simpa using hf0
    have d1 : decide (1048576 < fuel) = false := by simpa using hf1
    have dk : decide ((k : Int) < 0) = false := by simp
    have da : ((args.length : Int) != f2.args) = false := by rw [hargs]; simp
    have hla := haa.len
    simp [f_engine_Run, env0, go_sem, get_alloc, n_alloc, get_set, n_set, get_kill, n_kill, writeAt, a11, a21, a31, a41, a51, a61, a71, isNil, isNilK, hv.one, d0, d1]
    rw [← hg1]
    simp [go_sem, get_alloc, n_alloc, get_set, n_set, get_kill, n_kill, writeAt, a11, a21, a31, a41, a51, a61, a71, isNil, gU, eR, eF, dk, hla, goI]
    refine S_fld hv1 hkl fun u w => ?_
    rw [hfk]
    simp [go_sem, get_alloc, n_alloc, get_set, n_set, get_kill, n_kill, writeAt, a11, a21, a31, a41, a51, a61, a71, isNil, gU, da, eA, hlenA, goI, eC]
    have hfX := fillX p mo hv.one hca.one M R
    have hoX : ([.int .i64 p, .int .i64 mo, fa, ca, .ptr M 0, .ptr R 0, .nilsl, .int .i64 0, .int .i64 0] : List AV).all AV.one = true := by
      show (true && (true && (fa.one && (ca.one && (true && (true && (true && (true && (true && true))))))))) = true
      rw [hv.one, hca.one]; rfl
    rw [hCX] at e3
    simp [go_sem, get_alloc, n_alloc, get_set, n_set, get_kill, n_kill, writeAt, a11, a21, a31, a41, a51, a61, a71, isNil, evParts, hfX, AV.cells, hoX]
    rw [← hg2]
    simp [go_sem, get_alloc, n_alloc, get_set, n_set, get_kill, n_kill, writeAt, a11, a21, a31, a41, a51, a61, a71, isNil, e3]
    have hcs : ∀ x ∈ C.rows, ∀ k ∈ x.2.2.l, sigOk k.sign = true := fun y hy k2 hk2 => by
      rw [hCrows] at hy
      obtain ⟨j, hj⟩ := List.mem_iff_getElem?.mp hy
      obtain ⟨f4, h4, h5, _⟩ := hrows j y hj
      rw [h5] at hk2
      exact hsig f4 (List.mem_of_getElem? h4) k2 hk2
    have hl := fun Q hq => run_loop (bar := bar) (b := bar) (C := C) (Nat.le_refl _) r.asks.length (g.n + 1) hcs Q fuel.toNat g3 own3 ⟨[newF (codeN f2) args], m, r, 0⟩ [g2.n] (s' := s') (v := v) (n' := n') xv3 (fun y hy k2 hk2 => by
      rw [List.mem_singleton] at hy; subst hy; exact hsig f2 (List.mem_of_getElem? hf) k2 hk2) (by show 0 + 0 + fuel.toNat < _; omega) (by show r.asks.length + fuel.toNat < _; omega) (by simp) (by omega) (by rw [hCfs, hmap]; exact hrun) hq
    simp only [hCR, hCX, hws] at hl
    refine hl _ (fun e g4 own4 hR k4 a4 ge2 ge4 ge12 ge16 ge17 => ?_)
    obtain ⟨⟨ids, x4⟩, m4, r4, b4⟩ := hR
    rw [hCM] at m4
    rw [hCR] at r4
    have r4' := r4
    obtain ⟨⟨rla4, raa4, hrv4, _, _⟩, _⟩ := r4'
    obtain ⟨xa4, eA4, hxa4⟩ := asks_ok (bar := bar) hrv4
    have hle4 : r.asks.length ≤ s'.r.asks.length := by rw [hlp]; simp
    obtain ⟨xa5, eD, hxa5⟩ := hxa4.drop hle4
    rw [flat_drop (c := asC) (k := 2) (fun _ => rfl)] at hxa5
    have x4' := x4
    obtain ⟨⟨fra, gx4, _, _⟩, _, _, _, _⟩ := x4'
    rw [hCX] at gx4
    obtain ⟨xc, hxc⟩ : ∃ xc, xc = xC C fra s'.trap v := ⟨_, rfl⟩
    have hx7 : xc[7]? = some (.int .i64 s'.trap) := by rw [hxc]; rfl
    have hx8 : xc[8]? = some (.int .i64 v) := by rw [hxc]; rfl
    rw [← hxc] at gx4
    have oC1 : own1 (g.n + 1) = 9 := by rw [hown1]; simp only [ext]; rw [if_neg (by omega)]
    have oC2 : own2 (g.n + 1) = 9 := by rw [ag2 _ (by omega)]; exact oC1
    have oC3 : own3 (g.n + 1) = 9 := by rw [a3 _ (by omega)]; exact oC2
    have oC4 : own4 (g.n + 1) = 9 := by rw [a4 _ (by have := k3.1; omega)]; exact oC3
    have gC2 : g2.get (g.n + 1) = some (.cells [.int .i64 0, .int .i64 0, .int .i64 0, .nilsl] 0) := by rw [kp2.2 _ (by omega) (by simp)]; exact gC
    have gC3 : g3.get (g.n + 1) = some (.cells [.int .i64 0, .int .i64 0, .int .i64 0, .nilsl] 0) := by rw [k3.2 _ (by omega) (by rw [oC2]; omega)]; exact gC2
    have gC4 : g4.get (g.n + 1) = some (.cells [.int .i64 0, .int .i64 0, .int .i64 0, .nilsl] 0) := by rw [k4.2 _ (by have := k3.1; omega) (by rw [oC3]; unfold tA; omega)]; exact gC3
    have hf4 := fill4 v s'.trap n' hxa5.one
    have hall : ([.int .i64 v, .int .i64 s'.trap, .int .i64 n', xa5] : List AV).all AV.one = true := by
      show (true && (true && (true && (xa5.one && true)))) = true
      rw [hxa5.one]; rfl
    have hsta : ([.int .i64 v, .int .i64 s'.trap, .int .i64 n', xa5] : List AV).all AV.stay = true := by
      show (true && (true && (true && (xa5.stay && true)))) = true
      rw [hxa5.stay]; rfl
    have hfre : ([.int .i64 v, .int .i64 s'.trap, .int .i64 n', xa5] : List AV).all AV.free = true := by
      show (true && (true && (true && (xa5.free && true)))) = true
      rw [hxa5.free]; rfl
    have hbC : bar ≤ g.n + 1 := by omega
    obtain ⟨g5, hg5⟩ : ∃ g5, g5 = g4.set (g.n + 1) (.cells [.int .i64 v, .int .i64 s'.trap, .int .i64 n', xa5] 0) := ⟨_, rfl⟩
    have k5 : Kp own4 (fun k => k = 9) g4 g5 := ⟨by rw [hg5, n_set]; exact Nat.le_refl _, fun j hj hs => by rw [hg5, get_set_ne (fun q => hs (by rw [q]; exact oC4))]⟩
    have hfz := fun d h => freezeL_stay (bar := bar) (d := d) (h := h) hsta
    have gC5 : g5.get (g.n + 1) = some (.cells [.int .i64 v, .int .i64 s'.trap, .int .i64 n', xa5] 0) := by rw [hg5, get_set, if_pos rfl]
    have hw0 : (([.int .i64 0, .int .i64 0, .int .i64 0, .nilsl] : List AV)).length = 4 := rfl
    simp [go_sem, get_alloc, n_alloc, get_set, n_set, get_kill, n_kill, writeAt, a11, a21, a31, a41, a51, a61, a71, isNil, ge2, ge4, ge12, ge16, ge17, gx4, hx7, hx8, eA4, optEv, eD, evParts, hf4, gC4, hbC, AV.cells, hall, sp40]
    rw [← hg5]
    simp [go_sem, endP, endI, resultsA, resultA, freezeL, freezeV, AV.free.freeL, AV.free, packA, dropS, gC5, freezeV, freezeL, hfz]
    have kk4 : Kp own tA g g4 := (kp1.le fun k h => h.elim).trans ag1 ((kp2.le fun k h => h.elim).trans ag2 ((k3.le fun k h => by unfold tA; have h' : k = 1 ∨ k = 2 := h; omega).trans a3 k4))
    have kk : Kp own tA g g5 := ⟨by rw [hg5, n_set]; exact kk4.1, fun j hj hs => by rw [hg5, get_set_ne (by omega)]; exact kk4.2 j hj hs⟩
    have aa5 : Agr g.n own own4 := Agr.trans ag1 (Agr.trans ag2 (Agr.trans a3 a4 k3.1) (by omega)) (by omega)
    exact ⟨_, _, ⟨rfl, rfl⟩, hK _ _ ⟨xa5, own4, ids, rfl, hxa5, x4.mono k5 Agr.refl (by omega), m4.mono k5 Agr.refl (by omega), r4.mono k5 Agr.refl (by omega), kk, aa5⟩⟩)
  exact ⟨xa, _, own', ids, C, call_of tb_engine_Run hcall, q1, hCM, hCR, q2, q3, q4, q5, q6⟩
end
end Go.Ev
set_option linter.unusedSectionVars false
namespace Go.Ev
open Go
/-- A code's text. -/
structure TextOk (code : ByteArray) (c : Code') : Prop where
  tok : gTok code = (c.l, 0)
  nest : nestP c.l = some c.to
  args : c.args = 2
  right : rightN 1 8 [⟨102, 2, code⟩] = 0
  to : c.to.all (fun x => decide (x ≤ 2000)) = true
  sig : c.l.all (fun k => sigOk k.sign) = true
theorem TextOk.code {code : ByteArray} {c : Code'} (h : TextOk code c) : codeN ⟨102, 2, code⟩ = c := by
  unfold codeN
  simp only [h.tok, h.nest, Option.getD_some]
  rw [← h.args]
theorem fillO (s : ByteArray) : fillA [.int .i32 0, .int .i64 0, .str ⟨#[]⟩] [(0, 1, .int .i32 102), (1, 1, .int .i64 2), (2, 1, .str s)] = some [.int .i32 102, .int .i64 2, .str s] := by
  rw [fillA_one rfl (by simp), fillA_one rfl (by simp [splice]), fillA_one rfl (by simp [splice])]; rfl
theorem fillO3 (s : ByteArray) : fillA [.int .i32 0, .int .i64 0, .str ⟨#[]⟩] [(0, 3, .agg [.int .i32 102, .int .i64 2, .str s])] = some [.int .i32 102, .int .i64 2, .str s] := by
  rw [fillA_cons (n := 3) (v := .agg [.int .i32 102, .int .i64 2, .str s]) rfl (by simp) rfl]; rfl
theorem fillU (p m : Int) {a : AV} (h : a.one = true) : fillA [.int .i64 0, .int .i64 0, .nilsl] [(0, 1, .int .i64 p), (1, 1, .int .i64 m), (2, 1, a)] = some [.int .i64 p, .int .i64 m, a] := by
  rw [fillA_one rfl (by simp), fillA_one rfl (by simp [splice]), fillA_one h (by simp [splice])]; rfl
theorem fill2i (a b : Int) : fillA [.int .i64 0, .int .i64 0] [(0, 1, .int .i64 a), (1, 1, .int .i64 b)] = some [.int .i64 a, .int .i64 b] := by
  rw [fillA_one rfl (by simp), fillA_one rfl (by simp [splice])]; rfl
section
variable {bar : Nat} {g : H}
theorem top_one_ok (s : ByteArray) : ∃ fa, call tb prim n_engramtop_one [.str s] bar g = some (.agg [.int .i64 1, .int .i64 8, fa], g) ∧ FzV 3 fa 1 [.int .i32 102, .int .i64 2, .str s] := by
  suffices hw : ∃ r, callF (call tb prim) f_engramtop_one [.str s] bar g = some (r, g) ∧ ∃ fa, r = .agg [.int .i64 1, .int .i64 8, fa] ∧ FzV 3 fa 1 [.int .i32 102, .int .i64 2, .str s] by
    obtain ⟨r, h1, fa, rfl, h2⟩ := hw; exact ⟨fa, call_of tb_engramtop_one h1, h2⟩
  refine callF_pureK rfl rfl fun K hK => ?_
  have hU := fun a (h : AV.one a = true) => fillU 1 8 h
  simp [f_engramtop_one, env0, go_sem, get_alloc, n_alloc, get_set, n_set, get_kill, n_kill, writeAt, a11, a21, a31, a41, a51, a61, a71, isNil, evParts, fillO, fillO3, AV.cells, hU, spT3]
  simp [go_sem, get_alloc, n_alloc, get_set, n_set, get_kill, n_kill, writeAt, a11, a21, a31, a41, a51, a61, a71, endX, resultsA, resultA, freezeL, AV.free.freeL, packA, freezeV, freezeL, AV.free, AV.free.freeL]
  exact hK _ ⟨.fz 3 1 [.int .i32 102, .int .i64 2, .str s] true, rfl, ⟨rfl, by omega, .inr ⟨true, rfl⟩⟩⟩
open Classical in
/-- Whose the objects are ahead of a run. -/
noncomputable def ownR (M R : Nat) (ba da la aa : AV) : Nat → Nat := fun j => if j = M then 3 else if j = R then 6 else if ba.isAt j then 4 else if da.isAt j then 5 else if la.isAt j then 7 else if aa.isAt j then 8 else 9
theorem top_ends_ok {code : ByteArray} {c : Code'} {a b : Int} (ht : TextOk code c) {s' : Mc} {v : Int} {n' : Nat} (hr : runM [⟨102, 2, code⟩] [c] 100000 (M1 c (zeroM 1 8) ⟨[], []⟩ 0 (lc a b 0 0 0 0 0 0) []) = some (s', v, n')) :
    call tb prim n_engramtop_ends [.str code, .int .i64 a, .int .i64 b] bar g = some (.tup [.int .i64 v, .int .i64 s'.trap, .bool true], g) := by
  refine call_of tb_engramtop_ends (callF_pureW rfl rfl (M_in ?_))
  obtain ⟨fa, e1, hfa⟩ := top_one_ok (bar := g.n) (g := g) code
  obtain ⟨g2, M, ba, da, e2, hM, n2, k2⟩ := new_ok (bar := g.n) (g := g) 1 8 (by omega) (by omega) (Nat.le_refl _)
  obtain ⟨g3, e3, hR, n3, k3⟩ := row_new_nil (bar := g.n) (g := g2) n2
  obtain ⟨g4, hg4⟩ : ∃ g4, g4 = g3.alloc (.cells [.int .i64 a, .int .i64 b] 0) := ⟨_, rfl⟩
  have n4 : g4.n = g3.n + 1 := by rw [hg4, n_alloc]
  have k4 : ∀ j, j < g3.n → g4.get j = g3.get j := fun j hj => by rw [hg4, get_alloc, if_neg (by omega)]
  have hMl := hM.lt
  have hM4 : MemV g4 g.n M (zeroM 1 8) ba da := hM.mono (by omega) (by rw [k4 _ (by omega), k3 _ hMl]) (fun j hj => by have := (hM.ob.at_lt hj).2; rw [k4 _ (by omega), k3 _ this]) (fun j hj => by have := (hM.od.at_lt hj).2; rw [k4 _ (by omega), k3 _ this])
  have hMO : MemO g4 g.n (ownR M g2.n ba da .nilsl .nilsl) M (zeroM 1 8) := by
    refine ⟨⟨ba, da, hM4, fun j hj => ?_, fun j hj => ?_⟩, by simp [ownR]⟩
    · have h1 : j ≠ M := fun q => hM.nb (q ▸ hj)
      have h2 : j ≠ g2.n := by have := (hM.ob.at_lt hj).2; omega
      simp [ownR, h1, h2, hj]
    · have h1 : j ≠ M := fun q => hM.nd (q ▸ hj)
      have h2 : j ≠ g2.n := by have := (hM.od.at_lt hj).2; omega
      have h3 : ¬ ba.isAt j := fun q => hM.ap j q hj
      simp [ownR, h1, h2, h3, hj]
  have hRO : RowO g4 g.n (ownR M g2.n ba da .nilsl .nilsl) g2.n ⟨[], []⟩ := by
    refine ⟨⟨.nilsl, .nilsl, ⟨by rw [k4 _ (by omega)]; exact hR.get, n2, by omega, ⟨rfl, by simp, .inl ⟨rfl, rfl⟩⟩, OW.nil, fun q => q, fun q => q, fun j q => q.elim, by simp⟩, fun j hj => hj.elim, fun j hj => hj.elim⟩, ?_⟩
    have h1 : g2.n ≠ M := by omega
    simp [ownR, h1]
  have hFV : FV g4 fa [⟨102, 2, code⟩] := hfa.vw g4
  have hnot : ∀ j, ¬ fa.isAt j := fun j hj => by
    obtain ⟨_, _, ⟨rfl, _⟩ | ⟨full, rfl⟩⟩ := hfa <;> exact hj
  have hsz : g3.get g3.n = g3.get g3.n := rfl
  have hva : Vw 1 g4 (.sl g3.n 0 1 2 true) [a, b].length ([a, b].map (AV.int .i64)) := ⟨rfl, by simp, .inr (.inr ⟨g3.n, 0, true, [.int .i64 a, .int .i64 b], 0, rfl, by omega, by rw [hg4, get_alloc, if_pos rfl], by simp, rfl⟩)⟩
  obtain ⟨xa, g5, own', ids, C, e5, hxa, _, _, _, _, _, k5, _⟩ := Run_ok (bar := g.n) (p := 1) (mo := 8) (nm := 102) (fuel := 100000) (k := 0) (f := ⟨102, 2, code⟩) (args := [a, b]) hFV (fun j hj => (hnot j hj).elim) hMO hRO (by omega) ht.right (fun f hf => by
      rw [List.mem_singleton] at hf; subst hf
      refine ⟨c.to, by rw [ht.tok]; exact ht.nest, fun x hx => ?_⟩
      have := ht.to
      rw [List.all_eq_true] at this
      simpa using this x hx) (fun f hf k hk => by
      rw [List.mem_singleton] at hf; subst hf
      rw [ht.tok] at hk
      have := ht.sig
      rw [List.all_eq_true] at this
      simpa using this k hk) (fun f hf => by rw [List.mem_singleton] at hf; subst hf; exact ⟨by show (0 : Int) ≤ 2; omega, by show (2 : Int) ≤ 26; omega⟩) (by simp) (by omega) (by omega) rfl rfl hva rfl (by simp) (by
      rw [List.map_singleton, ht.code]; exact hr)
  rw [show ((1 : Nat) : Int) = 1 from rfl] at e2
  unfold runRes at e5
  have hall : ([.int .i64 v, .int .i64 s'.trap, .int .i64 n', xa] : List AV).all AV.one = true := by
    show (true && (true && (true && (xa.one && true)))) = true
    rw [hxa.one]; rfl
  simp [f_engramtop_ends, env0, go_sem, get_alloc, n_alloc, get_set, n_set, get_kill, n_kill, writeAt, a11, a21, a31, a41, a51, a61, a71, isNil, e1, e2, e3, evParts, fill2i]
  rw [← hg4]
  simp [go_sem, get_alloc, n_alloc, get_set, n_set, get_kill, n_kill, writeAt, a11, a21, a31, a41, a51, a61, a71, isNil, e5, AV.cells, hall, sp40]
  have hn5 : g.n ≤ g5.n := by have := k5.1; omega
  simp [go_sem, get_alloc, n_alloc, get_set, n_set, get_kill, n_kill, writeAt, a11, a21, a31, a41, a51, a61, a71, isNil, hn5]
  simp [go_sem, endP, endI, resultsA, resultA, freezeL, freezeV, AV.free.freeL, AV.free, packA, dropS]
theorem top_says_ok {code : ByteArray} {c : Code'} {a b : Int} (ht : TextOk code c) {s' : Mc} {v : Int} {n' : Nat} (hr : runM [⟨102, 2, code⟩] [c] 100000 (M1 c (zeroM 1 8) ⟨[], []⟩ 0 (lc a b 0 0 0 0 0 0) []) = some (s', v, n')) (h0 : s'.trap = 0) :
    call tb prim n_engramtop_says [.str code, .int .i64 a, .int .i64 b] bar g = some (.tup [.int .i64 v, .bool true], g) := by
  refine call_of tb_engramtop_says (callF_pureW rfl rfl (M_in ?_))
  have e := top_ends_ok (bar := g.n) (g := g) ht hr
  rw [h0] at e
  simp [f_engramtop_says, env0, go_sem, get_alloc, n_alloc, get_set, n_set, get_kill, n_kill, writeAt, a11, a21, a31, a41, a51, a61, a71, isNil, e]
  simp [go_sem, endP, endI, resultsA, resultA, freezeL, freezeV, AV.free.freeL, AV.free, packA, dropS]
theorem says_ends {code : ByteArray} {c : Code'} {a b v : Int} (ht : TextOk code c) {m : Mem} {r : Row} (h : Ends [⟨102, 2, code⟩] [c] 100000 (M1 c (zeroM 1 8) ⟨[], []⟩ 0 (lc a b 0 0 0 0 0 0) []) v m r) :
    call tb prim n_engramtop_says [.str code, .int .i64 a, .int .i64 b] bar g = some (.tup [.int .i64 v, .bool true], g) := by
  obtain ⟨n, hn⟩ := h
  exact top_says_ok ht hn rfl
theorem says_res {code : ByteArray} {c : Code'} {a b v : Int} (ht : TextOk code c) (h : resM (runM [⟨102, 2, code⟩] [c] 100000 (M1 c (zeroM 1 8) ⟨[], []⟩ 0 (lc a b 0 0 0 0 0 0) [])) = some (0, v)) :
    call tb prim n_engramtop_says [.str code, .int .i64 a, .int .i64 b] bar g = some (.tup [.int .i64 v, .bool true], g) := by
  cases hr : runM [⟨102, 2, code⟩] [c] 100000 (M1 c (zeroM 1 8) ⟨[], []⟩ 0 (lc a b 0 0 0 0 0 0) []) with
  | none => rw [hr] at h; cases h
  | some x =>
    obtain ⟨s', w, n'⟩ := x
    rw [hr] at h
    simp only [resM, Option.map_some, Option.some.injEq, Prod.mk.injEq] at h
    rw [← h.2]
    exact top_says_ok ht hr h.1
def wakeC : Code' := ⟨[nu 1, nu 2, tk 43], [-1, -1, -1], 2⟩
theorem wake_text : TextOk ⟨#[49, 32, 50, 43]⟩ wakeC := ⟨by kernel_rfl, by kernel_rfl, rfl, by kernel_rfl, rfl, rfl⟩
theorem wake_res : resM (runM [⟨102, 2, ⟨#[49, 32, 50, 43]⟩⟩] [wakeC] 100000 (M1 wakeC (zeroM 1 8) ⟨[], []⟩ 0 (lc 0 0 0 0 0 0 0 0) [])) = some (0, 3) := by kernel_rfl
theorem top_awake_ok : call tb prim n_engramtop_awake [] bar g = some (.bool true, g) := by
  refine call_of tb_engramtop_awake (callF_pureW rfl rfl (M_in ?_))
  have e := says_res (bar := g.n) (g := g) wake_text wake_res
  simp [f_engramtop_awake, env0, go_sem, get_alloc, n_alloc, get_set, n_set, get_kill, n_kill, writeAt, a11, a21, a31, a41, a51, a61, a71, isNil, e]
  simp [go_sem, endP, endI, resultsA, resultA, freezeL, freezeV, AV.free.freeL, AV.free, packA, dropS]
theorem sums_text : TextOk ⟨#[48, 67, 91, 97, 33, 63, 126, 59, 99, 97, 43, 67, 97, 32, 49, 45, 65, 93, 99]⟩ sumsC := ⟨by kernel_rfl, by kernel_rfl, rfl, by kernel_rfl, rfl, rfl⟩
end
end Go.Ev
namespace Go.Ev
open Go
theorem arg_i64 {P : Program} {n : Nat} {t : TypeId} {a : AV} (hu : P.underlying t = some (.int .i64)) (h : argOk P (n + 1) t a) : ∃ x, a = .int .i64 x ∧ -9223372036854775808 ≤ x ∧ x ≤ 9223372036854775807 := by
  unfold argOk at h; rw [hu] at h; unfold Fits at h; simp only [hu] at h
  obtain ⟨z, hz, hr⟩ := h; cases hz
  refine ⟨z, rfl, ?_⟩
  simp [Lit.wf] at hr
  have h1 : IntKind.i64.min = -9223372036854775808 := by decide
  have h2 : IntKind.i64.max = 9223372036854775807 := by decide
  omega
end Go.Ev
set_option linter.unusedSectionVars false
namespace Go.Ev
open Go
section
variable {bar : Nat} {g : H}
theorem mask_lt (a : Int) (n : Nat) (hn : 0 < n) : ∃ k : Nat, a % (n : Int) = k ∧ k < n := by
  have h1 : 0 ≤ a % (n : Int) := Int.emod_nonneg _ (by omega)
  have h2 : a % (n : Int) < n := Int.emod_lt_of_pos _ (by omega)
  exact ⟨(a % (n : Int)).toNat, by omega, by omega⟩
theorem m1023 (a : Int) : IntKind.i64.wrap ((BitVec.ofInt 64 a &&& 1023#64).toNat : Nat) = a % 1024 := andI_mask a 10 (by omega)
theorem m63 (a : Int) : IntKind.i64.wrap ((BitVec.ofInt 64 a &&& 63#64).toNat : Nat) = a % 64 := andI_mask a 6 (by omega)
theorem m127 (a : Int) : IntKind.i64.wrap ((BitVec.ofInt 64 a &&& 127#64).toNat : Nat) = a % 128 := andI_mask a 7 (by omega)
theorem m511 (a : Int) : IntKind.i64.wrap ((BitVec.ofInt 64 a &&& 511#64).toNat : Nat) = a % 512 := andI_mask a 9 (by omega)
theorem m255 (a : Int) : IntKind.i64.wrap ((BitVec.ofInt 64 a &&& 255#64).toNat : Nat) = a % 256 := andI_mask a 8 (by omega)
theorem m1023' (a : Int) : IntKind.i64.wrap ((BitVec.ofInt 64 a &&& 1023#64).toNat : Nat) = a % 1024 := andI_mask a 10 (by omega)
theorem m65535 (a : Int) : IntKind.i64.wrap ((BitVec.ofInt 64 a &&& 65535#64).toNat : Nat) = a % 65536 := andI_mask a 16 (by omega)
theorem TopSums_ok {a : Int} : call tb prim n_engramtop_TopSums [.int .i64 a] bar g = some (.bool true, g) := by
  refine call_of tb_engramtop_TopSums (callF_pureW rfl rfl (M_in ?_))
  have eA := fun g' => top_awake_ok (bar := g.n) (g := g')
  obtain ⟨k, hk, hk2⟩ := mask_lt a 1024 (by omega)
  have hm := m1023 a
  rw [show a % 1024 = (k : Int) from hk] at hm
  have eS := says_ends (bar := g.n) (g := g) sums_text (sums_ends (k := k) (by omega) 0)
  have ht : ((tri k : Nat) : Int) = ((k : Int) * ((k : Int) + 1)).tdiv 2 := by
    unfold tri
    rw [Int.natCast_ediv, Int.tdiv_eq_ediv_of_nonneg (Int.mul_nonneg (by omega) (by omega))]
    push_cast; rfl
  have hb : (k : Int) * ((k : Int) + 1) ≤ 1023 * 1024 := Int.mul_le_mul (by omega) (by omega) (by omega) (by omega)
  have hb0 : 0 ≤ (k : Int) * ((k : Int) + 1) := Int.mul_nonneg (by omega) (by omega)
  have w1 : IntKind.i64.wrap ((k : Int) + 1) = (k : Int) + 1 := w64 (by omega) (by omega)
  have w2 : IntKind.i64.wrap ((k : Int) * ((k : Int) + 1)) = (k : Int) * ((k : Int) + 1) := w64 (by omega) (by omega)
  have w3 : IntKind.i64.wrap (((k : Int) * ((k : Int) + 1)).tdiv 2) = ((k : Int) * ((k : Int) + 1)).tdiv 2 := by
    rw [← ht]; have := tri_le (a := k) (b := 1023) (by omega); have h2 : tri 1023 = 523776 := rfl; exact w64 (by omega) (by omega)
  rw [ht] at eS
  simp [f_engramtop_TopSums, env0, go_sem, get_alloc, n_alloc, get_set, n_set, get_kill, n_kill, writeAt, a11, a21, a31, a41, a51, a61, a71, isNil]
  erw [hm]
  simp [go_sem, get_alloc, n_alloc, get_set, n_set, get_kill, n_kill, writeAt, a11, a21, a31, a41, a51, a61, a71, isNil, eS, w1, w2, w3, eA]
  simp [go_sem, endP, endI, resultsA, resultA, freezeL, freezeV, AV.free.freeL, AV.free, packA, dropS]
end
end Go.Ev
