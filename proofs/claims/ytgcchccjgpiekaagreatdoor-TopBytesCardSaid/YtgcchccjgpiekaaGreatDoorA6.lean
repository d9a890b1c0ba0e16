/- Part 6 of the proof that a law of this seat (the one that GOCLAIM.json names) returns true for every argument; nothing is assumed. -/
import Derived.Test.YtgcchccjgpiekaaGreatDoorA5
set_option linter.unusedSimpArgs false
set_option linter.unusedVariables false
set_option linter.all false
set_option linter.unusedSectionVars false
namespace Go.Ev
open Go
theorem tP_A {t k : Nat} (h : tP t k) : tA k := by unfold tP tS at h; unfold tA; omega
theorem tM_A {t k : Nat} (h : tM t k) : tA k := by unfold tM tS at h; unfold tA; omega
theorem tC_A {t k : Nat} (h : tC t k) : tA k := by unfold tC tS at h; unfold tA; omega
theorem sgG_no {s : Int} (h : sgG s = true) : (s == 48) = false ∧ ¬ (97 ≤ s ∧ s ≤ 122) ∧ ¬ (65 ≤ s ∧ s ≤ 90) ∧ (s == 955) = false := by
  have h' : s = 43 ∨ s = 45 ∨ s = 42 ∨ s = 47 ∨ s = 37 ∨ s = 38 ∨ s = 124 ∨ s = 94 ∨ s = 60 ∨ s = 61 ∨ s = 33 ∨ s = 46 ∨ s = 44 ∨ s = 64 ∨ s = 36 ∨ s = 35 ∨ s = 63 ∨ s = 58 ∨ s = 59 ∨ s = 91 ∨ s = 93 ∨ s = 126 ∨ s = 171 ∨ s = 187 ∨ s = 169 ∨ s = 174 ∨ s = 164 ∨ s = 161 ∨ s = 960 := by simpa [sgG] using h
  refine ⟨?_, ?_, ?_, ?_⟩
  · simp; omega
  · omega
  · omega
  · simp; omega
section
variable {bar b : Nat} {g : H} {own : Nat → Nat} {C : Cx} {tr val : Int} {ids : List Nat} {t : Nat} {f : Fm} {id i : Nat} {m : Mem} {r : Row}
theorem step_call {k : Tok} (vx : XO g b own C tr val ids) (cx : CxV g own C) (vf : FrO g b own t f id) (hb : bar ≤ b) (hbg : b ≤ g.n) (hk : f.c.l[f.at']? = some k) (hs : k.sign = 955) {kk : Nat} (hkk : findN k.name C.fs 0 = kk) {x : AV × AV × Code'} (hx : C.rows[kk]? = some x) {a : Nat} (ha : x.2.2.args = a) (hal : a ≤ f.st.length) (hids : ids.length < 1000) :
    ∃ g' own', call tb prim n_engine_runner_step [.ptr C.X 0, .ptr id 0] bar g = some (.tup [], g') ∧ FrO g' b own' t { f with at' := f.at' + 1, st := f.st.drop a } id ∧ Kp own (tC t) g g' ∧ Agr g.n own own' ∧
      ((32 ≤ ids.length ∧ XO g' b own' C 6 val ids) ∨ (ids.length < 32 ∧ ∃ i, XO g' b own' C tr val (i :: ids) ∧ FrO g' b own' ids.length (newF x.2.2 (argsOf a f.st)) i)) := by
  obtain ⟨fc, n, cs, full, hget, h0, h3, hcl, hix, hle, hrow, hlt, ha6⟩ := vf.head hk
  have vz := vf.mono (tokZ_kp (k := k) (S := fun _ => False)) (Agr.ext (k := 0)) (by simp) (by simp)
  have hne : id ≠ g.n := by omega
  have hbn : bar ≤ g.n := by omega
  have hw : IntKind.i64.wrap ((f.at' : Int) + 1) = ((f.at' + 1 : Nat) : Int) := w64_succ (by omega)
  obtain ⟨fd, fe, hget1, h31, hle1, hsp1, hbid, v1, k1⟩ := vz.next hb ha6
  have xz := vx.mono (tokZ_kp (k := k) (S := fun _ => False)) (Agr.ext (k := 0)) (by simp)
  have cz := cx.mono (tokZ_kp (k := k) (S := fun _ => False)) (Agr.ext (k := 0)) (by simp)
  obtain ⟨g1, hg1⟩ : ∃ g1, g1 = (tokZ g k).set id (.cells fe 0) := ⟨_, rfl⟩
  rw [← hg1] at v1 k1
  have x1 := xz.mono k1 Agr.refl (tS1 t)
  have c1 := cz.mono k1 Agr.refl (tS0 t)
  obtain ⟨g2, own2, e2, v2, k2, a2, h2⟩ := calls_ok (bar := bar) x1 c1 v1 hb (by have := k1.1; rw [tokZ_n] at this; omega) hkk hx ha hal hids
  have hget' : g.get id = some (.cells fd 0) := by rw [tokZ_ne hne] at hget1; exact hget1
  rw [hget] at hget'
  cases hget'
  have hq : (k.sign == 48) = false := by simp [hs]
  have hq2 : decide (97 ≤ k.sign) = true := by simp [hs]
  have hq3 : decide (k.sign ≤ 122) = false := by simp [hs]
  have hq4 : decide (65 ≤ k.sign) = true := by simp [hs]
  have hq5 : decide (k.sign ≤ 90) = false := by simp [hs]
  have hq6 : (k.sign == 955) = true := by simp [hs]
  have hne2 : g.n ≠ id := fun q => hne q.symm
  simp only [tokZ, tokC] at hg1
  obtain ⟨y, g9, hcall, rfl, rfl⟩ := callF_K (o := call tb prim) (F := f_engine_runner_step) (bar := bar) (h := g) (args := [.ptr C.X 0, .ptr id 0]) (P := fun y g9 => y = .tup [] ∧ g9 = g2) rfl rfl (fun K hK => by
    simp [f_engine_runner_step, env0, go_sem, get_alloc, n_alloc, get_set, n_set, get_kill, n_kill, writeAt, a11, a21, a31, a41, a51, a61, a71, isNil, hget, h0, h3, hcl, hix, hle, hrow]
    refine ⟨⟨sees_of rfl ?_, sees_of rfl ?_, sees_of rfl ?_⟩, ?_⟩
    · simp [-getElem?_pos, R_nil, R_cons, RS_some, sameV_some, seesQ_some, List.take, List.take_succ_cons, List.take_zero, go_sem, get_alloc, n_alloc, get_set, n_set, get_kill, n_kill, writeAt, a11, a21, a31, a41, a51, a61, a71, isNil, hget, h0, h3, hcl, hix, hle, hrow, hne, hbn, tokC, spT3, List.getElem?_cons_zero, List.getElem?_cons_succ]
    · simp [-getElem?_pos, R_nil, R_cons, RS_some, sameV_some, seesQ_some, List.take, List.take_succ_cons, List.take_zero, go_sem, get_alloc, n_alloc, get_set, n_set, get_kill, n_kill, writeAt, a11, a21, a31, a41, a51, a61, a71, isNil, hget, h0, h3, hcl, hix, hle, hrow, hne, hbn, tokC, spT3, List.getElem?_cons_zero, List.getElem?_cons_succ]
    · simp [-getElem?_pos, R_nil, R_cons, RS_some, sameV_some, seesQ_some, List.take, List.take_succ_cons, List.take_zero, go_sem, get_alloc, n_alloc, get_set, n_set, get_kill, n_kill, writeAt, a11, a21, a31, a41, a51, a61, a71, isNil, hget, h0, h3, hcl, hix, hle, hrow, hne, hbn, tokC, spT3, List.getElem?_cons_zero, List.getElem?_cons_succ]
    simp [go_sem, get_alloc, n_alloc, get_set, n_set, get_kill, n_kill, writeAt, a11, a21, a31, a41, a51, a61, a71, isNil, hget, h0, h3, hcl, hix, hle, hrow, hbn, tokC, spT3, hq, hq2, hq3, hq4, hq5, hq6, hne, hne2, h31, hw, hle1, hsp1, hbid]
    rw [← hg1]
    simp [go_sem, get_alloc, n_alloc, get_set, n_set, get_kill, n_kill, writeAt, a11, a21, a31, a41, a51, a61, a71, isNil, e2]
    simp [go_sem, endP, endI, resultsA, resultA, freezeL, freezeV, AV.free.freeL, AV.free, packA, dropS]
    exact ⟨_, _, ⟨rfl, rfl⟩, hK _ _ ⟨rfl, rfl⟩⟩)
  exact ⟨_, _, call_of tb_engine_runner_step hcall, v2, (tokZ_kp (k := k)).trans Agr.ext ((k1.le fun k h => .inr (.inr h)).trans Agr.refl k2), Agr.trans Agr.ext a2 (by rw [hg1, n_set]; exact Nat.le_succ _), h2⟩
theorem step_goes {k : Tok} {f' : Fm} (vf : FrO g b own t f id) (hb : bar ≤ b) (hk : f.c.l[f.at']? = some k) (hs : sgG k.sign = true) (hgo : isGo k.sign = true) (X : AV)
    (hG : ∃ g1, call tb prim n_engine_runner_goes [X, .ptr id 0, .int .i32 k.sign] bar (tokZ g k) = some (.tup [], g1) ∧ FrO g1 b (ext own g.n 0) t f' id ∧ Kp (ext own g.n 0) (tS t) (tokZ g k) g1) (hbg : b ≤ g.n) :
    ∃ g' own', call tb prim n_engine_runner_step [X, .ptr id 0] bar g = some (.tup [], g') ∧ FrO g' b own' t f' id ∧ Kp own (tS t) g g' ∧ Agr g.n own own' := by
  obtain ⟨fc, n, cs, full, hget, h0, h3, hcl, hix, hle, hrow, hlt, ha6⟩ := vf.head hk
  have vz := vf.mono (tokZ_kp (k := k) (S := fun _ => False)) (Agr.ext (k := 0)) (by simp) (by simp)
  have hne : id ≠ g.n := by omega
  have hbn : bar ≤ g.n := by omega
  have hw : IntKind.i64.wrap ((f.at' : Int) + 1) = ((f.at' + 1 : Nat) : Int) := w64_succ (by omega)
  obtain ⟨g1, e1, v1, k1⟩ := hG
  obtain ⟨hq, hs1, hs2, hq6⟩ := sgG_no hs
  have hq7 := fun g => con_a (bar := bar) (g := g) hs
  rw [hgo] at hq7
  simp only [tokZ, tokC] at e1
  obtain ⟨y, g9, hcall, rfl, rfl⟩ := callF_K (o := call tb prim) (F := f_engine_runner_step) (bar := bar) (h := g) (args := [X, .ptr id 0]) (P := fun y g9 => y = .tup [] ∧ g9 = g1) rfl rfl (fun K hK => by
    rcases sg_cases hs1 hs2 with ⟨hq2, hq3⟩ | ⟨hq2, hq3, hq4⟩ | ⟨hq2, hq3, hq4, hq5⟩
    · simp [f_engine_runner_step, env0, go_sem, get_alloc, n_alloc, get_set, n_set, get_kill, n_kill, writeAt, a11, a21, a31, a41, a51, a61, a71, isNil, hget, h0, h3, hcl, hix, hle, hrow]
      refine ⟨⟨sees_of rfl ?_, sees_of rfl ?_, sees_of rfl ?_⟩, ?_⟩
      · simp [-getElem?_pos, R_nil, R_cons, RS_some, sameV_some, seesQ_some, List.take, List.take_succ_cons, List.take_zero, go_sem, get_alloc, n_alloc, get_set, n_set, get_kill, n_kill, writeAt, a11, a21, a31, a41, a51, a61, a71, isNil, hget, h0, h3, hcl, hix, hle, hrow, hne, hbn, tokC, spT3, List.getElem?_cons_zero, List.getElem?_cons_succ]
      · simp [-getElem?_pos, R_nil, R_cons, RS_some, sameV_some, seesQ_some, List.take, List.take_succ_cons, List.take_zero, go_sem, get_alloc, n_alloc, get_set, n_set, get_kill, n_kill, writeAt, a11, a21, a31, a41, a51, a61, a71, isNil, hget, h0, h3, hcl, hix, hle, hrow, hne, hbn, tokC, spT3, List.getElem?_cons_zero, List.getElem?_cons_succ]
      · simp [-getElem?_pos, R_nil, R_cons, RS_some, sameV_some, seesQ_some, List.take, List.take_succ_cons, List.take_zero, go_sem, get_alloc, n_alloc, get_set, n_set, get_kill, n_kill, writeAt, a11, a21, a31, a41, a51, a61, a71, isNil, hget, h0, h3, hcl, hix, hle, hrow, hne, hbn, tokC, spT3, List.getElem?_cons_zero, List.getElem?_cons_succ]
      simp [go_sem, get_alloc, n_alloc, get_set, n_set, get_kill, n_kill, writeAt, a11, a21, a31, a41, a51, a61, a71, isNil, hget, h0, h3, hcl, hix, hle, hrow, hbn, tokC, spT3, hq, hq6, hq7, e1, hq2, hq3]
      simp [go_sem, endP, endI, resultsA, resultA, freezeL, freezeV, AV.free.freeL, AV.free, packA, dropS]
      exact ⟨_, _, ⟨rfl, rfl⟩, hK _ _ ⟨rfl, rfl⟩⟩
    · simp [f_engine_runner_step, env0, go_sem, get_alloc, n_alloc, get_set, n_set, get_kill, n_kill, writeAt, a11, a21, a31, a41, a51, a61, a71, isNil, hget, h0, h3, hcl, hix, hle, hrow]
      refine ⟨⟨sees_of rfl ?_, sees_of rfl ?_, sees_of rfl ?_⟩, ?_⟩
      · simp [-getElem?_pos, R_nil, R_cons, RS_some, sameV_some, seesQ_some, List.take, List.take_succ_cons, List.take_zero, go_sem, get_alloc, n_alloc, get_set, n_set, get_kill, n_kill, writeAt, a11, a21, a31, a41, a51, a61, a71, isNil, hget, h0, h3, hcl, hix, hle, hrow, hne, hbn, tokC, spT3, List.getElem?_cons_zero, List.getElem?_cons_succ]
      · simp [-getElem?_pos, R_nil, R_cons, RS_some, sameV_some, seesQ_some, List.take, List.take_succ_cons, List.take_zero, go_sem, get_alloc, n_alloc, get_set, n_set, get_kill, n_kill, writeAt, a11, a21, a31, a41, a51, a61, a71, isNil, hget, h0, h3, hcl, hix, hle, hrow, hne, hbn, tokC, spT3, List.getElem?_cons_zero, List.getElem?_cons_succ]
      · simp [-getElem?_pos, R_nil, R_cons, RS_some, sameV_some, seesQ_some, List.take, List.take_succ_cons, List.take_zero, go_sem, get_alloc, n_alloc, get_set, n_set, get_kill, n_kill, writeAt, a11, a21, a31, a41, a51, a61, a71, isNil, hget, h0, h3, hcl, hix, hle, hrow, hne, hbn, tokC, spT3, List.getElem?_cons_zero, List.getElem?_cons_succ]
      simp [go_sem, get_alloc, n_alloc, get_set, n_set, get_kill, n_kill, writeAt, a11, a21, a31, a41, a51, a61, a71, isNil, hget, h0, h3, hcl, hix, hle, hrow, hbn, tokC, spT3, hq, hq6, hq7, e1, hq2, hq3, hq4]
      simp [go_sem, endP, endI, resultsA, resultA, freezeL, freezeV, AV.free.freeL, AV.free, packA, dropS]
      exact ⟨_, _, ⟨rfl, rfl⟩, hK _ _ ⟨rfl, rfl⟩⟩
    · simp [f_engine_runner_step, env0, go_sem, get_alloc, n_alloc, get_set, n_set, get_kill, n_kill, writeAt, a11, a21, a31, a41, a51, a61, a71, isNil, hget, h0, h3, hcl, hix, hle, hrow]
      refine ⟨⟨sees_of rfl ?_, sees_of rfl ?_, sees_of rfl ?_⟩, ?_⟩
      · simp [-getElem?_pos, R_nil, R_cons, RS_some, sameV_some, seesQ_some, List.take, List.take_succ_cons, List.take_zero, go_sem, get_alloc, n_alloc, get_set, n_set, get_kill, n_kill, writeAt, a11, a21, a31, a41, a51, a61, a71, isNil, hget, h0, h3, hcl, hix, hle, hrow, hne, hbn, tokC, spT3, List.getElem?_cons_zero, List.getElem?_cons_succ]
      · simp [-getElem?_pos, R_nil, R_cons, RS_some, sameV_some, seesQ_some, List.take, List.take_succ_cons, List.take_zero, go_sem, get_alloc, n_alloc, get_set, n_set, get_kill, n_kill, writeAt, a11, a21, a31, a41, a51, a61, a71, isNil, hget, h0, h3, hcl, hix, hle, hrow, hne, hbn, tokC, spT3, List.getElem?_cons_zero, List.getElem?_cons_succ]
      · simp [-getElem?_pos, R_nil, R_cons, RS_some, sameV_some, seesQ_some, List.take, List.take_succ_cons, List.take_zero, go_sem, get_alloc, n_alloc, get_set, n_set, get_kill, n_kill, writeAt, a11, a21, a31, a41, a51, a61, a71, isNil, hget, h0, h3, hcl, hix, hle, hrow, hne, hbn, tokC, spT3, List.getElem?_cons_zero, List.getElem?_cons_succ]
      simp [go_sem, get_alloc, n_alloc, get_set, n_set, get_kill, n_kill, writeAt, a11, a21, a31, a41, a51, a61, a71, isNil, hget, h0, h3, hcl, hix, hle, hrow, hbn, tokC, spT3, hq, hq6, hq7, e1, hq2, hq3, hq4, hq5]
      simp [go_sem, endP, endI, resultsA, resultA, freezeL, freezeV, AV.free.freeL, AV.free, packA, dropS]
      exact ⟨_, _, ⟨rfl, rfl⟩, hK _ _ ⟨rfl, rfl⟩⟩)
  exact ⟨_, _, call_of tb_engine_runner_step hcall, v1, (tokZ_kp (k := k)).trans Agr.ext k1, Agr.ext⟩
theorem step_mem {k : Tok} {x : Option (List Int × Mem × Int)} (vx : XO g b own C tr val ids) (vf : FrO g b own t f id) (vm : MemO g b own C.M m) (hb : bar ≤ b) (hbg : b ≤ g.n) (hk : f.c.l[f.at']? = some k) (hs : sgG k.sign = true) (hgo : isGo k.sign = false) (hme : isMemS k.sign = true)
    (hM : ∀ own0 : Nat → Nat, XO (tokZ g k) b own0 C tr val ids → FrO (tokZ g k) b own0 t f id → MemO (tokZ g k) b own0 C.M m → b ≤ (tokZ g k).n → MemR bar b (tokZ g k) own0 C val ids t f id k.sign x) :
    ∀ st m' tr', x = some (st, m', tr') → ∃ g' own', call tb prim n_engine_runner_step [.ptr C.X 0, .ptr id 0] bar g = some (.tup [], g') ∧ FrO g' b own' t { f with at' := f.at' + 1, st := st } id ∧ XO g' b own' C tr' val ids ∧ MemO g' b own' C.M m' ∧ Kp own (tM t) g g' ∧ Agr g.n own own' := by
  intro st m' tr' hxx
  obtain ⟨fc, n, cs, full, hget, h0, h3, hcl, hix, hle, hrow, hlt, ha6⟩ := vf.head hk
  have vz := vf.mono (tokZ_kp (k := k) (S := fun _ => False)) (Agr.ext (k := 0)) (by simp) (by simp)
  have hne : id ≠ g.n := by omega
  have hbn : bar ≤ g.n := by omega
  have hw : IntKind.i64.wrap ((f.at' : Int) + 1) = ((f.at' + 1 : Nat) : Int) := w64_succ (by omega)
  have xz := vx.mono (tokZ_kp (k := k) (S := fun _ => False)) (Agr.ext (k := 0)) (by simp)
  have mz := vm.mono (tokZ_kp (k := k) (S := fun _ => False)) (Agr.ext (k := 0)) (by simp)
  obtain ⟨g1, own1, e1, v1, x1, m1, k1, a1⟩ := hM _ xz vz mz (by rw [tokZ_n]; omega) st m' tr' hxx
  obtain ⟨fd, fe, hget1, h31, hle1, hsp1, hbid, v2, k2⟩ := v1.next hb ha6
  simp only at h31 hsp1
  have x2 := x1.mono k2 Agr.refl (tS1 t)
  have m2 := m1.mono k2 Agr.refl (tS3 t)
  obtain ⟨hq, hs1, hs2, hq6⟩ := sgG_no hs
  have hq7 := fun g => con_a (bar := bar) (g := g) hs
  rw [hgo] at hq7
  have hq8 := fun g => con_b (bar := bar) (g := g) hs
  rw [hme] at hq8
  simp only [tokZ, tokC] at e1
  obtain ⟨y, g9, hcall, rfl, rfl⟩ := callF_K (o := call tb prim) (F := f_engine_runner_step) (bar := bar) (h := g) (args := [.ptr C.X 0, .ptr id 0]) (P := fun y g9 => y = .tup [] ∧ g9 = g1.set id (.cells fe 0)) rfl rfl (fun K hK => by
    rcases sg_cases hs1 hs2 with ⟨hq2, hq3⟩ | ⟨hq2, hq3, hq4⟩ | ⟨hq2, hq3, hq4, hq5⟩
    · simp [f_engine_runner_step, env0, go_sem, get_alloc, n_alloc, get_set, n_set, get_kill, n_kill, writeAt, a11, a21, a31, a41, a51, a61, a71, isNil, hget, h0, h3, hcl, hix, hle, hrow]
      refine ⟨⟨sees_of rfl ?_, sees_of rfl ?_, sees_of rfl ?_⟩, ?_⟩
      · simp [-getElem?_pos, R_nil, R_cons, RS_some, sameV_some, seesQ_some, List.take, List.take_succ_cons, List.take_zero, go_sem, get_alloc, n_alloc, get_set, n_set, get_kill, n_kill, writeAt, a11, a21, a31, a41, a51, a61, a71, isNil, hget, h0, h3, hcl, hix, hle, hrow, hne, hbn, tokC, spT3, List.getElem?_cons_zero, List.getElem?_cons_succ]
      · simp [-getElem?_pos, R_nil, R_cons, RS_some, sameV_some, seesQ_some, List.take, List.take_succ_cons, List.take_zero, go_sem, get_alloc, n_alloc, get_set, n_set, get_kill, n_kill, writeAt, a11, a21, a31, a41, a51, a61, a71, isNil, hget, h0, h3, hcl, hix, hle, hrow, hne, hbn, tokC, spT3, List.getElem?_cons_zero, List.getElem?_cons_succ]
      · simp [-getElem?_pos, R_nil, R_cons, RS_some, sameV_some, seesQ_some, List.take, List.take_succ_cons, List.take_zero, go_sem, get_alloc, n_alloc, get_set, n_set, get_kill, n_kill, writeAt, a11, a21, a31, a41, a51, a61, a71, isNil, hget, h0, h3, hcl, hix, hle, hrow, hne, hbn, tokC, spT3, List.getElem?_cons_zero, List.getElem?_cons_succ]
      simp [go_sem, get_alloc, n_alloc, get_set, n_set, get_kill, n_kill, writeAt, a11, a21, a31, a41, a51, a61, a71, isNil, hget, h0, h3, hcl, hix, hle, hrow, hbn, tokC, spT3, hq, hq6, hq7, hq8, e1, hget1, h31, hw, hle1, hsp1, hbid, hq2, hq3]
      simp [go_sem, endP, endI, resultsA, resultA, freezeL, freezeV, AV.free.freeL, AV.free, packA, dropS]
      exact ⟨_, _, ⟨rfl, rfl⟩, hK _ _ ⟨rfl, rfl⟩⟩
    · simp [f_engine_runner_step, env0, go_sem, get_alloc, n_alloc, get_set, n_set, get_kill, n_kill, writeAt, a11, a21, a31, a41, a51, a61, a71, isNil, hget, h0, h3, hcl, hix, hle, hrow]
      refine ⟨⟨sees_of rfl ?_, sees_of rfl ?_, sees_of rfl ?_⟩, ?_⟩
      · simp [-getElem?_pos, R_nil, R_cons, RS_some, sameV_some, seesQ_some, List.take, List.take_succ_cons, List.take_zero, go_sem, get_alloc, n_alloc, get_set, n_set, get_kill, n_kill, writeAt, a11, a21, a31, a41, a51, a61, a71, isNil, hget, h0, h3, hcl, hix, hle, hrow, hne, hbn, tokC, spT3, List.getElem?_cons_zero, List.getElem?_cons_succ]
      · simp [-getElem?_pos, R_nil, R_cons, RS_some, sameV_some, seesQ_some, List.take, List.take_succ_cons, List.take_zero, go_sem, get_alloc, n_alloc, get_set, n_set, get_kill, n_kill, writeAt, a11, a21, a31, a41, a51, a61, a71, isNil, hget, h0, h3, hcl, hix, hle, hrow, hne, hbn, tokC, spT3, List.getElem?_cons_zero, List.getElem?_cons_succ]
      · simp [-getElem?_pos, R_nil, R_cons, RS_some, sameV_some, seesQ_some, List.take, List.take_succ_cons, List.take_zero, go_sem, get_alloc, n_alloc, get_set, n_set, get_kill, n_kill, writeAt, a11, a21, a31, a41, a51, a61, a71, isNil, hget, h0, h3, hcl, hix, hle, hrow, hne, hbn, tokC, spT3, List.getElem?_cons_zero, List.getElem?_cons_succ]
      simp [go_sem, get_alloc, n_alloc, get_set, n_set, get_kill, n_kill, writeAt, a11, a21, a31, a41, a51, a61, a71, isNil, hget, h0, h3, hcl, hix, hle, hrow, hbn, tokC, spT3, hq, hq6, hq7, hq8, e1, hget1, h31, hw, hle1, hsp1, hbid, hq2, hq3, hq4]
      simp [go_sem, endP, endI, resultsA, resultA, freezeL, freezeV, AV.free.freeL, AV.free, packA, dropS]
      exact ⟨_, _, ⟨rfl, rfl⟩, hK _ _ ⟨rfl, rfl⟩⟩
    · simp [f_engine_runner_step, env0, go_sem, get_alloc, n_alloc, get_set, n_set, get_kill, n_kill, writeAt, a11, a21, a31, a41, a51, a61, a71, isNil, hget, h0, h3, hcl, hix, hle, hrow]
      refine ⟨⟨sees_of rfl ?_, sees_of rfl ?_, sees_of rfl ?_⟩, ?_⟩
      · simp [-getElem?_pos, R_nil, R_cons, RS_some, sameV_some, seesQ_some, List.take, List.take_succ_cons, List.take_zero, go_sem, get_alloc, n_alloc, get_set, n_set, get_kill, n_kill, writeAt, a11, a21, a31, a41, a51, a61, a71, isNil, hget, h0, h3, hcl, hix, hle, hrow, hne, hbn, tokC, spT3, List.getElem?_cons_zero, List.getElem?_cons_succ]
      · simp [-getElem?_pos, R_nil, R_cons, RS_some, sameV_some, seesQ_some, List.take, List.take_succ_cons, List.take_zero, go_sem, get_alloc, n_alloc, get_set, n_set, get_kill, n_kill, writeAt, a11, a21, a31, a41, a51, a61, a71, isNil, hget, h0, h3, hcl, hix, hle, hrow, hne, hbn, tokC, spT3, List.getElem?_cons_zero, List.getElem?_cons_succ]
      · simp [-getElem?_pos, R_nil, R_cons, RS_some, sameV_some, seesQ_some, List.take, List.take_succ_cons, List.take_zero, go_sem, get_alloc, n_alloc, get_set, n_set, get_kill, n_kill, writeAt, a11, a21, a31, a41, a51, a61, a71, isNil, hget, h0, h3, hcl, hix, hle, hrow, hne, hbn, tokC, spT3, List.getElem?_cons_zero, List.getElem?_cons_succ]
      simp [go_sem, get_alloc, n_alloc, get_set, n_set, get_kill, n_kill, writeAt, a11, a21, a31, a41, a51, a61, a71, isNil, hget, h0, h3, hcl, hix, hle, hrow, hbn, tokC, spT3, hq, hq6, hq7, hq8, e1, hget1, h31, hw, hle1, hsp1, hbid, hq2, hq3, hq4, hq5]
      simp [go_sem, endP, endI, resultsA, resultA, freezeL, freezeV, AV.free.freeL, AV.free, packA, dropS]
      exact ⟨_, _, ⟨rfl, rfl⟩, hK _ _ ⟨rfl, rfl⟩⟩)
  exact ⟨_, own1, call_of tb_engine_runner_step hcall, v2, x2, m2, (tokZ_kp (k := k)).trans Agr.ext (k1.trans a1 (k2.le fun k h => tS_M h)), Agr.trans Agr.ext a1 (by rw [tokZ_n]; omega)⟩
theorem step_plain {k : Tok} {x : Option (List Int × Row × Int)} (vx : XO g b own C tr val ids) (vf : FrO g b own t f id) (vr : RowO g b own C.R r) (hb : bar ≤ b) (hbg : b ≤ g.n) (hk : f.c.l[f.at']? = some k) (hs : sgG k.sign = true) (hgo : isGo k.sign = false) (hme : isMemS k.sign = false)
    (hM : ∀ own0 : Nat → Nat, XO (tokZ g k) b own0 C tr val ids → FrO (tokZ g k) b own0 t f id → RowO (tokZ g k) b own0 C.R r → b ≤ (tokZ g k).n → PlainR bar b (tokZ g k) own0 C val ids t f id k x) :
    ∀ st r' tr', x = some (st, r', tr') → ∃ g' own', call tb prim n_engine_runner_step [.ptr C.X 0, .ptr id 0] bar g = some (.tup [], g') ∧ FrO g' b own' t { f with at' := f.at' + 1, st := st } id ∧ XO g' b own' C tr' val ids ∧ RowO g' b own' C.R r' ∧ Kp own (tP t) g g' ∧ Agr g.n own own' := by
  intro st r' tr' hxx
  obtain ⟨fc, n, cs, full, hget, h0, h3, hcl, hix, hle, hrow, hlt, ha6⟩ := vf.head hk
  have vz := vf.mono (tokZ_kp (k := k) (S := fun _ => False)) (Agr.ext (k := 0)) (by simp) (by simp)
  have hne : id ≠ g.n := by omega
  have hbn : bar ≤ g.n := by omega
  have hw : IntKind.i64.wrap ((f.at' : Int) + 1) = ((f.at' + 1 : Nat) : Int) := w64_succ (by omega)
  have xz := vx.mono (tokZ_kp (k := k) (S := fun _ => False)) (Agr.ext (k := 0)) (by simp)
  have rz := vr.mono (tokZ_kp (k := k) (S := fun _ => False)) (Agr.ext (k := 0)) (by simp)
  obtain ⟨g1, own1, e1, v1, x1, r1, k1, a1⟩ := hM _ xz vz rz (by rw [tokZ_n]; omega) st r' tr' hxx
  obtain ⟨fd, fe, hget1, h31, hle1, hsp1, hbid, v2, k2⟩ := v1.next hb ha6
  simp only at h31 hsp1
  have x2 := x1.mono k2 Agr.refl (tS1 t)
  have r2 := r1.mono k2 Agr.refl (tS6 t)
  obtain ⟨hq, hs1, hs2, hq6⟩ := sgG_no hs
  have hq7 := fun g => con_a (bar := bar) (g := g) hs
  rw [hgo] at hq7
  have hq8 := fun g => con_b (bar := bar) (g := g) hs
  rw [hme] at hq8
  simp only [tokZ, tokC, tokA] at e1
  obtain ⟨y, g9, hcall, rfl, rfl⟩ := callF_K (o := call tb prim) (F := f_engine_runner_step) (bar := bar) (h := g) (args := [.ptr C.X 0, .ptr id 0]) (P := fun y g9 => y = .tup [] ∧ g9 = g1.set id (.cells fe 0)) rfl rfl (fun K hK => by
    rcases sg_cases hs1 hs2 with ⟨hq2, hq3⟩ | ⟨hq2, hq3, hq4⟩ | ⟨hq2, hq3, hq4, hq5⟩
    · simp [f_engine_runner_step, env0, go_sem, get_alloc, n_alloc, get_set, n_set, get_kill, n_kill, writeAt, a11, a21, a31, a41, a51, a61, a71, isNil, hget, h0, h3, hcl, hix, hle, hrow]
      refine ⟨⟨sees_of rfl ?_, sees_of rfl ?_, sees_of rfl ?_⟩, ?_⟩
      · simp [-getElem?_pos, R_nil, R_cons, RS_some, sameV_some, seesQ_some, List.take, List.take_succ_cons, List.take_zero, go_sem, get_alloc, n_alloc, get_set, n_set, get_kill, n_kill, writeAt, a11, a21, a31, a41, a51, a61, a71, isNil, hget, h0, h3, hcl, hix, hle, hrow, hne, hbn, tokC, spT3, List.getElem?_cons_zero, List.getElem?_cons_succ]
      · simp [-getElem?_pos, R_nil, R_cons, RS_some, sameV_some, seesQ_some, List.take, List.take_succ_cons, List.take_zero, go_sem, get_alloc, n_alloc, get_set, n_set, get_kill, n_kill, writeAt, a11, a21, a31, a41, a51, a61, a71, isNil, hget, h0, h3, hcl, hix, hle, hrow, hne, hbn, tokC, spT3, List.getElem?_cons_zero, List.getElem?_cons_succ]
      · simp [-getElem?_pos, R_nil, R_cons, RS_some, sameV_some, seesQ_some, List.take, List.take_succ_cons, List.take_zero, go_sem, get_alloc, n_alloc, get_set, n_set, get_kill, n_kill, writeAt, a11, a21, a31, a41, a51, a61, a71, isNil, hget, h0, h3, hcl, hix, hle, hrow, hne, hbn, tokC, spT3, List.getElem?_cons_zero, List.getElem?_cons_succ]
      simp [go_sem, get_alloc, n_alloc, get_set, n_set, get_kill, n_kill, writeAt, a11, a21, a31, a41, a51, a61, a71, isNil, hget, h0, h3, hcl, hix, hle, hrow, hbn, tokC, spT3, hq, hq6, hq7, hq8, e1, hget1, h31, hw, hle1, hsp1, hbid, hq2, hq3]
      simp [go_sem, endP, endI, resultsA, resultA, freezeL, freezeV, AV.free.freeL, AV.free, packA, dropS]
      exact ⟨_, _, ⟨rfl, rfl⟩, hK _ _ ⟨rfl, rfl⟩⟩
    · simp [f_engine_runner_step, env0, go_sem, get_alloc, n_alloc, get_set, n_set, get_kill, n_kill, writeAt, a11, a21, a31, a41, a51, a61, a71, isNil, hget, h0, h3, hcl, hix, hle, hrow]
      refine ⟨⟨sees_of rfl ?_, sees_of rfl ?_, sees_of rfl ?_⟩, ?_⟩
      · simp [-getElem?_pos, R_nil, R_cons, RS_some, sameV_some, seesQ_some, List.take, List.take_succ_cons, List.take_zero, go_sem, get_alloc, n_alloc, get_set, n_set, get_kill, n_kill, writeAt, a11, a21, a31, a41, a51, a61, a71, isNil, hget, h0, h3, hcl, hix, hle, hrow, hne, hbn, tokC, spT3, List.getElem?_cons_zero, List.getElem?_cons_succ]
      · simp [-getElem?_pos, R_nil, R_cons, RS_some, sameV_some, seesQ_some, List.take, List.take_succ_cons, List.take_zero, go_sem, get_alloc, n_alloc, get_set, n_set, get_kill, n_kill, writeAt, a11, a21, a31, a41, a51, a61, a71, isNil, hget, h0, h3, hcl, hix, hle, hrow, hne, hbn, tokC, spT3, List.getElem?_cons_zero, List.getElem?_cons_succ]
      · simp [-getElem?_pos, R_nil, R_cons, RS_some, sameV_some, seesQ_some, List.take, List.take_succ_cons, List.take_zero, go_sem, get_alloc, n_alloc, get_set, n_set, get_kill, n_kill, writeAt, a11, a21, a31, a41, a51, a61, a71, isNil, hget, h0, h3, hcl, hix, hle, hrow, hne, hbn, tokC, spT3, List.getElem?_cons_zero, List.getElem?_cons_succ]
      simp [go_sem, get_alloc, n_alloc, get_set, n_set, get_kill, n_kill, writeAt, a11, a21, a31, a41, a51, a61, a71, isNil, hget, h0, h3, hcl, hix, hle, hrow, hbn, tokC, spT3, hq, hq6, hq7, hq8, e1, hget1, h31, hw, hle1, hsp1, hbid, hq2, hq3, hq4]
      simp [go_sem, endP, endI, resultsA, resultA, freezeL, freezeV, AV.free.freeL, AV.free, packA, dropS]
      exact ⟨_, _, ⟨rfl, rfl⟩, hK _ _ ⟨rfl, rfl⟩⟩
    · simp [f_engine_runner_step, env0, go_sem, get_alloc, n_alloc, get_set, n_set, get_kill, n_kill, writeAt, a11, a21, a31, a41, a51, a61, a71, isNil, hget, h0, h3, hcl, hix, hle, hrow]
      refine ⟨⟨sees_of rfl ?_, sees_of rfl ?_, sees_of rfl ?_⟩, ?_⟩
      · simp [-getElem?_pos, R_nil, R_cons, RS_some, sameV_some, seesQ_some, List.take, List.take_succ_cons, List.take_zero, go_sem, get_alloc, n_alloc, get_set, n_set, get_kill, n_kill, writeAt, a11, a21, a31, a41, a51, a61, a71, isNil, hget, h0, h3, hcl, hix, hle, hrow, hne, hbn, tokC, spT3, List.getElem?_cons_zero, List.getElem?_cons_succ]
      · simp [-getElem?_pos, R_nil, R_cons, RS_some, sameV_some, seesQ_some, List.take, List.take_succ_cons, List.take_zero, go_sem, get_alloc, n_alloc, get_set, n_set, get_kill, n_kill, writeAt, a11, a21, a31, a41, a51, a61, a71, isNil, hget, h0, h3, hcl, hix, hle, hrow, hne, hbn, tokC, spT3, List.getElem?_cons_zero, List.getElem?_cons_succ]
      · simp [-getElem?_pos, R_nil, R_cons, RS_some, sameV_some, seesQ_some, List.take, List.take_succ_cons, List.take_zero, go_sem, get_alloc, n_alloc, get_set, n_set, get_kill, n_kill, writeAt, a11, a21, a31, a41, a51, a61, a71, isNil, hget, h0, h3, hcl, hix, hle, hrow, hne, hbn, tokC, spT3, List.getElem?_cons_zero, List.getElem?_cons_succ]
      simp [go_sem, get_alloc, n_alloc, get_set, n_set, get_kill, n_kill, writeAt, a11, a21, a31, a41, a51, a61, a71, isNil, hget, h0, h3, hcl, hix, hle, hrow, hbn, tokC, spT3, hq, hq6, hq7, hq8, e1, hget1, h31, hw, hle1, hsp1, hbid, hq2, hq3, hq4, hq5]
      simp [go_sem, endP, endI, resultsA, resultA, freezeL, freezeV, AV.free.freeL, AV.free, packA, dropS]
      exact ⟨_, _, ⟨rfl, rfl⟩, hK _ _ ⟨rfl, rfl⟩⟩)
  exact ⟨_, own1, call_of tb_engine_runner_step hcall, v2, x2, r2, (tokZ_kp (k := k)).trans Agr.ext (k1.trans a1 (k2.le fun k h => tS_P h)), Agr.trans Agr.ext a1 (by rw [tokZ_n]; omega)⟩
end
end Go.Ev
set_option linter.unusedSectionVars false
namespace Go.Ev
open Go
def grow1 (m : Mem) : Mem := ⟨m.b ++ List.replicate 64 0, m.most, m.dirty ++ [true]⟩
def growK : Nat → Mem → Mem
  | 0, m => m
  | k + 1, m => growK k (grow1 m)
theorem growK_eq : ∀ (k : Nat) (m : Mem), growK k m = ⟨m.b ++ List.replicate (k * 64) 0, m.most, m.dirty ++ List.replicate k true⟩
  | 0, m => by simp [growK]
  | k + 1, m => by
    rw [growK, growK_eq k]
    simp only [grow1, List.append_assoc]
    rw [List.replicate_append_replicate, List.replicate_succ, show 64 + k * 64 = (k + 1) * 64 by omega]
    rfl
def t345 : Nat → Prop := fun k => k = 3 ∨ k = 4 ∨ k = 5
theorem spM0 (a b c v : AV) : splice [a, b, c] 0 [v] = [v, b, c] := Eq.trans rfl rfl
theorem spM2 (a b c v : AV) : splice [a, b, c] 2 [v] = [a, b, v] := Eq.trans rfl rfl
section
variable {bar b : Nat} {g : H} {own : Nat → Nat} {C : Cx} {tr val : Int} {ids : List Nat} {t : Nat} {f : Fm} {id i M : Nat} {m : Mem}
theorem grow_loop (was n : Int) (hn64 : n ≤ 64) (hb : bar ≤ b) (Q : Ex → Env → H → Prop) : ∀ (k i : Nat) (g : H) (own : Nat → Nat) (m : Mem), n = (i : Int) + k → b ≤ g.n → MemO g b own M m → (m.dirty.length : Int) + k ≤ m.most →
    (∀ e g' own', MemO g' b own' M (growK k m) → Kp own t345 g g' → Agr g.n own own' → e.get 5 = some (.int .i64 was) → Q (.exit 0) e g') →
    wpL (call tb prim) bar [0, 5, 20, 21] l0_cells_Memory_Grow [(0, .ptr M 0), (5, .int .i64 was), (20, .int .i64 n), (21, .int .i64 i)] g Q
  | 0, i, g, own, m, hk, hbg, vm, hmo, hq => by
    refine M_loop l0_cells_Memory_Grow.eq_1 ?_
    have hlt : ¬ (i : Int) < n := by omega
    simp [go_sem, hlt]
    exact hq _ _ own vm Kp.refl Agr.refl rfl
  | k + 1, i, g, own, m, hk, hbg, vm, hmo, hq => by
    have vm' := vm
    obtain ⟨⟨ba, da, hv, hba, hda⟩, hoM⟩ := vm'
    have hlt : (i : Int) < n := by omega
    have hw := w64_succ (n := i) (by omega)
    have hg := hv.get
    have hlen : m.b.length ≤ 4096 := by have := hv.sz; have := hv.m0; have := hv.m1; omega
    have hd64 : m.dirty.length < 64 := by have := hv.m0; omega
    obtain ⟨g1, e1, o1, n1, f1⟩ := (hv.ob.bar_le hb).appA (bar := bar) (by omega) 1 64 (byC (List.replicate 64 0)) (by omega) (by simp [byC]) (by rw [← rep_byte]; exact rep_one rfl 64) (by omega) (by omega)
    have hMlt := hv.lt
    have gM1 : g1.get M = some (.cells [ba, .int .i64 m.most, da] 0) := by rw [f1 M hMlt hv.nb]; exact hg
    obtain ⟨g2, hg2⟩ : ∃ g2, g2 = g1.set M (.cells [.sl g.n 0 1 (m.b.length + 64) false, .int .i64 m.most, da] 0) := ⟨_, rfl⟩
    have n2 : g2.n = g.n + 1 := by rw [hg2, n_set]; exact n1
    have e12 : g1.n = g2.n := by omega
    have gM2 : g2.get M = some (.cells [.sl g.n 0 1 (m.b.length + 64) false, .int .i64 m.most, da] 0) := by rw [hg2, get_set, if_pos rfl]
    have od2 : OW 1 g2 bar da m.dirty.length (boC m.dirty) := (hv.od.bar_le hb).mono (by omega) (fun j hj => by
      rw [hg2, get_set_ne (fun q : j = M => hv.nd (by rw [← q]; exact hj)), f1 j (hv.od.at_lt hj).2 (fun q => hv.ap j q hj)])
    obtain ⟨g3, e3, o3, n3, f3⟩ := od2.app (by omega) 1 [.bool true] rfl rfl (by omega) (by omega) (by omega)
    have gM3 : g3.get M = some (.cells [.sl g.n 0 1 (m.b.length + 64) false, .int .i64 m.most, da] 0) := by rw [f3 M (by omega) hv.nd]; exact gM2
    obtain ⟨g4, hg4⟩ : ∃ g4, g4 = g3.set M (.cells [.sl g.n 0 1 (m.b.length + 64) false, .int .i64 m.most, .sl (g2.n + 1) 0 1 (m.dirty.length + 1) false] 0) := ⟨_, rfl⟩
    have n4 : g4.n = g.n + 3 := by rw [hg4, n_set]; omega
    have hbM : bar ≤ M := Nat.le_trans hb hv.bM
    have hgn : ¬ da.isAt g.n := fun q => by have := (hv.od.at_lt q).2; omega
    have hV : MemV g4 b M (grow1 m) (.sl g.n 0 1 (m.b.length + 64) false) (.sl (g2.n + 1) 0 1 (m.dirty.length + 1) false) := by
      refine ⟨by rw [hg4, get_set, if_pos rfl]; rfl, hv.bM, by omega, ?_, ?_, fun q => by cases q; omega, fun q => by cases q; omega, fun j h1 h2 => by have h1' : g.n = j := h1; have h2' : g2.n + 1 = j := h2; omega, ?_, hv.m0, ?_, ?_⟩
      · have := (o1.up (b := b) (fun j hj => by cases hj; omega)).mono (h' := g4) (by omega) (fun j hj => by cases hj; rw [hg4, get_set_ne (by omega), f3 _ (by omega) hgn, hg2, get_set_ne (by omega)])
        simpa [grow1, byC] using this
      · have := (o3.up (b := b) (fun j hj => by cases hj; omega)).mono (h' := g4) (by omega) (fun j hj => by cases hj; rw [hg4, get_set_ne (by omega)])
        simpa [grow1, boC] using this
      · have := hv.sz; simp [grow1]; omega
      · simp [grow1]; omega
      · intro x hx
        simp only [grow1, List.mem_append] at hx
        rcases hx with hx | hx
        · exact hv.rng x hx
        · rw [List.eq_of_mem_replicate hx]; omega
    have hag : Agr g.n own (ext (ext own g.n 4) (g.n + 1) 5) := Agr.trans Agr.ext Agr.ext (by omega)
    have hO : MemO g4 b (ext (ext own g.n 4) (g.n + 1) 5) M (grow1 m) :=
      ⟨⟨_, _, hV, fun j hj => by cases hj; simp [ext], fun j hj => by cases hj; simp only [ext]; rw [if_neg (by omega)]⟩, by rw [hag M hMlt]; exact hoM⟩
    have hkp : Kp own t345 g g4 := ⟨by omega, fun j hj hs => by
      rw [hg4, get_set_ne (fun q => hs (.inl (by rw [q]; exact hoM))), f3 j (by omega) (fun q => hs (.inr (.inr (hda j q)))), hg2, get_set_ne (fun q => hs (.inl (by rw [q]; exact hoM))), f1 j hj (fun q => hs (.inr (.inl (hba j q))))]⟩
    refine M_loop l0_cells_Memory_Grow.eq_1 ?_
    simp [go_sem, get_alloc, n_alloc, get_set, n_set, get_kill, n_kill, writeAt, a11, a21, a31, a41, a51, a61, a71, isNil, hlt, hg, spM0, spM2, hbM]
    rw [rep_byte, e1]
    simp [go_sem, get_alloc, n_alloc, get_set, n_set, get_kill, n_kill, writeAt, a11, a21, a31, a41, a51, a61, a71, isNil, gM1, spM0, hbM]
    rw [← hg2]
    simp [go_sem, get_alloc, n_alloc, get_set, n_set, get_kill, n_kill, writeAt, a11, a21, a31, a41, a51, a61, a71, isNil, gM2, evParts, fillA, sp10]
    rw [e12, e3]
    simp [go_sem, get_alloc, n_alloc, get_set, n_set, get_kill, n_kill, writeAt, a11, a21, a31, a41, a51, a61, a71, isNil, spM2, hbM, gM3]
    rw [← hg4, hw]
    refine grow_loop was n hn64 hb Q k (i + 1) g4 _ (grow1 m) (by omega) (by omega) hO (by simp [grow1]; omega) (fun e g' own' h1 h2 h3 h4 => ?_)
    exact hq e g' own' h1 (hkp.trans hag h2) (Agr.trans hag h3 (by omega)) h4
end
end Go.Ev
set_option linter.unusedSectionVars false
namespace Go.Ev
open Go
section
variable {bar b : Nat} {g : H} {own : Nat → Nat} {C : Cx} {tr val : Int} {ids : List Nat} {t : Nat} {f : Fm} {id i M : Nat} {m : Mem} {r : Row}
theorem grow_ok (vm : MemO g b own M m) (hb : bar ≤ b) (hbg : b ≤ g.n) (n : Int) :
    ∃ g' own', call tb prim n_cells_Memory_Grow [.ptr M 0, .int .i64 n] bar g = some (.int .i64 (growM m n).2, g') ∧ MemO g' b own' M (growM m n).1 ∧ Kp own t345 g g' ∧ Agr g.n own own' := by
  have vm' := vm
  obtain ⟨⟨ba, da, hv, hba, hda⟩, hoM⟩ := vm'
  have hg := hv.get
  have e0 := pages_ok (bar := bar) hv
  have hm0 := hv.m0
  have hm1 := hv.m1
  have hw : IntKind.i64.wrap (m.most - (m.dirty.length : Int)) = m.most - m.dirty.length := w64 (by omega) (by omega)
  by_cases h0 : n < 0
  · obtain ⟨y, g9, hcall, rfl, rfl⟩ := callF_K (o := call tb prim) (F := f_cells_Memory_Grow) (bar := bar) (h := g) (args := [.ptr M 0, .int .i64 n]) (P := fun y g9 => y = .int .i64 (-1) ∧ g9 = g) rfl rfl (fun K hK => by
      have d0 : decide (n < 0) = true := by simpa using h0
      simp [f_cells_Memory_Grow, env0, go_sem, get_alloc, n_alloc, get_set, n_set, get_kill, n_kill, writeAt, a11, a21, a31, a41, a51, a61, a71, isNil, e0, d0]
      simp [go_sem, endP, endI, resultsA, resultA, freezeL, freezeV, AV.free.freeL, AV.free, packA, dropS]
      exact ⟨_, _, ⟨rfl, rfl⟩, hK _ _ ⟨rfl, rfl⟩⟩)
    have e : growM m n = (m, -1) := by unfold growM; rw [if_pos (.inl h0)]
    rw [e]
    exact ⟨_, own, call_of tb_cells_Memory_Grow hcall, vm, Kp.refl, Agr.refl⟩
  · have d0 : decide (n < 0) = false := by simpa using h0
    by_cases h1 : n > m.most - m.dirty.length
    · obtain ⟨y, g9, hcall, rfl, rfl⟩ := callF_K (o := call tb prim) (F := f_cells_Memory_Grow) (bar := bar) (h := g) (args := [.ptr M 0, .int .i64 n]) (P := fun y g9 => y = .int .i64 (-1) ∧ g9 = g) rfl rfl (fun K hK => by
        have d1 : decide (m.most - (m.dirty.length : Int) < n) = true := by simpa using h1
        simp [f_cells_Memory_Grow, env0, go_sem, get_alloc, n_alloc, get_set, n_set, get_kill, n_kill, writeAt, a11, a21, a31, a41, a51, a61, a71, isNil, e0, d0, hg, hw, d1]
        simp [go_sem, endP, endI, resultsA, resultA, freezeL, freezeV, AV.free.freeL, AV.free, packA, dropS]
        exact ⟨_, _, ⟨rfl, rfl⟩, hK _ _ ⟨rfl, rfl⟩⟩)
      have e : growM m n = (m, -1) := by unfold growM; rw [if_pos (.inr h1)]
      rw [e]
      exact ⟨_, own, call_of tb_cells_Memory_Grow hcall, vm, Kp.refl, Agr.refl⟩
    · have e : growM m n = (growK n.toNat m, (m.dirty.length : Int)) := by
        unfold growM; rw [if_neg (by omega), growK_eq]
      rw [e]
      obtain ⟨y, g9, hcall, rfl, own', h2, h3, h4⟩ := callF_K (o := call tb prim) (F := f_cells_Memory_Grow) (bar := bar) (h := g) (args := [.ptr M 0, .int .i64 n]) (P := fun y g9 => y = .int .i64 m.dirty.length ∧ ∃ own', MemO g9 b own' M (growK n.toNat m) ∧ Kp own t345 g g9 ∧ Agr g.n own own') rfl rfl (fun K hK => by
        have d1 : decide (m.most - (m.dirty.length : Int) < n) = false := by simpa using h1
        simp [f_cells_Memory_Grow, env0, go_sem, get_alloc, n_alloc, get_set, n_set, get_kill, n_kill, writeAt, a11, a21, a31, a41, a51, a61, a71, isNil, e0, d0, hg, hw, d1]
        refine grow_loop m.dirty.length n (by omega) hb _ n.toNat 0 g own m (by omega) hbg vm (by omega) (fun e g' own' h1 h2 h3 h4 => ?_)
        simp [go_sem, endP, endI, resultsA, resultA, freezeL, freezeV, AV.free.freeL, AV.free, packA, dropS, h4]
        exact ⟨_, _, ⟨rfl, rfl⟩, hK _ _ ⟨rfl, own', h1, h2, h3⟩⟩)
      exact ⟨_, own', call_of tb_cells_Memory_Grow hcall, h2, h3, h4⟩
theorem mem_grow {a : Int} {st : List Int} (vx : XO g b own C tr val ids) (vf : FrO g b own t f id) (vm : MemO g b own C.M m) (hb : bar ≤ b) (hbg : b ≤ g.n) (hst : f.st = a :: st) :
    MemR bar b g own C val ids t f id 164 (some ((growM m a).2 :: st, (growM m a).1, tr)) := by
  rintro st0 m0 tr0 h
  cases h
  have hsm := vf.sm
  rw [hst] at hsm
  obtain ⟨g1, e1, v1, k1⟩ := pop_o vf hst hb
  have x1 := vx.mono k1 Agr.refl (tS1 t)
  have m1 := vm.mono k1 Agr.refl (tS3 t)
  have hbg1 : b ≤ g1.n := Nat.le_trans hbg k1.1
  obtain ⟨g2, own2, e2, m2, k2, a2⟩ := grow_ok m1 hb hbg1 a
  have x2 := x1.mono k2 a2 (by unfold t345; omega)
  have v2 := v1.mono k2 a2 (by unfold t345; omega) (by unfold t345; omega)
  obtain ⟨g3, own3, e4, v3, k3, a3⟩ := push_o v2 hb (by have := k2.1; omega) (by simp at hsm ⊢; omega) (growM m a).2
  have x3 := x2.mono k3 a3 (tS1 t)
  have m3 := m2.mono k3 a3 (tS3 t)
  have hk : Kp own (tM t) g g3 := (k1.le fun k h => tS_M h).trans Agr.refl ((k2.le fun k h => by unfold t345 at h; unfold tM; omega).trans a2 (k3.le fun k h => tS_M h))
  obtain ⟨cs, c1, c2, _⟩ := vx.cell4
  obtain ⟨cs', c1', c2', _⟩ := x1.cell4
  obtain ⟨cs'', c1'', c2'', _⟩ := x2.cell4
  obtain ⟨x, g4, hcall, rfl, rfl⟩ := callF_K (o := call tb prim) (F := f_engine_runner_memory) (bar := bar) (h := g) (args := [.ptr C.X 0, .ptr id 0, .int .i32 164]) (P := fun x g4 => x = .tup [] ∧ g4 = g3) rfl rfl (fun K hK => by
    simp [f_engine_runner_memory, env0, go_sem, get_alloc, n_alloc, get_set, n_set, get_kill, n_kill, writeAt, a11, a21, a31, a41, a51, a61, a71, isNil, c1, c2, e1, e2, e4]
    refine ⟨sees_of rfl ?_, ?_⟩
    · simp [-getElem?_pos, R_nil, R_cons, RS_some, sameV_some, seesQ_some, List.take, List.take_succ_cons, List.take_zero, go_sem, get_alloc, n_alloc, get_set, n_set, get_kill, n_kill, writeAt, a11, a21, a31, a41, a51, a61, a71, isNil, c1, c2, c1', c2', c1'', c2'', e1, e2, List.getElem?_cons_zero, List.getElem?_cons_succ]
    simp [go_sem, endP, endI, resultsA, resultA, freezeL, freezeV, AV.free.freeL, AV.free, packA, dropS]
    exact ⟨_, _, ⟨rfl, rfl⟩, hK _ _ ⟨rfl, rfl⟩⟩)
  exact ⟨_, own3, call_of tb_engine_runner_memory hcall, v3, x3, m3, hk, Agr.trans (Agr.trans Agr.refl a2 k1.1) a3 (by have := k1.1; have := k2.1; omega)⟩
theorem mem_all (vx : XO g b own C tr val ids) (vf : FrO g b own t f id) (vm : MemO g b own C.M m) (hb : bar ≤ b) (hbg : b ≤ g.n) (hsm : f.st.length < 3000000) {sg : Int} (hsg : isMemS sg = true) :
    MemR bar b g own C val ids t f id sg (memS sg f.st m tr) := by
  have hsg' : sg = 64 ∨ sg = 169 ∨ sg = 36 ∨ sg = 174 ∨ sg = 35 ∨ sg = 164 := by simpa [isMemS] using hsg
  intro st m' tr' h
  unfold memS at h
  split at h
  · rename_i hc
    split at h
    · cases h
    · rename_i a st0 hst
      exact mem_load vx vf vm hb hbg hst hc _ _ _ h
  · split at h
    · rename_i hc
      split at h
      · rename_i n a st0 hst
        exact mem_store vx vf vm hb hbg hst hc _ _ _ h
      · cases h
    · split at h
      · rename_i hc
        subst hc
        exact mem_pages vx vf vm hb hbg hsm _ _ _ h
      · split at h
        · cases h
        · rename_i a st0 hst
          have hz : sg = 164 := by omega
          subst hz
          exact mem_grow vx vf vm hb hbg hst _ _ _ h
theorem plain_all {k : Tok} (vx : XO g b own C tr val ids) (vf : FrO g b own t f id) (vr : RowO g b own C.R r) (hb : bar ≤ b) (hbg : b ≤ g.n) (hsm : f.st.length < 3000000) (hsr : r.asks.length < 2000000) :
    PlainR bar b g own C val ids t f id k (plainF k f.st r tr) := by
  intro st r' tr' h
  unfold plainF at h
  split at h
  · rename_i hc
    split at h
    · cases h
    · rename_i a st0 hst
      exact plain_dup vx vf vr hb hbg hst hsm hc _ _ _ h
  · rename_i q1
    split at h
    · rename_i hc
      split at h
      · cases h
      · rename_i a st0 hst
        exact plain_drop vx vf vr hb hbg hst hc _ _ _ h
    · rename_i q2
      split at h
      · rename_i hc
        exact plain_skip vx vf vr hc _ _ _ h
      · rename_i q3
        split at h
        · rename_i hc
          exact plain_halt vx vf vr hb hc _ _ _ h
        · rename_i q4
          split at h
          · rename_i hc
            split at h
            · cases h
            · rename_i a st0 hst
              exact plain_ask vx vf vr hb hbg hst hsr hc _ _ _ h
          · rename_i q5
            split at h
            · rename_i hc
              split at h
              · cases h
              · rename_i a st0 hst
                exact plain_not vx vf vr hb hbg hst hc _ _ _ h
            · rename_i q6
              split at h
              · rename_i c a st0 hst
                exact plain_two vx vf vr hb hbg hst ⟨q1, q2, fun q => q3 (.inl q), fun q => q3 (.inr q), q4, q5, q6⟩ _ _ _ h
              · cases h
end
end Go.Ev
set_option linter.unusedSectionVars false
namespace Go.Ev
open Go
def sigOk (s : Int) : Bool := decide (s = 48 ∨ (97 ≤ s ∧ s ≤ 122) ∨ (65 ≤ s ∧ s ≤ 90) ∨ s = 955) || sgG s
def FrSg (fr : List Fm) : Prop := ∀ f ∈ fr, ∀ k ∈ f.c.l, sigOk k.sign = true
section
variable {bar b : Nat} {g : H} {own : Nat → Nat} {C : Cx} {val : Int} {ids : List Nat} {f : Fm} {i : Nat}
theorem XV.put {g' : H} {own' : Nat → Nat} {S : Nat → Prop} {s : Mc} {r : List Fm} {f' : Fm} (v : XV g b own C s val (i :: ids)) (hfr : s.fr = f :: r) (k : Kp own S g g') (a : Agr g.n own own') (x : XO g' b own' C s.trap val (i :: ids)) (fo : FrO g' b own' r.length f' i) (h0 : ¬ S 0) (hs : ∀ t, t < r.length → ¬ S (2 * t + 10) ∧ ¬ S (2 * t + 11)) (hm : ¬ S 3 ∧ ¬ S 4 ∧ ¬ S 5) (hr : ¬ S 6 ∧ ¬ S 7 ∧ ¬ S 8) : XV g' b own' C { s with fr := f' :: r } val (i :: ids) :=
  have hv := v.fr
  have hv2 : FrsV g b own (f :: r) (i :: ids) := hfr ▸ hv
  ⟨x, v.cx.mono k a h0, ⟨fo, FrsV.mono k a hv2.2 hs⟩, v.m.mono k a hm, v.r.mono k a hr, by have := k.1; have := v.bn; omega⟩
theorem tS_lt {t u : Nat} (h : u < t) : ¬ tS t (2 * u + 10) ∧ ¬ tS t (2 * u + 11) := by unfold tS; omega
theorem step_ok {s s' : Mc} {r : List Fm} (v : XV g b own C s val (i :: ids)) (hfr : s.fr = f :: r) (hb : bar ≤ b) (hst : stepM C.fs (C.rows.map (·.2.2)) s = some s') (hg : FrSg s.fr) (hT : totS s.fr < 3000000) (hsr : s.r.asks.length < 2000000) (hids : ids.length < 999) :
    ∃ g' own' ids', call tb prim n_engine_runner_step [.ptr C.X 0, .ptr i 0] bar g = some (.tup [], g') ∧ XV g' b own' C s' val ids' ∧ Kp own tA g g' ∧ Agr g.n own own' := by
  have hv : FrsV g b own (f :: r) (i :: ids) := hfr ▸ v.fr
  have vf := hv.1
  have hln : ids.length = r.length := hv.2.len
  have hbg := v.bn
  have hsm : f.st.length < 3000000 := by rw [hfr] at hT; simp only [totS] at hT; omega
  unfold stepM at hst
  rw [hfr] at hst
  simp only at hst
  split at hst
  · cases hst
  · rename_i k hk
    have hkg : sigOk k.sign = true := hg f (by rw [hfr]; exact List.mem_cons_self ..) k (List.mem_of_getElem? hk)
    split at hst
    · rename_i q
      cases hst
      obtain ⟨g', own', e, fo, kp, ag⟩ := step_num (bar := bar) vf hb hbg hk q hsm (.ptr C.X 0)
      exact ⟨g', own', _, e, v.put hfr kp ag (v.x.mono kp ag (tS1 _)) fo (tS0 _) (fun t ht => tS_lt ht) (tS3 _) (tS6 _), kp.le fun k h => tS_A h, ag⟩
    · rename_i q1
      split at hst
      · rename_i q
        split at hst
        · cases hst
        · rename_i x hx
          cases hst
          obtain ⟨g', own', e, fo, kp, ag⟩ := step_get (bar := bar) vf hb hbg hk q hx hsm (.ptr C.X 0)
          exact ⟨g', own', _, e, v.put hfr kp ag (v.x.mono kp ag (tS1 _)) fo (tS0 _) (fun t ht => tS_lt ht) (tS3 _) (tS6 _), kp.le fun k h => tS_A h, ag⟩
      · rename_i q2
        split at hst
        · rename_i q
          split at hst
          · cases hst
          · rename_i x st hx
            cases hst
            obtain ⟨g', own', e, fo, kp, ag⟩ := step_set (bar := bar) vf hb hbg hk q hx (.ptr C.X 0)
            exact ⟨g', own', _, e, v.put hfr kp ag (v.x.mono kp ag (tS1 _)) fo (tS0 _) (fun t ht => tS_lt ht) (tS3 _) (tS6 _), kp.le fun k h => tS_A h, ag⟩
        · rename_i q3
          split at hst
          · rename_i q
            split at hst
            · cases hst
            · rename_i c hc
              split at hst
              · cases hst
              · rename_i q5
                rw [List.getElem?_map] at hc
                cases hx : C.rows[(findN k.name C.fs 0).toNat]? with
                | none => rw [hx] at hc; cases hc
                | some x =>
                  rw [hx] at hc
                  simp only [Option.map_some, Option.some.injEq] at hc
                  obtain ⟨g', own', e, fo, kp, ag, hh⟩ := step_call (bar := bar) (a := c.args.toNat) v.x v.cx vf hb hbg hk q (kk := (findN k.name C.fs 0).toNat) (by omega) hx (by rw [hc]; omega) (by omega) (by simp; omega)
                  have hlt : ∀ t, t < r.length → ¬ tC r.length (2 * t + 10) ∧ ¬ tC r.length (2 * t + 11) := fun t ht => by unfold tC tS; omega
                  have h0 : ¬ tC r.length 0 := by unfold tC tS; omega
                  have h3 : ¬ tC r.length 3 ∧ ¬ tC r.length 4 ∧ ¬ tC r.length 5 := by unfold tC tS; omega
                  have h6 : ¬ tC r.length 6 ∧ ¬ tC r.length 7 ∧ ¬ tC r.length 8 := by unfold tC tS; omega
                  split at hst
                  · rename_i hd
                    cases hst
                    rcases hh with ⟨_, hx6⟩ | ⟨hn, _⟩
                    · exact ⟨g', own', _, e, ⟨hx6, v.cx.mono kp ag h0, ⟨fo, FrsV.mono kp ag hv.2 hlt⟩, v.m.mono kp ag h3, v.r.mono kp ag h6, by have := kp.1; omega⟩, kp.le fun k h => tC_A h, ag⟩
                    · exfalso; simp at hn hd; omega
                  · rename_i hd
                    cases hst
                    rcases hh with ⟨hn, _⟩ | ⟨_, j, hxj, hfj⟩
                    · exfalso; simp at hn hd; omega
                    · refine ⟨g', own', j :: i :: ids, e, ⟨hxj, v.cx.mono kp ag h0, ⟨?_, fo, FrsV.mono kp ag hv.2 hlt⟩, v.m.mono kp ag h3, v.r.mono kp ag h6, by have := kp.1; omega⟩, kp.le fun k h => tC_A h, ag⟩
                      rw [hc] at hfj
                      have : (i :: ids).length = ({ f with at' := f.at' + 1, st := f.st.drop c.args.toNat } :: r).length := by simp [hln]
                      rw [← this]
                      exact hfj
          · rename_i q4
            have hsg : sgG k.sign = true := by
              have := hkg
              unfold sigOk at this
              simp only [Bool.or_eq_true, decide_eq_true_eq] at this
              rcases this with h | h
              · omega
              · exact h
            split at hst
            · rename_i hgo
              have hX := fun (g1 : H) (f' : Fm) (fo : FrO g1 b (ext own g.n 0) r.length f' i) (hk1 : Kp (ext own g.n 0) (tS r.length) (tokZ g k) g1) => True
              have vz := vf.mono (tokZ_kp (k := k) (S := fun _ => False)) (Agr.ext (k := 0)) (by simp) (by simp)
              have hgz : b ≤ (tokZ g k).n := by rw [tokZ_n]; omega
              have fin : ∀ f' : Fm, (∃ g1, call tb prim n_engine_runner_goes [.ptr C.X 0, .ptr i 0, .int .i32 k.sign] bar (tokZ g k) = some (.tup [], g1) ∧ FrO g1 b (ext own g.n 0) r.length f' i ∧ Kp (ext own g.n 0) (tS r.length) (tokZ g k) g1) →
                  ∃ g' own' ids', call tb prim n_engine_runner_step [.ptr C.X 0, .ptr i 0] bar g = some (.tup [], g') ∧ XV g' b own' C { s with fr := f' :: r } val ids' ∧ Kp own tA g g' ∧ Agr g.n own own' := fun f' hG => by
                obtain ⟨g', own', e, fo, kp, ag⟩ := step_goes (bar := bar) vf hb hk hsg hgo (.ptr C.X 0) hG hbg
                exact ⟨g', own', _, e, v.put hfr kp ag (v.x.mono kp ag (tS1 _)) fo (tS0 _) (fun t ht => tS_lt ht) (tS3 _) (tS6 _), kp.le fun k h => tS_A h, ag⟩
              split at hst
              · rename_i q63
                split at hst
                · cases hst
                · rename_i vv st hfs
                  split at hst
                  · rename_i hne
                    cases hst
                    refine fin _ ?_
                    rw [q63]
                    exact goes_1 vz hfs hne hb (List.getElem?_eq_some_iff.mp hk).1 (.ptr C.X 0)
                  · rename_i hz
                    have hz' : vv = 0 := by simpa using hz
                    split at hst
                    · cases hst
                    · rename_i j hj
                      split at hst
                      · cases hst
                      · cases hst
                        refine fin _ ?_
                        rw [q63]
                        obtain ⟨j', rfl⟩ := Int.eq_ofNat_of_zero_le (show 0 ≤ j by omega)
                        exact goes_0 vz (by rw [hfs, hz']) hb hj (.ptr C.X 0)
              · rename_i q63
                split at hst
                · cases hst
                · rename_i j hj
                  split at hst
                  · cases hst
                  · cases hst
                    refine fin _ ?_
                    obtain ⟨j', rfl⟩ := Int.eq_ofNat_of_zero_le (show 0 ≤ j by omega)
                    exact goes_to vz hb hj (.ptr C.X 0) q63
            · rename_i hgo
              have hgo' : isGo k.sign = false := by simpa using hgo
              split at hst
              · rename_i hme
                split at hst
                · cases hst
                · rename_i st m' tr' hm
                  cases hst
                  obtain ⟨g', own', e, fo, xo, mo, kp, ag⟩ := step_mem (bar := bar) v.x vf v.m hb hbg hk hsg hgo' hme (fun own0 vx vf vm hbz => mem_all vx vf vm hb hbz hsm hme) st m' tr' hm
                  refine ⟨g', own', _, e, ⟨xo, v.cx.mono kp ag (by unfold tM tS; omega), ⟨fo, FrsV.mono kp ag hv.2 fun t ht => by unfold tM tS; omega⟩, mo, v.r.mono kp ag (by unfold tM tS; omega), by have := kp.1; omega⟩, kp.le fun k h => tM_A h, ag⟩
              · rename_i hme
                have hme' : isMemS k.sign = false := by simpa using hme
                split at hst
                · cases hst
                · rename_i st ro tr' hm
                  cases hst
                  obtain ⟨g', own', e, fo, xo, mo, kp, ag⟩ := step_plain (bar := bar) v.x vf v.r hb hbg hk hsg hgo' hme' (fun own0 vx vf vm hbz => plain_all vx vf vm hb hbz hsm hsr) st ro tr' hm
                  refine ⟨g', own', _, e, ⟨xo, v.cx.mono kp ag (by unfold tP tS; omega), ⟨fo, FrsV.mono kp ag hv.2 fun t ht => by unfold tP tS; omega⟩, v.m.mono kp ag (by unfold tP tS; omega), mo, by have := kp.1; omega⟩, kp.le fun k h => tP_A h, ag⟩
end
end Go.Ev
set_option linter.unusedSectionVars false
namespace Go.Ev
open Go
def goodF (fs : List Fn) (f : Fn) (i : Nat) : Bool := nameR f.name && (findN f.name fs 0 == i) && decide (0 ≤ f.args) && decide (f.args ≤ 4)
def namedN (fs : List Fn) : Nat → Nat → Bool
  | 0, _ => true
  | k + 1, i => match fs[i]? with
    | none => true
    | some f => if goodF fs f i then namedN fs k (i + 1) else false
def fnOf (fs : List Fn) (i : Nat) : Int := (funN (fun l => (nestP l).isSome) fs i).2
def funsN (fs : List Fn) : Nat → Nat → Int
  | 0, _ => 0
  | k + 1, i => if fnOf fs i ≠ 0 then fnOf fs i else funsN fs k (i + 1)
def rightN (p m : Int) (fs : List Fn) : Int :=
  if p < 0 ∨ m < p ∨ 64 < m then 25 else
  if 32 < fs.length then 3 else
  if namedN fs fs.length 0 then funsN fs fs.length 0 else 12
section
variable {o : Oracle} {bar : Nat} {g : H}
theorem S_frow {fa : AV} {fs : List Fn} (hv : FV g fa fs) {i : Nat} (hi : i < fs.length) {c d : Nat} {r : List IOper} {ks : List Fr} {e : Env} {Q : Ex → Env → H → Prop}
    (hw : ∀ u, wpX o bar r ks ((d, .agg fs[i].cells) :: (c, u) :: e) g Q) : wpS o bar (iadrR 3 (some fa) (some (.int .i64 (i : Int))) g) (some c) (⟨some d, .ld true 3 (.t c), none⟩ :: r) ks e Q := by
  have hix : indexIn (.int .i64 (i : Int)) fs.length = some i := by simp only [indexIn]; rw [if_pos (by omega), Int.toNat_natCast]
  rcases hv.cases with ⟨_, rfl⟩ | ⟨full, cs, rfl, hl, _, hy⟩ | ⟨id, off, full, all, p, rfl, hlt, hg, _, hy⟩
  · cases hi
  · obtain ⟨h1, h2⟩ := hy i hi
    simp [go_sem, hix, hl, h1, h2]
    exact hw _
  · obtain ⟨h1, h2⟩ := hy i hi
    simp [go_sem, hix, hg, h1, h2]
    exact hw _
theorem S_fld {fa : AV} {fs : List Fn} (hv : FV g fa fs) {i : Nat} (hi : i < fs.length) {c c' d : Nat} {r : List IOper} {ks : List Fr} {e : Env} {Q : Ex → Env → H → Prop}
    (hw : ∀ u v, wpX o bar r ks ((d, .int .i64 fs[i].args) :: (c', v) :: (c, u) :: e) g Q) : wpS o bar (iadrR 3 (some fa) (some (.int .i64 (i : Int))) g) (some c) (⟨some c', .fadr 1 (.t c), none⟩ :: ⟨some d, .ld false 1 (.t c'), none⟩ :: r) ks e Q := by
  have hix : indexIn (.int .i64 (i : Int)) fs.length = some i := by simp only [indexIn]; rw [if_pos (by omega), Int.toNat_natCast]
  rcases hv.cases with ⟨_, rfl⟩ | ⟨full, cs, rfl, hl, hx, _⟩ | ⟨id, off, full, all, p, rfl, hlt, hg, hx, _⟩
  · cases hi
  · obtain ⟨_, h2, _⟩ := hx i hi
    simp [go_sem, hix, hl, h2]
    exact hw _ _
  · obtain ⟨_, h2, _⟩ := hx i hi
    simp [go_sem, hix, hg, h2]
    exact hw _ _
end
section
variable {bar b : Nat} {g : H} {fa : AV} {fs : List Fn} {p m : Int}
theorem spF (a b c u v w : AV) : splice [a, b, c] 0 [u, v, w] = [u, v, w] := Eq.trans rfl rfl
theorem named_loop (hb : bar ≤ b) (Q : Ex → Env → H → Prop) (bx : Nat) (hbx : bx < b) : ∀ (k i : Nat) (g : H), fs.length = i + k → b ≤ g.n → FV g fa fs → g.get bx = some (.cells [.int .i64 p, .int .i64 m, fa] 0) →
    (namedN fs k i = true → ∀ e g', Q (.exit 0) e g') → (namedN fs k i = false → ∀ e g', e.get 2 = some (.bool false) → Q .ret e g') →
    wpL (call tb prim) bar [1, 6, 7, 8] l0_unit_named [(1, .ptr bx 0), (6, fa), (7, goI fs.length), (8, goI i)] g Q
  | 0, i, g, hk, hbg, hv, hgx, h1, h2 => by
    refine M_loop l0_unit_named.eq_1 ?_
    have hlt : ¬ (i : Int) < (fs.length : Int) := by omega
    simp [go_sem, goI, hlt]
    exact h1 rfl _ _
  | k + 1, i, g, hk, hbg, hv, hgx, h1, h2 => by
    refine M_loop l0_unit_named.eq_1 ?_
    have hi : i < fs.length := by omega
    have hlt : (i : Int) < (fs.length : Int) := by omega
    have hw := w64_succ (n := i) (by have := hv.2.1; omega)
    have hN : namedN fs (k + 1) i = if goodF fs fs[i] i then namedN fs k (i + 1) else false := by
      rw [namedN, List.getElem?_eq_getElem hi]
    obtain ⟨f, hf⟩ : ∃ f, f = fs[i] := ⟨_, rfl⟩
    rw [← hf] at hN
    obtain ⟨g1, hg1⟩ : ∃ g1, g1 = (g.alloc (.cells [.int .i32 0, .int .i64 0, .str ⟨#[]⟩] 0)).set g.n (.cells [.int .i32 f.name, .int .i64 f.args, .str f.code] 0) := ⟨_, rfl⟩
    have n1 : g1.n = g.n + 1 := by rw [hg1]; rfl
    have k1 : ∀ j, j < g.n → g1.get j = g.get j := fun j hj => by rw [hg1, get_set_ne (by omega), get_alloc, if_neg (by omega)]
    have hv1 : FV g1 fa fs := hv.keep (by omega) (fun j hj => k1 j (hv.at_lt' hj))
    have gx1 : g1.get bx = some (.cells [.int .i64 p, .int .i64 m, fa] 0) := by rw [k1 bx (by omega)]; exact hgx
    have gF : g1.get g.n = some (.cells [.int .i32 f.name, .int .i64 f.args, .str f.code] 0) := by rw [hg1, get_set, if_pos rfl]
    have eN := glyph_Name_ok (pr := prim) (bar := bar) (h := g1) f.name
    have eF := check_Find_ok (pr := prim) (bar := bar) (h := g1) fs fa f.name p m hv1
    have hbn : bar ≤ g.n := by omega
    simp [go_sem, goI, hlt]
    refine S_frow hv hi fun u => ?_
    rw [← hf]
    simp [go_sem, get_alloc, n_alloc, get_set, n_set, get_kill, n_kill, writeAt, a11, a21, a31, a41, a51, a61, a71, isNil, Fn.cells, spF, hbn]
    rw [← hg1]
    by_cases c1 : nameR f.name = true
    · by_cases c2 : findN f.name fs 0 = (i : Int)
      · by_cases c3 : 0 ≤ f.args
        · by_cases c4 : f.args ≤ 4
          · have hG : goodF fs f i = true := by simp [goodF, c1, c2, c3, c4]
            rw [hG, if_pos rfl] at hN
            rw [c1] at eN
            rw [c2] at eF
            have d3 : decide (f.args < 0) = false := by simpa using c3
            have d4 : decide (4 < f.args) = false := by simpa using c4
            simp [go_sem, get_alloc, n_alloc, get_set, n_set, get_kill, n_kill, writeAt, a11, a21, a31, a41, a51, a61, a71, isNil, gF, eN, gx1, eF, d3, d4, hw]
            exact named_loop hb Q bx hbx k (i + 1) g1 (by omega) (by omega) hv1 gx1 (fun h => h1 (by rw [hN]; exact h)) (fun h => h2 (by rw [hN]; exact h))
          · have hG : goodF fs f i = false := by simp [goodF, c4]
            rw [hG] at hN
            rw [c1] at eN
            rw [c2] at eF
            have d3 : decide (f.args < 0) = false := by simpa using c3
            have d4 : decide (4 < f.args) = true := by simpa using c4
            simp [go_sem, get_alloc, n_alloc, get_set, n_set, get_kill, n_kill, writeAt, a11, a21, a31, a41, a51, a61, a71, isNil, gF, eN, gx1, eF, d3, d4]
            exact h2 hN _ _ rfl
        · have hG : goodF fs f i = false := by simp [goodF, c3]
          rw [hG] at hN
          rw [c1] at eN
          rw [c2] at eF
          have d3 : decide (f.args < 0) = true := by simpa using c3
          simp [go_sem, get_alloc, n_alloc, get_set, n_set, get_kill, n_kill, writeAt, a11, a21, a31, a41, a51, a61, a71, isNil, gF, eN, gx1, eF, d3]
          exact h2 hN _ _ rfl
      · have hG : goodF fs f i = false := by simp [goodF, c2]
        rw [hG] at hN
        rw [c1] at eN
        have d2 : (findN f.name fs 0 != (i : Int)) = true := by simpa using c2
        simp [go_sem, get_alloc, n_alloc, get_set, n_set, get_kill, n_kill, writeAt, a11, a21, a31, a41, a51, a61, a71, isNil, gF, eN, gx1, eF, d2]
        exact h2 hN _ _ rfl
    · have c1' : nameR f.name = false := by simpa using c1
      have hG : goodF fs f i = false := by simp [goodF, c1']
      rw [hG] at hN
      rw [c1'] at eN
      simp [go_sem, get_alloc, n_alloc, get_set, n_set, get_kill, n_kill, writeAt, a11, a21, a31, a41, a51, a61, a71, isNil, gF, eN]
      exact h2 hN _ _ rfl
theorem unit_named_ok (hv : FV g fa fs) : call tb prim n_unit_named [.agg [.int .i64 p, .int .i64 m, fa]] bar g = some (.bool (namedN fs fs.length 0), g) := by
  refine call_of tb_unit_named (callF_pureW rfl rfl (M_in ?_))
  have hv1 : FV (g.alloc (.cells [.int .i64 p, .int .i64 m, fa] 0)) fa fs := hv.keep (by simp [n_alloc]) (fun j hj => by rw [get_alloc, if_neg (by have := hv.at_lt' hj; omega)])
  simp [f_unit_named, env0, go_sem, get_alloc, n_alloc, get_set, n_set, get_kill, n_kill, writeAt, a11, a21, a31, a41, a51, a61, a71, isNil, hv.one, hv.len, get_alloc]
  refine named_loop (bar := g.n) (b := g.n + 1) (p := p) (m := m) (by omega) _ g.n (by omega) fs.length 0 _ (by omega) (by simp [n_alloc]) hv1 (by simp [get_alloc]) (fun h e g' => ?_) (fun h e g' he => ?_)
  · simp [go_sem, endP, endI, resultsA, resultA, freezeL, freezeV, AV.free.freeL, AV.free, packA, dropS, h]
  · simp [go_sem, endP, endI, resultsA, resultA, freezeL, freezeV, AV.free.freeL, AV.free, packA, dropS, he, h]
theorem right_loop (Q : Ex → Env → H → Prop) (bx : Nat) : ∀ (k i : Nat), fs.length = i + k → FV g fa fs → g.get bx = some (.cells [.int .i64 p, .int .i64 m, fa] 0) →
    (funsN fs k i = 0 → ∀ e g', Q (.exit 1) e g') → (∀ x, funsN fs k i = x → ∀ e g', e.get 2 = some (.int .i64 x) → Q .ret e g') →
    wpL (call tb prim) bar [1, 33, 34] l0_unit_Right [(1, .ptr bx 0), (33, goI fs.length), (34, goI i)] g Q
  | 0, i, hk, hv, hgx, h1, h2 => by
    refine M_loop l0_unit_Right.eq_1 ?_
    have hlt : ¬ (i : Int) < (fs.length : Int) := by omega
    simp [go_sem, goI, hlt]
    exact h1 rfl _ _
  | k + 1, i, hk, hv, hgx, h1, h2 => by
    refine M_loop l0_unit_Right.eq_1 ?_
    have hi : i < fs.length := by omega
    have hlt : (i : Int) < (fs.length : Int) := by omega
    have hw := w64_succ (n := i) (by have := hv.2.1; omega)
    obtain ⟨a, eF, _⟩ := check_Func_ok (bar := bar) (p := p) (m := m) fs (i : Int) hv
    by_cases hc : fnOf fs i = 0
    · have hN : funsN fs (k + 1) i = funsN fs k (i + 1) := by rw [funsN, if_neg (by simpa using hc)]
      have hc' : (funN (fun l => (nestP l).isSome) fs i).2 = 0 := hc
      rw [hc'] at eF
      simp [go_sem, get_alloc, n_alloc, get_set, n_set, get_kill, n_kill, writeAt, a11, a21, a31, a41, a51, a61, a71, isNil, goI, hlt, hgx, eF, hw]
      exact right_loop Q bx k (i + 1) (by omega) hv hgx (fun h => h1 (by rw [hN]; exact h)) (fun x h => h2 x (by rw [hN]; exact h))
    · have hN : funsN fs (k + 1) i = fnOf fs i := by rw [funsN, if_pos hc]
      have hb : ((funN (fun l => (nestP l).isSome) fs i).2 != 0) = true := by
        have hc' : ¬ (funN (fun l => (nestP l).isSome) fs i).2 = 0 := hc
        simpa using hc'
      simp [go_sem, get_alloc, n_alloc, get_set, n_set, get_kill, n_kill, writeAt, a11, a21, a31, a41, a51, a61, a71, isNil, goI, hlt, hgx, eF, hb]
      exact h2 _ hN _ _ rfl
theorem unit_Right_ok (hv : FV g fa fs) : call tb prim n_unit_Right [.agg [.int .i64 p, .int .i64 m, fa]] bar g = some (.int .i64 (rightN p m fs), g) := by
  refine call_of tb_unit_Right (callF_pureW rfl rfl (M_in ?_))
  have hv1 : FV (g.alloc (.cells [.int .i64 p, .int .i64 m, fa] 0)) fa fs := hv.keep (by simp [n_alloc]) (fun j hj => by rw [get_alloc, if_neg (by have := hv.at_lt' hj; omega)])
  have eN := unit_named_ok (bar := g.n) (p := p) (m := m) hv1
  have hlen := hv.len
  by_cases c1 : p < 0 ∨ m < p ∨ 64 < m
  · have hR : rightN p m fs = 25 := by unfold rightN; rw [if_pos c1]
    rw [hR]
    by_cases d1 : p < 0
    · have e1 : decide (p < 0) = true := by simpa using d1
      simp [f_unit_Right, env0, go_sem, get_alloc, n_alloc, get_set, n_set, get_kill, n_kill, writeAt, a11, a21, a31, a41, a51, a61, a71, isNil, hv.one, hlen, e1]
      simp [go_sem, endP, endI, resultsA, resultA, freezeL, freezeV, AV.free.freeL, AV.free, packA, dropS]
    · have e1 : decide (p < 0) = false := by simpa using d1
      by_cases d2 : m < p
      · have e2 : decide (m < p) = true := by simpa using d2
        simp [f_unit_Right, env0, go_sem, get_alloc, n_alloc, get_set, n_set, get_kill, n_kill, writeAt, a11, a21, a31, a41, a51, a61, a71, isNil, hv.one, hlen, e1, e2]
        simp [go_sem, endP, endI, resultsA, resultA, freezeL, freezeV, AV.free.freeL, AV.free, packA, dropS]
      · have e2 : decide (m < p) = false := by simpa using d2
        have e3 : decide (64 < m) = true := by simp; omega
        simp [f_unit_Right, env0, go_sem, get_alloc, n_alloc, get_set, n_set, get_kill, n_kill, writeAt, a11, a21, a31, a41, a51, a61, a71, isNil, hv.one, hlen, e1, e2, e3]
        simp [go_sem, endP, endI, resultsA, resultA, freezeL, freezeV, AV.free.freeL, AV.free, packA, dropS]
  · have e1 : decide (p < 0) = false := by simp; omega
    have e2 : decide (m < p) = false := by simp; omega
    have e3 : decide (64 < m) = false := by simp; omega
    by_cases c2 : 32 < fs.length
    · have hR : rightN p m fs = 3 := by unfold rightN; rw [if_neg c1, if_pos c2]
      have e4 : decide ((32 : Int) < (fs.length : Int)) = true := by simp; omega
      rw [hR]
      simp [f_unit_Right, env0, go_sem, get_alloc, n_alloc, get_set, n_set, get_kill, n_kill, writeAt, a11, a21, a31, a41, a51, a61, a71, isNil, hv.one, hlen, goI, e1, e2, e3, e4]
      simp [go_sem, endP, endI, resultsA, resultA, freezeL, freezeV, AV.free.freeL, AV.free, packA, dropS]
    · have e4 : decide ((32 : Int) < (fs.length : Int)) = false := by simp; omega
      by_cases c3 : namedN fs fs.length 0 = true
      · have hR : rightN p m fs = funsN fs fs.length 0 := by unfold rightN; rw [if_neg c1, if_neg c2, if_pos c3]
        rw [hR]
        rw [c3] at eN
        simp [f_unit_Right, env0, go_sem, get_alloc, n_alloc, get_set, n_set, get_kill, n_kill, writeAt, a11, a21, a31, a41, a51, a61, a71, isNil, hv.one, hlen, goI, e1, e2, e3, e4, eN]
        refine right_loop (p := p) (m := m) _ g.n fs.length 0 (by omega) hv1 (by simp [get_alloc]) (fun h e g' => ?_) (fun x h e g' he => ?_)
        · simp [go_sem, endP, endI, resultsA, resultA, freezeL, freezeV, AV.free.freeL, AV.free, packA, dropS, h]
        · simp [go_sem, endP, endI, resultsA, resultA, freezeL, freezeV, AV.free.freeL, AV.free, packA, dropS, he, h]
      · have c3' : namedN fs fs.length 0 = false := by simpa using c3
        have hR : rightN p m fs = 12 := by unfold rightN; rw [if_neg c1, if_neg c2, if_neg c3]
        rw [hR]
        rw [c3'] at eN
        simp [f_unit_Right, env0, go_sem, get_alloc, n_alloc, get_set, n_set, get_kill, n_kill, writeAt, a11, a21, a31, a41, a51, a61, a71, isNil, hv.one, hlen, goI, e1, e2, e3, e4, eN]
        simp [go_sem, endP, endI, resultsA, resultA, freezeL, freezeV, AV.free.freeL, AV.free, packA, dropS]
end
end Go.Ev
set_option linter.unusedSectionVars false
namespace Go.Ev
open Go
def AV.stay : AV → Bool
  | .sl .. => false
  | .agg _ => false
  | _ => true
theorem freezeV_stay {bar d : Nat} {h : H} {v : AV} (hv : v.stay = true) : freezeV bar (d + 1) h v = some (v, h) := by
  cases v <;> first | (cases hv; done) | (simp [freezeV])
theorem freezeL_stay {bar d : Nat} {h : H} : ∀ {cs : List AV}, cs.all AV.stay = true → freezeL bar (d + 1) h cs = some (cs, h)
  | [], _ => by simp [freezeL]
  | v :: r, hc => by
    rw [List.all_cons, Bool.and_eq_true] at hc
    simp [freezeL, freezeV_stay hc.1, freezeL_stay hc.2]
theorem OS.freeze' {k : Nat} {h : H} {bar : Nat} {a : AV} {n : Nat} {cs : List AV} (v : OS k h bar a n cs) (hc : cs.all AV.stay = true) (hf : cs.all AV.free = true) (hn : n ≤ 9223372036854775807) (d : Nat) : ∃ a' h', freezeV bar (d + 2) h a = some (a', h') ∧ FzV k a' n cs := by
  obtain ⟨h1, h2, ⟨rfl, rfl⟩ | ⟨id, rest, rfl, g1, g2, g3⟩⟩ := v
  · exact ⟨.nilsl, h, by simp [freezeV], h1, hn, .inl ⟨rfl, rfl⟩⟩
  · refine ⟨.fz k n cs false, h.set id (.cells (cs ++ rest) (max 0 (0 + n * k))), ?_, h1, hn, .inr ⟨false, rfl⟩⟩
    have hcs : ((cs ++ rest).drop 0).take (n * k) = cs := by rw [List.drop_zero, ← h1, List.take_left]
    simp only [freezeV, g3]
    rw [if_pos ⟨g1, by simp [h1]⟩, hcs, freezeL_stay hc]
    simp only
    rw [if_pos ⟨hf, h2⟩]
theorem FzV.stay {k : Nat} {a : AV} {n : Nat} {cs : List AV} (v : FzV k a n cs) : a.stay = true := by
  obtain ⟨_, _, ⟨rfl, _⟩ | ⟨full, rfl⟩⟩ := v <;> rfl
def codeW (f : Fn) : Code' := ⟨(gTok f.code).1, (nestP (gTok f.code).1).getD [], f.args⟩
def toOk (f : Fn) : Prop := ∃ to, nestP (gTok f.code).1 = some to ∧ ∀ x ∈ to, x ≤ 2000
def RowsV (fs : List Fn) (rows : List (AV × AV × Code')) : Prop := ∀ (j : Nat) (x : AV × AV × Code'), rows[j]? = some x → ∃ f, fs[j]? = some f ∧ x.2.2 = codeW f ∧ CodeV x.2.2 x.1 x.2.1
theorem RowsV.all {fs : List Fn} {rows : List (AV × AV × Code')} (v : RowsV fs rows) (p : AV → Bool) (hi : ∀ n, p (.int .i64 n) = true) (hz : ∀ k a n cs, FzV k a n cs → p a = true) : (rows.flatMap cdC).all p = true := by
  rw [List.all_eq_true]
  intro y hy
  obtain ⟨x, hx, hyx⟩ := List.mem_flatMap.mp hy
  obtain ⟨j, hj⟩ := List.mem_iff_getElem?.mp hx
  obtain ⟨f, _, _, hc⟩ := v j x hj
  simp only [cdC, List.mem_cons, List.not_mem_nil, or_false] at hyx
  rcases hyx with rfl | rfl | rfl
  · exact hz _ _ _ _ hc.1.1
  · exact hz _ _ _ _ hc.1.2
  · exact hi _
theorem fill3 (a b c : AV) (h1 : a.one = true) (h2 : b.one = true) (h3 : c.one = true) : fillA [.nilsl, .nilsl, .int .i64 0] [(0, 1, a), (1, 1, b), (2, 1, c)] = some [a, b, c] := by
  have e1 := cells_one h1
  have e2 := cells_one h2
  have e3 := cells_one h3
  have d1 : a.cells.length = 1 ∧ 0 + 1 ≤ ([.nilsl, .nilsl, .int .i64 0] : List AV).length ∧ a.cells.all AV.one = true := ⟨by rw [e1]; rfl, by simp, by rw [e1]; simp [h1]⟩
  have d2 : b.cells.length = 1 ∧ 1 + 1 ≤ (splice ([.nilsl, .nilsl, .int .i64 0] : List AV) 0 a.cells).length ∧ b.cells.all AV.one = true := ⟨by rw [e2]; rfl, by rw [e1]; simp [splice], by rw [e2]; simp [h2]⟩
  have d3 : c.cells.length = 1 ∧ 2 + 1 ≤ (splice (splice ([.nilsl, .nilsl, .int .i64 0] : List AV) 0 a.cells) 1 b.cells).length ∧ c.cells.all AV.one = true := ⟨by rw [e3]; rfl, by rw [e1, e2]; simp [splice], by rw [e3]; simp [h3]⟩
  simp only [fillA]
  rw [if_pos d1, if_pos d2, if_pos d3, e1, e2, e3]
  rfl
theorem fill33 (a b c : AV) (h1 : a.one = true) (h2 : b.one = true) (h3 : c.one = true) : fillA [.nilsl, .nilsl, .int .i64 0] [(0, 3, .agg [a, b, c])] = some [a, b, c] := by
  simp only [fillA]
  rw [if_pos ⟨rfl, by simp, by simp [AV.cells, h1, h2, h3]⟩]
  rfl
section
variable {bar : Nat} {g : H} {fa : AV} {fs : List Fn} {p m : Int}
theorem codes_loop (hto : ∀ f ∈ fs, toOk f) (hl32 : fs.length ≤ 1000) (hfa : ∀ j, fa.isAt j → j < bar) (Q : Ex → Env → H → Prop) : ∀ (k i : Nat) (g : H) (oa : AV) (rows : List (AV × AV × Code')), fs.length = i + k → bar ≤ g.n → FV g fa fs → OS 3 g bar oa i (rows.flatMap cdC) → rows.length = i → RowsV fs rows →
    (∀ e g' oa' rows', OS 3 g' bar oa' fs.length (rows'.flatMap cdC) → rows'.length = fs.length → RowsV fs rows' → e.get 3 = some oa' → Q (.exit 0) e g') →
    wpL (call tb prim) bar [3, 11, 12, 13] l0_engine_codes [(3, oa), (11, fa), (12, goI fs.length), (13, goI i)] g Q
  | 0, i, g, oa, rows, hk, hbg, hv, ho, hr, hR, hq => by
    refine M_loop l0_engine_codes.eq_1 ?_
    have hlt : ¬ (i : Int) < (fs.length : Int) := by omega
    simp [go_sem, goI, hlt]
    have hi : i = fs.length := by omega
    exact hq _ _ oa rows (hi ▸ ho) (by omega) hR rfl
  | k + 1, i, g, oa, rows, hk, hbg, hv, ho, hr, hR, hq => by
    refine M_loop l0_engine_codes.eq_1 ?_
    have hi : i < fs.length := by omega
    have hlt : (i : Int) < (fs.length : Int) := by omega
    have hw := w64_succ (n := i) (by have := hv.2.1; omega)
    obtain ⟨f, hf⟩ : ∃ f, f = fs[i] := ⟨_, rfl⟩
    have hfi : fs[i]? = some f := by rw [hf]; exact List.getElem?_eq_getElem hi
    obtain ⟨to, hto1, hto2⟩ := hto f (List.mem_of_getElem? hfi)
    have hcto : (codeW f).to = to := by unfold codeW; simp only [hto1, Option.getD_some]
    obtain ⟨g1, hg1⟩ : ∃ g1, g1 = (g.alloc (.cells [.int .i32 0, .int .i64 0, .str ⟨#[]⟩] 0)).set g.n (.cells [.int .i32 f.name, .int .i64 f.args, .str f.code] 0) := ⟨_, rfl⟩
    have n1 : g1.n = g.n + 1 := by rw [hg1]; rfl
    have k1 : ∀ j, j < g.n → g1.get j = g.get j := fun j hj => by rw [hg1, get_set_ne (by omega), get_alloc, if_neg (by omega)]
    have gF : g1.get g.n = some (.cells [.int .i32 f.name, .int .i64 f.args, .str f.code] 0) := by rw [hg1, get_set, if_pos rfl]
    have o1 : OS 3 g1 bar oa i (rows.flatMap cdC) := ho.mono (by omega) (fun j hj => k1 j (ho.ow.at_lt hj).2)
    obtain ⟨la, eT, hla, hll⟩ := glyph_Tokens_ok (bar := bar) (h := g1) f.code
    have eO := nest_Of_ok (pr := prim) (bar := bar) (g := g1) (gTok f.code).1 la hla (by omega)
    rw [hto1] at eO
    obtain ⟨ta, eO, hta, htl⟩ := eO
    have h1 := hla.one
    have h2 := hta.one
    have hfill := fill3 la ta (.int .i64 f.args) h1 h2 rfl
    have hfill2 := fill33 la ta (.int .i64 f.args) h1 h2 rfl
    obtain ⟨oa', g2, eA, o2, n2, f2, _⟩ := o1.app (by omega) 56 [la, ta, .int .i64 f.args] rfl (by
      show (la.one && (ta.one && (true && true))) = true
      rw [h1, h2]; rfl) (by omega) (by omega) (by omega)
    have hv2 : FV g2 fa fs := hv.keep (by omega) (fun j hj => by rw [f2 j (by have := hfa j hj; omega) (fun q => by have := (ho.ow.at_lt q).1; have := hfa j hj; omega)]; exact k1 j (by have := hfa j hj; omega))
    have hall : ([la, ta, .int .i64 f.args] : List AV).all AV.one = true := by
      show (la.one && (ta.one && (true && true))) = true
      rw [h1, h2]; rfl
    simp [go_sem, goI, hlt]
    refine S_frow hv hi fun u => ?_
    rw [← hf]
    simp [go_sem, get_alloc, n_alloc, get_set, n_set, get_kill, n_kill, writeAt, a11, a21, a31, a41, a51, a61, a71, isNil, Fn.cells, spF, hbg]
    rw [← hg1]
    simp [go_sem, get_alloc, n_alloc, get_set, n_set, get_kill, n_kill, writeAt, a11, a21, a31, a41, a51, a61, a71, isNil, gF, eT, eO, evParts, hfill, hfill2, hall, h1, h2]
    rw [eA]
    simp [go_sem, get_alloc, n_alloc, get_set, n_set, get_kill, n_kill, writeAt, a11, a21, a31, a41, a51, a61, a71, hw]
    have hrow : ((rows ++ [(la, ta, codeW f)]).flatMap cdC) = rows.flatMap cdC ++ [la, ta, .int .i64 f.args] := by simp [List.flatMap_append, cdC, codeW]
    refine codes_loop hto hl32 hfa Q k (i + 1) g2 oa' (rows ++ [(la, ta, codeW f)]) (by omega) (by omega) hv2 (by rw [hrow]; exact o2) (by simp; omega) (fun j x hx => ?_) hq
    by_cases hj : j < rows.length
    · rw [List.getElem?_append_left hj] at hx
      exact hR j x hx
    · have hj2 : j = i := by
        have := (List.getElem?_eq_some_iff.mp hx).1
        simp at this; omega
      subst hj2
      rw [List.getElem?_append_right (by omega), hr, Nat.sub_self] at hx
      cases hx
      refine ⟨f, hfi, rfl, ⟨hla, ?_⟩, by show (gTok f.code).1.length ≤ _; omega, ?_, ?_⟩
      · show FzV 1 ta (codeW f).to.length ((codeW f).to.flatMap i64c); rw [hcto]; exact hta
      · show (codeW f).to.length ≤ _; rw [hcto]; omega
      · show ∀ x ∈ (codeW f).to, x ≤ _; rw [hcto]; exact hto2
theorem engine_codes_ok (hv : FV g fa fs) (hto : ∀ f ∈ fs, toOk f) (hl32 : fs.length ≤ 1000) :
    ∃ ca rows, call tb prim n_engine_codes [.agg [.int .i64 p, .int .i64 m, fa]] bar g = some (ca, g) ∧ FzV 3 ca rows.length (rows.flatMap cdC) ∧ rows.length = fs.length ∧ RowsV fs rows := by
  suffices hw : ∃ r, callF (call tb prim) f_engine_codes [.agg [.int .i64 p, .int .i64 m, fa]] bar g = some (r, g) ∧ ∃ rows, FzV 3 r rows.length (rows.flatMap cdC) ∧ rows.length = fs.length ∧ RowsV fs rows by
    obtain ⟨r, h1, rows, h2, h3⟩ := hw; exact ⟨r, rows, call_of tb_engine_codes h1, h2, h3⟩
  refine callF_pureK rfl rfl fun K hK => ?_
  have hv1 : FV (g.alloc (.cells [.int .i64 p, .int .i64 m, fa] 0)) fa fs := hv.keep (by simp [n_alloc]) (fun j hj => by rw [get_alloc, if_neg (by have := hv.at_lt' hj; omega)])
  simp [f_engine_codes, env0, go_sem, get_alloc, n_alloc, get_set, n_set, get_kill, n_kill, writeAt, a11, a21, a31, a41, a51, a61, a71, isNil, hv.one, hv.len, get_alloc]
  refine codes_loop (bar := g.n) hto hl32 (fun j hj => hv.at_lt' hj) _ fs.length 0 _ .nilsl [] (by omega) (by simp [n_alloc]) hv1 OS.nil rfl (fun j x hx => by simp at hx) (fun e g' oa' rows' h1 h2 h3 h4 => ?_)
  obtain ⟨a', h', h5, h6⟩ := h1.freeze' (h3.all _ (fun _ => rfl) (fun _ _ _ _ v => v.stay)) (h3.all _ (fun _ => rfl) (fun _ _ _ _ v => v.free)) (by omega) 2
  simp [go_sem, endX, resultsA, resultA, freezeL, AV.free.freeL, packA, h4, h5, h6.free, freezeV, AV.free]
  exact hK _ ⟨rows', by rw [h2]; exact h6, h2, h3⟩
end
end Go.Ev
set_option linter.unusedSectionVars false
namespace Go.Ev
open Go
theorem memS_len {sg : Int} {st st' : List Int} {m m' : Mem} {tr tr' : Int} (h : memS sg st m tr = some (st', m', tr')) : st'.length ≤ st.length + 1 := by
  unfold memS at h
  repeat' split at h
  all_goals first
    | cases h; simp; done
    | cases h; simp; omega
    | cases h
theorem plainF_len {t : Tok} {st st' : List Int} {r r' : Row} {tr tr' : Int} (h : plainF t st r tr = some (st', r', tr')) : st'.length ≤ st.length + 1 ∧ r'.asks.length ≤ r.asks.length + 1 := by
  have hask : ∀ nm n, (askR r nm n).1.asks.length ≤ r.asks.length + 1 := fun nm n => by
    unfold askR; split <;> simp
  unfold plainF at h
  repeat' split at h
  all_goals first
    | cases h; exact ⟨by first | omega | (simp only [List.length_cons]; omega), by first | exact hask _ _ | omega⟩
    | cases h
theorem endsM_sg : ∀ (r : List Fm) (f : Fm) {fr : List Fm}, endsM f r = some (fr, none) → FrSg (f :: r) → FrSg fr ∧ totS fr ≤ totS (f :: r) ∧ fr.length ≤ (f :: r).length ∧ ∃ f' r', fr = f' :: r' ∧ f'.at' < f'.c.l.length
  | r, f, fr, h, hg => by
    unfold endsM at h
    split at h
    · rename_i hlt
      cases h; exact ⟨hg, Nat.le_refl _, Nat.le_refl _, f, r, rfl, hlt⟩
    · split at h
      · cases h
      · rename_i v st hst
        split at h
        · cases h
        · rename_i g2 r2
          obtain ⟨h1, h2, h3, h4⟩ := endsM_sg r2 { g2 with st := v :: g2.st } h (fun x hx k hk => by
            rcases List.mem_cons.mp hx with rfl | hx
            · exact hg g2 (by simp) k hk
            · exact hg x (by simp [hx]) k hk)
          refine ⟨h1, ?_, ?_, h4⟩
          · simp only [totS, hst, List.length_cons] at h2 ⊢; omega
          · simp only [List.length_cons] at h3 ⊢; omega
theorem stepM_keep {fs : List Fn} {cs : List Code'} {s s' : Mc} (hc : ∀ c ∈ cs, ∀ k ∈ c.l, sigOk k.sign = true) (hg : FrSg s.fr) (h : stepM fs cs s = some s') (hl : s.fr.length ≤ 32) :
    FrSg s'.fr ∧ totS s'.fr ≤ totS s.fr + 1 ∧ s'.r.asks.length ≤ s.r.asks.length + 1 ∧ s'.fr.length ≤ 32 := by
  cases hfr : s.fr with
  | nil => unfold stepM at h; rw [hfr] at h; cases h
  | cons f r =>
    have one : ∀ f' : Fm, f'.c = f.c → f'.st.length ≤ f.st.length + 1 → FrSg (f' :: r) ∧ totS (f' :: r) ≤ totS (f :: r) + 1 ∧ (f' :: r).length ≤ 32 := fun f' h1 h2 => by
      refine ⟨fun x hx k hk => ?_, by simp only [totS]; omega, by rw [hfr] at hl; exact hl⟩
      rw [hfr] at hg
      rcases List.mem_cons.mp hx with rfl | hx
      · rw [h1] at hk; exact hg f (by simp) k hk
      · exact hg x (by simp [hx]) k hk
    have fin : ∀ f' : Fm, s'.fr = f' :: r → f'.c = f.c → f'.st.length ≤ f.st.length + 1 → s'.r.asks.length ≤ s.r.asks.length + 1 → FrSg s'.fr ∧ totS s'.fr ≤ totS (f :: r) + 1 ∧ s'.r.asks.length ≤ s.r.asks.length + 1 ∧ s'.fr.length ≤ 32 := fun f' h3 h1 h2 h4 => by
      rw [h3]; obtain ⟨a, b, c⟩ := one f' h1 h2; exact ⟨a, b, h4, c⟩
    unfold stepM at h
    rw [hfr] at h
    simp only at h
    split at h
    · cases h
    · split at h
      · cases h; exact fin _ rfl rfl (by simp) (by simp)
      · split at h
        · split at h
          · cases h
          · cases h; exact fin _ rfl rfl (by simp) (by simp)
        · split at h
          · split at h
            · cases h
            · rename_i hst
              cases h; exact fin _ rfl rfl (by simp [hst]; omega) (by simp)
          · split at h
            · split at h
              · cases h
              · rename_i c hcc
                split at h
                · cases h
                · split at h
                  · cases h; exact fin _ rfl rfl (by simp; omega) (by simp)
                  · rename_i hd
                    cases h
                    obtain ⟨a1, a2, a3⟩ := one { f with at' := f.at' + 1, st := f.st.drop c.args.toNat } rfl (by simp; omega)
                    refine ⟨fun x hx k hk => ?_, ?_, by simp, ?_⟩
                    · rcases List.mem_cons.mp hx with rfl | hx
                      · exact hc c (List.mem_of_getElem? hcc) k hk
                      · exact a1 x hx k hk
                    · show 0 + totS _ ≤ _
                      omega
                    · simp at hd ⊢; omega
            · split at h
              · split at h
                · split at h
                  · cases h
                  · rename_i hst
                    split at h
                    · cases h; exact fin _ rfl rfl (by simp [hst]; omega) (by simp)
                    · split at h
                      · cases h
                      · split at h
                        · cases h
                        · cases h; exact fin _ rfl rfl (by simp [hst]; omega) (by simp)
                · split at h
                  · cases h
                  · split at h
                    · cases h
                    · cases h; exact fin _ rfl rfl (by simp) (by simp)
              · split at h
                · split at h
                  · cases h
                  · rename_i hm
                    cases h; exact fin _ rfl rfl (memS_len hm) (by simp)
                · split at h
                  · cases h
                  · rename_i hm
                    cases h; exact fin _ rfl rfl (plainF_len hm).1 (plainF_len hm).2
section
variable {bar b : Nat} {g : H} {own : Nat → Nat} {C : Cx}
theorem XO.cell7 {tr val : Int} {ids : List Nat} (v : XO g b own C tr val ids) : ∃ cs, g.get C.X = some (.cells cs 0) ∧ cs[7]? = some (.int .i64 tr) := by
  obtain ⟨⟨fra, h, _⟩, _⟩ := v; exact ⟨_, h, rfl⟩
def RunV (g : H) (b : Nat) (own : Nat → Nat) (C : Cx) (s : Mc) (v : Int) : Prop := (∃ ids, XO g b own C s.trap v ids) ∧ MemO g b own C.M s.m ∧ RowO g b own C.R s.r ∧ b ≤ g.n
theorem run_loop (hb : bar ≤ b) (asked : Int) (rc : Nat) (hcs : ∀ x ∈ C.rows, ∀ k ∈ x.2.2.l, sigOk k.sign = true) (Q : Ex → Env → H → Prop) : ∀ (n : Nat) (g : H) (own : Nat → Nat) (s : Mc) (ids : List Nat) {s' : Mc} {v : Int} {n' : Nat}, XV g b own C s 0 ids → FrSg s.fr → totS s.fr + n < 2999999 → s.r.asks.length + n < 1999999 → s.fr.length ≤ 32 → (n : Int) ≤ 1048576 →
    runM C.fs (C.rows.map (·.2.2)) n s = some (s', v, n') →
    (∀ e g' own', RunV g' b own' C s' v → Kp own tA g g' → Agr g.n own own' → e.get 2 = some (.ptr C.R 0) → e.get 4 = some (.int .i64 n') → e.get 12 = some (.ptr rc 0) → e.get 16 = some (.int .i64 asked) → e.get 17 = some (.ptr C.X 0) → Q (.exit 0) e g') →
    wpL (call tb prim) bar [2, 4, 12, 16, 17] l0_engine_Run [(2, .ptr C.R 0), (4, .int .i64 n), (12, .ptr rc 0), (16, .int .i64 asked), (17, .ptr C.X 0)] g Q := by
  intro n
  induction n with
  | zero =>
    intro g own s ids s' v n' xv hg hT hA hL hn hr hq
    refine M_loop l0_engine_Run.eq_1 ?_
    obtain ⟨cs, c1, c7⟩ := xv.x.cell7
    by_cases ht : s.trap = 0
    · have hd : (s.trap == 0) = true := by simpa using ht
      have xv0 := xv
      cases hfr : s.fr with
      | nil => unfold runM at hr; rw [if_neg (by simpa using ht), hfr] at hr; cases hr
      | cons f r =>
        have hv : FrsV g b own (f :: r) ids := hfr ▸ xv.fr
        cases ids with
        | nil => exact hv.elim
        | cons i l =>
          cases he : endsM f r with
          | none => unfold runM at hr; rw [if_neg (by simpa using ht), hfr] at hr; simp only [he] at hr; cases hr
          | some out =>
            obtain ⟨g1, own1, e1, k1, a1, hE⟩ := ends_ok (bar := bar) hb xv.bn xv.x hv (by rw [hfr] at hT; omega) he
            have m1 := xv.m.mono k1 a1 (by unfold tE; omega)
            have r1 := xv.r.mono k1 a1 (by unfold tE; omega)
            have hbn1 : b ≤ g1.n := by have := k1.1; have := xv.bn; omega
            unfold runM at hr
            rw [if_neg (by simpa using ht), hfr] at hr
            simp only [he] at hr
            match out, hr, e1, hE with
            | (fr, some v2), hr, e1, hE =>
              simp only at hr
              cases hr
              simp only [Option.isNone] at e1
              simp [go_sem, get_alloc, n_alloc, get_set, n_set, get_kill, n_kill, writeAt, a11, a21, a31, a41, a51, a61, a71, isNil, c1, c7, hd, e1]
              refine hq _ g1 own1 ⟨⟨[], ?_⟩, m1, r1, hbn1⟩ (k1.le fun k h => tE_A h) a1 rfl rfl rfl rfl rfl
              exact hE.2
            | (fr, none), hr, e1, hE =>
              simp only at hr
              simp only [Option.isNone] at e1
              obtain ⟨j, ids', x1, f1⟩ := hE
              cases hr
              have x1' := x1
              obtain ⟨⟨fra, q1, q2, q3⟩, qo, qb, ql, qs⟩ := x1'
              have hsp : splice (xC C fra s.trap 0) 7 [.int .i64 1] = xC C fra 1 0 := rfl
              have hle : 7 + 1 ≤ (xC C fra s.trap 0).length := by simp [xC]
              obtain ⟨xc, hxc⟩ : ∃ xc, xc = xC C fra s.trap 0 := ⟨_, rfl⟩
              rw [← hxc] at q1 hsp hle
              have hbx : bar ≤ C.X := Nat.le_trans hb qb
              obtain ⟨g2, hg2⟩ : ∃ g2, g2 = g1.set C.X (.cells (xC C fra 1 0) 0) := ⟨_, rfl⟩
              have k2 : Kp own1 (fun k => k = 1) g1 g2 := ⟨by rw [hg2, n_set]; exact Nat.le_refl _, fun j hj hs => by rw [hg2, get_set_ne (fun q => hs (by rw [q]; exact qo))]⟩
              simp [go_sem, get_alloc, n_alloc, get_set, n_set, get_kill, n_kill, writeAt, a11, a21, a31, a41, a51, a61, a71, isNil, c1, c7, hd, e1, q1, hsp, hle, hbx]
              rw [← hg2]
              refine hq _ g2 own1 ⟨⟨j :: ids', ⟨⟨fra, by rw [hg2, get_set, if_pos rfl], q2.mono k2.1 (fun j hj => by rw [hg2, get_set_ne (fun q => by have := q3 j hj; rw [q, qo] at this; omega)]), q3⟩, qo, qb, by rw [hg2, n_set]; exact ql, qs⟩⟩, m1.mono k2 Agr.refl (by omega), r1.mono k2 Agr.refl (by omega), by have := k2.1; omega⟩ ((k1.le fun k h => tE_A h).trans a1 (k2.le fun k h => by unfold tA; omega)) a1 rfl rfl rfl rfl rfl
    · have hd : (s.trap == 0) = false := by simpa using ht
      unfold runM at hr
      rw [if_pos ht] at hr
      cases hr
      simp [go_sem, get_alloc, n_alloc, get_set, n_set, get_kill, n_kill, writeAt, a11, a21, a31, a41, a51, a61, a71, isNil, c1, c7, hd]
      exact hq _ g own ⟨⟨ids, xv.x⟩, xv.m, xv.r, xv.bn⟩ Kp.refl Agr.refl rfl rfl rfl rfl rfl
  | succ n ih =>
    intro g own s ids s' v n' xv hg hT hA hL hn hr hq
    refine M_loop l0_engine_Run.eq_1 ?_
    obtain ⟨cs, c1, c7⟩ := xv.x.cell7
    by_cases ht : s.trap = 0
    · have hd : (s.trap == 0) = true := by simpa using ht
      have xv0 := xv
      cases hfr : s.fr with
      | nil => unfold runM at hr; rw [if_neg (by simpa using ht), hfr] at hr; cases hr
      | cons f r =>
        have hv : FrsV g b own (f :: r) ids := hfr ▸ xv.fr
        cases ids with
        | nil => exact hv.elim
        | cons i l =>
          cases he : endsM f r with
          | none => unfold runM at hr; rw [if_neg (by simpa using ht), hfr] at hr; simp only [he] at hr; cases hr
          | some out =>
            obtain ⟨g1, own1, e1, k1, a1, hE⟩ := ends_ok (bar := bar) hb xv.bn xv.x hv (by rw [hfr] at hT; omega) he
            have m1 := xv.m.mono k1 a1 (by unfold tE; omega)
            have r1 := xv.r.mono k1 a1 (by unfold tE; omega)
            have hbn1 : b ≤ g1.n := by have := k1.1; have := xv.bn; omega
            unfold runM at hr
            rw [if_neg (by simpa using ht), hfr] at hr
            simp only [he] at hr
            match out, hr, e1, hE with
            | (fr, some v2), hr, e1, hE =>
              simp only at hr
              cases hr
              simp only [Option.isNone] at e1
              simp [go_sem, get_alloc, n_alloc, get_set, n_set, get_kill, n_kill, writeAt, a11, a21, a31, a41, a51, a61, a71, isNil, c1, c7, hd, e1]
              refine hq _ g1 own1 ⟨⟨[], ?_⟩, m1, r1, hbn1⟩ (k1.le fun k h => tE_A h) a1 rfl rfl rfl rfl rfl
              exact hE.2
            | (fr, none), hr, e1, hE =>
              simp only at hr
              simp only [Option.isNone] at e1
              obtain ⟨j, ids', x1, f1⟩ := hE
              obtain ⟨hg1, ht1, hl1, f', r', rfl, hlt⟩ := endsM_sg r f he (by rw [← hfr]; exact hg)
              have cx1 := xv.cx.mono k1 a1 (by unfold tE; omega)
              have xv1 : XV g1 b own1 C { s with fr := f' :: r' } 0 (j :: ids') := ⟨x1, cx1, f1, m1, r1, hbn1⟩
              split at hr
              · cases hr
              · rename_i s2 hs2
                have hT' : totS (f' :: r') + n < 2999998 := by rw [hfr] at hT; omega
                obtain ⟨hg2, ht2, ha2, hl2⟩ := stepM_keep (s := { s with fr := f' :: r' }) (fun c hc k hk => by
                  obtain ⟨x, hx, rfl⟩ := List.mem_map.mp hc
                  exact hcs x hx k hk) hg1 hs2 (by rw [hfr] at hL; simp only [List.length_cons] at hL hl1 ⊢; omega)
                have hil : ids'.length = r'.length := f1.2.len
                obtain ⟨g2, own2, ids2, e2, xv2, k2, a2⟩ := step_ok (bar := bar) xv1 rfl hb hs2 hg1 (by show totS (f' :: r') < _; omega) (by show s.r.asks.length < _; omega) (by rw [hil]; rw [hfr] at hL; simp only [List.length_cons] at hL hl1; omega)
                obtain ⟨sid, all, full, tX, tS, tt, _⟩ := x1.top
                obtain ⟨xc, hxc⟩ : ∃ xc, xc = xC C (.sl sid 0 1 (ids'.length + 1) full) s.trap 0 := ⟨_, rfl⟩
                have h6 : xc[6]? = some (.sl sid 0 1 (ids'.length + 1) full) := by rw [hxc]; rfl
                rw [← hxc] at tX
                have hwi : IntKind.i64.wrap (ids'.length : Int) = (ids'.length : Nat) := w64 (by omega) (by rw [hil]; rw [hfr] at hL; simp only [List.length_cons] at hL hl1; omega)
                have hltI : (ids'.length : Int) < (ids'.length : Int) + 1 := by omega
                have hz : (((n : Int) + 1) == 0) = false := by simp; omega
                have hwn : IntKind.i64.wrap (n : Int) = (n : Nat) := w64 (by omega) (by omega)
                simp [go_sem, get_alloc, n_alloc, get_set, n_set, get_kill, n_kill, writeAt, a11, a21, a31, a41, a51, a61, a71, isNil, c1, c7, hd, e1, hz, hwn, tX, h6, hwi, hltI, indexIn, tS, tt, e2]
                have kk : Kp own tA g g2 := (k1.le fun k h => tE_A h).trans a1 k2
                have aa : Agr g.n own own2 := Agr.trans a1 a2 k1.1
                exact ih g2 own2 s2 ids2 xv2 hg2 (by have : totS s2.fr ≤ totS (f' :: r') + 1 := ht2; omega) (by have : s2.r.asks.length ≤ s.r.asks.length + 1 := ha2; omega) hl2 (by omega) hr (fun e g' own' h1 h2 h3 => hq e g' own' h1 (kk.trans aa h2) (Agr.trans aa h3 kk.1))
    · have hd : (s.trap == 0) = false := by simpa using ht
      unfold runM at hr
      rw [if_pos ht] at hr
      cases hr
      simp [go_sem, get_alloc, n_alloc, get_set, n_set, get_kill, n_kill, writeAt, a11, a21, a31, a41, a51, a61, a71, isNil, c1, c7, hd]
      exact hq _ g own ⟨⟨ids, xv.x⟩, xv.m, xv.r, xv.bn⟩ Kp.refl Agr.refl rfl rfl rfl rfl rfl
end
end Go.Ev
set_option linter.unusedSectionVars false
namespace Go.Ev
open Go
theorem FzV.drop {k : Nat} {a : AV} {n : Nat} {cs : List AV} (v : FzV k a n cs) {i : Nat} (hi : i ≤ n) : ∃ a', sliceA k a (some (.int .i64 (i : Int))) none none = some a' ∧ FzV k a' (n - i) (cs.drop (i * k)) := by
  obtain ⟨h1, h2, ⟨rfl, rfl⟩ | ⟨full, rfl⟩⟩ := v
  · have hi0 : i = 0 := by omega
    subst hi0
    refine ⟨.nilsl, by simp [sliceA, optBound, bound], by simp [h1], by omega, .inl ⟨rfl, rfl⟩⟩
  · have e1 : optBound 0 (some (AV.int .i64 (i : Int))) = some i := by simp [optBound, bound]
    have e2 : ∀ n, optBound n none = some n := fun _ => rfl
    refine ⟨.fz k (n - i) ((cs.drop (i * k)).take ((n - i) * k)) (full && decide (n = n)), ?_, ?_, by omega, ?_⟩
    · simp only [sliceA, e1, e2]
      rw [if_pos ⟨trivial, h1, by omega, Nat.le_refl _⟩]
    · rw [List.length_drop, h1, Nat.sub_mul]
    · exact .inr ⟨_, by rw [List.take_of_length_le (by rw [List.length_drop, h1, Nat.sub_mul]; exact Nat.le_refl _)]⟩
theorem askR_pre (r : Row) (nm n : Int) : ∃ l, (askR r nm n).1.asks = r.asks ++ l := by
  unfold askR; split <;> exact ⟨_, rfl⟩
theorem plainF_pre {t : Tok} {st st' : List Int} {r r' : Row} {tr tr' : Int} (h : plainF t st r tr = some (st', r', tr')) : ∃ l, r'.asks = r.asks ++ l := by
  unfold plainF at h
  repeat' split at h
  all_goals first
    | cases h; exact askR_pre _ _ _
    | cases h; exact ⟨[], by simp⟩
    | cases h
theorem stepM_pre {fs : List Fn} {cs : List Code'} {s s' : Mc} (h : stepM fs cs s = some s') : ∃ l, s'.r.asks = s.r.asks ++ l := by
  unfold stepM at h
  repeat' split at h
  all_goals first
    | cases h; done
    | (rename_i hm; cases h; exact plainF_pre hm)
    | cases h; exact ⟨[], by simp⟩
theorem runM_pre {fs : List Fn} {cs : List Code'} : ∀ (n : Nat) {s s' : Mc} {v : Int} {n' : Nat}, runM fs cs n s = some (s', v, n') → ∃ l, s'.r.asks = s.r.asks ++ l
  | n, s, s', v, n', h => by
    unfold runM at h
    split at h
    · cases h; exact ⟨[], by simp⟩
    · split at h
      · cases h
      · split at h
        · cases h
        · cases h; exact ⟨[], by simp⟩
        · split at h
          · cases h; exact ⟨[], by simp⟩
          · split at h
            · cases h
            · rename_i hs
              obtain ⟨l1, h1⟩ := stepM_pre hs
              obtain ⟨l2, h2⟩ := runM_pre _ h
              exact ⟨l1 ++ l2, by rw [h2, h1]; simp⟩
theorem sp40 (a b c d u v w x : AV) : splice [a, b, c, d] 0 [u, v, w, x] = [u, v, w, x] := Eq.trans rfl rfl
theorem fillA_cons {z : List AV} {off n : Nat} {v : AV} {r : List (Nat × Nat × AV)} (h1 : v.cells.length = n) (h2 : off + n ≤ z.length) (h3 : v.cells.all AV.one = true) : fillA z ((off, n, v) :: r) = fillA (splice z off v.cells) r := by
  rw [fillA, if_pos ⟨h1, h2, h3⟩]
theorem fillA_one {z : List AV} {off : Nat} {v : AV} {r : List (Nat × Nat × AV)} (h : v.one = true) (h2 : off + 1 ≤ z.length) : fillA z ((off, 1, v) :: r) = fillA (splice z off [v]) r := by
  have e := cells_one h
  rw [fillA_cons (by rw [e]; rfl) h2 (by rw [e]; simp [h]), e]
theorem fillX (p mo : Int) {fa ca : AV} (h1 : fa.one = true) (h2 : ca.one = true) (M R : Nat) : fillA [.int .i64 0, .int .i64 0, .nilsl, .nilsl, .nilptr, .nilptr, .nilsl, .int .i64 0, .int .i64 0] [(0, 3, .agg [.int .i64 p, .int .i64 mo, fa]), (3, 1, ca), (4, 1, .ptr M 0), (5, 1, .ptr R 0)] = some [.int .i64 p, .int .i64 mo, fa, ca, .ptr M 0, .ptr R 0, .nilsl, .int .i64 0, .int .i64 0] := by
  rw [fillA_cons (n := 3) (v := .agg [.int .i64 p, .int .i64 mo, fa]) rfl (by simp) (by
    show (true && (true && (fa.one && true))) = true
    rw [h1]; rfl), fillA_one h2 (by simp [splice, AV.cells]), fillA_one rfl (by simp [splice, AV.cells]), fillA_one rfl (by simp [splice, AV.cells])]
  rfl
theorem fill4 (a b c : Int) {d : AV} (h : d.one = true) : fillA [.int .i64 0, .int .i64 0, .int .i64 0, .nilsl] [(0, 1, .int .i64 a), (1, 1, .int .i64 b), (2, 1, .int .i64 c), (3, 1, d)] = some [.int .i64 a, .int .i64 b, .int .i64 c, d] := by
  rw [fillA_one rfl (by simp), fillA_one rfl (by simp [splice]), fillA_one rfl (by simp [splice]), fillA_one h (by simp [splice])]
  rfl
def runRes (v tr n : Int) (aa : AV) : AV := .tup [.agg [.int .i64 v, .int .i64 tr, .int .i64 n, aa], .int .i64 0]
section
variable {bar : Nat} {g : H} {own : Nat → Nat} {fa aa : AV} {fs : List Fn} {p mo : Int} {M R : Nat} {m : Mem} {r : Row}
theorem Run_ok (hv : FV g fa fs) (hfo : At own fa 0) (hm : MemO g bar own M m) (hr : RowO g bar own R r) (hbar : bar ≤ g.n) (hright : rightN p mo fs = 0) (hto : ∀ f ∈ fs, toOk f) (hsig : ∀ f ∈ fs, ∀ k ∈ (gTok f.code).1, sigOk k.sign = true) (harg : ∀ f ∈ fs, 0 ≤ f.args ∧ f.args ≤ 26) (hl32 : fs.length ≤ 32)
    {nm fuel : Int} (hf0 : 0 ≤ fuel) (hf1 : fuel ≤ 1048576) {k : Nat} (hk : findN nm fs 0 = k) {f : Fn} (hf : fs[k]? = some f) {args : List Int} (haa : Vw 1 g aa args.length (args.map (AV.int .i64))) (hargs : f.args = args.length) (hra : r.asks.length ≤ 900000)
    {s' : Mc} {v : Int} {n' : Nat} (hrun : runM fs (fs.map codeW) fuel.toNat ⟨[newF (codeW f) args], m, r, 0⟩ = some (s', v, n')) :
    ∃ xa g' own' ids C, call tb prim n_engine_Run [.agg [.int .i64 p, .int .i64 mo, fa], .ptr M 0, .ptr R 0, .int .i32 nm, .int .i64 fuel, aa] bar g = some (runRes v s'.trap n' xa, g') ∧ FzV 2 xa (s'.r.asks.length - r.asks.length) ((s'.r.asks.drop r.asks.length).flatMap asC) ∧ C.M = M ∧ C.R = R ∧ XO g' bar own' C s'.trap v ids ∧ MemO g' bar own' M s'.m ∧ RowO g' bar own' R s'.r ∧ Kp own tA g g' ∧ Agr g.n own own' := by
  
  obtain ⟨g1, hg1⟩ : ∃ g1, g1 = (g.alloc (.cells [.int .i64 p, .int .i64 mo, fa] 0)).alloc (.cells [.int .i64 0, .int .i64 0, .int .i64 0, .nilsl] 0) := ⟨_, rfl⟩
  have n1 : g1.n = g.n + 2 := by rw [hg1]; simp [n_alloc]
  have k1 : ∀ j, j < g.n → g1.get j = g.get j := fun j hj => by rw [hg1, get_alloc, if_neg (by simp [n_alloc]; omega), get_alloc, if_neg (by omega)]
  have gU : g1.get g.n = some (.cells [.int .i64 p, .int .i64 mo, fa] 0) := by rw [hg1, get_alloc, if_neg (by simp [n_alloc]), get_alloc, if_pos rfl]
  have gC : g1.get (g.n + 1) = some (.cells [.int .i64 0, .int .i64 0, .int .i64 0, .nilsl] 0) := by rw [hg1, get_alloc, if_pos (by simp [n_alloc])]
  have hv1 : FV g1 fa fs := hv.keep (by omega) (fun j hj => k1 j (hv.at_lt' hj))
  have eR := unit_Right_ok (bar := bar) (p := p) (m := mo) hv1
  rw [hright] at eR
  have eF := check_Find_ok (pr := prim) (bar := bar) (h := g1) fs fa nm p mo hv1
  rw [hk] at eF
  have hkl := (List.getElem?_eq_some_iff.mp hf).1
  have hfk : fs[k] = f := (List.getElem?_eq_some_iff.mp hf).2
  obtain ⟨own1, hown1⟩ : ∃ own1, own1 = ext own g.n 9 := ⟨_, rfl⟩
  have kp1 : Kp own (fun _ => False) g g1 := ⟨by omega, fun j hj _ => k1 j hj⟩
  have ag1 : Agr g.n own own1 := by rw [hown1]; exact Agr.ext
  have m1 := hm.mono kp1 ag1 (by simp)
  have r1 := hr.mono kp1 ag1 (by simp)
  have r1' := r1
  obtain ⟨⟨rla, raa, hrv, _, _⟩, _⟩ := r1'
  obtain ⟨xa0, eA, hxa0⟩ := asks_ok (bar := bar) hrv
  have hlenA := hxa0.len
  obtain ⟨ca, rows, eC, hca, hrl, hrows⟩ := engine_codes_ok (bar := bar) (p := p) (m := mo) hv1 hto (by omega)
  
  obtain ⟨C, hC⟩ : ∃ C : Cx, C = ⟨g1.n, p, mo, fa, fs, ca, rows, M, R⟩ := ⟨_, rfl⟩
  have hCM : C.M = M := by rw [hC]
  have hCR : C.R = R := by rw [hC]
  have hCX : C.X = g1.n := by rw [hC]
  have hCfs : C.fs = fs := by rw [hC]
  have hCrows : C.rows = rows := by rw [hC]
  obtain ⟨g2, hg2⟩ : ∃ g2, g2 = g1.alloc (.cells [.int .i64 p, .int .i64 mo, fa, ca, .ptr M 0, .ptr R 0, .nilsl, .int .i64 0, .int .i64 0] 0) := ⟨_, rfl⟩
  have n2 : g2.n = g1.n + 1 := by rw [hg2]; simp [n_alloc]
  obtain ⟨own2, hown2⟩ : ∃ own2, own2 = ext own1 g1.n 1 := ⟨_, rfl⟩
  have kp2 : Kp own1 (fun _ => False) g1 g2 := by rw [hg2]; exact alloc_kp
  have ag2 : Agr g1.n own1 own2 := by rw [hown2]; exact Agr.ext
  have hfo1 : At own1 fa 0 := fun j hj => by rw [ag1 j (hv.at_lt' hj)]; exact hfo j hj
  have cx1 : CxV g1 own1 C := by
    rw [hC]
    refine ⟨hv1, hfo1, hca, fun x hx => ?_⟩
    obtain ⟨j, hj⟩ := List.mem_iff_getElem?.mp hx
    obtain ⟨f2, hf2, e2, hcv⟩ := hrows j x hj
    refine ⟨hcv, ?_⟩
    rw [e2]; exact harg f2 (List.mem_of_getElem? hf2)
  have cx2 : CxV g2 own2 C := cx1.mono kp2 ag2 (by simp)
  have x2 : XO g2 bar own2 C 0 0 [] := ⟨⟨.nilsl, by rw [hCX, hg2, get_alloc, if_pos rfl, hC]; rfl, OW.nil, fun j hj => hj.elim⟩, by rw [hCX, hown2]; simp [ext], by rw [hCX]; omega, by rw [hCX]; omega, by simp⟩
  have m2 := m1.mono kp2 ag2 (by simp)
  have r2 := r1.mono kp2 ag2 (by simp)
  obtain ⟨x, hx⟩ : ∃ x, rows[k]? = some x := ⟨rows[k]'(by omega), List.getElem?_eq_getElem (by omega)⟩
  obtain ⟨f2, hf2, ex2, hcv2⟩ := hrows k x hx
  have : f2 = f := by rw [hf] at hf2; cases hf2; rfl
  subst this
  have haa2 : Vw 1 g2 aa args.length (args.map (AV.int .i64)) := haa.keep (by omega) (fun j hj => by have := haa.at_lt' hj; rw [hg2, get_alloc, if_neg (by omega)]; exact k1 j this)
  obtain ⟨g3, own3, e3, x3, f3, k3, a3⟩ := call_ok' (bar := bar) (args := args) x2 cx2 (Nat.le_refl _) (by omega) (by rw [hCrows]; exact hx) haa2 (by have := (harg f2 (List.mem_of_getElem? hf)).2; omega) (by simp)
  have cx3 := cx2.mono k3 a3 (by omega)
  have m3 := m2.mono k3 a3 (by omega)
  have r3 := r2.mono k3 a3 (by omega)
  have hsmall : totS [newF x.2.2 args] = 0 := rfl
  have xv3 : XV g3 bar own3 C ⟨[newF (codeW f2) args], m, r, 0⟩ 0 [g2.n] := ⟨x3, cx3, ⟨by rw [← ex2]; exact f3, trivial⟩, by rw [hCM]; exact m3, by rw [hCR]; exact r3, by have := k3.1; omega⟩
  have hmap : C.rows.map (·.2.2) = fs.map codeW := by
    rw [hCrows]
    apply List.ext_getElem?
    intro j
    rw [List.getElem?_map, List.getElem?_map]
    cases hj : rows[j]? with
    | none =>
      have : fs[j]? = none := by rw [List.getElem?_eq_none_iff] at hj ⊢; omega
      rw [this]; rfl
    | some y =>
      obtain ⟨f4, h4, h5, _⟩ := hrows j y hj
      rw [h4]; simp [h5]
  obtain ⟨lp, hlp⟩ := runM_pre _ hrun
  simp only at hlp
  have hws : (fuel.toNat : Int) = fuel := Int.toNat_of_nonneg hf0
  
  obtain ⟨y, g9, hcall, xa, own', ids, rfl, q1, q2, q3, q4, q5, q6⟩ := callF_K (o := call tb prim) (F := f_engine_Run) (bar := bar) (h := g) (args := [.agg [.int .i64 p, .int .i64 mo, fa], .ptr M 0, .ptr R 0, .int .i32 nm, .int .i64 fuel, aa])
    (P := fun y g' => ∃ xa own' ids, y = runRes v s'.trap n' xa ∧ FzV 2 xa (s'.r.asks.length - r.asks.length) ((s'.r.asks.drop r.asks.length).flatMap asC) ∧ XO g' bar own' C s'.trap v ids ∧ MemO g' bar own' M s'.m ∧ RowO g' bar own' R s'.r ∧ Kp own tA g g' ∧ Agr g.n own own') rfl rfl (fun K hK => by
    have d0 : decide (fuel < 0) = false := by simpa using hf0
    have d1 : decide (1048576 < fuel) = false := by simpa using hf1
    have dk : decide ((k : Int) < 0) = false := by simp
    have da : ((args.length : Int) != f2.args) = false := by rw [hargs]; simp
    have hla := haa.len
    simp [f_engine_Run, env0, go_sem, get_alloc, n_alloc, get_set, n_set, get_kill, n_kill, writeAt, a11, a21, a31, a41, a51, a61, a71, isNil, isNilK, hv.one, d0, d1]
    rw [← hg1]
    simp [go_sem, get_alloc, n_alloc, get_set, n_set, get_kill, n_kill, writeAt, a11, a21, a31, a41, a51, a61, a71, isNil, gU, eR, eF, dk, hla, goI]
    refine S_fld hv1 hkl fun u w => ?_
    rw [hfk]
    simp [go_sem, get_alloc, n_alloc, get_set, n_set, get_kill, n_kill, writeAt, a11, a21, a31, a41, a51, a61, a71, isNil, gU, da, eA, hlenA, goI, eC]
    have hfX := fillX p mo hv.one hca.one M R
    have hoX : ([.int .i64 p, .int .i64 mo, fa, ca, .ptr M 0, .ptr R 0, .nilsl, .int .i64 0, .int .i64 0] : List AV).all AV.one = true := by
      show (true && (true && (fa.one && (ca.one && (true && (true && (true && (true && (true && true))))))))) = true
      rw [hv.one, hca.one]; rfl
    rw [hCX] at e3
    simp [go_sem, get_alloc, n_alloc, get_set, n_set, get_kill, n_kill, writeAt, a11, a21, a31, a41, a51, a61, a71, isNil, evParts, hfX, AV.cells, hoX]
    rw [← hg2]
    simp [go_sem, get_alloc, n_alloc, get_set, n_set, get_kill, n_kill, writeAt, a11, a21, a31, a41, a51, a61, a71, isNil, e3]
    have hcs : ∀ x ∈ C.rows, ∀ k ∈ x.2.2.l, sigOk k.sign = true := fun y hy k2 hk2 => by
      rw [hCrows] at hy
      obtain ⟨j, hj⟩ := List.mem_iff_getElem?.mp hy
      obtain ⟨f4, h4, h5, _⟩ := hrows j y hj
      rw [h5] at hk2
      exact hsig f4 (List.mem_of_getElem? h4) k2 hk2
    have hl := fun Q hq => run_loop (bar := bar) (b := bar) (C := C) (Nat.le_refl _) r.asks.length (g.n + 1) hcs Q fuel.toNat g3 own3 ⟨[newF (codeW f2) args], m, r, 0⟩ [g2.n] (s' := s') (v := v) (n' := n') xv3 (fun y hy k2 hk2 => by
      rw [List.mem_singleton] at hy; subst hy; exact hsig f2 (List.mem_of_getElem? hf) k2 hk2) (by show 0 + 0 + fuel.toNat < _; omega) (by show r.asks.length + fuel.toNat < _; omega) (by simp) (by omega) (by rw [hCfs, hmap]; exact hrun) hq
    simp only [hCR, hCX, hws] at hl
    refine hl _ (fun e g4 own4 hR k4 a4 ge2 ge4 ge12 ge16 ge17 => ?_)
    obtain ⟨⟨ids, x4⟩, m4, r4, b4⟩ := hR
    rw [hCM] at m4
    rw [hCR] at r4
    have r4' := r4
    obtain ⟨⟨rla4, raa4, hrv4, _, _⟩, _⟩ := r4'
    obtain ⟨xa4, eA4, hxa4⟩ := asks_ok (bar := bar) hrv4
    have hle4 : r.asks.length ≤ s'.r.asks.length := by rw [hlp]; simp
    obtain ⟨xa5, eD, hxa5⟩ := hxa4.drop hle4
    rw [flat_drop (c := asC) (k := 2) (fun _ => rfl)] at hxa5
    have x4' := x4
    obtain ⟨⟨fra, gx4, _, _⟩, _, _, _, _⟩ := x4'
    rw [hCX] at gx4
    obtain ⟨xc, hxc⟩ : ∃ xc, xc = xC C fra s'.trap v := ⟨_, rfl⟩
    have hx7 : xc[7]? = some (.int .i64 s'.trap) := by rw [hxc]; rfl
    have hx8 : xc[8]? = some (.int .i64 v) := by rw [hxc]; rfl
    rw [← hxc] at gx4
    have oC1 : own1 (g.n + 1) = 9 := by rw [hown1]; simp only [ext]; rw [if_neg (by omega)]
    have oC2 : own2 (g.n + 1) = 9 := by rw [ag2 _ (by omega)]; exact oC1
    have oC3 : own3 (g.n + 1) = 9 := by rw [a3 _ (by omega)]; exact oC2
    have oC4 : own4 (g.n + 1) = 9 := by rw [a4 _ (by have := k3.1; omega)]; exact oC3
    have gC2 : g2.get (g.n + 1) = some (.cells [.int .i64 0, .int .i64 0, .int .i64 0, .nilsl] 0) := by rw [kp2.2 _ (by omega) (by simp)]; exact gC
    have gC3 : g3.get (g.n + 1) = some (.cells [.int .i64 0, .int .i64 0, .int .i64 0, .nilsl] 0) := by rw [k3.2 _ (by omega) (by rw [oC2]; omega)]; exact gC2
    have gC4 : g4.get (g.n + 1) = some (.cells [.int .i64 0, .int .i64 0, .int .i64 0, .nilsl] 0) := by rw [k4.2 _ (by have := k3.1; omega) (by rw [oC3]; unfold tA; omega)]; exact gC3
    have hf4 := fill4 v s'.trap n' hxa5.one
    have hall : ([.int .i64 v, .int .i64 s'.trap, .int .i64 n', xa5] : List AV).all AV.one = true := by
      show (true && (true && (true && (xa5.one && true)))) = true
      rw [hxa5.one]; rfl
    have hsta : ([.int .i64 v, .int .i64 s'.trap, .int .i64 n', xa5] : List AV).all AV.stay = true := by
      show (true && (true && (true && (xa5.stay && true)))) = true
      rw [hxa5.stay]; rfl
    have hfre : ([.int .i64 v, .int .i64 s'.trap, .int .i64 n', xa5] : List AV).all AV.free = true := by
      show (true && (true && (true && (xa5.free && true)))) = true
      rw [hxa5.free]; rfl
    have hbC : bar ≤ g.n + 1 := by omega
    obtain ⟨g5, hg5⟩ : ∃ g5, g5 = g4.set (g.n + 1) (.cells [.int .i64 v, .int .i64 s'.trap, .int .i64 n', xa5] 0) := ⟨_, rfl⟩
    have k5 : Kp own4 (fun k => k = 9) g4 g5 := ⟨by rw [hg5, n_set]; exact Nat.le_refl _, fun j hj hs => by rw [hg5, get_set_ne (fun q => hs (by rw [q]; exact oC4))]⟩
    have hfz := fun d h => freezeL_stay (bar := bar) (d := d) (h := h) hsta
    have gC5 : g5.get (g.n + 1) = some (.cells [.int .i64 v, .int .i64 s'.trap, .int .i64 n', xa5] 0) := by rw [hg5, get_set, if_pos rfl]
    have hw0 : (([.int .i64 0, .int .i64 0, .int .i64 0, .nilsl] : List AV)).length = 4 := rfl
    simp [go_sem, get_alloc, n_alloc, get_set, n_set, get_kill, n_kill, writeAt, a11, a21, a31, a41, a51, a61, a71, isNil, ge2, ge4, ge12, ge16, ge17, gx4, hx7, hx8, eA4, optEv, eD, evParts, hf4, gC4, hbC, AV.cells, hall, sp40]
    rw [← hg5]
    simp [go_sem, endP, endI, resultsA, resultA, freezeL, freezeV, AV.free.freeL, AV.free, packA, dropS, gC5, freezeV, freezeL, hfz]
    have kk4 : Kp own tA g g4 := (kp1.le fun k h => h.elim).trans ag1 ((kp2.le fun k h => h.elim).trans ag2 ((k3.le fun k h => by unfold tA; have h' : k = 1 ∨ k = 2 := h; omega).trans a3 k4))
    have kk : Kp own tA g g5 := ⟨by rw [hg5, n_set]; exact kk4.1, fun j hj hs => by rw [hg5, get_set_ne (by omega)]; exact kk4.2 j hj hs⟩
    have aa5 : Agr g.n own own4 := Agr.trans ag1 (Agr.trans ag2 (Agr.trans a3 a4 k3.1) (by omega)) (by omega)
    exact ⟨_, _, ⟨rfl, rfl⟩, hK _ _ ⟨xa5, own4, ids, rfl, hxa5, x4.mono k5 Agr.refl (by omega), m4.mono k5 Agr.refl (by omega), r4.mono k5 Agr.refl (by omega), kk, aa5⟩⟩)
  exact ⟨xa, _, own', ids, C, call_of tb_engine_Run hcall, q1, hCM, hCR, q2, q3, q4, q5, q6⟩
end
end Go.Ev
set_option linter.unusedSectionVars false
namespace Go.Ev
open Go
theorem S_vcell {o : Oracle} {bar : Nat} {g : H} {v : AV} {n : Nat} {cs : List AV} (hv : Vw 1 g v n cs) {i : Nat} (hi : i < n) {y : AV} (hy : cs[i]? = some y) {cc d : Nat} {r : List IOper} {ks : List Fr} {e : Env} {Q : Ex → Env → H → Prop}
    (hw : ∀ u, wpX o bar r ks ((d, y) :: (cc, u) :: e) g Q) : wpS o bar (iadrR 1 (some v) (some (.int .i64 (i : Nat))) g) (some cc) (⟨some d, .ld false 1 (.t cc), none⟩ :: r) ks e Q := by
  have hbi : (i : Int) < (n : Int) := by omega
  obtain ⟨hl, _, ⟨rfl, h2⟩ | ⟨full, rfl⟩ | ⟨id, off, full, all, q, rfl, hid, hg, hle2, hc⟩⟩ := hv
  · omega
  · have hl2 : (cs.length = n) = True := by simpa using hl
    simp [go_sem, indexIn, hi, hbi, hl2, hy]
    exact hw _
  · have hrow2 : all[off + i]? = some y := by
      rw [← hy, ← hc, List.getElem?_take, if_pos (by omega), List.getElem?_drop]
    simp [go_sem, indexIn, hi, hbi, hg, hrow2]
    exact hw _
theorem S_vrowA {A : Type} {c : A → List AV} {k : Nat} (hk : ∀ x, (c x).length = k) {o : Oracle} {bar : Nat} {g : H} {v : AV} {l : List A} (hv : Vw k g v l.length (l.flatMap c)) {i : Nat} (hi : i < l.length) {cc d : Nat} {r : List IOper} {ks : List Fr} {e : Env} {Q : Ex → Env → H → Prop}
    (hw : ∀ u, wpX o bar r ks ((d, .agg (c l[i])) :: (cc, u) :: e) g Q) : wpS o bar (iadrR k (some v) (some (.int .i64 (i : Nat))) g) (some cc) (⟨some d, .ld true k (.t cc), none⟩ :: r) ks e Q := by
  have hbi : (i : Int) < (l.length : Int) := by omega
  have hrow := flat_row hk l i _ (List.getElem?_eq_getElem hi)
  have hle : i * k + k ≤ l.length * k := by have := Nat.mul_le_mul_right k hi; rw [Nat.succ_mul] at this; exact this
  obtain ⟨hl, _, ⟨rfl, h2⟩ | ⟨full, rfl⟩ | ⟨id, off, full, all, q, rfl, hid, hg, hle2, hc⟩⟩ := hv
  · omega
  · generalize l.flatMap c = cs at *
    have hl' : i * k + k ≤ cs.length := by omega
    have hl2 : (cs.length = l.length * k) = True := by simpa using hl
    simp [go_sem, indexIn, hi, hbi, hl2, hl', hrow]
    exact hw _
  · have hrow2 : (all.drop (off + i * k)).take k = c l[i] := by
      rw [← hrow, ← hc, List.drop_take, List.drop_drop, List.take_take, Nat.min_eq_left (by omega)]
    have hl2 : off + i * k + k ≤ all.length := by omega
    simp [go_sem, indexIn, hi, hbi, hg, hl2, hrow2]
    exact hw _
theorem Vw.first {k : Nat} {h : H} {a : AV} {n : Nat} {cs : List AV} (v : Vw k h a n cs) {m : Nat} (hm : m ≤ n) : ∃ a', sliceA k a none (some (.int .i64 (m : Nat))) none = some a' ∧ Vw k h a' m (cs.take (m * k)) ∧ (∀ j, a'.isAt j → a.isAt j) := by
  have e1 : ∀ x, optBound x (some (AV.int .i64 (m : Nat))) = some m := fun x => by simp [optBound, bound]
  have e2 : ∀ n, optBound n none = some n := fun _ => rfl
  have hmk : m * k ≤ n * k := Nat.mul_le_mul_right k hm
  obtain ⟨hl, hn, ⟨rfl, e⟩ | ⟨full, rfl⟩ | ⟨id, off, full, all, q, rfl, hid, hgi, hle, hc⟩⟩ := v
  · have hm0 : m = 0 := by omega
    subst hm0
    exact ⟨.nilsl, by simp [sliceA, optBound, bound], ⟨by simp, by omega, .inl ⟨rfl, rfl⟩⟩, fun j hj => hj⟩
  · refine ⟨.fz k (m - 0) ((cs.drop (0 * k)).take ((m - 0) * k)) (full && decide (m = n)), ?_, ?_, fun j hj => hj⟩
    · simp only [sliceA, e1, e2]
      rw [if_pos ⟨trivial, hl, by omega, hm⟩]
    · simp only [Nat.zero_mul, List.drop_zero, Nat.sub_zero]
      exact ⟨by rw [List.length_take, hl]; omega, by omega, .inr (.inl ⟨_, rfl⟩)⟩
  · refine ⟨.sl id (off + 0 * k) k (m - 0) (full && decide (m = n)), ?_, ?_, fun j hj => hj⟩
    · simp only [sliceA, e1, e2]
      rw [if_pos ⟨trivial, by omega, hm⟩]
    · simp only [Nat.zero_mul, Nat.add_zero, Nat.sub_zero]
      refine ⟨by rw [List.length_take, hl]; omega, by omega, .inr (.inr ⟨id, off, _, all, q, rfl, hid, hgi, by omega, ?_⟩)⟩
      rw [← hc, List.take_take, Nat.min_eq_left hmk]
def OfOk (a : AV) (x : Int × Bool) : Prop := ∀ bar h, call tb prim n_reply_Of [a] bar h = some (.tup [.int .i64 x.1, .bool x.2], h)
theorem of_int64 (n : Int) : OfOk (.ifc t_int64 (.int .i64 n)) (n, true) := fun bar h => by
  refine call_of tb_reply_Of (callF_pureW rfl rfl (M_in ?_))
  simp [f_reply_Of, env0, go_sem, endP, endI, resultsA, resultA, freezeL, freezeV, AV.free.freeL, AV.free, packA, dropS, t_int, t_int64]
section
variable {bar b R : Nat} {g : H}
theorem new_loop {va : AV} {vs : List AV} {xs : List (Int × Bool)} {n : Nat} (hlen : xs.length = n) (hn64 : n ≤ 64) (hof : ∀ (i : Nat) (v : AV) x, vs[i]? = some v → xs[i]? = some x → OfOk v x) (R : Nat) (hbR : bar ≤ R) (Q : Ex → Env → H → Prop) : ∀ (k i : Nat) (g : H) (la : AV), n = i + k → Vw 1 g va n vs → bar ≤ g.n → R < g.n → g.get R = some (.cells [la, .nilsl] 0) → OW 2 g (R + 1) la i ((xs.take i).flatMap anC) → (∀ j, va.isAt j → j < R) →
    (∀ e g' la', g'.get R = some (.cells [la', .nilsl] 0) → OW 2 g' (R + 1) la' n (xs.flatMap anC) → R < g'.n → (∀ j, j < R → g'.get j = g.get j) → e.get 3 = some (.ptr R 0) → Q (.exit 0) e g') →
    wpL (call tb prim) bar [3, 14, 15, 16] l0_reply_New [(3, .ptr R 0), (14, va), (15, goI n), (16, goI i)] g Q
  | 0, i, g, la, hk, hv, hb, hR, hg, ho, hva, hq => by
    refine M_loop l0_reply_New.eq_1 ?_
    have hi : i = n := by omega
    subst hi
    rw [List.take_of_length_le (by omega)] at ho
    simp [go_sem, goI]
    exact hq _ _ _ hg ho hR (fun _ _ => rfl) rfl
  | k + 1, i, g, la, hk, hv, hb, hR, hg, ho, hva, hq => by
    refine M_loop l0_reply_New.eq_1 ?_
    have hlt : (i : Int) < (n : Int) := by omega
    have hw := w64_succ (n := i) (by omega)
    have hvl : vs.length = n := by have := hv.1; omega
    have hy : vs[i]? = some vs[i] := List.getElem?_eq_getElem (by omega)
    have hx : xs[i]? = some xs[i] := List.getElem?_eq_getElem (by omega)
    have eO := hof i _ _ hy hx bar g
    obtain ⟨v, hv0⟩ : ∃ v, v = vs[i] := ⟨_, rfl⟩
    obtain ⟨x, hx0⟩ : ∃ x, x = xs[i] := ⟨_, rfl⟩
    rw [← hv0] at eO hy
    rw [← hx0] at eO hx
    obtain ⟨h', e2, o2, n1, f1⟩ := (ho.bar_le (b := bar) (by omega)).app (bar := bar) hb 16 (anC x) rfl rfl (by omega) (by omega) (by omega)
    have hlR : ¬ la.isAt R := fun q => by have := (ho.at_lt q).1; omega
    have hgR : h'.get R = some (.cells [la, .nilsl] 0) := by rw [f1 R hR hlR]; exact hg
    obtain ⟨h2, hh2⟩ : ∃ h2, h2 = h'.set R (.cells [.sl (g.n + 1) 0 2 (i + 1) false, .nilsl] 0) := ⟨_, rfl⟩
    have n2 : h2.n = g.n + 2 := by rw [hh2, n_set]; exact n1
    have k2 : ∀ j, j < g.n → j ≠ R → ¬ la.isAt j → h2.get j = g.get j := fun j h1 h3 h4 => by rw [hh2, get_set_ne h3]; exact f1 j h1 h4
    have o3 : OW 2 h2 (R + 1) (.sl (g.n + 1) 0 2 (i + 1) false) (i + 1) ((xs.take (i + 1)).flatMap anC) := by
      have o4 : OW 2 h' (R + 1) (.sl (g.n + 1) 0 2 (i + 1) false) (i + 1) ((xs.take (i + 1)).flatMap anC) := by
        rw [List.take_succ, hx]
        simpa using o2.up (b := R + 1) fun j hj => by cases hj; omega
      exact o4.mono (by omega) fun j hj => by cases hj; rw [hh2, get_set_ne (by omega)]
    have hv2 : Vw 1 h2 va n vs := hv.keep (by omega) fun j hj => k2 j (hv.at_lt' hj) (by have := hva j hj; omega) (fun q => by have := (ho.at_lt q).1; have := hva j hj; omega)
    have hN := new_loop hlen hn64 hof R hbR Q k (i + 1) h2 _ (by omega) hv2 (by omega) (by omega) (by rw [hh2, get_set, if_pos rfl]) o3 hva
      (fun e g' la' h1 h3 h4 h5 h6 => hq e g' la' h1 h3 h4 (fun j hj => by rw [h5 j hj]; exact k2 j (by omega) (by omega) (fun q => by have := (ho.at_lt q).1; omega)) h6)
    have f2 : fillA [.int .i64 0, .bool false] [(0, 1, .int .i64 x.1), (1, 1, .bool x.2)] = some [.int .i64 x.1, .bool x.2] := by
      rw [fillA_one rfl (by simp), fillA_one rfl (by simp [splice])]; rfl
    have f3 : fillA [.int .i64 0, .bool false] [(0, 2, .agg [.int .i64 x.1, .bool x.2])] = some [.int .i64 x.1, .bool x.2] := by
      rw [fillA_cons (n := 2) (v := .agg [.int .i64 x.1, .bool x.2]) rfl (by simp) rfl]; rfl
    have hRn : ¬ R = g.n := by omega
    unfold anC at e2
    simp [go_sem, goI, hlt]
    refine S_vcell hv (by omega) hy fun u => ?_
    simp [go_sem, get_alloc, n_alloc, get_set, n_set, get_kill, n_kill, writeAt, a11, a21, a31, a41, a51, a61, a71, isNil, eO, hg, evParts, f2, f3, AV.cells, hRn, e2, hgR, hbR, hw, spR0]
    rw [← hh2]
    exact hN
theorem row_new {va : AV} {vs : List AV} {n : Nat} (hv : Vw 1 g va n vs) (hb : bar ≤ g.n) (xs : List (Int × Bool)) (hlen : xs.length = n) (hof : ∀ (i : Nat) (v : AV) x, vs[i]? = some v → xs[i]? = some x → OfOk v x) :
    ∃ g' la, call tb prim n_reply_New [va] bar g = some (.ptr g.n 0, g') ∧ RowV g' g.n g.n ⟨xs.take 64, []⟩ la .nilsl ∧ (∀ j, la.isAt j → g.n < j) ∧ g.n < g'.n ∧ ∀ j, j < g.n → g'.get j = g.get j := by
  have hvl := hv.1
  have hn := hv.2.1
  obtain ⟨m, hm⟩ : ∃ m, m = min n 64 := ⟨_, rfl⟩
  obtain ⟨g1, hg1⟩ : ∃ g1, g1 = g.alloc (.cells [.nilsl, .nilsl] 0) := ⟨_, rfl⟩
  have n1 : g1.n = g.n + 1 := by rw [hg1, n_alloc]
  have gR : g1.get g.n = some (.cells [.nilsl, .nilsl] 0) := by rw [hg1, get_alloc, if_pos rfl]
  have k1 : ∀ j, j < g.n → g1.get j = g.get j := fun j hj => by rw [hg1, get_alloc, if_neg (by omega)]
  have hv1 : Vw 1 g1 va n vs := hv.keep (by omega) fun j hj => k1 j (hv.at_lt' hj)
  obtain ⟨a', es, hv2, hat⟩ := hv1.first (m := m) (by omega)
  have hx64 : xs.take 64 = xs.take m := by
    rw [hm]
    by_cases c : n ≤ 64
    · rw [Nat.min_eq_left c, List.take_of_length_le (by omega), List.take_of_length_le (by omega)]
    · rw [Nat.min_eq_right (by omega)]
  obtain ⟨x, g2, hcall, hP⟩ := callF_K (o := call tb prim) (F := f_reply_New) (bar := bar) (h := g) (args := [va]) (P := fun x g2 => x = .ptr g.n 0 ∧ ∃ la, g2.get g.n = some (.cells [la, .nilsl] 0) ∧ OW 2 g2 (g.n + 1) la m ((xs.take 64).flatMap anC) ∧ g.n < g2.n ∧ ∀ j, j < g.n → g2.get j = g1.get j) rfl rfl (fun K hK => by
    have hlen2 := hv2.len
    have hlen1 := hv1.len
    have hmm : (if (64 : Int) < (n : Int) then (64 : Int) else (n : Int)) = (m : Int) := by split <;> omega
    simp [f_reply_New, env0, go_sem, get_alloc, n_alloc, get_set, n_set, get_kill, n_kill, writeAt, a11, a21, a31, a41, a51, a61, a71, evParts, fillA, optEv]
    rw [← hg1]
    simp [go_sem, get_alloc, n_alloc, get_set, n_set, get_kill, n_kill, writeAt, a11, a21, a31, a41, a51, a61, a71, hlen1, goI, hmm, optEv, es, hlen2]
    refine new_loop (va := a') (vs := vs.take (m * 1)) (xs := xs.take m) (n := m) (by rw [List.length_take]; omega) (by omega) (fun i v x h1 h2 => ?_) g.n hb _ m 0 g1 .nilsl (by omega) hv2 (by omega) (by omega) gR (by simpa using OW.nil) (fun j hj => hv.at_lt' (hat j hj)) (fun e g' la' q1 q2 q3 q4 q5 => ?_)
    · rw [List.getElem?_take] at h1 h2
      split at h1
      · split at h2
        · exact hof i v x h1 h2
        · cases h2
      · cases h1
    · simp [go_sem, q5]
      simp [go_sem, endP, endI, resultsA, resultA, freezeL, freezeV, AV.free.freeL, AV.free, packA, dropS]
      refine ⟨_, _, ⟨rfl, rfl⟩, hK _ _ ⟨rfl, la', q1, ?_, q3, q4⟩⟩
      rw [show xs.take 64 = xs.take m from hx64]
      exact q2)
  obtain ⟨rfl, la, p1, p2, p3, p4⟩ := hP
  have hl2 : (xs.take 64).length = m := by rw [List.length_take]; omega
  exact ⟨g2, la, call_of tb_reply_New hcall, ⟨p1, Nat.le_refl _, p3, by rw [hl2]; exact p2.vw (by omega), OW.nil, fun q => by have := (p2.at_lt q).1; omega, fun q => q, fun j _ q => q, by simp⟩, fun j hj => (p2.at_lt hj).1, p3, fun j hj => by rw [p4 j hj, k1 j hj]⟩
end
end Go.Ev
set_option linter.unusedSectionVars false
namespace Go.Ev
open Go
structure TextOk (code : ByteArray) (c : Code') : Prop where
  tok : gTok code = (c.l, 0)
  nest : nestP c.l = some c.to
  args : c.args = 2
  right : rightN 1 8 [⟨102, 2, code⟩] = 0
  to : c.to.all (fun x => decide (x ≤ 2000)) = true
  sig : c.l.all (fun k => sigOk k.sign) = true
theorem TextOk.code {code : ByteArray} {c : Code'} (h : TextOk code c) : codeW ⟨102, 2, code⟩ = c := by
  unfold codeW
  simp only [h.tok, h.nest, Option.getD_some]
  rw [← h.args]
theorem fillO (s : ByteArray) : fillA [.int .i32 0, .int .i64 0, .str ⟨#[]⟩] [(0, 1, .int .i32 102), (1, 1, .int .i64 2), (2, 1, .str s)] = some [.int .i32 102, .int .i64 2, .str s] := by
  rw [fillA_one rfl (by simp), fillA_one rfl (by simp [splice]), fillA_one rfl (by simp [splice])]; rfl
theorem fillO3 (s : ByteArray) : fillA [.int .i32 0, .int .i64 0, .str ⟨#[]⟩] [(0, 3, .agg [.int .i32 102, .int .i64 2, .str s])] = some [.int .i32 102, .int .i64 2, .str s] := by
  rw [fillA_cons (n := 3) (v := .agg [.int .i32 102, .int .i64 2, .str s]) rfl (by simp) rfl]; rfl
theorem fillU (p m : Int) {a : AV} (h : a.one = true) : fillA [.int .i64 0, .int .i64 0, .nilsl] [(0, 1, .int .i64 p), (1, 1, .int .i64 m), (2, 1, a)] = some [.int .i64 p, .int .i64 m, a] := by
  rw [fillA_one rfl (by simp), fillA_one rfl (by simp [splice]), fillA_one h (by simp [splice])]; rfl
theorem fill2i (a b : Int) : fillA [.int .i64 0, .int .i64 0] [(0, 1, .int .i64 a), (1, 1, .int .i64 b)] = some [.int .i64 a, .int .i64 b] := by
  rw [fillA_one rfl (by simp), fillA_one rfl (by simp [splice])]; rfl
section
variable {bar : Nat} {g : H}
theorem top_one_ok (s : ByteArray) : ∃ fa, call tb prim n_engramtop_one [.str s] bar g = some (.agg [.int .i64 1, .int .i64 8, fa], g) ∧ FzV 3 fa 1 [.int .i32 102, .int .i64 2, .str s] := by
  suffices hw : ∃ r, callF (call tb prim) f_engramtop_one [.str s] bar g = some (r, g) ∧ ∃ fa, r = .agg [.int .i64 1, .int .i64 8, fa] ∧ FzV 3 fa 1 [.int .i32 102, .int .i64 2, .str s] by
    obtain ⟨r, h1, fa, rfl, h2⟩ := hw; exact ⟨fa, call_of tb_engramtop_one h1, h2⟩
  refine callF_pureK rfl rfl fun K hK => ?_
  have hU := fun a (h : AV.one a = true) => fillU 1 8 h
  simp [f_engramtop_one, env0, go_sem, get_alloc, n_alloc, get_set, n_set, get_kill, n_kill, writeAt, a11, a21, a31, a41, a51, a61, a71, isNil, evParts, fillO, fillO3, AV.cells, hU, spT3]
  simp [go_sem, get_alloc, n_alloc, get_set, n_set, get_kill, n_kill, writeAt, a11, a21, a31, a41, a51, a61, a71, endX, resultsA, resultA, freezeL, AV.free.freeL, packA, freezeV, freezeL, AV.free, AV.free.freeL]
  exact hK _ ⟨.fz 3 1 [.int .i32 102, .int .i64 2, .str s] true, rfl, ⟨rfl, by omega, .inr ⟨true, rfl⟩⟩⟩
open Classical in
noncomputable def ownR (M R : Nat) (ba da la aa : AV) : Nat → Nat := fun j => if j = M then 3 else if j = R then 6 else if ba.isAt j then 4 else if da.isAt j then 5 else if la.isAt j then 7 else if aa.isAt j then 8 else 9
theorem top_ends_ok {code : ByteArray} {c : Code'} {a b : Int} (ht : TextOk code c) {s' : Mc} {v : Int} {n' : Nat} (hr : runM [⟨102, 2, code⟩] [c] 100000 (M1 c (zeroM 1 8) ⟨[], []⟩ 0 (lc a b 0 0 0 0 0 0) []) = some (s', v, n')) :
    call tb prim n_engramtop_ends [.str code, .int .i64 a, .int .i64 b] bar g = some (.tup [.int .i64 v, .int .i64 s'.trap, .bool true], g) := by
  refine call_of tb_engramtop_ends (callF_pureW rfl rfl (M_in ?_))
  obtain ⟨fa, e1, hfa⟩ := top_one_ok (bar := g.n) (g := g) code
  obtain ⟨g2, M, ba, da, e2, hM, n2, k2⟩ := new_ok (bar := g.n) (g := g) 1 8 (by omega) (by omega) (Nat.le_refl _)
  obtain ⟨g3, e3, hR, n3, k3⟩ := row_new_nil (bar := g.n) (g := g2) n2
  obtain ⟨g4, hg4⟩ : ∃ g4, g4 = g3.alloc (.cells [.int .i64 a, .int .i64 b] 0) := ⟨_, rfl⟩
  have n4 : g4.n = g3.n + 1 := by rw [hg4, n_alloc]
  have k4 : ∀ j, j < g3.n → g4.get j = g3.get j := fun j hj => by rw [hg4, get_alloc, if_neg (by omega)]
  have hMl := hM.lt
  have hM4 : MemV g4 g.n M (zeroM 1 8) ba da := hM.mono (by omega) (by rw [k4 _ (by omega), k3 _ hMl]) (fun j hj => by have := (hM.ob.at_lt hj).2; rw [k4 _ (by omega), k3 _ this]) (fun j hj => by have := (hM.od.at_lt hj).2; rw [k4 _ (by omega), k3 _ this])
  have hMO : MemO g4 g.n (ownR M g2.n ba da .nilsl .nilsl) M (zeroM 1 8) := by
    refine ⟨⟨ba, da, hM4, fun j hj => ?_, fun j hj => ?_⟩, by simp [ownR]⟩
    · have h1 : j ≠ M := fun q => hM.nb (q ▸ hj)
      have h2 : j ≠ g2.n := by have := (hM.ob.at_lt hj).2; omega
      simp [ownR, h1, h2, hj]
    · have h1 : j ≠ M := fun q => hM.nd (q ▸ hj)
      have h2 : j ≠ g2.n := by have := (hM.od.at_lt hj).2; omega
      have h3 : ¬ ba.isAt j := fun q => hM.ap j q hj
      simp [ownR, h1, h2, h3, hj]
  have hRO : RowO g4 g.n (ownR M g2.n ba da .nilsl .nilsl) g2.n ⟨[], []⟩ := by
    refine ⟨⟨.nilsl, .nilsl, ⟨by rw [k4 _ (by omega)]; exact hR.get, n2, by omega, ⟨rfl, by simp, .inl ⟨rfl, rfl⟩⟩, OW.nil, fun q => q, fun q => q, fun j q => q.elim, by simp⟩, fun j hj => hj.elim, fun j hj => hj.elim⟩, ?_⟩
    have h1 : g2.n ≠ M := by omega
    simp [ownR, h1]
  have hFV : FV g4 fa [⟨102, 2, code⟩] := hfa.vw g4
  have hnot : ∀ j, ¬ fa.isAt j := fun j hj => by
    obtain ⟨_, _, ⟨rfl, _⟩ | ⟨full, rfl⟩⟩ := hfa <;> exact hj
  have hsz : g3.get g3.n = g3.get g3.n := rfl
  have hva : Vw 1 g4 (.sl g3.n 0 1 2 true) [a, b].length ([a, b].map (AV.int .i64)) := ⟨rfl, by simp, .inr (.inr ⟨g3.n, 0, true, [.int .i64 a, .int .i64 b], 0, rfl, by omega, by rw [hg4, get_alloc, if_pos rfl], by simp, rfl⟩)⟩
  obtain ⟨xa, g5, own', ids, C, e5, hxa, _, _, _, _, _, k5, _⟩ := Run_ok (bar := g.n) (p := 1) (mo := 8) (nm := 102) (fuel := 100000) (k := 0) (f := ⟨102, 2, code⟩) (args := [a, b]) hFV (fun j hj => (hnot j hj).elim) hMO hRO (by omega) ht.right (fun f hf => by
      rw [List.mem_singleton] at hf; subst hf
      refine ⟨c.to, by rw [ht.tok]; exact ht.nest, fun x hx => ?_⟩
      have := ht.to
      rw [List.all_eq_true] at this
      simpa using this x hx) (fun f hf k hk => by
      rw [List.mem_singleton] at hf; subst hf
      rw [ht.tok] at hk
      have := ht.sig
      rw [List.all_eq_true] at this
      simpa using this k hk) (fun f hf => by rw [List.mem_singleton] at hf; subst hf; exact ⟨by show (0 : Int) ≤ 2; omega, by show (2 : Int) ≤ 26; omega⟩) (by simp) (by omega) (by omega) rfl rfl hva rfl (by simp) (by
      rw [List.map_singleton, ht.code]; exact hr)
  rw [show ((1 : Nat) : Int) = 1 from rfl] at e2
  unfold runRes at e5
  have hall : ([.int .i64 v, .int .i64 s'.trap, .int .i64 n', xa] : List AV).all AV.one = true := by
    show (true && (true && (true && (xa.one && true)))) = true
    rw [hxa.one]; rfl
  simp [f_engramtop_ends, env0, go_sem, get_alloc, n_alloc, get_set, n_set, get_kill, n_kill, writeAt, a11, a21, a31, a41, a51, a61, a71, isNil, e1, e2, e3, evParts, fill2i]
  rw [← hg4]
  simp [go_sem, get_alloc, n_alloc, get_set, n_set, get_kill, n_kill, writeAt, a11, a21, a31, a41, a51, a61, a71, isNil, e5, AV.cells, hall, sp40]
  have hn5 : g.n ≤ g5.n := by have := k5.1; omega
  simp [go_sem, get_alloc, n_alloc, get_set, n_set, get_kill, n_kill, writeAt, a11, a21, a31, a41, a51, a61, a71, isNil, hn5]
  simp [go_sem, endP, endI, resultsA, resultA, freezeL, freezeV, AV.free.freeL, AV.free, packA, dropS]
theorem top_says_ok {code : ByteArray} {c : Code'} {a b : Int} (ht : TextOk code c) {s' : Mc} {v : Int} {n' : Nat} (hr : runM [⟨102, 2, code⟩] [c] 100000 (M1 c (zeroM 1 8) ⟨[], []⟩ 0 (lc a b 0 0 0 0 0 0) []) = some (s', v, n')) (h0 : s'.trap = 0) :
    call tb prim n_engramtop_says [.str code, .int .i64 a, .int .i64 b] bar g = some (.tup [.int .i64 v, .bool true], g) := by
  refine call_of tb_engramtop_says (callF_pureW rfl rfl (M_in ?_))
  have e := top_ends_ok (bar := g.n) (g := g) ht hr
  rw [h0] at e
  simp [f_engramtop_says, env0, go_sem, get_alloc, n_alloc, get_set, n_set, get_kill, n_kill, writeAt, a11, a21, a31, a41, a51, a61, a71, isNil, e]
  simp [go_sem, endP, endI, resultsA, resultA, freezeL, freezeV, AV.free.freeL, AV.free, packA, dropS]
theorem says_ends {code : ByteArray} {c : Code'} {a b v : Int} (ht : TextOk code c) {m : Mem} {r : Row} (h : Ends [⟨102, 2, code⟩] [c] 100000 (M1 c (zeroM 1 8) ⟨[], []⟩ 0 (lc a b 0 0 0 0 0 0) []) v m r) :
    call tb prim n_engramtop_says [.str code, .int .i64 a, .int .i64 b] bar g = some (.tup [.int .i64 v, .bool true], g) := by
  obtain ⟨n, hn⟩ := h
  exact top_says_ok ht hn rfl
theorem says_res {code : ByteArray} {c : Code'} {a b v : Int} (ht : TextOk code c) (h : resM (runM [⟨102, 2, code⟩] [c] 100000 (M1 c (zeroM 1 8) ⟨[], []⟩ 0 (lc a b 0 0 0 0 0 0) [])) = some (0, v)) :
    call tb prim n_engramtop_says [.str code, .int .i64 a, .int .i64 b] bar g = some (.tup [.int .i64 v, .bool true], g) := by
  cases hr : runM [⟨102, 2, code⟩] [c] 100000 (M1 c (zeroM 1 8) ⟨[], []⟩ 0 (lc a b 0 0 0 0 0 0) []) with
  | none => rw [hr] at h; cases h
  | some x =>
    obtain ⟨s', w, n'⟩ := x
    rw [hr] at h
    simp only [resM, Option.map_some, Option.some.injEq, Prod.mk.injEq] at h
    rw [← h.2]
    exact top_says_ok ht hr h.1
def wakeC : Code' := ⟨[nu 1, nu 2, tk 43], [-1, -1, -1], 2⟩
theorem wake_text : TextOk ⟨#[49, 32, 50, 43]⟩ wakeC := ⟨by kernel_rfl, by kernel_rfl, rfl, by kernel_rfl, rfl, rfl⟩
theorem wake_res : resM (runM [⟨102, 2, ⟨#[49, 32, 50, 43]⟩⟩] [wakeC] 100000 (M1 wakeC (zeroM 1 8) ⟨[], []⟩ 0 (lc 0 0 0 0 0 0 0 0) [])) = some (0, 3) := by kernel_rfl
theorem top_awake_ok : call tb prim n_engramtop_awake [] bar g = some (.bool true, g) := by
  refine call_of tb_engramtop_awake (callF_pureW rfl rfl (M_in ?_))
  have e := says_res (bar := g.n) (g := g) wake_text wake_res
  simp [f_engramtop_awake, env0, go_sem, get_alloc, n_alloc, get_set, n_set, get_kill, n_kill, writeAt, a11, a21, a31, a41, a51, a61, a71, isNil, e]
  simp [go_sem, endP, endI, resultsA, resultA, freezeL, freezeV, AV.free.freeL, AV.free, packA, dropS]
end
end Go.Ev
set_option linter.unusedSectionVars false
namespace Go.Ev
open Go
open Classical in
noncomputable def ownF (fa : AV) (M R : Nat) (ba da la aa : AV) : Nat → Nat := fun j => if fa.isAt j then 0 else if j = M then 3 else if j = R then 6 else if ba.isAt j then 4 else if da.isAt j then 5 else if la.isAt j then 7 else if aa.isAt j then 8 else 9
section
variable {bar : Nat} {g : H}
structure UnitOk (p mo : Int) (fs : List Fn) (cs : List Code') : Prop where
  right : rightN p mo fs = 0
  to : ∀ f ∈ fs, toOk f
  sig : ∀ f ∈ fs, ∀ k ∈ (gTok f.code).1, sigOk k.sign = true
  arg : ∀ f ∈ fs, 0 ≤ f.args ∧ f.args ≤ 26
  len : fs.length ≤ 32
  codes : fs.map codeW = cs
theorem run_at {fa aa : AV} {fs : List Fn} {cs : List Code'} {p mo : Int} {M R : Nat} {m : Mem} {r : Row} {ba da la ra : AV} (hu : UnitOk p mo fs cs) (hv : FV g fa fs) (hM : MemV g bar M m ba da) (hR : RowV g bar R r la ra) (hbar : bar ≤ g.n)
    (dMR : M ≠ R) (dbR : ¬ ba.isAt R) (ddR : ¬ da.isAt R) (dl : ∀ j, la.isAt j → j ≠ M ∧ ¬ ba.isAt j ∧ ¬ da.isAt j) (dr : ∀ j, ra.isAt j → j ≠ M ∧ ¬ ba.isAt j ∧ ¬ da.isAt j) (df : ∀ j, fa.isAt j → j ≠ M ∧ j ≠ R ∧ ¬ ba.isAt j ∧ ¬ da.isAt j ∧ ¬ la.isAt j ∧ ¬ ra.isAt j)
    {nm fuel : Int} (hf0 : 0 ≤ fuel) (hf1 : fuel ≤ 1048576) {k : Nat} (hk : findN nm fs 0 = k) {f : Fn} (hf : fs[k]? = some f) {args : List Int} (haa : Vw 1 g aa args.length (args.map (AV.int .i64))) (hargs : f.args = args.length) (hra : r.asks.length ≤ 900000)
    {s' : Mc} {v : Int} {n' : Nat} (hrun : runM fs cs fuel.toNat ⟨[newF (codeW f) args], m, r, 0⟩ = some (s', v, n')) :
    ∃ xa g' own' ids C, call tb prim n_engine_Run [.agg [.int .i64 p, .int .i64 mo, fa], .ptr M 0, .ptr R 0, .int .i32 nm, .int .i64 fuel, aa] bar g = some (runRes v s'.trap n' xa, g') ∧ FzV 2 xa (s'.r.asks.length - r.asks.length) ((s'.r.asks.drop r.asks.length).flatMap asC) ∧ C.M = M ∧ C.R = R ∧ XO g' bar own' C s'.trap v ids ∧ MemO g' bar own' M s'.m ∧ RowO g' bar own' R s'.r ∧ Kp (ownF fa M R ba da la ra) tA g g' ∧ Agr g.n (ownF fa M R ba da la ra) own' := by
  have hfM : ¬ fa.isAt M := fun q => (df M q).1 rfl
  have hfR : ¬ fa.isAt R := fun q => (df R q).2.1 rfl
  have hMO : MemO g bar (ownF fa M R ba da la ra) M m := by
    refine ⟨⟨ba, da, hM, fun j hj => ?_, fun j hj => ?_⟩, by simp [ownF, hfM]⟩
    · have h1 : j ≠ M := fun q => hM.nb (q ▸ hj)
      have h2 : j ≠ R := fun q => dbR (q ▸ hj)
      have h3 : ¬ fa.isAt j := fun q => (df j q).2.2.1 hj
      simp [ownF, h1, h2, h3, hj]
    · have h1 : j ≠ M := fun q => hM.nd (q ▸ hj)
      have h2 : j ≠ R := fun q => ddR (q ▸ hj)
      have h3 : ¬ fa.isAt j := fun q => (df j q).2.2.2.1 hj
      have h4 : ¬ ba.isAt j := fun q => hM.ap j q hj
      simp [ownF, h1, h2, h3, h4, hj]
  have hRO : RowO g bar (ownF fa M R ba da la ra) R r := by
    refine ⟨⟨la, ra, hR, fun j hj => ?_, fun j hj => ?_⟩, ?_⟩
    · obtain ⟨h1, h4, h5⟩ := dl j hj
      have h2 : j ≠ R := fun q => hR.nl (q ▸ hj)
      have h3 : ¬ fa.isAt j := fun q => (df j q).2.2.2.2.1 hj
      simp [ownF, h1, h2, h3, h4, h5, hj]
    · obtain ⟨h1, h4, h5⟩ := dr j hj
      have h2 : j ≠ R := fun q => hR.na (q ▸ hj)
      have h3 : ¬ fa.isAt j := fun q => (df j q).2.2.2.2.2 hj
      have h6 : ¬ la.isAt j := fun q => hR.ap j q hj
      simp [ownF, h1, h2, h3, h4, h5, h6, hj]
    · have h1 : R ≠ M := fun q => dMR q.symm
      simp [ownF, hfR, h1]
  exact Run_ok hv (fun j hj => by simp [ownF, hj]) hMO hRO hbar hu.right hu.to hu.sig hu.arg hu.len hf0 hf1 hk hf haa hargs hra (by rw [hu.codes]; exact hrun)
theorem run_new {fa : AV} {fs : List Fn} {cs : List Code'} {p mo : Int} (hu : UnitOk p mo fs cs) (hv : FV g fa fs) (hbar : bar ≤ g.n) {pages : Nat} {most : Int} (hp : (pages : Int) ≤ most) (hmo : most ≤ 64)
    {nm fuel : Int} (hf0 : 0 ≤ fuel) (hf1 : fuel ≤ 1048576) {k : Nat} (hk : findN nm fs 0 = k) {f : Fn} (hf : fs[k]? = some f) {args : List Int} (hargs : f.args = args.length) (hla : args.length ≤ 26)
    {s' : Mc} {v : Int} {n' : Nat} (hrun : runM fs cs fuel.toNat ⟨[newF (codeW f) args], zeroM pages most, ⟨[], []⟩, 0⟩ = some (s', v, n')) :
    ∃ g2 M g3 g5 xa, call tb prim n_cells_New [.int .i64 pages, .int .i64 most] bar g = some (.ptr M 0, g2) ∧ call tb prim n_reply_New [.nilsl] bar g2 = some (.ptr g2.n 0, g3) ∧ g3.n = g2.n + 1 ∧ g.n ≤ g2.n ∧ (∀ j, j < g.n → g2.get j = g.get j) ∧ (∀ j, j < g2.n → g3.get j = g2.get j) ∧
      call tb prim n_engine_Run [.agg [.int .i64 p, .int .i64 mo, fa], .ptr M 0, .ptr g2.n 0, .int .i32 nm, .int .i64 fuel, .sl g3.n 0 1 args.length true] bar (g3.alloc (.cells (args.map (AV.int .i64)) 0)) = some (runRes v s'.trap n' xa, g5) ∧ FzV 2 xa s'.r.asks.length (s'.r.asks.flatMap asC) ∧ g.n ≤ g5.n ∧ (∀ j, j < g.n → (fa.isAt j ∨ True) → g5.get j = g.get j) := by
  obtain ⟨g2, M, ba, da, e2, hM, n2, k2⟩ := new_ok (bar := bar) (g := g) pages most hp hmo hbar
  obtain ⟨g3, e3, hR, n3, k3⟩ := row_new_nil (bar := bar) (g := g2) (by omega)
  obtain ⟨g4, hg4⟩ : ∃ g4, g4 = g3.alloc (.cells (args.map (AV.int .i64)) 0) := ⟨_, rfl⟩
  have n4 : g4.n = g3.n + 1 := by rw [hg4, n_alloc]
  have k4 : ∀ j, j < g3.n → g4.get j = g3.get j := fun j hj => by rw [hg4, get_alloc, if_neg (by omega)]
  have hMl := hM.lt
  have hMb := hM.bM
  have hM4 : MemV g4 bar M (zeroM pages most) ba da := by
    have h1 : MemV g4 g.n M (zeroM pages most) ba da := hM.mono (by omega) (by rw [k4 _ (by omega), k3 _ hMl]) (fun j hj => by have := (hM.ob.at_lt hj).2; rw [k4 _ (by omega), k3 _ this]) (fun j hj => by have := (hM.od.at_lt hj).2; rw [k4 _ (by omega), k3 _ this])
    exact ⟨h1.get, by omega, h1.lt, h1.ob.bar_le hbar, h1.od.bar_le hbar, h1.nb, h1.nd, h1.ap, h1.sz, h1.m0, h1.m1, h1.rng⟩
  have hR4 : RowV g4 bar g2.n ⟨[], []⟩ .nilsl .nilsl := ⟨by rw [k4 _ (by omega)]; exact hR.get, by omega, by omega, ⟨rfl, by simp, .inl ⟨rfl, rfl⟩⟩, OW.nil, fun q => q, fun q => q, fun j q => q.elim, by simp⟩
  have hva : Vw 1 g4 (.sl g3.n 0 1 args.length true) args.length (args.map (AV.int .i64)) := ⟨by simp, by omega, .inr (.inr ⟨g3.n, 0, true, args.map (AV.int .i64), 0, rfl, by omega, by rw [hg4, get_alloc, if_pos rfl], by simp, by rw [List.drop_zero, List.take_of_length_le (by simp)]⟩)⟩
  have hv4 : FV g4 fa fs := hv.keep (by omega) (fun j hj => by have := hv.at_lt' hj; rw [k4 _ (by omega), k3 _ (by omega), k2 _ this])
  obtain ⟨xa, g5, own', ids, C, e5, hxa, _, _, _, _, _, k5, _⟩ := run_at (bar := bar) hu hv4 hM4 hR4 (by omega) (by omega) (fun q => by have := (hM.ob.at_lt q).2; omega) (fun q => by have := (hM.od.at_lt q).2; omega) (fun j hj => hj.elim) (fun j hj => hj.elim)
    (fun j hj => by have := hv.at_lt' hj; exact ⟨by omega, by omega, fun q => by have := (hM.ob.at_lt q).1; omega, fun q => by have := (hM.od.at_lt q).1; omega, fun q => q, fun q => q⟩) hf0 hf1 hk hf hva hargs (by simp) hrun
  refine ⟨g2, M, g3, g5, xa, e2, e3, n3, n2, k2, k3, by rw [← hg4]; exact e5, by simpa using hxa, by have := k5.1; omega, fun j hj _ => ?_⟩
  rw [k5.2 j (by omega) ?_, k4 _ (by omega), k3 _ (by omega), k2 _ hj]
  have h1 : j ≠ M := by omega
  have h2 : j ≠ g2.n := by omega
  have h3 : ¬ ba.isAt j := fun q => by have := (hM.ob.at_lt q).1; omega
  have h4 : ¬ da.isAt j := fun q => by have := (hM.od.at_lt q).1; omega
  have h5 : ¬ (AV.nilsl).isAt j := fun q => q
  simp only [ownF, h1, h2, h3, h4, h5, if_false]
  unfold tA
  split <;> omega
end
end Go.Ev
set_option linter.unusedSectionVars false
namespace Go.Ev
open Go
section
variable {bar : Nat} {g : H}
theorem run_newR {fa : AV} {fs : List Fn} {cs : List Code'} {p mo : Int} (hu : UnitOk p mo fs cs) (hv : FV g fa fs) (hbar : bar ≤ g.n) {va : AV} {vs : List AV} {nv : Nat} (hva0 : Vw 1 g va nv vs) (xs : List (Int × Bool)) (hxl : xs.length = nv) (hof : ∀ (i : Nat) (v : AV) x, vs[i]? = some v → xs[i]? = some x → OfOk v x) {pages : Nat} {most : Int} (hp : (pages : Int) ≤ most) (hmo : most ≤ 64)
    {nm fuel : Int} (hf0 : 0 ≤ fuel) (hf1 : fuel ≤ 1048576) {k : Nat} (hk : findN nm fs 0 = k) {f : Fn} (hf : fs[k]? = some f) {args : List Int} (hargs : f.args = args.length) (hla : args.length ≤ 26)
    {s' : Mc} {v : Int} {n' : Nat} (hrun : runM fs cs fuel.toNat ⟨[newF (codeW f) args], zeroM pages most, ⟨xs.take 64, []⟩, 0⟩ = some (s', v, n')) :
    ∃ g2 M g3 g5 xa, call tb prim n_cells_New [.int .i64 pages, .int .i64 most] bar g = some (.ptr M 0, g2) ∧ call tb prim n_reply_New [va] bar g2 = some (.ptr g2.n 0, g3) ∧ g2.n < g3.n ∧ g.n ≤ g2.n ∧ (∀ j, j < g.n → g2.get j = g.get j) ∧ (∀ j, j < g2.n → g3.get j = g2.get j) ∧
      call tb prim n_engine_Run [.agg [.int .i64 p, .int .i64 mo, fa], .ptr M 0, .ptr g2.n 0, .int .i32 nm, .int .i64 fuel, .sl g3.n 0 1 args.length true] bar (g3.alloc (.cells (args.map (AV.int .i64)) 0)) = some (runRes v s'.trap n' xa, g5) ∧ FzV 2 xa s'.r.asks.length (s'.r.asks.flatMap asC) ∧ g.n ≤ g5.n ∧ (∀ j, j < g.n → g5.get j = g.get j) := by
  obtain ⟨g2, M, ba, da, e2, hM, n2, k2⟩ := new_ok (bar := bar) (g := g) pages most hp hmo hbar
  have hva2 : Vw 1 g2 va nv vs := hva0.keep n2 (fun j hj => k2 j (hva0.at_lt' hj))
  obtain ⟨g3, la, e3, hR, hlat, n3, k3⟩ := row_new (bar := bar) (g := g2) hva2 (by omega) xs hxl hof
  obtain ⟨g4, hg4⟩ : ∃ g4, g4 = g3.alloc (.cells (args.map (AV.int .i64)) 0) := ⟨_, rfl⟩
  have n4 : g4.n = g3.n + 1 := by rw [hg4, n_alloc]
  have k4 : ∀ j, j < g3.n → g4.get j = g3.get j := fun j hj => by rw [hg4, get_alloc, if_neg (by omega)]
  have hMl := hM.lt
  have hMb := hM.bM
  have hM4 : MemV g4 bar M (zeroM pages most) ba da := by
    have h1 : MemV g4 g.n M (zeroM pages most) ba da := hM.mono (by omega) (by rw [k4 _ (by omega), k3 _ hMl]) (fun j hj => by have := (hM.ob.at_lt hj).2; rw [k4 _ (by omega), k3 _ this]) (fun j hj => by have := (hM.od.at_lt hj).2; rw [k4 _ (by omega), k3 _ this])
    exact ⟨h1.get, by omega, h1.lt, h1.ob.bar_le hbar, h1.od.bar_le hbar, h1.nb, h1.nd, h1.ap, h1.sz, h1.m0, h1.m1, h1.rng⟩
  have hR4 : RowV g4 bar g2.n ⟨xs.take 64, []⟩ la .nilsl := by
    have hR3 := hR.mono (g' := g4) (by omega) (k4 _ (by omega)) (fun j hj => k4 j (hR.l.at_lt' hj)) (fun j hj => hj.elim)
    exact ⟨hR3.get, by omega, hR3.lt, hR3.l, OW.nil, hR3.nl, hR3.na, hR3.ap, hR3.sm⟩
  have hva : Vw 1 g4 (.sl g3.n 0 1 args.length true) args.length (args.map (AV.int .i64)) := ⟨by simp, by omega, .inr (.inr ⟨g3.n, 0, true, args.map (AV.int .i64), 0, rfl, by omega, by rw [hg4, get_alloc, if_pos rfl], by simp, by rw [List.drop_zero, List.take_of_length_le (by simp)]⟩)⟩
  have hv4 : FV g4 fa fs := hv.keep (by omega) (fun j hj => by have := hv.at_lt' hj; rw [k4 _ (by omega), k3 _ (by omega), k2 _ this])
  obtain ⟨xa, g5, own', ids, C, e5, hxa, _, _, _, _, _, k5, _⟩ := run_at (bar := bar) hu hv4 hM4 hR4 (by omega) (by omega) (fun q => by have := (hM.ob.at_lt q).2; omega) (fun q => by have := (hM.od.at_lt q).2; omega) (fun j hj => ⟨by have := hlat j hj; omega, fun q => by have := hlat j hj; have := (hM.ob.at_lt q).2; omega, fun q => by have := hlat j hj; have := (hM.od.at_lt q).2; omega⟩) (fun j hj => hj.elim)
    (fun j hj => by have := hv.at_lt' hj; exact ⟨by omega, by omega, fun q => by have := (hM.ob.at_lt q).1; omega, fun q => by have := (hM.od.at_lt q).1; omega, fun q => by have := hlat j q; omega, fun q => q⟩) hf0 hf1 hk hf hva hargs (by simp) hrun
  refine ⟨g2, M, g3, g5, xa, e2, e3, n3, n2, k2, k3, by rw [← hg4]; exact e5, by simpa using hxa, by have := k5.1; omega, fun j hj => ?_⟩
  rw [k5.2 j (by omega) ?_, k4 _ (by omega), k3 _ (by omega), k2 _ hj]
  have h1 : j ≠ M := by omega
  have h2 : j ≠ g2.n := by omega
  have h3 : ¬ ba.isAt j := fun q => by have := (hM.ob.at_lt q).1; omega
  have h4 : ¬ da.isAt j := fun q => by have := (hM.od.at_lt q).1; omega
  have h5 : ¬ (AV.nilsl).isAt j := fun q => q
  have h6 : ¬ la.isAt j := fun q => by have := hlat j q; omega
  simp only [ownF, h1, h2, h3, h4, h5, h6, if_false]
  unfold tA
  split <;> omega
end
end Go.Ev
namespace Go.Ev
open Go
theorem arg_i64 {P : Program} {n : Nat} {t : TypeId} {a : AV} (hu : P.underlying t = some (.int .i64)) (h : argOk P (n + 1) t a) : ∃ x, a = .int .i64 x ∧ -9223372036854775808 ≤ x ∧ x ≤ 9223372036854775807 := by
  unfold argOk at h; rw [hu] at h; unfold Fits at h; simp only [hu] at h
  obtain ⟨z, hz, hr⟩ := h; cases hz
  refine ⟨z, rfl, ?_⟩
  simp [Lit.wf] at hr
  have h1 : IntKind.i64.min = -9223372036854775808 := by decide
  have h2 : IntKind.i64.max = 9223372036854775807 := by decide
  omega
end Go.Ev
namespace Go.Ev
open Go
end Go.Ev
namespace Go.Ev
open Go
section
variable {fs : List Fn} {cs : List Code'} {m : Mem} {r : Row}
def nestC : Code' := ⟨[nu 0, tk 67, tk 91, tk 97, tk 33, tk 63, tk 126, tk 59, tk 98, tk 68, tk 91, tk 100, tk 33, tk 63, tk 126, tk 59, tk 99, nu 1, tk 43, tk 67, tk 100, nu 1, tk 45, tk 68, tk 93, tk 97, nu 1, tk 45, tk 65, tk 93, tk 99], [-1, -1, -1, -1, -1, 7, 30, -1, -1, -1, -1, -1, -1, 15, 25, -1, -1, -1, -1, -1, -1, -1, -1, -1, 10, -1, -1, -1, -1, 2, -1], 2⟩
theorem nest_in {a b c d : Int} (hd : d ≠ 0) : Rb fs cs 14 (M1 nestC m r 10 (lc a b c d 0 0 0 0) []) (M1 nestC m r 10 (lc a b (wI (c + 1)) (wI (d - 1)) 0 0 0 0) []) := by
  have e1 : Rn fs cs 3 (M1 nestC m r 10 (lc a b c d 0 0 0 0) []) (M1 nestC m r 13 (lc a b c d 0 0 0 0) [bitI (d == 0)]) := fun n => by kernel_rfl
  rw [ne_b0 hd] at e1
  have e2 : Rn fs cs 11 (M1 nestC m r 13 (lc a b c d 0 0 0 0) [bitI false]) (M1 nestC m r 10 (lc a b (wI (c + 1)) (wI (d - 1)) 0 0 0 0) []) := fun n => by kernel_rfl
  exact (e1.trans e2).rb
theorem nest_row {a c : Int} {y : Nat} (ha : a ≠ 0) (ha2 : 0 ≤ a ∧ a ≤ 100) (hy : y ≤ 31) (hc : 0 ≤ c ∧ c ≤ 100000) : Rb fs cs (14 * y + 20) (M1 nestC m r 2 (lc a y c 0 0 0 0 0) []) (M1 nestC m r 2 (lc (a - 1) y (c + y) 0 0 0 0 0) []) := by
  have e1 : Rn fs cs 3 (M1 nestC m r 2 (lc a y c 0 0 0 0 0) []) (M1 nestC m r 5 (lc a y c 0 0 0 0 0) [bitI (a == 0)]) := fun n => by kernel_rfl
  rw [ne_b0 ha] at e1
  have e2 : Rn fs cs 4 (M1 nestC m r 5 (lc a y c 0 0 0 0 0) [bitI false]) (M1 nestC m r 10 (lc a y c y 0 0 0 0) []) := fun n => by kernel_rfl
  have hl := Rb_loop (fs := fs) (cs := cs) (S := fun j => M1 nestC m r 10 (lc a y (c + ((y : Int) - (j : Nat))) (j : Nat) 0 0 0 0) []) (B := 14) (N := y) (fun j hj => by
    have := nest_in (fs := fs) (cs := cs) (m := m) (r := r) (a := a) (b := y) (c := c + ((y : Int) - (j + 1 : Nat))) (d := ((j + 1 : Nat) : Int)) (by omega)
    rw [wI_eq (by omega) (by omega), wI_eq (by omega) (by omega), show c + ((y : Int) - (j + 1 : Nat)) + 1 = c + ((y : Int) - (j : Nat)) by omega, show ((j + 1 : Nat) : Int) - 1 = (j : Nat) by omega] at this
    exact this) y (Nat.le_refl _)
  simp only [Int.sub_self, Int.add_zero] at hl
  rw [show c + ((y : Int) - (0 : Nat)) = c + y by omega] at hl
  have e3 : Rn fs cs 10 (M1 nestC m r 10 (lc a y (c + y) (0 : Nat) 0 0 0 0) []) (M1 nestC m r 2 (lc (wI (a - 1)) y (c + y) 0 0 0 0 0) []) := fun n => by kernel_rfl
  rw [wI_eq (by omega) (by omega)] at e3
  exact (((e1.trans e2).rb.trans hl).trans e3.rb).le (by omega)
theorem nest_out (y z : Int) : Rn fs cs 6 (M1 nestC m r 2 (lc 0 y z 0 0 0 0 0) []) (M1 nestC m r 31 (lc 0 y z 0 0 0 0 0) [z]) := fun n => by kernel_rfl
theorem nest_ends {x y : Nat} (hx : x ≤ 31) (hy : y ≤ 31) : Ends fs cs 100000 (M1 nestC m r 0 (lc x y 0 0 0 0 0 0) []) ((x : Int) * y) m r := by
  have e0 : Rn fs cs 2 (M1 nestC m r 0 (lc x y 0 0 0 0 0 0) []) (M1 nestC m r 2 (lc x y 0 0 0 0 0 0) []) := fun n => by kernel_rfl
  have hl := Rb_loop (fs := fs) (cs := cs) (S := fun j => M1 nestC m r 2 (lc (j : Nat) y (((x - j : Nat) : Int) * y) 0 0 0 0 0) []) (B := 14 * y + 20) (N := x) (fun j hj => by
    have hb : (x - (j + 1)) * y ≤ 31 * 31 := Nat.mul_le_mul (by omega) hy
    have hb' : (((x - (j + 1) : Nat) : Int) * y) = (((x - (j + 1)) * y : Nat) : Int) := by push_cast; rfl
    have := nest_row (fs := fs) (cs := cs) (m := m) (r := r) (a := ((j + 1 : Nat) : Int)) (c := ((x - (j + 1) : Nat) : Int) * y) (y := y) (by omega) (by omega) hy (by rw [hb']; omega)
    rw [show ((j + 1 : Nat) : Int) - 1 = (j : Nat) by omega, show ((x - (j + 1) : Nat) : Int) * y + y = ((x - j : Nat) : Int) * y by rw [show ((x - j : Nat) : Int) = ((x - (j + 1) : Nat) : Int) + 1 by omega, Int.add_mul, Int.one_mul]] at this
    exact this) x (Nat.le_refl _)
  simp only [Nat.sub_self, Nat.sub_zero, Int.natCast_zero, Int.zero_mul] at hl
  have hB : (14 * y + 20) * x ≤ (14 * 31 + 20) * 31 := Nat.mul_le_mul (by omega) hx
  exact ((e0.rb.trans hl).trans (nest_out _ _).rb).ends (by omega) (Nat.le_refl _)
theorem divs {c : Code'} {i : Nat} {loc st : List Int} {a b n k : Int} (hi : c.l[i]? = some ⟨47, n, k⟩) (h0 : b ≠ 0) (h1 : b ≠ -1) : Rn fs cs 1 (M1 c m r i loc (b :: a :: st)) (M1 c m r (i + 1) loc (wI (a.tdiv b) :: st)) := fun N => by
  have hd : doN 47 a b = (wI (a.tdiv b), 0) := by simp [doN, partedN, h0, h1]
  refine run_step (List.getElem?_eq_some_iff.mp hi).1 ?_
  simp [stepM, M1, hi, isGo, isMemS, plainF, hd, trapIf]
def digC : Code' := ⟨[nu 0, tk 67, tk 91, tk 97, tk 33, tk 63, tk 126, tk 59, tk 99, nu 10, tk 42, tk 97, nu 10, tk 37, tk 43, tk 67, tk 97, nu 10, tk 47, tk 65, tk 93, tk 99], [-1, -1, -1, -1, -1, 7, 21, -1, -1, -1, -1, -1, -1, -1, -1, -1, -1, -1, -1, -1, 2, -1], 2⟩
theorem dig_body {a b c : Int} (ha : 0 < a) (ha2 : a ≤ 9223372036854775807) : Rb fs cs 18 (M1 digC m r 2 (lc a b c 0 0 0 0 0) []) (M1 digC m r 2 (lc (a / 10) b (wI (wI (c * 10) + a % 10)) 0 0 0 0 0) []) := by
  have e1 : Rn fs cs 3 (M1 digC m r 2 (lc a b c 0 0 0 0 0) []) (M1 digC m r 5 (lc a b c 0 0 0 0 0) [bitI (a == 0)]) := fun n => by kernel_rfl
  rw [ne_b0 (by omega)] at e1
  have e2 : Rn fs cs 12 (M1 digC m r 5 (lc a b c 0 0 0 0 0) [bitI false]) (M1 digC m r 18 (lc a b (wI (wI (c * 10) + a.tmod 10)) 0 0 0 0 0) [10, a]) := fun n => by kernel_rfl
  have e3 := divs (fs := fs) (cs := cs) (m := m) (r := r) (loc := lc a b (wI (wI (c * 10) + a.tmod 10)) 0 0 0 0 0) (a := a) (b := 10) (c := digC) (i := 18) (n := 0) (k := 0) (st := []) rfl (by omega) (by omega)
  have e4 : ∀ c x : Int, Rn fs cs 2 (M1 digC m r 19 (lc a b c 0 0 0 0 0) [x]) (M1 digC m r 2 (lc x b c 0 0 0 0 0) []) := fun c x n => by kernel_rfl
  have e5 := e4 (wI (wI (c * 10) + a.tmod 10)) (wI (a.tdiv 10))
  rw [Int.tdiv_eq_ediv_of_nonneg (by omega), Int.tmod_eq_emod_of_nonneg (by omega), wI_eq (x := a / 10) (by omega) (by omega)] at e5
  rw [Int.tdiv_eq_ediv_of_nonneg (by omega), Int.tmod_eq_emod_of_nonneg (by omega), wI_eq (x := a / 10) (by omega) (by omega)] at e3
  rw [Int.tmod_eq_emod_of_nonneg (by omega)] at e2
  exact (((e1.trans e2).trans e3).trans e5).rb
def digW : Nat → Int → Int → Int
  | 0, _, w => w
  | n + 1, x, w => if x ≤ 0 then w else digW n (x / 10) (wI (wI (w * 10) + x % 10))
theorem dig_loop : ∀ (j : Nat) (a b c : Int), 0 ≤ a → a < 10 ^ j → a ≤ 9223372036854775807 → ∃ c', Rb fs cs (18 * j) (M1 digC m r 2 (lc a b c 0 0 0 0 0) []) (M1 digC m r 2 (lc 0 b c' 0 0 0 0 0) []) ∧ c' = digW j a c
  | 0, a, b, c, h0, h1, h2 => by
    have : a = 0 := by simp at h1; omega
    subst this
    exact ⟨c, Rb.refl, rfl⟩
  | j + 1, a, b, c, h0, h1, h2 => by
    by_cases q : a = 0
    · subst q
      exact ⟨c, Rb.refl.le (by omega), by simp [digW]⟩
    · have hb := dig_body (fs := fs) (cs := cs) (m := m) (r := r) (a := a) (b := b) (c := c) (by omega) h2
      rw [Int.pow_succ] at h1
      obtain ⟨c', h3, h4⟩ := dig_loop j (a / 10) b (wI (wI (c * 10) + a % 10)) (by omega) (by omega) (by omega)
      refine ⟨c', (hb.trans h3).le (by omega), ?_⟩
      rw [h4]
      simp only [digW]
      rw [if_neg (by omega)]
theorem dig_ends {a : Int} (b : Int) (h0 : 0 ≤ a) (h1 : a < 1099511627776) : Ends fs cs 100000 (M1 digC m r 0 (lc a b 0 0 0 0 0 0) []) (digW 13 a 0) m r := by
  have e0 : Rn fs cs 2 (M1 digC m r 0 (lc a b 0 0 0 0 0 0) []) (M1 digC m r 2 (lc a b 0 0 0 0 0 0) []) := fun n => by kernel_rfl
  obtain ⟨c', h2, h3⟩ := dig_loop (fs := fs) (cs := cs) (m := m) (r := r) 13 a b 0 h0 (by omega) (by omega)
  have e2 : Rn fs cs 6 (M1 digC m r 2 (lc 0 b c' 0 0 0 0 0) []) (M1 digC m r 22 (lc 0 b c' 0 0 0 0 0) [c']) := fun n => by kernel_rfl
  rw [← h3]
  exact ((e0.rb.trans h2).trans e2.rb).ends (by omega) (Nat.le_refl _)
end
end Go.Ev
namespace Go.Ev
open Go
section
variable {fs : List Fn} {cs : List Code'} {m : Mem} {r : Row}
theorem goz {c : Code'} {i : Nat} {loc st : List Int} {v n k : Int} {j : Nat} (hi : c.l[i]? = some ⟨63, n, k⟩) (hj : c.to[i]? = some (j : Int)) : Rn fs cs 1 (M1 c m r i loc (v :: st)) (M1 c m r (if v = 0 then j else i + 1) loc st) := fun N => by
  refine run_step (List.getElem?_eq_some_iff.mp hi).1 ?_
  by_cases q : v = 0
  · simp [stepM, M1, hi, hj, isGo, q]
  · simp [stepM, M1, hi, isGo, q]
theorem orI_bit (p q : Bool) : orI (bitI p) (bitI q) = bitI (p || q) := by
  cases p <;> cases q <;> decide +kernel
def rootC : Code' := ⟨[nu 0, tk 67, nu 1, nu 21, tk 171, tk 68, tk 91, tk 100, tk 99, tk 45, nu 1, tk 61, tk 63, tk 126, tk 59, tk 99, tk 100, tk 43, nu 2, tk 47, tk 66, tk 98, tk 98, tk 42, tk 97, tk 60, tk 98, tk 98, tk 42, tk 97, tk 61, tk 124, tk 63, tk 98, tk 67, tk 58, tk 98, tk 68, tk 59, tk 93, tk 99], [-1, -1, -1, -1, -1, -1, -1, -1, -1, -1, -1, -1, 14, 40, -1, -1, -1, -1, -1, -1, -1, -1, -1, -1, -1, -1, -1, -1, -1, -1, -1, -1, 36, -1, -1, 38, -1, -1, -1, 6, -1], 2⟩
theorem root_body {a b c d : Int} (hc : 0 ≤ c) (hd : d ≤ 2097152) (hcd : c + 1 < d) (ha : 0 ≤ a ∧ a ≤ 1099511627776) : Rb fs cs 32 (M1 rootC m r 6 (lc a b c d 0 0 0 0) []) (M1 rootC m r 6 (lc a ((c + d) / 2) (if (c + d) / 2 * ((c + d) / 2) ≤ a then (c + d) / 2 else c) (if (c + d) / 2 * ((c + d) / 2) ≤ a then d else (c + d) / 2) 0 0 0 0) []) := by
  have e1 : Rn fs cs 6 (M1 rootC m r 6 (lc a b c d 0 0 0 0) []) (M1 rootC m r 12 (lc a b c d 0 0 0 0) [bitI (wI (d - c) == 1)]) := fun n => by kernel_rfl
  rw [wI_eq (by omega) (by omega), show (d - c == 1) = false by simp; omega] at e1
  have e2 : Rn fs cs 6 (M1 rootC m r 12 (lc a b c d 0 0 0 0) [bitI false]) (M1 rootC m r 19 (lc a b c d 0 0 0 0) [2, wI (c + d)]) := fun n => by kernel_rfl
  rw [wI_eq (by omega) (by omega)] at e2
  have e3 := divs (fs := fs) (cs := cs) (m := m) (r := r) (loc := lc a b c d 0 0 0 0) (a := c + d) (b := 2) (c := rootC) (i := 19) (n := 0) (k := 0) (st := []) rfl (by omega) (by omega)
  rw [Int.tdiv_eq_ediv_of_nonneg (by omega), wI_eq (by omega) (by omega)] at e3
  obtain ⟨x, hx⟩ : ∃ x, x = (c + d) / 2 := ⟨_, rfl⟩
  rw [← hx] at e3 ⊢
  have hxx : 0 ≤ x * x := Int.mul_nonneg (by omega) (by omega)
  have hxy : x * x ≤ 2097152 * 2097152 := Int.mul_le_mul (by omega) (by omega) (by omega) (by omega)
  have e4 : Rn fs cs 11 (M1 rootC m r 20 (lc a b c d 0 0 0 0) [x]) (M1 rootC m r 31 (lc a x c d 0 0 0 0) [bitI (wI (x * x) == a), bitI (decide (wI (x * x) < a))]) := fun n => by kernel_rfl
  rw [wI_eq (by omega) (by omega)] at e4
  have e5 : ∀ p q : Int, Rn fs cs 1 (M1 rootC m r 31 (lc a x c d 0 0 0 0) [p, q]) (M1 rootC m r 32 (lc a x c d 0 0 0 0) [orI q p]) := fun p q n => by kernel_rfl
  have e6 := e5 (bitI (x * x == a)) (bitI (decide (x * x < a)))
  rw [orI_bit] at e6
  have e7 := goz (fs := fs) (cs := cs) (m := m) (r := r) (c := rootC) (i := 32) (loc := lc a x c d 0 0 0 0) (st := []) (v := bitI (decide (x * x < a) || x * x == a)) (n := 0) (k := 0) (j := 36) rfl rfl
  by_cases q : x * x ≤ a
  · have hq : (decide (x * x < a) || x * x == a) = true := by simp; omega
    rw [hq, if_neg (by decide)] at e7
    rw [hq] at e6
    have e8 : Rn fs cs 5 (M1 rootC m r 33 (lc a x c d 0 0 0 0) []) (M1 rootC m r 6 (lc a x x d 0 0 0 0) []) := fun n => by kernel_rfl
    rw [if_pos q, if_pos q]
    exact (((((((e1.trans e2).trans e3).trans e4).trans e6).trans e7).trans e8).rb).le (by omega)
  · have hq : (decide (x * x < a) || x * x == a) = false := by simp; omega
    rw [hq, if_pos (by decide)] at e7
    rw [hq] at e6
    have e8 : Rn fs cs 4 (M1 rootC m r 36 (lc a x c d 0 0 0 0) []) (M1 rootC m r 6 (lc a x c x 0 0 0 0) []) := fun n => by kernel_rfl
    rw [if_neg q, if_neg q]
    exact (((((((e1.trans e2).trans e3).trans e4).trans e6).trans e7).trans e8).rb).le (by omega)
theorem root_loop : ∀ (j : Nat) (a b c d : Int), 0 ≤ c → d ≤ 2097152 → d - c = 2 ^ j → 0 ≤ a ∧ a ≤ 1099511627776 → c * c ≤ a → a < d * d → ∃ b' c', Rb fs cs (32 * j) (M1 rootC m r 6 (lc a b c d 0 0 0 0) []) (M1 rootC m r 6 (lc a b' c' (c' + 1) 0 0 0 0) []) ∧ 0 ≤ c' ∧ c' < 2097152 ∧ c' * c' ≤ a ∧ a < (c' + 1) * (c' + 1)
  | 0, a, b, c, d, hc, hd, hcd, ha, h1, h2 => by
    have : d = c + 1 := by simp at hcd; omega
    subst this
    exact ⟨b, c, Rb.refl, hc, by omega, h1, h2⟩
  | j + 1, a, b, c, d, hc, hd, hcd, ha, h1, h2 => by
    rw [Int.pow_succ] at hcd
    have hp : (1 : Int) ≤ 2 ^ j := by have : (0 : Int) < 2 ^ j := Int.pow_pos (by omega); omega
    have hb := root_body (fs := fs) (cs := cs) (m := m) (r := r) (a := a) (b := b) hc hd (by omega) ha
    by_cases q : (c + d) / 2 * ((c + d) / 2) ≤ a
    · rw [if_pos q, if_pos q] at hb
      obtain ⟨b', c', h3, h4⟩ := root_loop j a ((c + d) / 2) ((c + d) / 2) d (by omega) hd (by omega) ha q h2
      exact ⟨b', c', (hb.trans h3).le (by omega), h4⟩
    · rw [if_neg q, if_neg q] at hb
      obtain ⟨b', c', h3, h4⟩ := root_loop j a ((c + d) / 2) c ((c + d) / 2) hc (by omega) (by omega) ha h1 (by omega)
      exact ⟨b', c', (hb.trans h3).le (by omega), h4⟩
theorem root_ends {a : Int} (b : Int) (h0 : 0 ≤ a) (h1 : a < 1099511627776) : ∃ v, Ends fs cs 100000 (M1 rootC m r 0 (lc a b 0 0 0 0 0 0) []) v m r ∧ 0 ≤ v ∧ v < 2097152 ∧ v * v ≤ a ∧ a < (v + 1) * (v + 1) := by
  have e0 : Rn fs cs 6 (M1 rootC m r 0 (lc a b 0 0 0 0 0 0) []) (M1 rootC m r 6 (lc a b 0 2097152 0 0 0 0) []) := fun n => by kernel_rfl
  obtain ⟨b', c', h2, h3, h4, h5, h6⟩ := root_loop (fs := fs) (cs := cs) (m := m) (r := r) 21 a b 0 2097152 (by omega) (by omega) (by omega) (by omega) (by omega) (by omega)
  have e1 : Rn fs cs 6 (M1 rootC m r 6 (lc a b' c' (c' + 1) 0 0 0 0) []) (M1 rootC m r 12 (lc a b' c' (c' + 1) 0 0 0 0) [bitI (wI (c' + 1 - c') == 1)]) := fun n => by kernel_rfl
  rw [wI_eq (by omega) (by omega), show (c' + 1 - c' == 1) = true by simp; omega] at e1
  have e2 : Rn fs cs 3 (M1 rootC m r 12 (lc a b' c' (c' + 1) 0 0 0 0) [bitI true]) (M1 rootC m r 41 (lc a b' c' (c' + 1) 0 0 0 0) [c']) := fun n => by kernel_rfl
  exact ⟨c', ((e0.rb.trans h2).trans (e1.trans e2).rb).ends (by omega) (Nat.le_refl _), h3, h4, h5, h6⟩
end
end Go.Ev
namespace Go.Ev
open Go
end Go.Ev
namespace Go.Ev
open Go
theorem emod_step (n m : Int) (hm : 0 < m) : n % (256 * m) = n % 256 + 256 * (n / 256 % m) := by
  have h1 := Int.mul_ediv_add_emod n 256
  have h2 := Int.mul_ediv_add_emod (n / 256) m
  have r1 : 0 ≤ n % 256 ∧ n % 256 < 256 := by omega
  have r2 := Int.emod_nonneg (n / 256) (show m ≠ 0 by omega)
  have r3 := Int.emod_lt_of_pos (n / 256) hm
  have e : n = n % 256 + 256 * (n / 256 % m) + 256 * m * (n / 256 / m) := by
    rw [Int.mul_assoc]; omega
  have : (n % 256 + 256 * (n / 256 % m) + 256 * m * (n / 256 / m)) % (256 * m) = (n % 256 + 256 * (n / 256 % m)) % (256 * m) := Int.add_mul_emod_self_left ..
  rw [← e] at this
  rw [this]
  exact Int.emod_eq_of_lt (by omega) (by omega)
theorem leN_leB : ∀ (k : Nat) (n : Int), leN (leB k n) = n % 256 ^ k
  | 0, n => by simp [leB, leN]
  | k + 1, n => by
    have hp : (0 : Int) < 256 ^ k := Int.pow_pos (by omega)
    simp only [leB, leN]
    rw [leN_leB k, Int.pow_succ, Int.mul_comm (256 ^ k), emod_step n _ hp]
theorem leI {n : Int} (h : -9223372036854775808 ≤ n ∧ n ≤ 9223372036854775807) : wI (leN (leB 8 n)) = n := by
  rw [leN_leB]
  have : wI (n % 256 ^ 8) = wI n := wI_cong (-(n / 18446744073709551616)) (by show n % 18446744073709551616 = _; omega)
  rw [this, wI_eq h.1 h.2]
section
variable {fs : List Fn} {cs : List Code'} {m : Mem} {r : Row}
def copyC : Code' := ⟨[nu 0, tk 97, tk 36, nu 8, tk 98, tk 36, nu 0, tk 67, tk 91, tk 99, nu 16, tk 61, tk 63, tk 126, tk 59, tk 99, nu 20, tk 43, tk 99, tk 169, tk 174, tk 99, nu 1, tk 43, tk 67, tk 93, nu 0, tk 68, nu 0, tk 67, tk 91, tk 99, nu 16, tk 61, tk 63, tk 126, tk 59, tk 100, tk 99, nu 20, tk 43, tk 169, tk 43, tk 68, tk 99, nu 1, tk 43, tk 67, tk 93, tk 100], [-1, -1, -1, -1, -1, -1, -1, -1, -1, -1, -1, -1, 14, 26, -1, -1, -1, -1, -1, -1, -1, -1, -1, -1, -1, 8, -1, -1, -1, -1, -1, -1, -1, -1, 36, 49, -1, -1, -1, -1, -1, -1, -1, -1, -1, -1, -1, -1, 30, -1], 2⟩
def copyV (a b : Int) : Int := (leB 8 a ++ leB 8 b).foldl (fun d y => wI (d + wI (leN [(wI (leN [y])) % 256]))) 0
theorem copy_ends {a b : Int} : resM (runM fs cs 100000 (M1 copyC (zeroM 1 8) r 0 (lc a b 0 0 0 0 0 0) [])) = some (0, copyV a b) := by kernel_rfl
def byteC : Code' := ⟨[nu 0, tk 97, tk 36, nu 8, tk 98, tk 36, nu 0, tk 67, tk 91, tk 99, nu 8, tk 61, tk 63, tk 126, tk 59, tk 99, nu 16, tk 43, tk 99, nu 1, tk 38, tk 63, tk 99, nu 8, tk 43, tk 58, tk 99, tk 59, tk 169, tk 174, tk 99, nu 1, tk 43, tk 67, tk 93, nu 16, tk 64], [-1, -1, -1, -1, -1, -1, -1, -1, -1, -1, -1, -1, 14, 35, -1, -1, -1, -1, -1, -1, -1, 26, -1, -1, -1, 27, -1, -1, -1, -1, -1, -1, -1, -1, 8, -1, -1], 2⟩
def byteV (a b : Int) : Int := wI (leN (((leB 8 a).zip (leB 8 b)).zipIdx.map fun x => (wI (leN [if x.2 % 2 = 1 then x.1.2 else x.1.1])) % 256))
theorem byte_ends {a b : Int} : resM (runM fs cs 100000 (M1 byteC (zeroM 1 8) r 0 (lc a b 0 0 0 0 0 0) [])) = some (0, byteV a b) := by kernel_rfl
end
end Go.Ev
namespace Go.Ev
open Go
section
variable {fs : List Fn} {cs : List Code'} {m : Mem} {r : Row}
def partG : Code' := ⟨[tk 97, nu 1, tk 43, tk 65, tk 98, nu 2, tk 42, tk 66, tk 97, tk 98, tk 43], [-1, -1, -1, -1, -1, -1, -1, -1, -1, -1, -1], 2⟩
def partF : Code' := ⟨[tk 97, tk 98, ⟨955, 0, 103⟩, tk 44, tk 97, tk 98, tk 45], [-1, -1, -1, -1, -1, -1, -1], 2⟩
def partH : Code' := ⟨[tk 98, tk 97, ⟨955, 0, 103⟩, tk 97, tk 98, ⟨955, 0, 102⟩, tk 43], [-1, -1, -1, -1, -1, -1, -1], 2⟩
theorem part_f (a b : Int) (x y z : ByteArray) : resM (runM [⟨103, 2, x⟩, ⟨102, 2, y⟩, ⟨104, 2, z⟩] [partG, partF, partH] 99 (M1 partF m r 0 (lc a b 0 0 0 0 0 0) [])) = some (0, wI (a - b)) := by kernel_rfl
theorem part_h (a b : Int) (x y z : ByteArray) : resM (runM [⟨103, 2, x⟩, ⟨102, 2, y⟩, ⟨104, 2, z⟩] [partG, partF, partH] 99 (M1 partH m r 0 (lc a b 0 0 0 0 0 0) [])) = some (0, wI (wI (wI (b + 1) + wI (a * 2)) + wI (a - b))) := by kernel_rfl
def repC : Code' := ⟨[nu 0, tk 67, tk 91, tk 97, tk 33, tk 63, tk 126, tk 59, tk 99, nu 10, tk 42, tk 97, ⟨960, 0, 113⟩, tk 43, tk 67, tk 97, nu 1, tk 45, tk 65, tk 93, tk 99], [-1, -1, -1, -1, -1, 7, 20, -1, -1, -1, -1, -1, -1, -1, -1, -1, -1, -1, -1, 2, -1], 1⟩
def replV : List Int → Int → Int
  | [], c => c
  | x :: l, c => replV l (wI (wI (c * 10) + x))
def replA : Nat → List (Int × Int)
  | 0 => []
  | n + 1 => (113, ((n + 1 : Nat) : Int)) :: replA n
theorem rep_loop : ∀ (l : List Int) (c : Int) (k : List (Int × Int)), l.length ≤ 20 → Rb fs cs (17 * l.length) (M1 repC m ⟨l.map (·, true), k⟩ 2 (lc l.length 0 c 0 0 0 0 0) []) (M1 repC m ⟨[], k ++ replA l.length⟩ 2 (lc 0 0 (replV l c) 0 0 0 0 0) [])
  | [], c, k, _ => by
    rw [show k ++ replA ([] : List Int).length = k from List.append_nil k]; exact Rb.refl
  | x :: l, c, k, h => by
    have e1 : Rn fs cs 3 (M1 repC m ⟨(x :: l).map (·, true), k⟩ 2 (lc ((x :: l).length : Nat) 0 c 0 0 0 0 0) []) (M1 repC m ⟨(x :: l).map (·, true), k⟩ 5 (lc ((x :: l).length : Nat) 0 c 0 0 0 0 0) [bitI ((((x :: l).length : Nat) : Int) == 0)]) := fun n => by kernel_rfl
    rw [ne_b0 (by simp; omega)] at e1
    have e2 : ∀ a : Int, Rn fs cs 14 (M1 repC m ⟨(x :: l).map (·, true), k⟩ 5 (lc a 0 c 0 0 0 0 0) [bitI false]) (M1 repC m ⟨l.map (·, true), k ++ [(113, a)]⟩ 2 (lc (wI (a - 1)) 0 (wI (wI (c * 10) + x)) 0 0 0 0 0) []) := fun a n => by kernel_rfl
    have e3 := e2 (((x :: l).length : Nat) : Int)
    simp only [List.length_cons] at h e1 e3 ⊢
    rw [wI_eq (x := ((l.length + 1 : Nat) : Int) - 1) (by omega) (by omega), show ((l.length + 1 : Nat) : Int) - 1 = (l.length : Nat) by omega] at e3
    have ih := rep_loop l (wI (wI (c * 10) + x)) (k ++ [(113, ((l.length + 1 : Nat) : Int))]) (by omega)
    rw [List.append_assoc] at ih
    exact ((e1.trans e3).rb.trans ih).le (by omega)
theorem rep_ends (l : List Int) (h : l.length ≤ 20) : Ends fs cs 9999 (M1 repC m ⟨l.map (·, true), []⟩ 0 (lc l.length 0 0 0 0 0 0 0) []) (replV l 0) m ⟨[], replA l.length⟩ := by
  have e0 : ∀ (k : Int) (q : Row), Rn fs cs 2 (M1 repC m q 0 (lc k 0 0 0 0 0 0 0) []) (M1 repC m q 2 (lc k 0 0 0 0 0 0 0) []) := fun k q n => by kernel_rfl
  have hl := rep_loop (fs := fs) (cs := cs) (m := m) l 0 [] h
  have e2 : ∀ (c : Int) (q : Row), Rn fs cs 6 (M1 repC m q 2 (lc 0 0 c 0 0 0 0 0) []) (M1 repC m q 21 (lc 0 0 c 0 0 0 0 0) [c]) := fun c q n => by kernel_rfl
  exact (((e0 _ _).rb.trans hl).trans (e2 _ _).rb).ends (by omega) (Nat.le_refl _)
end
end Go.Ev
namespace Go.Ev
open Go
def mnI (p q : Int) : Int := if q < p then q else p
def mxI (p q : Int) : Int := if q < p then p else q
def bubL (x : Int) : List Int → List Int
  | [] => [x]
  | y :: r => mnI x y :: bubL (mxI x y) r
def bub : List Int → List Int
  | [] => []
  | x :: r => bubL x r
theorem mn_cases (p q : Int) : (mnI p q = p ∧ mxI p q = q ∧ p ≤ q) ∨ (mnI p q = q ∧ mxI p q = p ∧ q < p) := by
  unfold mnI mxI
  by_cases h : q < p
  · rw [if_pos h, if_pos h]; exact .inr ⟨rfl, rfl, h⟩
  · rw [if_neg h, if_neg h]; exact .inl ⟨rfl, rfl, by omega⟩
theorem bub_snoc : ∀ (r : List Int) (x M : Int), x ≤ M → (∀ y ∈ r, y ≤ M) → bubL x (r ++ [M]) = bubL x r ++ [M]
  | [], x, M, h, _ => by
    show [mnI x M, mxI x M] = [x, M]
    rcases mn_cases x M with ⟨a, b, _⟩ | ⟨a, b, c⟩
    · rw [a, b]
    · omega
  | y :: r, x, M, h, hr => by
    show mnI x y :: bubL (mxI x y) (r ++ [M]) = _
    have hy := hr y (List.mem_cons_self ..)
    rw [bub_snoc r _ M (by rcases mn_cases x y with ⟨_, b, _⟩ | ⟨_, b, _⟩ <;> rw [b] <;> assumption) (fun z hz => hr z (List.mem_cons_of_mem _ hz))]
    rfl
theorem bub_max : ∀ (r : List Int) (x : Int), ∃ i M, bubL x r = i ++ [M] ∧ i.length = r.length ∧ (∀ y ∈ i, y ≤ M) ∧ x ≤ M ∧ (bubL x r).Perm (x :: r)
  | [], x => ⟨[], x, rfl, rfl, by simp, Int.le_refl _, List.Perm.refl _⟩
  | y :: r, x => by
    obtain ⟨i, M, h1, h2, h3, h4, h5⟩ := bub_max r (mxI x y)
    have hc := mn_cases x y
    refine ⟨mnI x y :: i, M, by show mnI x y :: bubL _ r = _; rw [h1]; rfl, by simp [h2], fun z hz => ?_, by omega, ?_⟩
    · rcases List.mem_cons.mp hz with rfl | hz
      · omega
      · exact h3 z hz
    · show (mnI x y :: bubL (mxI x y) r).Perm (x :: y :: r)
      rcases hc with ⟨a, b, _⟩ | ⟨a, b, _⟩
      · rw [a, b]; rw [b] at h5; exact h5.cons x
      · rw [a, b]; rw [b] at h5
        exact (h5.cons y).trans (List.Perm.swap x y r)
def bubN : Nat → List Int → List Int
  | 0, l => l
  | n + 1, l => bubN n (bub l)
theorem bub_perm (l : List Int) : (bub l).Perm l := by
  cases l with
  | nil => exact List.Perm.refl _
  | cons x r => obtain ⟨_, _, _, _, _, _, h⟩ := bub_max r x; exact h
theorem bubN_perm : ∀ n l, (bubN n l).Perm l
  | 0, l => List.Perm.refl _
  | n + 1, l => (bubN_perm n (bub l)).trans (bub_perm l)
theorem bub_app {l : List Int} {M : Int} (h : ∀ y ∈ l, y ≤ M) (hl : l ≠ []) : bub (l ++ [M]) = bub l ++ [M] := by
  cases l with
  | nil => exact absurd rfl hl
  | cons x r => exact bub_snoc r x M (h x (List.mem_cons_self ..)) (fun y hy => h y (List.mem_cons_of_mem _ hy))
theorem bubN_app : ∀ (n : Nat) {l : List Int} {M : Int}, (∀ y ∈ l, y ≤ M) → l ≠ [] → bubN n (l ++ [M]) = bubN n l ++ [M]
  | 0, _, _, _, _ => rfl
  | n + 1, l, M, h, hl => by
    simp only [bubN]
    rw [bub_app h hl]
    refine bubN_app n (fun y hy => h y ((bub_perm l).mem_iff.mp hy)) (fun e => hl ?_)
    have := (bub_perm l).length_eq
    rw [e] at this
    exact List.length_eq_zero_iff.mp this.symm
theorem bubN_sorted : ∀ (n : Nat) (l : List Int), l.length ≤ n → (bubN n l).Pairwise (· ≤ ·)
  | 0, l, h => by
    have : l = [] := List.length_eq_zero_iff.mp (by omega)
    subst this; exact List.Pairwise.nil
  | n + 1, l, h => by
    cases l with
    | nil => exact bubN_sorted n [] (by simp)
    | cons x r =>
      obtain ⟨i, M, h1, h2, h3, h4, h5⟩ := bub_max r x
      show (bubN n (bubL x r)).Pairwise (· ≤ ·)
      rw [h1]
      simp at h
      by_cases hi : i = []
      · subst hi
        have := (bubN_perm n ([] ++ [M])).length_eq
        have : ∃ z, bubN n ([] ++ [M]) = [z] := List.length_eq_one_iff.mp (by simpa using this)
        obtain ⟨z, hz⟩ := this
        rw [hz]; exact List.pairwise_singleton _ _
      · rw [bubN_app n h3 hi, List.pairwise_append]
        exact ⟨bubN_sorted n i (by omega), List.pairwise_singleton _ _, fun y hy z hz => by simp at hz; subst hz; exact h3 y ((bubN_perm n i).mem_iff.mp hy)⟩
section
variable {fs : List Fn} {cs : List Code'} {r : Row}
def sortC : Code' := ⟨[nu 6, tk 67, tk 91, tk 99, tk 33, tk 63, tk 126, tk 59, nu 0, tk 68, tk 91, tk 100, nu 5, tk 61, tk 63, tk 126, tk 59, tk 100, nu 8, tk 42, tk 69, tk 101, tk 64, tk 70, tk 101, nu 8, tk 43, tk 64, tk 71, tk 103, tk 102, tk 60, tk 63, tk 101, tk 103, tk 36, tk 101, nu 8, tk 43, tk 102, tk 36, tk 59, tk 100, nu 1, tk 43, tk 68, tk 93, tk 99, nu 1, tk 45, tk 67, tk 93, nu 0], [-1, -1, -1, -1, -1, 7, 52, -1, -1, -1, -1, -1, -1, -1, 16, 47, -1, -1, -1, -1, -1, -1, -1, -1, -1, -1, -1, -1, -1, -1, -1, -1, 41, -1, -1, -1, -1, -1, -1, -1, -1, -1, -1, -1, -1, -1, 10, -1, -1, -1, -1, 2, -1], 0⟩
def sixM (l : List Int) : Mem := ⟨l.flatMap (leB 8) ++ List.replicate 16 0, 1, [true]⟩
def i64R (x : Int) : Prop := -9223372036854775808 ≤ x ∧ x ≤ 9223372036854775807
variable {v0 v1 v2 v3 v4 v5 c e f g : Int}
theorem sort_in0 (h0 : i64R v0) (h1 : i64R v1) : Rb fs cs 36 (M1 sortC (sixM [v0, v1, v2, v3, v4, v5]) r 10 (lc 0 0 c 0 e f g 0) []) (M1 sortC (sixM [mnI v0 v1, mxI v0 v1, v2, v3, v4, v5]) r 10 (lc 0 0 c 1 0 v0 v1 0) []) := by
  have e1 : Rn fs cs 21 (M1 sortC (sixM [v0, v1, v2, v3, v4, v5]) r 10 (lc 0 0 c 0 e f g 0) []) (M1 sortC (sixM [v0, v1, v2, v3, v4, v5]) r 32 (lc 0 0 c 0 0 (wI (leN (leB 8 v0))) (wI (leN (leB 8 v1))) 0) [bitI (decide (wI (leN (leB 8 v1)) < wI (leN (leB 8 v0))))]) := fun n => by kernel_rfl
  rw [leI h0, leI h1] at e1
  by_cases q : v1 < v0
  · rw [decide_eq_true q] at e1
    have e2 : Rn fs cs 15 (M1 sortC (sixM [v0, v1, v2, v3, v4, v5]) r 32 (lc 0 0 c 0 0 v0 v1 0) [bitI true]) (M1 sortC (sixM [v1, v0, v2, v3, v4, v5]) r 10 (lc 0 0 c 1 0 v0 v1 0) []) := fun n => by kernel_rfl
    rw [show mnI v0 v1 = v1 from if_pos q, show mxI v0 v1 = v0 from if_pos q]
    exact (e1.trans e2).rb
  · rw [decide_eq_false q] at e1
    have e2 : Rn fs cs 7 (M1 sortC (sixM [v0, v1, v2, v3, v4, v5]) r 32 (lc 0 0 c 0 0 v0 v1 0) [bitI false]) (M1 sortC (sixM [v0, v1, v2, v3, v4, v5]) r 10 (lc 0 0 c 1 0 v0 v1 0) []) := fun n => by kernel_rfl
    rw [show mnI v0 v1 = v0 from if_neg q, show mxI v0 v1 = v1 from if_neg q]
    exact (e1.trans e2).rb.le (by omega)
theorem sort_in1 (h0 : i64R v1) (h1 : i64R v2) : Rb fs cs 36 (M1 sortC (sixM [v0, v1, v2, v3, v4, v5]) r 10 (lc 0 0 c 1 e f g 0) []) (M1 sortC (sixM [v0, mnI v1 v2, mxI v1 v2, v3, v4, v5]) r 10 (lc 0 0 c 2 8 v1 v2 0) []) := by
  have e1 : Rn fs cs 21 (M1 sortC (sixM [v0, v1, v2, v3, v4, v5]) r 10 (lc 0 0 c 1 e f g 0) []) (M1 sortC (sixM [v0, v1, v2, v3, v4, v5]) r 32 (lc 0 0 c 1 8 (wI (leN (leB 8 v1))) (wI (leN (leB 8 v2))) 0) [bitI (decide (wI (leN (leB 8 v2)) < wI (leN (leB 8 v1))))]) := fun n => by kernel_rfl
  rw [leI h0, leI h1] at e1
  by_cases q : v2 < v1
  · rw [decide_eq_true q] at e1
    have e2 : Rn fs cs 15 (M1 sortC (sixM [v0, v1, v2, v3, v4, v5]) r 32 (lc 0 0 c 1 8 v1 v2 0) [bitI true]) (M1 sortC (sixM [v0, v2, v1, v3, v4, v5]) r 10 (lc 0 0 c 2 8 v1 v2 0) []) := fun n => by kernel_rfl
    rw [show mnI v1 v2 = v2 from if_pos q, show mxI v1 v2 = v1 from if_pos q]
    exact (e1.trans e2).rb
  · rw [decide_eq_false q] at e1
    have e2 : Rn fs cs 7 (M1 sortC (sixM [v0, v1, v2, v3, v4, v5]) r 32 (lc 0 0 c 1 8 v1 v2 0) [bitI false]) (M1 sortC (sixM [v0, v1, v2, v3, v4, v5]) r 10 (lc 0 0 c 2 8 v1 v2 0) []) := fun n => by kernel_rfl
    rw [show mnI v1 v2 = v1 from if_neg q, show mxI v1 v2 = v2 from if_neg q]
    exact (e1.trans e2).rb.le (by omega)
theorem sort_in2 (h0 : i64R v2) (h1 : i64R v3) : Rb fs cs 36 (M1 sortC (sixM [v0, v1, v2, v3, v4, v5]) r 10 (lc 0 0 c 2 e f g 0) []) (M1 sortC (sixM [v0, v1, mnI v2 v3, mxI v2 v3, v4, v5]) r 10 (lc 0 0 c 3 16 v2 v3 0) []) := by
  have e1 : Rn fs cs 21 (M1 sortC (sixM [v0, v1, v2, v3, v4, v5]) r 10 (lc 0 0 c 2 e f g 0) []) (M1 sortC (sixM [v0, v1, v2, v3, v4, v5]) r 32 (lc 0 0 c 2 16 (wI (leN (leB 8 v2))) (wI (leN (leB 8 v3))) 0) [bitI (decide (wI (leN (leB 8 v3)) < wI (leN (leB 8 v2))))]) := fun n => by kernel_rfl
  rw [leI h0, leI h1] at e1
  by_cases q : v3 < v2
  · rw [decide_eq_true q] at e1
    have e2 : Rn fs cs 15 (M1 sortC (sixM [v0, v1, v2, v3, v4, v5]) r 32 (lc 0 0 c 2 16 v2 v3 0) [bitI true]) (M1 sortC (sixM [v0, v1, v3, v2, v4, v5]) r 10 (lc 0 0 c 3 16 v2 v3 0) []) := fun n => by kernel_rfl
    rw [show mnI v2 v3 = v3 from if_pos q, show mxI v2 v3 = v2 from if_pos q]
    exact (e1.trans e2).rb
  · rw [decide_eq_false q] at e1
    have e2 : Rn fs cs 7 (M1 sortC (sixM [v0, v1, v2, v3, v4, v5]) r 32 (lc 0 0 c 2 16 v2 v3 0) [bitI false]) (M1 sortC (sixM [v0, v1, v2, v3, v4, v5]) r 10 (lc 0 0 c 3 16 v2 v3 0) []) := fun n => by kernel_rfl
    rw [show mnI v2 v3 = v2 from if_neg q, show mxI v2 v3 = v3 from if_neg q]
    exact (e1.trans e2).rb.le (by omega)
theorem sort_in3 (h0 : i64R v3) (h1 : i64R v4) : Rb fs cs 36 (M1 sortC (sixM [v0, v1, v2, v3, v4, v5]) r 10 (lc 0 0 c 3 e f g 0) []) (M1 sortC (sixM [v0, v1, v2, mnI v3 v4, mxI v3 v4, v5]) r 10 (lc 0 0 c 4 24 v3 v4 0) []) := by
  have e1 : Rn fs cs 21 (M1 sortC (sixM [v0, v1, v2, v3, v4, v5]) r 10 (lc 0 0 c 3 e f g 0) []) (M1 sortC (sixM [v0, v1, v2, v3, v4, v5]) r 32 (lc 0 0 c 3 24 (wI (leN (leB 8 v3))) (wI (leN (leB 8 v4))) 0) [bitI (decide (wI (leN (leB 8 v4)) < wI (leN (leB 8 v3))))]) := fun n => by kernel_rfl
  rw [leI h0, leI h1] at e1
  by_cases q : v4 < v3
  · rw [decide_eq_true q] at e1
    have e2 : Rn fs cs 15 (M1 sortC (sixM [v0, v1, v2, v3, v4, v5]) r 32 (lc 0 0 c 3 24 v3 v4 0) [bitI true]) (M1 sortC (sixM [v0, v1, v2, v4, v3, v5]) r 10 (lc 0 0 c 4 24 v3 v4 0) []) := fun n => by kernel_rfl
    rw [show mnI v3 v4 = v4 from if_pos q, show mxI v3 v4 = v3 from if_pos q]
    exact (e1.trans e2).rb
  · rw [decide_eq_false q] at e1
    have e2 : Rn fs cs 7 (M1 sortC (sixM [v0, v1, v2, v3, v4, v5]) r 32 (lc 0 0 c 3 24 v3 v4 0) [bitI false]) (M1 sortC (sixM [v0, v1, v2, v3, v4, v5]) r 10 (lc 0 0 c 4 24 v3 v4 0) []) := fun n => by kernel_rfl
    rw [show mnI v3 v4 = v3 from if_neg q, show mxI v3 v4 = v4 from if_neg q]
    exact (e1.trans e2).rb.le (by omega)
theorem sort_in4 (h0 : i64R v4) (h1 : i64R v5) : Rb fs cs 36 (M1 sortC (sixM [v0, v1, v2, v3, v4, v5]) r 10 (lc 0 0 c 4 e f g 0) []) (M1 sortC (sixM [v0, v1, v2, v3, mnI v4 v5, mxI v4 v5]) r 10 (lc 0 0 c 5 32 v4 v5 0) []) := by
  have e1 : Rn fs cs 21 (M1 sortC (sixM [v0, v1, v2, v3, v4, v5]) r 10 (lc 0 0 c 4 e f g 0) []) (M1 sortC (sixM [v0, v1, v2, v3, v4, v5]) r 32 (lc 0 0 c 4 32 (wI (leN (leB 8 v4))) (wI (leN (leB 8 v5))) 0) [bitI (decide (wI (leN (leB 8 v5)) < wI (leN (leB 8 v4))))]) := fun n => by kernel_rfl
  rw [leI h0, leI h1] at e1
  by_cases q : v5 < v4
  · rw [decide_eq_true q] at e1
    have e2 : Rn fs cs 15 (M1 sortC (sixM [v0, v1, v2, v3, v4, v5]) r 32 (lc 0 0 c 4 32 v4 v5 0) [bitI true]) (M1 sortC (sixM [v0, v1, v2, v3, v5, v4]) r 10 (lc 0 0 c 5 32 v4 v5 0) []) := fun n => by kernel_rfl
    rw [show mnI v4 v5 = v5 from if_pos q, show mxI v4 v5 = v4 from if_pos q]
    exact (e1.trans e2).rb
  · rw [decide_eq_false q] at e1
    have e2 : Rn fs cs 7 (M1 sortC (sixM [v0, v1, v2, v3, v4, v5]) r 32 (lc 0 0 c 4 32 v4 v5 0) [bitI false]) (M1 sortC (sixM [v0, v1, v2, v3, v4, v5]) r 10 (lc 0 0 c 5 32 v4 v5 0) []) := fun n => by kernel_rfl
    rw [show mnI v4 v5 = v4 from if_neg q, show mxI v4 v5 = v5 from if_neg q]
    exact (e1.trans e2).rb.le (by omega)
theorem mx_rng {p q : Int} (h0 : i64R p) (h1 : i64R q) : i64R (mxI p q) := by
  rcases mn_cases p q with ⟨_, b, _⟩ | ⟨_, b, _⟩ <;> rw [b] <;> assumption
theorem sort_pass (d : Int) (hc : c ≠ 0) (hc2 : 0 ≤ c ∧ c ≤ 6) {l : List Int} (hl : l.length = 6) (hr : ∀ y ∈ l, i64R y) : ∃ d' e' f' g', Rb fs cs 198 (M1 sortC (sixM l) r 2 (lc 0 0 c d e f g 0) []) (M1 sortC (sixM (bub l)) r 2 (lc 0 0 (c - 1) d' e' f' g' 0) []) := by
  match l, hl, hr with
  | [v0, v1, v2, v3, v4, v5], _, hr =>
    have r0 := hr v0 (by simp)
    have r1 := hr v1 (by simp)
    have r2 := hr v2 (by simp)
    have r3 := hr v3 (by simp)
    have r4 := hr v4 (by simp)
    have r5 := hr v5 (by simp)
    have e1 : Rn fs cs 3 (M1 sortC (sixM [v0, v1, v2, v3, v4, v5]) r 2 (lc 0 0 c d e f g 0) []) (M1 sortC (sixM [v0, v1, v2, v3, v4, v5]) r 5 (lc 0 0 c d e f g 0) [bitI (c == 0)]) := fun n => by kernel_rfl
    rw [ne_b0 hc] at e1
    have e2 : Rn fs cs 4 (M1 sortC (sixM [v0, v1, v2, v3, v4, v5]) r 5 (lc 0 0 c d e f g 0) [bitI false]) (M1 sortC (sixM [v0, v1, v2, v3, v4, v5]) r 10 (lc 0 0 c 0 e f g 0) []) := fun n => by kernel_rfl
    have m1 := mx_rng r0 r1
    have m2 := mx_rng m1 r2
    have m3 := mx_rng m2 r3
    have m4 := mx_rng m3 r4
    have s0 := sort_in0 (fs := fs) (cs := cs) (r := r) (c := c) (e := e) (f := f) (g := g) (v0 := v0) (v1 := v1) (v2 := v2) (v3 := v3) (v4 := v4) (v5 := v5) r0 r1
    have s1 := fun e f g => sort_in1 (fs := fs) (cs := cs) (r := r) (c := c) (e := e) (f := f) (g := g) (v0 := mnI v0 v1) (v3 := v3) (v4 := v4) (v5 := v5) m1 r2
    have s2 := fun e f g v0 v1 => sort_in2 (fs := fs) (cs := cs) (r := r) (c := c) (e := e) (f := f) (g := g) (v0 := v0) (v1 := v1) (v4 := v4) (v5 := v5) m2 r3
    have s3 := fun e f g v0 v1 v2 => sort_in3 (fs := fs) (cs := cs) (r := r) (c := c) (e := e) (f := f) (g := g) (v0 := v0) (v1 := v1) (v2 := v2) (v5 := v5) m3 r4
    have s4 := fun e f g v0 v1 v2 v3 => sort_in4 (fs := fs) (cs := cs) (r := r) (c := c) (e := e) (f := f) (g := g) (v0 := v0) (v1 := v1) (v2 := v2) (v3 := v3) m4 r5
    have e3 : ∀ (m : Mem) (e f g : Int), Rn fs cs 11 (M1 sortC m r 10 (lc 0 0 c 5 e f g 0) []) (M1 sortC m r 2 (lc 0 0 (wI (c - 1)) 5 e f g 0) []) := fun m e f g n => by kernel_rfl
    rw [wI_eq (by omega) (by omega)] at e3
    exact ⟨_, _, _, _, (((((((e1.trans e2).rb.trans s0).trans (s1 _ _ _)).trans (s2 _ _ _ _ _)).trans (s3 _ _ _ _ _ _)).trans (s4 _ _ _ _ _ _ _)).trans (e3 _ _ _ _).rb).le (by omega)⟩
theorem sort_loop : ∀ (n : Nat) (d e f g : Int) (l : List Int), n ≤ 6 → l.length = 6 → (∀ y ∈ l, i64R y) → ∃ d' e' f' g', Rb fs cs (198 * n) (M1 sortC (sixM l) r 2 (lc 0 0 n d e f g 0) []) (M1 sortC (sixM (bubN n l)) r 2 (lc 0 0 0 d' e' f' g' 0) [])
  | 0, d, e, f, g, l, _, _, _ => ⟨d, e, f, g, Rb.refl⟩
  | n + 1, d, e, f, g, l, hn, hl, hr => by
    obtain ⟨d1, e1, f1, g1, h1⟩ := sort_pass (fs := fs) (cs := cs) (r := r) (c := ((n + 1 : Nat) : Int)) (e := e) (f := f) (g := g) d (by omega) (by omega) hl hr
    obtain ⟨d2, e2, f2, g2, h2⟩ := sort_loop n d1 e1 f1 g1 (bub l) (by omega) (by rw [(bub_perm l).length_eq]; exact hl) (fun y hy => hr y ((bub_perm l).mem_iff.mp hy))
    rw [show ((n + 1 : Nat) : Int) - 1 = (n : Nat) by omega] at h1
    exact ⟨d2, e2, f2, g2, (h1.trans h2).le (by omega)⟩
theorem sort_ends {l : List Int} (hl : l.length = 6) (hr : ∀ y ∈ l, i64R y) : Ends fs cs 20000 (M1 sortC (sixM l) r 0 (lc 0 0 0 0 0 0 0 0) []) 0 (sixM (bubN 6 l)) r := by
  have e0 : ∀ m : Mem, Rn fs cs 2 (M1 sortC m r 0 (lc 0 0 0 0 0 0 0 0) []) (M1 sortC m r 2 (lc 0 0 (6 : Nat) 0 0 0 0 0) []) := fun m n => by kernel_rfl
  obtain ⟨d', e', f', g', h⟩ := sort_loop (fs := fs) (cs := cs) (r := r) 6 0 0 0 0 l (Nat.le_refl _) hl hr
  have e2 : ∀ (m : Mem) (d e f g : Int), Rn fs cs 6 (M1 sortC m r 2 (lc 0 0 0 d e f g 0) []) (M1 sortC m r 53 (lc 0 0 0 d e f g 0) [0]) := fun m d e f g n => by kernel_rfl
  exact (((e0 _).rb.trans h).trans (e2 _ _ _ _ _).rb).ends (by omega) (Nat.le_refl _)
end
end Go.Ev
namespace Go.Ev
open Go
theorem rows_list {A : Type} {c : A → List AV} {k : Nat} (hk : ∀ x, (c x).length = k) : ∀ (len : Nat) (cs : List AV), cs.length = len * k → (∀ i, i < len → ∃ x, (cs.drop (i * k)).take k = c x) → ∃ l : List A, l.length = len ∧ cs = l.flatMap c
  | 0, cs, h, _ => ⟨[], rfl, List.length_eq_zero_iff.mp (by simpa using h)⟩
  | len + 1, cs, h, hx => by
    obtain ⟨x, h0⟩ := hx 0 (by omega)
    obtain ⟨l, hl, hc⟩ := rows_list hk len (cs.drop k) (by rw [List.length_drop, h, Nat.succ_mul]; omega) (fun i hi => by
      obtain ⟨y, hy⟩ := hx (i + 1) (by omega)
      exact ⟨y, by rw [List.drop_drop, ← hy, Nat.succ_mul, Nat.add_comm]⟩)
    refine ⟨x :: l, by simp [hl], ?_⟩
    rw [List.flatMap_cons, ← hc, ← h0]
    simp
theorem arg_list {A : Type} {c : A → List AV} {P : Program} {n : Nat} {t e : TypeId} {k : Nat} {a : AV} (hk : ∀ x, (c x).length = k) (hu : P.underlying t = some (.slice e)) (hce : P.cellsOf e = k) (hx : ∀ xs, Fits P n e xs → ∃ x, xs = c x) (h : argOk P (n + 1) t a) : ∃ l : List A, FzV k a l.length (l.flatMap c) := by
  unfold argOk at h
  rw [hu] at h
  simp only at h
  unfold Fits at h
  rw [hu] at h
  rcases h with h | ⟨len, cs, h, hm, hl, hr⟩
  · cases h; exact ⟨[], by simp, by simp, .inl ⟨rfl, rfl⟩⟩
  · rw [hce] at h hl hr
    cases h
    obtain ⟨l, hl2, rfl⟩ := rows_list hk len cs hl (fun i hi => hx _ (hr i hi))
    have hm2 : maxLen ≤ 9223372036854775807 := by decide
    exact ⟨l, by rw [hl, hl2], by omega, .inr ⟨false, by rw [hl2]⟩⟩
theorem fits_int {P : Program} {n : Nat} {t : TypeId} {k : IntKind} {xs : List AV} (hu : P.underlying t = some (.int k)) (h : Fits P (n + 1) t xs) : ∃ x, xs = [.int k x] := by
  unfold Fits at h; rw [hu] at h; obtain ⟨z, hz, _⟩ := h; exact ⟨z, hz⟩
theorem fits_i64 {P : Program} {n : Nat} {t : TypeId} {xs : List AV} (hu : P.underlying t = some (.int .i64)) (h : Fits P (n + 1) t xs) : ∃ x, xs = [.int .i64 x] ∧ i64R x := by
  unfold Fits at h; rw [hu] at h; obtain ⟨z, hz, hr⟩ := h
  refine ⟨z, hz, ?_⟩
  simp [Lit.wf] at hr
  have h1 : IntKind.i64.min = -9223372036854775808 := by decide
  have h2 : IntKind.i64.max = 9223372036854775807 := by decide
  unfold i64R
  omega
theorem fz_val {a : AV} {l : List {x : Int // i64R x}} (v : FzV 1 a l.length (l.flatMap fun x => i64c x.1)) : ∃ L : List Int, FzV 1 a L.length (L.flatMap i64c) ∧ ∀ x ∈ L, i64R x := by
  refine ⟨l.map (·.1), ?_, fun x hx => ?_⟩
  · rw [List.length_map, List.flatMap_map]; exact v
  · obtain ⟨y, _, rfl⟩ := List.mem_map.mp hx; exact y.2
end Go.Ev
set_option linter.unusedSectionVars false
namespace Go.Ev
open Go
section
variable {bar : Nat} {g : H}
theorem mask_lt (a : Int) (n : Nat) (hn : 0 < n) : ∃ k : Nat, a % (n : Int) = k ∧ k < n := by
  have h1 : 0 ≤ a % (n : Int) := Int.emod_nonneg _ (by omega)
  have h2 : a % (n : Int) < n := Int.emod_lt_of_pos _ (by omega)
  exact ⟨(a % (n : Int)).toNat, by omega, by omega⟩
theorem m127 (a : Int) : IntKind.i64.wrap ((BitVec.ofInt 64 a &&& 127#64).toNat : Nat) = a % 128 := andI_mask a 7 (by omega)
end
end Go.Ev
set_option linter.unusedSectionVars false
namespace Go.Ev
open Go
section
variable {bar : Nat} {g : H}
theorem bit1 (x : Int) : ((BitVec.ofInt 64 x &&& 1#64).toNat : Int) = x % 2 := by
  rw [BitVec.toNat_and, BitVec.toNat_ofInt]
  have : (1#64 : BitVec 64).toNat = 1 := rfl
  rw [this, Nat.and_one_is_mod]
  omega
end
end Go.Ev
set_option linter.unusedSectionVars false
namespace Go.Ev
open Go
section
variable {bar : Nat} {g : H}
theorem m31 (a : Int) : IntKind.i64.wrap ((BitVec.ofInt 64 a &&& 31#64).toNat : Nat) = a % 32 := andI_mask a 5 (by omega)
theorem m15 (a : Int) : IntKind.i64.wrap ((BitVec.ofInt 64 a &&& 15#64).toNat : Nat) = a % 16 := andI_mask a 4 (by omega)
theorem m40 (a : Int) : IntKind.i64.wrap ((BitVec.ofInt 64 a &&& 1099511627775#64).toNat : Nat) = a % 1099511627776 := andI_mask a 40 (by omega)
theorem dbl_text : TextOk ⟨#[91, 98, 33, 63, 126, 59, 97, 46, 43, 65, 98, 32, 49, 45, 66, 93, 97]⟩ dblC := ⟨by kernel_rfl, by kernel_rfl, rfl, by kernel_rfl, rfl, rfl⟩
theorem dbl_l {a : Int} {k : Nat} (hk : k ≤ 127) {v : Int} (Q : Ex → Env → H → Prop) (hq : ∀ e, e.get 6 = some (.int .i64 v) → e.get 7 = some (.bool true) → e.get 8 = some (.int .i64 (dblW a k)) → Q (.exit 0) e g) : ∀ (n i : Nat), k = i + n →
    wpL (call tb prim) bar [5, 6, 7, 8, 9] l0_engramtop_TopDoubles [(5, .int .i64 k), (6, .int .i64 v), (7, .bool true), (8, .int .i64 (dblW a i)), (9, .int .i64 i)] g Q
  | 0, i, h => by
    have hi : i = k := by omega
    subst hi
    refine M_loop l0_engramtop_TopDoubles.eq_1 ?_
    simp [go_sem]
    exact hq _ rfl rfl rfl
  | n + 1, i, h => by
    refine M_loop l0_engramtop_TopDoubles.eq_1 ?_
    have hlt : (i : Int) < (k : Int) := by omega
    have hw := w64_succ (n := i) (by omega)
    simp [go_sem, hlt, hw]
    exact dbl_l hk Q hq n (i + 1) (by omega)
theorem TopDoubles_ok {a b : Int} : call tb prim n_engramtop_TopDoubles [.int .i64 a, .int .i64 b] bar g = some (.bool true, g) := by
  refine call_of tb_engramtop_TopDoubles (callF_pureW rfl rfl (M_in ?_))
  have eA := fun g' => top_awake_ok (bar := g.n) (g := g')
  obtain ⟨k, hk, hk2⟩ := mask_lt b 128 (by omega)
  have hm := m127 b
  rw [show b % 128 = (k : Int) from hk] at hm
  have eS := says_ends (bar := g.n) (g := g) dbl_text (dbl_ends (k := k) (by omega) a)
  simp [f_engramtop_TopDoubles, env0, go_sem, get_alloc, n_alloc, get_set, n_set, get_kill, n_kill, writeAt, a11, a21, a31, a41, a51, a61, a71, isNil]
  erw [hm]
  simp [go_sem, get_alloc, n_alloc, get_set, n_set, get_kill, n_kill, writeAt, a11, a21, a31, a41, a51, a61, a71, isNil, eS]
  refine dbl_l (k := k) (a := a) (by omega) _ (fun e h4 h5 h6 => ?_) k 0 (by omega)
  simp [go_sem, h4, h5, h6, eA]
  simp [go_sem, endP, endI, resultsA, resultA, freezeL, freezeV, AV.free.freeL, AV.free, packA, dropS]
theorem dig_text : TextOk ⟨#[48, 67, 91, 97, 33, 63, 126, 59, 99, 32, 49, 48, 42, 97, 32, 49, 48, 37, 43, 67, 97, 32, 49, 48, 47, 65, 93, 99]⟩ digC := ⟨by kernel_rfl, by kernel_rfl, rfl, by kernel_rfl, rfl, rfl⟩
theorem dig_l {v w : Int} (Q : Ex → Env → H → Prop) (hq : ∀ e, e.get 4 = some (.int .i64 v) → e.get 5 = some (.bool true) → e.get 6 = some (.int .i64 w) → Q (.exit 0) e g) : ∀ (n : Nat) (x c : Int), 0 ≤ x → x < 10 ^ n → x ≤ 9223372036854775807 → digW n x c = w →
    wpL (call tb prim) bar [4, 5, 6, 7] l0_engramtop_TopDigits [(4, .int .i64 v), (5, .bool true), (6, .int .i64 c), (7, .int .i64 x)] g Q
  | 0, x, c, h0, h1, h2, hw => by
    have hx : x = 0 := by simp at h1; omega
    subst hx
    rw [digW] at hw
    subst hw
    refine M_loop l0_engramtop_TopDigits.eq_1 ?_
    simp [go_sem]
    exact hq _ rfl rfl rfl
  | n + 1, x, c, h0, h1, h2, hw => by
    refine M_loop l0_engramtop_TopDigits.eq_1 ?_
    rw [Int.pow_succ] at h1
    by_cases hx : x ≤ 0
    · have hx0 : x = 0 := by omega
      subst hx0
      rw [digW, if_pos hx] at hw
      subst hw
      simp [go_sem]
      exact hq _ rfl rfl rfl
    · rw [digW, if_neg hx] at hw
      have hgt : 0 < x := by omega
      have ht : x.tmod 10 = x % 10 := Int.tmod_eq_emod_of_nonneg (by omega)
      have hq2 : x.tdiv 10 = x / 10 := Int.tdiv_eq_ediv_of_nonneg (by omega)
      have w1 : IntKind.i64.wrap (x % 10) = x % 10 := w64 (by omega) (by omega)
      have w2 : IntKind.i64.wrap (x / 10) = x / 10 := w64 (by omega) (by omega)
      simp [go_sem, hgt, ht, w1, hq2, w2]
      exact dig_l Q hq n (x / 10) _ (by omega) (by omega) (by omega) hw
theorem TopDigits_ok {a : Int} : call tb prim n_engramtop_TopDigits [.int .i64 a] bar g = some (.bool true, g) := by
  refine call_of tb_engramtop_TopDigits (callF_pureW rfl rfl (M_in ?_))
  have eA := fun g' => top_awake_ok (bar := g.n) (g := g')
  obtain ⟨x, hx⟩ : ∃ x, x = a % 1099511627776 := ⟨_, rfl⟩
  have hm := m40 a
  rw [← hx] at hm
  have eS := says_ends (bar := g.n) (g := g) dig_text (dig_ends (a := x) 0 (by omega) (by omega))
  simp [f_engramtop_TopDigits, env0, go_sem, get_alloc, n_alloc, get_set, n_set, get_kill, n_kill, writeAt, a11, a21, a31, a41, a51, a61, a71, isNil]
  erw [hm]
  simp [go_sem, get_alloc, n_alloc, get_set, n_set, get_kill, n_kill, writeAt, a11, a21, a31, a41, a51, a61, a71, isNil, eS]
  refine dig_l (v := digW 13 x 0) _ (fun e h4 h5 h6 => ?_) 13 x 0 (by omega) (by omega) (by omega) rfl
  simp [go_sem, h4, h5, h6, eA]
  simp [go_sem, endP, endI, resultsA, resultA, freezeL, freezeV, AV.free.freeL, AV.free, packA, dropS]
theorem root_text : TextOk ⟨#[48, 67, 49, 32, 50, 49, 194, 171, 68, 91, 100, 32, 99, 45, 49, 61, 63, 126, 59, 99, 100, 43, 50, 47, 66, 98, 98, 42, 97, 60, 98, 98, 42, 97, 61, 124, 63, 98, 67, 58, 98, 68, 59, 93, 99]⟩ rootC := ⟨by kernel_rfl, by kernel_rfl, rfl, by kernel_rfl, rfl, rfl⟩
theorem TopRoots_ok {a : Int} : call tb prim n_engramtop_TopRoots [.int .i64 a] bar g = some (.bool true, g) := by
  refine call_of tb_engramtop_TopRoots (callF_pureW rfl rfl (M_in ?_))
  have eA := fun g' => top_awake_ok (bar := g.n) (g := g')
  obtain ⟨x, hx⟩ : ∃ x, x = a % 1099511627776 := ⟨_, rfl⟩
  have hm := m40 a
  rw [← hx] at hm
  obtain ⟨v, hE, h0, h1, h2, h3⟩ := root_ends (fs := [⟨102, 2, _⟩]) (cs := [rootC]) (m := zeroM 1 8) (r := ⟨[], []⟩) (a := x) 0 (by omega) (by omega)
  have eS := says_ends (bar := g.n) (g := g) root_text hE
  have b1 : (v + 1) * (v + 1) ≤ 2097152 * 2097152 := Int.mul_le_mul (by omega) (by omega) (by omega) (by omega)
  have b2 : 0 ≤ v * v := Int.mul_nonneg h0 h0
  have w1 : IntKind.i64.wrap (v * v) = v * v := w64 (by omega) (by omega)
  have w2 : IntKind.i64.wrap (v + 1) = v + 1 := w64 (by omega) (by omega)
  have w3 : IntKind.i64.wrap ((v + 1) * (v + 1)) = (v + 1) * (v + 1) := w64 (by omega) (by omega)
  simp [f_engramtop_TopRoots, env0, go_sem, get_alloc, n_alloc, get_set, n_set, get_kill, n_kill, writeAt, a11, a21, a31, a41, a51, a61, a71, isNil]
  erw [hm]
  simp [go_sem, get_alloc, n_alloc, get_set, n_set, get_kill, n_kill, writeAt, a11, a21, a31, a41, a51, a61, a71, isNil, eS, h0, w1, w2, w3, h2, h3, eA]
  simp [go_sem, endP, endI, resultsA, resultA, freezeL, freezeV, AV.free.freeL, AV.free, packA, dropS]
theorem nest_text : TextOk ⟨#[48, 67, 91, 97, 33, 63, 126, 59, 98, 68, 91, 100, 33, 63, 126, 59, 99, 32, 49, 43, 67, 100, 32, 49, 45, 68, 93, 97, 32, 49, 45, 65, 93, 99]⟩ nestC := ⟨by kernel_rfl, by kernel_rfl, rfl, by kernel_rfl, rfl, rfl⟩
theorem TopNested_ok {a b : Int} : call tb prim n_engramtop_TopNested [.int .i64 a, .int .i64 b] bar g = some (.bool true, g) := by
  refine call_of tb_engramtop_TopNested (callF_pureW rfl rfl (M_in ?_))
  have eA := fun g' => top_awake_ok (bar := g.n) (g := g')
  obtain ⟨x, hx, hx2⟩ := mask_lt a 32 (by omega)
  obtain ⟨y, hy, hy2⟩ := mask_lt b 32 (by omega)
  have hm := m31 a
  rw [show a % 32 = (x : Int) from hx] at hm
  have hm2 := m31 b
  rw [show b % 32 = (y : Int) from hy] at hm2
  have eS := says_ends (bar := g.n) (g := g) nest_text (nest_ends (x := x) (y := y) (by omega) (by omega))
  have b1 : (x : Int) * y ≤ 31 * 31 := Int.mul_le_mul (by omega) (by omega) (by omega) (by omega)
  have b0 : 0 ≤ (x : Int) * y := Int.mul_nonneg (by omega) (by omega)
  have w1 : IntKind.i64.wrap ((x : Int) * y) = (x : Int) * y := w64 (by omega) (by omega)
  simp [f_engramtop_TopNested, env0, go_sem, get_alloc, n_alloc, get_set, n_set, get_kill, n_kill, writeAt, a11, a21, a31, a41, a51, a61, a71, isNil]
  erw [hm, hm2]
  simp [go_sem, get_alloc, n_alloc, get_set, n_set, get_kill, n_kill, writeAt, a11, a21, a31, a41, a51, a61, a71, isNil, eS, w1, eA]
  simp [go_sem, endP, endI, resultsA, resultA, freezeL, freezeV, AV.free.freeL, AV.free, packA, dropS]
end
end Go.Ev
set_option linter.unusedSectionVars false
namespace Go.Ev
open Go
theorem and255 (x : Int) : ((BitVec.ofInt 64 x &&& 255#64).toNat : Int) = x % 256 := by
  rw [BitVec.toNat_and, BitVec.toNat_ofInt]
  have : (255#64 : BitVec 64).toNat = 2 ^ 8 - 1 := rfl
  rw [this, Nat.and_two_pow_sub_one_eq_mod]
  omega
theorem byteU {a : Int} {i : Nat} (hi : i ≤ 56) : (IntKind.u64.wrap a).fdiv (2 ^ i) % 256 = a / 2 ^ i % 256 := by
  have hp : (0 : Int) < 2 ^ i := Int.pow_pos (by omega)
  rw [Int.fdiv_eq_ediv_of_nonneg _ (by omega)]
  have h1 : ∃ q, a = IntKind.u64.wrap a + 18446744073709551616 * q := by
    rw [IntKind.wrap_u64]; exact ⟨a / 18446744073709551616, by omega⟩
  obtain ⟨q, hq⟩ := h1
  have h2 : (18446744073709551616 : Int) = 2 ^ i * (256 * 2 ^ (56 - i)) := by
    have : (18446744073709551616 : Int) = 2 ^ 64 := by decide
    rw [this, show (64 : Nat) = i + (8 + (56 - i)) by omega, Int.pow_add, Int.pow_add]; rfl
  have h3 : a / 2 ^ i = IntKind.u64.wrap a / 2 ^ i + 256 * (2 ^ (56 - i) * q) := by
    rw [h2] at hq
    conv => lhs; rw [hq, show (2 : Int) ^ i * (256 * 2 ^ (56 - i)) * q = 2 ^ i * (256 * (2 ^ (56 - i) * q)) by rw [Int.mul_assoc, Int.mul_assoc]]
    rw [Int.add_mul_ediv_left _ _ (by omega)]
  rw [h3]; omega
theorem leB8 (a : Int) : leB 8 a = [a % 256, a / 2 ^ 8 % 256, a / 2 ^ 16 % 256, a / 2 ^ 24 % 256, a / 2 ^ 32 % 256, a / 2 ^ 40 % 256, a / 2 ^ 48 % 256, a / 2 ^ 56 % 256] := by
  have h : ∀ n : Nat, a / 2 ^ n / 256 = a / 2 ^ (n + 8) := fun n => by
    rw [Int.ediv_ediv_of_nonneg (Int.le_of_lt (Int.pow_pos (by omega))), Int.pow_add]; rfl
  have h0 : a / 256 = a / 2 ^ 8 := rfl
  simp only [leB, h0, h]
def cpW (a b : Int) : Nat → Int
  | 0 => 0
  | n + 1 => cpW a b n + a / 2 ^ (8 * n) % 256 + b / 2 ^ (8 * n) % 256
theorem cpW_rng (a b : Int) : ∀ n, 0 ≤ cpW a b n ∧ cpW a b n ≤ 510 * n
  | 0 => ⟨by simp [cpW], by simp [cpW]⟩
  | n + 1 => by
    have := cpW_rng a b n
    simp only [cpW]
    omega
theorem le1 {y : Int} (h0 : 0 ≤ y) (h1 : y < 256) : wI (leN [y]) = y := by
  have : leN [y] = y := by simp [leN]
  rw [this]; exact wI_eq (by omega) (by omega)
theorem copyV_eq (a b : Int) : copyV a b = cpW a b 8 := by
  have h : ∀ (l : List Int) (d : Int), (∀ y ∈ l, 0 ≤ y ∧ y < 256) → 0 ≤ d → d + 256 * l.length ≤ 1000000 → l.foldl (fun d y => wI (d + wI (leN [(wI (leN [y])) % 256]))) d = d + l.sum := by
    intro l
    induction l with
    | nil => intro d _ _ _; simp
    | cons y r ih =>
      intro d hl h0 h1
      have hy := hl y (List.mem_cons_self ..)
      rw [List.length_cons] at h1
      have e : wI (d + wI (leN [(wI (leN [y])) % 256])) = d + y := by
        rw [le1 hy.1 hy.2, show y % 256 = y by omega, le1 hy.1 hy.2]; exact wI_eq (by omega) (by omega)
      rw [List.foldl_cons, e, ih (d + y) (fun z hz => hl z (List.mem_cons_of_mem _ hz)) (by omega) (by omega), List.sum_cons]
      omega
  unfold copyV
  rw [h _ 0 ?_ (by omega) (by rw [leB8, leB8]; simp)]
  · rw [leB8, leB8]
    simp only [cpW, List.cons_append, List.nil_append, List.sum_cons, List.sum_nil, Nat.reduceMul, Int.zero_add, Int.add_zero]
    have e0 : ∀ x : Int, x / 2 ^ 0 = x := fun x => by simp
    rw [e0, e0]
    ac_rfl
  · intro y hy
    rw [leB8, leB8] at hy
    simp only [List.cons_append, List.nil_append, List.mem_cons, List.not_mem_nil, or_false] at hy
    rcases hy with rfl | rfl | rfl | rfl | rfl | rfl | rfl | rfl | rfl | rfl | rfl | rfl | rfl | rfl | rfl | rfl
    all_goals exact ⟨Int.emod_nonneg _ (by omega), Int.emod_lt_of_pos _ (by omega)⟩
section
variable {bar : Nat} {g : H}
theorem copy_text : TextOk ⟨#[48, 97, 36, 56, 98, 36, 48, 67, 91, 99, 32, 49, 54, 61, 63, 126, 59, 99, 32, 50, 48, 43, 99, 194, 169, 194, 174, 99, 32, 49, 43, 67, 93, 48, 68, 48, 67, 91, 99, 32, 49, 54, 61, 63, 126, 59, 100, 99, 32, 50, 48, 43, 194, 169, 43, 68, 99, 32, 49, 43, 67, 93, 100]⟩ copyC := ⟨by kernel_rfl, by kernel_rfl, rfl, by kernel_rfl, rfl, rfl⟩
theorem copy_l {a b v : Int} (Q : Ex → Env → H → Prop) (hq : ∀ e, e.get 5 = some (.int .i64 v) → e.get 6 = some (.bool true) → e.get 7 = some (.int .i64 (cpW a b 8)) → Q (.exit 0) e g) : ∀ (n k i : Nat), 8 = k + n → i = 8 * k →
    wpL (call tb prim) bar [0, 1, 5, 6, 7, 8] l0_engramtop_TopCopies [(0, .int .i64 a), (1, .int .i64 b), (5, .int .i64 v), (6, .bool true), (7, .int .i64 (cpW a b k)), (8, .int .u64 i)] g Q
  | 0, k, i, h, hi => by
    have hk : k = 8 := by omega
    subst hk
    subst hi
    refine M_loop l0_engramtop_TopCopies.eq_1 ?_
    simp [go_sem]
    exact hq _ rfl rfl rfl
  | n + 1, k, i, h, hi => by
    refine M_loop l0_engramtop_TopCopies.eq_1 ?_
    have hlt : (i : Int) < 64 := by omega
    have hr := cpW_rng a b k
    have hx := and255 ((IntKind.u64.wrap a).fdiv (2 ^ i))
    have hy := and255 ((IntKind.u64.wrap b).fdiv (2 ^ i))
    rw [byteU (by omega)] at hx hy
    have hm : min i 64 = i := by omega
    have w1 : ∀ x : Int, IntKind.u64.wrap (x % 256) = x % 256 := fun x => wu64 (by omega) (by omega)
    have w2 : ∀ x : Int, IntKind.i64.wrap (x % 256) = x % 256 := fun x => w64 (by omega) (by omega)
    have w3 : IntKind.i64.wrap (cpW a b k + a / 2 ^ i % 256) = cpW a b k + a / 2 ^ i % 256 := w64 (by omega) (by omega)
    have w5 : IntKind.i64.wrap (cpW a b k + a / 2 ^ i % 256 + b / 2 ^ i % 256) = cpW a b k + a / 2 ^ i % 256 + b / 2 ^ i % 256 := w64 (by omega) (by omega)
    have w4 : IntKind.u64.wrap ((i : Int) + 8) = ((i + 8 : Nat) : Int) := by rw [wu64 (by omega) (by omega)]; omega
    have hi0 : ¬ (i : Int) < 0 := by omega
    have hW : cpW a b (k + 1) = cpW a b k + a / 2 ^ i % 256 + b / 2 ^ i % 256 := by rw [cpW, hi]
    have hN := copy_l (a := a) (b := b) (v := v) Q hq n (k + 1) (i + 8) (by omega) (by omega)
    rw [hW] at hN
    simp [go_sem, hlt, shiftA, hm, hi0]
    erw [hx, hy]
    simp [go_sem, w1, w2, w3, w4, w5]
    exact hN
theorem TopCopies_ok {a b : Int} : call tb prim n_engramtop_TopCopies [.int .i64 a, .int .i64 b] bar g = some (.bool true, g) := by
  refine call_of tb_engramtop_TopCopies (callF_pureW rfl rfl (M_in ?_))
  have eA := fun g' => top_awake_ok (bar := g.n) (g := g')
  have eS := says_res (bar := g.n) (g := g) copy_text (copy_ends (a := a) (b := b))
  rw [copyV_eq] at eS
  simp [f_engramtop_TopCopies, env0, go_sem, get_alloc, n_alloc, get_set, n_set, get_kill, n_kill, writeAt, a11, a21, a31, a41, a51, a61, a71, isNil, eS]
  refine copy_l (a := a) (b := b) (v := cpW a b 8) _ (fun e h4 h5 h6 => ?_) 8 0 0 (by omega) (by omega)
  simp [go_sem, h4, h5, h6, eA]
  simp [go_sem, endP, endI, resultsA, resultA, freezeL, freezeV, AV.free.freeL, AV.free, packA, dropS]
def byW (a b : Int) : Nat → Nat
  | 0 => 0
  | n + 1 => 2 ^ (8 * n) * ((if n % 2 = 1 then b else a) / 2 ^ (8 * n) % 256).toNat + byW a b n
theorem byW_lt (a b : Int) : ∀ n, byW a b n < 2 ^ (8 * n)
  | 0 => by simp [byW]
  | n + 1 => by
    have h := byW_lt a b n
    have hc : ((if n % 2 = 1 then b else a) / 2 ^ (8 * n) % 256).toNat ≤ 255 := by omega
    simp only [byW]
    rw [show 8 * (n + 1) = 8 * n + 8 by omega, Nat.pow_add]
    have := Nat.mul_le_mul_left (2 ^ (8 * n)) hc
    omega
def byI (a b : Int) : Nat → Int
  | 0 => 0
  | n + 1 => 2 ^ (8 * n) * ((if n % 2 = 1 then b else a) / 2 ^ (8 * n) % 256) + byI a b n
theorem byW_I (a b : Int) : ∀ n, (byW a b n : Int) = byI a b n
  | 0 => rfl
  | n + 1 => by
    have h : ((((if n % 2 = 1 then b else a) / 2 ^ (8 * n) % 256).toNat : Nat) : Int) = (if n % 2 = 1 then b else a) / 2 ^ (8 * n) % 256 := Int.toNat_of_nonneg (Int.emod_nonneg _ (by omega))
    simp only [byW, byI]
    rw [← byW_I a b n, Int.natCast_add, Int.natCast_mul, h]
    simp
theorem byteV_eq (a b : Int) : byteV a b = wI (byW a b 8) := by
  have m : ∀ x : Int, (wI (leN [x % 256])) % 256 = x % 256 := fun x => by rw [le1 (by omega) (by omega)]; omega
  have e0 : ∀ x : Int, x / 2 ^ 0 = x := fun x => by simp
  rw [byW_I]
  unfold byteV
  rw [leB8, leB8]
  congr 1
  simp only [List.zip_cons_cons, List.zip_nil_right, List.zipIdx_cons, List.zipIdx_nil, List.map_cons, List.map_nil, byI, Nat.reduceMul, Nat.reduceMod, Nat.reduceAdd, Nat.zero_add, if_true, reduceIte, Nat.reduceEqDiff, e0, m]
  simp only [leN]
  generalize a % 256 = x0
  generalize b / 2 ^ 8 % 256 = x1
  generalize a / 2 ^ 16 % 256 = x2
  generalize b / 2 ^ 24 % 256 = x3
  generalize a / 2 ^ 32 % 256 = x4
  generalize b / 2 ^ 40 % 256 = x5
  generalize a / 2 ^ 48 % 256 = x6
  generalize b / 2 ^ 56 % 256 = x7
  omega
theorem byte_text : TextOk ⟨#[48, 97, 36, 56, 98, 36, 48, 67, 91, 99, 32, 56, 61, 63, 126, 59, 99, 32, 49, 54, 43, 99, 32, 49, 38, 63, 99, 32, 56, 43, 58, 99, 59, 194, 169, 194, 174, 99, 32, 49, 43, 67, 93, 49, 54, 64]⟩ byteC := ⟨by kernel_rfl, by kernel_rfl, rfl, by kernel_rfl, rfl, rfl⟩
theorem orAdd {i : Nat} (hi : i < 8) {w c : Nat} (hw : w < 2 ^ (8 * i)) (hc : c < 256) : ((BitVec.ofInt 64 (w : Int) ||| BitVec.ofInt 64 ((2 ^ (8 * i) * c : Nat) : Int)).toNat : Int) = ((2 ^ (8 * i) * c + w : Nat) : Int) := by
  have h64 : 2 ^ (8 * i) * c + w < 2 ^ 64 := by
    have h1 : 2 ^ (8 * i) * c + w < 2 ^ (8 * i) * 256 := by
      have := Nat.mul_le_mul_left (2 ^ (8 * i)) (show c + 1 ≤ 256 by omega)
      rw [Nat.mul_add, Nat.mul_one] at this; omega
    have h2 : 2 ^ (8 * i) * 256 ≤ 2 ^ 64 := by
      rw [show (256 : Nat) = 2 ^ 8 from rfl, ← Nat.pow_add]; exact Nat.pow_le_pow_right (by omega) (by omega)
    omega
  have e1 : (BitVec.ofInt 64 (w : Int)).toNat = w := by
    rw [BitVec.toNat_ofInt]; have : w < 2 ^ 64 := by omega
    omega
  have e2 : (BitVec.ofInt 64 ((2 ^ (8 * i) * c : Nat) : Int)).toNat = 2 ^ (8 * i) * c := by
    rw [BitVec.toNat_ofInt]; have : 2 ^ (8 * i) * c < 2 ^ 64 := by omega
    omega
  rw [BitVec.toNat_or, e1, e2, Nat.two_pow_add_eq_or_of_lt hw, Nat.or_comm]
theorem byte_l {a b v : Int} (Q : Ex → Env → H → Prop) (hq : ∀ e, e.get 5 = some (.int .i64 v) → e.get 6 = some (.bool true) → e.get 7 = some (.int .u64 (byW a b 8 : Nat)) → Q (.exit 0) e g) : ∀ (n i : Nat), 8 = i + n →
    wpL (call tb prim) bar [0, 1, 5, 6, 7, 8] l0_engramtop_TopBytes [(0, .int .i64 a), (1, .int .i64 b), (5, .int .i64 v), (6, .bool true), (7, .int .u64 (byW a b i : Nat)), (8, .int .u64 i)] g Q
  | 0, i, h => by
    have hk : i = 8 := by omega
    subst hk
    refine M_loop l0_engramtop_TopBytes.eq_1 ?_
    simp [go_sem]
    exact hq _ rfl rfl rfl
  | n + 1, i, h => by
    refine M_loop l0_engramtop_TopBytes.eq_1 ?_
    have hi8 : i < 8 := by omega
    have hlt : (i : Int) < 8 := by omega
    obtain ⟨s, hs⟩ : ∃ s, s = 8 * i := ⟨_, rfl⟩
    have hw8 : IntKind.u64.wrap (8 * (i : Int)) = (s : Int) := by rw [wu64 (by omega) (by omega)]; omega
    have hm : min s 64 = s := by omega
    have hs0 : ¬ (s : Int) < 0 := by omega
    have hpar := bit1 (i : Int)
    have hwp : IntKind.u64.wrap ((i : Int) % 2) = (i : Int) % 2 := wu64 (by omega) (by omega)
    have w4 : IntKind.u64.wrap ((i : Int) + 1) = ((i + 1 : Nat) : Int) := by rw [wu64 (by omega) (by omega)]; omega
    have hN := byte_l (a := a) (b := b) (v := v) Q hq n (i + 1) (by omega)
    have hlt2 := byW_lt a b i
    rw [← hs] at hlt2
    have go : ∀ x : Int, (x = if i % 2 = 1 then b else a) → ∃ c : Nat, c < 256 ∧ ((BitVec.ofInt 64 ((IntKind.u64.wrap x).fdiv (2 ^ s)) &&& 255#64).toNat : Int) = (c : Int) ∧ IntKind.u64.wrap (c : Int) = (c : Int) ∧ IntKind.u64.wrap ((c : Int) * 2 ^ s) = ((2 ^ s * c : Nat) : Int) ∧ IntKind.u64.wrap ((BitVec.ofInt 64 ((byW a b i : Nat) : Int) ||| BitVec.ofInt 64 ((2 ^ s * c : Nat) : Int)).toNat : Int) = ((byW a b (i + 1) : Nat) : Int) := fun x hx => by
      have hy := and255 ((IntKind.u64.wrap x).fdiv (2 ^ s))
      rw [byteU (by omega)] at hy
      have hb : byW a b (i + 1) = 2 ^ s * (x / 2 ^ s % 256).toNat + byW a b i := by rw [byW, hx, hs]
      have hc : (x / 2 ^ s % 256).toNat < 256 := by omega
      have hc2 : (((x / 2 ^ s % 256).toNat : Nat) : Int) = x / 2 ^ s % 256 := by omega
      have hbl := byW_lt a b (i + 1)
      have h64 : 2 ^ (8 * (i + 1)) ≤ 2 ^ 64 := Nat.pow_le_pow_right (by omega) (by omega)
      refine ⟨(x / 2 ^ s % 256).toNat, hc, by rw [hc2]; exact hy, wu64 (by omega) (by omega), ?_, ?_⟩
      · have hp : ((((x / 2 ^ s % 256).toNat : Nat) : Int) * 2 ^ s) = ((2 ^ s * (x / 2 ^ s % 256).toNat : Nat) : Int) := by
          rw [Int.natCast_mul, Int.mul_comm]; simp
        rw [hp]; exact wu64 (by omega) (by omega)
      · have := orAdd (i := i) hi8 (w := byW a b i) (c := (x / 2 ^ s % 256).toNat) (by rw [← hs]; exact hlt2) hc
        rw [← hs] at this
        rw [this, hb]
        exact wu64 (by omega) (by omega)
    by_cases c : i % 2 = 1
    · have hc : ((i : Int) % 2 == 1) = true := by simp; omega
      obtain ⟨y, hy1, hy2, hy3, hy4, hy5⟩ := go b (by rw [if_pos c])
      simp [go_sem, hlt, hi8, shiftA]
      erw [hpar]
      simp [go_sem, hwp, hc, hw8, hm, hs0, shiftA]
      erw [hy2]
      simp [go_sem, hy3, hy4]
      rw [show BitVec.ofNat 64 (byW a b i) = BitVec.ofInt 64 ((byW a b i : Nat) : Int) from (BitVec.ofInt_natCast ..).symm, show (2 : Int) ^ s * (y : Int) = ((2 ^ s * y : Nat) : Int) by simp, w4]
      erw [hy5]
      exact hN
    · have hc : ((i : Int) % 2 == 1) = false := by simp; omega
      obtain ⟨y, hy1, hy2, hy3, hy4, hy5⟩ := go a (by rw [if_neg c])
      simp [go_sem, hlt, hi8, shiftA]
      erw [hpar]
      simp [go_sem, hwp, hc, hw8, hm, hs0, shiftA]
      erw [hy2]
      simp [go_sem, hy3, hy4]
      rw [show BitVec.ofNat 64 (byW a b i) = BitVec.ofInt 64 ((byW a b i : Nat) : Int) from (BitVec.ofInt_natCast ..).symm, show (2 : Int) ^ s * (y : Int) = ((2 ^ s * y : Nat) : Int) by simp, w4]
      erw [hy5]
      exact hN
theorem TopBytes_ok {a b : Int} : call tb prim n_engramtop_TopBytes [.int .i64 a, .int .i64 b] bar g = some (.bool true, g) := by
  refine call_of tb_engramtop_TopBytes (callF_pureW rfl rfl (M_in ?_))
  have eA := fun g' => top_awake_ok (bar := g.n) (g := g')
  have eS := says_res (bar := g.n) (g := g) byte_text (byte_ends (a := a) (b := b))
  rw [byteV_eq] at eS
  have hlt := byW_lt a b 8
  have hw : IntKind.u64.wrap (wI (byW a b 8 : Nat)) = ((byW a b 8 : Nat) : Int) := by
    obtain ⟨q, hq⟩ := wI_mod ((byW a b 8 : Nat) : Int)
    rw [hq, IntKind.wrap_u64]
    omega
  obtain ⟨v, hv⟩ : ∃ v, v = wI (byW a b 8 : Nat) := ⟨_, rfl⟩
  rw [← hv] at hw eS
  simp [f_engramtop_TopBytes, env0, go_sem, get_alloc, n_alloc, get_set, n_set, get_kill, n_kill, writeAt, a11, a21, a31, a41, a51, a61, a71, isNil, eS]
  refine byte_l (a := a) (b := b) (v := v) _ (fun e h4 h5 h6 => ?_) 8 0 (by omega)
  simp [go_sem, h4, h5, h6, hw, eA]
  simp [go_sem, endP, endI, resultsA, resultA, freezeL, freezeV, AV.free.freeL, AV.free, packA, dropS]
end
end Go.Ev
set_option linter.unusedSectionVars false
namespace Go.Ev
open Go
section
variable {bar : Nat} {g : H}
theorem fillO1 (nm : Int) (s : ByteArray) : fillA [.int .i32 0, .int .i64 0, .str ⟨#[]⟩] [(0, 1, .int .i32 nm), (1, 1, .int .i64 1), (2, 1, .str s)] = some [.int .i32 nm, .int .i64 1, .str s] := by
  rw [fillA_one rfl (by simp), fillA_one rfl (by simp [splice]), fillA_one rfl (by simp [splice])]; rfl
theorem fillO13 (nm : Int) (s : ByteArray) : fillA [.int .i32 0, .int .i64 0, .str ⟨#[]⟩] [(0, 3, .agg [.int .i32 nm, .int .i64 1, .str s])] = some [.int .i32 nm, .int .i64 1, .str s] := by
  rw [fillA_cons (n := 3) (v := .agg [.int .i32 nm, .int .i64 1, .str s]) rfl (by simp) rfl]; rfl
theorem fillO1U {a : AV} (h : a.one = true) : fillA [.int .i64 0, .int .i64 0, .nilsl] [(2, 1, a)] = some [.int .i64 0, .int .i64 0, a] := by
  rw [fillA_one h (by simp)]; rfl
theorem fillO1i (a : Int) : fillA [.int .i64 0] [(0, 1, .int .i64 a)] = some [.int .i64 a] := by
  rw [fillA_one rfl (by simp)]; rfl
theorem even_unit : UnitOk 0 0 [⟨111, 1, ⟨#[97, 63, 97, 32, 49, 45, 63, 97, 32, 50, 45, 206, 187, 111, 58, 49, 59, 58, 48, 59]⟩⟩] [evenC] := by
  refine ⟨by kernel_rfl, fun f hf => ?_, fun f hf k hk => ?_, fun f hf => ?_, by simp, by kernel_rfl⟩
  · rw [List.mem_singleton] at hf; subst hf
    refine ⟨evenC.to, by kernel_rfl, fun x hx => ?_⟩
    have : evenC.to.all (fun x => decide (x ≤ 2000)) = true := rfl
    rw [List.all_eq_true] at this
    simpa using this x hx
  · rw [List.mem_singleton] at hf; subst hf
    have : (gTok ⟨#[97, 63, 97, 32, 49, 45, 63, 97, 32, 50, 45, 206, 187, 111, 58, 49, 59, 58, 48, 59]⟩).1.all (fun k => sigOk k.sign) = true := by kernel_rfl
    rw [List.all_eq_true] at this
    exact this k hk
  · rw [List.mem_singleton] at hf; subst hf; exact ⟨by show (0 : Int) ≤ 1; omega, by show (1 : Int) ≤ 26; omega⟩
theorem fac_unit : UnitOk 0 0 [⟨102, 1, ⟨#[97, 63, 97, 97, 32, 49, 45, 206, 187, 102, 42, 58, 49, 59]⟩⟩] [facC] := by
  refine ⟨by kernel_rfl, fun f hf => ?_, fun f hf k hk => ?_, fun f hf => ?_, by simp, by kernel_rfl⟩
  · rw [List.mem_singleton] at hf; subst hf
    refine ⟨facC.to, by kernel_rfl, fun x hx => ?_⟩
    have : facC.to.all (fun x => decide (x ≤ 2000)) = true := rfl
    rw [List.all_eq_true] at this
    simpa using this x hx
  · rw [List.mem_singleton] at hf; subst hf
    have : (gTok ⟨#[97, 63, 97, 97, 32, 49, 45, 206, 187, 102, 42, 58, 49, 59]⟩).1.all (fun k => sigOk k.sign) = true := by kernel_rfl
    rw [List.all_eq_true] at this
    exact this k hk
  · rw [List.mem_singleton] at hf; subst hf; exact ⟨by show (0 : Int) ≤ 1; omega, by show (1 : Int) ≤ 26; omega⟩
theorem TopEvens_ok {a : Int} : call tb prim n_engramtop_TopEvens [.int .i64 a] bar g = some (.bool true, g) := by
  refine call_of tb_engramtop_TopEvens (callF_pureW rfl rfl (M_in ?_))
  have eA := fun g' => top_awake_ok (bar := g.n) (g := g')
  obtain ⟨k, hk, hk2⟩ := mask_lt a 16 (by omega)
  have hm := m15 a
  rw [show a % 16 = (k : Int) from hk] at hm
  have hr := List.all_eq_true.mp (even_all ⟨#[97, 63, 97, 32, 49, 45, 63, 97, 32, 50, 45, 206, 187, 111, 58, 49, 59, 58, 48, 59]⟩) k (List.mem_range.mpr hk2)
  simp only [beq_iff_eq] at hr
  obtain ⟨ga, hga⟩ : ∃ ga, ga = ((g.alloc (.cells [.int .i32 111, .int .i64 1, .str ⟨#[97, 63, 97, 32, 49, 45, 63, 97, 32, 50, 45, 206, 187, 111, 58, 49, 59, 58, 48, 59]⟩] 0)).alloc (.cells [.int .i64 0, .int .i64 0, .nilsl] 0)).set (g.n + 1) (.cells [.int .i64 0, .int .i64 0, .sl g.n 0 3 1 true] 0) := ⟨_, rfl⟩
  have na : ga.n = g.n + 2 := by rw [hga]; rfl
  have gU : ga.get (g.n + 1) = some (.cells [.int .i64 0, .int .i64 0, .sl g.n 0 3 1 true] 0) := by rw [hga, get_set, if_pos rfl]
  have gF : ga.get g.n = some (.cells [.int .i32 111, .int .i64 1, .str ⟨#[97, 63, 97, 32, 49, 45, 63, 97, 32, 50, 45, 206, 187, 111, 58, 49, 59, 58, 48, 59]⟩] 0) := by
    rw [hga, get_set_ne (by omega), get_alloc, if_neg (by rw [n_alloc]; omega), get_alloc, if_pos rfl]
  have hFV : FV ga (.sl g.n 0 3 1 true) [⟨111, 1, ⟨#[97, 63, 97, 32, 49, 45, 63, 97, 32, 50, 45, 206, 187, 111, 58, 49, 59, 58, 48, 59]⟩⟩] := ⟨rfl, by simp, .inr (.inr ⟨g.n, 0, true, _, 0, rfl, by omega, gF, by simp, rfl⟩)⟩
  cases hrun : runM [⟨111, 1, ⟨#[97, 63, 97, 32, 49, 45, 63, 97, 32, 50, 45, 206, 187, 111, 58, 49, 59, 58, 48, 59]⟩⟩] [evenC] 999 (M1 evenC (zeroM 0 0) ⟨[], []⟩ 0 (lc k 0 0 0 0 0 0 0) []) with
  | none => rw [hrun] at hr; cases hr
  | some x =>
    obtain ⟨s', v, n'⟩ := x
    rw [hrun] at hr
    have hcode : codeW ⟨111, 1, ⟨#[97, 63, 97, 32, 49, 45, 63, 97, 32, 50, 45, 206, 187, 111, 58, 49, 59, 58, 48, 59]⟩⟩ = evenC := by kernel_rfl
    obtain ⟨g2, M, g3, g5, xa, e2, e3, n3, n2, k2, k3, e5, hxa, n5, _⟩ := run_new (bar := g.n) (g := ga) even_unit hFV (by omega) (pages := 0) (most := 0) (by omega) (by omega) (nm := 111) (fuel := 999) (by omega) (by omega) (k := 0) rfl (f := ⟨111, 1, ⟨#[97, 63, 97, 32, 49, 45, 63, 97, 32, 50, 45, 206, 187, 111, 58, 49, 59, 58, 48, 59]⟩⟩) rfl (args := [(k : Int)]) rfl (by simp) (by rw [hcode]; exact hrun)
    unfold runRes at e5
    rw [show ((0 : Nat) : Int) = 0 from rfl] at e2
    have gU2 : g2.get (g.n + 1) = some (.cells [.int .i64 0, .int .i64 0, .sl g.n 0 3 1 true] 0) := by rw [k2 _ (by omega)]; exact gU
    have gU3 : g3.get (g.n + 1) = some (.cells [.int .i64 0, .int .i64 0, .sl g.n 0 3 1 true] 0) := by rw [k3 _ (by omega)]; exact gU2
    have hall : ([.int .i64 v, .int .i64 s'.trap, .int .i64 n', xa] : List AV).all AV.one = true := by
      show (true && (true && (true && (xa.one && true)))) = true
      rw [hxa.one]; rfl
    have hU1 := fun (x : AV) (h : x.one = true) => fillO1U h
    have hb5 : g.n ≤ g5.n := by omega
    simp [f_engramtop_TopEvens, env0, go_sem, get_alloc, n_alloc, get_set, n_set, get_kill, n_kill, writeAt, a11, a21, a31, a41, a51, a61, a71, isNil, evParts, fillO1, fillO13, AV.cells, hU1, spT3]
    erw [hm]
    simp only [← hga]
    have hb3 : ¬ g.n + 1 = g3.n := by omega
    have gU4 : (g3.alloc (.cells [.int .i64 (k : Int)] 0)).get (g.n + 1) = some (.cells [.int .i64 0, .int .i64 0, .sl g.n 0 3 1 true] 0) := by rw [get_alloc, if_neg (by omega)]; exact gU3
    rw [show (List.map (AV.int .i64) [(k : Int)]) = [.int .i64 (k : Int)] from rfl, show [(k : Int)].length = 1 from rfl] at e5
    refine ⟨⟨sees_of rfl ?_, sees_of rfl ?_, sees_of rfl ?_, sees_mk rfl ?_⟩, ?_⟩
    · simp [-getElem?_pos, R_nil, R_cons, RS_some, sameV_some, seesQ_some, List.take, List.take_succ_cons, List.take_zero, go_sem, get_alloc, n_alloc, get_set, n_set, get_kill, n_kill, writeAt, a11, a21, a31, a41, a51, a61, a71, isNil, gU, gU2, gU3, e2, e3, evParts, fillO1i, List.getElem?_cons_zero, List.getElem?_cons_succ]
    · simp [-getElem?_pos, R_nil, R_cons, RS_some, sameV_some, seesQ_some, List.take, List.take_succ_cons, List.take_zero, go_sem, get_alloc, n_alloc, get_set, n_set, get_kill, n_kill, writeAt, a11, a21, a31, a41, a51, a61, a71, isNil, gU, gU2, gU3, e2, e3, evParts, fillO1i, List.getElem?_cons_zero, List.getElem?_cons_succ]
    · simp [-getElem?_pos, R_nil, R_cons, RS_some, sameV_some, seesQ_some, List.take, List.take_succ_cons, List.take_zero, go_sem, get_alloc, n_alloc, get_set, n_set, get_kill, n_kill, writeAt, a11, a21, a31, a41, a51, a61, a71, isNil, gU, gU2, gU3, hb3, e2, e3, evParts, fillO1i, List.getElem?_cons_zero, List.getElem?_cons_succ]
    · simp [-getElem?_pos, R_nil, R_cons, RS_some, sameV_some, seesQ_some, List.take, List.take_succ_cons, List.take_zero, go_sem, get_alloc, n_alloc, get_set, n_set, get_kill, n_kill, writeAt, a11, a21, a31, a41, a51, a61, a71, isNil, gU, gU2, gU3, e2, e3, evParts, fillO1i, freesQ_some, freeV_some, AV.free, List.getElem?_cons_zero, List.getElem?_cons_succ]
    simp [go_sem, get_alloc, n_alloc, get_set, n_set, get_kill, n_kill, writeAt, a11, a21, a31, a41, a51, a61, a71, isNil, gU, e2, e3, e5, evParts, fillO1i, AV.cells, hall, sp40]
    simp only [resM, Option.map_some, Option.some.injEq, Prod.mk.injEq] at hr
    obtain ⟨hr1, hr2⟩ := hr
    have ht : (k : Int).tmod 2 = (k : Int) % 2 := Int.tmod_eq_emod_of_nonneg (by omega)
    have w1 : IntKind.i64.wrap ((k : Int) % 2) = (k : Int) % 2 := w64 (by omega) (by omega)
    simp [go_sem, get_alloc, n_alloc, get_set, n_set, get_kill, n_kill, writeAt, a11, a21, a31, a41, a51, a61, a71, isNil, hb5, hr1, hr2, ht, w1, eA]
    simp [go_sem, endP, endI, resultsA, resultA, freezeL, freezeV, AV.free.freeL, AV.free, packA, dropS]
def fcW : Nat → Int
  | 0 => 1
  | n + 1 => wI (fcW n * (n + 2))
theorem fac_fc : ∀ n, facW (n + 1) = fcW n
  | 0 => by decide +kernel
  | n + 1 => by
    rw [facW, fac_fc n, fcW]
    congr 2
theorem fac_l {K : Int} (hk : K ≤ 30) {x5 x6 : AV} {w : Int} (Q : Ex → Env → H → Prop) (hq : ∀ e, e.get 5 = some x5 → e.get 6 = some x6 → e.get 7 = some (.int .i64 w) → Q (.exit 0) e g) : ∀ (n i : Nat), (K - 1 - i).toNat = n → fcW (i + n) = w →
    wpL (call tb prim) bar [3, 5, 6, 7, 8] l0_engramtop_TopFactorials [(3, .int .i64 K), (5, x5), (6, x6), (7, .int .i64 (fcW i)), (8, .int .i64 ((i : Int) + 2))] g Q
  | 0, i, h, hw => by
    refine M_loop l0_engramtop_TopFactorials.eq_1 ?_
    have hlt : ¬ (i : Int) + 2 ≤ K := by omega
    simp [go_sem, hlt]
    exact hq _ rfl rfl (by rw [← hw]; rfl)
  | n + 1, i, h, hw => by
    refine M_loop l0_engramtop_TopFactorials.eq_1 ?_
    have hlt : (i : Int) + 2 ≤ K := by omega
    have hs : IntKind.i64.wrap ((i : Int) + 2 + 1) = ((i + 1 : Nat) : Int) + 2 := by rw [w64 (by omega) (by omega)]; omega
    have hN := fac_l hk Q hq n (i + 1) (by omega) (by rw [← hw]; congr 1; omega)
    simp [go_sem, hlt, hs]
    exact hN
theorem facW_fc : ∀ k : Nat, facW k = fcW (0 + ((k : Int) - 1 - (0 : Nat)).toNat)
  | 0 => by decide +kernel
  | k + 1 => by rw [fac_fc, show 0 + (((k + 1 : Nat) : Int) - 1 - (0 : Nat)).toNat = k by omega]
theorem fac_small {a : Int} {k : Nat} (hk2 : k < 30) (hm : IntKind.i64.wrap ((BitVec.ofInt 64 a &&& 31#64).toNat : Nat) = (k : Int)) : call tb prim n_engramtop_TopFactorials [.int .i64 a] bar g = some (.bool true, g) := by
  refine call_of tb_engramtop_TopFactorials (callF_pureW rfl rfl (M_in ?_))
  have eA := fun g' => top_awake_ok (bar := g.n) (g := g')
  have hr := List.all_eq_true.mp (fac_all ⟨#[97, 63, 97, 97, 32, 49, 45, 206, 187, 102, 42, 58, 49, 59]⟩) k (List.mem_range.mpr hk2)
  simp only [beq_iff_eq] at hr
  obtain ⟨ga, hga⟩ : ∃ ga, ga = ((g.alloc (.cells [.int .i32 102, .int .i64 1, .str ⟨#[97, 63, 97, 97, 32, 49, 45, 206, 187, 102, 42, 58, 49, 59]⟩] 0)).alloc (.cells [.int .i64 0, .int .i64 0, .nilsl] 0)).set (g.n + 1) (.cells [.int .i64 0, .int .i64 0, .sl g.n 0 3 1 true] 0) := ⟨_, rfl⟩
  have na : ga.n = g.n + 2 := by rw [hga]; rfl
  have gU : ga.get (g.n + 1) = some (.cells [.int .i64 0, .int .i64 0, .sl g.n 0 3 1 true] 0) := by rw [hga, get_set, if_pos rfl]
  have gF : ga.get g.n = some (.cells [.int .i32 102, .int .i64 1, .str ⟨#[97, 63, 97, 97, 32, 49, 45, 206, 187, 102, 42, 58, 49, 59]⟩] 0) := by
    rw [hga, get_set_ne (by omega), get_alloc, if_neg (by rw [n_alloc]; omega), get_alloc, if_pos rfl]
  have hFV : FV ga (.sl g.n 0 3 1 true) [⟨102, 1, ⟨#[97, 63, 97, 97, 32, 49, 45, 206, 187, 102, 42, 58, 49, 59]⟩⟩] := ⟨rfl, by simp, .inr (.inr ⟨g.n, 0, true, _, 0, rfl, by omega, gF, by simp, rfl⟩)⟩
  cases hrun : runM [⟨102, 1, ⟨#[97, 63, 97, 97, 32, 49, 45, 206, 187, 102, 42, 58, 49, 59]⟩⟩] [facC] 999 (M1 facC (zeroM 0 0) ⟨[], []⟩ 0 (lc k 0 0 0 0 0 0 0) []) with
  | none => rw [hrun] at hr; cases hr
  | some x =>
    obtain ⟨s', v, n'⟩ := x
    rw [hrun] at hr
    have hcode : codeW ⟨102, 1, ⟨#[97, 63, 97, 97, 32, 49, 45, 206, 187, 102, 42, 58, 49, 59]⟩⟩ = facC := by kernel_rfl
    obtain ⟨g2, M, g3, g5, xa, e2, e3, n3, n2, k2, k3, e5, hxa, n5, _⟩ := run_new (bar := g.n) (g := ga) fac_unit hFV (by omega) (pages := 0) (most := 0) (by omega) (by omega) (nm := 102) (fuel := 999) (by omega) (by omega) (k := 0) rfl (f := ⟨102, 1, ⟨#[97, 63, 97, 97, 32, 49, 45, 206, 187, 102, 42, 58, 49, 59]⟩⟩) rfl (args := [(k : Int)]) rfl (by simp) (by rw [hcode]; exact hrun)
    unfold runRes at e5
    rw [show ((0 : Nat) : Int) = 0 from rfl] at e2
    have gU2 : g2.get (g.n + 1) = some (.cells [.int .i64 0, .int .i64 0, .sl g.n 0 3 1 true] 0) := by rw [k2 _ (by omega)]; exact gU
    have gU3 : g3.get (g.n + 1) = some (.cells [.int .i64 0, .int .i64 0, .sl g.n 0 3 1 true] 0) := by rw [k3 _ (by omega)]; exact gU2
    have hall : ([.int .i64 v, .int .i64 s'.trap, .int .i64 n', xa] : List AV).all AV.one = true := by
      show (true && (true && (true && (xa.one && true)))) = true
      rw [hxa.one]; rfl
    have hU1 := fun (x : AV) (h : x.one = true) => fillO1U h
    have hb5 : g.n ≤ g5.n := by omega
    simp [f_engramtop_TopFactorials, env0, go_sem, get_alloc, n_alloc, get_set, n_set, get_kill, n_kill, writeAt, a11, a21, a31, a41, a51, a61, a71, isNil]
    erw [hm]
    simp [go_sem, get_alloc, n_alloc, get_set, n_set, get_kill, n_kill, writeAt, a11, a21, a31, a41, a51, a61, a71, isNil, show ¬ 29 < (k : Int) by omega, evParts, fillO1, fillO13, AV.cells, hU1, spT3]
    simp only [← hga]
    have hb3 : ¬ g.n + 1 = g3.n := by omega
    have gU4 : (g3.alloc (.cells [.int .i64 (k : Int)] 0)).get (g.n + 1) = some (.cells [.int .i64 0, .int .i64 0, .sl g.n 0 3 1 true] 0) := by rw [get_alloc, if_neg (by omega)]; exact gU3
    rw [show (List.map (AV.int .i64) [(k : Int)]) = [.int .i64 (k : Int)] from rfl, show [(k : Int)].length = 1 from rfl] at e5
    refine ⟨⟨sees_of rfl ?_, sees_of rfl ?_, sees_of rfl ?_, sees_mk rfl ?_⟩, ?_⟩
    · simp [-getElem?_pos, R_nil, R_cons, RS_some, sameV_some, seesQ_some, List.take, List.take_succ_cons, List.take_zero, go_sem, get_alloc, n_alloc, get_set, n_set, get_kill, n_kill, writeAt, a11, a21, a31, a41, a51, a61, a71, isNil, gU, gU2, gU3, e2, e3, evParts, fillO1i, List.getElem?_cons_zero, List.getElem?_cons_succ]
    · simp [-getElem?_pos, R_nil, R_cons, RS_some, sameV_some, seesQ_some, List.take, List.take_succ_cons, List.take_zero, go_sem, get_alloc, n_alloc, get_set, n_set, get_kill, n_kill, writeAt, a11, a21, a31, a41, a51, a61, a71, isNil, gU, gU2, gU3, e2, e3, evParts, fillO1i, List.getElem?_cons_zero, List.getElem?_cons_succ]
    · simp [-getElem?_pos, R_nil, R_cons, RS_some, sameV_some, seesQ_some, List.take, List.take_succ_cons, List.take_zero, go_sem, get_alloc, n_alloc, get_set, n_set, get_kill, n_kill, writeAt, a11, a21, a31, a41, a51, a61, a71, isNil, gU, gU2, gU3, hb3, e2, e3, evParts, fillO1i, List.getElem?_cons_zero, List.getElem?_cons_succ]
    · simp [-getElem?_pos, R_nil, R_cons, RS_some, sameV_some, seesQ_some, List.take, List.take_succ_cons, List.take_zero, go_sem, get_alloc, n_alloc, get_set, n_set, get_kill, n_kill, writeAt, a11, a21, a31, a41, a51, a61, a71, isNil, gU, gU2, gU3, e2, e3, evParts, fillO1i, freesQ_some, freeV_some, AV.free, List.getElem?_cons_zero, List.getElem?_cons_succ]
    simp [go_sem, get_alloc, n_alloc, get_set, n_set, get_kill, n_kill, writeAt, a11, a21, a31, a41, a51, a61, a71, isNil, gU, e2, e3, e5, evParts, fillO1i, AV.cells, hall, sp40]
    simp only [resM, Option.map_some, Option.some.injEq, Prod.mk.injEq] at hr
    obtain ⟨hr1, hr2⟩ := hr
    simp [go_sem, get_alloc, n_alloc, get_set, n_set, get_kill, n_kill, writeAt, a11, a21, a31, a41, a51, a61, a71, isNil, hb5]
    refine fac_l (K := (k : Int)) (w := facW k) (by omega) _ (fun e h4 h5 h6 => ?_) _ 0 rfl (facW_fc k).symm
    simp [go_sem, get_alloc, n_alloc, get_set, n_set, get_kill, n_kill, writeAt, a11, a21, a31, a41, a51, a61, a71, isNil, h4, h5, h6, hr1, hr2, hb5, eA]
    simp [go_sem, endP, endI, resultsA, resultA, freezeL, freezeV, AV.free.freeL, AV.free, packA, dropS]
theorem fac_big {a : Int} {x : Int} (hx : 29 < x) (hm : IntKind.i64.wrap ((BitVec.ofInt 64 a &&& 31#64).toNat : Nat) = x) : call tb prim n_engramtop_TopFactorials [.int .i64 a] bar g = some (.bool true, g) := by
  refine call_of tb_engramtop_TopFactorials (callF_pureW rfl rfl (M_in ?_))
  have eA := fun g' => top_awake_ok (bar := g.n) (g := g')
  have hr := List.all_eq_true.mp (fac_all ⟨#[97, 63, 97, 97, 32, 49, 45, 206, 187, 102, 42, 58, 49, 59]⟩) 7 (List.mem_range.mpr (by omega))
  simp only [beq_iff_eq] at hr
  change resM (runM [⟨102, 1, ⟨#[97, 63, 97, 97, 32, 49, 45, 206, 187, 102, 42, 58, 49, 59]⟩⟩] [facC] 999 (M1 facC (zeroM 0 0) ⟨[], []⟩ 0 (lc 7 0 0 0 0 0 0 0) [])) = some (0, facW 7) at hr
  obtain ⟨ga, hga⟩ : ∃ ga, ga = ((g.alloc (.cells [.int .i32 102, .int .i64 1, .str ⟨#[97, 63, 97, 97, 32, 49, 45, 206, 187, 102, 42, 58, 49, 59]⟩] 0)).alloc (.cells [.int .i64 0, .int .i64 0, .nilsl] 0)).set (g.n + 1) (.cells [.int .i64 0, .int .i64 0, .sl g.n 0 3 1 true] 0) := ⟨_, rfl⟩
  have na : ga.n = g.n + 2 := by rw [hga]; rfl
  have gU : ga.get (g.n + 1) = some (.cells [.int .i64 0, .int .i64 0, .sl g.n 0 3 1 true] 0) := by rw [hga, get_set, if_pos rfl]
  have gF : ga.get g.n = some (.cells [.int .i32 102, .int .i64 1, .str ⟨#[97, 63, 97, 97, 32, 49, 45, 206, 187, 102, 42, 58, 49, 59]⟩] 0) := by
    rw [hga, get_set_ne (by omega), get_alloc, if_neg (by rw [n_alloc]; omega), get_alloc, if_pos rfl]
  have hFV : FV ga (.sl g.n 0 3 1 true) [⟨102, 1, ⟨#[97, 63, 97, 97, 32, 49, 45, 206, 187, 102, 42, 58, 49, 59]⟩⟩] := ⟨rfl, by simp, .inr (.inr ⟨g.n, 0, true, _, 0, rfl, by omega, gF, by simp, rfl⟩)⟩
  cases hrun : runM [⟨102, 1, ⟨#[97, 63, 97, 97, 32, 49, 45, 206, 187, 102, 42, 58, 49, 59]⟩⟩] [facC] 999 (M1 facC (zeroM 0 0) ⟨[], []⟩ 0 (lc 7 0 0 0 0 0 0 0) []) with
  | none => rw [hrun] at hr; cases hr
  | some x =>
    obtain ⟨s', v, n'⟩ := x
    rw [hrun] at hr
    have hcode : codeW ⟨102, 1, ⟨#[97, 63, 97, 97, 32, 49, 45, 206, 187, 102, 42, 58, 49, 59]⟩⟩ = facC := by kernel_rfl
    obtain ⟨g2, M, g3, g5, xa, e2, e3, n3, n2, k2, k3, e5, hxa, n5, _⟩ := run_new (bar := g.n) (g := ga) fac_unit hFV (by omega) (pages := 0) (most := 0) (by omega) (by omega) (nm := 102) (fuel := 999) (by omega) (by omega) (k := 0) rfl (f := ⟨102, 1, ⟨#[97, 63, 97, 97, 32, 49, 45, 206, 187, 102, 42, 58, 49, 59]⟩⟩) rfl (args := [(7 : Int)]) rfl (by simp) (by rw [hcode]; exact hrun)
    unfold runRes at e5
    rw [show ((0 : Nat) : Int) = 0 from rfl] at e2
    have gU2 : g2.get (g.n + 1) = some (.cells [.int .i64 0, .int .i64 0, .sl g.n 0 3 1 true] 0) := by rw [k2 _ (by omega)]; exact gU
    have gU3 : g3.get (g.n + 1) = some (.cells [.int .i64 0, .int .i64 0, .sl g.n 0 3 1 true] 0) := by rw [k3 _ (by omega)]; exact gU2
    have hall : ([.int .i64 v, .int .i64 s'.trap, .int .i64 n', xa] : List AV).all AV.one = true := by
      show (true && (true && (true && (xa.one && true)))) = true
      rw [hxa.one]; rfl
    have hU1 := fun (x : AV) (h : x.one = true) => fillO1U h
    have hb5 : g.n ≤ g5.n := by omega
    simp [f_engramtop_TopFactorials, env0, go_sem, get_alloc, n_alloc, get_set, n_set, get_kill, n_kill, writeAt, a11, a21, a31, a41, a51, a61, a71, isNil]
    erw [hm]
    simp [go_sem, get_alloc, n_alloc, get_set, n_set, get_kill, n_kill, writeAt, a11, a21, a31, a41, a51, a61, a71, isNil, hx, evParts, fillO1, fillO13, AV.cells, hU1, spT3]
    simp only [← hga]
    have hb3 : ¬ g.n + 1 = g3.n := by omega
    have gU4 : (g3.alloc (.cells [.int .i64 (7 : Int)] 0)).get (g.n + 1) = some (.cells [.int .i64 0, .int .i64 0, .sl g.n 0 3 1 true] 0) := by rw [get_alloc, if_neg (by omega)]; exact gU3
    rw [show (List.map (AV.int .i64) [(7 : Int)]) = [.int .i64 (7 : Int)] from rfl, show [(7 : Int)].length = 1 from rfl] at e5
    refine ⟨⟨sees_of rfl ?_, sees_of rfl ?_, sees_of rfl ?_, sees_mk rfl ?_⟩, ?_⟩
    · simp [-getElem?_pos, R_nil, R_cons, RS_some, sameV_some, seesQ_some, List.take, List.take_succ_cons, List.take_zero, go_sem, get_alloc, n_alloc, get_set, n_set, get_kill, n_kill, writeAt, a11, a21, a31, a41, a51, a61, a71, isNil, gU, gU2, gU3, e2, e3, evParts, fillO1i, List.getElem?_cons_zero, List.getElem?_cons_succ]
    · simp [-getElem?_pos, R_nil, R_cons, RS_some, sameV_some, seesQ_some, List.take, List.take_succ_cons, List.take_zero, go_sem, get_alloc, n_alloc, get_set, n_set, get_kill, n_kill, writeAt, a11, a21, a31, a41, a51, a61, a71, isNil, gU, gU2, gU3, e2, e3, evParts, fillO1i, List.getElem?_cons_zero, List.getElem?_cons_succ]
    · simp [-getElem?_pos, R_nil, R_cons, RS_some, sameV_some, seesQ_some, List.take, List.take_succ_cons, List.take_zero, go_sem, get_alloc, n_alloc, get_set, n_set, get_kill, n_kill, writeAt, a11, a21, a31, a41, a51, a61, a71, isNil, gU, gU2, gU3, hb3, e2, e3, evParts, fillO1i, List.getElem?_cons_zero, List.getElem?_cons_succ]
    · simp [-getElem?_pos, R_nil, R_cons, RS_some, sameV_some, seesQ_some, List.take, List.take_succ_cons, List.take_zero, go_sem, get_alloc, n_alloc, get_set, n_set, get_kill, n_kill, writeAt, a11, a21, a31, a41, a51, a61, a71, isNil, gU, gU2, gU3, e2, e3, evParts, fillO1i, freesQ_some, freeV_some, AV.free, List.getElem?_cons_zero, List.getElem?_cons_succ]
    simp [go_sem, get_alloc, n_alloc, get_set, n_set, get_kill, n_kill, writeAt, a11, a21, a31, a41, a51, a61, a71, isNil, gU, e2, e3, e5, evParts, fillO1i, AV.cells, hall, sp40]
    simp only [resM, Option.map_some, Option.some.injEq, Prod.mk.injEq] at hr
    obtain ⟨hr1, hr2⟩ := hr
    simp [go_sem, get_alloc, n_alloc, get_set, n_set, get_kill, n_kill, writeAt, a11, a21, a31, a41, a51, a61, a71, isNil, hb5]
    refine fac_l (K := (7 : Int)) (w := facW 7) (by omega) _ (fun e h4 h5 h6 => ?_) _ 0 rfl (facW_fc 7).symm
    simp [go_sem, get_alloc, n_alloc, get_set, n_set, get_kill, n_kill, writeAt, a11, a21, a31, a41, a51, a61, a71, isNil, h4, h5, h6, hr1, hr2, hb5, eA]
    simp [go_sem, endP, endI, resultsA, resultA, freezeL, freezeV, AV.free.freeL, AV.free, packA, dropS]
theorem TopFactorials_ok {a : Int} : call tb prim n_engramtop_TopFactorials [.int .i64 a] bar g = some (.bool true, g) := by
  obtain ⟨y, hy, hy2⟩ := mask_lt a 32 (by omega)
  have hm : IntKind.i64.wrap ((BitVec.ofInt 64 a &&& 31#64).toNat : Nat) = (y : Int) := by rw [m31]; exact hy
  by_cases c : 29 < y
  · exact fac_big (x := y) (by omega) hm
  · exact fac_small (k := y) (by omega) hm
end
end Go.Ev
