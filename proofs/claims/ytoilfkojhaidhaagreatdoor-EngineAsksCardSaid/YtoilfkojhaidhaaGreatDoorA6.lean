/- Part 6 of the proof that a law of this seat (the one that GOCLAIM.json names) returns true for every argument; nothing is assumed. -/
import Derived.Test.YtoilfkojhaidhaaGreatDoorA5
set_option linter.unusedSimpArgs false
set_option linter.unusedVariables false
set_option linter.all false
set_option linter.unusedSectionVars false
namespace Go.Ev
open Go
theorem tP_A {t k : Nat} (h : tP t k) : tA k := by unfold tP tS at h; unfold tA; omega
theorem tM_A {t k : Nat} (h : tM t k) : tA k := by unfold tM tS at h; unfold tA; omega
theorem tC_A {t k : Nat} (h : tC t k) : tA k := by unfold tC tS at h; unfold tA; omega
theorem sgG_no {s : Int} (h : sgG s = true) : (s == 48) = false ∧ ¬ (97 ≤ s ∧ s ≤ 122) ∧ ¬ (65 ≤ s ∧ s ≤ 90) ∧ (s == 955) = false := by
  have h' : s = 43 ∨ s = 45 ∨ s = 42 ∨ s = 47 ∨ s = 37 ∨ s = 38 ∨ s = 124 ∨ s = 94 ∨ s = 60 ∨ s = 61 ∨ s = 33 ∨ s = 46 ∨ s = 44 ∨ s = 64 ∨ s = 36 ∨ s = 35 ∨ s = 63 ∨ s = 58 ∨ s = 59 ∨ s = 91 ∨ s = 93 ∨ s = 126 ∨ s = 171 ∨ s = 187 ∨ s = 169 ∨ s = 174 ∨ s = 164 ∨ s = 161 ∨ s = 960 := by simpa [sgG] using h
  refine ⟨?_, ?_, ?_, ?_⟩
  · simp; omega
  · omega
  · omega
  · simp; omega
section
variable {bar b : Nat} {g : H} {own : Nat → Nat} {C : Cx} {tr val : Int} {ids : List Nat} {t : Nat} {f : Fm} {id i : Nat} {m : Mem} {r : Row}
theorem step_call {k : Tok} (vx : XO g b own C tr val ids) (cx : CxV g own C) (vf : FrO g b own t f id) (hb : bar ≤ b) (hbg : b ≤ g.n) (hk : f.c.l[f.at']? = some k) (hs : k.sign = 955) {kk : Nat} (hkk : findN k.name C.fs 0 = kk) {x : AV × AV × Code'} (hx : C.rows[kk]? = some x) {a : Nat} (ha : x.2.2.args = a) (hal : a ≤ f.st.length) (hids : ids.length < 1000) :
    ∃ g' own', call tb prim n_engine_runner_step [.ptr C.X 0, .ptr id 0] bar g = some (.tup [], g') ∧ FrO g' b own' t { f with at' := f.at' + 1, st := f.st.drop a } id ∧ Kp own (tC t) g g' ∧ Agr g.n own own' ∧
      ((32 ≤ ids.length ∧ XO g' b own' C 6 val ids) ∨ (ids.length < 32 ∧ ∃ i, XO g' b own' C tr val (i :: ids) ∧ FrO g' b own' ids.length (newF x.2.2 (argsOf a f.st)) i)) := by
  obtain ⟨fc, n, cs, full, hget, h0, h3, hcl, hix, hle, hrow, hlt, ha6⟩ := vf.head hk
  have vz := vf.mono (tokZ_kp (k := k) (S := fun _ => False)) (Agr.ext (k := 0)) (by simp) (by simp)
  have hne : id ≠ g.n := by omega
  have hbn : bar ≤ g.n := by omega
  have hw : IntKind.i64.wrap ((f.at' : Int) + 1) = ((f.at' + 1 : Nat) : Int) := w64_succ (by omega)
  obtain ⟨fd, fe, hget1, h31, hle1, hsp1, hbid, v1, k1⟩ := vz.next hb ha6
  have xz := vx.mono (tokZ_kp (k := k) (S := fun _ => False)) (Agr.ext (k := 0)) (by simp)
  have cz := cx.mono (tokZ_kp (k := k) (S := fun _ => False)) (Agr.ext (k := 0)) (by simp)
  obtain ⟨g1, hg1⟩ : ∃ g1, g1 = (tokZ g k).set id (.cells fe 0) := ⟨_, rfl⟩
  rw [← hg1] at v1 k1
  have x1 := xz.mono k1 Agr.refl (tS1 t)
  have c1 := cz.mono k1 Agr.refl (tS0 t)
  obtain ⟨g2, own2, e2, v2, k2, a2, h2⟩ := calls_ok (bar := bar) x1 c1 v1 hb (by have := k1.1; rw [tokZ_n] at this; omega) hkk hx ha hal hids
  have hget' : g.get id = some (.cells fd 0) := by rw [tokZ_ne hne] at hget1; exact hget1
  rw [hget] at hget'
  cases hget'
  have hq : (k.sign == 48) = false := by simp [hs]
  have hq2 : decide (97 ≤ k.sign) = true := by simp [hs]
  have hq3 : decide (k.sign ≤ 122) = false := by simp [hs]
  have hq4 : decide (65 ≤ k.sign) = true := by simp [hs]
  have hq5 : decide (k.sign ≤ 90) = false := by simp [hs]
  have hq6 : (k.sign == 955) = true := by simp [hs]
  have hne2 : g.n ≠ id := fun q => hne q.symm
  simp only [tokZ, tokC] at hg1
  obtain ⟨y, g9, hcall, rfl, rfl⟩ := callF_K (o := call tb prim) (F := f_engine_runner_step) (bar := bar) (h := g) (args := [.ptr C.X 0, .ptr id 0]) (P := fun y g9 => y = .tup [] ∧ g9 = g2) rfl rfl (fun K hK => by
    simp [f_engine_runner_step, env0, go_sem, get_alloc, n_alloc, get_set, n_set, get_kill, n_kill, writeAt, a11, a21, a31, a41, a51, a61, a71, isNil, hget, h0, h3, hcl, hix, hle, hrow]
    refine ⟨⟨sees_of rfl ?_, sees_of rfl ?_, sees_of rfl ?_⟩, ?_⟩
    · simp [-getElem?_pos, R_nil, R_cons, RS_some, sameV_some, seesQ_some, List.take, List.take_succ_cons, List.take_zero, go_sem, get_alloc, n_alloc, get_set, n_set, get_kill, n_kill, writeAt, a11, a21, a31, a41, a51, a61, a71, isNil, hget, h0, h3, hcl, hix, hle, hrow, hne, hbn, tokC, spT3, List.getElem?_cons_zero, List.getElem?_cons_succ]
    · simp [-getElem?_pos, R_nil, R_cons, RS_some, sameV_some, seesQ_some, List.take, List.take_succ_cons, List.take_zero, go_sem, get_alloc, n_alloc, get_set, n_set, get_kill, n_kill, writeAt, a11, a21, a31, a41, a51, a61, a71, isNil, hget, h0, h3, hcl, hix, hle, hrow, hne, hbn, tokC, spT3, List.getElem?_cons_zero, List.getElem?_cons_succ]
    · simp [-getElem?_pos, R_nil, R_cons, RS_some, sameV_some, seesQ_some, List.take, List.take_succ_cons, List.take_zero, go_sem, get_alloc, n_alloc, get_set, n_set, get_kill, n_kill, writeAt, a11, a21, a31, a41, a51, a61, a71, isNil, hget, h0, h3, hcl, hix, hle, hrow, hne, hbn, tokC, spT3, List.getElem?_cons_zero, List.getElem?_cons_succ]
    simp [go_sem, get_alloc, n_alloc, get_set, n_set, get_kill, n_kill, writeAt, a11, a21, a31, a41, a51, a61, a71, isNil, hget, h0, h3, hcl, hix, hle, hrow, hbn, tokC, spT3, hq, hq2, hq3, hq4, hq5, hq6, hne, hne2, h31, hw, hle1, hsp1, hbid]
    rw [← hg1]
    simp [go_sem, get_alloc, n_alloc, get_set, n_set, get_kill, n_kill, writeAt, a11, a21, a31, a41, a51, a61, a71, isNil, e2]
    simp [go_sem, endP, endI, resultsA, resultA, freezeL, freezeV, AV.free.freeL, AV.free, packA, dropS]
    exact ⟨_, _, ⟨rfl, rfl⟩, hK _ _ ⟨rfl, rfl⟩⟩)
  exact ⟨_, _, call_of tb_engine_runner_step hcall, v2, (tokZ_kp (k := k)).trans Agr.ext ((k1.le fun k h => .inr (.inr h)).trans Agr.refl k2), Agr.trans Agr.ext a2 (by rw [hg1, n_set]; exact Nat.le_succ _), h2⟩
theorem step_goes {k : Tok} {f' : Fm} (vf : FrO g b own t f id) (hb : bar ≤ b) (hk : f.c.l[f.at']? = some k) (hs : sgG k.sign = true) (hgo : isGo k.sign = true) (X : AV)
    (hG : ∃ g1, call tb prim n_engine_runner_goes [X, .ptr id 0, .int .i32 k.sign] bar (tokZ g k) = some (.tup [], g1) ∧ FrO g1 b (ext own g.n 0) t f' id ∧ Kp (ext own g.n 0) (tS t) (tokZ g k) g1) (hbg : b ≤ g.n) :
    ∃ g' own', call tb prim n_engine_runner_step [X, .ptr id 0] bar g = some (.tup [], g') ∧ FrO g' b own' t f' id ∧ Kp own (tS t) g g' ∧ Agr g.n own own' := by
  obtain ⟨fc, n, cs, full, hget, h0, h3, hcl, hix, hle, hrow, hlt, ha6⟩ := vf.head hk
  have vz := vf.mono (tokZ_kp (k := k) (S := fun _ => False)) (Agr.ext (k := 0)) (by simp) (by simp)
  have hne : id ≠ g.n := by omega
  have hbn : bar ≤ g.n := by omega
  have hw : IntKind.i64.wrap ((f.at' : Int) + 1) = ((f.at' + 1 : Nat) : Int) := w64_succ (by omega)
  obtain ⟨g1, e1, v1, k1⟩ := hG
  obtain ⟨hq, hs1, hs2, hq6⟩ := sgG_no hs
  have hq7 := fun g => con_a (bar := bar) (g := g) hs
  rw [hgo] at hq7
  simp only [tokZ, tokC] at e1
  obtain ⟨y, g9, hcall, rfl, rfl⟩ := callF_K (o := call tb prim) (F := f_engine_runner_step) (bar := bar) (h := g) (args := [X, .ptr id 0]) (P := fun y g9 => y = .tup [] ∧ g9 = g1) rfl rfl (fun K hK => by
    rcases sg_cases hs1 hs2 with ⟨hq2, hq3⟩ | ⟨hq2, hq3, hq4⟩ | ⟨hq2, hq3, hq4, hq5⟩
    · simp [f_engine_runner_step, env0, go_sem, get_alloc, n_alloc, get_set, n_set, get_kill, n_kill, writeAt, a11, a21, a31, a41, a51, a61, a71, isNil, hget, h0, h3, hcl, hix, hle, hrow]
      refine ⟨⟨sees_of rfl ?_, sees_of rfl ?_, sees_of rfl ?_⟩, ?_⟩
      · simp [-getElem?_pos, R_nil, R_cons, RS_some, sameV_some, seesQ_some, List.take, List.take_succ_cons, List.take_zero, go_sem, get_alloc, n_alloc, get_set, n_set, get_kill, n_kill, writeAt, a11, a21, a31, a41, a51, a61, a71, isNil, hget, h0, h3, hcl, hix, hle, hrow, hne, hbn, tokC, spT3, List.getElem?_cons_zero, List.getElem?_cons_succ]
      · simp [-getElem?_pos, R_nil, R_cons, RS_some, sameV_some, seesQ_some, List.take, List.take_succ_cons, List.take_zero, go_sem, get_alloc, n_alloc, get_set, n_set, get_kill, n_kill, writeAt, a11, a21, a31, a41, a51, a61, a71, isNil, hget, h0, h3, hcl, hix, hle, hrow, hne, hbn, tokC, spT3, List.getElem?_cons_zero, List.getElem?_cons_succ]
      · simp [-getElem?_pos, R_nil, R_cons, RS_some, sameV_some, seesQ_some, List.take, List.take_succ_cons, List.take_zero, go_sem, get_alloc, n_alloc, get_set, n_set, get_kill, n_kill, writeAt, a11, a21, a31, a41, a51, a61, a71, isNil, hget, h0, h3, hcl, hix, hle, hrow, hne, hbn, tokC, spT3, List.getElem?_cons_zero, List.getElem?_cons_succ]
      simp [go_sem, get_alloc, n_alloc, get_set, n_set, get_kill, n_kill, writeAt, a11, a21, a31, a41, a51, a61, a71, isNil, hget, h0, h3, hcl, hix, hle, hrow, hbn, tokC, spT3, hq, hq6, hq7, e1, hq2, hq3]
      simp [go_sem, endP, endI, resultsA, resultA, freezeL, freezeV, AV.free.freeL, AV.free, packA, dropS]
      exact ⟨_, _, ⟨rfl, rfl⟩, hK _ _ ⟨rfl, rfl⟩⟩
    · simp [f_engine_runner_step, env0, go_sem, get_alloc, n_alloc, get_set, n_set, get_kill, n_kill, writeAt, a11, a21, a31, a41, a51, a61, a71, isNil, hget, h0, h3, hcl, hix, hle, hrow]
      refine ⟨⟨sees_of rfl ?_, sees_of rfl ?_, sees_of rfl ?_⟩, ?_⟩
      · simp [-getElem?_pos, R_nil, R_cons, RS_some, sameV_some, seesQ_some, List.take, List.take_succ_cons, List.take_zero, go_sem, get_alloc, n_alloc, get_set, n_set, get_kill, n_kill, writeAt, a11, a21, a31, a41, a51, a61, a71, isNil, hget, h0, h3, hcl, hix, hle, hrow, hne, hbn, tokC, spT3, List.getElem?_cons_zero, List.getElem?_cons_succ]
      · simp [-getElem?_pos, R_nil, R_cons, RS_some, sameV_some, seesQ_some, List.take, List.take_succ_cons, List.take_zero, go_sem, get_alloc, n_alloc, get_set, n_set, get_kill, n_kill, writeAt, a11, a21, a31, a41, a51, a61, a71, isNil, hget, h0, h3, hcl, hix, hle, hrow, hne, hbn, tokC, spT3, List.getElem?_cons_zero, List.getElem?_cons_succ]
      · simp [-getElem?_pos, R_nil, R_cons, RS_some, sameV_some, seesQ_some, List.take, List.take_succ_cons, List.take_zero, go_sem, get_alloc, n_alloc, get_set, n_set, get_kill, n_kill, writeAt, a11, a21, a31, a41, a51, a61, a71, isNil, hget, h0, h3, hcl, hix, hle, hrow, hne, hbn, tokC, spT3, List.getElem?_cons_zero, List.getElem?_cons_succ]
      simp [go_sem, get_alloc, n_alloc, get_set, n_set, get_kill, n_kill, writeAt, a11, a21, a31, a41, a51, a61, a71, isNil, hget, h0, h3, hcl, hix, hle, hrow, hbn, tokC, spT3, hq, hq6, hq7, e1, hq2, hq3, hq4]
      simp [go_sem, endP, endI, resultsA, resultA, freezeL, freezeV, AV.free.freeL, AV.free, packA, dropS]
      exact ⟨_, _, ⟨rfl, rfl⟩, hK _ _ ⟨rfl, rfl⟩⟩
    · simp [f_engine_runner_step, env0, go_sem, get_alloc, n_alloc, get_set, n_set, get_kill, n_kill, writeAt, a11, a21, a31, a41, a51, a61, a71, isNil, hget, h0, h3, hcl, hix, hle, hrow]
      refine ⟨⟨sees_of rfl ?_, sees_of rfl ?_, sees_of rfl ?_⟩, ?_⟩
      · simp [-getElem?_pos, R_nil, R_cons, RS_some, sameV_some, seesQ_some, List.take, List.take_succ_cons, List.take_zero, go_sem, get_alloc, n_alloc, get_set, n_set, get_kill, n_kill, writeAt, a11, a21, a31, a41, a51, a61, a71, isNil, hget, h0, h3, hcl, hix, hle, hrow, hne, hbn, tokC, spT3, List.getElem?_cons_zero, List.getElem?_cons_succ]
      · simp [-getElem?_pos, R_nil, R_cons, RS_some, sameV_some, seesQ_some, List.take, List.take_succ_cons, List.take_zero, go_sem, get_alloc, n_alloc, get_set, n_set, get_kill, n_kill, writeAt, a11, a21, a31, a41, a51, a61, a71, isNil, hget, h0, h3, hcl, hix, hle, hrow, hne, hbn, tokC, spT3, List.getElem?_cons_zero, List.getElem?_cons_succ]
      · simp [-getElem?_pos, R_nil, R_cons, RS_some, sameV_some, seesQ_some, List.take, List.take_succ_cons, List.take_zero, go_sem, get_alloc, n_alloc, get_set, n_set, get_kill, n_kill, writeAt, a11, a21, a31, a41, a51, a61, a71, isNil, hget, h0, h3, hcl, hix, hle, hrow, hne, hbn, tokC, spT3, List.getElem?_cons_zero, List.getElem?_cons_succ]
      simp [go_sem, get_alloc, n_alloc, get_set, n_set, get_kill, n_kill, writeAt, a11, a21, a31, a41, a51, a61, a71, isNil, hget, h0, h3, hcl, hix, hle, hrow, hbn, tokC, spT3, hq, hq6, hq7, e1, hq2, hq3, hq4, hq5]
      simp [go_sem, endP, endI, resultsA, resultA, freezeL, freezeV, AV.free.freeL, AV.free, packA, dropS]
      exact ⟨_, _, ⟨rfl, rfl⟩, hK _ _ ⟨rfl, rfl⟩⟩)
  exact ⟨_, _, call_of tb_engine_runner_step hcall, v1, (tokZ_kp (k := k)).trans Agr.ext k1, Agr.ext⟩
theorem step_mem {k : Tok} {x : Option (List Int × Mem × Int)} (vx : XO g b own C tr val ids) (vf : FrO g b own t f id) (vm : MemO g b own C.M m) (hb : bar ≤ b) (hbg : b ≤ g.n) (hk : f.c.l[f.at']? = some k) (hs : sgG k.sign = true) (hgo : isGo k.sign = false) (hme : isMemS k.sign = true)
    (hM : ∀ own0 : Nat → Nat, XO (tokZ g k) b own0 C tr val ids → FrO (tokZ g k) b own0 t f id → MemO (tokZ g k) b own0 C.M m → b ≤ (tokZ g k).n → MemR bar b (tokZ g k) own0 C val ids t f id k.sign x) :
    ∀ st m' tr', x = some (st, m', tr') → ∃ g' own', call tb prim n_engine_runner_step [.ptr C.X 0, .ptr id 0] bar g = some (.tup [], g') ∧ FrO g' b own' t { f with at' := f.at' + 1, st := st } id ∧ XO g' b own' C tr' val ids ∧ MemO g' b own' C.M m' ∧ Kp own (tM t) g g' ∧ Agr g.n own own' := by
  intro st m' tr' hxx
  obtain ⟨fc, n, cs, full, hget, h0, h3, hcl, hix, hle, hrow, hlt, ha6⟩ := vf.head hk
  have vz := vf.mono (tokZ_kp (k := k) (S := fun _ => False)) (Agr.ext (k := 0)) (by simp) (by simp)
  have hne : id ≠ g.n := by omega
  have hbn : bar ≤ g.n := by omega
  have hw : IntKind.i64.wrap ((f.at' : Int) + 1) = ((f.at' + 1 : Nat) : Int) := w64_succ (by omega)
  have xz := vx.mono (tokZ_kp (k := k) (S := fun _ => False)) (Agr.ext (k := 0)) (by simp)
  have mz := vm.mono (tokZ_kp (k := k) (S := fun _ => False)) (Agr.ext (k := 0)) (by simp)
  obtain ⟨g1, own1, e1, v1, x1, m1, k1, a1⟩ := hM _ xz vz mz (by rw [tokZ_n]; omega) st m' tr' hxx
  obtain ⟨fd, fe, hget1, h31, hle1, hsp1, hbid, v2, k2⟩ := v1.next hb ha6
  simp only at h31 hsp1
  have x2 := x1.mono k2 Agr.refl (tS1 t)
  have m2 := m1.mono k2 Agr.refl (tS3 t)
  obtain ⟨hq, hs1, hs2, hq6⟩ := sgG_no hs
  have hq7 := fun g => con_a (bar := bar) (g := g) hs
  rw [hgo] at hq7
  have hq8 := fun g => con_b (bar := bar) (g := g) hs
  rw [hme] at hq8
  simp only [tokZ, tokC] at e1
  obtain ⟨y, g9, hcall, rfl, rfl⟩ := callF_K (o := call tb prim) (F := f_engine_runner_step) (bar := bar) (h := g) (args := [.ptr C.X 0, .ptr id 0]) (P := fun y g9 => y = .tup [] ∧ g9 = g1.set id (.cells fe 0)) rfl rfl (fun K hK => by
    rcases sg_cases hs1 hs2 with ⟨hq2, hq3⟩ | ⟨hq2, hq3, hq4⟩ | ⟨hq2, hq3, hq4, hq5⟩
    · simp [f_engine_runner_step, env0, go_sem, get_alloc, n_alloc, get_set, n_set, get_kill, n_kill, writeAt, a11, a21, a31, a41, a51, a61, a71, isNil, hget, h0, h3, hcl, hix, hle, hrow]
      refine ⟨⟨sees_of rfl ?_, sees_of rfl ?_, sees_of rfl ?_⟩, ?_⟩
      · simp [-getElem?_pos, R_nil, R_cons, RS_some, sameV_some, seesQ_some, List.take, List.take_succ_cons, List.take_zero, go_sem, get_alloc, n_alloc, get_set, n_set, get_kill, n_kill, writeAt, a11, a21, a31, a41, a51, a61, a71, isNil, hget, h0, h3, hcl, hix, hle, hrow, hne, hbn, tokC, spT3, List.getElem?_cons_zero, List.getElem?_cons_succ]
      · simp [-getElem?_pos, R_nil, R_cons, RS_some, sameV_some, seesQ_some, List.take, List.take_succ_cons, List.take_zero, go_sem, get_alloc, n_alloc, get_set, n_set, get_kill, n_kill, writeAt, a11, a21, a31, a41, a51, a61, a71, isNil, hget, h0, h3, hcl, hix, hle, hrow, hne, hbn, tokC, spT3, List.getElem?_cons_zero, List.getElem?_cons_succ]
      · simp [-getElem?_pos, R_nil, R_cons, RS_some, sameV_some, seesQ_some, List.take, List.take_succ_cons, List.take_zero, go_sem, get_alloc, n_alloc, get_set, n_set, get_kill, n_kill, writeAt, a11, a21, a31, a41, a51, a61, a71, isNil, hget, h0, h3, hcl, hix, hle, hrow, hne, hbn, tokC, spT3, List.getElem?_cons_zero, List.getElem?_cons_succ]
      simp [go_sem, get_alloc, n_alloc, get_set, n_set, get_kill, n_kill, writeAt, a11, a21, a31, a41, a51, a61, a71, isNil, hget, h0, h3, hcl, hix, hle, hrow, hbn, tokC, spT3, hq, hq6, hq7, hq8, e1, hget1, h31, hw, hle1, hsp1, hbid, hq2, hq3]
      simp [go_sem, endP, endI, resultsA, resultA, freezeL, freezeV, AV.free.freeL, AV.free, packA, dropS]
      exact ⟨_, _, ⟨rfl, rfl⟩, hK _ _ ⟨rfl, rfl⟩⟩
    · simp [f_engine_runner_step, env0, go_sem, get_alloc, n_alloc, get_set, n_set, get_kill, n_kill, writeAt, a11, a21, a31, a41, a51, a61, a71, isNil, hget, h0, h3, hcl, hix, hle, hrow]
      refine ⟨⟨sees_of rfl ?_, sees_of rfl ?_, sees_of rfl ?_⟩, ?_⟩
      · simp [-getElem?_pos, R_nil, R_cons, RS_some, sameV_some, seesQ_some, List.take, List.take_succ_cons, List.take_zero, go_sem, get_alloc, n_alloc, get_set, n_set, get_kill, n_kill, writeAt, a11, a21, a31, a41, a51, a61, a71, isNil, hget, h0, h3, hcl, hix, hle, hrow, hne, hbn, tokC, spT3, List.getElem?_cons_zero, List.getElem?_cons_succ]
      · simp [-getElem?_pos, R_nil, R_cons, RS_some, sameV_some, seesQ_some, List.take, List.take_succ_cons, List.take_zero, go_sem, get_alloc, n_alloc, get_set, n_set, get_kill, n_kill, writeAt, a11, a21, a31, a41, a51, a61, a71, isNil, hget, h0, h3, hcl, hix, hle, hrow, hne, hbn, tokC, spT3, List.getElem?_cons_zero, List.getElem?_cons_succ]
      · simp [-getElem?_pos, R_nil, R_cons, RS_some, sameV_some, seesQ_some, List.take, List.take_succ_cons, List.take_zero, go_sem, get_alloc, n_alloc, get_set, n_set, get_kill, n_kill, writeAt, a11, a21, a31, a41, a51, a61, a71, isNil, hget, h0, h3, hcl, hix, hle, hrow, hne, hbn, tokC, spT3, List.getElem?_cons_zero, List.getElem?_cons_succ]
      simp [go_sem, get_alloc, n_alloc, get_set, n_set, get_kill, n_kill, writeAt, a11, a21, a31, a41, a51, a61, a71, isNil, hget, h0, h3, hcl, hix, hle, hrow, hbn, tokC, spT3, hq, hq6, hq7, hq8, e1, hget1, h31, hw, hle1, hsp1, hbid, hq2, hq3, hq4]
      simp [go_sem, endP, endI, resultsA, resultA, freezeL, freezeV, AV.free.freeL, AV.free, packA, dropS]
      exact ⟨_, _, ⟨rfl, rfl⟩, hK _ _ ⟨rfl, rfl⟩⟩
    · simp [f_engine_runner_step, env0, go_sem, get_alloc, n_alloc, get_set, n_set, get_kill, n_kill, writeAt, a11, a21, a31, a41, a51, a61, a71, isNil, hget, h0, h3, hcl, hix, hle, hrow]
      refine ⟨⟨sees_of rfl ?_, sees_of rfl ?_, sees_of rfl ?_⟩, ?_⟩
      · simp [-getElem?_pos, R_nil, R_cons, RS_some, sameV_some, seesQ_some, List.take, List.take_succ_cons, List.take_zero, go_sem, get_alloc, n_alloc, get_set, n_set, get_kill, n_kill, writeAt, a11, a21, a31, a41, a51, a61, a71, isNil, hget, h0, h3, hcl, hix, hle, hrow, hne, hbn, tokC, spT3, List.getElem?_cons_zero, List.getElem?_cons_succ]
      · simp [-getElem?_pos, R_nil, R_cons, RS_some, sameV_some, seesQ_some, List.take, List.take_succ_cons, List.take_zero, go_sem, get_alloc, n_alloc, get_set, n_set, get_kill, n_kill, writeAt, a11, a21, a31, a41, a51, a61, a71, isNil, hget, h0, h3, hcl, hix, hle, hrow, hne, hbn, tokC, spT3, List.getElem?_cons_zero, List.getElem?_cons_succ]
      · simp [-getElem?_pos, R_nil, R_cons, RS_some, sameV_some, seesQ_some, List.take, List.take_succ_cons, List.take_zero, go_sem, get_alloc, n_alloc, get_set, n_set, get_kill, n_kill, writeAt, a11, a21, a31, a41, a51, a61, a71, isNil, hget, h0, h3, hcl, hix, hle, hrow, hne, hbn, tokC, spT3, List.getElem?_cons_zero, List.getElem?_cons_succ]
      simp [go_sem, get_alloc, n_alloc, get_set, n_set, get_kill, n_kill, writeAt, a11, a21, a31, a41, a51, a61, a71, isNil, hget, h0, h3, hcl, hix, hle, hrow, hbn, tokC, spT3, hq, hq6, hq7, hq8, e1, hget1, h31, hw, hle1, hsp1, hbid, hq2, hq3, hq4, hq5]
      simp [go_sem, endP, endI, resultsA, resultA, freezeL, freezeV, AV.free.freeL, AV.free, packA, dropS]
      exact ⟨_, _, ⟨rfl, rfl⟩, hK _ _ ⟨rfl, rfl⟩⟩)
  exact ⟨_, own1, call_of tb_engine_runner_step hcall, v2, x2, m2, (tokZ_kp (k := k)).trans Agr.ext (k1.trans a1 (k2.le fun k h => tS_M h)), Agr.trans Agr.ext a1 (by rw [tokZ_n]; omega)⟩
theorem step_plain {k : Tok} {x : Option (List Int × Row × Int)} (vx : XO g b own C tr val ids) (vf : FrO g b own t f id) (vr : RowO g b own C.R r) (hb : bar ≤ b) (hbg : b ≤ g.n) (hk : f.c.l[f.at']? = some k) (hs : sgG k.sign = true) (hgo : isGo k.sign = false) (hme : isMemS k.sign = false)
    (hM : ∀ own0 : Nat → Nat, XO (tokZ g k) b own0 C tr val ids → FrO (tokZ g k) b own0 t f id → RowO (tokZ g k) b own0 C.R r → b ≤ (tokZ g k).n → PlainR bar b (tokZ g k) own0 C val ids t f id k x) :
    ∀ st r' tr', x = some (st, r', tr') → ∃ g' own', call tb prim n_engine_runner_step [.ptr C.X 0, .ptr id 0] bar g = some (.tup [], g') ∧ FrO g' b own' t { f with at' := f.at' + 1, st := st } id ∧ XO g' b own' C tr' val ids ∧ RowO g' b own' C.R r' ∧ Kp own (tP t) g g' ∧ Agr g.n own own' := by
  intro st r' tr' hxx
  obtain ⟨fc, n, cs, full, hget, h0, h3, hcl, hix, hle, hrow, hlt, ha6⟩ := vf.head hk
  have vz := vf.mono (tokZ_kp (k := k) (S := fun _ => False)) (Agr.ext (k := 0)) (by simp) (by simp)
  have hne : id ≠ g.n := by omega
  have hbn : bar ≤ g.n := by omega
  have hw : IntKind.i64.wrap ((f.at' : Int) + 1) = ((f.at' + 1 : Nat) : Int) := w64_succ (by omega)
  have xz := vx.mono (tokZ_kp (k := k) (S := fun _ => False)) (Agr.ext (k := 0)) (by simp)
  have rz := vr.mono (tokZ_kp (k := k) (S := fun _ => False)) (Agr.ext (k := 0)) (by simp)
  obtain ⟨g1, own1, e1, v1, x1, r1, k1, a1⟩ := hM _ xz vz rz (by rw [tokZ_n]; omega) st r' tr' hxx
  obtain ⟨fd, fe, hget1, h31, hle1, hsp1, hbid, v2, k2⟩ := v1.next hb ha6
  simp only at h31 hsp1
  have x2 := x1.mono k2 Agr.refl (tS1 t)
  have r2 := r1.mono k2 Agr.refl (tS6 t)
  obtain ⟨hq, hs1, hs2, hq6⟩ := sgG_no hs
  have hq7 := fun g => con_a (bar := bar) (g := g) hs
  rw [hgo] at hq7
  have hq8 := fun g => con_b (bar := bar) (g := g) hs
  rw [hme] at hq8
  simp only [tokZ, tokC, tokA] at e1
  obtain ⟨y, g9, hcall, rfl, rfl⟩ := callF_K (o := call tb prim) (F := f_engine_runner_step) (bar := bar) (h := g) (args := [.ptr C.X 0, .ptr id 0]) (P := fun y g9 => y = .tup [] ∧ g9 = g1.set id (.cells fe 0)) rfl rfl (fun K hK => by
    rcases sg_cases hs1 hs2 with ⟨hq2, hq3⟩ | ⟨hq2, hq3, hq4⟩ | ⟨hq2, hq3, hq4, hq5⟩
    · simp [f_engine_runner_step, env0, go_sem, get_alloc, n_alloc, get_set, n_set, get_kill, n_kill, writeAt, a11, a21, a31, a41, a51, a61, a71, isNil, hget, h0, h3, hcl, hix, hle, hrow]
      refine ⟨⟨sees_of rfl ?_, sees_of rfl ?_, sees_of rfl ?_⟩, ?_⟩
      · simp [-getElem?_pos, R_nil, R_cons, RS_some, sameV_some, seesQ_some, List.take, List.take_succ_cons, List.take_zero, go_sem, get_alloc, n_alloc, get_set, n_set, get_kill, n_kill, writeAt, a11, a21, a31, a41, a51, a61, a71, isNil, hget, h0, h3, hcl, hix, hle, hrow, hne, hbn, tokC, spT3, List.getElem?_cons_zero, List.getElem?_cons_succ]
      · simp [-getElem?_pos, R_nil, R_cons, RS_some, sameV_some, seesQ_some, List.take, List.take_succ_cons, List.take_zero, go_sem, get_alloc, n_alloc, get_set, n_set, get_kill, n_kill, writeAt, a11, a21, a31, a41, a51, a61, a71, isNil, hget, h0, h3, hcl, hix, hle, hrow, hne, hbn, tokC, spT3, List.getElem?_cons_zero, List.getElem?_cons_succ]
      · simp [-getElem?_pos, R_nil, R_cons, RS_some, sameV_some, seesQ_some, List.take, List.take_succ_cons, List.take_zero, go_sem, get_alloc, n_alloc, get_set, n_set, get_kill, n_kill, writeAt, a11, a21, a31, a41, a51, a61, a71, isNil, hget, h0, h3, hcl, hix, hle, hrow, hne, hbn, tokC, spT3, List.getElem?_cons_zero, List.getElem?_cons_succ]
      simp [go_sem, get_alloc, n_alloc, get_set, n_set, get_kill, n_kill, writeAt, a11, a21, a31, a41, a51, a61, a71, isNil, hget, h0, h3, hcl, hix, hle, hrow, hbn, tokC, spT3, hq, hq6, hq7, hq8, e1, hget1, h31, hw, hle1, hsp1, hbid, hq2, hq3]
      simp [go_sem, endP, endI, resultsA, resultA, freezeL, freezeV, AV.free.freeL, AV.free, packA, dropS]
      exact ⟨_, _, ⟨rfl, rfl⟩, hK _ _ ⟨rfl, rfl⟩⟩
    · simp [f_engine_runner_step, env0, go_sem, get_alloc, n_alloc, get_set, n_set, get_kill, n_kill, writeAt, a11, a21, a31, a41, a51, a61, a71, isNil, hget, h0, h3, hcl, hix, hle, hrow]
      refine ⟨⟨sees_of rfl ?_, sees_of rfl ?_, sees_of rfl ?_⟩, ?_⟩
      · simp [-getElem?_pos, R_nil, R_cons, RS_some, sameV_some, seesQ_some, List.take, List.take_succ_cons, List.take_zero, go_sem, get_alloc, n_alloc, get_set, n_set, get_kill, n_kill, writeAt, a11, a21, a31, a41, a51, a61, a71, isNil, hget, h0, h3, hcl, hix, hle, hrow, hne, hbn, tokC, spT3, List.getElem?_cons_zero, List.getElem?_cons_succ]
      · simp [-getElem?_pos, R_nil, R_cons, RS_some, sameV_some, seesQ_some, List.take, List.take_succ_cons, List.take_zero, go_sem, get_alloc, n_alloc, get_set, n_set, get_kill, n_kill, writeAt, a11, a21, a31, a41, a51, a61, a71, isNil, hget, h0, h3, hcl, hix, hle, hrow, hne, hbn, tokC, spT3, List.getElem?_cons_zero, List.getElem?_cons_succ]
      · simp [-getElem?_pos, R_nil, R_cons, RS_some, sameV_some, seesQ_some, List.take, List.take_succ_cons, List.take_zero, go_sem, get_alloc, n_alloc, get_set, n_set, get_kill, n_kill, writeAt, a11, a21, a31, a41, a51, a61, a71, isNil, hget, h0, h3, hcl, hix, hle, hrow, hne, hbn, tokC, spT3, List.getElem?_cons_zero, List.getElem?_cons_succ]
      simp [go_sem, get_alloc, n_alloc, get_set, n_set, get_kill, n_kill, writeAt, a11, a21, a31, a41, a51, a61, a71, isNil, hget, h0, h3, hcl, hix, hle, hrow, hbn, tokC, spT3, hq, hq6, hq7, hq8, e1, hget1, h31, hw, hle1, hsp1, hbid, hq2, hq3, hq4]
      simp [go_sem, endP, endI, resultsA, resultA, freezeL, freezeV, AV.free.freeL, AV.free, packA, dropS]
      exact ⟨_, _, ⟨rfl, rfl⟩, hK _ _ ⟨rfl, rfl⟩⟩
    · simp [f_engine_runner_step, env0, go_sem, get_alloc, n_alloc, get_set, n_set, get_kill, n_kill, writeAt, a11, a21, a31, a41, a51, a61, a71, isNil, hget, h0, h3, hcl, hix, hle, hrow]
      refine ⟨⟨sees_of rfl ?_, sees_of rfl ?_, sees_of rfl ?_⟩, ?_⟩
      · simp [-getElem?_pos, R_nil, R_cons, RS_some, sameV_some, seesQ_some, List.take, List.take_succ_cons, List.take_zero, go_sem, get_alloc, n_alloc, get_set, n_set, get_kill, n_kill, writeAt, a11, a21, a31, a41, a51, a61, a71, isNil, hget, h0, h3, hcl, hix, hle, hrow, hne, hbn, tokC, spT3, List.getElem?_cons_zero, List.getElem?_cons_succ]
      · simp [-getElem?_pos, R_nil, R_cons, RS_some, sameV_some, seesQ_some, List.take, List.take_succ_cons, List.take_zero, go_sem, get_alloc, n_alloc, get_set, n_set, get_kill, n_kill, writeAt, a11, a21, a31, a41, a51, a61, a71, isNil, hget, h0, h3, hcl, hix, hle, hrow, hne, hbn, tokC, spT3, List.getElem?_cons_zero, List.getElem?_cons_succ]
      · simp [-getElem?_pos, R_nil, R_cons, RS_some, sameV_some, seesQ_some, List.take, List.take_succ_cons, List.take_zero, go_sem, get_alloc, n_alloc, get_set, n_set, get_kill, n_kill, writeAt, a11, a21, a31, a41, a51, a61, a71, isNil, hget, h0, h3, hcl, hix, hle, hrow, hne, hbn, tokC, spT3, List.getElem?_cons_zero, List.getElem?_cons_succ]
      simp [go_sem, get_alloc, n_alloc, get_set, n_set, get_kill, n_kill, writeAt, a11, a21, a31, a41, a51, a61, a71, isNil, hget, h0, h3, hcl, hix, hle, hrow, hbn, tokC, spT3, hq, hq6, hq7, hq8, e1, hget1, h31, hw, hle1, hsp1, hbid, hq2, hq3, hq4, hq5]
      simp [go_sem, endP, endI, resultsA, resultA, freezeL, freezeV, AV.free.freeL, AV.free, packA, dropS]
      exact ⟨_, _, ⟨rfl, rfl⟩, hK _ _ ⟨rfl, rfl⟩⟩)
  exact ⟨_, own1, call_of tb_engine_runner_step hcall, v2, x2, r2, (tokZ_kp (k := k)).trans Agr.ext (k1.trans a1 (k2.le fun k h => tS_P h)), Agr.trans Agr.ext a1 (by rw [tokZ_n]; omega)⟩
end
end Go.Ev
set_option linter.unusedSectionVars false
namespace Go.Ev
open Go
def grow1 (m : Mem) : Mem := ⟨m.b ++ List.replicate 64 0, m.most, m.dirty ++ [true]⟩
def growK : Nat → Mem → Mem
  | 0, m => m
  | k + 1, m => growK k (grow1 m)
theorem growK_eq : ∀ (k : Nat) (m : Mem), growK k m = ⟨m.b ++ List.replicate (k * 64) 0, m.most, m.dirty ++ List.replicate k true⟩
  | 0, m => by simp [growK]
  | k + 1, m => by
    rw [growK, growK_eq k]
    simp only [grow1, List.append_assoc]
    rw [List.replicate_append_replicate, List.replicate_succ, show 64 + k * 64 = (k + 1) * 64 by omega]
    rfl
def t345 : Nat → Prop := fun k => k = 3 ∨ k = 4 ∨ k = 5
theorem spM0 (a b c v : AV) : splice [a, b, c] 0 [v] = [v, b, c] := Eq.trans rfl rfl
theorem spM2 (a b c v : AV) : splice [a, b, c] 2 [v] = [a, b, v] := Eq.trans rfl rfl
section
variable {bar b : Nat} {g : H} {own : Nat → Nat} {C : Cx} {tr val : Int} {ids : List Nat} {t : Nat} {f : Fm} {id i M : Nat} {m : Mem}
theorem grow_loop (was n : Int) (hn64 : n ≤ 64) (hb : bar ≤ b) (Q : Ex → Env → H → Prop) : ∀ (k i : Nat) (g : H) (own : Nat → Nat) (m : Mem), n = (i : Int) + k → b ≤ g.n → MemO g b own M m → (m.dirty.length : Int) + k ≤ m.most →
    (∀ e g' own', MemO g' b own' M (growK k m) → Kp own t345 g g' → Agr g.n own own' → e.get 5 = some (.int .i64 was) → Q (.exit 0) e g') →
    wpL (call tb prim) bar [0, 5, 20, 21] l0_cells_Memory_Grow [(0, .ptr M 0), (5, .int .i64 was), (20, .int .i64 n), (21, .int .i64 i)] g Q
  | 0, i, g, own, m, hk, hbg, vm, hmo, hq => by
    refine M_loop l0_cells_Memory_Grow.eq_1 ?_
    have hlt : ¬ (i : Int) < n := by omega
    simp [go_sem, hlt]
    exact hq _ _ own vm Kp.refl Agr.refl rfl
  | k + 1, i, g, own, m, hk, hbg, vm, hmo, hq => by
    have vm' := vm
    obtain ⟨⟨ba, da, hv, hba, hda⟩, hoM⟩ := vm'
    have hlt : (i : Int) < n := by omega
    have hw := w64_succ (n := i) (by omega)
    have hg := hv.get
    have hlen : m.b.length ≤ 4096 := by have := hv.sz; have := hv.m0; have := hv.m1; omega
    have hd64 : m.dirty.length < 64 := by have := hv.m0; omega
    obtain ⟨g1, e1, o1, n1, f1⟩ := (hv.ob.bar_le hb).appA (bar := bar) (by omega) 1 64 (byC (List.replicate 64 0)) (by omega) (by simp [byC]) (by rw [← rep_byte]; exact rep_one rfl 64) (by omega) (by omega)
    have hMlt := hv.lt
    have gM1 : g1.get M = some (.cells [ba, .int .i64 m.most, da] 0) := by rw [f1 M hMlt hv.nb]; exact hg
    obtain ⟨g2, hg2⟩ : ∃ g2, g2 = g1.set M (.cells [.sl g.n 0 1 (m.b.length + 64) false, .int .i64 m.most, da] 0) := ⟨_, rfl⟩
    have n2 : g2.n = g.n + 1 := by rw [hg2, n_set]; exact n1
    have e12 : g1.n = g2.n := by omega
    have gM2 : g2.get M = some (.cells [.sl g.n 0 1 (m.b.length + 64) false, .int .i64 m.most, da] 0) := by rw [hg2, get_set, if_pos rfl]
    have od2 : OW 1 g2 bar da m.dirty.length (boC m.dirty) := (hv.od.bar_le hb).mono (by omega) (fun j hj => by
      rw [hg2, get_set_ne (fun q : j = M => hv.nd (by rw [← q]; exact hj)), f1 j (hv.od.at_lt hj).2 (fun q => hv.ap j q hj)])
    obtain ⟨g3, e3, o3, n3, f3⟩ := od2.app (by omega) 1 [.bool true] rfl rfl (by omega) (by omega) (by omega)
    have gM3 : g3.get M = some (.cells [.sl g.n 0 1 (m.b.length + 64) false, .int .i64 m.most, da] 0) := by rw [f3 M (by omega) hv.nd]; exact gM2
    obtain ⟨g4, hg4⟩ : ∃ g4, g4 = g3.set M (.cells [.sl g.n 0 1 (m.b.length + 64) false, .int .i64 m.most, .sl (g2.n + 1) 0 1 (m.dirty.length + 1) false] 0) := ⟨_, rfl⟩
    have n4 : g4.n = g.n + 3 := by rw [hg4, n_set]; omega
    have hbM : bar ≤ M := Nat.le_trans hb hv.bM
    have hgn : ¬ da.isAt g.n := fun q => by have := (hv.od.at_lt q).2; omega
    have hV : MemV g4 b M (grow1 m) (.sl g.n 0 1 (m.b.length + 64) false) (.sl (g2.n + 1) 0 1 (m.dirty.length + 1) false) := by
      refine ⟨by rw [hg4, get_set, if_pos rfl]; rfl, hv.bM, by omega, ?_, ?_, fun q => by cases q; omega, fun q => by cases q; omega, fun j h1 h2 => by have h1' : g.n = j := h1; have h2' : g2.n + 1 = j := h2; omega, ?_, hv.m0, ?_, ?_⟩
      · have := (o1.up (b := b) (fun j hj => by cases hj; omega)).mono (h' := g4) (by omega) (fun j hj => by cases hj; rw [hg4, get_set_ne (by omega), f3 _ (by omega) hgn, hg2, get_set_ne (by omega)])
        simpa [grow1, byC] using this
      · have := (o3.up (b := b) (fun j hj => by cases hj; omega)).mono (h' := g4) (by omega) (fun j hj => by cases hj; rw [hg4, get_set_ne (by omega)])
        simpa [grow1, boC] using this
      · have := hv.sz; simp [grow1]; omega
      · simp [grow1]; omega
      · intro x hx
        simp only [grow1, List.mem_append] at hx
        rcases hx with hx | hx
        · exact hv.rng x hx
        · rw [List.eq_of_mem_replicate hx]; omega
    have hag : Agr g.n own (ext (ext own g.n 4) (g.n + 1) 5) := Agr.trans Agr.ext Agr.ext (by omega)
    have hO : MemO g4 b (ext (ext own g.n 4) (g.n + 1) 5) M (grow1 m) :=
      ⟨⟨_, _, hV, fun j hj => by cases hj; simp [ext], fun j hj => by cases hj; simp only [ext]; rw [if_neg (by omega)]⟩, by rw [hag M hMlt]; exact hoM⟩
    have hkp : Kp own t345 g g4 := ⟨by omega, fun j hj hs => by
      rw [hg4, get_set_ne (fun q => hs (.inl (by rw [q]; exact hoM))), f3 j (by omega) (fun q => hs (.inr (.inr (hda j q)))), hg2, get_set_ne (fun q => hs (.inl (by rw [q]; exact hoM))), f1 j hj (fun q => hs (.inr (.inl (hba j q))))]⟩
    refine M_loop l0_cells_Memory_Grow.eq_1 ?_
    simp [go_sem, get_alloc, n_alloc, get_set, n_set, get_kill, n_kill, writeAt, a11, a21, a31, a41, a51, a61, a71, isNil, hlt, hg, spM0, spM2, hbM]
    rw [rep_byte, e1]
    simp [go_sem, get_alloc, n_alloc, get_set, n_set, get_kill, n_kill, writeAt, a11, a21, a31, a41, a51, a61, a71, isNil, gM1, spM0, hbM]
    rw [← hg2]
    simp [go_sem, get_alloc, n_alloc, get_set, n_set, get_kill, n_kill, writeAt, a11, a21, a31, a41, a51, a61, a71, isNil, gM2, evParts, fillA, sp10]
    rw [e12, e3]
    simp [go_sem, get_alloc, n_alloc, get_set, n_set, get_kill, n_kill, writeAt, a11, a21, a31, a41, a51, a61, a71, isNil, spM2, hbM, gM3]
    rw [← hg4, hw]
    refine grow_loop was n hn64 hb Q k (i + 1) g4 _ (grow1 m) (by omega) (by omega) hO (by simp [grow1]; omega) (fun e g' own' h1 h2 h3 h4 => ?_)
    exact hq e g' own' h1 (hkp.trans hag h2) (Agr.trans hag h3 (by omega)) h4
end
end Go.Ev
set_option linter.unusedSectionVars false
namespace Go.Ev
open Go
section
variable {bar b : Nat} {g : H} {own : Nat → Nat} {C : Cx} {tr val : Int} {ids : List Nat} {t : Nat} {f : Fm} {id i M : Nat} {m : Mem} {r : Row}
theorem grow_ok (vm : MemO g b own M m) (hb : bar ≤ b) (hbg : b ≤ g.n) (n : Int) :
    ∃ g' own', call tb prim n_cells_Memory_Grow [.ptr M 0, .int .i64 n] bar g = some (.int .i64 (growM m n).2, g') ∧ MemO g' b own' M (growM m n).1 ∧ Kp own t345 g g' ∧ Agr g.n own own' := by
  have vm' := vm
  obtain ⟨⟨ba, da, hv, hba, hda⟩, hoM⟩ := vm'
  have hg := hv.get
  have e0 := pages_ok (bar := bar) hv
  have hm0 := hv.m0
  have hm1 := hv.m1
  have hw : IntKind.i64.wrap (m.most - (m.dirty.length : Int)) = m.most - m.dirty.length := w64 (by omega) (by omega)
  by_cases h0 : n < 0
  · obtain ⟨y, g9, hcall, rfl, rfl⟩ := callF_K (o := call tb prim) (F := f_cells_Memory_Grow) (bar := bar) (h := g) (args := [.ptr M 0, .int .i64 n]) (P := fun y g9 => y = .int .i64 (-1) ∧ g9 = g) rfl rfl (fun K hK => by
      have d0 : decide (n < 0) = true := by simpa using h0
      simp [f_cells_Memory_Grow, env0, go_sem, get_alloc, n_alloc, get_set, n_set, get_kill, n_kill, writeAt, a11, a21, a31, a41, a51, a61, a71, isNil, e0, d0]
      simp [go_sem, endP, endI, resultsA, resultA, freezeL, freezeV, AV.free.freeL, AV.free, packA, dropS]
      exact ⟨_, _, ⟨rfl, rfl⟩, hK _ _ ⟨rfl, rfl⟩⟩)
    have e : growM m n = (m, -1) := by unfold growM; rw [if_pos (.inl h0)]
    rw [e]
    exact ⟨_, own, call_of tb_cells_Memory_Grow hcall, vm, Kp.refl, Agr.refl⟩
  · have d0 : decide (n < 0) = false := by simpa using h0
    by_cases h1 : n > m.most - m.dirty.length
    · obtain ⟨y, g9, hcall, rfl, rfl⟩ := callF_K (o := call tb prim) (F := f_cells_Memory_Grow) (bar := bar) (h := g) (args := [.ptr M 0, .int .i64 n]) (P := fun y g9 => y = .int .i64 (-1) ∧ g9 = g) rfl rfl (fun K hK => by
        have d1 : decide (m.most - (m.dirty.length : Int) < n) = true := by simpa using h1
        simp [f_cells_Memory_Grow, env0, go_sem, get_alloc, n_alloc, get_set, n_set, get_kill, n_kill, writeAt, a11, a21, a31, a41, a51, a61, a71, isNil, e0, d0, hg, hw, d1]
        simp [go_sem, endP, endI, resultsA, resultA, freezeL, freezeV, AV.free.freeL, AV.free, packA, dropS]
        exact ⟨_, _, ⟨rfl, rfl⟩, hK _ _ ⟨rfl, rfl⟩⟩)
      have e : growM m n = (m, -1) := by unfold growM; rw [if_pos (.inr h1)]
      rw [e]
      exact ⟨_, own, call_of tb_cells_Memory_Grow hcall, vm, Kp.refl, Agr.refl⟩
    · have e : growM m n = (growK n.toNat m, (m.dirty.length : Int)) := by
        unfold growM; rw [if_neg (by omega), growK_eq]
      rw [e]
      obtain ⟨y, g9, hcall, rfl, own', h2, h3, h4⟩ := callF_K (o := call tb prim) (F := f_cells_Memory_Grow) (bar := bar) (h := g) (args := [.ptr M 0, .int .i64 n]) (P := fun y g9 => y = .int .i64 m.dirty.length ∧ ∃ own', MemO g9 b own' M (growK n.toNat m) ∧ Kp own t345 g g9 ∧ Agr g.n own own') rfl rfl (fun K hK => by
        have d1 : decide (m.most - (m.dirty.length : Int) < n) = false := by simpa using h1
        simp [f_cells_Memory_Grow, env0, go_sem, get_alloc, n_alloc, get_set, n_set, get_kill, n_kill, writeAt, a11, a21, a31, a41, a51, a61, a71, isNil, e0, d0, hg, hw, d1]
        refine grow_loop m.dirty.length n (by omega) hb _ n.toNat 0 g own m (by omega) hbg vm (by omega) (fun e g' own' h1 h2 h3 h4 => ?_)
        simp [go_sem, endP, endI, resultsA, resultA, freezeL, freezeV, AV.free.freeL, AV.free, packA, dropS, h4]
        exact ⟨_, _, ⟨rfl, rfl⟩, hK _ _ ⟨rfl, own', h1, h2, h3⟩⟩)
      exact ⟨_, own', call_of tb_cells_Memory_Grow hcall, h2, h3, h4⟩
theorem mem_grow {a : Int} {st : List Int} (vx : XO g b own C tr val ids) (vf : FrO g b own t f id) (vm : MemO g b own C.M m) (hb : bar ≤ b) (hbg : b ≤ g.n) (hst : f.st = a :: st) :
    MemR bar b g own C val ids t f id 164 (some ((growM m a).2 :: st, (growM m a).1, tr)) := by
  rintro st0 m0 tr0 h
  cases h
  have hsm := vf.sm
  rw [hst] at hsm
  obtain ⟨g1, e1, v1, k1⟩ := pop_o vf hst hb
  have x1 := vx.mono k1 Agr.refl (tS1 t)
  have m1 := vm.mono k1 Agr.refl (tS3 t)
  have hbg1 : b ≤ g1.n := Nat.le_trans hbg k1.1
  obtain ⟨g2, own2, e2, m2, k2, a2⟩ := grow_ok m1 hb hbg1 a
  have x2 := x1.mono k2 a2 (by unfold t345; omega)
  have v2 := v1.mono k2 a2 (by unfold t345; omega) (by unfold t345; omega)
  obtain ⟨g3, own3, e4, v3, k3, a3⟩ := push_o v2 hb (by have := k2.1; omega) (by simp at hsm ⊢; omega) (growM m a).2
  have x3 := x2.mono k3 a3 (tS1 t)
  have m3 := m2.mono k3 a3 (tS3 t)
  have hk : Kp own (tM t) g g3 := (k1.le fun k h => tS_M h).trans Agr.refl ((k2.le fun k h => by unfold t345 at h; unfold tM; omega).trans a2 (k3.le fun k h => tS_M h))
  obtain ⟨cs, c1, c2, _⟩ := vx.cell4
  obtain ⟨cs', c1', c2', _⟩ := x1.cell4
  obtain ⟨cs'', c1'', c2'', _⟩ := x2.cell4
  obtain ⟨x, g4, hcall, rfl, rfl⟩ := callF_K (o := call tb prim) (F := f_engine_runner_memory) (bar := bar) (h := g) (args := [.ptr C.X 0, .ptr id 0, .int .i32 164]) (P := fun x g4 => x = .tup [] ∧ g4 = g3) rfl rfl (fun K hK => by
    simp [f_engine_runner_memory, env0, go_sem, get_alloc, n_alloc, get_set, n_set, get_kill, n_kill, writeAt, a11, a21, a31, a41, a51, a61, a71, isNil, c1, c2, e1, e2, e4]
    refine ⟨sees_of rfl ?_, ?_⟩
    · simp [-getElem?_pos, R_nil, R_cons, RS_some, sameV_some, seesQ_some, List.take, List.take_succ_cons, List.take_zero, go_sem, get_alloc, n_alloc, get_set, n_set, get_kill, n_kill, writeAt, a11, a21, a31, a41, a51, a61, a71, isNil, c1, c2, c1', c2', c1'', c2'', e1, e2, List.getElem?_cons_zero, List.getElem?_cons_succ]
    simp [go_sem, endP, endI, resultsA, resultA, freezeL, freezeV, AV.free.freeL, AV.free, packA, dropS]
    exact ⟨_, _, ⟨rfl, rfl⟩, hK _ _ ⟨rfl, rfl⟩⟩)
  exact ⟨_, own3, call_of tb_engine_runner_memory hcall, v3, x3, m3, hk, Agr.trans (Agr.trans Agr.refl a2 k1.1) a3 (by have := k1.1; have := k2.1; omega)⟩
theorem mem_all (vx : XO g b own C tr val ids) (vf : FrO g b own t f id) (vm : MemO g b own C.M m) (hb : bar ≤ b) (hbg : b ≤ g.n) (hsm : f.st.length < 3000000) {sg : Int} (hsg : isMemS sg = true) :
    MemR bar b g own C val ids t f id sg (memS sg f.st m tr) := by
  have hsg' : sg = 64 ∨ sg = 169 ∨ sg = 36 ∨ sg = 174 ∨ sg = 35 ∨ sg = 164 := by simpa [isMemS] using hsg
  intro st m' tr' h
  unfold memS at h
  split at h
  · rename_i hc
    split at h
    · cases h
    · rename_i a st0 hst
      exact mem_load vx vf vm hb hbg hst hc _ _ _ h
  · split at h
    · rename_i hc
      split at h
      · rename_i n a st0 hst
        exact mem_store vx vf vm hb hbg hst hc _ _ _ h
      · cases h
    · split at h
      · rename_i hc
        subst hc
        exact mem_pages vx vf vm hb hbg hsm _ _ _ h
      · split at h
        · cases h
        · rename_i a st0 hst
          have hz : sg = 164 := by omega
          subst hz
          exact mem_grow vx vf vm hb hbg hst _ _ _ h
theorem plain_all {k : Tok} (vx : XO g b own C tr val ids) (vf : FrO g b own t f id) (vr : RowO g b own C.R r) (hb : bar ≤ b) (hbg : b ≤ g.n) (hsm : f.st.length < 3000000) (hsr : r.asks.length < 2000000) :
    PlainR bar b g own C val ids t f id k (plainF k f.st r tr) := by
  intro st r' tr' h
  unfold plainF at h
  split at h
  · rename_i hc
    split at h
    · cases h
    · rename_i a st0 hst
      exact plain_dup vx vf vr hb hbg hst hsm hc _ _ _ h
  · rename_i q1
    split at h
    · rename_i hc
      split at h
      · cases h
      · rename_i a st0 hst
        exact plain_drop vx vf vr hb hbg hst hc _ _ _ h
    · rename_i q2
      split at h
      · rename_i hc
        exact plain_skip vx vf vr hc _ _ _ h
      · rename_i q3
        split at h
        · rename_i hc
          exact plain_halt vx vf vr hb hc _ _ _ h
        · rename_i q4
          split at h
          · rename_i hc
            split at h
            · cases h
            · rename_i a st0 hst
              exact plain_ask vx vf vr hb hbg hst hsr hc _ _ _ h
          · rename_i q5
            split at h
            · rename_i hc
              split at h
              · cases h
              · rename_i a st0 hst
                exact plain_not vx vf vr hb hbg hst hc _ _ _ h
            · rename_i q6
              split at h
              · rename_i c a st0 hst
                exact plain_two vx vf vr hb hbg hst ⟨q1, q2, fun q => q3 (.inl q), fun q => q3 (.inr q), q4, q5, q6⟩ _ _ _ h
              · cases h
end
end Go.Ev
set_option linter.unusedSectionVars false
namespace Go.Ev
open Go
def sigOk (s : Int) : Bool := decide (s = 48 ∨ (97 ≤ s ∧ s ≤ 122) ∨ (65 ≤ s ∧ s ≤ 90) ∨ s = 955) || sgG s
def FrSg (fr : List Fm) : Prop := ∀ f ∈ fr, ∀ k ∈ f.c.l, sigOk k.sign = true
section
variable {bar b : Nat} {g : H} {own : Nat → Nat} {C : Cx} {val : Int} {ids : List Nat} {f : Fm} {i : Nat}
theorem XV.put {g' : H} {own' : Nat → Nat} {S : Nat → Prop} {s : Mc} {r : List Fm} {f' : Fm} (v : XV g b own C s val (i :: ids)) (hfr : s.fr = f :: r) (k : Kp own S g g') (a : Agr g.n own own') (x : XO g' b own' C s.trap val (i :: ids)) (fo : FrO g' b own' r.length f' i) (h0 : ¬ S 0) (hs : ∀ t, t < r.length → ¬ S (2 * t + 10) ∧ ¬ S (2 * t + 11)) (hm : ¬ S 3 ∧ ¬ S 4 ∧ ¬ S 5) (hr : ¬ S 6 ∧ ¬ S 7 ∧ ¬ S 8) : XV g' b own' C { s with fr := f' :: r } val (i :: ids) :=
  have hv := v.fr
  have hv2 : FrsV g b own (f :: r) (i :: ids) := hfr ▸ hv
  ⟨x, v.cx.mono k a h0, ⟨fo, FrsV.mono k a hv2.2 hs⟩, v.m.mono k a hm, v.r.mono k a hr, by have := k.1; have := v.bn; omega⟩
theorem tS_lt {t u : Nat} (h : u < t) : ¬ tS t (2 * u + 10) ∧ ¬ tS t (2 * u + 11) := by unfold tS; omega
theorem step_ok {s s' : Mc} {r : List Fm} (v : XV g b own C s val (i :: ids)) (hfr : s.fr = f :: r) (hb : bar ≤ b) (hst : stepM C.fs (C.rows.map (·.2.2)) s = some s') (hg : FrSg s.fr) (hT : totS s.fr < 3000000) (hsr : s.r.asks.length < 2000000) (hids : ids.length < 999) :
    ∃ g' own' ids', call tb prim n_engine_runner_step [.ptr C.X 0, .ptr i 0] bar g = some (.tup [], g') ∧ XV g' b own' C s' val ids' ∧ Kp own tA g g' ∧ Agr g.n own own' := by
  have hv : FrsV g b own (f :: r) (i :: ids) := hfr ▸ v.fr
  have vf := hv.1
  have hln : ids.length = r.length := hv.2.len
  have hbg := v.bn
  have hsm : f.st.length < 3000000 := by rw [hfr] at hT; simp only [totS] at hT; omega
  unfold stepM at hst
  rw [hfr] at hst
  simp only at hst
  split at hst
  · cases hst
  · rename_i k hk
    have hkg : sigOk k.sign = true := hg f (by rw [hfr]; exact List.mem_cons_self ..) k (List.mem_of_getElem? hk)
    split at hst
    · rename_i q
      cases hst
      obtain ⟨g', own', e, fo, kp, ag⟩ := step_num (bar := bar) vf hb hbg hk q hsm (.ptr C.X 0)
      exact ⟨g', own', _, e, v.put hfr kp ag (v.x.mono kp ag (tS1 _)) fo (tS0 _) (fun t ht => tS_lt ht) (tS3 _) (tS6 _), kp.le fun k h => tS_A h, ag⟩
    · rename_i q1
      split at hst
      · rename_i q
        split at hst
        · cases hst
        · rename_i x hx
          cases hst
          obtain ⟨g', own', e, fo, kp, ag⟩ := step_get (bar := bar) vf hb hbg hk q hx hsm (.ptr C.X 0)
          exact ⟨g', own', _, e, v.put hfr kp ag (v.x.mono kp ag (tS1 _)) fo (tS0 _) (fun t ht => tS_lt ht) (tS3 _) (tS6 _), kp.le fun k h => tS_A h, ag⟩
      · rename_i q2
        split at hst
        · rename_i q
          split at hst
          · cases hst
          · rename_i x st hx
            cases hst
            obtain ⟨g', own', e, fo, kp, ag⟩ := step_set (bar := bar) vf hb hbg hk q hx (.ptr C.X 0)
            exact ⟨g', own', _, e, v.put hfr kp ag (v.x.mono kp ag (tS1 _)) fo (tS0 _) (fun t ht => tS_lt ht) (tS3 _) (tS6 _), kp.le fun k h => tS_A h, ag⟩
        · rename_i q3
          split at hst
          · rename_i q
            split at hst
            · cases hst
            · rename_i c hc
              split at hst
              · cases hst
              · rename_i q5
                rw [List.getElem?_map] at hc
                cases hx : C.rows[(findN k.name C.fs 0).toNat]? with
                | none => rw [hx] at hc; cases hc
                | some x =>
                  rw [hx] at hc
                  simp only [Option.map_some, Option.some.injEq] at hc
                  obtain ⟨g', own', e, fo, kp, ag, hh⟩ := step_call (bar := bar) (a := c.args.toNat) v.x v.cx vf hb hbg hk q (kk := (findN k.name C.fs 0).toNat) (by omega) hx (by rw [hc]; omega) (by omega) (by simp; omega)
                  have hlt : ∀ t, t < r.length → ¬ tC r.length (2 * t + 10) ∧ ¬ tC r.length (2 * t + 11) := fun t ht => by unfold tC tS; omega
                  have h0 : ¬ tC r.length 0 := by unfold tC tS; omega
                  have h3 : ¬ tC r.length 3 ∧ ¬ tC r.length 4 ∧ ¬ tC r.length 5 := by unfold tC tS; omega
                  have h6 : ¬ tC r.length 6 ∧ ¬ tC r.length 7 ∧ ¬ tC r.length 8 := by unfold tC tS; omega
                  split at hst
                  · rename_i hd
                    cases hst
                    rcases hh with ⟨_, hx6⟩ | ⟨hn, _⟩
                    · exact ⟨g', own', _, e, ⟨hx6, v.cx.mono kp ag h0, ⟨fo, FrsV.mono kp ag hv.2 hlt⟩, v.m.mono kp ag h3, v.r.mono kp ag h6, by have := kp.1; omega⟩, kp.le fun k h => tC_A h, ag⟩
                    · exfalso; simp at hn hd; omega
                  · rename_i hd
                    cases hst
                    rcases hh with ⟨hn, _⟩ | ⟨_, j, hxj, hfj⟩
                    · exfalso; simp at hn hd; omega
                    · refine ⟨g', own', j :: i :: ids, e, ⟨hxj, v.cx.mono kp ag h0, ⟨?_, fo, FrsV.mono kp ag hv.2 hlt⟩, v.m.mono kp ag h3, v.r.mono kp ag h6, by have := kp.1; omega⟩, kp.le fun k h => tC_A h, ag⟩
                      rw [hc] at hfj
                      have : (i :: ids).length = ({ f with at' := f.at' + 1, st := f.st.drop c.args.toNat } :: r).length := by simp [hln]
                      rw [← this]
                      exact hfj
          · rename_i q4
            have hsg : sgG k.sign = true := by
              have := hkg
              unfold sigOk at this
              simp only [Bool.or_eq_true, decide_eq_true_eq] at this
              rcases this with h | h
              · omega
              · exact h
            split at hst
            · rename_i hgo
              have hX := fun (g1 : H) (f' : Fm) (fo : FrO g1 b (ext own g.n 0) r.length f' i) (hk1 : Kp (ext own g.n 0) (tS r.length) (tokZ g k) g1) => True
              have vz := vf.mono (tokZ_kp (k := k) (S := fun _ => False)) (Agr.ext (k := 0)) (by simp) (by simp)
              have hgz : b ≤ (tokZ g k).n := by rw [tokZ_n]; omega
              have fin : ∀ f' : Fm, (∃ g1, call tb prim n_engine_runner_goes [.ptr C.X 0, .ptr i 0, .int .i32 k.sign] bar (tokZ g k) = some (.tup [], g1) ∧ FrO g1 b (ext own g.n 0) r.length f' i ∧ Kp (ext own g.n 0) (tS r.length) (tokZ g k) g1) →
                  ∃ g' own' ids', call tb prim n_engine_runner_step [.ptr C.X 0, .ptr i 0] bar g = some (.tup [], g') ∧ XV g' b own' C { s with fr := f' :: r } val ids' ∧ Kp own tA g g' ∧ Agr g.n own own' := fun f' hG => by
                obtain ⟨g', own', e, fo, kp, ag⟩ := step_goes (bar := bar) vf hb hk hsg hgo (.ptr C.X 0) hG hbg
                exact ⟨g', own', _, e, v.put hfr kp ag (v.x.mono kp ag (tS1 _)) fo (tS0 _) (fun t ht => tS_lt ht) (tS3 _) (tS6 _), kp.le fun k h => tS_A h, ag⟩
              split at hst
              · rename_i q63
                split at hst
                · cases hst
                · rename_i vv st hfs
                  split at hst
                  · rename_i hne
                    cases hst
                    refine fin _ ?_
                    rw [q63]
                    exact goes_1 vz hfs hne hb (List.getElem?_eq_some_iff.mp hk).1 (.ptr C.X 0)
                  · rename_i hz
                    have hz' : vv = 0 := by simpa using hz
                    split at hst
                    · cases hst
                    · rename_i j hj
                      split at hst
                      · cases hst
                      · cases hst
                        refine fin _ ?_
                        rw [q63]
                        obtain ⟨j', rfl⟩ := Int.eq_ofNat_of_zero_le (show 0 ≤ j by omega)
                        exact goes_0 vz (by rw [hfs, hz']) hb hj (.ptr C.X 0)
              · rename_i q63
                split at hst
                · cases hst
                · rename_i j hj
                  split at hst
                  · cases hst
                  · cases hst
                    refine fin _ ?_
                    obtain ⟨j', rfl⟩ := Int.eq_ofNat_of_zero_le (show 0 ≤ j by omega)
                    exact goes_to vz hb hj (.ptr C.X 0) q63
            · rename_i hgo
              have hgo' : isGo k.sign = false := by simpa using hgo
              split at hst
              · rename_i hme
                split at hst
                · cases hst
                · rename_i st m' tr' hm
                  cases hst
                  obtain ⟨g', own', e, fo, xo, mo, kp, ag⟩ := step_mem (bar := bar) v.x vf v.m hb hbg hk hsg hgo' hme (fun own0 vx vf vm hbz => mem_all vx vf vm hb hbz hsm hme) st m' tr' hm
                  refine ⟨g', own', _, e, ⟨xo, v.cx.mono kp ag (by unfold tM tS; omega), ⟨fo, FrsV.mono kp ag hv.2 fun t ht => by unfold tM tS; omega⟩, mo, v.r.mono kp ag (by unfold tM tS; omega), by have := kp.1; omega⟩, kp.le fun k h => tM_A h, ag⟩
              · rename_i hme
                have hme' : isMemS k.sign = false := by simpa using hme
                split at hst
                · cases hst
                · rename_i st ro tr' hm
                  cases hst
                  obtain ⟨g', own', e, fo, xo, mo, kp, ag⟩ := step_plain (bar := bar) v.x vf v.r hb hbg hk hsg hgo' hme' (fun own0 vx vf vm hbz => plain_all vx vf vm hb hbz hsm hsr) st ro tr' hm
                  refine ⟨g', own', _, e, ⟨xo, v.cx.mono kp ag (by unfold tP tS; omega), ⟨fo, FrsV.mono kp ag hv.2 fun t ht => by unfold tP tS; omega⟩, v.m.mono kp ag (by unfold tP tS; omega), mo, by have := kp.1; omega⟩, kp.le fun k h => tP_A h, ag⟩
end
end Go.Ev
set_option linter.unusedSectionVars false
namespace Go.Ev
open Go
def goodF (fs : List Fn) (f : Fn) (i : Nat) : Bool := nameR f.name && (findN f.name fs 0 == i) && decide (0 ≤ f.args) && decide (f.args ≤ 4)
def namedN (fs : List Fn) : Nat → Nat → Bool
  | 0, _ => true
  | k + 1, i => match fs[i]? with
    | none => true
    | some f => if goodF fs f i then namedN fs k (i + 1) else false
def fnOf (fs : List Fn) (i : Nat) : Int := (funN (fun l => (nestP l).isSome) fs i).2
def funsN (fs : List Fn) : Nat → Nat → Int
  | 0, _ => 0
  | k + 1, i => if fnOf fs i ≠ 0 then fnOf fs i else funsN fs k (i + 1)
def rightN (p m : Int) (fs : List Fn) : Int :=
  if p < 0 ∨ m < p ∨ 64 < m then 25 else
  if 32 < fs.length then 3 else
  if namedN fs fs.length 0 then funsN fs fs.length 0 else 12
section
variable {o : Oracle} {bar : Nat} {g : H}
theorem S_frow {fa : AV} {fs : List Fn} (hv : FV g fa fs) {i : Nat} (hi : i < fs.length) {c d : Nat} {r : List IOper} {ks : List Fr} {e : Env} {Q : Ex → Env → H → Prop}
    (hw : ∀ u, wpX o bar r ks ((d, .agg fs[i].cells) :: (c, u) :: e) g Q) : wpS o bar (iadrR 3 (some fa) (some (.int .i64 (i : Int))) g) (some c) (⟨some d, .ld true 3 (.t c), none⟩ :: r) ks e Q := by
  have hix : indexIn (.int .i64 (i : Int)) fs.length = some i := by simp only [indexIn]; rw [if_pos (by omega), Int.toNat_natCast]
  rcases hv.cases with ⟨_, rfl⟩ | ⟨full, cs, rfl, hl, _, hy⟩ | ⟨id, off, full, all, p, rfl, hlt, hg, _, hy⟩
  · cases hi
  · obtain ⟨h1, h2⟩ := hy i hi
    simp [go_sem, hix, hl, h1, h2]
    exact hw _
  · obtain ⟨h1, h2⟩ := hy i hi
    simp [go_sem, hix, hg, h1, h2]
    exact hw _
theorem S_fld {fa : AV} {fs : List Fn} (hv : FV g fa fs) {i : Nat} (hi : i < fs.length) {c c' d : Nat} {r : List IOper} {ks : List Fr} {e : Env} {Q : Ex → Env → H → Prop}
    (hw : ∀ u v, wpX o bar r ks ((d, .int .i64 fs[i].args) :: (c', v) :: (c, u) :: e) g Q) : wpS o bar (iadrR 3 (some fa) (some (.int .i64 (i : Int))) g) (some c) (⟨some c', .fadr 1 (.t c), none⟩ :: ⟨some d, .ld false 1 (.t c'), none⟩ :: r) ks e Q := by
  have hix : indexIn (.int .i64 (i : Int)) fs.length = some i := by simp only [indexIn]; rw [if_pos (by omega), Int.toNat_natCast]
  rcases hv.cases with ⟨_, rfl⟩ | ⟨full, cs, rfl, hl, hx, _⟩ | ⟨id, off, full, all, p, rfl, hlt, hg, hx, _⟩
  · cases hi
  · obtain ⟨_, h2, _⟩ := hx i hi
    simp [go_sem, hix, hl, h2]
    exact hw _ _
  · obtain ⟨_, h2, _⟩ := hx i hi
    simp [go_sem, hix, hg, h2]
    exact hw _ _
end
section
variable {bar b : Nat} {g : H} {fa : AV} {fs : List Fn} {p m : Int}
theorem spF (a b c u v w : AV) : splice [a, b, c] 0 [u, v, w] = [u, v, w] := Eq.trans rfl rfl
theorem named_loop (hb : bar ≤ b) (Q : Ex → Env → H → Prop) (bx : Nat) (hbx : bx < b) : ∀ (k i : Nat) (g : H), fs.length = i + k → b ≤ g.n → FV g fa fs → g.get bx = some (.cells [.int .i64 p, .int .i64 m, fa] 0) →
    (namedN fs k i = true → ∀ e g', Q (.exit 0) e g') → (namedN fs k i = false → ∀ e g', e.get 2 = some (.bool false) → Q .ret e g') →
    wpL (call tb prim) bar [1, 6, 7, 8] l0_unit_named [(1, .ptr bx 0), (6, fa), (7, goI fs.length), (8, goI i)] g Q
  | 0, i, g, hk, hbg, hv, hgx, h1, h2 => by
    refine M_loop l0_unit_named.eq_1 ?_
    have hlt : ¬ (i : Int) < (fs.length : Int) := by omega
    simp [go_sem, goI, hlt]
    exact h1 rfl _ _
  | k + 1, i, g, hk, hbg, hv, hgx, h1, h2 => by
    refine M_loop l0_unit_named.eq_1 ?_
    have hi : i < fs.length := by omega
    have hlt : (i : Int) < (fs.length : Int) := by omega
    have hw := w64_succ (n := i) (by have := hv.2.1; omega)
    have hN : namedN fs (k + 1) i = if goodF fs fs[i] i then namedN fs k (i + 1) else false := by
      rw [namedN, List.getElem?_eq_getElem hi]
    obtain ⟨f, hf⟩ : ∃ f, f = fs[i] := ⟨_, rfl⟩
    rw [← hf] at hN
    obtain ⟨g1, hg1⟩ : ∃ g1, g1 = (g.alloc (.cells [.int .i32 0, .int .i64 0, .str ⟨#[]⟩] 0)).set g.n (.cells [.int .i32 f.name, .int .i64 f.args, .str f.code] 0) := ⟨_, rfl⟩
    have n1 : g1.n = g.n + 1 := by rw [hg1]; rfl
    have k1 : ∀ j, j < g.n → g1.get j = g.get j := fun j hj => by rw [hg1, get_set_ne (by omega), get_alloc, if_neg (by omega)]
    have hv1 : FV g1 fa fs := hv.keep (by omega) (fun j hj => k1 j (hv.at_lt' hj))
    have gx1 : g1.get bx = some (.cells [.int .i64 p, .int .i64 m, fa] 0) := by rw [k1 bx (by omega)]; exact hgx
    have gF : g1.get g.n = some (.cells [.int .i32 f.name, .int .i64 f.args, .str f.code] 0) := by rw [hg1, get_set, if_pos rfl]
    have eN := glyph_Name_ok (pr := prim) (bar := bar) (h := g1) f.name
    have eF := check_Find_ok (pr := prim) (bar := bar) (h := g1) fs fa f.name p m hv1
    have hbn : bar ≤ g.n := by omega
    simp [go_sem, goI, hlt]
    refine S_frow hv hi fun u => ?_
    rw [← hf]
    simp [go_sem, get_alloc, n_alloc, get_set, n_set, get_kill, n_kill, writeAt, a11, a21, a31, a41, a51, a61, a71, isNil, Fn.cells, spF, hbn]
    rw [← hg1]
    by_cases c1 : nameR f.name = true
    · by_cases c2 : findN f.name fs 0 = (i : Int)
      · by_cases c3 : 0 ≤ f.args
        · by_cases c4 : f.args ≤ 4
          · have hG : goodF fs f i = true := by simp [goodF, c1, c2, c3, c4]
            rw [hG, if_pos rfl] at hN
            rw [c1] at eN
            rw [c2] at eF
            have d3 : decide (f.args < 0) = false := by simpa using c3
            have d4 : decide (4 < f.args) = false := by simpa using c4
            simp [go_sem, get_alloc, n_alloc, get_set, n_set, get_kill, n_kill, writeAt, a11, a21, a31, a41, a51, a61, a71, isNil, gF, eN, gx1, eF, d3, d4, hw]
            exact named_loop hb Q bx hbx k (i + 1) g1 (by omega) (by omega) hv1 gx1 (fun h => h1 (by rw [hN]; exact h)) (fun h => h2 (by rw [hN]; exact h))
          · have hG : goodF fs f i = false := by simp [goodF, c4]
            rw [hG] at hN
            rw [c1] at eN
            rw [c2] at eF
            have d3 : decide (f.args < 0) = false := by simpa using c3
            have d4 : decide (4 < f.args) = true := by simpa using c4
            simp [go_sem, get_alloc, n_alloc, get_set, n_set, get_kill, n_kill, writeAt, a11, a21, a31, a41, a51, a61, a71, isNil, gF, eN, gx1, eF, d3, d4]
            exact h2 hN _ _ rfl
        · have hG : goodF fs f i = false := by simp [goodF, c3]
          rw [hG] at hN
          rw [c1] at eN
          rw [c2] at eF
          have d3 : decide (f.args < 0) = true := by simpa using c3
          simp [go_sem, get_alloc, n_alloc, get_set, n_set, get_kill, n_kill, writeAt, a11, a21, a31, a41, a51, a61, a71, isNil, gF, eN, gx1, eF, d3]
          exact h2 hN _ _ rfl
      · have hG : goodF fs f i = false := by simp [goodF, c2]
        rw [hG] at hN
        rw [c1] at eN
        have d2 : (findN f.name fs 0 != (i : Int)) = true := by simpa using c2
        simp [go_sem, get_alloc, n_alloc, get_set, n_set, get_kill, n_kill, writeAt, a11, a21, a31, a41, a51, a61, a71, isNil, gF, eN, gx1, eF, d2]
        exact h2 hN _ _ rfl
    · have c1' : nameR f.name = false := by simpa using c1
      have hG : goodF fs f i = false := by simp [goodF, c1']
      rw [hG] at hN
      rw [c1'] at eN
      simp [go_sem, get_alloc, n_alloc, get_set, n_set, get_kill, n_kill, writeAt, a11, a21, a31, a41, a51, a61, a71, isNil, gF, eN]
      exact h2 hN _ _ rfl
theorem unit_named_ok (hv : FV g fa fs) : call tb prim n_unit_named [.agg [.int .i64 p, .int .i64 m, fa]] bar g = some (.bool (namedN fs fs.length 0), g) := by
  refine call_of tb_unit_named (callF_pureW rfl rfl (M_in ?_))
  have hv1 : FV (g.alloc (.cells [.int .i64 p, .int .i64 m, fa] 0)) fa fs := hv.keep (by simp [n_alloc]) (fun j hj => by rw [get_alloc, if_neg (by have := hv.at_lt' hj; omega)])
  simp [f_unit_named, env0, go_sem, get_alloc, n_alloc, get_set, n_set, get_kill, n_kill, writeAt, a11, a21, a31, a41, a51, a61, a71, isNil, hv.one, hv.len, get_alloc]
  refine named_loop (bar := g.n) (b := g.n + 1) (p := p) (m := m) (by omega) _ g.n (by omega) fs.length 0 _ (by omega) (by simp [n_alloc]) hv1 (by simp [get_alloc]) (fun h e g' => ?_) (fun h e g' he => ?_)
  · simp [go_sem, endP, endI, resultsA, resultA, freezeL, freezeV, AV.free.freeL, AV.free, packA, dropS, h]
  · simp [go_sem, endP, endI, resultsA, resultA, freezeL, freezeV, AV.free.freeL, AV.free, packA, dropS, he, h]
theorem right_loop (Q : Ex → Env → H → Prop) (bx : Nat) : ∀ (k i : Nat), fs.length = i + k → FV g fa fs → g.get bx = some (.cells [.int .i64 p, .int .i64 m, fa] 0) →
    (funsN fs k i = 0 → ∀ e g', Q (.exit 1) e g') → (∀ x, funsN fs k i = x → ∀ e g', e.get 2 = some (.int .i64 x) → Q .ret e g') →
    wpL (call tb prim) bar [1, 33, 34] l0_unit_Right [(1, .ptr bx 0), (33, goI fs.length), (34, goI i)] g Q
  | 0, i, hk, hv, hgx, h1, h2 => by
    refine M_loop l0_unit_Right.eq_1 ?_
    have hlt : ¬ (i : Int) < (fs.length : Int) := by omega
    simp [go_sem, goI, hlt]
    exact h1 rfl _ _
  | k + 1, i, hk, hv, hgx, h1, h2 => by
    refine M_loop l0_unit_Right.eq_1 ?_
    have hi : i < fs.length := by omega
    have hlt : (i : Int) < (fs.length : Int) := by omega
    have hw := w64_succ (n := i) (by have := hv.2.1; omega)
    obtain ⟨a, eF, _⟩ := check_Func_ok (bar := bar) (p := p) (m := m) fs (i : Int) hv
    by_cases hc : fnOf fs i = 0
    · have hN : funsN fs (k + 1) i = funsN fs k (i + 1) := by rw [funsN, if_neg (by simpa using hc)]
      have hc' : (funN (fun l => (nestP l).isSome) fs i).2 = 0 := hc
      rw [hc'] at eF
      simp [go_sem, get_alloc, n_alloc, get_set, n_set, get_kill, n_kill, writeAt, a11, a21, a31, a41, a51, a61, a71, isNil, goI, hlt, hgx, eF, hw]
      exact right_loop Q bx k (i + 1) (by omega) hv hgx (fun h => h1 (by rw [hN]; exact h)) (fun x h => h2 x (by rw [hN]; exact h))
    · have hN : funsN fs (k + 1) i = fnOf fs i := by rw [funsN, if_pos hc]
      have hb : ((funN (fun l => (nestP l).isSome) fs i).2 != 0) = true := by
        have hc' : ¬ (funN (fun l => (nestP l).isSome) fs i).2 = 0 := hc
        simpa using hc'
      simp [go_sem, get_alloc, n_alloc, get_set, n_set, get_kill, n_kill, writeAt, a11, a21, a31, a41, a51, a61, a71, isNil, goI, hlt, hgx, eF, hb]
      exact h2 _ hN _ _ rfl
theorem unit_Right_ok (hv : FV g fa fs) : call tb prim n_unit_Right [.agg [.int .i64 p, .int .i64 m, fa]] bar g = some (.int .i64 (rightN p m fs), g) := by
  refine call_of tb_unit_Right (callF_pureW rfl rfl (M_in ?_))
  have hv1 : FV (g.alloc (.cells [.int .i64 p, .int .i64 m, fa] 0)) fa fs := hv.keep (by simp [n_alloc]) (fun j hj => by rw [get_alloc, if_neg (by have := hv.at_lt' hj; omega)])
  have eN := unit_named_ok (bar := g.n) (p := p) (m := m) hv1
  have hlen := hv.len
  by_cases c1 : p < 0 ∨ m < p ∨ 64 < m
  · have hR : rightN p m fs = 25 := by unfold rightN; rw [if_pos c1]
    rw [hR]
    by_cases d1 : p < 0
    · have e1 : decide (p < 0) = true := by simpa using d1
      simp [f_unit_Right, env0, go_sem, get_alloc, n_alloc, get_set, n_set, get_kill, n_kill, writeAt, a11, a21, a31, a41, a51, a61, a71, isNil, hv.one, hlen, e1]
      simp [go_sem, endP, endI, resultsA, resultA, freezeL, freezeV, AV.free.freeL, AV.free, packA, dropS]
    · have e1 : decide (p < 0) = false := by simpa using d1
      by_cases d2 : m < p
      · have e2 : decide (m < p) = true := by simpa using d2
        simp [f_unit_Right, env0, go_sem, get_alloc, n_alloc, get_set, n_set, get_kill, n_kill, writeAt, a11, a21, a31, a41, a51, a61, a71, isNil, hv.one, hlen, e1, e2]
        simp [go_sem, endP, endI, resultsA, resultA, freezeL, freezeV, AV.free.freeL, AV.free, packA, dropS]
      · have e2 : decide (m < p) = false := by simpa using d2
        have e3 : decide (64 < m) = true := by simp; omega
        simp [f_unit_Right, env0, go_sem, get_alloc, n_alloc, get_set, n_set, get_kill, n_kill, writeAt, a11, a21, a31, a41, a51, a61, a71, isNil, hv.one, hlen, e1, e2, e3]
        simp [go_sem, endP, endI, resultsA, resultA, freezeL, freezeV, AV.free.freeL, AV.free, packA, dropS]
  · have e1 : decide (p < 0) = false := by simp; omega
    have e2 : decide (m < p) = false := by simp; omega
    have e3 : decide (64 < m) = false := by simp; omega
    by_cases c2 : 32 < fs.length
    · have hR : rightN p m fs = 3 := by unfold rightN; rw [if_neg c1, if_pos c2]
      have e4 : decide ((32 : Int) < (fs.length : Int)) = true := by simp; omega
      rw [hR]
      simp [f_unit_Right, env0, go_sem, get_alloc, n_alloc, get_set, n_set, get_kill, n_kill, writeAt, a11, a21, a31, a41, a51, a61, a71, isNil, hv.one, hlen, goI, e1, e2, e3, e4]
      simp [go_sem, endP, endI, resultsA, resultA, freezeL, freezeV, AV.free.freeL, AV.free, packA, dropS]
    · have e4 : decide ((32 : Int) < (fs.length : Int)) = false := by simp; omega
      by_cases c3 : namedN fs fs.length 0 = true
      · have hR : rightN p m fs = funsN fs fs.length 0 := by unfold rightN; rw [if_neg c1, if_neg c2, if_pos c3]
        rw [hR]
        rw [c3] at eN
        simp [f_unit_Right, env0, go_sem, get_alloc, n_alloc, get_set, n_set, get_kill, n_kill, writeAt, a11, a21, a31, a41, a51, a61, a71, isNil, hv.one, hlen, goI, e1, e2, e3, e4, eN]
        refine right_loop (p := p) (m := m) _ g.n fs.length 0 (by omega) hv1 (by simp [get_alloc]) (fun h e g' => ?_) (fun x h e g' he => ?_)
        · simp [go_sem, endP, endI, resultsA, resultA, freezeL, freezeV, AV.free.freeL, AV.free, packA, dropS, h]
        · simp [go_sem, endP, endI, resultsA, resultA, freezeL, freezeV, AV.free.freeL, AV.free, packA, dropS, he, h]
      · have c3' : namedN fs fs.length 0 = false := by simpa using c3
        have hR : rightN p m fs = 12 := by unfold rightN; rw [if_neg c1, if_neg c2, if_neg c3]
        rw [hR]
        rw [c3'] at eN
        simp [f_unit_Right, env0, go_sem, get_alloc, n_alloc, get_set, n_set, get_kill, n_kill, writeAt, a11, a21, a31, a41, a51, a61, a71, isNil, hv.one, hlen, goI, e1, e2, e3, e4, eN]
        simp [go_sem, endP, endI, resultsA, resultA, freezeL, freezeV, AV.free.freeL, AV.free, packA, dropS]
end
end Go.Ev
set_option linter.unusedSectionVars false
namespace Go.Ev
open Go
def AV.stay : AV → Bool
  | .sl .. => false
  | .agg _ => false
  | _ => true
theorem freezeV_stay {bar d : Nat} {h : H} {v : AV} (hv : v.stay = true) : freezeV bar (d + 1) h v = some (v, h) := by
  cases v <;> first | (cases hv; done) | (simp [freezeV])
theorem freezeL_stay {bar d : Nat} {h : H} : ∀ {cs : List AV}, cs.all AV.stay = true → freezeL bar (d + 1) h cs = some (cs, h)
  | [], _ => by simp [freezeL]
  | v :: r, hc => by
    rw [List.all_cons, Bool.and_eq_true] at hc
    simp [freezeL, freezeV_stay hc.1, freezeL_stay hc.2]
theorem OS.freeze' {k : Nat} {h : H} {bar : Nat} {a : AV} {n : Nat} {cs : List AV} (v : OS k h bar a n cs) (hc : cs.all AV.stay = true) (hf : cs.all AV.free = true) (hn : n ≤ 9223372036854775807) (d : Nat) : ∃ a' h', freezeV bar (d + 2) h a = some (a', h') ∧ FzV k a' n cs := by
  obtain ⟨h1, h2, ⟨rfl, rfl⟩ | ⟨id, rest, rfl, g1, g2, g3⟩⟩ := v
  · exact ⟨.nilsl, h, by simp [freezeV], h1, hn, .inl ⟨rfl, rfl⟩⟩
  · refine ⟨.fz k n cs false, h.set id (.cells (cs ++ rest) (max 0 (0 + n * k))), ?_, h1, hn, .inr ⟨false, rfl⟩⟩
    have hcs : ((cs ++ rest).drop 0).take (n * k) = cs := by rw [List.drop_zero, ← h1, List.take_left]
    simp only [freezeV, g3]
    rw [if_pos ⟨g1, by simp [h1]⟩, hcs, freezeL_stay hc]
    simp only
    rw [if_pos ⟨hf, h2⟩]
theorem FzV.stay {k : Nat} {a : AV} {n : Nat} {cs : List AV} (v : FzV k a n cs) : a.stay = true := by
  obtain ⟨_, _, ⟨rfl, _⟩ | ⟨full, rfl⟩⟩ := v <;> rfl
def codeW (f : Fn) : Code' := ⟨(gTok f.code).1, (nestP (gTok f.code).1).getD [], f.args⟩
def toOk (f : Fn) : Prop := ∃ to, nestP (gTok f.code).1 = some to ∧ ∀ x ∈ to, x ≤ 2000
def RowsV (fs : List Fn) (rows : List (AV × AV × Code')) : Prop := ∀ (j : Nat) (x : AV × AV × Code'), rows[j]? = some x → ∃ f, fs[j]? = some f ∧ x.2.2 = codeW f ∧ CodeV x.2.2 x.1 x.2.1
theorem RowsV.all {fs : List Fn} {rows : List (AV × AV × Code')} (v : RowsV fs rows) (p : AV → Bool) (hi : ∀ n, p (.int .i64 n) = true) (hz : ∀ k a n cs, FzV k a n cs → p a = true) : (rows.flatMap cdC).all p = true := by
  rw [List.all_eq_true]
  intro y hy
  obtain ⟨x, hx, hyx⟩ := List.mem_flatMap.mp hy
  obtain ⟨j, hj⟩ := List.mem_iff_getElem?.mp hx
  obtain ⟨f, _, _, hc⟩ := v j x hj
  simp only [cdC, List.mem_cons, List.not_mem_nil, or_false] at hyx
  rcases hyx with rfl | rfl | rfl
  · exact hz _ _ _ _ hc.1.1
  · exact hz _ _ _ _ hc.1.2
  · exact hi _
theorem fill3 (a b c : AV) (h1 : a.one = true) (h2 : b.one = true) (h3 : c.one = true) : fillA [.nilsl, .nilsl, .int .i64 0] [(0, 1, a), (1, 1, b), (2, 1, c)] = some [a, b, c] := by
  have e1 := cells_one h1
  have e2 := cells_one h2
  have e3 := cells_one h3
  have d1 : a.cells.length = 1 ∧ 0 + 1 ≤ ([.nilsl, .nilsl, .int .i64 0] : List AV).length ∧ a.cells.all AV.one = true := ⟨by rw [e1]; rfl, by simp, by rw [e1]; simp [h1]⟩
  have d2 : b.cells.length = 1 ∧ 1 + 1 ≤ (splice ([.nilsl, .nilsl, .int .i64 0] : List AV) 0 a.cells).length ∧ b.cells.all AV.one = true := ⟨by rw [e2]; rfl, by rw [e1]; simp [splice], by rw [e2]; simp [h2]⟩
  have d3 : c.cells.length = 1 ∧ 2 + 1 ≤ (splice (splice ([.nilsl, .nilsl, .int .i64 0] : List AV) 0 a.cells) 1 b.cells).length ∧ c.cells.all AV.one = true := ⟨by rw [e3]; rfl, by rw [e1, e2]; simp [splice], by rw [e3]; simp [h3]⟩
  simp only [fillA]
  rw [if_pos d1, if_pos d2, if_pos d3, e1, e2, e3]
  rfl
theorem fill33 (a b c : AV) (h1 : a.one = true) (h2 : b.one = true) (h3 : c.one = true) : fillA [.nilsl, .nilsl, .int .i64 0] [(0, 3, .agg [a, b, c])] = some [a, b, c] := by
  simp only [fillA]
  rw [if_pos ⟨rfl, by simp, by simp [AV.cells, h1, h2, h3]⟩]
  rfl
section
variable {bar : Nat} {g : H} {fa : AV} {fs : List Fn} {p m : Int}
theorem codes_loop (hto : ∀ f ∈ fs, toOk f) (hl32 : fs.length ≤ 1000) (hfa : ∀ j, fa.isAt j → j < bar) (Q : Ex → Env → H → Prop) : ∀ (k i : Nat) (g : H) (oa : AV) (rows : List (AV × AV × Code')), fs.length = i + k → bar ≤ g.n → FV g fa fs → OS 3 g bar oa i (rows.flatMap cdC) → rows.length = i → RowsV fs rows →
    (∀ e g' oa' rows', OS 3 g' bar oa' fs.length (rows'.flatMap cdC) → rows'.length = fs.length → RowsV fs rows' → e.get 3 = some oa' → Q (.exit 0) e g') →
    wpL (call tb prim) bar [3, 11, 12, 13] l0_engine_codes [(3, oa), (11, fa), (12, goI fs.length), (13, goI i)] g Q
  | 0, i, g, oa, rows, hk, hbg, hv, ho, hr, hR, hq => by
    refine M_loop l0_engine_codes.eq_1 ?_
    have hlt : ¬ (i : Int) < (fs.length : Int) := by omega
    simp [go_sem, goI, hlt]
    have hi : i = fs.length := by omega
    exact hq _ _ oa rows (hi ▸ ho) (by omega) hR rfl
  | k + 1, i, g, oa, rows, hk, hbg, hv, ho, hr, hR, hq => by
    refine M_loop l0_engine_codes.eq_1 ?_
    have hi : i < fs.length := by omega
    have hlt : (i : Int) < (fs.length : Int) := by omega
    have hw := w64_succ (n := i) (by have := hv.2.1; omega)
    obtain ⟨f, hf⟩ : ∃ f, f = fs[i] := ⟨_, rfl⟩
    have hfi : fs[i]? = some f := by rw [hf]; exact List.getElem?_eq_getElem hi
    obtain ⟨to, hto1, hto2⟩ := hto f (List.mem_of_getElem? hfi)
    have hcto : (codeW f).to = to := by unfold codeW; simp only [hto1, Option.getD_some]
    obtain ⟨g1, hg1⟩ : ∃ g1, g1 = (g.alloc (.cells [.int .i32 0, .int .i64 0, .str ⟨#[]⟩] 0)).set g.n (.cells [.int .i32 f.name, .int .i64 f.args, .str f.code] 0) := ⟨_, rfl⟩
    have n1 : g1.n = g.n + 1 := by rw [hg1]; rfl
    have k1 : ∀ j, j < g.n → g1.get j = g.get j := fun j hj => by rw [hg1, get_set_ne (by omega), get_alloc, if_neg (by omega)]
    have gF : g1.get g.n = some (.cells [.int .i32 f.name, .int .i64 f.args, .str f.code] 0) := by rw [hg1, get_set, if_pos rfl]
    have o1 : OS 3 g1 bar oa i (rows.flatMap cdC) := ho.mono (by omega) (fun j hj => k1 j (ho.ow.at_lt hj).2)
    obtain ⟨la, eT, hla, hll⟩ := glyph_Tokens_ok (bar := bar) (h := g1) f.code
    have eO := nest_Of_ok (pr := prim) (bar := bar) (g := g1) (gTok f.code).1 la hla (by omega)
    rw [hto1] at eO
    obtain ⟨ta, eO, hta, htl⟩ := eO
    have h1 := hla.one
    have h2 := hta.one
    have hfill := fill3 la ta (.int .i64 f.args) h1 h2 rfl
    have hfill2 := fill33 la ta (.int .i64 f.args) h1 h2 rfl
    obtain ⟨oa', g2, eA, o2, n2, f2, _⟩ := o1.app (by omega) 56 [la, ta, .int .i64 f.args] rfl (by
      show (la.one && (ta.one && (true && true))) = true
      rw [h1, h2]; rfl) (by omega) (by omega) (by omega)
    have hv2 : FV g2 fa fs := hv.keep (by omega) (fun j hj => by rw [f2 j (by have := hfa j hj; omega) (fun q => by have := (ho.ow.at_lt q).1; have := hfa j hj; omega)]; exact k1 j (by have := hfa j hj; omega))
    have hall : ([la, ta, .int .i64 f.args] : List AV).all AV.one = true := by
      show (la.one && (ta.one && (true && true))) = true
      rw [h1, h2]; rfl
    simp [go_sem, goI, hlt]
    refine S_frow hv hi fun u => ?_
    rw [← hf]
    simp [go_sem, get_alloc, n_alloc, get_set, n_set, get_kill, n_kill, writeAt, a11, a21, a31, a41, a51, a61, a71, isNil, Fn.cells, spF, hbg]
    rw [← hg1]
    simp [go_sem, get_alloc, n_alloc, get_set, n_set, get_kill, n_kill, writeAt, a11, a21, a31, a41, a51, a61, a71, isNil, gF, eT, eO, evParts, hfill, hfill2, hall, h1, h2]
    rw [eA]
    simp [go_sem, get_alloc, n_alloc, get_set, n_set, get_kill, n_kill, writeAt, a11, a21, a31, a41, a51, a61, a71, hw]
    have hrow : ((rows ++ [(la, ta, codeW f)]).flatMap cdC) = rows.flatMap cdC ++ [la, ta, .int .i64 f.args] := by simp [List.flatMap_append, cdC, codeW]
    refine codes_loop hto hl32 hfa Q k (i + 1) g2 oa' (rows ++ [(la, ta, codeW f)]) (by omega) (by omega) hv2 (by rw [hrow]; exact o2) (by simp; omega) (fun j x hx => ?_) hq
    by_cases hj : j < rows.length
    · rw [List.getElem?_append_left hj] at hx
      exact hR j x hx
    · have hj2 : j = i := by
        have := (List.getElem?_eq_some_iff.mp hx).1
        simp at this; omega
      subst hj2
      rw [List.getElem?_append_right (by omega), hr, Nat.sub_self] at hx
      cases hx
      refine ⟨f, hfi, rfl, ⟨hla, ?_⟩, by show (gTok f.code).1.length ≤ _; omega, ?_, ?_⟩
      · show FzV 1 ta (codeW f).to.length ((codeW f).to.flatMap i64c); rw [hcto]; exact hta
      · show (codeW f).to.length ≤ _; rw [hcto]; omega
      · show ∀ x ∈ (codeW f).to, x ≤ _; rw [hcto]; exact hto2
theorem engine_codes_ok (hv : FV g fa fs) (hto : ∀ f ∈ fs, toOk f) (hl32 : fs.length ≤ 1000) :
    ∃ ca rows, call tb prim n_engine_codes [.agg [.int .i64 p, .int .i64 m, fa]] bar g = some (ca, g) ∧ FzV 3 ca rows.length (rows.flatMap cdC) ∧ rows.length = fs.length ∧ RowsV fs rows := by
  suffices hw : ∃ r, callF (call tb prim) f_engine_codes [.agg [.int .i64 p, .int .i64 m, fa]] bar g = some (r, g) ∧ ∃ rows, FzV 3 r rows.length (rows.flatMap cdC) ∧ rows.length = fs.length ∧ RowsV fs rows by
    obtain ⟨r, h1, rows, h2, h3⟩ := hw; exact ⟨r, rows, call_of tb_engine_codes h1, h2, h3⟩
  refine callF_pureK rfl rfl fun K hK => ?_
  have hv1 : FV (g.alloc (.cells [.int .i64 p, .int .i64 m, fa] 0)) fa fs := hv.keep (by simp [n_alloc]) (fun j hj => by rw [get_alloc, if_neg (by have := hv.at_lt' hj; omega)])
  simp [f_engine_codes, env0, go_sem, get_alloc, n_alloc, get_set, n_set, get_kill, n_kill, writeAt, a11, a21, a31, a41, a51, a61, a71, isNil, hv.one, hv.len, get_alloc]
  refine codes_loop (bar := g.n) hto hl32 (fun j hj => hv.at_lt' hj) _ fs.length 0 _ .nilsl [] (by omega) (by simp [n_alloc]) hv1 OS.nil rfl (fun j x hx => by simp at hx) (fun e g' oa' rows' h1 h2 h3 h4 => ?_)
  obtain ⟨a', h', h5, h6⟩ := h1.freeze' (h3.all _ (fun _ => rfl) (fun _ _ _ _ v => v.stay)) (h3.all _ (fun _ => rfl) (fun _ _ _ _ v => v.free)) (by omega) 2
  simp [go_sem, endX, resultsA, resultA, freezeL, AV.free.freeL, packA, h4, h5, h6.free, freezeV, AV.free]
  exact hK _ ⟨rows', by rw [h2]; exact h6, h2, h3⟩
end
end Go.Ev
set_option linter.unusedSectionVars false
namespace Go.Ev
open Go
structure CJ (fs : List Fn) (c : Code') (J : Nat → Js) : Prop where
  seq : ∃ P, Seqs fs c.l P J ∧ (P c.l.length).to = c.to
  a0 : 0 ≤ c.args
  a4 : c.args ≤ 4
theorem named_all (fs : List Fn) : ∀ (k i : Nat), namedN fs k i = true → ∀ j f, i ≤ j → j < i + k → fs[j]? = some f → goodF fs f j = true
  | 0, i, _, j, f, h1, h2, _ => by omega
  | k + 1, i, h, j, f, h1, h2, h3 => by
    rw [namedN] at h
    by_cases c : i = j
    · subst c
      rw [h3] at h
      simp only at h
      split at h
      · assumption
      · cases h
    · refine named_all fs k (i + 1) ?_ j f (by omega) (by omega) h3
      have hi : i < fs.length := by
        obtain ⟨q, _⟩ := List.getElem?_eq_some_iff.mp h3; omega
      rw [List.getElem?_eq_getElem hi] at h
      simp only at h
      split at h
      · exact h
      · cases h
theorem funs_all (fs : List Fn) : ∀ (k i : Nat), funsN fs k i = 0 → ∀ j, i ≤ j → j < i + k → fnOf fs j = 0
  | 0, i, _, j, h1, h2 => by omega
  | k + 1, i, h, j, h1, h2 => by
    rw [funsN] at h
    split at h
    · rename_i c; exact absurd h c
    · rename_i c
      by_cases e : i = j
      · subst e; exact Decidable.not_not.mp c
      · exact funs_all fs k (i + 1) h j (by omega) (by omega)
structure RightP (fs : List Fn) : Prop where
  good : ∀ (i : Nat) f, fs[i]? = some f → goodF fs f i = true
  code : ∀ f ∈ fs, ∃ J, CJ fs (codeW f) J
  len : fs.length ≤ 32
theorem right_of {p m : Int} {fs : List Fn} (h : rightN p m fs = 0) : RightP fs ∧ 0 ≤ p ∧ p ≤ m ∧ m ≤ 64 := by
  unfold rightN at h
  split at h
  · cases h
  rename_i c1
  split at h
  · cases h
  rename_i c2
  split at h
  case isFalse => cases h
  rename_i c3
  have hg : ∀ (i : Nat) f, fs[i]? = some f → goodF fs f i = true := fun i f hf => by
    obtain ⟨hi, _⟩ := List.getElem?_eq_some_iff.mp hf
    exact named_all fs _ 0 c3 i f (by omega) (by omega) hf
  refine ⟨⟨hg, fun f hf => ?_, by omega⟩, by omega, by omega, by omega⟩
  obtain ⟨i, hi⟩ := List.mem_iff_getElem?.mp hf
  obtain ⟨hil, _⟩ := List.getElem?_eq_some_iff.mp hi
  have h0 := funs_all fs _ 0 h i (by omega) (by omega)
  have hga := hg i f hi
  unfold goodF at hga
  simp only [Bool.and_eq_true, decide_eq_true_eq, beq_iff_eq] at hga
  unfold fnOf funN at h0
  rw [if_neg (by omega), Int.toNat_natCast, hi] at h0
  simp only at h0
  split at h0
  · rename_i c4; exact absurd h0 c4
  unfold funT at h0
  split at h0
  · cases h0
  rename_i c5
  split at h0
  · rename_i c6; exact absurd h0 c6
  rename_i c6
  split at h0
  · cases h0
  rename_i c7
  cases hn : nestP (toksN f.code).1 with
  | none => rw [hn] at c5; exact absurd rfl c5
  | some to =>
    obtain ⟨P, J, hS, hto⟩ := seqs_of (fs := fs) hn (Decidable.not_not.mp c6) (by omega)
    refine ⟨J, ⟨P, ?_, ?_⟩, hga.1.2, hga.2⟩
    · show Seqs fs (gTok f.code).1 P J
      rw [gTok_eq]; exact hS
    · show (P (gTok f.code).1.length).to = (nestP (gTok f.code).1).getD []
      rw [gTok_eq, hn]; exact hto
def FI (fs : List Fn) (f : Fm) : Prop := ∃ J, CJ fs f.c J ∧ f.at' ≤ f.c.l.length ∧ f.loc.length = 26 ∧ (f.st.length : Int) = jE f.c.l J f.at'
section
variable {fs : List Fn}
theorem FI.next {f : Fm} {J : Nat → Js} (hc : CJ fs f.c J) (hi : f.at' < f.c.l.length) {st : List Int} {loc : List Int} (hl : loc.length = 26) (hn : (st.length : Int) = (J (f.at' + 1)).h) : FI fs { f with at' := f.at' + 1, st := st, loc := loc } := by
  obtain ⟨⟨P, hS, hto⟩, a0, a4⟩ := hc
  exact ⟨J, ⟨⟨P, hS, hto⟩, a0, a4⟩, hi, hl, by
    show (st.length : Int) = jE f.c.l J (f.at' + 1)
    rw [hS.alive (by omega)]; exact hn⟩
end
end Go.Ev
set_option linter.unusedSectionVars false
namespace Go.Ev
open Go
theorem memS_len {sg : Int} {st st' : List Int} {m m' : Mem} {tr tr' : Int} (h : memS sg st m tr = some (st', m', tr')) : st'.length ≤ st.length + 1 := by
  unfold memS at h
  repeat' split at h
  all_goals first
    | cases h; simp; done
    | cases h; simp; omega
    | cases h
theorem plainF_len {t : Tok} {st st' : List Int} {r r' : Row} {tr tr' : Int} (h : plainF t st r tr = some (st', r', tr')) : st'.length ≤ st.length + 1 ∧ r'.asks.length ≤ r.asks.length + 1 := by
  have hask : ∀ nm n, (askR r nm n).1.asks.length ≤ r.asks.length + 1 := fun nm n => by
    unfold askR; split <;> simp
  unfold plainF at h
  repeat' split at h
  all_goals first
    | cases h; exact ⟨by first | omega | (simp only [List.length_cons]; omega), by first | exact hask _ _ | omega⟩
    | cases h
theorem endsM_sg : ∀ (r : List Fm) (f : Fm) {fr : List Fm}, endsM f r = some (fr, none) → FrSg (f :: r) → FrSg fr ∧ totS fr ≤ totS (f :: r) ∧ fr.length ≤ (f :: r).length ∧ ∃ f' r', fr = f' :: r' ∧ f'.at' < f'.c.l.length
  | r, f, fr, h, hg => by
    unfold endsM at h
    split at h
    · rename_i hlt
      cases h; exact ⟨hg, Nat.le_refl _, Nat.le_refl _, f, r, rfl, hlt⟩
    · split at h
      · cases h
      · rename_i v st hst
        split at h
        · cases h
        · rename_i g2 r2
          obtain ⟨h1, h2, h3, h4⟩ := endsM_sg r2 { g2 with st := v :: g2.st } h (fun x hx k hk => by
            rcases List.mem_cons.mp hx with rfl | hx
            · exact hg g2 (by simp) k hk
            · exact hg x (by simp [hx]) k hk)
          refine ⟨h1, ?_, ?_, h4⟩
          · simp only [totS, hst, List.length_cons] at h2 ⊢; omega
          · simp only [List.length_cons] at h3 ⊢; omega
theorem stepM_keep {fs : List Fn} {cs : List Code'} {s s' : Mc} (hc : ∀ c ∈ cs, ∀ k ∈ c.l, sigOk k.sign = true) (hg : FrSg s.fr) (h : stepM fs cs s = some s') (hl : s.fr.length ≤ 32) :
    FrSg s'.fr ∧ totS s'.fr ≤ totS s.fr + 1 ∧ s'.r.asks.length ≤ s.r.asks.length + 1 ∧ s'.fr.length ≤ 32 := by
  cases hfr : s.fr with
  | nil => unfold stepM at h; rw [hfr] at h; cases h
  | cons f r =>
    have one : ∀ f' : Fm, f'.c = f.c → f'.st.length ≤ f.st.length + 1 → FrSg (f' :: r) ∧ totS (f' :: r) ≤ totS (f :: r) + 1 ∧ (f' :: r).length ≤ 32 := fun f' h1 h2 => by
      refine ⟨fun x hx k hk => ?_, by simp only [totS]; omega, by rw [hfr] at hl; exact hl⟩
      rw [hfr] at hg
      rcases List.mem_cons.mp hx with rfl | hx
      · rw [h1] at hk; exact hg f (by simp) k hk
      · exact hg x (by simp [hx]) k hk
    have fin : ∀ f' : Fm, s'.fr = f' :: r → f'.c = f.c → f'.st.length ≤ f.st.length + 1 → s'.r.asks.length ≤ s.r.asks.length + 1 → FrSg s'.fr ∧ totS s'.fr ≤ totS (f :: r) + 1 ∧ s'.r.asks.length ≤ s.r.asks.length + 1 ∧ s'.fr.length ≤ 32 := fun f' h3 h1 h2 h4 => by
      rw [h3]; obtain ⟨a, b, c⟩ := one f' h1 h2; exact ⟨a, b, h4, c⟩
    unfold stepM at h
    rw [hfr] at h
    simp only at h
    split at h
    · cases h
    · split at h
      · cases h; exact fin _ rfl rfl (by simp) (by simp)
      · split at h
        · split at h
          · cases h
          · cases h; exact fin _ rfl rfl (by simp) (by simp)
        · split at h
          · split at h
            · cases h
            · rename_i hst
              cases h; exact fin _ rfl rfl (by simp [hst]; omega) (by simp)
          · split at h
            · split at h
              · cases h
              · rename_i c hcc
                split at h
                · cases h
                · split at h
                  · cases h; exact fin _ rfl rfl (by simp; omega) (by simp)
                  · rename_i hd
                    cases h
                    obtain ⟨a1, a2, a3⟩ := one { f with at' := f.at' + 1, st := f.st.drop c.args.toNat } rfl (by simp; omega)
                    refine ⟨fun x hx k hk => ?_, ?_, by simp, ?_⟩
                    · rcases List.mem_cons.mp hx with rfl | hx
                      · exact hc c (List.mem_of_getElem? hcc) k hk
                      · exact a1 x hx k hk
                    · show 0 + totS _ ≤ _
                      omega
                    · simp at hd ⊢; omega
            · split at h
              · split at h
                · split at h
                  · cases h
                  · rename_i hst
                    split at h
                    · cases h; exact fin _ rfl rfl (by simp [hst]; omega) (by simp)
                    · split at h
                      · cases h
                      · split at h
                        · cases h
                        · cases h; exact fin _ rfl rfl (by simp [hst]; omega) (by simp)
                · split at h
                  · cases h
                  · split at h
                    · cases h
                    · cases h; exact fin _ rfl rfl (by simp) (by simp)
              · split at h
                · split at h
                  · cases h
                  · rename_i hm
                    cases h; exact fin _ rfl rfl (memS_len hm) (by simp)
                · split at h
                  · cases h
                  · rename_i hm
                    cases h; exact fin _ rfl rfl (plainF_len hm).1 (plainF_len hm).2
section
variable {bar b : Nat} {g : H} {own : Nat → Nat} {C : Cx}
theorem XO.cell7 {tr val : Int} {ids : List Nat} (v : XO g b own C tr val ids) : ∃ cs, g.get C.X = some (.cells cs 0) ∧ cs[7]? = some (.int .i64 tr) := by
  obtain ⟨⟨fra, h, _⟩, _⟩ := v; exact ⟨_, h, rfl⟩
def RunV (g : H) (b : Nat) (own : Nat → Nat) (C : Cx) (s : Mc) (v : Int) : Prop := (∃ ids, XO g b own C s.trap v ids) ∧ MemO g b own C.M s.m ∧ RowO g b own C.R s.r ∧ b ≤ g.n
theorem run_loop (hb : bar ≤ b) (asked : Int) (rc : Nat) (hcs : ∀ x ∈ C.rows, ∀ k ∈ x.2.2.l, sigOk k.sign = true) (Q : Ex → Env → H → Prop) : ∀ (n : Nat) (g : H) (own : Nat → Nat) (s : Mc) (ids : List Nat) {s' : Mc} {v : Int} {n' : Nat}, XV g b own C s 0 ids → FrSg s.fr → totS s.fr + n < 2999999 → s.r.asks.length + n < 1999999 → s.fr.length ≤ 32 → (n : Int) ≤ 1048576 →
    runM C.fs (C.rows.map (·.2.2)) n s = some (s', v, n') →
    (∀ e g' own', RunV g' b own' C s' v → Kp own tA g g' → Agr g.n own own' → e.get 2 = some (.ptr C.R 0) → e.get 4 = some (.int .i64 n') → e.get 12 = some (.ptr rc 0) → e.get 16 = some (.int .i64 asked) → e.get 17 = some (.ptr C.X 0) → Q (.exit 0) e g') →
    wpL (call tb prim) bar [2, 4, 12, 16, 17] l0_engine_Run [(2, .ptr C.R 0), (4, .int .i64 n), (12, .ptr rc 0), (16, .int .i64 asked), (17, .ptr C.X 0)] g Q := by
  intro n
  induction n with
  | zero =>
    intro g own s ids s' v n' xv hg hT hA hL hn hr hq
    refine M_loop l0_engine_Run.eq_1 ?_
    obtain ⟨cs, c1, c7⟩ := xv.x.cell7
    by_cases ht : s.trap = 0
    · have hd : (s.trap == 0) = true := by simpa using ht
      have xv0 := xv
      cases hfr : s.fr with
      | nil => unfold runM at hr; rw [if_neg (by simpa using ht), hfr] at hr; cases hr
      | cons f r =>
        have hv : FrsV g b own (f :: r) ids := hfr ▸ xv.fr
        cases ids with
        | nil => exact hv.elim
        | cons i l =>
          cases he : endsM f r with
          | none => unfold runM at hr; rw [if_neg (by simpa using ht), hfr] at hr; simp only [he] at hr; cases hr
          | some out =>
            obtain ⟨g1, own1, e1, k1, a1, hE⟩ := ends_ok (bar := bar) hb xv.bn xv.x hv (by rw [hfr] at hT; omega) he
            have m1 := xv.m.mono k1 a1 (by unfold tE; omega)
            have r1 := xv.r.mono k1 a1 (by unfold tE; omega)
            have hbn1 : b ≤ g1.n := by have := k1.1; have := xv.bn; omega
            unfold runM at hr
            rw [if_neg (by simpa using ht), hfr] at hr
            simp only [he] at hr
            match out, hr, e1, hE with
            | (fr, some v2), hr, e1, hE =>
              simp only at hr
              cases hr
              simp only [Option.isNone] at e1
              simp [go_sem, get_alloc, n_alloc, get_set, n_set, get_kill, n_kill, writeAt, a11, a21, a31, a41, a51, a61, a71, isNil, c1, c7, hd, e1]
              refine hq _ g1 own1 ⟨⟨[], ?_⟩, m1, r1, hbn1⟩ (k1.le fun k h => tE_A h) a1 rfl rfl rfl rfl rfl
              exact hE.2
            | (fr, none), hr, e1, hE =>
              simp only at hr
              simp only [Option.isNone] at e1
              obtain ⟨j, ids', x1, f1⟩ := hE
              cases hr
              have x1' := x1
              obtain ⟨⟨fra, q1, q2, q3⟩, qo, qb, ql, qs⟩ := x1'
              have hsp : splice (xC C fra s.trap 0) 7 [.int .i64 1] = xC C fra 1 0 := rfl
              have hle : 7 + 1 ≤ (xC C fra s.trap 0).length := by simp [xC]
              obtain ⟨xc, hxc⟩ : ∃ xc, xc = xC C fra s.trap 0 := ⟨_, rfl⟩
              rw [← hxc] at q1 hsp hle
              have hbx : bar ≤ C.X := Nat.le_trans hb qb
              obtain ⟨g2, hg2⟩ : ∃ g2, g2 = g1.set C.X (.cells (xC C fra 1 0) 0) := ⟨_, rfl⟩
              have k2 : Kp own1 (fun k => k = 1) g1 g2 := ⟨by rw [hg2, n_set]; exact Nat.le_refl _, fun j hj hs => by rw [hg2, get_set_ne (fun q => hs (by rw [q]; exact qo))]⟩
              simp [go_sem, get_alloc, n_alloc, get_set, n_set, get_kill, n_kill, writeAt, a11, a21, a31, a41, a51, a61, a71, isNil, c1, c7, hd, e1, q1, hsp, hle, hbx]
              rw [← hg2]
              refine hq _ g2 own1 ⟨⟨j :: ids', ⟨⟨fra, by rw [hg2, get_set, if_pos rfl], q2.mono k2.1 (fun j hj => by rw [hg2, get_set_ne (fun q => by have := q3 j hj; rw [q, qo] at this; omega)]), q3⟩, qo, qb, by rw [hg2, n_set]; exact ql, qs⟩⟩, m1.mono k2 Agr.refl (by omega), r1.mono k2 Agr.refl (by omega), by have := k2.1; omega⟩ ((k1.le fun k h => tE_A h).trans a1 (k2.le fun k h => by unfold tA; omega)) a1 rfl rfl rfl rfl rfl
    · have hd : (s.trap == 0) = false := by simpa using ht
      unfold runM at hr
      rw [if_pos ht] at hr
      cases hr
      simp [go_sem, get_alloc, n_alloc, get_set, n_set, get_kill, n_kill, writeAt, a11, a21, a31, a41, a51, a61, a71, isNil, c1, c7, hd]
      exact hq _ g own ⟨⟨ids, xv.x⟩, xv.m, xv.r, xv.bn⟩ Kp.refl Agr.refl rfl rfl rfl rfl rfl
  | succ n ih =>
    intro g own s ids s' v n' xv hg hT hA hL hn hr hq
    refine M_loop l0_engine_Run.eq_1 ?_
    obtain ⟨cs, c1, c7⟩ := xv.x.cell7
    by_cases ht : s.trap = 0
    · have hd : (s.trap == 0) = true := by simpa using ht
      have xv0 := xv
      cases hfr : s.fr with
      | nil => unfold runM at hr; rw [if_neg (by simpa using ht), hfr] at hr; cases hr
      | cons f r =>
        have hv : FrsV g b own (f :: r) ids := hfr ▸ xv.fr
        cases ids with
        | nil => exact hv.elim
        | cons i l =>
          cases he : endsM f r with
          | none => unfold runM at hr; rw [if_neg (by simpa using ht), hfr] at hr; simp only [he] at hr; cases hr
          | some out =>
            obtain ⟨g1, own1, e1, k1, a1, hE⟩ := ends_ok (bar := bar) hb xv.bn xv.x hv (by rw [hfr] at hT; omega) he
            have m1 := xv.m.mono k1 a1 (by unfold tE; omega)
            have r1 := xv.r.mono k1 a1 (by unfold tE; omega)
            have hbn1 : b ≤ g1.n := by have := k1.1; have := xv.bn; omega
            unfold runM at hr
            rw [if_neg (by simpa using ht), hfr] at hr
            simp only [he] at hr
            match out, hr, e1, hE with
            | (fr, some v2), hr, e1, hE =>
              simp only at hr
              cases hr
              simp only [Option.isNone] at e1
              simp [go_sem, get_alloc, n_alloc, get_set, n_set, get_kill, n_kill, writeAt, a11, a21, a31, a41, a51, a61, a71, isNil, c1, c7, hd, e1]
              refine hq _ g1 own1 ⟨⟨[], ?_⟩, m1, r1, hbn1⟩ (k1.le fun k h => tE_A h) a1 rfl rfl rfl rfl rfl
              exact hE.2
            | (fr, none), hr, e1, hE =>
              simp only at hr
              simp only [Option.isNone] at e1
              obtain ⟨j, ids', x1, f1⟩ := hE
              obtain ⟨hg1, ht1, hl1, f', r', rfl, hlt⟩ := endsM_sg r f he (by rw [← hfr]; exact hg)
              have cx1 := xv.cx.mono k1 a1 (by unfold tE; omega)
              have xv1 : XV g1 b own1 C { s with fr := f' :: r' } 0 (j :: ids') := ⟨x1, cx1, f1, m1, r1, hbn1⟩
              split at hr
              · cases hr
              · rename_i s2 hs2
                have hT' : totS (f' :: r') + n < 2999998 := by rw [hfr] at hT; omega
                obtain ⟨hg2, ht2, ha2, hl2⟩ := stepM_keep (s := { s with fr := f' :: r' }) (fun c hc k hk => by
                  obtain ⟨x, hx, rfl⟩ := List.mem_map.mp hc
                  exact hcs x hx k hk) hg1 hs2 (by rw [hfr] at hL; simp only [List.length_cons] at hL hl1 ⊢; omega)
                have hil : ids'.length = r'.length := f1.2.len
                obtain ⟨g2, own2, ids2, e2, xv2, k2, a2⟩ := step_ok (bar := bar) xv1 rfl hb hs2 hg1 (by show totS (f' :: r') < _; omega) (by show s.r.asks.length < _; omega) (by rw [hil]; rw [hfr] at hL; simp only [List.length_cons] at hL hl1; omega)
                obtain ⟨sid, all, full, tX, tS, tt, _⟩ := x1.top
                obtain ⟨xc, hxc⟩ : ∃ xc, xc = xC C (.sl sid 0 1 (ids'.length + 1) full) s.trap 0 := ⟨_, rfl⟩
                have h6 : xc[6]? = some (.sl sid 0 1 (ids'.length + 1) full) := by rw [hxc]; rfl
                rw [← hxc] at tX
                have hwi : IntKind.i64.wrap (ids'.length : Int) = (ids'.length : Nat) := w64 (by omega) (by rw [hil]; rw [hfr] at hL; simp only [List.length_cons] at hL hl1; omega)
                have hltI : (ids'.length : Int) < (ids'.length : Int) + 1 := by omega
                have hz : (((n : Int) + 1) == 0) = false := by simp; omega
                have hwn : IntKind.i64.wrap (n : Int) = (n : Nat) := w64 (by omega) (by omega)
                simp [go_sem, get_alloc, n_alloc, get_set, n_set, get_kill, n_kill, writeAt, a11, a21, a31, a41, a51, a61, a71, isNil, c1, c7, hd, e1, hz, hwn, tX, h6, hwi, hltI, indexIn, tS, tt, e2]
                have kk : Kp own tA g g2 := (k1.le fun k h => tE_A h).trans a1 k2
                have aa : Agr g.n own own2 := Agr.trans a1 a2 k1.1
                exact ih g2 own2 s2 ids2 xv2 hg2 (by have : totS s2.fr ≤ totS (f' :: r') + 1 := ht2; omega) (by have : s2.r.asks.length ≤ s.r.asks.length + 1 := ha2; omega) hl2 (by omega) hr (fun e g' own' h1 h2 h3 => hq e g' own' h1 (kk.trans aa h2) (Agr.trans aa h3 kk.1))
    · have hd : (s.trap == 0) = false := by simpa using ht
      unfold runM at hr
      rw [if_pos ht] at hr
      cases hr
      simp [go_sem, get_alloc, n_alloc, get_set, n_set, get_kill, n_kill, writeAt, a11, a21, a31, a41, a51, a61, a71, isNil, c1, c7, hd]
      exact hq _ g own ⟨⟨ids, xv.x⟩, xv.m, xv.r, xv.bn⟩ Kp.refl Agr.refl rfl rfl rfl rfl rfl
end
end Go.Ev
set_option linter.unusedSectionVars false
namespace Go.Ev
open Go
theorem FzV.drop {k : Nat} {a : AV} {n : Nat} {cs : List AV} (v : FzV k a n cs) {i : Nat} (hi : i ≤ n) : ∃ a', sliceA k a (some (.int .i64 (i : Int))) none none = some a' ∧ FzV k a' (n - i) (cs.drop (i * k)) := by
  obtain ⟨h1, h2, ⟨rfl, rfl⟩ | ⟨full, rfl⟩⟩ := v
  · have hi0 : i = 0 := by omega
    subst hi0
    refine ⟨.nilsl, by simp [sliceA, optBound, bound], by simp [h1], by omega, .inl ⟨rfl, rfl⟩⟩
  · have e1 : optBound 0 (some (AV.int .i64 (i : Int))) = some i := by simp [optBound, bound]
    have e2 : ∀ n, optBound n none = some n := fun _ => rfl
    refine ⟨.fz k (n - i) ((cs.drop (i * k)).take ((n - i) * k)) (full && decide (n = n)), ?_, ?_, by omega, ?_⟩
    · simp only [sliceA, e1, e2]
      rw [if_pos ⟨trivial, h1, by omega, Nat.le_refl _⟩]
    · rw [List.length_drop, h1, Nat.sub_mul]
    · exact .inr ⟨_, by rw [List.take_of_length_le (by rw [List.length_drop, h1, Nat.sub_mul]; exact Nat.le_refl _)]⟩
theorem askR_pre (r : Row) (nm n : Int) : ∃ l, (askR r nm n).1.asks = r.asks ++ l := by
  unfold askR; split <;> exact ⟨_, rfl⟩
theorem plainF_pre {t : Tok} {st st' : List Int} {r r' : Row} {tr tr' : Int} (h : plainF t st r tr = some (st', r', tr')) : ∃ l, r'.asks = r.asks ++ l := by
  unfold plainF at h
  repeat' split at h
  all_goals first
    | cases h; exact askR_pre _ _ _
    | cases h; exact ⟨[], by simp⟩
    | cases h
theorem stepM_pre {fs : List Fn} {cs : List Code'} {s s' : Mc} (h : stepM fs cs s = some s') : ∃ l, s'.r.asks = s.r.asks ++ l := by
  unfold stepM at h
  repeat' split at h
  all_goals first
    | cases h; done
    | (rename_i hm; cases h; exact plainF_pre hm)
    | cases h; exact ⟨[], by simp⟩
theorem runM_pre {fs : List Fn} {cs : List Code'} : ∀ (n : Nat) {s s' : Mc} {v : Int} {n' : Nat}, runM fs cs n s = some (s', v, n') → ∃ l, s'.r.asks = s.r.asks ++ l
  | n, s, s', v, n', h => by
    unfold runM at h
    split at h
    · cases h; exact ⟨[], by simp⟩
    · split at h
      · cases h
      · split at h
        · cases h
        · cases h; exact ⟨[], by simp⟩
        · split at h
          · cases h; exact ⟨[], by simp⟩
          · split at h
            · cases h
            · rename_i hs
              obtain ⟨l1, h1⟩ := stepM_pre hs
              obtain ⟨l2, h2⟩ := runM_pre _ h
              exact ⟨l1 ++ l2, by rw [h2, h1]; simp⟩
theorem sp40 (a b c d u v w x : AV) : splice [a, b, c, d] 0 [u, v, w, x] = [u, v, w, x] := Eq.trans rfl rfl
theorem fillA_cons {z : List AV} {off n : Nat} {v : AV} {r : List (Nat × Nat × AV)} (h1 : v.cells.length = n) (h2 : off + n ≤ z.length) (h3 : v.cells.all AV.one = true) : fillA z ((off, n, v) :: r) = fillA (splice z off v.cells) r := by
  rw [fillA, if_pos ⟨h1, h2, h3⟩]
theorem fillA_one {z : List AV} {off : Nat} {v : AV} {r : List (Nat × Nat × AV)} (h : v.one = true) (h2 : off + 1 ≤ z.length) : fillA z ((off, 1, v) :: r) = fillA (splice z off [v]) r := by
  have e := cells_one h
  rw [fillA_cons (by rw [e]; rfl) h2 (by rw [e]; simp [h]), e]
theorem fillX (p mo : Int) {fa ca : AV} (h1 : fa.one = true) (h2 : ca.one = true) (M R : Nat) : fillA [.int .i64 0, .int .i64 0, .nilsl, .nilsl, .nilptr, .nilptr, .nilsl, .int .i64 0, .int .i64 0] [(0, 3, .agg [.int .i64 p, .int .i64 mo, fa]), (3, 1, ca), (4, 1, .ptr M 0), (5, 1, .ptr R 0)] = some [.int .i64 p, .int .i64 mo, fa, ca, .ptr M 0, .ptr R 0, .nilsl, .int .i64 0, .int .i64 0] := by
  rw [fillA_cons (n := 3) (v := .agg [.int .i64 p, .int .i64 mo, fa]) rfl (by simp) (by
    show (true && (true && (fa.one && true))) = true
    rw [h1]; rfl), fillA_one h2 (by simp [splice, AV.cells]), fillA_one rfl (by simp [splice, AV.cells]), fillA_one rfl (by simp [splice, AV.cells])]
  rfl
theorem fill4 (a b c : Int) {d : AV} (h : d.one = true) : fillA [.int .i64 0, .int .i64 0, .int .i64 0, .nilsl] [(0, 1, .int .i64 a), (1, 1, .int .i64 b), (2, 1, .int .i64 c), (3, 1, d)] = some [.int .i64 a, .int .i64 b, .int .i64 c, d] := by
  rw [fillA_one rfl (by simp), fillA_one rfl (by simp [splice]), fillA_one rfl (by simp [splice]), fillA_one h (by simp [splice])]
  rfl
def runRes (v tr n : Int) (aa : AV) : AV := .tup [.agg [.int .i64 v, .int .i64 tr, .int .i64 n, aa], .int .i64 0]
section
variable {bar : Nat} {g : H} {own : Nat → Nat} {fa aa : AV} {fs : List Fn} {p mo : Int} {M R : Nat} {m : Mem} {r : Row}
theorem Run_ok (hv : FV g fa fs) (hfo : At own fa 0) (hm : MemO g bar own M m) (hr : RowO g bar own R r) (hbar : bar ≤ g.n) (hright : rightN p mo fs = 0) (hto : ∀ f ∈ fs, toOk f) (hsig : ∀ f ∈ fs, ∀ k ∈ (gTok f.code).1, sigOk k.sign = true) (harg : ∀ f ∈ fs, 0 ≤ f.args ∧ f.args ≤ 26) (hl32 : fs.length ≤ 32)
    {nm fuel : Int} (hf0 : 0 ≤ fuel) (hf1 : fuel ≤ 1048576) {k : Nat} (hk : findN nm fs 0 = k) {f : Fn} (hf : fs[k]? = some f) {args : List Int} (haa : Vw 1 g aa args.length (args.map (AV.int .i64))) (hargs : f.args = args.length) (hra : r.asks.length ≤ 900000)
    {s' : Mc} {v : Int} {n' : Nat} (hrun : runM fs (fs.map codeW) fuel.toNat ⟨[newF (codeW f) args], m, r, 0⟩ = some (s', v, n')) :
    ∃ xa g' own' ids C, call tb prim n_engine_Run [.agg [.int .i64 p, .int .i64 mo, fa], .ptr M 0, .ptr R 0, .int .i32 nm, .int .i64 fuel, aa] bar g = some (runRes v s'.trap n' xa, g') ∧ FzV 2 xa (s'.r.asks.length - r.asks.length) ((s'.r.asks.drop r.asks.length).flatMap asC) ∧ C.M = M ∧ C.R = R ∧ XO g' bar own' C s'.trap v ids ∧ MemO g' bar own' M s'.m ∧ RowO g' bar own' R s'.r ∧ Kp own tA g g' ∧ Agr g.n own own' := by
  
  obtain ⟨g1, hg1⟩ : ∃ g1, g1 = (g.alloc (.cells [.int .i64 p, .int .i64 mo, fa] 0)).alloc (.cells [.int .i64 0, .int .i64 0, .int .i64 0, .nilsl] 0) := ⟨_, rfl⟩
  have n1 : g1.n = g.n + 2 := by rw [hg1]; simp [n_alloc]
  have k1 : ∀ j, j < g.n → g1.get j = g.get j := fun j hj => by rw [hg1, get_alloc, if_neg (by simp [n_alloc]; omega), get_alloc, if_neg (by omega)]
  have gU : g1.get g.n = some (.cells [.int .i64 p, .int .i64 mo, fa] 0) := by rw [hg1, get_alloc, if_neg (by simp [n_alloc]), get_alloc, if_pos rfl]
  have gC : g1.get (g.n + 1) = some (.cells [.int .i64 0, .int .i64 0, .int .i64 0, .nilsl] 0) := by rw [hg1, get_alloc, if_pos (by simp [n_alloc])]
  have hv1 : FV g1 fa fs := hv.keep (by omega) (fun j hj => k1 j (hv.at_lt' hj))
  have eR := unit_Right_ok (bar := bar) (p := p) (m := mo) hv1
  rw [hright] at eR
  have eF := check_Find_ok (pr := prim) (bar := bar) (h := g1) fs fa nm p mo hv1
  rw [hk] at eF
  have hkl := (List.getElem?_eq_some_iff.mp hf).1
  have hfk : fs[k] = f := (List.getElem?_eq_some_iff.mp hf).2
  obtain ⟨own1, hown1⟩ : ∃ own1, own1 = ext own g.n 9 := ⟨_, rfl⟩
  have kp1 : Kp own (fun _ => False) g g1 := ⟨by omega, fun j hj _ => k1 j hj⟩
  have ag1 : Agr g.n own own1 := by rw [hown1]; exact Agr.ext
  have m1 := hm.mono kp1 ag1 (by simp)
  have r1 := hr.mono kp1 ag1 (by simp)
  have r1' := r1
  obtain ⟨⟨rla, raa, hrv, _, _⟩, _⟩ := r1'
  obtain ⟨xa0, eA, hxa0⟩ := asks_ok (bar := bar) hrv
  have hlenA := hxa0.len
  obtain ⟨ca, rows, eC, hca, hrl, hrows⟩ := engine_codes_ok (bar := bar) (p := p) (m := mo) hv1 hto (by omega)
  
  obtain ⟨C, hC⟩ : ∃ C : Cx, C = ⟨g1.n, p, mo, fa, fs, ca, rows, M, R⟩ := ⟨_, rfl⟩
  have hCM : C.M = M := by rw [hC]
  have hCR : C.R = R := by rw [hC]
  have hCX : C.X = g1.n := by rw [hC]
  have hCfs : C.fs = fs := by rw [hC]
  have hCrows : C.rows = rows := by rw [hC]
  obtain ⟨g2, hg2⟩ : ∃ g2, g2 = g1.alloc (.cells [.int .i64 p, .int .i64 mo, fa, ca, .ptr M 0, .ptr R 0, .nilsl, .int .i64 0, .int .i64 0] 0) := ⟨_, rfl⟩
  have n2 : g2.n = g1.n + 1 := by rw [hg2]; simp [n_alloc]
  obtain ⟨own2, hown2⟩ : ∃ own2, own2 = ext own1 g1.n 1 := ⟨_, rfl⟩
  have kp2 : Kp own1 (fun _ => False) g1 g2 := by rw [hg2]; exact alloc_kp
  have ag2 : Agr g1.n own1 own2 := by rw [hown2]; exact Agr.ext
  have hfo1 : At own1 fa 0 := fun j hj => by rw [ag1 j (hv.at_lt' hj)]; exact hfo j hj
  have cx1 : CxV g1 own1 C := by
    rw [hC]
    refine ⟨hv1, hfo1, hca, fun x hx => ?_⟩
    obtain ⟨j, hj⟩ := List.mem_iff_getElem?.mp hx
    obtain ⟨f2, hf2, e2, hcv⟩ := hrows j x hj
    refine ⟨hcv, ?_⟩
    rw [e2]; exact harg f2 (List.mem_of_getElem? hf2)
  have cx2 : CxV g2 own2 C := cx1.mono kp2 ag2 (by simp)
  have x2 : XO g2 bar own2 C 0 0 [] := ⟨⟨.nilsl, by rw [hCX, hg2, get_alloc, if_pos rfl, hC]; rfl, OW.nil, fun j hj => hj.elim⟩, by rw [hCX, hown2]; simp [ext], by rw [hCX]; omega, by rw [hCX]; omega, by simp⟩
  have m2 := m1.mono kp2 ag2 (by simp)
  have r2 := r1.mono kp2 ag2 (by simp)
  obtain ⟨x, hx⟩ : ∃ x, rows[k]? = some x := ⟨rows[k]'(by omega), List.getElem?_eq_getElem (by omega)⟩
  obtain ⟨f2, hf2, ex2, hcv2⟩ := hrows k x hx
  have : f2 = f := by rw [hf] at hf2; cases hf2; rfl
  subst this
  have haa2 : Vw 1 g2 aa args.length (args.map (AV.int .i64)) := haa.keep (by omega) (fun j hj => by have := haa.at_lt' hj; rw [hg2, get_alloc, if_neg (by omega)]; exact k1 j this)
  obtain ⟨g3, own3, e3, x3, f3, k3, a3⟩ := call_ok' (bar := bar) (args := args) x2 cx2 (Nat.le_refl _) (by omega) (by rw [hCrows]; exact hx) haa2 (by have := (harg f2 (List.mem_of_getElem? hf)).2; omega) (by simp)
  have cx3 := cx2.mono k3 a3 (by omega)
  have m3 := m2.mono k3 a3 (by omega)
  have r3 := r2.mono k3 a3 (by omega)
  have hsmall : totS [newF x.2.2 args] = 0 := rfl
  have xv3 : XV g3 bar own3 C ⟨[newF (codeW f2) args], m, r, 0⟩ 0 [g2.n] := ⟨x3, cx3, ⟨by rw [← ex2]; exact f3, trivial⟩, by rw [hCM]; exact m3, by rw [hCR]; exact r3, by have := k3.1; omega⟩
  have hmap : C.rows.map (·.2.2) = fs.map codeW := by
    rw [hCrows]
    apply List.ext_getElem?
    intro j
    rw [List.getElem?_map, List.getElem?_map]
    cases hj : rows[j]? with
    | none =>
      have : fs[j]? = none := by rw [List.getElem?_eq_none_iff] at hj ⊢; omega
      rw [this]; rfl
    | some y =>
      obtain ⟨f4, h4, h5, _⟩ := hrows j y hj
      rw [h4]; simp [h5]
  obtain ⟨lp, hlp⟩ := runM_pre _ hrun
  simp only at hlp
  have hws : (fuel.toNat : Int) = fuel := Int.toNat_of_nonneg hf0
  
  obtain ⟨y, g9, hcall, xa, own', ids, rfl, q1, q2, q3, q4, q5, q6⟩ := callF_K (o := call tb prim) (F := f_engine_Run) (bar := bar) (h := g) (args := [.agg [.int .i64 p, .int .i64 mo, fa], .ptr M 0, .ptr R 0, .int .i32 nm, .int .i64 fuel, aa])
    (P := fun y g' => ∃ xa own' ids, y = runRes v s'.trap n' xa ∧ FzV 2 xa (s'.r.asks.length - r.asks.length) ((s'.r.asks.drop r.asks.length).flatMap asC) ∧ XO g' bar own' C s'.trap v ids ∧ MemO g' bar own' M s'.m ∧ RowO g' bar own' R s'.r ∧ Kp own tA g g' ∧ Agr g.n own own') rfl rfl (fun K hK => by
    have d0 : decide (fuel < 0) = false := by simpa using hf0
    have d1 : decide (1048576 < fuel) = false := by simpa using hf1
    have dk : decide ((k : Int) < 0) = false := by simp
    have da : ((args.length : Int) != f2.args) = false := by rw [hargs]; simp
    have hla := haa.len
    simp [f_engine_Run, env0, go_sem, get_alloc, n_alloc, get_set, n_set, get_kill, n_kill, writeAt, a11, a21, a31, a41, a51, a61, a71, isNil, isNilK, hv.one, d0, d1]
    rw [← hg1]
    simp [go_sem, get_alloc, n_alloc, get_set, n_set, get_kill, n_kill, writeAt, a11, a21, a31, a41, a51, a61, a71, isNil, gU, eR, eF, dk, hla, goI]
    refine S_fld hv1 hkl fun u w => ?_
    rw [hfk]
    simp [go_sem, get_alloc, n_alloc, get_set, n_set, get_kill, n_kill, writeAt, a11, a21, a31, a41, a51, a61, a71, isNil, gU, da, eA, hlenA, goI, eC]
    have hfX := fillX p mo hv.one hca.one M R
    have hoX : ([.int .i64 p, .int .i64 mo, fa, ca, .ptr M 0, .ptr R 0, .nilsl, .int .i64 0, .int .i64 0] : List AV).all AV.one = true := by
      show (true && (true && (fa.one && (ca.one && (true && (true && (true && (true && (true && true))))))))) = true
      rw [hv.one, hca.one]; rfl
    rw [hCX] at e3
    simp [go_sem, get_alloc, n_alloc, get_set, n_set, get_kill, n_kill, writeAt, a11, a21, a31, a41, a51, a61, a71, isNil, evParts, hfX, AV.cells, hoX]
    rw [← hg2]
    simp [go_sem, get_alloc, n_alloc, get_set, n_set, get_kill, n_kill, writeAt, a11, a21, a31, a41, a51, a61, a71, isNil, e3]
    have hcs : ∀ x ∈ C.rows, ∀ k ∈ x.2.2.l, sigOk k.sign = true := fun y hy k2 hk2 => by
      rw [hCrows] at hy
      obtain ⟨j, hj⟩ := List.mem_iff_getElem?.mp hy
      obtain ⟨f4, h4, h5, _⟩ := hrows j y hj
      rw [h5] at hk2
      exact hsig f4 (List.mem_of_getElem? h4) k2 hk2
    have hl := fun Q hq => run_loop (bar := bar) (b := bar) (C := C) (Nat.le_refl _) r.asks.length (g.n + 1) hcs Q fuel.toNat g3 own3 ⟨[newF (codeW f2) args], m, r, 0⟩ [g2.n] (s' := s') (v := v) (n' := n') xv3 (fun y hy k2 hk2 => by
      rw [List.mem_singleton] at hy; subst hy; exact hsig f2 (List.mem_of_getElem? hf) k2 hk2) (by show 0 + 0 + fuel.toNat < _; omega) (by show r.asks.length + fuel.toNat < _; omega) (by simp) (by omega) (by rw [hCfs, hmap]; exact hrun) hq
    simp only [hCR, hCX, hws] at hl
    refine hl _ (fun e g4 own4 hR k4 a4 ge2 ge4 ge12 ge16 ge17 => ?_)
    obtain ⟨⟨ids, x4⟩, m4, r4, b4⟩ := hR
    rw [hCM] at m4
    rw [hCR] at r4
    have r4' := r4
    obtain ⟨⟨rla4, raa4, hrv4, _, _⟩, _⟩ := r4'
    obtain ⟨xa4, eA4, hxa4⟩ := asks_ok (bar := bar) hrv4
    have hle4 : r.asks.length ≤ s'.r.asks.length := by rw [hlp]; simp
    obtain ⟨xa5, eD, hxa5⟩ := hxa4.drop hle4
    rw [flat_drop (c := asC) (k := 2) (fun _ => rfl)] at hxa5
    have x4' := x4
    obtain ⟨⟨fra, gx4, _, _⟩, _, _, _, _⟩ := x4'
    rw [hCX] at gx4
    obtain ⟨xc, hxc⟩ : ∃ xc, xc = xC C fra s'.trap v := ⟨_, rfl⟩
    have hx7 : xc[7]? = some (.int .i64 s'.trap) := by rw [hxc]; rfl
    have hx8 : xc[8]? = some (.int .i64 v) := by rw [hxc]; rfl
    rw [← hxc] at gx4
    have oC1 : own1 (g.n + 1) = 9 := by rw [hown1]; simp only [ext]; rw [if_neg (by omega)]
    have oC2 : own2 (g.n + 1) = 9 := by rw [ag2 _ (by omega)]; exact oC1
    have oC3 : own3 (g.n + 1) = 9 := by rw [a3 _ (by omega)]; exact oC2
    have oC4 : own4 (g.n + 1) = 9 := by rw [a4 _ (by have := k3.1; omega)]; exact oC3
    have gC2 : g2.get (g.n + 1) = some (.cells [.int .i64 0, .int .i64 0, .int .i64 0, .nilsl] 0) := by rw [kp2.2 _ (by omega) (by simp)]; exact gC
    have gC3 : g3.get (g.n + 1) = some (.cells [.int .i64 0, .int .i64 0, .int .i64 0, .nilsl] 0) := by rw [k3.2 _ (by omega) (by rw [oC2]; omega)]; exact gC2
    have gC4 : g4.get (g.n + 1) = some (.cells [.int .i64 0, .int .i64 0, .int .i64 0, .nilsl] 0) := by rw [k4.2 _ (by have := k3.1; omega) (by rw [oC3]; unfold tA; omega)]; exact gC3
    have hf4 := fill4 v s'.trap n' hxa5.one
    have hall : ([.int .i64 v, .int .i64 s'.trap, .int .i64 n', xa5] : List AV).all AV.one = true := by
      show (true && (true && (true && (xa5.one && true)))) = true
      rw [hxa5.one]; rfl
    have hsta : ([.int .i64 v, .int .i64 s'.trap, .int .i64 n', xa5] : List AV).all AV.stay = true := by
      show (true && (true && (true && (xa5.stay && true)))) = true
      rw [hxa5.stay]; rfl
    have hfre : ([.int .i64 v, .int .i64 s'.trap, .int .i64 n', xa5] : List AV).all AV.free = true := by
      show (true && (true && (true && (xa5.free && true)))) = true
      rw [hxa5.free]; rfl
    have hbC : bar ≤ g.n + 1 := by omega
    obtain ⟨g5, hg5⟩ : ∃ g5, g5 = g4.set (g.n + 1) (.cells [.int .i64 v, .int .i64 s'.trap, .int .i64 n', xa5] 0) := ⟨_, rfl⟩
    have k5 : Kp own4 (fun k => k = 9) g4 g5 := ⟨by rw [hg5, n_set]; exact Nat.le_refl _, fun j hj hs => by rw [hg5, get_set_ne (fun q => hs (by rw [q]; exact oC4))]⟩
    have hfz := fun d h => freezeL_stay (bar := bar) (d := d) (h := h) hsta
    have gC5 : g5.get (g.n + 1) = some (.cells [.int .i64 v, .int .i64 s'.trap, .int .i64 n', xa5] 0) := by rw [hg5, get_set, if_pos rfl]
    have hw0 : (([.int .i64 0, .int .i64 0, .int .i64 0, .nilsl] : List AV)).length = 4 := rfl
    simp [go_sem, get_alloc, n_alloc, get_set, n_set, get_kill, n_kill, writeAt, a11, a21, a31, a41, a51, a61, a71, isNil, ge2, ge4, ge12, ge16, ge17, gx4, hx7, hx8, eA4, optEv, eD, evParts, hf4, gC4, hbC, AV.cells, hall, sp40]
    rw [← hg5]
    simp [go_sem, endP, endI, resultsA, resultA, freezeL, freezeV, AV.free.freeL, AV.free, packA, dropS, gC5, freezeV, freezeL, hfz]
    have kk4 : Kp own tA g g4 := (kp1.le fun k h => h.elim).trans ag1 ((kp2.le fun k h => h.elim).trans ag2 ((k3.le fun k h => by unfold tA; have h' : k = 1 ∨ k = 2 := h; omega).trans a3 k4))
    have kk : Kp own tA g g5 := ⟨by rw [hg5, n_set]; exact kk4.1, fun j hj hs => by rw [hg5, get_set_ne (by omega)]; exact kk4.2 j hj hs⟩
    have aa5 : Agr g.n own own4 := Agr.trans ag1 (Agr.trans ag2 (Agr.trans a3 a4 k3.1) (by omega)) (by omega)
    exact ⟨_, _, ⟨rfl, rfl⟩, hK _ _ ⟨xa5, own4, ids, rfl, hxa5, x4.mono k5 Agr.refl (by omega), m4.mono k5 Agr.refl (by omega), r4.mono k5 Agr.refl (by omega), kk, aa5⟩⟩)
  exact ⟨xa, _, own', ids, C, call_of tb_engine_Run hcall, q1, hCM, hCR, q2, q3, q4, q5, q6⟩
end
end Go.Ev
set_option linter.unusedSectionVars false
namespace Go.Ev
open Go
theorem Vw.first {k : Nat} {h : H} {a : AV} {n : Nat} {cs : List AV} (v : Vw k h a n cs) {m : Nat} (hm : m ≤ n) : ∃ a', sliceA k a none (some (.int .i64 (m : Nat))) none = some a' ∧ Vw k h a' m (cs.take (m * k)) ∧ (∀ j, a'.isAt j → a.isAt j) := by
  have e1 : ∀ x, optBound x (some (AV.int .i64 (m : Nat))) = some m := fun x => by simp [optBound, bound]
  have e2 : ∀ n, optBound n none = some n := fun _ => rfl
  have hmk : m * k ≤ n * k := Nat.mul_le_mul_right k hm
  obtain ⟨hl, hn, ⟨rfl, e⟩ | ⟨full, rfl⟩ | ⟨id, off, full, all, q, rfl, hid, hgi, hle, hc⟩⟩ := v
  · have hm0 : m = 0 := by omega
    subst hm0
    exact ⟨.nilsl, by simp [sliceA, optBound, bound], ⟨by simp, by omega, .inl ⟨rfl, rfl⟩⟩, fun j hj => hj⟩
  · refine ⟨.fz k (m - 0) ((cs.drop (0 * k)).take ((m - 0) * k)) (full && decide (m = n)), ?_, ?_, fun j hj => hj⟩
    · simp only [sliceA, e1, e2]
      rw [if_pos ⟨trivial, hl, by omega, hm⟩]
    · simp only [Nat.zero_mul, List.drop_zero, Nat.sub_zero]
      exact ⟨by rw [List.length_take, hl]; omega, by omega, .inr (.inl ⟨_, rfl⟩)⟩
  · refine ⟨.sl id (off + 0 * k) k (m - 0) (full && decide (m = n)), ?_, ?_, fun j hj => hj⟩
    · simp only [sliceA, e1, e2]
      rw [if_pos ⟨trivial, by omega, hm⟩]
    · simp only [Nat.zero_mul, Nat.add_zero, Nat.sub_zero]
      refine ⟨by rw [List.length_take, hl]; omega, by omega, .inr (.inr ⟨id, off, _, all, q, rfl, hid, hgi, by omega, ?_⟩)⟩
      rw [← hc, List.take_take, Nat.min_eq_left hmk]
end Go.Ev
set_option linter.unusedSectionVars false
namespace Go.Ev
open Go
structure TextOk (code : ByteArray) (c : Code') : Prop where
  tok : gTok code = (c.l, 0)
  nest : nestP c.l = some c.to
  args : c.args = 2
  right : rightN 1 8 [⟨102, 2, code⟩] = 0
  to : c.to.all (fun x => decide (x ≤ 2000)) = true
  sig : c.l.all (fun k => sigOk k.sign) = true
theorem TextOk.code {code : ByteArray} {c : Code'} (h : TextOk code c) : codeW ⟨102, 2, code⟩ = c := by
  unfold codeW
  simp only [h.tok, h.nest, Option.getD_some]
  rw [← h.args]
theorem fillU (p m : Int) {a : AV} (h : a.one = true) : fillA [.int .i64 0, .int .i64 0, .nilsl] [(0, 1, .int .i64 p), (1, 1, .int .i64 m), (2, 1, a)] = some [.int .i64 p, .int .i64 m, a] := by
  rw [fillA_one rfl (by simp), fillA_one rfl (by simp [splice]), fillA_one h (by simp [splice])]; rfl
section
variable {bar : Nat} {g : H}
open Classical in
end
end Go.Ev
set_option linter.unusedSectionVars false
namespace Go.Ev
open Go
open Classical in
noncomputable def ownF (fa : AV) (M R : Nat) (ba da la aa : AV) : Nat → Nat := fun j => if fa.isAt j then 0 else if j = M then 3 else if j = R then 6 else if ba.isAt j then 4 else if da.isAt j then 5 else if la.isAt j then 7 else if aa.isAt j then 8 else 9
section
variable {bar : Nat} {g : H}
structure UnitOk (p mo : Int) (fs : List Fn) (cs : List Code') : Prop where
  right : rightN p mo fs = 0
  to : ∀ f ∈ fs, toOk f
  sig : ∀ f ∈ fs, ∀ k ∈ (gTok f.code).1, sigOk k.sign = true
  arg : ∀ f ∈ fs, 0 ≤ f.args ∧ f.args ≤ 26
  len : fs.length ≤ 32
  codes : fs.map codeW = cs
theorem run_at {fa aa : AV} {fs : List Fn} {cs : List Code'} {p mo : Int} {M R : Nat} {m : Mem} {r : Row} {ba da la ra : AV} (hu : UnitOk p mo fs cs) (hv : FV g fa fs) (hM : MemV g bar M m ba da) (hR : RowV g bar R r la ra) (hbar : bar ≤ g.n)
    (dMR : M ≠ R) (dbR : ¬ ba.isAt R) (ddR : ¬ da.isAt R) (dl : ∀ j, la.isAt j → j ≠ M ∧ ¬ ba.isAt j ∧ ¬ da.isAt j) (dr : ∀ j, ra.isAt j → j ≠ M ∧ ¬ ba.isAt j ∧ ¬ da.isAt j) (df : ∀ j, fa.isAt j → j ≠ M ∧ j ≠ R ∧ ¬ ba.isAt j ∧ ¬ da.isAt j ∧ ¬ la.isAt j ∧ ¬ ra.isAt j)
    {nm fuel : Int} (hf0 : 0 ≤ fuel) (hf1 : fuel ≤ 1048576) {k : Nat} (hk : findN nm fs 0 = k) {f : Fn} (hf : fs[k]? = some f) {args : List Int} (haa : Vw 1 g aa args.length (args.map (AV.int .i64))) (hargs : f.args = args.length) (hra : r.asks.length ≤ 900000)
    {s' : Mc} {v : Int} {n' : Nat} (hrun : runM fs cs fuel.toNat ⟨[newF (codeW f) args], m, r, 0⟩ = some (s', v, n')) :
    ∃ xa g' own' ids C, call tb prim n_engine_Run [.agg [.int .i64 p, .int .i64 mo, fa], .ptr M 0, .ptr R 0, .int .i32 nm, .int .i64 fuel, aa] bar g = some (runRes v s'.trap n' xa, g') ∧ FzV 2 xa (s'.r.asks.length - r.asks.length) ((s'.r.asks.drop r.asks.length).flatMap asC) ∧ C.M = M ∧ C.R = R ∧ XO g' bar own' C s'.trap v ids ∧ MemO g' bar own' M s'.m ∧ RowO g' bar own' R s'.r ∧ Kp (ownF fa M R ba da la ra) tA g g' ∧ Agr g.n (ownF fa M R ba da la ra) own' := by
  have hfM : ¬ fa.isAt M := fun q => (df M q).1 rfl
  have hfR : ¬ fa.isAt R := fun q => (df R q).2.1 rfl
  have hMO : MemO g bar (ownF fa M R ba da la ra) M m := by
    refine ⟨⟨ba, da, hM, fun j hj => ?_, fun j hj => ?_⟩, by simp [ownF, hfM]⟩
    · have h1 : j ≠ M := fun q => hM.nb (q ▸ hj)
      have h2 : j ≠ R := fun q => dbR (q ▸ hj)
      have h3 : ¬ fa.isAt j := fun q => (df j q).2.2.1 hj
      simp [ownF, h1, h2, h3, hj]
    · have h1 : j ≠ M := fun q => hM.nd (q ▸ hj)
      have h2 : j ≠ R := fun q => ddR (q ▸ hj)
      have h3 : ¬ fa.isAt j := fun q => (df j q).2.2.2.1 hj
      have h4 : ¬ ba.isAt j := fun q => hM.ap j q hj
      simp [ownF, h1, h2, h3, h4, hj]
  have hRO : RowO g bar (ownF fa M R ba da la ra) R r := by
    refine ⟨⟨la, ra, hR, fun j hj => ?_, fun j hj => ?_⟩, ?_⟩
    · obtain ⟨h1, h4, h5⟩ := dl j hj
      have h2 : j ≠ R := fun q => hR.nl (q ▸ hj)
      have h3 : ¬ fa.isAt j := fun q => (df j q).2.2.2.2.1 hj
      simp [ownF, h1, h2, h3, h4, h5, hj]
    · obtain ⟨h1, h4, h5⟩ := dr j hj
      have h2 : j ≠ R := fun q => hR.na (q ▸ hj)
      have h3 : ¬ fa.isAt j := fun q => (df j q).2.2.2.2.2 hj
      have h6 : ¬ la.isAt j := fun q => hR.ap j q hj
      simp [ownF, h1, h2, h3, h4, h5, h6, hj]
    · have h1 : R ≠ M := fun q => dMR q.symm
      simp [ownF, hfR, h1]
  exact Run_ok hv (fun j hj => by simp [ownF, hj]) hMO hRO hbar hu.right hu.to hu.sig hu.arg hu.len hf0 hf1 hk hf haa hargs hra (by rw [hu.codes]; exact hrun)
theorem run_new {fa : AV} {fs : List Fn} {cs : List Code'} {p mo : Int} (hu : UnitOk p mo fs cs) (hv : FV g fa fs) (hbar : bar ≤ g.n) {pages : Nat} {most : Int} (hp : (pages : Int) ≤ most) (hmo : most ≤ 64)
    {nm fuel : Int} (hf0 : 0 ≤ fuel) (hf1 : fuel ≤ 1048576) {k : Nat} (hk : findN nm fs 0 = k) {f : Fn} (hf : fs[k]? = some f) {args : List Int} (hargs : f.args = args.length) (hla : args.length ≤ 26)
    {s' : Mc} {v : Int} {n' : Nat} (hrun : runM fs cs fuel.toNat ⟨[newF (codeW f) args], zeroM pages most, ⟨[], []⟩, 0⟩ = some (s', v, n')) :
    ∃ g2 M g3 g5 xa, call tb prim n_cells_New [.int .i64 pages, .int .i64 most] bar g = some (.ptr M 0, g2) ∧ call tb prim n_reply_New [.nilsl] bar g2 = some (.ptr g2.n 0, g3) ∧ g3.n = g2.n + 1 ∧ g.n ≤ g2.n ∧ (∀ j, j < g.n → g2.get j = g.get j) ∧ (∀ j, j < g2.n → g3.get j = g2.get j) ∧
      call tb prim n_engine_Run [.agg [.int .i64 p, .int .i64 mo, fa], .ptr M 0, .ptr g2.n 0, .int .i32 nm, .int .i64 fuel, .sl g3.n 0 1 args.length true] bar (g3.alloc (.cells (args.map (AV.int .i64)) 0)) = some (runRes v s'.trap n' xa, g5) ∧ FzV 2 xa s'.r.asks.length (s'.r.asks.flatMap asC) ∧ g.n ≤ g5.n ∧ (∀ j, j < g.n → (fa.isAt j ∨ True) → g5.get j = g.get j) := by
  obtain ⟨g2, M, ba, da, e2, hM, n2, k2⟩ := new_ok (bar := bar) (g := g) pages most hp hmo hbar
  obtain ⟨g3, e3, hR, n3, k3⟩ := row_new_nil (bar := bar) (g := g2) (by omega)
  obtain ⟨g4, hg4⟩ : ∃ g4, g4 = g3.alloc (.cells (args.map (AV.int .i64)) 0) := ⟨_, rfl⟩
  have n4 : g4.n = g3.n + 1 := by rw [hg4, n_alloc]
  have k4 : ∀ j, j < g3.n → g4.get j = g3.get j := fun j hj => by rw [hg4, get_alloc, if_neg (by omega)]
  have hMl := hM.lt
  have hMb := hM.bM
  have hM4 : MemV g4 bar M (zeroM pages most) ba da := by
    have h1 : MemV g4 g.n M (zeroM pages most) ba da := hM.mono (by omega) (by rw [k4 _ (by omega), k3 _ hMl]) (fun j hj => by have := (hM.ob.at_lt hj).2; rw [k4 _ (by omega), k3 _ this]) (fun j hj => by have := (hM.od.at_lt hj).2; rw [k4 _ (by omega), k3 _ this])
    exact ⟨h1.get, by omega, h1.lt, h1.ob.bar_le hbar, h1.od.bar_le hbar, h1.nb, h1.nd, h1.ap, h1.sz, h1.m0, h1.m1, h1.rng⟩
  have hR4 : RowV g4 bar g2.n ⟨[], []⟩ .nilsl .nilsl := ⟨by rw [k4 _ (by omega)]; exact hR.get, by omega, by omega, ⟨rfl, by simp, .inl ⟨rfl, rfl⟩⟩, OW.nil, fun q => q, fun q => q, fun j q => q.elim, by simp⟩
  have hva : Vw 1 g4 (.sl g3.n 0 1 args.length true) args.length (args.map (AV.int .i64)) := ⟨by simp, by omega, .inr (.inr ⟨g3.n, 0, true, args.map (AV.int .i64), 0, rfl, by omega, by rw [hg4, get_alloc, if_pos rfl], by simp, by rw [List.drop_zero, List.take_of_length_le (by simp)]⟩)⟩
  have hv4 : FV g4 fa fs := hv.keep (by omega) (fun j hj => by have := hv.at_lt' hj; rw [k4 _ (by omega), k3 _ (by omega), k2 _ this])
  obtain ⟨xa, g5, own', ids, C, e5, hxa, _, _, _, _, _, k5, _⟩ := run_at (bar := bar) hu hv4 hM4 hR4 (by omega) (by omega) (fun q => by have := (hM.ob.at_lt q).2; omega) (fun q => by have := (hM.od.at_lt q).2; omega) (fun j hj => hj.elim) (fun j hj => hj.elim)
    (fun j hj => by have := hv.at_lt' hj; exact ⟨by omega, by omega, fun q => by have := (hM.ob.at_lt q).1; omega, fun q => by have := (hM.od.at_lt q).1; omega, fun q => q, fun q => q⟩) hf0 hf1 hk hf hva hargs (by simp) hrun
  refine ⟨g2, M, g3, g5, xa, e2, e3, n3, n2, k2, k3, by rw [← hg4]; exact e5, by simpa using hxa, by have := k5.1; omega, fun j hj _ => ?_⟩
  rw [k5.2 j (by omega) ?_, k4 _ (by omega), k3 _ (by omega), k2 _ hj]
  have h1 : j ≠ M := by omega
  have h2 : j ≠ g2.n := by omega
  have h3 : ¬ ba.isAt j := fun q => by have := (hM.ob.at_lt q).1; omega
  have h4 : ¬ da.isAt j := fun q => by have := (hM.od.at_lt q).1; omega
  have h5 : ¬ (AV.nilsl).isAt j := fun q => q
  simp only [ownF, h1, h2, h3, h4, h5, if_false]
  unfold tA
  split <;> omega
end
end Go.Ev
set_option linter.unusedSectionVars false
namespace Go.Ev
open Go
end Go.Ev
set_option linter.unusedSectionVars false
namespace Go.Ev
open Go
theorem setAll_le {v N : Int} (hv : v ≤ N) : ∀ (l : List Nat) (to : List Int), (∀ x ∈ to, x ≤ N) → ∀ x ∈ setAll v l to, x ≤ N
  | [], to, h, x, hx => h x hx
  | k :: r, to, h, x, hx => setAll_le hv r _ (fun y hy => by
    rcases List.mem_or_eq_of_mem_set hy with q | rfl
    · exact h y q
    · exact hv) x hx
theorem pstep_le {sg : Int} {i : Nat} {s s' : Mt} {N : Int} (h : pstep sg i s = some s') (hi : (i : Int) + 1 ≤ N) (hf : ∀ p ∈ s.op, p.fr < i) (hl : ∀ x ∈ s.to, x ≤ N) : ∀ x ∈ s'.to, x ≤ N := by
  have hset : ∀ (j : Nat) (v : Int), v ≤ N → ∀ x ∈ s.to.set j v, x ≤ N := fun j v hv x hx => by
    rcases List.mem_or_eq_of_mem_set hx with q | rfl
    · exact hl x q
    · exact hv
  unfold pstep at h
  split at h
  · split at h
    · cases h; exact hl
    · cases h
  split at h
  · split at h
    · cases h; exact hl
    · cases h
  split at h
  · split at h
    · cases h
    · split at h
      · cases h
      · cases h; exact hset _ _ (by omega)
  split at h
  · split at h
    · cases h
    · split at h
      · cases h
      · cases h; exact hset _ _ (by omega)
  split at h
  · split at h
    · cases h
    · rename_i p hp
      split at h
      · cases h
        have := hf p (List.mem_of_getLast? hp)
        exact setAll_le (by omega) _ _ (hset _ _ (by omega))
      · cases h
  split at h
  · split at h
    · cases h
    · split at h
      · cases h; exact hl
      · cases h
  · cases h; exact hl
theorem Seqs.to_le {fs : List Fn} {l : List Tok} {P : Nat → Mt} {J : Nat → Js} (S : Seqs fs l P J) : ∀ i, i ≤ l.length → ∀ x ∈ (P i).to, x ≤ l.length
  | 0, _, x, hx => by
    rw [S.p0] at hx
    simp only [List.mem_replicate] at hx
    omega
  | i + 1, h, x, hx => pstep_le (S.ps i (by omega)) (by omega) (S.rel i (by omega)).fr (S.to_le i (by omega)) x hx
theorem takes_sig {fs : List Fn} {s nm : Int} (h : (takesN fs s nm).2.2 = true) : sigOk s = true := by
  by_cases c1 : s = 48 ∨ 97 ≤ s ∧ s ≤ 122 ∨ s = 35
  · simp [sigOk, sgG]; omega
  by_cases c2 : 65 ≤ s ∧ s ≤ 90 ∨ s = 44
  · simp [sigOk, sgG]; omega
  by_cases c3 : s = 46
  · simp [sigOk, sgG]; omega
  by_cases c4 : isBin s = true
  · simp [isBin] at c4; simp [sigOk, sgG]; omega
  by_cases c5 : isUn s = true
  · simp [isUn] at c5; simp [sigOk, sgG]; omega
  by_cases c6 : s = 36 ∨ s = 174
  · simp [sigOk, sgG]; omega
  by_cases c7 : s = 63
  · simp [sigOk, sgG]; omega
  by_cases c8 : isCtl s = true
  · simp [isCtl] at c8; simp [sigOk, sgG]; omega
  by_cases c9 : s = 955
  · simp [sigOk, sgG]; omega
  · rw [T0 c1 c2 c3 (by simpa using c4) (by simpa using c5) c6 c7 (by simpa using c8) c9] at h
    cases h
theorem UnitOk.of_right {p mo : Int} {fs : List Fn} (h : rightN p mo fs = 0) : UnitOk p mo fs (fs.map codeW) := by
  obtain ⟨hP, _, _, _⟩ := right_of h
  refine ⟨h, fun f hf => ?_, fun f hf k hk => ?_, fun f hf => ?_, hP.len, rfl⟩
  · obtain ⟨J, ⟨P, hS, hto⟩, _, _⟩ := hP.code f hf
    have hn : ∃ to, nestP (gTok f.code).1 = some to := by
      obtain ⟨i, hi⟩ := List.mem_iff_getElem?.mp hf
      cases hc : nestP (gTok f.code).1 with
      | some to => exact ⟨to, rfl⟩
      | none =>
        exfalso
        have : ploop (gTok f.code).1 (gTok f.code).1.length 0 ⟨List.replicate (gTok f.code).1.length (-1), [], 0⟩ = some (P (gTok f.code).1.length) := by
          have hall : ∀ i, i ≤ (gTok f.code).1.length → ploop (gTok f.code).1 i 0 ⟨List.replicate (gTok f.code).1.length (-1), [], 0⟩ = some (P i) := by
            intro i
            induction i with
            | zero => intro _; rw [show P 0 = _ from hS.p0]; rfl
            | succ i ih =>
              intro hi
              rw [ploop_add, ih (by omega)]
              simp only [Option.bind_some, Nat.zero_add, ploop]
              rw [show pstep (sgn (gTok f.code).1 i) i (P i) = some (P (i + 1)) from hS.ps i (by show i < (gTok f.code).1.length; omega)]
              rfl
          exact hall _ (Nat.le_refl _)
        unfold nestP at hc
        rw [this] at hc
        simp only at hc
        rw [if_pos (show (P (gTok f.code).1.length).op = [] from hS.pe)] at hc
        cases hc
    obtain ⟨to, hto2⟩ := hn
    refine ⟨to, hto2, fun x hx => ?_⟩
    have e : (P (codeW f).l.length).to = to := by rw [hto]; show (nestP (gTok f.code).1).getD [] = to; rw [hto2]; rfl
    rw [← e] at hx
    have h1 := hS.to_le _ (Nat.le_refl _) x hx
    have h2 : (gTok f.code).1.length ≤ 1300 := by
      obtain ⟨_, _, _, q⟩ := glyph_Tokens_ok (bar := 0) (h := ⟨0, fun _ => none⟩) f.code
      exact q
    have h3 : ((codeW f).l.length : Int) = ((gTok f.code).1.length : Nat) := rfl
    omega
  · obtain ⟨J, ⟨P, hS, hto⟩, _, _⟩ := hP.code f hf
    obtain ⟨i, hi⟩ := List.mem_iff_getElem?.mp hk
    obtain ⟨hil, _⟩ := List.getElem?_eq_some_iff.mp hi
    obtain ⟨t, _, ht, _, hok, _⟩ := hS.eff (i := i) hil
    have ht' : (gTok f.code).1[i]? = some t := ht
    rw [hi] at ht'
    injection ht' with ht'
    subst ht'
    exact takes_sig hok
  · obtain ⟨_, _, a0, a4⟩ := hP.code f hf
    have a0' : 0 ≤ f.args := a0
    have a4' : f.args ≤ 4 := a4
    exact ⟨a0', by omega⟩
def refR (why : Int) : AV := .tup [.agg [.int .i64 0, .int .i64 0, .int .i64 0, .nilsl], .int .i64 why]
section
variable {bar : Nat} {g : H} {fa aa : AV} {fs : List Fn} {p mo : Int}
theorem run_refA {Mv Rv : AV} {nm fuel : Int} (hone : fa.one = true) (hbar : bar ≤ g.n) (h : Mv = .nilptr ∨ (∃ M R, Mv = .ptr M 0 ∧ Rv = .ptr R 0 ∧ (fuel < 0 ∨ 1048576 < fuel))) :
    ∃ g', call tb prim n_engine_Run [.agg [.int .i64 p, .int .i64 mo, fa], Mv, Rv, .int .i32 nm, .int .i64 fuel, aa] bar g = some (refR 1, g') ∧ g.n ≤ g'.n ∧ ∀ j, j < g.n → g'.get j = g.get j := by
  obtain ⟨g1, hg1⟩ : ∃ g1, g1 = ((g.alloc (.cells [.int .i64 p, .int .i64 mo, fa] 0)).alloc (.cells [.int .i64 0, .int .i64 0, .int .i64 0, .nilsl] 0)).set (g.n + 1) (.cells [.int .i64 0, .int .i64 0, .int .i64 0, .nilsl] 0) := ⟨_, rfl⟩
  have n1 : g1.n = g.n + 2 := by rw [hg1, n_set]; simp [n_alloc]
  have k1 : ∀ j, j < g.n → g1.get j = g.get j := fun j hj => by rw [hg1, get_set_ne (by omega), get_alloc, if_neg (by simp [n_alloc]; omega), get_alloc, if_neg (by omega)]
  have gC : g1.get (g.n + 1) = some (.cells [.int .i64 0, .int .i64 0, .int .i64 0, .nilsl] 0) := by rw [hg1, get_set, if_pos rfl]
  obtain ⟨y, g9, hcall, rfl, h9⟩ := callF_K (o := call tb prim) (F := f_engine_Run) (bar := bar) (h := g) (args := [.agg [.int .i64 p, .int .i64 mo, fa], Mv, Rv, .int .i32 nm, .int .i64 fuel, aa])
    (P := fun y g' => y = refR 1 ∧ g' = g1) rfl rfl (fun K hK => by
    have hb1 : bar ≤ g.n + 1 := by omega
    rcases h with rfl | ⟨M, R, rfl, rfl, h⟩
    · simp [f_engine_Run, env0, go_sem, get_alloc, n_alloc, get_set, n_set, get_kill, n_kill, writeAt, a11, a21, a31, a41, a51, a61, a71, isNil, isNilK, hone, evParts, fillA, AV.cells, sp40, hb1]
      rw [← hg1]
      simp [go_sem, endP, endI, resultsA, resultA, freezeL, freezeV, AV.free.freeL, AV.free, packA, dropS, gC]
      exact ⟨_, _, ⟨rfl, rfl⟩, hK _ _ ⟨rfl, rfl⟩⟩
    · by_cases c : fuel < 0
      · simp [f_engine_Run, env0, go_sem, get_alloc, n_alloc, get_set, n_set, get_kill, n_kill, writeAt, a11, a21, a31, a41, a51, a61, a71, isNil, isNilK, hone, evParts, fillA, AV.cells, sp40, hb1, c]
        rw [← hg1]
        simp [go_sem, endP, endI, resultsA, resultA, freezeL, freezeV, AV.free.freeL, AV.free, packA, dropS, gC]
        exact ⟨_, _, ⟨rfl, rfl⟩, hK _ _ ⟨rfl, rfl⟩⟩
      · have c2 : 1048576 < fuel := by omega
        simp [f_engine_Run, env0, go_sem, get_alloc, n_alloc, get_set, n_set, get_kill, n_kill, writeAt, a11, a21, a31, a41, a51, a61, a71, isNil, isNilK, hone, evParts, fillA, AV.cells, sp40, hb1, c, c2]
        rw [← hg1]
        simp [go_sem, endP, endI, resultsA, resultA, freezeL, freezeV, AV.free.freeL, AV.free, packA, dropS, gC]
        exact ⟨_, _, ⟨rfl, rfl⟩, hK _ _ ⟨rfl, rfl⟩⟩)
  exact ⟨g9, call_of tb_engine_Run hcall, by rw [h9]; omega, fun j hj => by rw [h9]; exact k1 j hj⟩
end
end Go.Ev
namespace Go.Ev
open Go
end Go.Ev
namespace Go.Ev
open Go
end Go.Ev
namespace Go.Ev
open Go
end Go.Ev
namespace Go.Ev
open Go
end Go.Ev
namespace Go.Ev
open Go
end Go.Ev
namespace Go.Ev
open Go
end Go.Ev
namespace Go.Ev
open Go
section
variable {fs : List Fn} {cs : List Code'} {m : Mem} {r : Row}
def asksC : Code' := ⟨[tk 97, ⟨960, 0, 113⟩, tk 44, tk 97, nu 1, tk 43, ⟨960, 0, 114⟩], [-1, -1, -1, -1, -1, -1, -1], 1⟩
theorem asks_ends (a : Int) (l : List (Int × Int)) : runM fs cs 20 (M1 asksC m ⟨[], l⟩ 0 (lc a 0 0 0 0 0 0 0) []) = some (⟨[], m, ⟨[], l ++ [(113, a)] ++ [(114, wI (a + 1))]⟩, 0⟩, 0, 13) := by kernel_rfl
end
end Go.Ev
namespace Go.Ev
open Go
end Go.Ev
namespace Go.Ev
open Go
theorem rows_list {A : Type} {c : A → List AV} {k : Nat} (hk : ∀ x, (c x).length = k) : ∀ (len : Nat) (cs : List AV), cs.length = len * k → (∀ i, i < len → ∃ x, (cs.drop (i * k)).take k = c x) → ∃ l : List A, l.length = len ∧ cs = l.flatMap c
  | 0, cs, h, _ => ⟨[], rfl, List.length_eq_zero_iff.mp (by simpa using h)⟩
  | len + 1, cs, h, hx => by
    obtain ⟨x, h0⟩ := hx 0 (by omega)
    obtain ⟨l, hl, hc⟩ := rows_list hk len (cs.drop k) (by rw [List.length_drop, h, Nat.succ_mul]; omega) (fun i hi => by
      obtain ⟨y, hy⟩ := hx (i + 1) (by omega)
      exact ⟨y, by rw [List.drop_drop, ← hy, Nat.succ_mul, Nat.add_comm]⟩)
    refine ⟨x :: l, by simp [hl], ?_⟩
    rw [List.flatMap_cons, ← hc, ← h0]
    simp
theorem arg_list {A : Type} {c : A → List AV} {P : Program} {n : Nat} {t e : TypeId} {k : Nat} {a : AV} (hk : ∀ x, (c x).length = k) (hu : P.underlying t = some (.slice e)) (hce : P.cellsOf e = k) (hx : ∀ xs, Fits P n e xs → ∃ x, xs = c x) (h : argOk P (n + 1) t a) : ∃ l : List A, FzV k a l.length (l.flatMap c) := by
  unfold argOk at h
  rw [hu] at h
  simp only at h
  unfold Fits at h
  rw [hu] at h
  rcases h with h | ⟨len, cs, h, hm, hl, hr⟩
  · cases h; exact ⟨[], by simp, by simp, .inl ⟨rfl, rfl⟩⟩
  · rw [hce] at h hl hr
    cases h
    obtain ⟨l, hl2, rfl⟩ := rows_list hk len cs hl (fun i hi => hx _ (hr i hi))
    have hm2 : maxLen ≤ 9223372036854775807 := by decide
    exact ⟨l, by rw [hl, hl2], by omega, .inr ⟨false, by rw [hl2]⟩⟩
theorem fits_int {P : Program} {n : Nat} {t : TypeId} {k : IntKind} {xs : List AV} (hu : P.underlying t = some (.int k)) (h : Fits P (n + 1) t xs) : ∃ x, xs = [.int k x] := by
  unfold Fits at h; rw [hu] at h; obtain ⟨z, hz, _⟩ := h; exact ⟨z, hz⟩
end Go.Ev
set_option linter.unusedSectionVars false
namespace Go.Ev
open Go
theorem fillF1 (nm a : Int) (s : ByteArray) : fillA [.int .i32 0, .int .i64 0, .str ⟨#[]⟩] [(0, 1, .int .i32 nm), (1, 1, .int .i64 a), (2, 1, .str s)] = some [.int .i32 nm, .int .i64 a, .str s] := by
  rw [fillA_one rfl (by simp), fillA_one rfl (by simp [splice]), fillA_one rfl (by simp [splice])]; rfl
theorem fillF3 (nm a : Int) (s : ByteArray) : fillA [.int .i32 0, .int .i64 0, .str ⟨#[]⟩] [(0, 3, .agg [.int .i32 nm, .int .i64 a, .str s])] = some [.int .i32 nm, .int .i64 a, .str s] := by
  rw [fillA_cons (n := 3) (v := .agg [.int .i32 nm, .int .i64 a, .str s]) rfl (by simp) rfl]; rfl
theorem fillI1 (a : Int) : fillA [.int .i64 0] [(0, 1, .int .i64 a)] = some [.int .i64 a] := by
  rw [fillA_one rfl (by simp)]; rfl
theorem fillU0 {a : AV} (h : a.one = true) : fillA [.int .i64 0, .int .i64 0, .nilsl] [(2, 1, a)] = some [.int .i64 0, .int .i64 0, a] := by
  rw [fillA_one h (by simp)]; rfl
section
variable {bar : Nat} {g : H}
theorem law14_one_ok (s : ByteArray) : ∃ fa, call tb prim n_engramlaw14_one [.str s] bar g = some (.agg [.int .i64 1, .int .i64 2, fa], g) ∧ FzV 3 fa 1 [.int .i32 102, .int .i64 1, .str s] := by
  suffices hw : ∃ r, callF (call tb prim) f_engramlaw14_one [.str s] bar g = some (r, g) ∧ ∃ fa, r = .agg [.int .i64 1, .int .i64 2, fa] ∧ FzV 3 fa 1 [.int .i32 102, .int .i64 1, .str s] by
    obtain ⟨r, h1, fa, rfl, h2⟩ := hw; exact ⟨fa, call_of tb_engramlaw14_one h1, h2⟩
  refine callF_pureK rfl rfl fun K hK => ?_
  have hU := fun a (h : AV.one a = true) => fillU 1 2 h
  simp [f_engramlaw14_one, env0, go_sem, get_alloc, n_alloc, get_set, n_set, get_kill, n_kill, writeAt, a11, a21, a31, a41, a51, a61, a71, isNil, evParts, fillF1, fillF3, AV.cells, hU, spT3]
  simp [go_sem, get_alloc, n_alloc, get_set, n_set, get_kill, n_kill, writeAt, a11, a21, a31, a41, a51, a61, a71, endX, resultsA, resultA, freezeL, AV.free.freeL, packA, freezeV, freezeL, AV.free, AV.free.freeL]
  exact hK _ ⟨.fz 3 1 [.int .i32 102, .int .i64 1, .str s] true, rfl, ⟨rfl, by omega, .inr ⟨true, rfl⟩⟩⟩
theorem law14_run_ok {code : ByteArray} {c : Code'} (hu : UnitOk 1 2 [⟨102, 1, code⟩] [c]) {fuel : Int} (h0 : 0 ≤ fuel) (h1 : fuel ≤ 1048576) {s' : Mc} {v : Int} {n' : Nat} (hr : runM [⟨102, 1, code⟩] [c] fuel.toNat ⟨[newF c [5]], zeroM 1 2, ⟨[], []⟩, 0⟩ = some (s', v, n')) :
    ∃ xa, call tb prim n_engramlaw14_run [.str code, .int .i64 fuel] bar g = some (.tup [.agg [.int .i64 v, .int .i64 s'.trap, .int .i64 n', xa], .int .i64 0], g) ∧ xa.one = true := by
  suffices hw : ∃ r, callF (call tb prim) f_engramlaw14_run [.str code, .int .i64 fuel] bar g = some (r, g) ∧ ∃ xa, r = .tup [.agg [.int .i64 v, .int .i64 s'.trap, .int .i64 n', xa], .int .i64 0] ∧ xa.one = true by
    obtain ⟨r, h1, xa, rfl, h2⟩ := hw; exact ⟨xa, call_of tb_engramlaw14_run h1, h2⟩
  refine callF_pureK rfl rfl fun K hK => ?_
  obtain ⟨g1, hg1⟩ : ∃ g1, g1 = g.alloc (.cells [.int .i64 0, .int .i64 0, .int .i64 0, .nilsl] 0) := ⟨_, rfl⟩
  have n1 : g1.n = g.n + 1 := by rw [hg1, n_alloc]
  have gC : g1.get g.n = some (.cells [.int .i64 0, .int .i64 0, .int .i64 0, .nilsl] 0) := by rw [hg1, get_alloc, if_pos rfl]
  obtain ⟨fa, e1, hfa⟩ := law14_one_ok (bar := g.n) (g := g1) code
  have hFV : FV g1 fa [⟨102, 1, code⟩] := hfa.vw g1
  have hcode : codeW ⟨102, 1, code⟩ = c := by have := hu.codes; simpa using this
  obtain ⟨g2, M, g3, g5, xa, e2, e3, n3, n2, k2, k3, e5, hxa, n5, k5⟩ := run_new (bar := g.n) (g := g1) hu hFV (by omega) (pages := 1) (most := 2) (by omega) (by omega) (nm := 102) (fuel := fuel) h0 h1 (k := 0) rfl (f := ⟨102, 1, code⟩) rfl (args := [5]) rfl (by simp) (by rw [hcode]; exact hr)
  unfold runRes at e5
  rw [show ((1 : Nat) : Int) = 1 from rfl] at e2
  rw [show (List.map (AV.int .i64) [(5 : Int)]) = [.int .i64 5] from rfl, show [(5 : Int)].length = 1 from rfl] at e5
  have hall : ([.int .i64 v, .int .i64 s'.trap, .int .i64 n', xa] : List AV).all AV.one = true := by
    show (true && (true && (true && (xa.one && true)))) = true
    rw [hxa.one]; rfl
  have gC5 : g5.get g.n = some (.cells [.int .i64 0, .int .i64 0, .int .i64 0, .nilsl] 0) := by rw [k5 _ (by omega) (.inr trivial)]; exact gC
  obtain ⟨g6, hg6⟩ : ∃ g6, g6 = g5.set g.n (.cells [.int .i64 v, .int .i64 s'.trap, .int .i64 n', xa] 0) := ⟨_, rfl⟩
  have gC6 : g6.get g.n = some (.cells [.int .i64 v, .int .i64 s'.trap, .int .i64 n', xa] 0) := by rw [hg6, get_set, if_pos rfl]
  simp [f_engramlaw14_run, env0, go_sem, get_alloc, n_alloc, get_set, n_set, get_kill, n_kill, writeAt, a11, a21, a31, a41, a51, a61, a71, isNil]
  rw [← hg1]
  simp [go_sem, get_alloc, n_alloc, get_set, n_set, get_kill, n_kill, writeAt, a11, a21, a31, a41, a51, a61, a71, isNil, e1, e2, e3, evParts, fillI1, e5, AV.cells, hall, sp40, gC5]
  rw [← hg6]
  have hx1 := hxa.one
  obtain ⟨_, _, ⟨hx, _⟩ | ⟨full, hx⟩⟩ := hxa
  · subst hx
    simp [go_sem, get_alloc, n_alloc, get_set, n_set, get_kill, n_kill, writeAt, a11, a21, a31, a41, a51, a61, a71, endX, resultsA, resultA, freezeL, AV.free.freeL, packA, gC6, freezeV, freezeL, AV.free, AV.free.freeL]
    exact hK _ ⟨_, rfl, rfl⟩
  · subst hx
    simp [go_sem, get_alloc, n_alloc, get_set, n_set, get_kill, n_kill, writeAt, a11, a21, a31, a41, a51, a61, a71, endX, resultsA, resultA, freezeL, AV.free.freeL, packA, gC6, freezeV, freezeL, AV.free, AV.free.freeL]
    exact hK _ ⟨_, rfl, rfl⟩
theorem unit1 (p mo : Int) (nm : Int) (code : ByteArray) (c : Code') (a : Int) (h1 : rightN p mo [⟨nm, a, code⟩] = 0) (h2 : codeW ⟨nm, a, code⟩ = c) : UnitOk p mo [⟨nm, a, code⟩] [c] := by
  have := UnitOk.of_right h1
  simpa [h2] using this
def k1C : Code' := ⟨[nu 1, nu 2, tk 43], [-1, -1, -1], 1⟩
def k2C : Code' := ⟨[nu 1], [-1], 1⟩
def k3C : Code' := ⟨[tk 97, ⟨955, 0, 102⟩], [-1, -1], 1⟩
theorem k1_run : (runM [⟨102, 1, ⟨#[49, 32, 50, 43]⟩⟩] [k1C] 9 ⟨[newF k1C [5]], zeroM 1 2, ⟨[], []⟩, 0⟩).map (fun x => (x.1.trap, x.2.1, x.2.2)) = some (0, 3, 6) := by kernel_rfl
theorem k2_run : (runM [⟨102, 1, ⟨#[49]⟩⟩] [k2C] 0 ⟨[newF k2C [5]], zeroM 1 2, ⟨[], []⟩, 0⟩).map (fun x => (x.1.trap, x.2.1, x.2.2)) = some (1, 0, 0) := by kernel_rfl
theorem k3_run : (runM [⟨102, 1, ⟨#[97, 206, 187, 102]⟩⟩] [k3C] 999 ⟨[newF k3C [5]], zeroM 1 2, ⟨[], []⟩, 0⟩).map (fun x => (x.1.trap, x.2.1)) = some (6, 0) := by kernel_rfl
theorem map_some' {A B : Type} {f : A → B} {o : Option A} {y : B} (h : o.map f = some y) : ∃ x, o = some x ∧ f x = y := by
  cases o with
  | none => cases h
  | some x => exact ⟨x, rfl, by simpa using h⟩
theorem law14_known_ok : call tb prim n_engramlaw14_known [] bar g = some (.bool true, g) := by
  refine call_of tb_engramlaw14_known (callF_pureW rfl rfl (M_in ?_))
  obtain ⟨⟨s1, v1, f1⟩, r1, q1⟩ := map_some' k1_run
  obtain ⟨⟨s2, v2, f2⟩, r2, q2⟩ := map_some' k2_run
  obtain ⟨⟨s3, v3, f3⟩, r3, q3⟩ := map_some' k3_run
  simp only [Prod.mk.injEq] at q1 q2 q3
  obtain ⟨t1, rfl, rfl⟩ := q1
  obtain ⟨t2, rfl, rfl⟩ := q2
  obtain ⟨t3, rfl⟩ := q3
  obtain ⟨g1, hg1⟩ : ∃ g1, g1 = g := ⟨_, rfl⟩
  obtain ⟨x1, e1, y1⟩ := law14_run_ok (bar := g.n) (g := g) (unit1 1 2 102 _ k1C 1 (by kernel_rfl) (by kernel_rfl)) (by omega) (by omega) (fuel := 9) r1
  rw [t1] at e1
  have a1 : ([.int .i64 3, .int .i64 0, .int .i64 (6 : Nat), x1] : List AV).all AV.one = true := by
    show (true && (true && (true && (x1.one && true)))) = true
    rw [y1]; rfl
  obtain ⟨ga, hga⟩ : ∃ ga, ga = (g.alloc (.cells [.int .i64 0, .int .i64 0, .int .i64 0, .nilsl] 0)).set g.n (.cells [.int .i64 3, .int .i64 0, .int .i64 6, x1] 0) := ⟨_, rfl⟩
  obtain ⟨x2, e2, y2⟩ := law14_run_ok (bar := g.n) (g := ga) (unit1 1 2 102 _ k2C 1 (by kernel_rfl) (by kernel_rfl)) (by omega) (by omega) (fuel := 0) r2
  rw [t2] at e2
  have a2 : ([.int .i64 0, .int .i64 1, .int .i64 (0 : Nat), x2] : List AV).all AV.one = true := by
    show (true && (true && (true && (x2.one && true)))) = true
    rw [y2]; rfl
  obtain ⟨gb, hgb⟩ : ∃ gb, gb = (ga.alloc (.cells [.int .i64 0, .int .i64 0, .int .i64 0, .nilsl] 0)).set ga.n (.cells [.int .i64 0, .int .i64 1, .int .i64 0, x2] 0) := ⟨_, rfl⟩
  obtain ⟨x3, e3, y3⟩ := law14_run_ok (bar := g.n) (g := gb) (unit1 1 2 102 _ k3C 1 (by kernel_rfl) (by kernel_rfl)) (by omega) (by omega) (fuel := 999) r3
  rw [t3] at e3
  have a3 : ([.int .i64 0, .int .i64 6, .int .i64 f3, x3] : List AV).all AV.one = true := by
    show (true && (true && (true && (x3.one && true)))) = true
    rw [y3]; rfl
  obtain ⟨gc, hgc⟩ : ∃ gc, gc = (gb.alloc (.cells [.int .i64 0, .int .i64 0, .int .i64 0, .nilsl] 0)).set gb.n (.cells [.int .i64 0, .int .i64 6, .int .i64 f3, x3] 0) := ⟨_, rfl⟩
  have na : ga.n = g.n + 1 := by rw [hga, n_set, n_alloc]
  have nb : gb.n = g.n + 2 := by rw [hgb, n_set, n_alloc, na]
  have nc : gc.n = g.n + 3 := by rw [hgc, n_set, n_alloc, nb]
  obtain ⟨fa, e4, hfa⟩ := law14_one_ok (bar := g.n) (g := gc) ⟨#[49]⟩
  obtain ⟨gd, e5, hR, nd, kd⟩ := row_new_nil (bar := g.n) (g := gc) (by omega)
  obtain ⟨ge, hge⟩ : ∃ ge, ge = gd.alloc (.cells [.int .i64 0] 0) := ⟨_, rfl⟩
  have ne : ge.n = gd.n + 1 := by rw [hge, n_alloc]
  obtain ⟨gf, e6, nf, kf⟩ := run_refA (bar := g.n) (g := ge) (p := 1) (mo := 2) (aa := .sl gd.n 0 1 1 true) (Rv := .ptr gc.n 0) (nm := 102) (fuel := 1) hfa.one (by omega) (.inl rfl)
  unfold refR at e6
  have c1 : gf.get g.n = some (.cells [.int .i64 3, .int .i64 0, .int .i64 6, x1] 0) := by
    rw [kf _ (by omega), hge, get_alloc, if_neg (by omega), kd _ (by omega), hgc, get_set_ne (by omega), get_alloc, if_neg (by omega), hgb, get_set_ne (by omega), get_alloc, if_neg (by omega), hga, get_set, if_pos rfl]
  have c2 : gf.get ga.n = some (.cells [.int .i64 0, .int .i64 1, .int .i64 0, x2] 0) := by
    rw [kf _ (by omega), hge, get_alloc, if_neg (by omega), kd _ (by omega), hgc, get_set_ne (by omega), get_alloc, if_neg (by omega), hgb, get_set, if_pos rfl]
  have c3 : gf.get gb.n = some (.cells [.int .i64 0, .int .i64 6, .int .i64 f3, x3] 0) := by
    rw [kf _ (by omega), hge, get_alloc, if_neg (by omega), kd _ (by omega), hgc, get_set, if_pos rfl]
  have hbf : g.n ≤ gf.n := by omega
  have hba : g.n ≤ ga.n := by omega
  have hbb : g.n ≤ gb.n := by omega
  have i1 : ¬ g.n = gf.n := by omega
  have i2 : ¬ ga.n = gf.n := by omega
  have i3 : ¬ gb.n = gf.n := by omega
  simp [f_engramlaw14_known, env0, go_sem, get_alloc, n_alloc, get_set, n_set, get_kill, n_kill, writeAt, a11, a21, a31, a41, a51, a61, a71, isNil, e1, AV.cells, y1, sp40]
  simp only [← hga]
  simp [go_sem, get_alloc, n_alloc, get_set, n_set, get_kill, n_kill, writeAt, a11, a21, a31, a41, a51, a61, a71, isNil, e2, AV.cells, y2, sp40, hba]
  simp only [← hgb]
  simp [go_sem, get_alloc, n_alloc, get_set, n_set, get_kill, n_kill, writeAt, a11, a21, a31, a41, a51, a61, a71, isNil, e3, AV.cells, y3, sp40, hbb]
  simp only [← hgc]
  simp [go_sem, get_alloc, n_alloc, get_set, n_set, get_kill, n_kill, writeAt, a11, a21, a31, a41, a51, a61, a71, isNil, e4, e5, evParts, fillI1, ← hge, e6, AV.cells, sp40, hbf]
  simp [go_sem, get_alloc, n_alloc, get_set, n_set, get_kill, n_kill, writeAt, a11, a21, a31, a41, a51, a61, a71, isNil, c1, c2, c3, i1, i2, i3]
  simp [go_sem, endP, endI, resultsA, resultA, freezeL, freezeV, AV.free.freeL, AV.free, packA, dropS]
end
end Go.Ev
set_option linter.unusedSectionVars false
namespace Go.Ev
open Go
def askL (L : List Int) (i : Nat) : List (Int × Int) := (L.take i).flatMap fun v => [(113, v), (114, wI (v + 1))]
theorem askL_len (L : List Int) : ∀ i, i ≤ L.length → (askL L i).length = 2 * i
  | 0, _ => rfl
  | i + 1, h => by
    unfold askL
    rw [List.take_add_one, List.getElem?_eq_getElem (by omega), List.flatMap_append, List.length_append]
    have := askL_len L i (by omega)
    unfold askL at this
    rw [this]; simp; omega
theorem askL_succ {L : List Int} {i : Nat} {v : Int} (h : L[i]? = some v) : askL L (i + 1) = askL L i ++ [(113, v)] ++ [(114, wI (v + 1))] := by
  unfold askL
  rw [List.take_add_one, h, List.flatMap_append]
  simp
def akT : ByteArray := ⟨#[97, 207, 128, 113, 44, 97, 32, 49, 43, 207, 128, 114]⟩
theorem ask_unit : UnitOk 0 0 [⟨102, 1, akT⟩] [asksC] := unit1 0 0 102 _ asksC 1 (by kernel_rfl) (by kernel_rfl)
section
variable {bar : Nat} {g : H}
theorem asks_l0 {N : Nat} {L : List Int} (hN : N = L.length) {cs : List AV} {full : Bool} (hcs : cs.length = N) (hget : ∀ (i : Nat) v, L[i]? = some v → cs[i]? = some (.int .i64 v)) (M R U F : Nat) (Q : Ex → Env → H → Prop) (n : Nat) (hn : n = min N 6)
    (hq : ∀ e g' own, e.get 0 = some (.fz 1 N cs full) → e.get 3 = some (.ptr R 0) → RowO g' bar own R ⟨[], askL L n⟩ → bar ≤ g'.n → Q (.exit 0) e g') : ∀ (k i : Nat) (g : H) (own : Nat → Nat), n = i + k → g.get U = some (.cells [.int .i64 0, .int .i64 0, .sl F 0 3 1 true] 0) → U < g.n → FV g (.sl F 0 3 1 true) [⟨102, 1, akT⟩] → own F = 0 → own U = 9 → MemO g bar own M (zeroM 0 0) → RowO g bar own R ⟨[], askL L i⟩ → bar ≤ g.n → bar ≤ U →
    wpL (call tb prim) bar [0, 3, 4, 5, 6] l0_engramlaw14_EngineAsks [(0, .fz 1 N cs full), (3, .ptr R 0), (4, .ptr M 0), (5, .ptr U 0), (6, .int .i64 (i : Nat))] g Q
  | 0, i, g, own, hk, hU, hUl, hv, hF, hUo, hM, hR, hbg, hbU => by
    refine M_loop l0_engramlaw14_EngineAsks.eq_1 ?_
    have hi : i = n := by omega
    subst hi
    by_cases c : i < N
    · have c6 : ¬ (i : Int) < 6 := by omega
      simp [go_sem, c, c6]
      exact hq _ _ _ rfl rfl hR hbg
    · simp [go_sem, c]
      exact hq _ _ _ rfl rfl hR hbg
  | k + 1, i, g, own, hk, hU, hUl, hv, hF, hUo, hM, hR, hbg, hbU => by
    refine M_loop l0_engramlaw14_EngineAsks.eq_1 ?_
    have c : i < N := by omega
    have c6 : (i : Int) < 6 := by omega
    have hw := w64_succ (n := i) (by omega)
    have hx : L[i]? = some L[i] := List.getElem?_eq_getElem (by omega)
    obtain ⟨v, hv0⟩ : ∃ v, v = L[i] := ⟨_, rfl⟩
    rw [← hv0] at hx
    have hci := hget i v hx
    have ix : indexIn (.int .i64 (i : Int)) N = some i := by simp only [indexIn]; rw [if_pos (by omega), Int.toNat_natCast]
    have hcl : (cs.length = N) = True := by simpa using hcs
    
    obtain ⟨g1, hg1⟩ : ∃ g1, g1 = g.alloc (.cells [.int .i64 v] 0) := ⟨_, rfl⟩
    have n1 : g1.n = g.n + 1 := by rw [hg1, n_alloc]
    have k1 : ∀ j, j < g.n → g1.get j = g.get j := fun j hj => by rw [hg1, get_alloc, if_neg (by omega)]
    obtain ⟨own1, ho1⟩ : ∃ own1, own1 = ext own g.n 9 := ⟨_, rfl⟩
    have kp1 : Kp own (fun _ => False) g g1 := by rw [hg1]; exact alloc_kp
    have ag1 : Agr g.n own own1 := by rw [ho1]; exact Agr.ext
    have hFl : F < g.n := hv.at_lt' (j := F) rfl
    have hv1 : FV g1 (.sl F 0 3 1 true) [⟨102, 1, akT⟩] := hv.keep (by omega) (fun j hj => k1 j (hv.at_lt' hj))
    have hF1 : At own1 (.sl F 0 3 1 true) 0 := fun j hj => by cases hj; rw [ag1 F hFl]; exact hF
    have hva : Vw 1 g1 (.sl g.n 0 1 1 true) [v].length ([v].map (AV.int .i64)) := ⟨rfl, by simp, .inr (.inr ⟨g.n, 0, true, [.int .i64 v], 0, rfl, by omega, by rw [hg1, get_alloc, if_pos rfl], by simp, rfl⟩)⟩
    have hlen := askL_len L i (by omega)
    obtain ⟨xa, g7, own', ids, C, e7, hxa, _, _, _, hM7, hR7, kp7, ag7⟩ := Run_ok (bar := bar) (nm := 102) (fuel := 20) hv1 hF1 (hM.mono kp1 ag1 (by simp)) (hR.mono kp1 ag1 (by simp)) (by omega) ask_unit.right ask_unit.to ask_unit.sig ask_unit.arg ask_unit.len (by omega) (by omega) (k := 0) rfl (f := ⟨102, 1, akT⟩) rfl hva rfl (by simp only; omega)
      (s' := ⟨[], zeroM 0 0, ⟨[], askL L i ++ [(113, v)] ++ [(114, wI (v + 1))]⟩, 0⟩) (v := 0) (n' := 13) (by rw [ask_unit.codes, show codeW ⟨102, 1, akT⟩ = asksC by kernel_rfl]; exact asks_ends v _)
    simp only at hxa
    have hd : (askL L i ++ ([((113 : Int), v)] ++ [((114 : Int), wI (v + 1))])).length - (askL L i).length = 2 := by simp
    rw [List.append_assoc, List.drop_left, hd] at hxa
    have hx1 := hxa.one
    have hxl := hxa.len
    obtain ⟨_, _, ⟨_, h0⟩ | ⟨full', hxe⟩⟩ := hxa
    · cases h0
    rw [show ([((113 : Int), v)] ++ [((114 : Int), wI (v + 1))]).flatMap asC = [.int .i32 113, .int .i64 v, .int .i32 114, .int .i64 (wI (v + 1))] from rfl] at hxe
    unfold runRes at e7
    obtain ⟨g8, hg8⟩ : ∃ g8, g8 = (g7.alloc (.cells [.int .i64 0, .int .i64 0, .int .i64 0, .nilsl] 0)).set g7.n (.cells [.int .i64 0, .int .i64 0, .int .i64 13, xa] 0) := ⟨_, rfl⟩
    have n8 : g8.n = g7.n + 1 := by rw [hg8, n_set, n_alloc]
    have k8 : ∀ j, j < g7.n → g8.get j = g7.get j := fun j hj => by rw [hg8, get_set_ne (by omega), get_alloc, if_neg (by omega)]
    have gR8 : g8.get g7.n = some (.cells [.int .i64 0, .int .i64 0, .int .i64 13, xa] 0) := by rw [hg8, get_set, if_pos rfl]
    obtain ⟨own8, ho8⟩ : ∃ own8, own8 = ext own' g7.n 9 := ⟨_, rfl⟩
    have kp8 : Kp own' (fun _ => False) g7 g8 := ⟨by omega, fun j hj _ => k8 j hj⟩
    have ag8 : Agr g7.n own' own8 := by rw [ho8]; exact Agr.ext
    have n7 : g1.n ≤ g7.n := kp7.1
    have k7 : ∀ j, j < g.n → (own j = 0 ∨ own j = 9) → g8.get j = g.get j := fun j hj ho => by
      rw [k8 j (by omega), kp7.2 j (by omega) (by rw [ag1 j hj]; unfold tA; omega), k1 j hj]
    have own8e : ∀ j, j < g.n → own8 j = own j := fun j hj => by rw [ag8 j (by omega), ag7 j (by omega), ag1 j hj]
    have hU8 : g8.get U = some (.cells [.int .i64 0, .int .i64 0, .sl F 0 3 1 true] 0) := by rw [k7 U hUl (.inr hUo)]; exact hU
    have hv8 : FV g8 (.sl F 0 3 1 true) [⟨102, 1, akT⟩] := hv.keep (by omega) (fun j hj => by cases hj; exact k7 F hFl (.inl hF))
    have hR8 : RowO g8 bar own8 R ⟨[], askL L (i + 1)⟩ := by rw [askL_succ hx]; exact hR7.mono kp8 ag8 (by simp)
    have hNx := asks_l0 hN hcs hget M R U F Q n hn hq k (i + 1) g8 own8 (by omega) hU8 (by omega) hv8 (by rw [own8e F hFl]; exact hF) (by rw [own8e U hUl]; exact hUo) (hM7.mono kp8 ag8 (by simp)) hR8 (by omega) hbU
    have hU1 : g1.get U = some (.cells [.int .i64 0, .int .i64 0, .sl F 0 3 1 true] 0) := by rw [k1 U hUl]; exact hU
    have hb7 : bar ≤ g7.n := by omega
    have f2 : ∀ a w : Int, fillA [.int .i32 0, .int .i64 0] [(0, 1, .int .i32 a), (1, 1, .int .i64 w)] = some [.int .i32 a, .int .i64 w] := fun a w => by
      rw [fillA_one rfl (by simp), fillA_one rfl (by simp [splice])]; rfl
    have hw1 : (wI (v + 1) == IntKind.i64.wrap (v + 1)) = true := beq_self_eq_true _
    have ix2 : ∀ k : Nat, k < 2 → indexIn (.int .i64 (k : Int)) 2 = some k := fun k hk => by simp only [indexIn]; rw [if_pos (by omega), Int.toNat_natCast]
    have ix0 : indexIn (.int .i64 0) 2 = some 0 := ix2 0 (by omega)
    have ix1 : indexIn (.int .i64 1) 2 = some 1 := ix2 1 (by omega)
    have hUn : ¬ U = g.n := by omega
    have hce : cs[i]? = some (.int .i64 v) := hci
    simp [go_sem, get_alloc, n_alloc, get_set, n_set, get_kill, n_kill, writeAt, a11, a21, a31, a41, a51, a61, a71, isNil, c, c6]
    refine ⟨sees_of rfl ?_, ?_⟩
    · simp [-getElem?_pos, R_nil, R_cons, RS_some, sameV_some, seesQ_some, List.take, List.take_succ_cons, List.take_zero, go_sem, get_alloc, n_alloc, get_set, n_set, get_kill, n_kill, writeAt, a11, a21, a31, a41, a51, a61, a71, isNil, hU, hcl, ix, hce, evParts, fillI1, hUn, List.getElem?_cons_zero, List.getElem?_cons_succ]
    simp [go_sem, get_alloc, n_alloc, get_set, n_set, get_kill, n_kill, writeAt, a11, a21, a31, a41, a51, a61, a71, isNil, hU, hcl, ix, hce, evParts, fillI1, ← hg1, e7, AV.cells, hx1, sp40, hb7, hxl]
    subst hxe
    simp [go_sem, get_alloc, n_alloc, get_set, n_set, get_kill, n_kill, writeAt, a11, a21, a31, a41, a51, a61, a71, isNil, f2, hcl, ix, hce, evParts, ix0, ix1, sameCells, sameK, hw1]
    rw [← hg8]
    simp [go_sem, get_alloc, n_alloc, get_set, n_set, get_kill, n_kill, writeAt, a11, a21, a31, a41, a51, a61, a71, isNil, hw]
    exact hNx
theorem EngineAsks_ok {la : AV} {L : List Int} (hv : FzV 1 la L.length (L.flatMap i64c)) : call tb prim n_engramlaw14_EngineAsks [la] bar g = some (.bool true, g) := by
  refine call_of tb_engramlaw14_EngineAsks (callF_pureW rfl rfl (M_in ?_))
  have hLn := hv.2.1
  obtain ⟨g1, e1, hR, n1, k1⟩ := row_new_nil (bar := g.n) (g := g) (Nat.le_refl _)
  obtain ⟨g2, M, ba, da, e2, hM, n2, k2⟩ := new_ok (bar := g.n) (g := g1) 0 0 (by omega) (by omega) (by omega)
  rw [show ((0 : Nat) : Int) = 0 from rfl] at e2
  obtain ⟨ga, hga⟩ : ∃ ga, ga = ((g2.alloc (.cells [.int .i32 102, .int .i64 1, .str akT] 0)).alloc (.cells [.int .i64 0, .int .i64 0, .nilsl] 0)).set (g2.n + 1) (.cells [.int .i64 0, .int .i64 0, .sl g2.n 0 3 1 true] 0) := ⟨_, rfl⟩
  have na : ga.n = g2.n + 2 := by rw [hga]; rfl
  have gU : ga.get (g2.n + 1) = some (.cells [.int .i64 0, .int .i64 0, .sl g2.n 0 3 1 true] 0) := by rw [hga, get_set, if_pos rfl]
  have gF : ga.get g2.n = some (.cells [.int .i32 102, .int .i64 1, .str akT] 0) := by
    rw [hga, get_set_ne (by omega), get_alloc, if_neg (by rw [n_alloc]; omega), get_alloc, if_pos rfl]
  have ka : ∀ j, j < g2.n → ga.get j = g2.get j := fun j hj => by rw [hga, get_set_ne (by omega), get_alloc, if_neg (by rw [n_alloc]; omega), get_alloc, if_neg (by omega)]
  have hFV : FV ga (.sl g2.n 0 3 1 true) [⟨102, 1, akT⟩] := ⟨rfl, by simp, .inr (.inr ⟨g2.n, 0, true, _, 0, rfl, by omega, gF, by simp, rfl⟩)⟩
  have hMl := hM.lt
  have hMb := hM.bM
  have hbl := fun j hj => hM.ob.at_lt (j := j) hj
  have hdl := fun j hj => hM.od.at_lt (j := j) hj
  have hMa : MemV ga g.n M (zeroM 0 0) ba da := by
    have h1 := hM.mono (g' := ga) (by omega) (ka M hMl) (fun j hj => ka j (hbl j hj).2) (fun j hj => ka j (hdl j hj).2)
    exact ⟨h1.get, by omega, h1.lt, h1.ob.bar_le (by omega), h1.od.bar_le (by omega), h1.nb, h1.nd, h1.ap, h1.sz, h1.m0, h1.m1, h1.rng⟩
  obtain ⟨own, hown⟩ : ∃ own, own = ownF (.sl g2.n 0 3 1 true) M g.n ba da .nilsl .nilsl := ⟨_, rfl⟩
  have hMO : MemO ga g.n own M (zeroM 0 0) := by
    have hfM : ¬ (AV.sl g2.n 0 3 1 true).isAt M := fun q => by cases q; omega
    refine ⟨⟨ba, da, hMa, fun j hj => ?_, fun j hj => ?_⟩, by rw [hown]; simp [ownF, hfM]⟩
    · have h1 : j ≠ M := fun q => hMa.nb (q ▸ hj)
      have h2 : j ≠ g.n := by have := (hbl j hj).1; omega
      have h3 : ¬ (AV.sl g2.n 0 3 1 true).isAt j := fun q => by cases q; have := (hbl _ hj).2; omega
      rw [hown]; simp [ownF, h1, h2, h3, hj]
    · have h1 : j ≠ M := fun q => hMa.nd (q ▸ hj)
      have h2 : j ≠ g.n := by have := (hdl j hj).1; omega
      have h3 : ¬ (AV.sl g2.n 0 3 1 true).isAt j := fun q => by cases q; have := (hdl _ hj).2; omega
      have h4 : ¬ ba.isAt j := fun q => hMa.ap j q hj
      rw [hown]; simp [ownF, h1, h2, h3, h4, hj]
  have hRO : RowO ga g.n own g.n ⟨[], []⟩ := by
    have hfR : ¬ (AV.sl g2.n 0 3 1 true).isAt g.n := fun q => by have : g2.n = g.n := q; omega
    have h1 : g.n ≠ M := by omega
    have hR2 := hR.mono (g' := ga) (by omega) (by rw [ka _ (by omega), k2 _ (by omega)]) (fun j hj => hj.elim) (fun j hj => hj.elim)
    exact ⟨⟨.nilsl, .nilsl, hR2, fun j hj => hj.elim, fun j hj => hj.elim⟩, by rw [hown]; simp [ownF, hfR, h1]⟩
  have hF0 : own g2.n = 0 := by rw [hown]; simp [ownF, show (AV.sl g2.n 0 3 1 true).isAt g2.n from rfl]
  have hU9 : own (g2.n + 1) = 9 := by
    have h1 : g2.n + 1 ≠ M := by omega
    have h2 : g2.n + 1 ≠ g.n := by omega
    have h3 : ¬ (AV.sl g2.n 0 3 1 true).isAt (g2.n + 1) := fun q => by have : g2.n = g2.n + 1 := q; omega
    have h4 : ¬ ba.isAt (g2.n + 1) := fun q => by have := (hbl _ q).2; omega
    have h5 : ¬ da.isAt (g2.n + 1) := fun q => by have := (hdl _ q).2; omega
    have h6 : ¬ (AV.nilsl).isAt (g2.n + 1) := fun q => q
    rw [hown]; simp only [ownF, h1, h2, h3, h4, h5, h6, if_false]
  have eK := fun g' => law14_known_ok (bar := g.n) (g := g')
  have hlen := fun g' => hv.len g'
  have hU1 := fun (x : AV) (h : x.one = true) => fillU0 h
  have s1 : (ByteArray.mk #[97, 207, 128, 113, 44, 97, 32, 49, 43, 207, 128, 114]) = akT := rfl
  obtain ⟨n, hn⟩ : ∃ n, n = min L.length 6 := ⟨_, rfl⟩
  have hmm : (if (6 : Int) < (L.length : Int) then (6 : Int) else (L.length : Int)) = (n : Int) := by split <;> omega
  have hw2 : IntKind.i64.wrap (2 * (n : Int)) = ((2 * n : Nat) : Int) := by rw [w64 (by omega) (by omega)]; omega
  simp [f_engramlaw14_EngineAsks, env0, go_sem, get_alloc, n_alloc, get_set, n_set, get_kill, n_kill, writeAt, a11, a21, a31, a41, a51, a61, a71, isNil, e1, e2, evParts, s1, fillF1, fillF3, AV.cells, hU1, spT3]
  simp only [← hga]
  have hb2 : g.n ≤ g2.n + 1 := by omega
  simp [go_sem, get_alloc, n_alloc, get_set, n_set, get_kill, n_kill, writeAt, a11, a21, a31, a41, a51, a61, a71, isNil, hb2]
  obtain ⟨full, cs, hla, hcs, hget⟩ : ∃ full cs, (la = .fz 1 L.length cs full ∨ (la = .nilsl ∧ L = [])) ∧ cs.length = L.length ∧ ∀ (i : Nat) v, L[i]? = some v → cs[i]? = some (.int .i64 v) := by
    have hg : ∀ (i : Nat) v, L[i]? = some v → (L.flatMap i64c)[i]? = some (.int .i64 v) := fun i v h => by
      obtain ⟨hi, he⟩ := List.getElem?_eq_some_iff.mp h
      rw [i64_get hi, he]
    obtain ⟨h1, _, ⟨h2, h3⟩ | ⟨full, h2⟩⟩ := hv
    · exact ⟨true, L.flatMap i64c, .inr ⟨h2, List.length_eq_zero_iff.mp h3⟩, by rw [i64_len], hg⟩
    · exact ⟨full, L.flatMap i64c, .inl h2, by rw [i64_len], hg⟩
  rcases hla with rfl | ⟨rfl, rfl⟩
  · refine asks_l0 (N := L.length) rfl hcs hget M g.n (g2.n + 1) g2.n _ n hn (fun e g' own' q0 q3 hR' hb' => ?_) n 0 ga own (by omega) gU (by omega) hFV hF0 hU9 hMO hRO (by omega) (by omega)
    obtain ⟨⟨ra, raa, hrv, _, _⟩, _⟩ := hR'
    obtain ⟨xa, eA, hxa⟩ := asks_ok (bar := g.n) hrv
    have hxl := fun g' => hxa.len g'
    have hal : (askL L n).length = 2 * n := askL_len L n (by omega)
    simp only [hal] at hxl
    simp [go_sem, get_alloc, n_alloc, get_set, n_set, get_kill, n_kill, writeAt, a11, a21, a31, a41, a51, a61, a71, isNil, q0, q3, eA, hxl, goI, hmm, hw2, eK]
    simp [go_sem, endP, endI, resultsA, resultA, freezeL, freezeV, AV.free.freeL, AV.free, packA, dropS]
  · have hn0 : n = 0 := by rw [hn]; rfl
    obtain ⟨⟨ra, raa, hrv, _, _⟩, _⟩ := hRO
    obtain ⟨xa, eA, hxa⟩ := asks_ok (bar := g.n) hrv
    have hxl := fun g' => hxa.len g'
    refine M_loop l0_engramlaw14_EngineAsks.eq_1 ?_
    have w00 : IntKind.i64.wrap 0 = 0 := by decide
    simp [go_sem, get_alloc, n_alloc, get_set, n_set, get_kill, n_kill, writeAt, a11, a21, a31, a41, a51, a61, a71, isNil, eA, hxl, goI, w00, eK]
    simp [go_sem, endP, endI, resultsA, resultA, freezeL, freezeV, AV.free.freeL, AV.free, packA, dropS]
end
end Go.Ev
