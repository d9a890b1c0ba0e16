/- Part 6 of the proof that a law of this seat (the one that GOCLAIM.json names) returns true for every argument; nothing is assumed. -/
import Derived.Test.YtflenhndceggnaaGreatDoorA5
set_option linter.unusedSimpArgs false
set_option linter.unusedVariables false
set_option linter.all false
set_option linter.unusedSectionVars false
namespace Go.Ev
open Go
def tP (t : Nat) : Nat → Prop := fun k => k = 1 ∨ k = 6 ∨ k = 7 ∨ k = 8 ∨ tS t k
theorem tS6 (t : Nat) : ¬ tS t 6 ∧ ¬ tS t 7 ∧ ¬ tS t 8 := by unfold tS; omega
theorem tS0 (t : Nat) : ¬ tS t 0 := by unfold tS; omega
theorem tS_P {t k : Nat} (h : tS t k) : tP t k := .inr (.inr (.inr (.inr h)))
theorem alloc_kp {own : Nat → Nat} {S : Nat → Prop} {g : H} {o : HObj} : Kp own S g (g.alloc o) := ⟨by simp [n_alloc], fun j hj _ => by rw [get_alloc, if_neg (by omega)]⟩
section
variable {bar b : Nat} {g : H} {own : Nat → Nat} {C : Cx} {tr val : Int} {ids : List Nat} {t : Nat} {f : Fm} {id : Nat} {r : Row}
def tokA (k : Tok) : AV := .agg [.int .i32 k.sign, .int .i64 k.n, .int .i32 k.name]
def tokH (g : H) (k : Tok) : H := g.alloc (.cells [.int .i32 k.sign, .int .i64 k.n, .int .i32 k.name] 0)
def PlainR (bar b : Nat) (g : H) (own : Nat → Nat) (C : Cx) (val : Int) (ids : List Nat) (t : Nat) (f : Fm) (id : Nat) (k : Tok) (x : Option (List Int × Row × Int)) : Prop :=
  ∀ st r' tr', x = some (st, r', tr') → ∃ g' own', call tb prim n_engine_runner_plain [.ptr C.X 0, .ptr id 0, tokA k] bar g = some (.tup [], g') ∧ FrO g' b own' t { f with st := st } id ∧ XO g' b own' C tr' val ids ∧ RowO g' b own' C.R r' ∧ Kp own (tP t) g g' ∧ Agr g.n own own'
/-- With the token laid down. -/
theorem plain_in {k : Tok} {x : Option (List Int × Row × Int)} (vx : XO g b own C tr val ids) (vf : FrO g b own t f id) (vr : RowO g b own C.R r)
    (h : XO (tokH g k) b (ext own g.n 0) C tr val ids → FrO (tokH g k) b (ext own g.n 0) t f id → RowO (tokH g k) b (ext own g.n 0) C.R r → (tokH g k).n = g.n + 1 → ext own g.n 0 g.n = 0 → (tokH g k).get g.n = some (.cells [.int .i32 k.sign, .int .i64 k.n, .int .i32 k.name] 0) →
      ∀ st r' tr', x = some (st, r', tr') → ∃ g' own', call tb prim n_engine_runner_plain [.ptr C.X 0, .ptr id 0, tokA k] bar g = some (.tup [], g') ∧ FrO g' b own' t { f with st := st } id ∧ XO g' b own' C tr' val ids ∧ RowO g' b own' C.R r' ∧ Kp (ext own g.n 0) (tP t) (tokH g k) g' ∧ Agr (g.n + 1) (ext own g.n 0) own') : PlainR bar b g own C val ids t f id k x := by
  intro st r' tr' hx
  have kp : Kp own (fun _ => False) g (tokH g k) := alloc_kp
  obtain ⟨g', own', h1, h2, h3, h4, h5, h6⟩ := h (vx.mono kp Agr.ext (by simp)) (vf.mono kp Agr.ext (by simp) (by simp)) (vr.mono kp Agr.ext (by simp)) (by simp [tokH, n_alloc]) (by simp [ext]) (by simp [tokH, get_alloc]) st r' tr' hx
  exact ⟨g', own', h1, h2, h3, h4, (kp.le fun _ q => q.elim).trans Agr.ext h5, Agr.trans Agr.ext h6 (by omega)⟩
theorem plain_dup {k : Tok} {a : Int} {st : List Int} (vx : XO g b own C tr val ids) (vf : FrO g b own t f id) (vr : RowO g b own C.R r) (hb : bar ≤ b) (hbg : b ≤ g.n) (hst : f.st = a :: st) (hsm : f.st.length < 3000000) (hk : k.sign = 46) :
    PlainR bar b g own C val ids t f id k (some (a :: a :: st, r, tr)) := by
  refine plain_in vx vf vr fun vx vf vr hn ho hg st0 r0 tr0 h => ?_
  cases h
  obtain ⟨g3, own3, e4, v3, k3, a3⟩ := push_o vf hb (by omega) hsm a
  have x3 := vx.mono k3 a3 (tS1 t)
  have r3 := vr.mono k3 a3 (tS6 t)
  have vf' := vf
  obtain ⟨⟨la, ta, sa, hv, _, _⟩, _⟩ := vf'
  have hget := hv.get
  have hl := hv.loc
  have hos := hv.st
  rw [hst] at hos hsm
  simp only [List.length_cons] at hos hsm
  obtain ⟨sid, all, full, rfl, hbs, hsl, hgs, hle, htk, hcl, hgi, _, hcut⟩ := hos.cases (by omega)
  have h30 : (frC la ta f.c.args f.at' f.loc (.sl sid 0 1 (st.length + 1) full))[30]? = some (.sl sid 0 1 (st.length + 1) full) := frC_30 hl
  have htop : all[st.length]? = some (.int .i64 a) := by rw [hgi _ (by omega)]; exact stC_top a st
  have hw : IntKind.i64.wrap (st.length : Int) = (st.length : Nat) := w64 (by omega) (by omega)
  have hltI : (st.length : Int) < (st.length : Int) + 1 := by omega
  obtain ⟨cs, hcs⟩ : ∃ cs, cs = frC la ta f.c.args f.at' f.loc (.sl sid 0 1 (st.length + 1) full) := ⟨_, rfl⟩
  rw [← hcs] at hget h30
  rw [show f.st = a :: st from hst] at v3
  obtain ⟨x, g4, hcall, rfl, rfl⟩ := callF_K (o := call tb prim) (F := f_engine_runner_plain) (bar := bar) (h := g) (args := [.ptr C.X 0, .ptr id 0, tokA k]) (P := fun x g4 => x = .tup [] ∧ g4 = g3) rfl rfl (fun K hK => by
    simp [f_engine_runner_plain, env0, go_sem, get_alloc, n_alloc, get_set, n_set, get_kill, n_kill, writeAt, a11, a21, a31, a41, a51, a61, a71, isNil, tokA]
    rw [show (g.alloc (.cells [.int .i32 k.sign, .int .i64 k.n, .int .i32 k.name] 0)) = tokH g k from rfl, hk]
    simp [go_sem, get_alloc, n_alloc, get_set, n_set, get_kill, n_kill, writeAt, a11, a21, a31, a41, a51, a61, a71, isNil, hget, h30, hw, hltI, indexIn, hgs, htop, e4]
    simp [go_sem, endP, endI, resultsA, resultA, freezeL, freezeV, AV.free.freeL, AV.free, packA, dropS]
    exact ⟨_, _, ⟨rfl, rfl⟩, hK _ _ ⟨rfl, rfl⟩⟩)
  exact ⟨_, own3, call_of tb_engine_runner_plain hcall, v3, x3, r3, k3.le fun k h => tS_P h, by rw [← hn]; exact a3⟩
theorem plain_drop {k : Tok} {a : Int} {st : List Int} (vx : XO g b own C tr val ids) (vf : FrO g b own t f id) (vr : RowO g b own C.R r) (hb : bar ≤ b) (hbg : b ≤ g.n) (hst : f.st = a :: st) (hk : k.sign = 44) :
    PlainR bar b g own C val ids t f id k (some (st, r, tr)) := by
  refine plain_in vx vf vr fun vx vf vr hn ho hg st0 r0 tr0 h => ?_
  cases h
  obtain ⟨g1, e1, v1, k1⟩ := pop_o vf hst hb
  have x1 := vx.mono k1 Agr.refl (tS1 t)
  have r1 := vr.mono k1 Agr.refl (tS6 t)
  obtain ⟨x, g9, hcall, rfl, rfl⟩ := callF_K (o := call tb prim) (F := f_engine_runner_plain) (bar := bar) (h := g) (args := [.ptr C.X 0, .ptr id 0, tokA k]) (P := fun x g9 => x = .tup [] ∧ g9 = g1) rfl rfl (fun K hK => by
    simp [f_engine_runner_plain, env0, go_sem, get_alloc, n_alloc, get_set, n_set, get_kill, n_kill, writeAt, a11, a21, a31, a41, a51, a61, a71, isNil, tokA]
    rw [show (g.alloc (.cells [.int .i32 k.sign, .int .i64 k.n, .int .i32 k.name] 0)) = tokH g k from rfl]
    rw [hk]
    simp [go_sem, get_alloc, n_alloc, get_set, n_set, get_kill, n_kill, writeAt, a11, a21, a31, a41, a51, a61, a71, isNil, e1]
    simp [go_sem, endP, endI, resultsA, resultA, freezeL, freezeV, AV.free.freeL, AV.free, packA, dropS]
    exact ⟨_, _, ⟨rfl, rfl⟩, hK _ _ ⟨rfl, rfl⟩⟩)
  exact ⟨_, _, call_of tb_engine_runner_plain hcall, v1, x1, r1, k1.le fun k h => tS_P h, Agr.refl⟩
theorem plain_skip {k : Tok} (vx : XO g b own C tr val ids) (vf : FrO g b own t f id) (vr : RowO g b own C.R r) (hk : k.sign = 59 ∨ k.sign = 91) :
    PlainR bar b g own C val ids t f id k (some (f.st, r, tr)) := by
  refine plain_in vx vf vr fun vx vf vr hn ho hg st0 r0 tr0 h => ?_
  cases h
  obtain ⟨x, g9, hcall, rfl, rfl⟩ := callF_K (o := call tb prim) (F := f_engine_runner_plain) (bar := bar) (h := g) (args := [.ptr C.X 0, .ptr id 0, tokA k]) (P := fun x g9 => x = .tup [] ∧ g9 = tokH g k) rfl rfl (fun K hK => by
    rcases hk with hk | hk
    · simp [f_engine_runner_plain, env0, go_sem, get_alloc, n_alloc, get_set, n_set, get_kill, n_kill, writeAt, a11, a21, a31, a41, a51, a61, a71, isNil, tokA]
      rw [show (g.alloc (.cells [.int .i32 k.sign, .int .i64 k.n, .int .i32 k.name] 0)) = tokH g k from rfl, hk]
      simp [go_sem, endP, endI, resultsA, resultA, freezeL, freezeV, AV.free.freeL, AV.free, packA, dropS]
      exact ⟨_, _, ⟨rfl, rfl⟩, hK _ _ ⟨rfl, rfl⟩⟩
    · simp [f_engine_runner_plain, env0, go_sem, get_alloc, n_alloc, get_set, n_set, get_kill, n_kill, writeAt, a11, a21, a31, a41, a51, a61, a71, isNil, tokA]
      rw [show (g.alloc (.cells [.int .i32 k.sign, .int .i64 k.n, .int .i32 k.name] 0)) = tokH g k from rfl, hk]
      simp [go_sem, endP, endI, resultsA, resultA, freezeL, freezeV, AV.free.freeL, AV.free, packA, dropS]
      exact ⟨_, _, ⟨rfl, rfl⟩, hK _ _ ⟨rfl, rfl⟩⟩)
  exact ⟨_, _, call_of tb_engine_runner_plain hcall, vf, vx, vr, Kp.refl, Agr.refl⟩
theorem plain_halt {k : Tok} (vx : XO g b own C tr val ids) (vf : FrO g b own t f id) (vr : RowO g b own C.R r) (hb : bar ≤ b) (hk : k.sign = 161) :
    PlainR bar b g own C val ids t f id k (some (f.st, r, 2)) := by
  refine plain_in vx vf vr fun vx vf vr hn ho hg st0 r0 tr0 h => ?_
  cases h
  have vx' := vx
  obtain ⟨⟨fra, h1, h2, h3⟩, hoX, hbX, hl, hs⟩ := vx'
  have hbx : bar ≤ C.X := Nat.le_trans hb hbX
  have hsp : splice (xC C fra tr val) 7 [.int .i64 2] = xC C fra 2 val := rfl
  have hle : 7 + 1 ≤ (xC C fra tr val).length := by simp [xC]
  obtain ⟨g1, hg1⟩ : ∃ g1, g1 = (tokH g k).set C.X (.cells (xC C fra 2 val) 0) := ⟨_, rfl⟩
  have k1 : Kp (ext own g.n 0) (fun k => k = 1) (tokH g k) g1 := ⟨by rw [hg1, n_set]; exact Nat.le_refl _, fun j hj hsj => by rw [hg1, get_set_ne (fun q => hsj (by rw [q]; exact hoX))]⟩
  have x1 : XO g1 b (ext own g.n 0) C 2 val ids := ⟨⟨fra, by rw [hg1, get_set, if_pos rfl], h2.mono k1.1 (fun j hj => by rw [hg1, get_set_ne (fun q => by have := h3 j hj; rw [q, hoX] at this; omega)]), h3⟩, hoX, hbX, by rw [hg1, n_set]; exact hl, hs⟩
  have v1 := vf.mono k1 Agr.refl (by omega) (by omega)
  have r1 := vr.mono k1 Agr.refl (by omega)
  obtain ⟨cs, hcs⟩ : ∃ cs, cs = xC C fra tr val := ⟨_, rfl⟩
  rw [← hcs] at h1 hsp hle
  obtain ⟨x, g9, hcall, rfl, rfl⟩ := callF_K (o := call tb prim) (F := f_engine_runner_plain) (bar := bar) (h := g) (args := [.ptr C.X 0, .ptr id 0, tokA k]) (P := fun x g9 => x = .tup [] ∧ g9 = g1) rfl rfl (fun K hK => by
    simp [f_engine_runner_plain, env0, go_sem, get_alloc, n_alloc, get_set, n_set, get_kill, n_kill, writeAt, a11, a21, a31, a41, a51, a61, a71, isNil, tokA]
    rw [show (g.alloc (.cells [.int .i32 k.sign, .int .i64 k.n, .int .i32 k.name] 0)) = tokH g k from rfl]
    rw [hk]
    simp [go_sem, get_alloc, n_alloc, get_set, n_set, get_kill, n_kill, writeAt, a11, a21, a31, a41, a51, a61, a71, isNil, h1, hle, hsp, hbx, ← hg1]
    simp [go_sem, endP, endI, resultsA, resultA, freezeL, freezeV, AV.free.freeL, AV.free, packA, dropS]
    exact ⟨_, _, ⟨rfl, rfl⟩, hK _ _ ⟨rfl, rfl⟩⟩)
  exact ⟨_, _, call_of tb_engine_runner_plain hcall, v1, x1, r1, k1.le fun k h => .inl h, Agr.refl⟩
theorem plain_not {k : Tok} {a : Int} {st : List Int} (vx : XO g b own C tr val ids) (vf : FrO g b own t f id) (vr : RowO g b own C.R r) (hb : bar ≤ b) (hbg : b ≤ g.n) (hst : f.st = a :: st) (hk : k.sign = 33) :
    PlainR bar b g own C val ids t f id k (some ((doN k.sign a 0).1 :: st, r, trapIf ((doN k.sign a 0).2 == 0) (doN k.sign a 0).2 tr)) := by
  have hsm := vf.sm
  rw [hst] at hsm
  refine plain_in vx vf vr fun vx vf vr hn ho hg st0 r0 tr0 h => ?_
  cases h
  obtain ⟨g1, e1, v1, k1⟩ := pop_o vf hst hb
  have x1 := vx.mono k1 Agr.refl (tS1 t)
  have r1 := vr.mono k1 Agr.refl (tS6 t)
  have hg1 : g1.get g.n = some (.cells [.int .i32 k.sign, .int .i64 k.n, .int .i32 k.name] 0) := by rw [k1.2 g.n (by omega) (by rw [ho]; exact tS0 t)]; exact hg
  have e2 := do_ok (bar := bar) (g := g1) k.sign a 0
  obtain ⟨g2, e3, x2, k2, n2⟩ := stop_ok x1 hb ((doN k.sign a 0).2 == 0) (doN k.sign a 0).2
  have v2 := v1.mono k2 Agr.refl (by omega) (by omega)
  have r2 := r1.mono k2 Agr.refl (by omega)
  obtain ⟨g3, own3, e4, v3, k3, a3⟩ := push_o v2 hb (by have := k1.1; have := k2.1; omega) (by simp at hsm ⊢; omega) (doN k.sign a 0).1
  have x3 := x2.mono k3 a3 (tS1 t)
  have r3 := r2.mono k3 a3 (tS6 t)
  have hkp : Kp (ext own g.n 0) (tP t) (tokH g k) g3 := (k1.le fun k h => tS_P h).trans Agr.refl ((k2.le fun k h => .inl h).trans Agr.refl (k3.le fun k h => tS_P h))
  rw [hk] at e2 e3 e4 hg hg1
  obtain ⟨x, g9, hcall, rfl, rfl⟩ := callF_K (o := call tb prim) (F := f_engine_runner_plain) (bar := bar) (h := g) (args := [.ptr C.X 0, .ptr id 0, tokA k]) (P := fun x g9 => x = .tup [] ∧ g9 = g3) rfl rfl (fun K hK => by
    simp [f_engine_runner_plain, env0, go_sem, get_alloc, n_alloc, get_set, n_set, get_kill, n_kill, writeAt, a11, a21, a31, a41, a51, a61, a71, isNil, tokA]
    rw [show (g.alloc (.cells [.int .i32 k.sign, .int .i64 k.n, .int .i32 k.name] 0)) = tokH g k from rfl]
    rw [hk]
    simp [go_sem, get_alloc, n_alloc, get_set, n_set, get_kill, n_kill, writeAt, a11, a21, a31, a41, a51, a61, a71, isNil, hg, e1, e2]
    refine ⟨sees_of rfl ?_, ?_⟩
    · simp [-getElem?_pos, R_nil, R_cons, RS_some, sameV_some, seesQ_some, List.take, List.take_succ_cons, List.take_zero, go_sem, get_alloc, n_alloc, get_set, n_set, get_kill, n_kill, writeAt, a11, a21, a31, a41, a51, a61, a71, isNil, hg, hg1, e1, e2, List.getElem?_cons_zero, List.getElem?_cons_succ]
    simp [go_sem, get_alloc, n_alloc, get_set, n_set, get_kill, n_kill, writeAt, a11, a21, a31, a41, a51, a61, a71, isNil, e1, e2, e3, e4]
    simp [go_sem, endP, endI, resultsA, resultA, freezeL, freezeV, AV.free.freeL, AV.free, packA, dropS]
    exact ⟨_, _, ⟨rfl, rfl⟩, hK _ _ ⟨rfl, rfl⟩⟩)
  exact ⟨_, own3, call_of tb_engine_runner_plain hcall, v3, x3, r3, hkp, Agr.trans Agr.refl a3 (by have := k1.1; have := k2.1; omega)⟩
theorem plain_two {k : Tok} {a c : Int} {st : List Int} (vx : XO g b own C tr val ids) (vf : FrO g b own t f id) (vr : RowO g b own C.R r) (hb : bar ≤ b) (hbg : b ≤ g.n) (hst : f.st = c :: a :: st) (hk : k.sign ≠ 46 ∧ k.sign ≠ 44 ∧ k.sign ≠ 59 ∧ k.sign ≠ 91 ∧ k.sign ≠ 161 ∧ k.sign ≠ 960 ∧ k.sign ≠ 33) :
    PlainR bar b g own C val ids t f id k (some ((doN k.sign a c).1 :: st, r, trapIf ((doN k.sign a c).2 == 0) (doN k.sign a c).2 tr)) := by
  have hsm := vf.sm
  rw [hst] at hsm
  refine plain_in vx vf vr fun vx vf vr hn ho hg st0 r0 tr0 h => ?_
  cases h
  obtain ⟨g0, e0, v0, k0⟩ := pop_o vf hst hb
  have x0 := vx.mono k0 Agr.refl (tS1 t)
  have r0 := vr.mono k0 Agr.refl (tS6 t)
  obtain ⟨g1, e1, v1, k1⟩ := pop_o v0 rfl hb
  have x1 := x0.mono k1 Agr.refl (tS1 t)
  have r1 := r0.mono k1 Agr.refl (tS6 t)
  have hg0 : g0.get g.n = some (.cells [.int .i32 k.sign, .int .i64 k.n, .int .i32 k.name] 0) := by rw [k0.2 g.n (by omega) (by rw [ho]; exact tS0 t)]; exact hg
  have hg1 : g1.get g.n = some (.cells [.int .i32 k.sign, .int .i64 k.n, .int .i32 k.name] 0) := by rw [k1.2 g.n (by have := k0.1; omega) (by rw [ho]; exact tS0 t)]; exact hg0
  have e2 := do_ok (bar := bar) (g := g1) k.sign a c
  obtain ⟨g2, e3, x2, k2, n2⟩ := stop_ok x1 hb ((doN k.sign a c).2 == 0) (doN k.sign a c).2
  have v2 := v1.mono k2 Agr.refl (by omega) (by omega)
  have r2 := r1.mono k2 Agr.refl (by omega)
  obtain ⟨g3, own3, e4, v3, k3, a3⟩ := push_o v2 hb (by have := k0.1; have := k1.1; have := k2.1; omega) (by simp at hsm ⊢; omega) (doN k.sign a c).1
  have x3 := x2.mono k3 a3 (tS1 t)
  have r3 := r2.mono k3 a3 (tS6 t)
  have hkp : Kp (ext own g.n 0) (tP t) (tokH g k) g3 := (k0.le fun k h => tS_P h).trans Agr.refl ((k1.le fun k h => tS_P h).trans Agr.refl ((k2.le fun k h => .inl h).trans Agr.refl (k3.le fun k h => tS_P h)))
  obtain ⟨q1, q2, q3, q4, q5, q6, q7⟩ := hk
  obtain ⟨sg, hsg⟩ : ∃ sg, sg = k.sign := ⟨_, rfl⟩
  rw [← hsg] at q1 q2 q3 q4 q5 q6 q7 hg0 hg1 e2 e3 e4
  have p1 : (sg == 46) = false := by simpa using q1
  have p2 : (sg == 44) = false := by simpa using q2
  have p3 : (sg == 59) = false := by simpa using q3
  have p4 : (sg == 91) = false := by simpa using q4
  have p5 : (sg == 161) = false := by simpa using q5
  have p6 : (sg == 960) = false := by simpa using q6
  have p7 : (sg == 33) = false := by simpa using q7
  obtain ⟨x, g9, hcall, rfl, rfl⟩ := callF_K (o := call tb prim) (F := f_engine_runner_plain) (bar := bar) (h := g) (args := [.ptr C.X 0, .ptr id 0, tokA k]) (P := fun x g9 => x = .tup [] ∧ g9 = g3) rfl rfl (fun K hK => by
    simp [f_engine_runner_plain, env0, go_sem, get_alloc, n_alloc, get_set, n_set, get_kill, n_kill, writeAt, a11, a21, a31, a41, a51, a61, a71, isNil, tokA]
    rw [show (g.alloc (.cells [.int .i32 k.sign, .int .i64 k.n, .int .i32 k.name] 0)) = tokH g k from rfl]
    rw [← hsg]
    simp [go_sem, get_alloc, n_alloc, get_set, n_set, get_kill, n_kill, writeAt, a11, a21, a31, a41, a51, a61, a71, isNil, p1, p2, p3, p4, p5, p6, p7, e0, hg0, e1, e2]
    refine ⟨sees_of rfl ?_, ?_⟩
    · simp [-getElem?_pos, R_nil, R_cons, RS_some, sameV_some, seesQ_some, List.take, List.take_succ_cons, List.take_zero, go_sem, get_alloc, n_alloc, get_set, n_set, get_kill, n_kill, writeAt, a11, a21, a31, a41, a51, a61, a71, isNil, hg0, hg1, e1, e2, List.getElem?_cons_zero, List.getElem?_cons_succ]
    simp [go_sem, get_alloc, n_alloc, get_set, n_set, get_kill, n_kill, writeAt, a11, a21, a31, a41, a51, a61, a71, isNil, e0, e1, e2, e3, e4]
    simp [go_sem, endP, endI, resultsA, resultA, freezeL, freezeV, AV.free.freeL, AV.free, packA, dropS]
    exact ⟨_, _, ⟨rfl, rfl⟩, hK _ _ ⟨rfl, rfl⟩⟩)
  exact ⟨_, own3, call_of tb_engine_runner_plain hcall, v3, x3, r3, hkp, Agr.trans Agr.refl a3 (by have := k0.1; have := k1.1; have := k2.1; omega)⟩
theorem plain_ask {k : Tok} {a : Int} {st : List Int} (vx : XO g b own C tr val ids) (vf : FrO g b own t f id) (vr : RowO g b own C.R r) (hb : bar ≤ b) (hbg : b ≤ g.n) (hst : f.st = a :: st) (hsr : r.asks.length < 2000000) (hk : k.sign = 960) :
    PlainR bar b g own C val ids t f id k (some ((askR r k.name a).2.1 :: st, (askR r k.name a).1, trapIf (askR r k.name a).2.2 7 tr)) := by
  have hsm := vf.sm
  rw [hst] at hsm
  refine plain_in vx vf vr fun vx vf vr hn ho hg st0 r0 tr0 h => ?_
  cases h
  obtain ⟨g1, e1, v1, k1⟩ := pop_o vf hst hb
  have x1 := vx.mono k1 Agr.refl (tS1 t)
  have r1 := vr.mono k1 Agr.refl (tS6 t)
  have hg1 : g1.get g.n = some (.cells [.int .i32 k.sign, .int .i64 k.n, .int .i32 k.name] 0) := by rw [k1.2 g.n (by omega) (by rw [ho]; exact tS0 t)]; exact hg
  obtain ⟨⟨la, aa, hrv, hla, haa⟩, hoR⟩ := r1
  obtain ⟨g2, la', aa', e2, hrv', hlat, haat, hn2, hk2⟩ := ask_ok (bar := bar) hrv hb (by have := k1.1; omega) hsr k.name a
  have k2 : Kp (ext own g.n 0) (fun k => k = 6 ∨ k = 8) g1 g2 := ⟨hn2, fun j hj hs => hk2 j hj (fun q => hs (.inl (by rw [q]; exact hoR))) (fun q => hs (.inr (haa j q)))⟩
  have a2 : Agr g1.n (ext own g.n 0) (ext (ext own g.n 0) g1.n 8) := Agr.ext
  have r2 : RowO g2 b (ext (ext own g.n 0) g1.n 8) C.R (askR r k.name a).1 := ⟨⟨la', aa', hrv', fun j hj => by rw [a2 j (hrv.l.at_lt' (hlat j hj))]; exact hla j (hlat j hj), fun j hj => by have := haat j hj; simp only [ext]; rw [if_neg (by omega)]⟩, by rw [a2 _ hrv.lt]; exact hoR⟩
  have v2 := v1.mono k2 a2 (by omega) (by omega)
  have x2 := x1.mono k2 a2 (by omega)
  obtain ⟨g3, e3, x3, k3, n3⟩ := stop_ok x2 hb (askR r k.name a).2.2 7
  have v3 := v2.mono k3 Agr.refl (by omega) (by omega)
  have r3 := r2.mono k3 Agr.refl (by omega)
  obtain ⟨g4, own4, e4, v4, k4, a4⟩ := push_o v3 hb (by have := k1.1; have := k2.1; have := k3.1; omega) (by simp at hsm ⊢; omega) (askR r k.name a).2.1
  have x4 := x3.mono k4 a4 (tS1 t)
  have r4 := r3.mono k4 a4 (tS6 t)
  have hkp : Kp (ext own g.n 0) (tP t) (tokH g k) g4 := (k1.le fun k h => tS_P h).trans Agr.refl ((k2.le fun k h => by unfold tP; omega).trans a2 ((k3.le fun k h => .inl h).trans Agr.refl (k4.le fun k h => tS_P h)))
  obtain ⟨cs, c1, _, c2⟩ := vx.cell4
  obtain ⟨cs', c1', _, c2'⟩ := x1.cell4
  obtain ⟨x, g9, hcall, rfl, rfl⟩ := callF_K (o := call tb prim) (F := f_engine_runner_plain) (bar := bar) (h := g) (args := [.ptr C.X 0, .ptr id 0, tokA k]) (P := fun x g9 => x = .tup [] ∧ g9 = g4) rfl rfl (fun K hK => by
    simp [f_engine_runner_plain, env0, go_sem, get_alloc, n_alloc, get_set, n_set, get_kill, n_kill, writeAt, a11, a21, a31, a41, a51, a61, a71, isNil, tokA]
    rw [show (g.alloc (.cells [.int .i32 k.sign, .int .i64 k.n, .int .i32 k.name] 0)) = tokH g k from rfl]
    rw [hk]
    simp [go_sem, get_alloc, n_alloc, get_set, n_set, get_kill, n_kill, writeAt, a11, a21, a31, a41, a51, a61, a71, isNil, c1, c2, hg, e1, e2]
    refine ⟨⟨sees_of rfl ?_, sees_of rfl ?_⟩, ?_⟩
    · simp [-getElem?_pos, R_nil, R_cons, RS_some, sameV_some, seesQ_some, List.take, List.take_succ_cons, List.take_zero, go_sem, get_alloc, n_alloc, get_set, n_set, get_kill, n_kill, writeAt, a11, a21, a31, a41, a51, a61, a71, isNil, c1, c2, c1', c2', hg, hg1, e1, e2, List.getElem?_cons_zero, List.getElem?_cons_succ]
    · simp [-getElem?_pos, R_nil, R_cons, RS_some, sameV_some, seesQ_some, List.take, List.take_succ_cons, List.take_zero, go_sem, get_alloc, n_alloc, get_set, n_set, get_kill, n_kill, writeAt, a11, a21, a31, a41, a51, a61, a71, isNil, c1, c2, c1', c2', hg, hg1, e1, e2, List.getElem?_cons_zero, List.getElem?_cons_succ]
    simp [go_sem, get_alloc, n_alloc, get_set, n_set, get_kill, n_kill, writeAt, a11, a21, a31, a41, a51, a61, a71, isNil, e1, e2, e3, e4]
    simp [go_sem, endP, endI, resultsA, resultA, freezeL, freezeV, AV.free.freeL, AV.free, packA, dropS]
    exact ⟨_, _, ⟨rfl, rfl⟩, hK _ _ ⟨rfl, rfl⟩⟩)
  exact ⟨_, own4, call_of tb_engine_runner_plain hcall, v4, x4, r4, hkp, Agr.trans (Agr.trans Agr.refl a2 (by have := k1.1; omega)) a4 (by have := k1.1; have := k2.1; have := k3.1; omega)⟩
end
end Go.Ev
set_option linter.unusedSectionVars false
namespace Go.Ev
open Go
theorem fillF (la ta : AV) (a : Int) (h1 : la.one = true) (h2 : ta.one = true) : fillA [.nilsl, .nilsl, .int .i64 0, .int .i64 0, .int .i64 0, .int .i64 0, .int .i64 0, .int .i64 0, .int .i64 0, .int .i64 0, .int .i64 0, .int .i64 0, .int .i64 0, .int .i64 0, .int .i64 0, .int .i64 0, .int .i64 0, .int .i64 0, .int .i64 0, .int .i64 0, .int .i64 0, .int .i64 0, .int .i64 0, .int .i64 0, .int .i64 0, .int .i64 0, .int .i64 0, .int .i64 0, .int .i64 0, .int .i64 0, .nilsl] [(0, 3, .agg [la, ta, .int .i64 a])] = some (frC la ta a 0 (List.replicate 26 0) .nilsl) := by
  have : (AV.cells (.agg [la, ta, .int .i64 a])).length = 3 ∧ 0 + 3 ≤ ([.nilsl, .nilsl, .int .i64 0, .int .i64 0, .int .i64 0, .int .i64 0, .int .i64 0, .int .i64 0, .int .i64 0, .int .i64 0, .int .i64 0, .int .i64 0, .int .i64 0, .int .i64 0, .int .i64 0, .int .i64 0, .int .i64 0, .int .i64 0, .int .i64 0, .int .i64 0, .int .i64 0, .int .i64 0, .int .i64 0, .int .i64 0, .int .i64 0, .int .i64 0, .int .i64 0, .int .i64 0, .int .i64 0, .int .i64 0, .nilsl] : List AV).length ∧ (AV.cells (.agg [la, ta, .int .i64 a])).all AV.one = true := ⟨rfl, by simp, by
    show (la.one && (ta.one && (true && true))) = true
    rw [h1, h2]; rfl⟩
  simp only [fillA]
  rw [if_pos this]
  rfl
theorem frC_args {la ta sa : AV} {a : Int} {p : Nat} {l : List Int} (h : l.length ≤ 26) : splice (frC la ta a p (List.replicate 26 0) sa) 4 (l.map (AV.int .i64)) = frC la ta a p (l ++ List.replicate (26 - l.length) 0) sa := by
  unfold splice frC
  simp only [List.take_succ_cons, List.take_zero, List.length_map]
  have : (la :: ta :: AV.int .i64 a :: AV.int .i64 p :: ((List.replicate 26 0).map (AV.int .i64) ++ [sa])).drop (4 + l.length) = (List.replicate (26 - l.length) 0).map (AV.int .i64) ++ [sa] := by
    rw [show 4 + l.length = l.length + 1 + 1 + 1 + 1 by omega]
    simp only [List.drop_succ_cons]
    rw [List.drop_append_of_le_length (by simp; omega), List.map_replicate, List.map_replicate, List.drop_replicate]
  rw [this]; simp
theorem all_one_int (l : List Int) : (l.map (AV.int .i64)).all AV.one = true := by
  rw [List.all_eq_true]; intro x hx; rw [List.mem_map] at hx; obtain ⟨y, _, rfl⟩ := hx; rfl
theorem frC_one {la ta sa : AV} {a : Int} {p : Nat} {l : List Int} (h1 : la.one = true) (h2 : ta.one = true) (h3 : sa.one = true) : (frC la ta a p l sa).all AV.one = true := by
  show (la.one && (ta.one && (true && (true && (l.map (AV.int .i64) ++ [sa]).all AV.one)))) = true
  rw [List.all_append, all_one_int, h1, h2]
  show (true && (true && (true && (true && (true && (sa.one && true)))))) = true
  rw [h3]; rfl
theorem FzV.one {k : Nat} {a : AV} {n : Nat} {cs : List AV} (v : FzV k a n cs) : a.one = true := by
  obtain ⟨h1, h2, ⟨rfl, _⟩ | ⟨f, rfl⟩⟩ := v <;> rfl
theorem xC_len (C : Cx) (fra : AV) (tr val : Int) : (xC C fra tr val).length = 9 := rfl
section
variable {bar b : Nat} {g : H} {own : Nat → Nat} {C : Cx} {tr val : Int} {ids : List Nat}
/-- A row of the codes. -/
theorem row_get (cx : CxV g own C) {k : Nat} {x : AV × AV × Code'} (hx : C.rows[k]? = some x) : ∃ cs full, C.ca = .fz 3 C.rows.length cs full ∧ (cs.length = C.rows.length * 3) = True ∧ k < C.rows.length ∧ k * 3 + 3 ≤ cs.length ∧ (cs.drop (k * 3)).take 3 = [x.1, x.2.1, .int .i64 x.2.2.args] ∧ cs[k * 3 + 2]? = some (.int .i64 x.2.2.args) := by
  have hlt := (List.getElem?_eq_some_iff.mp hx).1
  obtain ⟨h1, h2, ⟨_, e⟩ | ⟨full, e⟩⟩ := cx.ca
  · omega
  · exact ⟨_, full, e, by simpa using h1, hlt, by rw [h1]; omega, flat_row (c := cdC) (k := 3) (fun _ => rfl) C.rows k x hx, flat_get (c := cdC) (k := 3) (fun _ => rfl) C.rows k 2 x (by omega) hx⟩
theorem call_ok' (vx : XO g b own C tr val ids) (cx : CxV g own C) (hb : bar ≤ b) (hbg : b ≤ g.n) {k : Nat} {x : AV × AV × Code'} (hx : C.rows[k]? = some x) {aa : AV} {args : List Int} (hv : Vw 1 g aa args.length (args.map (AV.int .i64))) (hl : args.length ≤ 26) (hids : ids.length < 1000) :
    ∃ g' own', call tb prim n_engine_runner_call [.ptr C.X 0, .int .i64 k, aa] bar g = some (.tup [], g') ∧ XO g' b own' C tr val (g.n :: ids) ∧ FrO g' b own' ids.length (newF x.2.2 args) g.n ∧ Kp own (fun k => k = 1 ∨ k = 2) g g' ∧ Agr g.n own own' := by
  obtain ⟨⟨fra, h1, h2, h3⟩, hoX, hbX, hlX, hs⟩ := vx
  obtain ⟨cs, full, hca, hcl, hkl, hk3, hrow, _⟩ := row_get cx hx
  obtain ⟨hcd, ha0, ha1⟩ := cx.cd x (List.mem_of_getElem? hx)
  have ho1 : x.1.one = true := hcd.1.1.one
  have ho2 : x.2.1.one = true := hcd.1.2.one
  have hnf : newF x.2.2 args = ⟨x.2.2, 0, args ++ List.replicate (26 - args.length) 0, []⟩ := by
    unfold newF; rw [List.take_of_length_le hl]
  -- the frame
  obtain ⟨g1, hg1⟩ : ∃ g1, g1 = g.alloc (.cells (frC x.1 x.2.1 x.2.2.args 0 (List.replicate 26 0) .nilsl) 0) := ⟨_, rfl⟩
  obtain ⟨g2, hg2⟩ : ∃ g2, g2 = g1.set g.n (.cells (frC x.1 x.2.1 x.2.2.args 0 (args ++ List.replicate (26 - args.length) 0) .nilsl) 0) := ⟨_, rfl⟩
  have n1 : g1.n = g.n + 1 := by rw [hg1]; simp [n_alloc]
  have n2 : g2.n = g.n + 1 := by rw [hg2, n_set]; exact n1
  have k2 : ∀ j, j < g.n → g2.get j = g.get j := fun j hj => by rw [hg2, get_set_ne (by omega), hg1, get_alloc, if_neg (by omega)]
  have gF1 : g1.get g.n = some (.cells (frC x.1 x.2.1 x.2.2.args 0 (List.replicate 26 0) .nilsl) 0) := by rw [hg1, get_alloc, if_pos rfl]
  have gF2 : g2.get g.n = some (.cells (frC x.1 x.2.1 x.2.2.args 0 (args ++ List.replicate (26 - args.length) 0) .nilsl) 0) := by rw [hg2, get_set, if_pos rfl]
  have gX2 : g2.get C.X = some (.cells (xC C fra tr val) 0) := by rw [k2 _ hlX]; exact h1
  have o2 : OW 1 g2 bar fra ids.length (ids.reverse.map fun i => .ptr i 0) := (h2.mono (by omega) (fun j hj => k2 j (h2.at_lt hj).2)).bar_le hb
  obtain ⟨g3, e3, o3, n3, f3⟩ := o2.app (by omega) 8 [.ptr g.n 0] rfl rfl (by omega) (by omega) (by omega)
  obtain ⟨g4, hg4⟩ : ∃ g4, g4 = g3.set C.X (.cells (xC C (.sl (g2.n + 1) 0 1 (ids.length + 1) false) tr val) 0) := ⟨_, rfl⟩
  have hXn : ¬ fra.isAt C.X := fun q => by have := h3 _ q; omega
  have gX3 : g3.get C.X = some (.cells (xC C fra tr val) 0) := by rw [f3 _ (by omega) hXn]; exact gX2
  have hFn : ¬ fra.isAt g.n := fun q => by have := (h2.at_lt q).2; omega
  have gF3 : g3.get g.n = some (.cells (frC x.1 x.2.1 x.2.2.args 0 (args ++ List.replicate (26 - args.length) 0) .nilsl) 0) := by rw [f3 _ (by omega) hFn]; exact gF2
  have n4 : g4.n = g.n + 3 := by rw [hg4, n_set]; omega
  have gF4 : g4.get g.n = some (.cells (frC x.1 x.2.1 x.2.2.args 0 (args ++ List.replicate (26 - args.length) 0) .nilsl) 0) := by rw [hg4, get_set_ne (by omega)]; exact gF3
  obtain ⟨own', hown⟩ : ∃ own', own' = ext (ext own g.n (2 * ids.length + 10)) (g.n + 1) 2 := ⟨_, rfl⟩
  have hag : Agr g.n own own' := by rw [hown]; exact Agr.trans Agr.ext Agr.ext (by omega)
  have hoF : own' g.n = 2 * ids.length + 10 := by rw [hown]; simp [ext]
  have ho3 : ∀ j, g.n + 1 ≤ j → own' j = 2 := fun j hj => by rw [hown]; simp only [ext]; rw [if_neg (by omega)]
  have hXO : XO g4 b own' C tr val (g.n :: ids) := by
    refine ⟨⟨.sl (g2.n + 1) 0 1 (ids.length + 1) false, by rw [hg4, get_set, if_pos rfl], ?_, fun j hj => by cases hj; exact ho3 _ (by omega)⟩, by rw [hag _ hlX]; exact hoX, hbX, by omega, by simp; omega⟩
    have := (o3.up (b := b) (fun j hj => by cases hj; omega)).mono (h' := g4) (by omega) (fun j hj => by cases hj; rw [hg4, get_set_ne (by omega)])
    simpa using this
  have hFO : FrO g4 b own' ids.length (newF x.2.2 args) g.n := by
    rw [hnf]
    exact ⟨⟨x.1, x.2.1, .nilsl, ⟨gF4, hbg, by omega, by simp; omega, OW.nil, fun h => h, by simp, by simp⟩, fun j hj => hj.elim, hcd⟩, hoF⟩
  have hkp : Kp own (fun k => k = 1 ∨ k = 2) g g4 := ⟨by omega, fun j hj hs => by
    rw [hg4, get_set_ne (fun q => hs (.inl (by rw [q]; exact hoX))), f3 j (by omega) (fun q => hs (.inr (h3 j q)))]; exact k2 j hj⟩
  have hsrc : source 1 g1 aa = some (args.length, args.map (AV.int .i64)) := vw_source (hv.keep (by omega) (fun j hj => by rw [hg1, get_alloc, if_neg (by have := hv.at_lt' hj; omega)]))
  have hsp4 : splice (frC x.1 x.2.1 x.2.2.args 0 (List.replicate 26 0) .nilsl) 4 ((args.map (AV.int .i64)).take (min args.length 26 * 1)) = frC x.1 x.2.1 x.2.2.args 0 (args ++ List.replicate (26 - args.length) 0) .nilsl := by
    rw [List.take_of_length_le (by simp; omega)]; exact frC_args hl
  have hcpy : cpyA bar 1 g1 (.sl g.n 4 1 26 true) args.length (args.map (AV.int .i64)) = some (goI (min args.length 26 : Nat), g2) := by
    have hbn : bar ≤ g.n := by omega
    have hle : 4 + ((args.map (AV.int .i64)).take (min args.length 26 * 1)).length ≤ (frC x.1 x.2.1 x.2.2.args 0 (List.replicate 26 0) .nilsl).length := by
      rw [frC_len (by simp)]; simp; omega
    have hone : ((args.map (AV.int .i64)).take (min args.length 26 * 1)).all AV.one = true := by
      have := all_one_int args
      rw [List.all_eq_true] at this ⊢
      exact fun y hy => this y (List.mem_of_mem_take hy)
    simp only [cpyA, if_true]
    unfold writeAt
    rw [gF1]
    simp only
    rw [if_pos ⟨hbn, hle, by omega, hone⟩, hsp4, hg2]
    rfl
  have hle31 : 4 + 26 * 1 ≤ (frC x.1 x.2.1 x.2.2.args 0 (List.replicate 26 0) .nilsl).length := by rw [frC_len (by simp)]; omega
  have hfone : (frC x.1 x.2.1 x.2.2.args 0 (List.replicate 26 0) .nilsl).all AV.one = true := frC_one ho1 ho2 rfl
  have hX6 : splice (xC C fra tr val) 6 [.sl (g2.n + 1) 0 1 (ids.length + 1) false] = xC C (.sl (g2.n + 1) 0 1 (ids.length + 1) false) tr val := rfl
  have hX3 : (xC C fra tr val)[3]? = some C.ca := rfl
  have hX6' : (xC C fra tr val)[6]? = some fra := rfl
  have hXl : 6 + 1 ≤ (xC C fra tr val).length := by simp [xC]
  have hbx : bar ≤ C.X := Nat.le_trans hb hbX
  have hfr1 : fra.one = true := h2.one
  rw [hca] at hX3
  obtain ⟨xc, hxc⟩ : ∃ xc, xc = xC C fra tr val := ⟨_, rfl⟩
  obtain ⟨f0, hf0⟩ : ∃ f0, f0 = frC x.1 x.2.1 x.2.2.args 0 (List.replicate 26 0) .nilsl := ⟨_, rfl⟩
  have hfill := fillF x.1 x.2.1 x.2.2.args ho1 ho2
  rw [← hf0] at hg1 gF1 hle31 hfone hfill
  rw [← hxc] at h1 gX2 gX3 hX6 hX3 hX6' hXl
  have hix : indexIn (.int .i64 (k : Int)) C.rows.length = some k := by simp only [indexIn]; rw [if_pos (by omega), Int.toNat_natCast]
  have gX1 : g1.get C.X = some (.cells xc 0) := by rw [hg1, get_alloc, if_neg (by omega)]; exact h1
  obtain ⟨y, g9, hcall, rfl, rfl⟩ := callF_K (o := call tb prim) (F := f_engine_runner_call) (bar := bar) (h := g) (args := [.ptr C.X 0, .int .i64 k, aa]) (P := fun y g9 => y = .tup [] ∧ g9 = g4) rfl rfl (fun K hK => by
    simp [f_engine_runner_call, env0, go_sem, isNil, h1, hX3, hcl, hix, hk3, hrow, evParts, hfill, hfone, AV.cells]
    rw [← hg1]
    simp [go_sem, isNil, optEv, optBound, evParts, gF1, hle31, hcpy, hsrc, gX2, hX6', fillA, sp10]
    rw [e3]
    simp [go_sem, get_alloc, n_alloc, get_set, n_set, get_kill, n_kill, writeAt, a11, a21, a31, a41, a51, a61, a71, isNil, gX3, hX6, hXl, hbx]
    rw [← hg4]
    simp [go_sem, endP, endI, resultsA, resultA, freezeL, freezeV, AV.free.freeL, AV.free, packA, dropS]
    exact ⟨_, _, ⟨rfl, rfl⟩, hK _ _ ⟨rfl, rfl⟩⟩)
  exact ⟨_, own', call_of tb_engine_runner_call hcall, hXO, hFO, hkp, hag⟩
end
end Go.Ev
set_option linter.unusedSectionVars false
namespace Go.Ev
open Go
def tC (t : Nat) : Nat → Prop := fun k => k = 1 ∨ k = 2 ∨ tS t k
theorem argsOf_len {a : Nat} {st : List Int} (h : a ≤ st.length) : (argsOf a st).length = a := by simp [argsOf, h]
/-- A stack's last ones; those ahead of them. -/
theorem OW.split {g : H} {b : Nat} {sa : AV} {st : List Int} (v : OW 1 g b sa st.length (stC st)) {a : Nat} (ha : a ≤ st.length) (hs : st.length ≤ 3000000) :
    ∃ aa sa', sliceA 1 sa (some (.int .i64 ((st.length - a : Nat) : Int))) none none = some aa ∧ sliceA 1 sa none (some (.int .i64 ((st.length - a : Nat) : Int))) none = some sa' ∧ (∀ j, sa'.isAt j → sa.isAt j) ∧ Vw 1 g aa a ((argsOf a st).map (AV.int .i64)) ∧ sa'.one = true ∧ (∀ j, aa.isAt j → sa.isAt j) ∧
    (∀ g' : H, g.n ≤ g'.n → (∀ j, sa.isAt j → g'.get j = g.get j) → OW 1 g' b sa' (st.length - a) (stC (st.drop a))) := by
  by_cases hz : st.length = 0
  · have : st = [] := List.length_eq_zero_iff.mp hz
    subst this
    have ha0 : a = 0 := by simpa using ha
    subst ha0
    obtain ⟨_, _, ⟨rfl, _⟩ | ⟨id, rest, full, rfl, h1, h2, h3⟩⟩ := v
    · exact ⟨.nilsl, .nilsl, rfl, rfl, fun j hj => hj, ⟨rfl, by omega, .inl ⟨rfl, rfl⟩⟩, rfl, fun j hj => hj, fun g' _ _ => OW.nil⟩
    · refine ⟨.sl id 0 1 0 full, .sl id 0 1 0 full, by simp [sliceA, optBound, bound], by simp [sliceA, optBound, bound], fun j hj => hj, ⟨rfl, by omega, .inr (.inr ⟨id, 0, full, _, 0, rfl, h2, h3, by simp, by simp [argsOf]⟩)⟩, rfl, fun j hj => hj, fun g' hn hg => ⟨rfl, rfl, .inr ⟨id, rest, full, rfl, h1, by omega, by rw [hg id rfl]; exact h3⟩⟩⟩
  · obtain ⟨sid, all, full, rfl, hbs, hsl, hgs, hle, htk, hcl, hgi, _, hcut⟩ := v.cases hz
    have hne : st.length - (st.length - a) = a := by omega
    refine ⟨.sl sid (0 + (st.length - a) * 1) 1 (st.length - (st.length - a)) (full && decide (st.length = st.length)), .sl sid 0 1 (st.length - a) (full && decide (st.length - a = st.length)), ?_, ?_, fun j hj => hj, ?_, rfl, fun j hj => hj, fun g' hn hg => ?_⟩
    · have e1 : optBound 0 (some (AV.int .i64 ((st.length - a : Nat) : Int))) = some (st.length - a) := by simp [optBound, bound]
      have e2 : ∀ n, optBound n none = some n := fun _ => rfl
      simp only [sliceA, e1, e2]
      rw [if_pos ⟨trivial, by omega, Nat.le_refl _⟩]
    · have e1 : optBound st.length (some (AV.int .i64 ((st.length - a : Nat) : Int))) = some (st.length - a) := by simp [optBound, bound]
      have e2 : ∀ n, optBound n none = some n := fun _ => rfl
      simp only [sliceA, e1, e2]
      rw [if_pos ⟨trivial, by omega, by omega⟩]
      simp
    · rw [hne]
      refine ⟨by simp [argsOf_len ha], by omega, .inr (.inr ⟨sid, 0 + (st.length - a) * 1, _, all, 0, rfl, hsl, hgs, by omega, ?_⟩)⟩
      have : (argsOf a st).map (AV.int .i64) = (stC st).drop (st.length - a) := by
        unfold stC argsOf; rw [← List.map_drop, List.drop_reverse, hne]
      rw [this, ← htk, List.drop_take]
      congr 1
      · omega
      · congr 1; omega
    · have := hcut g' (st.length - a) (full && decide (st.length - a = st.length)) (by omega) hn (hg sid rfl)
      have e : (stC st).take ((st.length - a) * 1) = stC (st.drop a) := by
        unfold stC; rw [Nat.mul_one, ← List.map_take, List.take_reverse, hne]
      rw [e] at this
      exact this
section
variable {bar b : Nat} {g : H} {own : Nat → Nat} {C : Cx} {tr val : Int} {ids : List Nat} {t : Nat} {f : Fm} {id : Nat}
theorem calls_ok (vx : XO g b own C tr val ids) (cx : CxV g own C) (vf : FrO g b own t f id) (hb : bar ≤ b) (hbg : b ≤ g.n) {nm : Int} {k : Nat} (hk : findN nm C.fs 0 = k) {x : AV × AV × Code'} (hx : C.rows[k]? = some x) {a : Nat} (ha : x.2.2.args = a) (hal : a ≤ f.st.length) (hids : ids.length < 1000) :
    ∃ g' own', call tb prim n_engine_runner_calls [.ptr C.X 0, .ptr id 0, .int .i32 nm] bar g = some (.tup [], g') ∧ FrO g' b own' t { f with st := f.st.drop a } id ∧ Kp own (tC t) g g' ∧ Agr g.n own own' ∧
      ((32 ≤ ids.length ∧ XO g' b own' C 6 val ids) ∨ (ids.length < 32 ∧ ∃ i, XO g' b own' C tr val (i :: ids) ∧ FrO g' b own' ids.length (newF x.2.2 (argsOf a f.st)) i)) := by
  have vx' := vx
  obtain ⟨⟨fra, h1, h2, h3⟩, hoX, hbX, hlX, hs⟩ := vx'
  have vf' := vf
  obtain ⟨⟨la, ta, sa, hv, hsa, hc⟩, ho⟩ := vf'
  have hst := hv.st
  have hsm := hv.small
  obtain ⟨aa, sa', es1, es2, hat, hvw, hone, hat2, hcut⟩ := hst.split hal hsm
  have hl := hv.loc
  have hget := hv.get
  have hbid : bar ≤ id := Nat.le_trans hb hv.bid
  obtain ⟨cs, full, hca, hcl, hkl, hk3, hrow, hk2⟩ := row_get cx hx
  obtain ⟨hcd, ha0, ha1⟩ := cx.cd x (List.mem_of_getElem? hx)
  have eF := check_Find_ok (pr := prim) (bar := bar) (h := g) C.fs C.fa nm C.p C.mo cx.fs
  rw [hk] at eF
  -- the stack is cut
  obtain ⟨g1, hg1⟩ : ∃ g1, g1 = g.set id (.cells (frC la ta f.c.args f.at' f.loc sa') 0) := ⟨_, rfl⟩
  have n1 : g1.n = g.n := by rw [hg1, n_set]
  have k1 : Kp own (tS t) g g1 := ⟨by omega, fun j hj hns => by rw [hg1]; exact get_set_ne (fun q => hns (.inl (by rw [q]; exact ho)))⟩
  have hsne : ∀ j, sa.isAt j → g1.get j = g.get j := fun j hj => by rw [hg1]; exact get_set_ne (fun q => hv.ne (q ▸ hj))
  have v1 : FrO g1 b own t { f with st := f.st.drop a } id := ⟨⟨la, ta, sa', ⟨by rw [hg1]; simp [get_set], hv.bid, by have := hv.lt; omega, hl, by
      have := hcut g1 (by omega) hsne
      show OW 1 g1 b sa' (f.st.drop a).length (stC (f.st.drop a))
      rw [List.length_drop]; exact this, fun q => hv.ne (hat _ q), by show (f.st.drop a).length ≤ _; rw [List.length_drop]; omega, hv.at1⟩, fun j hj => hsa j (hat j hj), hc⟩, ho⟩
  have x1 := vx.mono k1 Agr.refl (tS1 t)
  have c1 := cx.mono k1 Agr.refl (tS0 t)
  have hvw1 : Vw 1 g1 aa a ((argsOf a f.st).map (AV.int .i64)) := hvw.keep (by omega) (fun j hj => hsne j (hat2 j hj))
  -- reads
  have h30 : (frC la ta f.c.args f.at' f.loc sa)[30]? = some sa := frC_30 hl
  have hle30 : 30 + 1 ≤ (frC la ta f.c.args f.at' f.loc sa).length := by rw [frC_len hl]; omega
  have hs30 : ∀ v, splice (frC la ta f.c.args f.at' f.loc sa) 30 [v] = frC la ta f.c.args f.at' f.loc v := fun _ => frC_set30 hl
  have hlenS : lenR (some sa) g = some (goI f.st.length, g) := hst.len g
  have hix : indexIn (.int .i64 (k : Int)) C.rows.length = some k := by simp only [indexIn]; rw [if_pos (by omega), Int.toNat_natCast]
  have hw : IntKind.i64.wrap ((f.st.length : Int) - (a : Int)) = ((f.st.length - a : Nat) : Int) := by rw [w64 (by omega) (by omega)]; omega
  have hX02 : (xC C fra tr val).take 3 = [.int .i64 C.p, .int .i64 C.mo, C.fa] := rfl
  have hX3 : (xC C fra tr val)[3]? = some C.ca := rfl
  have hX6 : (xC C fra tr val)[6]? = some fra := rfl
  have hX7 : splice (xC C fra tr val) 7 [.int .i64 6] = xC C fra 6 val := rfl
  have hXl : (xC C fra tr val).length = 9 := rfl
  have hX0l : 3 ≤ (xC C fra tr val).length := by rw [hXl]; omega
  have hXle : 7 + 1 ≤ (xC C fra tr val).length := by rw [hXl]; omega
  have hlenF : ∀ g', lenR (some fra) g' = some (goI ids.length, g') := fun g' => h2.len g'
  have hbx : bar ≤ C.X := Nat.le_trans hb hbX
  have hXn : ¬ C.X = id := fun q => by rw [q, ho] at hoX; omega
  have g1X : g1.get C.X = some (.cells (xC C fra tr val) 0) := by rw [hg1, get_set_ne hXn]; exact h1
  rw [hca] at hX3
  obtain ⟨xc, hxc⟩ : ∃ xc, xc = xC C fra tr val := ⟨_, rfl⟩
  rw [← hxc] at h1 hX02 hX3 hX6 hX7 hXl hX0l hXle g1X
  obtain ⟨fc, hfc⟩ : ∃ fc, fc = frC la ta f.c.args f.at' f.loc sa := ⟨_, rfl⟩
  rw [← hfc] at hget h30 hle30 hs30
  rw [ha] at hk2
  by_cases hd : 32 ≤ ids.length
  · obtain ⟨g2, hg2⟩ : ∃ g2, g2 = g1.set C.X (.cells (xC C fra 6 val) 0) := ⟨_, rfl⟩
    have k2 : Kp own (fun k => k = 1) g1 g2 := ⟨by rw [hg2, n_set]; exact Nat.le_refl _, fun j hj hsj => by rw [hg2, get_set_ne (fun q => hsj (by rw [q]; exact hoX))]⟩
    have hge : decide ((32 : Int) ≤ (ids.length : Int)) = true := by simpa using (by omega : (32 : Int) ≤ (ids.length : Int))
    obtain ⟨y, g9, hcall, rfl, rfl⟩ := callF_K (o := call tb prim) (F := f_engine_runner_calls) (bar := bar) (h := g) (args := [.ptr C.X 0, .ptr id 0, .int .i32 nm]) (P := fun y g9 => y = .tup [] ∧ g9 = g2) rfl rfl (fun K hK => by
      simp [f_engine_runner_calls, env0, go_sem, get_alloc, n_alloc, get_set, n_set, get_kill, n_kill, writeAt, a11, a21, a31, a41, a51, a61, a71, isNil, h1, hX0l, hX02, eF, hget, h30, hX3, hlenS, goI, hcl, hix, hk2, hw, optEv, es1, es2, hle30, hs30, hbid, hone]
      simp [go_sem, get_alloc, n_alloc, get_set, n_set, get_kill, n_kill, writeAt, a11, a21, a31, a41, a51, a61, a71, isNil, hXn, h1, hX6, hlenF, goI, hge]
      simp [go_sem, get_alloc, n_alloc, get_set, n_set, get_kill, n_kill, writeAt, a11, a21, a31, a41, a51, a61, a71, isNil, hXn, h1, hX7, hXle, hbx]
      rw [← hg1, ← hg2]
      simp [go_sem, endP, endI, resultsA, resultA, freezeL, freezeV, AV.free.freeL, AV.free, packA, dropS]
      exact ⟨_, _, ⟨rfl, rfl⟩, hK _ _ ⟨rfl, rfl⟩⟩)
    refine ⟨_, own, call_of tb_engine_runner_calls hcall, v1.mono k2 Agr.refl (by omega) (by omega), (k1.le fun k h => .inr (.inr h)).trans Agr.refl (k2.le fun k h => .inl h), Agr.refl, .inl ⟨hd, ?_⟩⟩
    exact ⟨⟨fra, by rw [hg2, get_set, if_pos rfl], h2.mono (by rw [hg2, n_set]; omega) (fun j hj => by rw [hg2, get_set_ne (fun q => by have := h3 j hj; rw [q, hoX] at this; omega), hg1, get_set_ne (fun q => by have := h3 j hj; rw [q, ho] at this; omega)]), h3⟩, hoX, hbX, by rw [hg2, n_set, n1]; exact hlX, hs⟩
  · have hge : decide ((32 : Int) ≤ (ids.length : Int)) = false := by simpa using (by omega : ¬ (32 : Int) ≤ (ids.length : Int))
    obtain ⟨g2, own2, e2, x2, f2, k2, a2⟩ := call_ok' (bar := bar) (args := argsOf a f.st) x1 c1 hb (by omega) hx (by rw [argsOf_len hal]; exact hvw1) (by rw [argsOf_len hal]; omega) hids
    obtain ⟨y, g9, hcall, rfl, rfl⟩ := callF_K (o := call tb prim) (F := f_engine_runner_calls) (bar := bar) (h := g) (args := [.ptr C.X 0, .ptr id 0, .int .i32 nm]) (P := fun y g9 => y = .tup [] ∧ g9 = g2) rfl rfl (fun K hK => by
      simp [f_engine_runner_calls, env0, go_sem, get_alloc, n_alloc, get_set, n_set, get_kill, n_kill, writeAt, a11, a21, a31, a41, a51, a61, a71, isNil, h1, hX0l, hX02, eF, hget, h30, hX3, hlenS, goI, hcl, hix, hk2, hw, optEv, es1, es2, hle30, hs30, hbid, hone]
      simp [go_sem, get_alloc, n_alloc, get_set, n_set, get_kill, n_kill, writeAt, a11, a21, a31, a41, a51, a61, a71, isNil, hXn, h1, hX6, hlenF, goI, hge]
      rw [← hg1]
      simp [go_sem, get_alloc, n_alloc, get_set, n_set, get_kill, n_kill, writeAt, a11, a21, a31, a41, a51, a61, a71, isNil, e2]
      simp [go_sem, endP, endI, resultsA, resultA, freezeL, freezeV, AV.free.freeL, AV.free, packA, dropS]
      exact ⟨_, _, ⟨rfl, rfl⟩, hK _ _ ⟨rfl, rfl⟩⟩)
    refine ⟨_, own2, call_of tb_engine_runner_calls hcall, v1.mono k2 a2 (by omega) (by omega), (k1.le fun k h => .inr (.inr h)).trans Agr.refl (k2.le fun k h => by unfold tC; omega), by rw [← n1]; exact a2, .inr ⟨by omega, g1.n, x2, f2⟩⟩
end
end Go.Ev
set_option linter.unusedSectionVars false
namespace Go.Ev
open Go
theorem FzV.len {k : Nat} {a : AV} {n : Nat} {cs : List AV} (v : FzV k a n cs) (g : H) : lenR (some a) g = some (goI n, g) := by
  obtain ⟨_, _, ⟨rfl, rfl⟩ | ⟨full, rfl⟩⟩ := v <;> rfl
theorem Agr.mono {n m : Nat} {own own' : Nat → Nat} (h : Agr n own own') (hm : m ≤ n) : Agr m own own' := fun j hj => h j (by omega)
def totS : List Fm → Nat
  | [] => 0
  | f :: r => f.st.length + totS r
def tE : Nat → Prop := fun k => k = 1 ∨ k = 2 ∨ 10 ≤ k
section
variable {bar b : Nat} {g : H} {own : Nat → Nat} {C : Cx} {tr val : Int} {ids : List Nat} {t : Nat} {f : Fm} {id i : Nat}
theorem XO.top (v : XO g b own C tr val (i :: ids)) : ∃ sid all full, g.get C.X = some (.cells (xC C (.sl sid 0 1 (ids.length + 1) full) tr val) 0) ∧ g.get sid = some (.cells all 0) ∧ all[ids.length]? = some (.ptr i 0) ∧ own sid = 2 ∧ sid < g.n ∧ b ≤ sid ∧
    (∀ (g' : H) (full' : Bool) (val' : Int), g.n ≤ g'.n → g'.get sid = g.get sid → g'.get C.X = some (.cells (xC C (.sl sid 0 1 ids.length full') tr val') 0) → XO g' b own C tr val' ids) := by
  obtain ⟨⟨fra, h1, h2, h3⟩, hoX, hbX, hlX, hs⟩ := v
  obtain ⟨sid, all, full, rfl, hbs, hsl, hgs, hle, htk, hcl, hgi, _, hcut⟩ := h2.cases (by simp)
  refine ⟨sid, all, full, h1, hgs, ?_, h3 sid rfl, hsl, hbs, fun g' full' val' hn hg hX => ⟨⟨_, hX, ?_, fun j hj => by cases hj; exact h3 sid rfl⟩, hoX, hbX, by omega, by simp at hs; omega⟩⟩
  · rw [hgi _ (by simp), List.reverse_cons, List.map_append, List.getElem?_append_right (by simp)]; simp
  · have := hcut g' ids.length full' (by simp) hn hg
    have e : ((i :: ids).reverse.map fun i => AV.ptr i 0).take (ids.length * 1) = ids.reverse.map fun i => AV.ptr i 0 := by
      rw [List.reverse_cons, List.map_append, Nat.mul_one]
      have : (ids.reverse.map fun i => AV.ptr i 0).length = ids.length := by simp
      rw [← this]; exact List.take_left ..
    rw [e] at this
    exact this
theorem ends_loop (C : Cx) (b bar : Nat) (hb : bar ≤ b) (tr val : Int) (Q : Ex → Env → H → Prop) : ∀ (r : List Fm) (f : Fm) (i : Nat) (ids : List Nat) (g : H) (own : Nat → Nat), b ≤ g.n → XO g b own C tr val (i :: ids) → FrsV g b own (f :: r) (i :: ids) →
    (∀ fr, endsM f r = some (fr, none) → ∀ e g' own' j ids', Kp own tE g g' → Agr g.n own own' → XO g' b own' C tr val (j :: ids') → FrsV g' b own' fr (j :: ids') → e.get 2 = some (.bool true) → Q .ret e g') →
    (∀ fr v, endsM f r = some (fr, some v) → ∀ e g' own', fr = [] → Kp own tE g g' → Agr g.n own own' → XO g' b own' C tr v [] → Q (.exit 0) e g') →
    (∃ out, endsM f r = some out) → totS (f :: r) < 3000000 →
    wpL (call tb prim) bar [0] l0_engine_runner_ends [(0, .ptr C.X 0)] g Q
  | r, f, i, ids, g, own, hbg, vx, vf, hA, hB, hE, hT => by
    obtain ⟨sid, all, full, hX, hS, htop, hoS, hlS, hbS, hcut⟩ := vx.top
    have hf := vf.1
    have hr := vf.2
    obtain ⟨⟨la, ta, sa, hv, hsa, hc⟩, ho⟩ := hf
    have hget := hv.get
    have h3 : (frC la ta f.c.args f.at' f.loc sa)[3]? = some (.int .i64 f.at') := frC_3
    have h0 : (frC la ta f.c.args f.at' f.loc sa)[0]? = some la := frC_0
    have hlen : ∀ g, lenR (some la) g = some (goI f.c.l.length, g) := fun g => hc.1.1.len g
    have hsm := vx.sm
    have hw : IntKind.i64.wrap (ids.length : Int) = (ids.length : Nat) := by simp at hsm; exact w64 (by omega) (by omega)
    have hX6 : ∀ fra, (xC C fra tr val)[6]? = some fra := fun _ => rfl
    have hltI : (ids.length : Int) < (ids.length : Int) + 1 := by omega
    obtain ⟨xc, hxc⟩ : ∃ xc, xc = xC C (.sl sid 0 1 (ids.length + 1) full) tr val := ⟨_, rfl⟩
    have hx6 : xc[6]? = some (.sl sid 0 1 (ids.length + 1) full) := by rw [hxc]; rfl
    rw [← hxc] at hX
    obtain ⟨fc, hfc⟩ : ∃ fc, fc = frC la ta f.c.args f.at' f.loc sa := ⟨_, rfl⟩
    rw [← hfc] at hget h3 h0
    refine M_loop l0_engine_runner_ends.eq_1 ?_
    by_cases hlt : f.at' < f.c.l.length
    · have hlt' : (f.at' : Int) < (f.c.l.length : Int) := by omega
      simp [go_sem, get_alloc, n_alloc, get_set, n_set, get_kill, n_kill, writeAt, a11, a21, a31, a41, a51, a61, a71, isNil, hX, hx6, hw, hltI, indexIn, hS, htop, hget, h3, h0, hlen, goI, hlt']
      exact hA (f :: r) (by unfold endsM; rw [if_pos hlt]) _ _ own i ids Kp.refl Agr.refl (by rw [hxc] at hX; exact vx) vf rfl
    · have hlt' : ¬ (f.at' : Int) < (f.c.l.length : Int) := by omega
      obtain ⟨v, st', hst⟩ : ∃ v st', f.st = v :: st' := by
        obtain ⟨out, ho⟩ := hE
        unfold endsM at ho
        rw [if_neg hlt] at ho
        cases hs : f.st with
        | nil => rw [hs] at ho; cases ho
        | cons v st' => exact ⟨v, st', rfl⟩
      obtain ⟨g1, e1, v1, k1⟩ := pop_o vf.1 hst hb
      have x1 := vx.mono k1 Agr.refl (tS1 _)
      have r1 := FrsV.mono k1 Agr.refl hr (fun t ht => by unfold tS; omega)
      have hXg1 : g1.get C.X = some (.cells xc 0) := by rw [k1.2 _ vx.lt (by rw [vx.own]; exact (tS1 _).1)]; exact hX
      have hSg1 : g1.get sid = some (.cells all 0) := by rw [k1.2 _ hlS (by rw [hoS]; exact (tS1 _).2)]; exact hS
      have hsl : ∀ g : H, sliceA 1 (.sl sid 0 1 (ids.length + 1) full) none (some (.int .i64 (ids.length : Nat))) none = some (.sl sid 0 1 ids.length (full && decide (ids.length = ids.length + 1))) := fun _ => by
        simp [sliceA, optBound, bound]
      have hsl2 := hsl g1
      obtain ⟨fl, hfl⟩ : ∃ fl, fl = (full && decide (ids.length = ids.length + 1)) := ⟨_, rfl⟩
      rw [← hfl] at hsl2
      obtain ⟨xd, hxd⟩ : ∃ xd, xd = xC C (.sl sid 0 1 ids.length fl) tr val := ⟨_, rfl⟩
      have hsp : splice xc 6 [.sl sid 0 1 ids.length fl] = xd := by rw [hxc, hxd]; rfl
      have hle : 6 + 1 ≤ xc.length := by rw [hxc]; simp [xC]
      have hbx : bar ≤ C.X := Nat.le_trans hb vx.bX
      obtain ⟨g2, hg2⟩ : ∃ g2, g2 = g1.set C.X (.cells xd 0) := ⟨_, rfl⟩
      have n2 : g2.n = g1.n := by rw [hg2, n_set]
      have k2 : Kp own (fun k => k = 1) g1 g2 := ⟨by omega, fun j hj hs => by rw [hg2, get_set_ne (fun q => hs (by rw [q]; exact vx.own))]⟩
      have hSX : sid ≠ C.X := fun q => by have := vx.own; rw [← q, hoS] at this; omega
      have hX2 : g2.get C.X = some (.cells xd 0) := by rw [hg2, get_set, if_pos rfl]
      have hS2 : g2.get sid = some (.cells all 0) := by rw [hg2, get_set_ne hSX]; exact hSg1
      have x2 : XO g2 b own C tr val ids := hcut g2 fl val (by have := k1.1; omega) (by rw [hS2, hS]) (by rw [hX2, hxd])
      have r2 := FrsV.mono k2 Agr.refl r1 (fun t ht => by omega)
      have k12 : Kp own tE g g2 := (k1.le fun k h => by unfold tS at h; unfold tE; omega).trans Agr.refl (k2.le fun k h => .inl h)
      have hxd6 : xd[6]? = some (.sl sid 0 1 ids.length fl) := by rw [hxd]; rfl
      obtain ⟨n, hn⟩ : ∃ n, n = ids.length := ⟨_, rfl⟩
      rw [← hn] at hw hltI htop hsl2 hsp hxd6 hx6
      simp [go_sem, get_alloc, n_alloc, get_set, n_set, get_kill, n_kill, writeAt, a11, a21, a31, a41, a51, a61, a71, isNil, hX, hx6, hw, hltI, indexIn, hS, htop, hget, h3, h0, hlen, goI, hlt', e1, hXg1, hSg1, optEv, hsl2, hsp, hle, hbx]
      rw [← hg2]
      cases r with
      | nil =>
        cases ids with
        | cons j l => exact hr.elim
        | nil =>
          obtain ⟨g3, hg3⟩ : ∃ g3, g3 = g2.set C.X (.cells (xC C (.sl sid 0 1 n fl) tr v) 0) := ⟨_, rfl⟩
          have hsp8 : splice xd 8 [.int .i64 v] = xC C (.sl sid 0 1 n fl) tr v := by rw [hxd, hn]; rfl
          have hle8 : 8 + 1 ≤ xd.length := by rw [hxd]; simp [xC]
          have hn0 : n = 0 := hn
          have hz : ((n : Int) == 0) = true := by rw [hn0]; rfl
          simp [go_sem, get_alloc, n_alloc, get_set, n_set, get_kill, n_kill, writeAt, a11, a21, a31, a41, a51, a61, a71, isNil, hX2, hxd6, hz, hsp8, hle8, hbx, goI]
          rw [← hg3]
          refine hB [] v (by unfold endsM; rw [if_neg hlt, hst]) _ g3 own rfl (k12.trans Agr.refl ⟨by rw [hg3, n_set]; exact Nat.le_refl _, fun j hj hs => by rw [hg3, get_set_ne (fun q => hs (.inl (by rw [q]; exact vx.own)))]⟩) Agr.refl ?_
          exact hcut g3 fl v (by have := k1.1; rw [hg3, n_set]; omega) (by rw [hg3, get_set_ne hSX, hS2, hS]) (by rw [hg3, get_set, if_pos rfl, hn])
      | cons f2 r2' =>
        cases ids with
        | nil => exact hr.elim
        | cons j l =>
          have hn0 : n = l.length + 1 := hn
          have hz : ((n : Int) == 0) = false := by rw [hn0]; simp; omega
          obtain ⟨g3, own3, e3, v3, k3, a3⟩ := push_o r2.1 hb (by have := k1.1; omega) (by simp only [totS, hst, List.length_cons] at hT; omega) v
          have x3 := x2.mono k3 a3 (tS1 _)
          have r3 := FrsV.mono k3 a3 r2.2 (fun t ht => by unfold tS; omega)
          have htop2 : all[l.length]? = some (.ptr j 0) := by
            obtain ⟨sid', all', full', hX', hS', ht', _⟩ := x2.top
            rw [hX2] at hX'
            have e := congrArg (fun x => match x with | some (.cells cs _) => cs[6]? | _ => none) hX'
            simp only [hxd6] at e
            have e' : some (AV.sl sid 0 1 n fl) = some (.sl sid' 0 1 (l.length + 1) full') := e
            cases e'
            rw [hS2] at hS'
            cases hS'
            exact ht'
          have hw2 : IntKind.i64.wrap ((n : Int) - 1) = (l.length : Nat) := by rw [w64 (by omega) (by simp at hsm; omega)]; omega
          have hix : indexIn (.int .i64 (l.length : Int)) n = some l.length := by simp only [indexIn]; rw [if_pos (by omega), Int.toNat_natCast]
          simp [go_sem, get_alloc, n_alloc, get_set, n_set, get_kill, n_kill, writeAt, a11, a21, a31, a41, a51, a61, a71, isNil, hX2, hxd6, hz, hbx, goI]
          simp [go_sem, get_alloc, n_alloc, get_set, n_set, get_kill, n_kill, writeAt, a11, a21, a31, a41, a51, a61, a71, isNil, hw2, hix, hS2, htop2, e3]
          have hstep : endsM f (f2 :: r2') = endsM { f2 with st := v :: f2.st } r2' := by conv => lhs; unfold endsM; rw [if_neg hlt, hst]
          refine ends_loop C b bar hb tr val Q r2' { f2 with st := v :: f2.st } j l g3 own3 (by have := k1.1; have := k3.1; omega) x3 ⟨v3, r3⟩ (fun fr he e g' own' j' ids' kk aa xx ff ee => ?_) (fun fr v' he e g' own' h0 kk aa xx => ?_) (by rw [← hstep]; exact hE) ?_
          · exact hA fr (by rw [hstep]; exact he) e g' own' j' ids' (k12.trans Agr.refl ((k3.le fun k h => by unfold tS at h; unfold tE; omega).trans a3 kk)) (Agr.trans (Agr.mono a3 (by have := k1.1; omega)) aa (by have := k1.1; have := k3.1; omega)) xx ff ee
          · exact hB fr v' (by rw [hstep]; exact he) e g' own' h0 (k12.trans Agr.refl ((k3.le fun k h => by unfold tS at h; unfold tE; omega).trans a3 kk)) (Agr.trans (Agr.mono a3 (by have := k1.1; omega)) aa (by have := k1.1; have := k3.1; omega)) xx
          · simp only [totS, hst, List.length_cons] at hT ⊢; omega
end
end Go.Ev
set_option linter.unusedSectionVars false
namespace Go.Ev
open Go
theorem spT3 (a b c u v w : AV) : splice [a, b, c] 0 [u, v, w] = [u, v, w] := Eq.trans rfl rfl
theorem endsM_nil : ∀ (r : List Fm) (f : Fm) {fr : List Fm} {v : Int}, endsM f r = some (fr, some v) → fr = []
  | r, f, fr, v, h => by
    unfold endsM at h
    split at h
    · cases h
    · split at h
      · cases h
      · split at h
        · cases h; rfl
        · exact endsM_nil _ _ h
def tA : Nat → Prop := fun k => k ≠ 0 ∧ k ≠ 9
theorem tE_A {k : Nat} (h : tE k) : tA k := by unfold tE at h; unfold tA; omega
theorem tS_A {t k : Nat} (h : tS t k) : tA k := by unfold tS at h; unfold tA; omega
section
variable {bar b : Nat} {g : H} {own : Nat → Nat} {C : Cx} {tr val : Int} {ids : List Nat} {t : Nat} {f : Fm} {id i : Nat}
def EndsV (g' : H) (b : Nat) (own' : Nat → Nat) (C : Cx) (tr val : Int) : List Fm × Option Int → Prop
  | (fr, none) => ∃ j ids', XO g' b own' C tr val (j :: ids') ∧ FrsV g' b own' fr (j :: ids')
  | (fr, some v) => fr = [] ∧ XO g' b own' C tr v []
theorem ends_ok {r : List Fm} (hb : bar ≤ b) (hbg : b ≤ g.n) (vx : XO g b own C tr val (i :: ids)) (vf : FrsV g b own (f :: r) (i :: ids)) (hT : totS (f :: r) < 3000000) {out : List Fm × Option Int} (he : endsM f r = some out) :
    ∃ g' own', call tb prim n_engine_runner_ends [.ptr C.X 0] bar g = some (.bool out.2.isNone, g') ∧ Kp own tE g g' ∧ Agr g.n own own' ∧ EndsV g' b own' C tr val out := by
  obtain ⟨y, g9, hcall, rfl, own', h1, h2, h3⟩ := callF_K (o := call tb prim) (F := f_engine_runner_ends) (bar := bar) (h := g) (args := [.ptr C.X 0]) (P := fun y g9 => y = .bool out.2.isNone ∧ ∃ own', Kp own tE g g9 ∧ Agr g.n own own' ∧ EndsV g9 b own' C tr val out) rfl rfl (fun K hK => by
    simp [f_engine_runner_ends, env0, go_sem, get_alloc, n_alloc, get_set, n_set, get_kill, n_kill, writeAt, a11, a21, a31, a41, a51, a61, a71, isNil]
    refine ends_loop C b bar hb tr val _ r f i ids g own hbg vx vf (fun fr h e g' own' j ids' k1 k2 k3 k4 k5 => ?_) (fun fr v h e g' own' k0 k1 k2 k3 => ?_) ⟨out, he⟩ hT
    · rw [he] at h
      cases h
      simp [go_sem, endP, endI, resultsA, resultA, freezeL, freezeV, AV.free.freeL, AV.free, packA, dropS, k5]
      exact ⟨_, _, ⟨rfl, rfl⟩, hK _ _ ⟨rfl, own', k1, k2, j, ids', k3, k4⟩⟩
    · rw [he] at h
      cases h
      simp [go_sem, endP, endI, resultsA, resultA, freezeL, freezeV, AV.free.freeL, AV.free, packA, dropS]
      exact ⟨_, _, ⟨rfl, rfl⟩, hK _ _ ⟨rfl, own', k1, k2, k0, k3⟩⟩)
  exact ⟨_, own', call_of tb_engine_runner_ends hcall, h1, h2, h3⟩
/-- With a token laid down. -/
def tokC (k : Tok) : List AV := [.int .i32 k.sign, .int .i64 k.n, .int .i32 k.name]
def tokZ (g : H) (k : Tok) : H := (g.alloc (.cells [.int .i32 0, .int .i64 0, .int .i32 0] 0)).set g.n (.cells (tokC k) 0)
theorem tokZ_n {k : Tok} : (tokZ g k).n = g.n + 1 := rfl
theorem tokZ_get {k : Tok} : (tokZ g k).get g.n = some (.cells (tokC k) 0) := by simp [tokZ, get_set]
theorem tokZ_ne {k : Tok} {j : Nat} (h : j ≠ g.n) : (tokZ g k).get j = g.get j := by rw [tokZ, get_set_ne h, get_alloc, if_neg h]
theorem tokZ_kp {k : Tok} {S : Nat → Prop} : Kp own S g (tokZ g k) := ⟨by rw [tokZ_n]; omega, fun j hj _ => tokZ_ne (by omega)⟩
/-- What a step reads first. -/
theorem FrO.head (v : FrO g b own t f id) {k : Tok} (hk : f.c.l[f.at']? = some k) : ∃ fc n cs full, g.get id = some (.cells fc 0) ∧ fc[0]? = some (.fz 3 n cs full) ∧ fc[3]? = some (.int .i64 f.at') ∧ (cs.length = n * 3) = True ∧ indexIn (.int .i64 (f.at' : Int)) n = some f.at' ∧ f.at' * 3 + 3 ≤ cs.length ∧ (cs.drop (f.at' * 3)).take 3 = tokC k ∧ id < g.n ∧ f.at' < 2000 := by
  obtain ⟨⟨la, ta, sa, hv, hsa, hc⟩, ho⟩ := v
  have hlt := (List.getElem?_eq_some_iff.mp hk).1
  obtain ⟨⟨hc1, hc2⟩, hc3, _⟩ := hc
  obtain ⟨h1, h2, ⟨_, e⟩ | ⟨full, rfl⟩⟩ := hc1
  · omega
  · refine ⟨_, _, _, full, hv.get, frC_0, frC_3, by simpa using h1, by simp only [indexIn]; rw [if_pos (by omega), Int.toNat_natCast], by rw [h1]; omega, ?_, hv.lt, by omega⟩
    rw [flat_row Tok.cells_len f.c.l _ k hk]; rfl
/-- How it ends. -/
theorem FrO.next (v : FrO g b own t f id) (hb : bar ≤ b) (ha : f.at' < 2000) : ∃ fc fc', g.get id = some (.cells fc 0) ∧ fc[3]? = some (.int .i64 f.at') ∧ 3 + 1 ≤ fc.length ∧ splice fc 3 [.int .i64 ((f.at' : Int) + 1)] = fc' ∧ bar ≤ id ∧ FrO (g.set id (.cells fc' 0)) b own t { f with at' := f.at' + 1 } id ∧ Kp own (tS t) g (g.set id (.cells fc' 0)) := by
  obtain ⟨⟨la, ta, sa, hv, hsa, hc⟩, ho⟩ := v
  have := FrO.setC (g' := g.set id (.cells (frC la ta f.c.args (f.at' + 1) f.loc sa) 0)) (p := f.at' + 1) hv hsa hc ho hv.loc (by omega) rfl
  exact ⟨_, _, hv.get, frC_3, by rw [frC_len hv.loc]; omega, frC_set3, Nat.le_trans hb hv.bid, this.1, this.2⟩
theorem sg_cases {s : Int} (h1 : ¬ (97 ≤ s ∧ s ≤ 122)) (h2 : ¬ (65 ≤ s ∧ s ≤ 90)) : (decide (97 ≤ s) = false ∧ decide (65 ≤ s) = false) ∨ (decide (97 ≤ s) = false ∧ decide (65 ≤ s) = true ∧ decide (s ≤ 90) = false) ∨ (decide (97 ≤ s) = true ∧ decide (s ≤ 122) = false ∧ decide (65 ≤ s) = true ∧ decide (s ≤ 90) = false) := by
  simp only [decide_eq_true_eq, decide_eq_false_iff_not]; omega
theorem FrO.local (v : FrO g b own t f id) {j : Nat} {x : Int} (hx : f.loc[j]? = some x) : ∃ fc, g.get id = some (.cells fc 0) ∧ fc[4 + j]? = some (.int .i64 x) ∧ j < 26 := by
  obtain ⟨⟨la, ta, sa, hv, hsa, hc⟩, ho⟩ := v
  exact ⟨_, hv.get, frC_loc hx, by have := (List.getElem?_eq_some_iff.mp hx).1; rw [hv.loc] at this; exact this⟩
theorem FrO.setLocal (v : FrO g b own t f id) (hb : bar ≤ b) {j : Nat} (hj : j < 26) (x : Int) : ∃ fc fc', g.get id = some (.cells fc 0) ∧ (4 + j) + 1 ≤ fc.length ∧ splice fc (4 + j) [.int .i64 x] = fc' ∧ bar ≤ id ∧ FrO (g.set id (.cells fc' 0)) b own t { f with loc := f.loc.set j x } id ∧ Kp own (tS t) g (g.set id (.cells fc' 0)) := by
  obtain ⟨⟨la, ta, sa, hv, hsa, hc⟩, ho⟩ := v
  have := FrO.setC (g' := g.set id (.cells (frC la ta f.c.args f.at' (f.loc.set j x) sa) 0)) (p := f.at') (loc := f.loc.set j x) hv hsa hc ho (by rw [List.length_set]; exact hv.loc) hv.at1 rfl
  exact ⟨_, _, hv.get, by rw [frC_len hv.loc]; omega, frC_setloc (by rw [hv.loc]; exact hj), Nat.le_trans hb hv.bid, this.1, this.2⟩
theorem step_num {k : Tok} (vf : FrO g b own t f id) (hb : bar ≤ b) (hbg : b ≤ g.n) (hk : f.c.l[f.at']? = some k) (hs : k.sign = 48) (hsm : f.st.length < 3000000) (X : AV) :
    ∃ g' own', call tb prim n_engine_runner_step [X, .ptr id 0] bar g = some (.tup [], g') ∧ FrO g' b own' t { f with at' := f.at' + 1, st := k.n :: f.st } id ∧ Kp own (tS t) g g' ∧ Agr g.n own own' := by
  obtain ⟨fc, n, cs, full, hget, h0, h3, hcl, hix, hle, hrow, hlt, ha6⟩ := vf.head hk
  have vz := vf.mono (tokZ_kp (k := k) (S := fun _ => False)) (Agr.ext (k := 0)) (by simp) (by simp)
  have hne : id ≠ g.n := by omega
  have hbn : bar ≤ g.n := by omega
  have hw : IntKind.i64.wrap ((f.at' : Int) + 1) = ((f.at' + 1 : Nat) : Int) := w64_succ (by omega)
  obtain ⟨g1, own1, e1, v1, k1, a1⟩ := push_o (bar := bar) vz hb (by rw [tokZ_n]; omega) hsm k.n
  obtain ⟨fd, fe, hget1, h31, hle1, hsp1, hbid, v2, k2⟩ := v1.next hb ha6
  simp only at h31 hsp1
  simp only [tokZ, tokC] at e1
  have hq : (k.sign == 48) = true := by simp [hs]
  obtain ⟨y, g9, hcall, rfl, rfl⟩ := callF_K (o := call tb prim) (F := f_engine_runner_step) (bar := bar) (h := g) (args := [X, .ptr id 0]) (P := fun y g9 => y = .tup [] ∧ g9 = g1.set id (.cells fe 0)) rfl rfl (fun K hK => by
    simp [f_engine_runner_step, env0, go_sem, get_alloc, n_alloc, get_set, n_set, get_kill, n_kill, writeAt, a11, a21, a31, a41, a51, a61, a71, isNil, hget, h0, h3, hcl, hix, hle, hrow]
    refine ⟨⟨sees_of rfl ?_, sees_of rfl ?_, sees_of rfl ?_⟩, ?_⟩
    · simp [-getElem?_pos, R_nil, R_cons, RS_some, sameV_some, seesQ_some, List.take, List.take_succ_cons, List.take_zero, go_sem, get_alloc, n_alloc, get_set, n_set, get_kill, n_kill, writeAt, a11, a21, a31, a41, a51, a61, a71, isNil, hget, h0, h3, hcl, hix, hle, hrow, hne, hbn, tokC, spT3, List.getElem?_cons_zero, List.getElem?_cons_succ]
    · simp [-getElem?_pos, R_nil, R_cons, RS_some, sameV_some, seesQ_some, List.take, List.take_succ_cons, List.take_zero, go_sem, get_alloc, n_alloc, get_set, n_set, get_kill, n_kill, writeAt, a11, a21, a31, a41, a51, a61, a71, isNil, hget, h0, h3, hcl, hix, hle, hrow, hne, hbn, tokC, spT3, List.getElem?_cons_zero, List.getElem?_cons_succ]
    · simp [-getElem?_pos, R_nil, R_cons, RS_some, sameV_some, seesQ_some, List.take, List.take_succ_cons, List.take_zero, go_sem, get_alloc, n_alloc, get_set, n_set, get_kill, n_kill, writeAt, a11, a21, a31, a41, a51, a61, a71, isNil, hget, h0, h3, hcl, hix, hle, hrow, hne, hbn, tokC, spT3, List.getElem?_cons_zero, List.getElem?_cons_succ]
    simp [go_sem, get_alloc, n_alloc, get_set, n_set, get_kill, n_kill, writeAt, a11, a21, a31, a41, a51, a61, a71, isNil, hget, h0, h3, hcl, hix, hle, hrow, hbn, tokC, spT3, hq, e1, hget1, h31, hw, hle1, hsp1, hbid]
    simp [go_sem, endP, endI, resultsA, resultA, freezeL, freezeV, AV.free.freeL, AV.free, packA, dropS]
    exact ⟨_, _, ⟨rfl, rfl⟩, hK _ _ ⟨rfl, rfl⟩⟩)
  exact ⟨_, own1, call_of tb_engine_runner_step hcall, v2, (tokZ_kp (k := k)).trans Agr.ext (k1.trans a1 k2), Agr.trans Agr.ext a1 (by rw [tokZ_n]; omega)⟩
theorem step_get {k : Tok} (vf : FrO g b own t f id) (hb : bar ≤ b) (hbg : b ≤ g.n) (hk : f.c.l[f.at']? = some k) (hs : 97 ≤ k.sign ∧ k.sign ≤ 122) {x : Int} (hx : f.loc[(k.sign - 97).toNat]? = some x) (hsm : f.st.length < 3000000) (X : AV) :
    ∃ g' own', call tb prim n_engine_runner_step [X, .ptr id 0] bar g = some (.tup [], g') ∧ FrO g' b own' t { f with at' := f.at' + 1, st := x :: f.st } id ∧ Kp own (tS t) g g' ∧ Agr g.n own own' := by
  obtain ⟨fc, n, cs, full, hget, h0, h3, hcl, hix, hle, hrow, hlt, ha6⟩ := vf.head hk
  have vz := vf.mono (tokZ_kp (k := k) (S := fun _ => False)) (Agr.ext (k := 0)) (by simp) (by simp)
  have hne : id ≠ g.n := by omega
  have hbn : bar ≤ g.n := by omega
  have hw : IntKind.i64.wrap ((f.at' : Int) + 1) = ((f.at' + 1 : Nat) : Int) := w64_succ (by omega)
  obtain ⟨g1, own1, e1, v1, k1, a1⟩ := push_o (bar := bar) vz hb (by rw [tokZ_n]; omega) hsm x
  obtain ⟨fd, fe, hget1, h31, hle1, hsp1, hbid, v2, k2⟩ := v1.next hb ha6
  simp only at h31 hsp1
  obtain ⟨fg, hfg, hloc, hj⟩ := vf.local hx
  rw [hget] at hfg
  cases hfg
  simp only [tokZ, tokC] at e1
  have hq : (k.sign == 48) = false := by simp; omega
  have hq2 : decide (97 ≤ k.sign) = true := by simp; omega
  have hq3 : decide (k.sign ≤ 122) = true := by simp; omega
  have hq4 : IntKind.i32.wrap (k.sign - 97) = k.sign - 97 := w32 (by omega) (by omega)
  have hq5 : indexIn (.int .i32 (k.sign - 97)) 26 = some (k.sign - 97).toNat := by simp only [indexIn]; rw [if_pos (by omega)]
  obtain ⟨y, g9, hcall, rfl, rfl⟩ := callF_K (o := call tb prim) (F := f_engine_runner_step) (bar := bar) (h := g) (args := [X, .ptr id 0]) (P := fun y g9 => y = .tup [] ∧ g9 = g1.set id (.cells fe 0)) rfl rfl (fun K hK => by
    simp [f_engine_runner_step, env0, go_sem, get_alloc, n_alloc, get_set, n_set, get_kill, n_kill, writeAt, a11, a21, a31, a41, a51, a61, a71, isNil, hget, h0, h3, hcl, hix, hle, hrow]
    refine ⟨⟨sees_of rfl ?_, sees_of rfl ?_, sees_of rfl ?_⟩, ?_⟩
    · simp [-getElem?_pos, R_nil, R_cons, RS_some, sameV_some, seesQ_some, List.take, List.take_succ_cons, List.take_zero, go_sem, get_alloc, n_alloc, get_set, n_set, get_kill, n_kill, writeAt, a11, a21, a31, a41, a51, a61, a71, isNil, hget, h0, h3, hcl, hix, hle, hrow, hne, hbn, tokC, spT3, List.getElem?_cons_zero, List.getElem?_cons_succ]
    · simp [-getElem?_pos, R_nil, R_cons, RS_some, sameV_some, seesQ_some, List.take, List.take_succ_cons, List.take_zero, go_sem, get_alloc, n_alloc, get_set, n_set, get_kill, n_kill, writeAt, a11, a21, a31, a41, a51, a61, a71, isNil, hget, h0, h3, hcl, hix, hle, hrow, hne, hbn, tokC, spT3, List.getElem?_cons_zero, List.getElem?_cons_succ]
    · simp [-getElem?_pos, R_nil, R_cons, RS_some, sameV_some, seesQ_some, List.take, List.take_succ_cons, List.take_zero, go_sem, get_alloc, n_alloc, get_set, n_set, get_kill, n_kill, writeAt, a11, a21, a31, a41, a51, a61, a71, isNil, hget, h0, h3, hcl, hix, hle, hrow, hne, hbn, tokC, spT3, List.getElem?_cons_zero, List.getElem?_cons_succ]
    simp [go_sem, get_alloc, n_alloc, get_set, n_set, get_kill, n_kill, writeAt, a11, a21, a31, a41, a51, a61, a71, isNil, hget, h0, h3, hcl, hix, hle, hrow, hbn, tokC, spT3, hq, hq2, hq3, hq4, hq5, hne, hloc, e1, hget1, h31, hw, hle1, hsp1, hbid]
    simp [go_sem, endP, endI, resultsA, resultA, freezeL, freezeV, AV.free.freeL, AV.free, packA, dropS]
    exact ⟨_, _, ⟨rfl, rfl⟩, hK _ _ ⟨rfl, rfl⟩⟩)
  exact ⟨_, own1, call_of tb_engine_runner_step hcall, v2, (tokZ_kp (k := k)).trans Agr.ext (k1.trans a1 k2), Agr.trans Agr.ext a1 (by rw [tokZ_n]; omega)⟩
theorem step_set {k : Tok} (vf : FrO g b own t f id) (hb : bar ≤ b) (hbg : b ≤ g.n) (hk : f.c.l[f.at']? = some k) (hs : 65 ≤ k.sign ∧ k.sign ≤ 90) {x : Int} {st : List Int} (hst : f.st = x :: st) (X : AV) :
    ∃ g' own', call tb prim n_engine_runner_step [X, .ptr id 0] bar g = some (.tup [], g') ∧ FrO g' b own' t { f with at' := f.at' + 1, st := st, loc := f.loc.set (k.sign - 65).toNat x } id ∧ Kp own (tS t) g g' ∧ Agr g.n own own' := by
  obtain ⟨fc, n, cs, full, hget, h0, h3, hcl, hix, hle, hrow, hlt, ha6⟩ := vf.head hk
  have vz := vf.mono (tokZ_kp (k := k) (S := fun _ => False)) (Agr.ext (k := 0)) (by simp) (by simp)
  have hne : id ≠ g.n := by omega
  have hbn : bar ≤ g.n := by omega
  have hw : IntKind.i64.wrap ((f.at' : Int) + 1) = ((f.at' + 1 : Nat) : Int) := w64_succ (by omega)
  obtain ⟨g1, e1, w1, l1⟩ := pop_o (bar := bar) vz hst hb
  obtain ⟨fg, fh, hgetL, hleL, hspL, hbid', v1, l2⟩ := w1.setLocal (bar := bar) (j := (k.sign - 65).toNat) hb (by omega) x
  obtain ⟨g2, hg2⟩ : ∃ g2, g2 = g1.set id (.cells fh 0) := ⟨_, rfl⟩
  rw [← hg2] at v1 l2
  obtain ⟨fd, fe, hget1, h31, hle1, hsp1, hbid, v2, k2⟩ := v1.next hb ha6
  simp only at h31 hsp1
  simp only [tokZ, tokC] at e1
  have hfd : fd = fh := by rw [hg2, get_set, if_pos rfl] at hget1; cases hget1; rfl
  subst hfd
  have hq : (k.sign == 48) = false := by simp; omega
  have hq2 : decide (97 ≤ k.sign) = false := by simp; omega
  have hq3 : decide (65 ≤ k.sign) = true := by simp; omega
  have hq4 : IntKind.i32.wrap (k.sign - 65) = k.sign - 65 := w32 (by omega) (by omega)
  have hq5 : indexIn (.int .i32 (k.sign - 65)) 26 = some (k.sign - 65).toNat := by simp only [indexIn]; rw [if_pos (by omega)]
  have hq6 : decide (k.sign ≤ 90) = true := by simp; omega
  obtain ⟨y, g9, hcall, rfl, rfl⟩ := callF_K (o := call tb prim) (F := f_engine_runner_step) (bar := bar) (h := g) (args := [X, .ptr id 0]) (P := fun y g9 => y = .tup [] ∧ g9 = g2.set id (.cells fe 0)) rfl rfl (fun K hK => by
    simp [f_engine_runner_step, env0, go_sem, get_alloc, n_alloc, get_set, n_set, get_kill, n_kill, writeAt, a11, a21, a31, a41, a51, a61, a71, isNil, hget, h0, h3, hcl, hix, hle, hrow]
    refine ⟨⟨sees_of rfl ?_, sees_of rfl ?_, sees_of rfl ?_⟩, ?_⟩
    · simp [-getElem?_pos, R_nil, R_cons, RS_some, sameV_some, seesQ_some, List.take, List.take_succ_cons, List.take_zero, go_sem, get_alloc, n_alloc, get_set, n_set, get_kill, n_kill, writeAt, a11, a21, a31, a41, a51, a61, a71, isNil, hget, h0, h3, hcl, hix, hle, hrow, hne, hbn, tokC, spT3, List.getElem?_cons_zero, List.getElem?_cons_succ]
    · simp [-getElem?_pos, R_nil, R_cons, RS_some, sameV_some, seesQ_some, List.take, List.take_succ_cons, List.take_zero, go_sem, get_alloc, n_alloc, get_set, n_set, get_kill, n_kill, writeAt, a11, a21, a31, a41, a51, a61, a71, isNil, hget, h0, h3, hcl, hix, hle, hrow, hne, hbn, tokC, spT3, List.getElem?_cons_zero, List.getElem?_cons_succ]
    · simp [-getElem?_pos, R_nil, R_cons, RS_some, sameV_some, seesQ_some, List.take, List.take_succ_cons, List.take_zero, go_sem, get_alloc, n_alloc, get_set, n_set, get_kill, n_kill, writeAt, a11, a21, a31, a41, a51, a61, a71, isNil, hget, h0, h3, hcl, hix, hle, hrow, hne, hbn, tokC, spT3, List.getElem?_cons_zero, List.getElem?_cons_succ]
    simp [go_sem, get_alloc, n_alloc, get_set, n_set, get_kill, n_kill, writeAt, a11, a21, a31, a41, a51, a61, a71, isNil, hget, h0, h3, hcl, hix, hle, hrow, hbn, tokC, spT3, hq, hq2, hq3, hq4, hq5, hq6, e1, hgetL, hleL, hspL, hbid']
    rw [← hg2]
    simp [go_sem, get_alloc, n_alloc, get_set, n_set, get_kill, n_kill, writeAt, a11, a21, a31, a41, a51, a61, a71, isNil, hget1, h31, hw, hle1, hsp1, hbid]
    simp [go_sem, endP, endI, resultsA, resultA, freezeL, freezeV, AV.free.freeL, AV.free, packA, dropS]
    exact ⟨_, _, ⟨rfl, rfl⟩, hK _ _ ⟨rfl, rfl⟩⟩)
  exact ⟨_, _, call_of tb_engine_runner_step hcall, v2, (tokZ_kp (k := k)).trans Agr.ext (l1.trans Agr.refl (l2.trans Agr.refl k2)), Agr.ext⟩
end
end Go.Ev
set_option linter.unusedSectionVars false
namespace Go.Ev
open Go
theorem tP_A {t k : Nat} (h : tP t k) : tA k := by unfold tP tS at h; unfold tA; omega
theorem tM_A {t k : Nat} (h : tM t k) : tA k := by unfold tM tS at h; unfold tA; omega
theorem tC_A {t k : Nat} (h : tC t k) : tA k := by unfold tC tS at h; unfold tA; omega
theorem sgG_no {s : Int} (h : sgG s = true) : (s == 48) = false ∧ ¬ (97 ≤ s ∧ s ≤ 122) ∧ ¬ (65 ≤ s ∧ s ≤ 90) ∧ (s == 955) = false := by
  have h' : s = 43 ∨ s = 45 ∨ s = 42 ∨ s = 47 ∨ s = 37 ∨ s = 38 ∨ s = 124 ∨ s = 94 ∨ s = 60 ∨ s = 61 ∨ s = 33 ∨ s = 46 ∨ s = 44 ∨ s = 64 ∨ s = 36 ∨ s = 35 ∨ s = 63 ∨ s = 58 ∨ s = 59 ∨ s = 91 ∨ s = 93 ∨ s = 126 ∨ s = 171 ∨ s = 187 ∨ s = 169 ∨ s = 174 ∨ s = 164 ∨ s = 161 ∨ s = 960 := by simpa [sgG] using h
  refine ⟨?_, ?_, ?_, ?_⟩
  · simp; omega
  · omega
  · omega
  · simp; omega
section
variable {bar b : Nat} {g : H} {own : Nat → Nat} {C : Cx} {tr val : Int} {ids : List Nat} {t : Nat} {f : Fm} {id i : Nat} {m : Mem} {r : Row}
theorem step_call {k : Tok} (vx : XO g b own C tr val ids) (cx : CxV g own C) (vf : FrO g b own t f id) (hb : bar ≤ b) (hbg : b ≤ g.n) (hk : f.c.l[f.at']? = some k) (hs : k.sign = 955) {kk : Nat} (hkk : findN k.name C.fs 0 = kk) {x : AV × AV × Code'} (hx : C.rows[kk]? = some x) {a : Nat} (ha : x.2.2.args = a) (hal : a ≤ f.st.length) (hids : ids.length < 1000) :
    ∃ g' own', call tb prim n_engine_runner_step [.ptr C.X 0, .ptr id 0] bar g = some (.tup [], g') ∧ FrO g' b own' t { f with at' := f.at' + 1, st := f.st.drop a } id ∧ Kp own (tC t) g g' ∧ Agr g.n own own' ∧
      ((32 ≤ ids.length ∧ XO g' b own' C 6 val ids) ∨ (ids.length < 32 ∧ ∃ i, XO g' b own' C tr val (i :: ids) ∧ FrO g' b own' ids.length (newF x.2.2 (argsOf a f.st)) i)) := by
  obtain ⟨fc, n, cs, full, hget, h0, h3, hcl, hix, hle, hrow, hlt, ha6⟩ := vf.head hk
  have vz := vf.mono (tokZ_kp (k := k) (S := fun _ => False)) (Agr.ext (k := 0)) (by simp) (by simp)
  have hne : id ≠ g.n := by omega
  have hbn : bar ≤ g.n := by omega
  have hw : IntKind.i64.wrap ((f.at' : Int) + 1) = ((f.at' + 1 : Nat) : Int) := w64_succ (by omega)
  obtain ⟨fd, fe, hget1, h31, hle1, hsp1, hbid, v1, k1⟩ := vz.next hb ha6
  have xz := vx.mono (tokZ_kp (k := k) (S := fun _ => False)) (Agr.ext (k := 0)) (by simp)
  have cz := cx.mono (tokZ_kp (k := k) (S := fun _ => False)) (Agr.ext (k := 0)) (by simp)
  obtain ⟨g1, hg1⟩ : ∃ g1, g1 = (tokZ g k).set id (.cells fe 0) := ⟨_, rfl⟩
  rw [← hg1] at v1 k1
  have x1 := xz.mono k1 Agr.refl (tS1 t)
  have c1 := cz.mono k1 Agr.refl (tS0 t)
  obtain ⟨g2, own2, e2, v2, k2, a2, h2⟩ := calls_ok (bar := bar) x1 c1 v1 hb (by have := k1.1; rw [tokZ_n] at this; omega) hkk hx ha hal hids
  have hget' : g.get id = some (.cells fd 0) := by rw [tokZ_ne hne] at hget1; exact hget1
  rw [hget] at hget'
  cases hget'
  have hq : (k.sign == 48) = false := by simp [hs]
  have hq2 : decide (97 ≤ k.sign) = true := by simp [hs]
  have hq3 : decide (k.sign ≤ 122) = false := by simp [hs]
  have hq4 : decide (65 ≤ k.sign) = true := by simp [hs]
  have hq5 : decide (k.sign ≤ 90) = false := by simp [hs]
  have hq6 : (k.sign == 955) = true := by simp [hs]
  have hne2 : g.n ≠ id := fun q => hne q.symm
  simp only [tokZ, tokC] at hg1
  obtain ⟨y, g9, hcall, rfl, rfl⟩ := callF_K (o := call tb prim) (F := f_engine_runner_step) (bar := bar) (h := g) (args := [.ptr C.X 0, .ptr id 0]) (P := fun y g9 => y = .tup [] ∧ g9 = g2) rfl rfl (fun K hK => by
    simp [f_engine_runner_step, env0, go_sem, get_alloc, n_alloc, get_set, n_set, get_kill, n_kill, writeAt, a11, a21, a31, a41, a51, a61, a71, isNil, hget, h0, h3, hcl, hix, hle, hrow]
    refine ⟨⟨sees_of rfl ?_, sees_of rfl ?_, sees_of rfl ?_⟩, ?_⟩
    · simp [-getElem?_pos, R_nil, R_cons, RS_some, sameV_some, seesQ_some, List.take, List.take_succ_cons, List.take_zero, go_sem, get_alloc, n_alloc, get_set, n_set, get_kill, n_kill, writeAt, a11, a21, a31, a41, a51, a61, a71, isNil, hget, h0, h3, hcl, hix, hle, hrow, hne, hbn, tokC, spT3, List.getElem?_cons_zero, List.getElem?_cons_succ]
    · simp [-getElem?_pos, R_nil, R_cons, RS_some, sameV_some, seesQ_some, List.take, List.take_succ_cons, List.take_zero, go_sem, get_alloc, n_alloc, get_set, n_set, get_kill, n_kill, writeAt, a11, a21, a31, a41, a51, a61, a71, isNil, hget, h0, h3, hcl, hix, hle, hrow, hne, hbn, tokC, spT3, List.getElem?_cons_zero, List.getElem?_cons_succ]
    · simp [-getElem?_pos, R_nil, R_cons, RS_some, sameV_some, seesQ_some, List.take, List.take_succ_cons, List.take_zero, go_sem, get_alloc, n_alloc, get_set, n_set, get_kill, n_kill, writeAt, a11, a21, a31, a41, a51, a61, a71, isNil, hget, h0, h3, hcl, hix, hle, hrow, hne, hbn, tokC, spT3, List.getElem?_cons_zero, List.getElem?_cons_succ]
    simp [go_sem, get_alloc, n_alloc, get_set, n_set, get_kill, n_kill, writeAt, a11, a21, a31, a41, a51, a61, a71, isNil, hget, h0, h3, hcl, hix, hle, hrow, hbn, tokC, spT3, hq, hq2, hq3, hq4, hq5, hq6, hne, hne2, h31, hw, hle1, hsp1, hbid]
    rw [← hg1]
    simp [go_sem, get_alloc, n_alloc, get_set, n_set, get_kill, n_kill, writeAt, a11, a21, a31, a41, a51, a61, a71, isNil, e2]
    simp [go_sem, endP, endI, resultsA, resultA, freezeL, freezeV, AV.free.freeL, AV.free, packA, dropS]
    exact ⟨_, _, ⟨rfl, rfl⟩, hK _ _ ⟨rfl, rfl⟩⟩)
  exact ⟨_, _, call_of tb_engine_runner_step hcall, v2, (tokZ_kp (k := k)).trans Agr.ext ((k1.le fun k h => .inr (.inr h)).trans Agr.refl k2), Agr.trans Agr.ext a2 (by rw [hg1, n_set]; exact Nat.le_succ _), h2⟩
theorem step_goes {k : Tok} {f' : Fm} (vf : FrO g b own t f id) (hb : bar ≤ b) (hk : f.c.l[f.at']? = some k) (hs : sgG k.sign = true) (hgo : isGo k.sign = true) (X : AV)
    (hG : ∃ g1, call tb prim n_engine_runner_goes [X, .ptr id 0, .int .i32 k.sign] bar (tokZ g k) = some (.tup [], g1) ∧ FrO g1 b (ext own g.n 0) t f' id ∧ Kp (ext own g.n 0) (tS t) (tokZ g k) g1) (hbg : b ≤ g.n) :
    ∃ g' own', call tb prim n_engine_runner_step [X, .ptr id 0] bar g = some (.tup [], g') ∧ FrO g' b own' t f' id ∧ Kp own (tS t) g g' ∧ Agr g.n own own' := by
  obtain ⟨fc, n, cs, full, hget, h0, h3, hcl, hix, hle, hrow, hlt, ha6⟩ := vf.head hk
  have vz := vf.mono (tokZ_kp (k := k) (S := fun _ => False)) (Agr.ext (k := 0)) (by simp) (by simp)
  have hne : id ≠ g.n := by omega
  have hbn : bar ≤ g.n := by omega
  have hw : IntKind.i64.wrap ((f.at' : Int) + 1) = ((f.at' + 1 : Nat) : Int) := w64_succ (by omega)
  obtain ⟨g1, e1, v1, k1⟩ := hG
  obtain ⟨hq, hs1, hs2, hq6⟩ := sgG_no hs
  have hq7 := fun g => con_a (bar := bar) (g := g) hs
  rw [hgo] at hq7
  simp only [tokZ, tokC] at e1
  obtain ⟨y, g9, hcall, rfl, rfl⟩ := callF_K (o := call tb prim) (F := f_engine_runner_step) (bar := bar) (h := g) (args := [X, .ptr id 0]) (P := fun y g9 => y = .tup [] ∧ g9 = g1) rfl rfl (fun K hK => by
    rcases sg_cases hs1 hs2 with ⟨hq2, hq3⟩ | ⟨hq2, hq3, hq4⟩ | ⟨hq2, hq3, hq4, hq5⟩
    · simp [f_engine_runner_step, env0, go_sem, get_alloc, n_alloc, get_set, n_set, get_kill, n_kill, writeAt, a11, a21, a31, a41, a51, a61, a71, isNil, hget, h0, h3, hcl, hix, hle, hrow]
      refine ⟨⟨sees_of rfl ?_, sees_of rfl ?_, sees_of rfl ?_⟩, ?_⟩
      · simp [-getElem?_pos, R_nil, R_cons, RS_some, sameV_some, seesQ_some, List.take, List.take_succ_cons, List.take_zero, go_sem, get_alloc, n_alloc, get_set, n_set, get_kill, n_kill, writeAt, a11, a21, a31, a41, a51, a61, a71, isNil, hget, h0, h3, hcl, hix, hle, hrow, hne, hbn, tokC, spT3, List.getElem?_cons_zero, List.getElem?_cons_succ]
      · simp [-getElem?_pos, R_nil, R_cons, RS_some, sameV_some, seesQ_some, List.take, List.take_succ_cons, List.take_zero, go_sem, get_alloc, n_alloc, get_set, n_set, get_kill, n_kill, writeAt, a11, a21, a31, a41, a51, a61, a71, isNil, hget, h0, h3, hcl, hix, hle, hrow, hne, hbn, tokC, spT3, List.getElem?_cons_zero, List.getElem?_cons_succ]
      · simp [-getElem?_pos, R_nil, R_cons, RS_some, sameV_some, seesQ_some, List.take, List.take_succ_cons, List.take_zero, go_sem, get_alloc, n_alloc, get_set, n_set, get_kill, n_kill, writeAt, a11, a21, a31, a41, a51, a61, a71, isNil, hget, h0, h3, hcl, hix, hle, hrow, hne, hbn, tokC, spT3, List.getElem?_cons_zero, List.getElem?_cons_succ]
      simp [go_sem, get_alloc, n_alloc, get_set, n_set, get_kill, n_kill, writeAt, a11, a21, a31, a41, a51, a61, a71, isNil, hget, h0, h3, hcl, hix, hle, hrow, hbn, tokC, spT3, hq, hq6, hq7, e1, hq2, hq3]
      simp [go_sem, endP, endI, resultsA, resultA, freezeL, freezeV, AV.free.freeL, AV.free, packA, dropS]
      exact ⟨_, _, ⟨rfl, rfl⟩, hK _ _ ⟨rfl, rfl⟩⟩
    · simp [f_engine_runner_step, env0, go_sem, get_alloc, n_alloc, get_set, n_set, get_kill, n_kill, writeAt, a11, a21, a31, a41, a51, a61, a71, isNil, hget, h0, h3, hcl, hix, hle, hrow]
      refine ⟨⟨sees_of rfl ?_, sees_of rfl ?_, sees_of rfl ?_⟩, ?_⟩
      · simp [-getElem?_pos, R_nil, R_cons, RS_some, sameV_some, seesQ_some, List.take, List.take_succ_cons, List.take_zero, go_sem, get_alloc, n_alloc, get_set, n_set, get_kill, n_kill, writeAt, a11, a21, a31, a41, a51, a61, a71, isNil, hget, h0, h3, hcl, hix, hle, hrow, hne, hbn, tokC, spT3, List.getElem?_cons_zero, List.getElem?_cons_succ]
      · simp [-getElem?_pos, R_nil, R_cons, RS_some, sameV_some, seesQ_some, List.take, List.take_succ_cons, List.take_zero, go_sem, get_alloc, n_alloc, get_set, n_set, get_kill, n_kill, writeAt, a11, a21, a31, a41, a51, a61, a71, isNil, hget, h0, h3, hcl, hix, hle, hrow, hne, hbn, tokC, spT3, List.getElem?_cons_zero, List.getElem?_cons_succ]
      · simp [-getElem?_pos, R_nil, R_cons, RS_some, sameV_some, seesQ_some, List.take, List.take_succ_cons, List.take_zero, go_sem, get_alloc, n_alloc, get_set, n_set, get_kill, n_kill, writeAt, a11, a21, a31, a41, a51, a61, a71, isNil, hget, h0, h3, hcl, hix, hle, hrow, hne, hbn, tokC, spT3, List.getElem?_cons_zero, List.getElem?_cons_succ]
      simp [go_sem, get_alloc, n_alloc, get_set, n_set, get_kill, n_kill, writeAt, a11, a21, a31, a41, a51, a61, a71, isNil, hget, h0, h3, hcl, hix, hle, hrow, hbn, tokC, spT3, hq, hq6, hq7, e1, hq2, hq3, hq4]
      simp [go_sem, endP, endI, resultsA, resultA, freezeL, freezeV, AV.free.freeL, AV.free, packA, dropS]
      exact ⟨_, _, ⟨rfl, rfl⟩, hK _ _ ⟨rfl, rfl⟩⟩
    · simp [f_engine_runner_step, env0, go_sem, get_alloc, n_alloc, get_set, n_set, get_kill, n_kill, writeAt, a11, a21, a31, a41, a51, a61, a71, isNil, hget, h0, h3, hcl, hix, hle, hrow]
      refine ⟨⟨sees_of rfl ?_, sees_of rfl ?_, sees_of rfl ?_⟩, ?_⟩
      · simp [-getElem?_pos, R_nil, R_cons, RS_some, sameV_some, seesQ_some, List.take, List.take_succ_cons, List.take_zero, go_sem, get_alloc, n_alloc, get_set, n_set, get_kill, n_kill, writeAt, a11, a21, a31, a41, a51, a61, a71, isNil, hget, h0, h3, hcl, hix, hle, hrow, hne, hbn, tokC, spT3, List.getElem?_cons_zero, List.getElem?_cons_succ]
      · simp [-getElem?_pos, R_nil, R_cons, RS_some, sameV_some, seesQ_some, List.take, List.take_succ_cons, List.take_zero, go_sem, get_alloc, n_alloc, get_set, n_set, get_kill, n_kill, writeAt, a11, a21, a31, a41, a51, a61, a71, isNil, hget, h0, h3, hcl, hix, hle, hrow, hne, hbn, tokC, spT3, List.getElem?_cons_zero, List.getElem?_cons_succ]
      · simp [-getElem?_pos, R_nil, R_cons, RS_some, sameV_some, seesQ_some, List.take, List.take_succ_cons, List.take_zero, go_sem, get_alloc, n_alloc, get_set, n_set, get_kill, n_kill, writeAt, a11, a21, a31, a41, a51, a61, a71, isNil, hget, h0, h3, hcl, hix, hle, hrow, hne, hbn, tokC, spT3, List.getElem?_cons_zero, List.getElem?_cons_succ]
      simp [go_sem, get_alloc, n_alloc, get_set, n_set, get_kill, n_kill, writeAt, a11, a21, a31, a41, a51, a61, a71, isNil, hget, h0, h3, hcl, hix, hle, hrow, hbn, tokC, spT3, hq, hq6, hq7, e1, hq2, hq3, hq4, hq5]
      simp [go_sem, endP, endI, resultsA, resultA, freezeL, freezeV, AV.free.freeL, AV.free, packA, dropS]
      exact ⟨_, _, ⟨rfl, rfl⟩, hK _ _ ⟨rfl, rfl⟩⟩)
  exact ⟨_, _, call_of tb_engine_runner_step hcall, v1, (tokZ_kp (k := k)).trans Agr.ext k1, Agr.ext⟩
theorem step_mem {k : Tok} {x : Option (List Int × Mem × Int)} (vx : XO g b own C tr val ids) (vf : FrO g b own t f id) (vm : MemO g b own C.M m) (hb : bar ≤ b) (hbg : b ≤ g.n) (hk : f.c.l[f.at']? = some k) (hs : sgG k.sign = true) (hgo : isGo k.sign = false) (hme : isMemS k.sign = true)
    (hM : ∀ own0 : Nat → Nat, XO (tokZ g k) b own0 C tr val ids → FrO (tokZ g k) b own0 t f id → MemO (tokZ g k) b own0 C.M m → b ≤ (tokZ g k).n → MemR bar b (tokZ g k) own0 C val ids t f id k.sign x) :
    ∀ st m' tr', x = some (st, m', tr') → ∃ g' own', call tb prim n_engine_runner_step [.ptr C.X 0, .ptr id 0] bar g = some (.tup [], g') ∧ FrO g' b own' t { f with at' := f.at' + 1, st := st } id ∧ XO g' b own' C tr' val ids ∧ MemO g' b own' C.M m' ∧ Kp own (tM t) g g' ∧ Agr g.n own own' := by
  intro st m' tr' hxx
  obtain ⟨fc, n, cs, full, hget, h0, h3, hcl, hix, hle, hrow, hlt, ha6⟩ := vf.head hk
  have vz := vf.mono (tokZ_kp (k := k) (S := fun _ => False)) (Agr.ext (k := 0)) (by simp) (by simp)
  have hne : id ≠ g.n := by omega
  have hbn : bar ≤ g.n := by omega
  have hw : IntKind.i64.wrap ((f.at' : Int) + 1) = ((f.at' + 1 : Nat) : Int) := w64_succ (by omega)
  have xz := vx.mono (tokZ_kp (k := k) (S := fun _ => False)) (Agr.ext (k := 0)) (by simp)
  have mz := vm.mono (tokZ_kp (k := k) (S := fun _ => False)) (Agr.ext (k := 0)) (by simp)
  obtain ⟨g1, own1, e1, v1, x1, m1, k1, a1⟩ := hM _ xz vz mz (by rw [tokZ_n]; omega) st m' tr' hxx
  obtain ⟨fd, fe, hget1, h31, hle1, hsp1, hbid, v2, k2⟩ := v1.next hb ha6
  simp only at h31 hsp1
  have x2 := x1.mono k2 Agr.refl (tS1 t)
  have m2 := m1.mono k2 Agr.refl (tS3 t)
  obtain ⟨hq, hs1, hs2, hq6⟩ := sgG_no hs
  have hq7 := fun g => con_a (bar := bar) (g := g) hs
  rw [hgo] at hq7
  have hq8 := fun g => con_b (bar := bar) (g := g) hs
  rw [hme] at hq8
  simp only [tokZ, tokC] at e1
  obtain ⟨y, g9, hcall, rfl, rfl⟩ := callF_K (o := call tb prim) (F := f_engine_runner_step) (bar := bar) (h := g) (args := [.ptr C.X 0, .ptr id 0]) (P := fun y g9 => y = .tup [] ∧ g9 = g1.set id (.cells fe 0)) rfl rfl (fun K hK => by
    rcases sg_cases hs1 hs2 with ⟨hq2, hq3⟩ | ⟨hq2, hq3, hq4⟩ | ⟨hq2, hq3, hq4, hq5⟩
    · simp [f_engine_runner_step, env0, go_sem, get_alloc, n_alloc, get_set, n_set, get_kill, n_kill, writeAt, a11, a21, a31, a41, a51, a61, a71, isNil, hget, h0, h3, hcl, hix, hle, hrow]
      refine ⟨⟨sees_of rfl ?_, sees_of rfl ?_, sees_of rfl ?_⟩, ?_⟩
      · simp [-getElem?_pos, R_nil, R_cons, RS_some, sameV_some, seesQ_some, List.take, List.take_succ_cons, List.take_zero, go_sem, get_alloc, n_alloc, get_set, n_set, get_kill, n_kill, writeAt, a11, a21, a31, a41, a51, a61, a71, isNil, hget, h0, h3, hcl, hix, hle, hrow, hne, hbn, tokC, spT3, List.getElem?_cons_zero, List.getElem?_cons_succ]
      · simp [-getElem?_pos, R_nil, R_cons, RS_some, sameV_some, seesQ_some, List.take, List.take_succ_cons, List.take_zero, go_sem, get_alloc, n_alloc, get_set, n_set, get_kill, n_kill, writeAt, a11, a21, a31, a41, a51, a61, a71, isNil, hget, h0, h3, hcl, hix, hle, hrow, hne, hbn, tokC, spT3, List.getElem?_cons_zero, List.getElem?_cons_succ]
      · simp [-getElem?_pos, R_nil, R_cons, RS_some, sameV_some, seesQ_some, List.take, List.take_succ_cons, List.take_zero, go_sem, get_alloc, n_alloc, get_set, n_set, get_kill, n_kill, writeAt, a11, a21, a31, a41, a51, a61, a71, isNil, hget, h0, h3, hcl, hix, hle, hrow, hne, hbn, tokC, spT3, List.getElem?_cons_zero, List.getElem?_cons_succ]
      simp [go_sem, get_alloc, n_alloc, get_set, n_set, get_kill, n_kill, writeAt, a11, a21, a31, a41, a51, a61, a71, isNil, hget, h0, h3, hcl, hix, hle, hrow, hbn, tokC, spT3, hq, hq6, hq7, hq8, e1, hget1, h31, hw, hle1, hsp1, hbid, hq2, hq3]
      simp [go_sem, endP, endI, resultsA, resultA, freezeL, freezeV, AV.free.freeL, AV.free, packA, dropS]
      exact ⟨_, _, ⟨rfl, rfl⟩, hK _ _ ⟨rfl, rfl⟩⟩
    · simp [f_engine_runner_step, env0, go_sem, get_alloc, n_alloc, get_set, n_set, get_kill, n_kill, writeAt, a11, a21, a31, a41, a51, a61, a71, isNil, hget, h0, h3, hcl, hix, hle, hrow]
      refine ⟨⟨sees_of rfl ?_, sees_of rfl ?_, sees_of rfl ?_⟩, ?_⟩
      · simp [-getElem?_pos, R_nil, R_cons, RS_some, sameV_some, seesQ_some, List.take, List.take_succ_cons, List.take_zero, go_sem, get_alloc, n_alloc, get_set, n_set, get_kill, n_kill, writeAt, a11, a21, a31, a41, a51, a61, a71, isNil, hget, h0, h3, hcl, hix, hle, hrow, hne, hbn, tokC, spT3, List.getElem?_cons_zero, List.getElem?_cons_succ]
      · simp [-getElem?_pos, R_nil, R_cons, RS_some, sameV_some, seesQ_some, List.take, List.take_succ_cons, List.take_zero, go_sem, get_alloc, n_alloc, get_set, n_set, get_kill, n_kill, writeAt, a11, a21, a31, a41, a51, a61, a71, isNil, hget, h0, h3, hcl, hix, hle, hrow, hne, hbn, tokC, spT3, List.getElem?_cons_zero, List.getElem?_cons_succ]
      · simp [-getElem?_pos, R_nil, R_cons, RS_some, sameV_some, seesQ_some, List.take, List.take_succ_cons, List.take_zero, go_sem, get_alloc, n_alloc, get_set, n_set, get_kill, n_kill, writeAt, a11, a21, a31, a41, a51, a61, a71, isNil, hget, h0, h3, hcl, hix, hle, hrow, hne, hbn, tokC, spT3, List.getElem?_cons_zero, List.getElem?_cons_succ]
      simp [go_sem, get_alloc, n_alloc, get_set, n_set, get_kill, n_kill, writeAt, a11, a21, a31, a41, a51, a61, a71, isNil, hget, h0, h3, hcl, hix, hle, hrow, hbn, tokC, spT3, hq, hq6, hq7, hq8, e1, hget1, h31, hw, hle1, hsp1, hbid, hq2, hq3, hq4]
      simp [go_sem, endP, endI, resultsA, resultA, freezeL, freezeV, AV.free.freeL, AV.free, packA, dropS]
      exact ⟨_, _, ⟨rfl, rfl⟩, hK _ _ ⟨rfl, rfl⟩⟩
    · simp [f_engine_runner_step, env0, go_sem, get_alloc, n_alloc, get_set, n_set, get_kill, n_kill, writeAt, a11, a21, a31, a41, a51, a61, a71, isNil, hget, h0, h3, hcl, hix, hle, hrow]
      refine ⟨⟨sees_of rfl ?_, sees_of rfl ?_, sees_of rfl ?_⟩, ?_⟩
      · simp [-getElem?_pos, R_nil, R_cons, RS_some, sameV_some, seesQ_some, List.take, List.take_succ_cons, List.take_zero, go_sem, get_alloc, n_alloc, get_set, n_set, get_kill, n_kill, writeAt, a11, a21, a31, a41, a51, a61, a71, isNil, hget, h0, h3, hcl, hix, hle, hrow, hne, hbn, tokC, spT3, List.getElem?_cons_zero, List.getElem?_cons_succ]
      · simp [-getElem?_pos, R_nil, R_cons, RS_some, sameV_some, seesQ_some, List.take, List.take_succ_cons, List.take_zero, go_sem, get_alloc, n_alloc, get_set, n_set, get_kill, n_kill, writeAt, a11, a21, a31, a41, a51, a61, a71, isNil, hget, h0, h3, hcl, hix, hle, hrow, hne, hbn, tokC, spT3, List.getElem?_cons_zero, List.getElem?_cons_succ]
      · simp [-getElem?_pos, R_nil, R_cons, RS_some, sameV_some, seesQ_some, List.take, List.take_succ_cons, List.take_zero, go_sem, get_alloc, n_alloc, get_set, n_set, get_kill, n_kill, writeAt, a11, a21, a31, a41, a51, a61, a71, isNil, hget, h0, h3, hcl, hix, hle, hrow, hne, hbn, tokC, spT3, List.getElem?_cons_zero, List.getElem?_cons_succ]
      simp [go_sem, get_alloc, n_alloc, get_set, n_set, get_kill, n_kill, writeAt, a11, a21, a31, a41, a51, a61, a71, isNil, hget, h0, h3, hcl, hix, hle, hrow, hbn, tokC, spT3, hq, hq6, hq7, hq8, e1, hget1, h31, hw, hle1, hsp1, hbid, hq2, hq3, hq4, hq5]
      simp [go_sem, endP, endI, resultsA, resultA, freezeL, freezeV, AV.free.freeL, AV.free, packA, dropS]
      exact ⟨_, _, ⟨rfl, rfl⟩, hK _ _ ⟨rfl, rfl⟩⟩)
  exact ⟨_, own1, call_of tb_engine_runner_step hcall, v2, x2, m2, (tokZ_kp (k := k)).trans Agr.ext (k1.trans a1 (k2.le fun k h => tS_M h)), Agr.trans Agr.ext a1 (by rw [tokZ_n]; omega)⟩
theorem step_plain {k : Tok} {x : Option (List Int × Row × Int)} (vx : XO g b own C tr val ids) (vf : FrO g b own t f id) (vr : RowO g b own C.R r) (hb : bar ≤ b) (hbg : b ≤ g.n) (hk : f.c.l[f.at']? = some k) (hs : sgG k.sign = true) (hgo : isGo k.sign = false) (hme : isMemS k.sign = false)
    (hM : ∀ own0 : Nat → Nat, XO (tokZ g k) b own0 C tr val ids → FrO (tokZ g k) b own0 t f id → RowO (tokZ g k) b own0 C.R r → b ≤ (tokZ g k).n → PlainR bar b (tokZ g k) own0 C val ids t f id k x) :
    ∀ st r' tr', x = some (st, r', tr') → ∃ g' own', call tb prim n_engine_runner_step [.ptr C.X 0, .ptr id 0] bar g = some (.tup [], g') ∧ FrO g' b own' t { f with at' := f.at' + 1, st := st } id ∧ XO g' b own' C tr' val ids ∧ RowO g' b own' C.R r' ∧ Kp own (tP t) g g' ∧ Agr g.n own own' := by
  intro st r' tr' hxx
  obtain ⟨fc, n, cs, full, hget, h0, h3, hcl, hix, hle, hrow, hlt, ha6⟩ := vf.head hk
  have vz := vf.mono (tokZ_kp (k := k) (S := fun _ => False)) (Agr.ext (k := 0)) (by simp) (by simp)
  have hne : id ≠ g.n := by omega
  have hbn : bar ≤ g.n := by omega
  have hw : IntKind.i64.wrap ((f.at' : Int) + 1) = ((f.at' + 1 : Nat) : Int) := w64_succ (by omega)
  have xz := vx.mono (tokZ_kp (k := k) (S := fun _ => False)) (Agr.ext (k := 0)) (by simp)
  have rz := vr.mono (tokZ_kp (k := k) (S := fun _ => False)) (Agr.ext (k := 0)) (by simp)
  obtain ⟨g1, own1, e1, v1, x1, r1, k1, a1⟩ := hM _ xz vz rz (by rw [tokZ_n]; omega) st r' tr' hxx
  obtain ⟨fd, fe, hget1, h31, hle1, hsp1, hbid, v2, k2⟩ := v1.next hb ha6
  simp only at h31 hsp1
  have x2 := x1.mono k2 Agr.refl (tS1 t)
  have r2 := r1.mono k2 Agr.refl (tS6 t)
  obtain ⟨hq, hs1, hs2, hq6⟩ := sgG_no hs
  have hq7 := fun g => con_a (bar := bar) (g := g) hs
  rw [hgo] at hq7
  have hq8 := fun g => con_b (bar := bar) (g := g) hs
  rw [hme] at hq8
  simp only [tokZ, tokC, tokA] at e1
  obtain ⟨y, g9, hcall, rfl, rfl⟩ := callF_K (o := call tb prim) (F := f_engine_runner_step) (bar := bar) (h := g) (args := [.ptr C.X 0, .ptr id 0]) (P := fun y g9 => y = .tup [] ∧ g9 = g1.set id (.cells fe 0)) rfl rfl (fun K hK => by
    rcases sg_cases hs1 hs2 with ⟨hq2, hq3⟩ | ⟨hq2, hq3, hq4⟩ | ⟨hq2, hq3, hq4, hq5⟩
    · simp [f_engine_runner_step, env0, go_sem, get_alloc, n_alloc, get_set, n_set, get_kill, n_kill, writeAt, a11, a21, a31, a41, a51, a61, a71, isNil, hget, h0, h3, hcl, hix, hle, hrow]
      refine ⟨⟨sees_of rfl ?_, sees_of rfl ?_, sees_of rfl ?_⟩, ?_⟩
      · simp [-getElem?_pos, R_nil, R_cons, RS_some, sameV_some, seesQ_some, List.take, List.take_succ_cons, List.take_zero, go_sem, get_alloc, n_alloc, get_set, n_set, get_kill, n_kill, writeAt, a11, a21, a31, a41, a51, a61, a71, isNil, hget, h0, h3, hcl, hix, hle, hrow, hne, hbn, tokC, spT3, List.getElem?_cons_zero, List.getElem?_cons_succ]
      · simp [-getElem?_pos, R_nil, R_cons, RS_some, sameV_some, seesQ_some, List.take, List.take_succ_cons, List.take_zero, go_sem, get_alloc, n_alloc, get_set, n_set, get_kill, n_kill, writeAt, a11, a21, a31, a41, a51, a61, a71, isNil, hget, h0, h3, hcl, hix, hle, hrow, hne, hbn, tokC, spT3, List.getElem?_cons_zero, List.getElem?_cons_succ]
      · simp [-getElem?_pos, R_nil, R_cons, RS_some, sameV_some, seesQ_some, List.take, List.take_succ_cons, List.take_zero, go_sem, get_alloc, n_alloc, get_set, n_set, get_kill, n_kill, writeAt, a11, a21, a31, a41, a51, a61, a71, isNil, hget, h0, h3, hcl, hix, hle, hrow, hne, hbn, tokC, spT3, List.getElem?_cons_zero, List.getElem?_cons_succ]
      simp [go_sem, get_alloc, n_alloc, get_set, n_set, get_kill, n_kill, writeAt, a11, a21, a31, a41, a51, a61, a71, isNil, hget, h0, h3, hcl, hix, hle, hrow, hbn, tokC, spT3, hq, hq6, hq7, hq8, e1, hget1, h31, hw, hle1, hsp1, hbid, hq2, hq3]
      simp [go_sem, endP, endI, resultsA, resultA, freezeL, freezeV, AV.free.freeL, AV.free, packA, dropS]
      exact ⟨_, _, ⟨rfl, rfl⟩, hK _ _ ⟨rfl, rfl⟩⟩
    · simp [f_engine_runner_step, env0, go_sem, get_alloc, n_alloc, get_set, n_set, get_kill, n_kill, writeAt, a11, a21, a31, a41, a51, a61, a71, isNil, hget, h0, h3, hcl, hix, hle, hrow]
      refine ⟨⟨sees_of rfl ?_, sees_of rfl ?_, sees_of rfl ?_⟩, ?_⟩
      · simp [-getElem?_pos, R_nil, R_cons, RS_some, sameV_some, seesQ_some, List.take, List.take_succ_cons, List.take_zero, go_sem, get_alloc, n_alloc, get_set, n_set, get_kill, n_kill, writeAt, a11, a21, a31, a41, a51, a61, a71, isNil, hget, h0, h3, hcl, hix, hle, hrow, hne, hbn, tokC, spT3, List.getElem?_cons_zero, List.getElem?_cons_succ]
      · simp [-getElem?_pos, R_nil, R_cons, RS_some, sameV_some, seesQ_some, List.take, List.take_succ_cons, List.take_zero, go_sem, get_alloc, n_alloc, get_set, n_set, get_kill, n_kill, writeAt, a11, a21, a31, a41, a51, a61, a71, isNil, hget, h0, h3, hcl, hix, hle, hrow, hne, hbn, tokC, spT3, List.getElem?_cons_zero, List.getElem?_cons_succ]
      · simp [-getElem?_pos, R_nil, R_cons, RS_some, sameV_some, seesQ_some, List.take, List.take_succ_cons, List.take_zero, go_sem, get_alloc, n_alloc, get_set, n_set, get_kill, n_kill, writeAt, a11, a21, a31, a41, a51, a61, a71, isNil, hget, h0, h3, hcl, hix, hle, hrow, hne, hbn, tokC, spT3, List.getElem?_cons_zero, List.getElem?_cons_succ]
      simp [go_sem, get_alloc, n_alloc, get_set, n_set, get_kill, n_kill, writeAt, a11, a21, a31, a41, a51, a61, a71, isNil, hget, h0, h3, hcl, hix, hle, hrow, hbn, tokC, spT3, hq, hq6, hq7, hq8, e1, hget1, h31, hw, hle1, hsp1, hbid, hq2, hq3, hq4]
      simp [go_sem, endP, endI, resultsA, resultA, freezeL, freezeV, AV.free.freeL, AV.free, packA, dropS]
      exact ⟨_, _, ⟨rfl, rfl⟩, hK _ _ ⟨rfl, rfl⟩⟩
    · simp [f_engine_runner_step, env0, go_sem, get_alloc, n_alloc, get_set, n_set, get_kill, n_kill, writeAt, a11, a21, a31, a41, a51, a61, a71, isNil, hget, h0, h3, hcl, hix, hle, hrow]
      refine ⟨⟨sees_of rfl ?_, sees_of rfl ?_, sees_of rfl ?_⟩, ?_⟩
      · simp [-getElem?_pos, R_nil, R_cons, RS_some, sameV_some, seesQ_some, List.take, List.take_succ_cons, List.take_zero, go_sem, get_alloc, n_alloc, get_set, n_set, get_kill, n_kill, writeAt, a11, a21, a31, a41, a51, a61, a71, isNil, hget, h0, h3, hcl, hix, hle, hrow, hne, hbn, tokC, spT3, List.getElem?_cons_zero, List.getElem?_cons_succ]
      · simp [-getElem?_pos, R_nil, R_cons, RS_some, sameV_some, seesQ_some, List.take, List.take_succ_cons, List.take_zero, go_sem, get_alloc, n_alloc, get_set, n_set, get_kill, n_kill, writeAt, a11, a21, a31, a41, a51, a61, a71, isNil, hget, h0, h3, hcl, hix, hle, hrow, hne, hbn, tokC, spT3, List.getElem?_cons_zero, List.getElem?_cons_succ]
      · simp [-getElem?_pos, R_nil, R_cons, RS_some, sameV_some, seesQ_some, List.take, List.take_succ_cons, List.take_zero, go_sem, get_alloc, n_alloc, get_set, n_set, get_kill, n_kill, writeAt, a11, a21, a31, a41, a51, a61, a71, isNil, hget, h0, h3, hcl, hix, hle, hrow, hne, hbn, tokC, spT3, List.getElem?_cons_zero, List.getElem?_cons_succ]
      simp [go_sem, get_alloc, n_alloc, get_set, n_set, get_kill, n_kill, writeAt, a11, a21, a31, a41, a51, a61, a71, isNil, hget, h0, h3, hcl, hix, hle, hrow, hbn, tokC, spT3, hq, hq6, hq7, hq8, e1, hget1, h31, hw, hle1, hsp1, hbid, hq2, hq3, hq4, hq5]
      simp [go_sem, endP, endI, resultsA, resultA, freezeL, freezeV, AV.free.freeL, AV.free, packA, dropS]
      exact ⟨_, _, ⟨rfl, rfl⟩, hK _ _ ⟨rfl, rfl⟩⟩)
  exact ⟨_, own1, call_of tb_engine_runner_step hcall, v2, x2, r2, (tokZ_kp (k := k)).trans Agr.ext (k1.trans a1 (k2.le fun k h => tS_P h)), Agr.trans Agr.ext a1 (by rw [tokZ_n]; omega)⟩
end
end Go.Ev
set_option linter.unusedSectionVars false
namespace Go.Ev
open Go
def grow1 (m : Mem) : Mem := ⟨m.b ++ List.replicate 64 0, m.most, m.dirty ++ [true]⟩
def growK : Nat → Mem → Mem
  | 0, m => m
  | k + 1, m => growK k (grow1 m)
theorem growK_eq : ∀ (k : Nat) (m : Mem), growK k m = ⟨m.b ++ List.replicate (k * 64) 0, m.most, m.dirty ++ List.replicate k true⟩
  | 0, m => by simp [growK]
  | k + 1, m => by
    rw [growK, growK_eq k]
    simp only [grow1, List.append_assoc]
    rw [List.replicate_append_replicate, List.replicate_succ, show 64 + k * 64 = (k + 1) * 64 by omega]
    rfl
def t345 : Nat → Prop := fun k => k = 3 ∨ k = 4 ∨ k = 5
theorem spM0 (a b c v : AV) : splice [a, b, c] 0 [v] = [v, b, c] := Eq.trans rfl rfl
theorem spM2 (a b c v : AV) : splice [a, b, c] 2 [v] = [a, b, v] := Eq.trans rfl rfl
section
variable {bar b : Nat} {g : H} {own : Nat → Nat} {C : Cx} {tr val : Int} {ids : List Nat} {t : Nat} {f : Fm} {id i M : Nat} {m : Mem}
theorem grow_loop (was n : Int) (hn64 : n ≤ 64) (hb : bar ≤ b) (Q : Ex → Env → H → Prop) : ∀ (k i : Nat) (g : H) (own : Nat → Nat) (m : Mem), n = (i : Int) + k → b ≤ g.n → MemO g b own M m → (m.dirty.length : Int) + k ≤ m.most →
    (∀ e g' own', MemO g' b own' M (growK k m) → Kp own t345 g g' → Agr g.n own own' → e.get 5 = some (.int .i64 was) → Q (.exit 0) e g') →
    wpL (call tb prim) bar [0, 5, 20, 21] l0_cells_Memory_Grow [(0, .ptr M 0), (5, .int .i64 was), (20, .int .i64 n), (21, .int .i64 i)] g Q
  | 0, i, g, own, m, hk, hbg, vm, hmo, hq => by
    refine M_loop l0_cells_Memory_Grow.eq_1 ?_
    have hlt : ¬ (i : Int) < n := by omega
    simp [go_sem, hlt]
    exact hq _ _ own vm Kp.refl Agr.refl rfl
  | k + 1, i, g, own, m, hk, hbg, vm, hmo, hq => by
    have vm' := vm
    obtain ⟨⟨ba, da, hv, hba, hda⟩, hoM⟩ := vm'
    have hlt : (i : Int) < n := by omega
    have hw := w64_succ (n := i) (by omega)
    have hg := hv.get
    have hlen : m.b.length ≤ 4096 := by have := hv.sz; have := hv.m0; have := hv.m1; omega
    have hd64 : m.dirty.length < 64 := by have := hv.m0; omega
    obtain ⟨g1, e1, o1, n1, f1⟩ := (hv.ob.bar_le hb).appA (bar := bar) (by omega) 1 64 (byC (List.replicate 64 0)) (by omega) (by simp [byC]) (by rw [← rep_byte]; exact rep_one rfl 64) (by omega) (by omega)
    have hMlt := hv.lt
    have gM1 : g1.get M = some (.cells [ba, .int .i64 m.most, da] 0) := by rw [f1 M hMlt hv.nb]; exact hg
    obtain ⟨g2, hg2⟩ : ∃ g2, g2 = g1.set M (.cells [.sl g.n 0 1 (m.b.length + 64) false, .int .i64 m.most, da] 0) := ⟨_, rfl⟩
    have n2 : g2.n = g.n + 1 := by rw [hg2, n_set]; exact n1
    have e12 : g1.n = g2.n := by omega
    have gM2 : g2.get M = some (.cells [.sl g.n 0 1 (m.b.length + 64) false, .int .i64 m.most, da] 0) := by rw [hg2, get_set, if_pos rfl]
    have od2 : OW 1 g2 bar da m.dirty.length (boC m.dirty) := (hv.od.bar_le hb).mono (by omega) (fun j hj => by
      rw [hg2, get_set_ne (fun q : j = M => hv.nd (by rw [← q]; exact hj)), f1 j (hv.od.at_lt hj).2 (fun q => hv.ap j q hj)])
    obtain ⟨g3, e3, o3, n3, f3⟩ := od2.app (by omega) 1 [.bool true] rfl rfl (by omega) (by omega) (by omega)
    have gM3 : g3.get M = some (.cells [.sl g.n 0 1 (m.b.length + 64) false, .int .i64 m.most, da] 0) := by rw [f3 M (by omega) hv.nd]; exact gM2
    obtain ⟨g4, hg4⟩ : ∃ g4, g4 = g3.set M (.cells [.sl g.n 0 1 (m.b.length + 64) false, .int .i64 m.most, .sl (g2.n + 1) 0 1 (m.dirty.length + 1) false] 0) := ⟨_, rfl⟩
    have n4 : g4.n = g.n + 3 := by rw [hg4, n_set]; omega
    have hbM : bar ≤ M := Nat.le_trans hb hv.bM
    have hgn : ¬ da.isAt g.n := fun q => by have := (hv.od.at_lt q).2; omega
    have hV : MemV g4 b M (grow1 m) (.sl g.n 0 1 (m.b.length + 64) false) (.sl (g2.n + 1) 0 1 (m.dirty.length + 1) false) := by
      refine ⟨by rw [hg4, get_set, if_pos rfl]; rfl, hv.bM, by omega, ?_, ?_, fun q => by cases q; omega, fun q => by cases q; omega, fun j h1 h2 => by have h1' : g.n = j := h1; have h2' : g2.n + 1 = j := h2; omega, ?_, hv.m0, ?_, ?_⟩
      · have := (o1.up (b := b) (fun j hj => by cases hj; omega)).mono (h' := g4) (by omega) (fun j hj => by cases hj; rw [hg4, get_set_ne (by omega), f3 _ (by omega) hgn, hg2, get_set_ne (by omega)])
        simpa [grow1, byC] using this
      · have := (o3.up (b := b) (fun j hj => by cases hj; omega)).mono (h' := g4) (by omega) (fun j hj => by cases hj; rw [hg4, get_set_ne (by omega)])
        simpa [grow1, boC] using this
      · have := hv.sz; simp [grow1]; omega
      · simp [grow1]; omega
      · intro x hx
        simp only [grow1, List.mem_append] at hx
        rcases hx with hx | hx
        · exact hv.rng x hx
        · rw [List.eq_of_mem_replicate hx]; omega
    have hag : Agr g.n own (ext (ext own g.n 4) (g.n + 1) 5) := Agr.trans Agr.ext Agr.ext (by omega)
    have hO : MemO g4 b (ext (ext own g.n 4) (g.n + 1) 5) M (grow1 m) :=
      ⟨⟨_, _, hV, fun j hj => by cases hj; simp [ext], fun j hj => by cases hj; simp only [ext]; rw [if_neg (by omega)]⟩, by rw [hag M hMlt]; exact hoM⟩
    have hkp : Kp own t345 g g4 := ⟨by omega, fun j hj hs => by
      rw [hg4, get_set_ne (fun q => hs (.inl (by rw [q]; exact hoM))), f3 j (by omega) (fun q => hs (.inr (.inr (hda j q)))), hg2, get_set_ne (fun q => hs (.inl (by rw [q]; exact hoM))), f1 j hj (fun q => hs (.inr (.inl (hba j q))))]⟩
    refine M_loop l0_cells_Memory_Grow.eq_1 ?_
    simp [go_sem, get_alloc, n_alloc, get_set, n_set, get_kill, n_kill, writeAt, a11, a21, a31, a41, a51, a61, a71, isNil, hlt, hg, spM0, spM2, hbM]
    rw [rep_byte, e1]
    simp [go_sem, get_alloc, n_alloc, get_set, n_set, get_kill, n_kill, writeAt, a11, a21, a31, a41, a51, a61, a71, isNil, gM1, spM0, hbM]
    rw [← hg2]
    simp [go_sem, get_alloc, n_alloc, get_set, n_set, get_kill, n_kill, writeAt, a11, a21, a31, a41, a51, a61, a71, isNil, gM2, evParts, fillA, sp10]
    rw [e12, e3]
    simp [go_sem, get_alloc, n_alloc, get_set, n_set, get_kill, n_kill, writeAt, a11, a21, a31, a41, a51, a61, a71, isNil, spM2, hbM, gM3]
    rw [← hg4, hw]
    refine grow_loop was n hn64 hb Q k (i + 1) g4 _ (grow1 m) (by omega) (by omega) hO (by simp [grow1]; omega) (fun e g' own' h1 h2 h3 h4 => ?_)
    exact hq e g' own' h1 (hkp.trans hag h2) (Agr.trans hag h3 (by omega)) h4
end
end Go.Ev
set_option linter.unusedSectionVars false
namespace Go.Ev
open Go
section
variable {bar b : Nat} {g : H} {own : Nat → Nat} {C : Cx} {tr val : Int} {ids : List Nat} {t : Nat} {f : Fm} {id i M : Nat} {m : Mem} {r : Row}
theorem grow_ok (vm : MemO g b own M m) (hb : bar ≤ b) (hbg : b ≤ g.n) (n : Int) :
    ∃ g' own', call tb prim n_cells_Memory_Grow [.ptr M 0, .int .i64 n] bar g = some (.int .i64 (growM m n).2, g') ∧ MemO g' b own' M (growM m n).1 ∧ Kp own t345 g g' ∧ Agr g.n own own' := by
  have vm' := vm
  obtain ⟨⟨ba, da, hv, hba, hda⟩, hoM⟩ := vm'
  have hg := hv.get
  have e0 := pages_ok (bar := bar) hv
  have hm0 := hv.m0
  have hm1 := hv.m1
  have hw : IntKind.i64.wrap (m.most - (m.dirty.length : Int)) = m.most - m.dirty.length := w64 (by omega) (by omega)
  by_cases h0 : n < 0
  · obtain ⟨y, g9, hcall, rfl, rfl⟩ := callF_K (o := call tb prim) (F := f_cells_Memory_Grow) (bar := bar) (h := g) (args := [.ptr M 0, .int .i64 n]) (P := fun y g9 => y = .int .i64 (-1) ∧ g9 = g) rfl rfl (fun K hK => by
      have d0 : decide (n < 0) = true := by simpa using h0
      simp [f_cells_Memory_Grow, env0, go_sem, get_alloc, n_alloc, get_set, n_set, get_kill, n_kill, writeAt, a11, a21, a31, a41, a51, a61, a71, isNil, e0, d0]
      simp [go_sem, endP, endI, resultsA, resultA, freezeL, freezeV, AV.free.freeL, AV.free, packA, dropS]
      exact ⟨_, _, ⟨rfl, rfl⟩, hK _ _ ⟨rfl, rfl⟩⟩)
    have e : growM m n = (m, -1) := by unfold growM; rw [if_pos (.inl h0)]
    rw [e]
    exact ⟨_, own, call_of tb_cells_Memory_Grow hcall, vm, Kp.refl, Agr.refl⟩
  · have d0 : decide (n < 0) = false := by simpa using h0
    by_cases h1 : n > m.most - m.dirty.length
    · obtain ⟨y, g9, hcall, rfl, rfl⟩ := callF_K (o := call tb prim) (F := f_cells_Memory_Grow) (bar := bar) (h := g) (args := [.ptr M 0, .int .i64 n]) (P := fun y g9 => y = .int .i64 (-1) ∧ g9 = g) rfl rfl (fun K hK => by
        have d1 : decide (m.most - (m.dirty.length : Int) < n) = true := by simpa using h1
        simp [f_cells_Memory_Grow, env0, go_sem, get_alloc, n_alloc, get_set, n_set, get_kill, n_kill, writeAt, a11, a21, a31, a41, a51, a61, a71, isNil, e0, d0, hg, hw, d1]
        simp [go_sem, endP, endI, resultsA, resultA, freezeL, freezeV, AV.free.freeL, AV.free, packA, dropS]
        exact ⟨_, _, ⟨rfl, rfl⟩, hK _ _ ⟨rfl, rfl⟩⟩)
      have e : growM m n = (m, -1) := by unfold growM; rw [if_pos (.inr h1)]
      rw [e]
      exact ⟨_, own, call_of tb_cells_Memory_Grow hcall, vm, Kp.refl, Agr.refl⟩
    · have e : growM m n = (growK n.toNat m, (m.dirty.length : Int)) := by
        unfold growM; rw [if_neg (by omega), growK_eq]
      rw [e]
      obtain ⟨y, g9, hcall, rfl, own', h2, h3, h4⟩ := callF_K (o := call tb prim) (F := f_cells_Memory_Grow) (bar := bar) (h := g) (args := [.ptr M 0, .int .i64 n]) (P := fun y g9 => y = .int .i64 m.dirty.length ∧ ∃ own', MemO g9 b own' M (growK n.toNat m) ∧ Kp own t345 g g9 ∧ Agr g.n own own') rfl rfl (fun K hK => by
        have d1 : decide (m.most - (m.dirty.length : Int) < n) = false := by simpa using h1
        simp [f_cells_Memory_Grow, env0, go_sem, get_alloc, n_alloc, get_set, n_set, get_kill, n_kill, writeAt, a11, a21, a31, a41, a51, a61, a71, isNil, e0, d0, hg, hw, d1]
        refine grow_loop m.dirty.length n (by omega) hb _ n.toNat 0 g own m (by omega) hbg vm (by omega) (fun e g' own' h1 h2 h3 h4 => ?_)
        simp [go_sem, endP, endI, resultsA, resultA, freezeL, freezeV, AV.free.freeL, AV.free, packA, dropS, h4]
        exact ⟨_, _, ⟨rfl, rfl⟩, hK _ _ ⟨rfl, own', h1, h2, h3⟩⟩)
      exact ⟨_, own', call_of tb_cells_Memory_Grow hcall, h2, h3, h4⟩
theorem mem_grow {a : Int} {st : List Int} (vx : XO g b own C tr val ids) (vf : FrO g b own t f id) (vm : MemO g b own C.M m) (hb : bar ≤ b) (hbg : b ≤ g.n) (hst : f.st = a :: st) :
    MemR bar b g own C val ids t f id 164 (some ((growM m a).2 :: st, (growM m a).1, tr)) := by
  rintro st0 m0 tr0 h
  cases h
  have hsm := vf.sm
  rw [hst] at hsm
  obtain ⟨g1, e1, v1, k1⟩ := pop_o vf hst hb
  have x1 := vx.mono k1 Agr.refl (tS1 t)
  have m1 := vm.mono k1 Agr.refl (tS3 t)
  have hbg1 : b ≤ g1.n := Nat.le_trans hbg k1.1
  obtain ⟨g2, own2, e2, m2, k2, a2⟩ := grow_ok m1 hb hbg1 a
  have x2 := x1.mono k2 a2 (by unfold t345; omega)
  have v2 := v1.mono k2 a2 (by unfold t345; omega) (by unfold t345; omega)
  obtain ⟨g3, own3, e4, v3, k3, a3⟩ := push_o v2 hb (by have := k2.1; omega) (by simp at hsm ⊢; omega) (growM m a).2
  have x3 := x2.mono k3 a3 (tS1 t)
  have m3 := m2.mono k3 a3 (tS3 t)
  have hk : Kp own (tM t) g g3 := (k1.le fun k h => tS_M h).trans Agr.refl ((k2.le fun k h => by unfold t345 at h; unfold tM; omega).trans a2 (k3.le fun k h => tS_M h))
  obtain ⟨cs, c1, c2, _⟩ := vx.cell4
  obtain ⟨cs', c1', c2', _⟩ := x1.cell4
  obtain ⟨cs'', c1'', c2'', _⟩ := x2.cell4
  obtain ⟨x, g4, hcall, rfl, rfl⟩ := callF_K (o := call tb prim) (F := f_engine_runner_memory) (bar := bar) (h := g) (args := [.ptr C.X 0, .ptr id 0, .int .i32 164]) (P := fun x g4 => x = .tup [] ∧ g4 = g3) rfl rfl (fun K hK => by
    simp [f_engine_runner_memory, env0, go_sem, get_alloc, n_alloc, get_set, n_set, get_kill, n_kill, writeAt, a11, a21, a31, a41, a51, a61, a71, isNil, c1, c2, e1, e2, e4]
    refine ⟨sees_of rfl ?_, ?_⟩
    · simp [-getElem?_pos, R_nil, R_cons, RS_some, sameV_some, seesQ_some, List.take, List.take_succ_cons, List.take_zero, go_sem, get_alloc, n_alloc, get_set, n_set, get_kill, n_kill, writeAt, a11, a21, a31, a41, a51, a61, a71, isNil, c1, c2, c1', c2', c1'', c2'', e1, e2, List.getElem?_cons_zero, List.getElem?_cons_succ]
    simp [go_sem, endP, endI, resultsA, resultA, freezeL, freezeV, AV.free.freeL, AV.free, packA, dropS]
    exact ⟨_, _, ⟨rfl, rfl⟩, hK _ _ ⟨rfl, rfl⟩⟩)
  exact ⟨_, own3, call_of tb_engine_runner_memory hcall, v3, x3, m3, hk, Agr.trans (Agr.trans Agr.refl a2 k1.1) a3 (by have := k1.1; have := k2.1; omega)⟩
theorem mem_all (vx : XO g b own C tr val ids) (vf : FrO g b own t f id) (vm : MemO g b own C.M m) (hb : bar ≤ b) (hbg : b ≤ g.n) (hsm : f.st.length < 3000000) {sg : Int} (hsg : isMemS sg = true) :
    MemR bar b g own C val ids t f id sg (memS sg f.st m tr) := by
  have hsg' : sg = 64 ∨ sg = 169 ∨ sg = 36 ∨ sg = 174 ∨ sg = 35 ∨ sg = 164 := by simpa [isMemS] using hsg
  intro st m' tr' h
  unfold memS at h
  split at h
  · rename_i hc
    split at h
    · cases h
    · rename_i a st0 hst
      exact mem_load vx vf vm hb hbg hst hc _ _ _ h
  · split at h
    · rename_i hc
      split at h
      · rename_i n a st0 hst
        exact mem_store vx vf vm hb hbg hst hc _ _ _ h
      · cases h
    · split at h
      · rename_i hc
        subst hc
        exact mem_pages vx vf vm hb hbg hsm _ _ _ h
      · split at h
        · cases h
        · rename_i a st0 hst
          have hz : sg = 164 := by omega
          subst hz
          exact mem_grow vx vf vm hb hbg hst _ _ _ h
theorem plain_all {k : Tok} (vx : XO g b own C tr val ids) (vf : FrO g b own t f id) (vr : RowO g b own C.R r) (hb : bar ≤ b) (hbg : b ≤ g.n) (hsm : f.st.length < 3000000) (hsr : r.asks.length < 2000000) :
    PlainR bar b g own C val ids t f id k (plainF k f.st r tr) := by
  intro st r' tr' h
  unfold plainF at h
  split at h
  · rename_i hc
    split at h
    · cases h
    · rename_i a st0 hst
      exact plain_dup vx vf vr hb hbg hst hsm hc _ _ _ h
  · rename_i q1
    split at h
    · rename_i hc
      split at h
      · cases h
      · rename_i a st0 hst
        exact plain_drop vx vf vr hb hbg hst hc _ _ _ h
    · rename_i q2
      split at h
      · rename_i hc
        exact plain_skip vx vf vr hc _ _ _ h
      · rename_i q3
        split at h
        · rename_i hc
          exact plain_halt vx vf vr hb hc _ _ _ h
        · rename_i q4
          split at h
          · rename_i hc
            split at h
            · cases h
            · rename_i a st0 hst
              exact plain_ask vx vf vr hb hbg hst hsr hc _ _ _ h
          · rename_i q5
            split at h
            · rename_i hc
              split at h
              · cases h
              · rename_i a st0 hst
                exact plain_not vx vf vr hb hbg hst hc _ _ _ h
            · rename_i q6
              split at h
              · rename_i c a st0 hst
                exact plain_two vx vf vr hb hbg hst ⟨q1, q2, fun q => q3 (.inl q), fun q => q3 (.inr q), q4, q5, q6⟩ _ _ _ h
              · cases h
end
end Go.Ev
set_option linter.unusedSectionVars false
namespace Go.Ev
open Go
def sigOk (s : Int) : Bool := decide (s = 48 ∨ (97 ≤ s ∧ s ≤ 122) ∨ (65 ≤ s ∧ s ≤ 90) ∨ s = 955) || sgG s
def FrSg (fr : List Fm) : Prop := ∀ f ∈ fr, ∀ k ∈ f.c.l, sigOk k.sign = true
section
variable {bar b : Nat} {g : H} {own : Nat → Nat} {C : Cx} {val : Int} {ids : List Nat} {f : Fm} {i : Nat}
/-- The other parts stay. -/
theorem XV.put {g' : H} {own' : Nat → Nat} {S : Nat → Prop} {s : Mc} {r : List Fm} {f' : Fm} (v : XV g b own C s val (i :: ids)) (hfr : s.fr = f :: r) (k : Kp own S g g') (a : Agr g.n own own') (x : XO g' b own' C s.trap val (i :: ids)) (fo : FrO g' b own' r.length f' i) (h0 : ¬ S 0) (hs : ∀ t, t < r.length → ¬ S (2 * t + 10) ∧ ¬ S (2 * t + 11)) (hm : ¬ S 3 ∧ ¬ S 4 ∧ ¬ S 5) (hr : ¬ S 6 ∧ ¬ S 7 ∧ ¬ S 8) : XV g' b own' C { s with fr := f' :: r } val (i :: ids) :=
  have hv := v.fr
  have hv2 : FrsV g b own (f :: r) (i :: ids) := hfr ▸ hv
  ⟨x, v.cx.mono k a h0, ⟨fo, FrsV.mono k a hv2.2 hs⟩, v.m.mono k a hm, v.r.mono k a hr, by have := k.1; have := v.bn; omega⟩
theorem tS_lt {t u : Nat} (h : u < t) : ¬ tS t (2 * u + 10) ∧ ¬ tS t (2 * u + 11) := by unfold tS; omega
theorem step_ok {s s' : Mc} {r : List Fm} (v : XV g b own C s val (i :: ids)) (hfr : s.fr = f :: r) (hb : bar ≤ b) (hst : stepM C.fs (C.rows.map (·.2.2)) s = some s') (hg : FrSg s.fr) (hT : totS s.fr < 3000000) (hsr : s.r.asks.length < 2000000) (hids : ids.length < 999) :
    ∃ g' own' ids', call tb prim n_engine_runner_step [.ptr C.X 0, .ptr i 0] bar g = some (.tup [], g') ∧ XV g' b own' C s' val ids' ∧ Kp own tA g g' ∧ Agr g.n own own' := by
  have hv : FrsV g b own (f :: r) (i :: ids) := hfr ▸ v.fr
  have vf := hv.1
  have hln : ids.length = r.length := hv.2.len
  have hbg := v.bn
  have hsm : f.st.length < 3000000 := by rw [hfr] at hT; simp only [totS] at hT; omega
  unfold stepM at hst
  rw [hfr] at hst
  simp only at hst
  split at hst
  · cases hst
  · rename_i k hk
    have hkg : sigOk k.sign = true := hg f (by rw [hfr]; exact List.mem_cons_self ..) k (List.mem_of_getElem? hk)
    split at hst
    · rename_i q
      cases hst
      obtain ⟨g', own', e, fo, kp, ag⟩ := step_num (bar := bar) vf hb hbg hk q hsm (.ptr C.X 0)
      exact ⟨g', own', _, e, v.put hfr kp ag (v.x.mono kp ag (tS1 _)) fo (tS0 _) (fun t ht => tS_lt ht) (tS3 _) (tS6 _), kp.le fun k h => tS_A h, ag⟩
    · rename_i q1
      split at hst
      · rename_i q
        split at hst
        · cases hst
        · rename_i x hx
          cases hst
          obtain ⟨g', own', e, fo, kp, ag⟩ := step_get (bar := bar) vf hb hbg hk q hx hsm (.ptr C.X 0)
          exact ⟨g', own', _, e, v.put hfr kp ag (v.x.mono kp ag (tS1 _)) fo (tS0 _) (fun t ht => tS_lt ht) (tS3 _) (tS6 _), kp.le fun k h => tS_A h, ag⟩
      · rename_i q2
        split at hst
        · rename_i q
          split at hst
          · cases hst
          · rename_i x st hx
            cases hst
            obtain ⟨g', own', e, fo, kp, ag⟩ := step_set (bar := bar) vf hb hbg hk q hx (.ptr C.X 0)
            exact ⟨g', own', _, e, v.put hfr kp ag (v.x.mono kp ag (tS1 _)) fo (tS0 _) (fun t ht => tS_lt ht) (tS3 _) (tS6 _), kp.le fun k h => tS_A h, ag⟩
        · rename_i q3
          split at hst
          · rename_i q
            split at hst
            · cases hst
            · rename_i c hc
              split at hst
              · cases hst
              · rename_i q5
                rw [List.getElem?_map] at hc
                cases hx : C.rows[(findN k.name C.fs 0).toNat]? with
                | none => rw [hx] at hc; cases hc
                | some x =>
                  rw [hx] at hc
                  simp only [Option.map_some, Option.some.injEq] at hc
                  obtain ⟨g', own', e, fo, kp, ag, hh⟩ := step_call (bar := bar) (a := c.args.toNat) v.x v.cx vf hb hbg hk q (kk := (findN k.name C.fs 0).toNat) (by omega) hx (by rw [hc]; omega) (by omega) (by simp; omega)
                  have hlt : ∀ t, t < r.length → ¬ tC r.length (2 * t + 10) ∧ ¬ tC r.length (2 * t + 11) := fun t ht => by unfold tC tS; omega
                  have h0 : ¬ tC r.length 0 := by unfold tC tS; omega
                  have h3 : ¬ tC r.length 3 ∧ ¬ tC r.length 4 ∧ ¬ tC r.length 5 := by unfold tC tS; omega
                  have h6 : ¬ tC r.length 6 ∧ ¬ tC r.length 7 ∧ ¬ tC r.length 8 := by unfold tC tS; omega
                  split at hst
                  · rename_i hd
                    cases hst
                    rcases hh with ⟨_, hx6⟩ | ⟨hn, _⟩
                    · exact ⟨g', own', _, e, ⟨hx6, v.cx.mono kp ag h0, ⟨fo, FrsV.mono kp ag hv.2 hlt⟩, v.m.mono kp ag h3, v.r.mono kp ag h6, by have := kp.1; omega⟩, kp.le fun k h => tC_A h, ag⟩
                    · exfalso; simp at hn hd; omega
                  · rename_i hd
                    cases hst
                    rcases hh with ⟨hn, _⟩ | ⟨_, j, hxj, hfj⟩
                    · exfalso; simp at hn hd; omega
                    · refine ⟨g', own', j :: i :: ids, e, ⟨hxj, v.cx.mono kp ag h0, ⟨?_, fo, FrsV.mono kp ag hv.2 hlt⟩, v.m.mono kp ag h3, v.r.mono kp ag h6, by have := kp.1; omega⟩, kp.le fun k h => tC_A h, ag⟩
                      rw [hc] at hfj
                      have : (i :: ids).length = ({ f with at' := f.at' + 1, st := f.st.drop c.args.toNat } :: r).length := by simp [hln]
                      rw [← this]
                      exact hfj
          · rename_i q4
            have hsg : sgG k.sign = true := by
              have := hkg
              unfold sigOk at this
              simp only [Bool.or_eq_true, decide_eq_true_eq] at this
              rcases this with h | h
              · omega
              · exact h
            split at hst
            · rename_i hgo
              have hX := fun (g1 : H) (f' : Fm) (fo : FrO g1 b (ext own g.n 0) r.length f' i) (hk1 : Kp (ext own g.n 0) (tS r.length) (tokZ g k) g1) => True
              have vz := vf.mono (tokZ_kp (k := k) (S := fun _ => False)) (Agr.ext (k := 0)) (by simp) (by simp)
              have hgz : b ≤ (tokZ g k).n := by rw [tokZ_n]; omega
              have fin : ∀ f' : Fm, (∃ g1, call tb prim n_engine_runner_goes [.ptr C.X 0, .ptr i 0, .int .i32 k.sign] bar (tokZ g k) = some (.tup [], g1) ∧ FrO g1 b (ext own g.n 0) r.length f' i ∧ Kp (ext own g.n 0) (tS r.length) (tokZ g k) g1) →
                  ∃ g' own' ids', call tb prim n_engine_runner_step [.ptr C.X 0, .ptr i 0] bar g = some (.tup [], g') ∧ XV g' b own' C { s with fr := f' :: r } val ids' ∧ Kp own tA g g' ∧ Agr g.n own own' := fun f' hG => by
                obtain ⟨g', own', e, fo, kp, ag⟩ := step_goes (bar := bar) vf hb hk hsg hgo (.ptr C.X 0) hG hbg
                exact ⟨g', own', _, e, v.put hfr kp ag (v.x.mono kp ag (tS1 _)) fo (tS0 _) (fun t ht => tS_lt ht) (tS3 _) (tS6 _), kp.le fun k h => tS_A h, ag⟩
              split at hst
              · rename_i q63
                split at hst
                · cases hst
                · rename_i vv st hfs
                  split at hst
                  · rename_i hne
                    cases hst
                    refine fin _ ?_
                    rw [q63]
                    exact goes_1 vz hfs hne hb (List.getElem?_eq_some_iff.mp hk).1 (.ptr C.X 0)
                  · rename_i hz
                    have hz' : vv = 0 := by simpa using hz
                    split at hst
                    · cases hst
                    · rename_i j hj
                      split at hst
                      · cases hst
                      · cases hst
                        refine fin _ ?_
                        rw [q63]
                        obtain ⟨j', rfl⟩ := Int.eq_ofNat_of_zero_le (show 0 ≤ j by omega)
                        exact goes_0 vz (by rw [hfs, hz']) hb hj (.ptr C.X 0)
              · rename_i q63
                split at hst
                · cases hst
                · rename_i j hj
                  split at hst
                  · cases hst
                  · cases hst
                    refine fin _ ?_
                    obtain ⟨j', rfl⟩ := Int.eq_ofNat_of_zero_le (show 0 ≤ j by omega)
                    exact goes_to vz hb hj (.ptr C.X 0) q63
            · rename_i hgo
              have hgo' : isGo k.sign = false := by simpa using hgo
              split at hst
              · rename_i hme
                split at hst
                · cases hst
                · rename_i st m' tr' hm
                  cases hst
                  obtain ⟨g', own', e, fo, xo, mo, kp, ag⟩ := step_mem (bar := bar) v.x vf v.m hb hbg hk hsg hgo' hme (fun own0 vx vf vm hbz => mem_all vx vf vm hb hbz hsm hme) st m' tr' hm
                  refine ⟨g', own', _, e, ⟨xo, v.cx.mono kp ag (by unfold tM tS; omega), ⟨fo, FrsV.mono kp ag hv.2 fun t ht => by unfold tM tS; omega⟩, mo, v.r.mono kp ag (by unfold tM tS; omega), by have := kp.1; omega⟩, kp.le fun k h => tM_A h, ag⟩
              · rename_i hme
                have hme' : isMemS k.sign = false := by simpa using hme
                split at hst
                · cases hst
                · rename_i st ro tr' hm
                  cases hst
                  obtain ⟨g', own', e, fo, xo, mo, kp, ag⟩ := step_plain (bar := bar) v.x vf v.r hb hbg hk hsg hgo' hme' (fun own0 vx vf vm hbz => plain_all vx vf vm hb hbz hsm hsr) st ro tr' hm
                  refine ⟨g', own', _, e, ⟨xo, v.cx.mono kp ag (by unfold tP tS; omega), ⟨fo, FrsV.mono kp ag hv.2 fun t ht => by unfold tP tS; omega⟩, v.m.mono kp ag (by unfold tP tS; omega), mo, by have := kp.1; omega⟩, kp.le fun k h => tP_A h, ag⟩
end
end Go.Ev
set_option linter.unusedSectionVars false
namespace Go.Ev
open Go
def goodF (fs : List Fn) (f : Fn) (i : Nat) : Bool := nameR f.name && (findN f.name fs 0 == i) && decide (0 ≤ f.args) && decide (f.args ≤ 4)
def namedN (fs : List Fn) : Nat → Nat → Bool
  | 0, _ => true
  | k + 1, i => match fs[i]? with
    | none => true
    | some f => if goodF fs f i then namedN fs k (i + 1) else false
def fnOf (fs : List Fn) (i : Nat) : Int := (funN (fun l => (nestP l).isSome) fs i).2
def funsN (fs : List Fn) : Nat → Nat → Int
  | 0, _ => 0
  | k + 1, i => if fnOf fs i ≠ 0 then fnOf fs i else funsN fs k (i + 1)
def rightN (p m : Int) (fs : List Fn) : Int :=
  if p < 0 ∨ m < p ∨ 64 < m then 25 else
  if 32 < fs.length then 3 else
  if namedN fs fs.length 0 then funsN fs fs.length 0 else 12
section
variable {o : Oracle} {bar : Nat} {g : H}
/-- A row of a program's functions. -/
theorem S_frow {fa : AV} {fs : List Fn} (hv : FV g fa fs) {i : Nat} (hi : i < fs.length) {c d : Nat} {r : List IOper} {ks : List Fr} {e : Env} {Q : Ex → Env → H → Prop}
    (hw : ∀ u, wpX o bar r ks ((d, .agg fs[i].cells) :: (c, u) :: e) g Q) : wpS o bar (iadrR 3 (some fa) (some (.int .i64 (i : Int))) g) (some c) (⟨some d, .ld true 3 (.t c), none⟩ :: r) ks e Q := by
  have hix : indexIn (.int .i64 (i : Int)) fs.length = some i := by simp only [indexIn]; rw [if_pos (by omega), Int.toNat_natCast]
  rcases hv.cases with ⟨_, rfl⟩ | ⟨full, cs, rfl, hl, _, hy⟩ | ⟨id, off, full, all, p, rfl, hlt, hg, _, hy⟩
  · cases hi
  · obtain ⟨h1, h2⟩ := hy i hi
    simp [go_sem, hix, hl, h1, h2]
    exact hw _
  · obtain ⟨h1, h2⟩ := hy i hi
    simp [go_sem, hix, hg, h1, h2]
    exact hw _
theorem S_fld {fa : AV} {fs : List Fn} (hv : FV g fa fs) {i : Nat} (hi : i < fs.length) {c c' d : Nat} {r : List IOper} {ks : List Fr} {e : Env} {Q : Ex → Env → H → Prop}
    (hw : ∀ u v, wpX o bar r ks ((d, .int .i64 fs[i].args) :: (c', v) :: (c, u) :: e) g Q) : wpS o bar (iadrR 3 (some fa) (some (.int .i64 (i : Int))) g) (some c) (⟨some c', .fadr 1 (.t c), none⟩ :: ⟨some d, .ld false 1 (.t c'), none⟩ :: r) ks e Q := by
  have hix : indexIn (.int .i64 (i : Int)) fs.length = some i := by simp only [indexIn]; rw [if_pos (by omega), Int.toNat_natCast]
  rcases hv.cases with ⟨_, rfl⟩ | ⟨full, cs, rfl, hl, hx, _⟩ | ⟨id, off, full, all, p, rfl, hlt, hg, hx, _⟩
  · cases hi
  · obtain ⟨_, h2, _⟩ := hx i hi
    simp [go_sem, hix, hl, h2]
    exact hw _ _
  · obtain ⟨_, h2, _⟩ := hx i hi
    simp [go_sem, hix, hg, h2]
    exact hw _ _
end
section
variable {bar b : Nat} {g : H} {fa : AV} {fs : List Fn} {p m : Int}
theorem spF (a b c u v w : AV) : splice [a, b, c] 0 [u, v, w] = [u, v, w] := Eq.trans rfl rfl
theorem named_loop (hb : bar ≤ b) (Q : Ex → Env → H → Prop) (bx : Nat) (hbx : bx < b) : ∀ (k i : Nat) (g : H), fs.length = i + k → b ≤ g.n → FV g fa fs → g.get bx = some (.cells [.int .i64 p, .int .i64 m, fa] 0) →
    (namedN fs k i = true → ∀ e g', Q (.exit 0) e g') → (namedN fs k i = false → ∀ e g', e.get 2 = some (.bool false) → Q .ret e g') →
    wpL (call tb prim) bar [1, 6, 7, 8] l0_unit_named [(1, .ptr bx 0), (6, fa), (7, goI fs.length), (8, goI i)] g Q
  | 0, i, g, hk, hbg, hv, hgx, h1, h2 => by
    refine M_loop l0_unit_named.eq_1 ?_
    have hlt : ¬ (i : Int) < (fs.length : Int) := by omega
    simp [go_sem, goI, hlt]
    exact h1 rfl _ _
  | k + 1, i, g, hk, hbg, hv, hgx, h1, h2 => by
    refine M_loop l0_unit_named.eq_1 ?_
    have hi : i < fs.length := by omega
    have hlt : (i : Int) < (fs.length : Int) := by omega
    have hw := w64_succ (n := i) (by have := hv.2.1; omega)
    have hN : namedN fs (k + 1) i = if goodF fs fs[i] i then namedN fs k (i + 1) else false := by
      rw [namedN, List.getElem?_eq_getElem hi]
    obtain ⟨f, hf⟩ : ∃ f, f = fs[i] := ⟨_, rfl⟩
    rw [← hf] at hN
    obtain ⟨g1, hg1⟩ : ∃ g1, g1 = (g.alloc (.cells [.int .i32 0, .int .i64 0, .str ⟨#[]⟩] 0)).set g.n (.cells [.int .i32 f.name, .int .i64 f.args, .str f.code] 0) := ⟨_, rfl⟩
    have n1 : g1.n = g.n + 1 := by rw [hg1]; rfl
    have k1 : ∀ j, j < g.n → g1.get j = g.get j := fun j hj => by rw [hg1, get_set_ne (by omega), get_alloc, if_neg (by omega)]
    have hv1 : FV g1 fa fs := hv.keep (by omega) (fun j hj => k1 j (hv.at_lt' hj))
    have gx1 : g1.get bx = some (.cells [.int .i64 p, .int .i64 m, fa] 0) := by rw [k1 bx (by omega)]; exact hgx
    have gF : g1.get g.n = some (.cells [.int .i32 f.name, .int .i64 f.args, .str f.code] 0) := by rw [hg1, get_set, if_pos rfl]
    have eN := glyph_Name_ok (pr := prim) (bar := bar) (h := g1) f.name
    have eF := check_Find_ok (pr := prim) (bar := bar) (h := g1) fs fa f.name p m hv1
    have hbn : bar ≤ g.n := by omega
    simp [go_sem, goI, hlt]
    refine S_frow hv hi fun u => ?_
    rw [← hf]
    simp [go_sem, get_alloc, n_alloc, get_set, n_set, get_kill, n_kill, writeAt, a11, a21, a31, a41, a51, a61, a71, isNil, Fn.cells, spF, hbn]
    rw [← hg1]
    by_cases c1 : nameR f.name = true
    · by_cases c2 : findN f.name fs 0 = (i : Int)
      · by_cases c3 : 0 ≤ f.args
        · by_cases c4 : f.args ≤ 4
          · have hG : goodF fs f i = true := by simp [goodF, c1, c2, c3, c4]
            rw [hG, if_pos rfl] at hN
            rw [c1] at eN
            rw [c2] at eF
            have d3 : decide (f.args < 0) = false := by simpa using c3
            have d4 : decide (4 < f.args) = false := by simpa using c4
            simp [go_sem, get_alloc, n_alloc, get_set, n_set, get_kill, n_kill, writeAt, a11, a21, a31, a41, a51, a61, a71, isNil, gF, eN, gx1, eF, d3, d4, hw]
            exact named_loop hb Q bx hbx k (i + 1) g1 (by omega) (by omega) hv1 gx1 (fun h => h1 (by rw [hN]; exact h)) (fun h => h2 (by rw [hN]; exact h))
          · have hG : goodF fs f i = false := by simp [goodF, c4]
            rw [hG] at hN
            rw [c1] at eN
            rw [c2] at eF
            have d3 : decide (f.args < 0) = false := by simpa using c3
            have d4 : decide (4 < f.args) = true := by simpa using c4
            simp [go_sem, get_alloc, n_alloc, get_set, n_set, get_kill, n_kill, writeAt, a11, a21, a31, a41, a51, a61, a71, isNil, gF, eN, gx1, eF, d3, d4]
            exact h2 hN _ _ rfl
        · have hG : goodF fs f i = false := by simp [goodF, c3]
          rw [hG] at hN
          rw [c1] at eN
          rw [c2] at eF
          have d3 : decide (f.args < 0) = true := by simpa using c3
          simp [go_sem, get_alloc, n_alloc, get_set, n_set, get_kill, n_kill, writeAt, a11, a21, a31, a41, a51, a61, a71, isNil, gF, eN, gx1, eF, d3]
          exact h2 hN _ _ rfl
      · have hG : goodF fs f i = false := by simp [goodF, c2]
        rw [hG] at hN
        rw [c1] at eN
        have d2 : (findN f.name fs 0 != (i : Int)) = true := by simpa using c2
        simp [go_sem, get_alloc, n_alloc, get_set, n_set, get_kill, n_kill, writeAt, a11, a21, a31, a41, a51, a61, a71, isNil, gF, eN, gx1, eF, d2]
        exact h2 hN _ _ rfl
    · have c1' : nameR f.name = false := by simpa using c1
      have hG : goodF fs f i = false := by simp [goodF, c1']
      rw [hG] at hN
      rw [c1'] at eN
      simp [go_sem, get_alloc, n_alloc, get_set, n_set, get_kill, n_kill, writeAt, a11, a21, a31, a41, a51, a61, a71, isNil, gF, eN]
      exact h2 hN _ _ rfl
theorem unit_named_ok (hv : FV g fa fs) : call tb prim n_unit_named [.agg [.int .i64 p, .int .i64 m, fa]] bar g = some (.bool (namedN fs fs.length 0), g) := by
  refine call_of tb_unit_named (callF_pureW rfl rfl (M_in ?_))
  have hv1 : FV (g.alloc (.cells [.int .i64 p, .int .i64 m, fa] 0)) fa fs := hv.keep (by simp [n_alloc]) (fun j hj => by rw [get_alloc, if_neg (by have := hv.at_lt' hj; omega)])
  simp [f_unit_named, env0, go_sem, get_alloc, n_alloc, get_set, n_set, get_kill, n_kill, writeAt, a11, a21, a31, a41, a51, a61, a71, isNil, hv.one, hv.len, get_alloc]
  refine named_loop (bar := g.n) (b := g.n + 1) (p := p) (m := m) (by omega) _ g.n (by omega) fs.length 0 _ (by omega) (by simp [n_alloc]) hv1 (by simp [get_alloc]) (fun h e g' => ?_) (fun h e g' he => ?_)
  · simp [go_sem, endP, endI, resultsA, resultA, freezeL, freezeV, AV.free.freeL, AV.free, packA, dropS, h]
  · simp [go_sem, endP, endI, resultsA, resultA, freezeL, freezeV, AV.free.freeL, AV.free, packA, dropS, he, h]
theorem right_loop (Q : Ex → Env → H → Prop) (bx : Nat) : ∀ (k i : Nat), fs.length = i + k → FV g fa fs → g.get bx = some (.cells [.int .i64 p, .int .i64 m, fa] 0) →
    (funsN fs k i = 0 → ∀ e g', Q (.exit 1) e g') → (∀ x, funsN fs k i = x → ∀ e g', e.get 2 = some (.int .i64 x) → Q .ret e g') →
    wpL (call tb prim) bar [1, 33, 34] l0_unit_Right [(1, .ptr bx 0), (33, goI fs.length), (34, goI i)] g Q
  | 0, i, hk, hv, hgx, h1, h2 => by
    refine M_loop l0_unit_Right.eq_1 ?_
    have hlt : ¬ (i : Int) < (fs.length : Int) := by omega
    simp [go_sem, goI, hlt]
    exact h1 rfl _ _
  | k + 1, i, hk, hv, hgx, h1, h2 => by
    refine M_loop l0_unit_Right.eq_1 ?_
    have hi : i < fs.length := by omega
    have hlt : (i : Int) < (fs.length : Int) := by omega
    have hw := w64_succ (n := i) (by have := hv.2.1; omega)
    obtain ⟨a, eF, _⟩ := check_Func_ok (bar := bar) (p := p) (m := m) fs (i : Int) hv
    by_cases hc : fnOf fs i = 0
    · have hN : funsN fs (k + 1) i = funsN fs k (i + 1) := by rw [funsN, if_neg (by simpa using hc)]
      have hc' : (funN (fun l => (nestP l).isSome) fs i).2 = 0 := hc
      rw [hc'] at eF
      simp [go_sem, get_alloc, n_alloc, get_set, n_set, get_kill, n_kill, writeAt, a11, a21, a31, a41, a51, a61, a71, isNil, goI, hlt, hgx, eF, hw]
      exact right_loop Q bx k (i + 1) (by omega) hv hgx (fun h => h1 (by rw [hN]; exact h)) (fun x h => h2 x (by rw [hN]; exact h))
    · have hN : funsN fs (k + 1) i = fnOf fs i := by rw [funsN, if_pos hc]
      have hb : ((funN (fun l => (nestP l).isSome) fs i).2 != 0) = true := by
        have hc' : ¬ (funN (fun l => (nestP l).isSome) fs i).2 = 0 := hc
        simpa using hc'
      simp [go_sem, get_alloc, n_alloc, get_set, n_set, get_kill, n_kill, writeAt, a11, a21, a31, a41, a51, a61, a71, isNil, goI, hlt, hgx, eF, hb]
      exact h2 _ hN _ _ rfl
theorem unit_Right_ok (hv : FV g fa fs) : call tb prim n_unit_Right [.agg [.int .i64 p, .int .i64 m, fa]] bar g = some (.int .i64 (rightN p m fs), g) := by
  refine call_of tb_unit_Right (callF_pureW rfl rfl (M_in ?_))
  have hv1 : FV (g.alloc (.cells [.int .i64 p, .int .i64 m, fa] 0)) fa fs := hv.keep (by simp [n_alloc]) (fun j hj => by rw [get_alloc, if_neg (by have := hv.at_lt' hj; omega)])
  have eN := unit_named_ok (bar := g.n) (p := p) (m := m) hv1
  have hlen := hv.len
  by_cases c1 : p < 0 ∨ m < p ∨ 64 < m
  · have hR : rightN p m fs = 25 := by unfold rightN; rw [if_pos c1]
    rw [hR]
    by_cases d1 : p < 0
    · have e1 : decide (p < 0) = true := by simpa using d1
      simp [f_unit_Right, env0, go_sem, get_alloc, n_alloc, get_set, n_set, get_kill, n_kill, writeAt, a11, a21, a31, a41, a51, a61, a71, isNil, hv.one, hlen, e1]
      simp [go_sem, endP, endI, resultsA, resultA, freezeL, freezeV, AV.free.freeL, AV.free, packA, dropS]
    · have e1 : decide (p < 0) = false := by simpa using d1
      by_cases d2 : m < p
      · have e2 : decide (m < p) = true := by simpa using d2
        simp [f_unit_Right, env0, go_sem, get_alloc, n_alloc, get_set, n_set, get_kill, n_kill, writeAt, a11, a21, a31, a41, a51, a61, a71, isNil, hv.one, hlen, e1, e2]
        simp [go_sem, endP, endI, resultsA, resultA, freezeL, freezeV, AV.free.freeL, AV.free, packA, dropS]
      · have e2 : decide (m < p) = false := by simpa using d2
        have e3 : decide (64 < m) = true := by simp; omega
        simp [f_unit_Right, env0, go_sem, get_alloc, n_alloc, get_set, n_set, get_kill, n_kill, writeAt, a11, a21, a31, a41, a51, a61, a71, isNil, hv.one, hlen, e1, e2, e3]
        simp [go_sem, endP, endI, resultsA, resultA, freezeL, freezeV, AV.free.freeL, AV.free, packA, dropS]
  · have e1 : decide (p < 0) = false := by simp; omega
    have e2 : decide (m < p) = false := by simp; omega
    have e3 : decide (64 < m) = false := by simp; omega
    by_cases c2 : 32 < fs.length
    · have hR : rightN p m fs = 3 := by unfold rightN; rw [if_neg c1, if_pos c2]
      have e4 : decide ((32 : Int) < (fs.length : Int)) = true := by simp; omega
      rw [hR]
      simp [f_unit_Right, env0, go_sem, get_alloc, n_alloc, get_set, n_set, get_kill, n_kill, writeAt, a11, a21, a31, a41, a51, a61, a71, isNil, hv.one, hlen, goI, e1, e2, e3, e4]
      simp [go_sem, endP, endI, resultsA, resultA, freezeL, freezeV, AV.free.freeL, AV.free, packA, dropS]
    · have e4 : decide ((32 : Int) < (fs.length : Int)) = false := by simp; omega
      by_cases c3 : namedN fs fs.length 0 = true
      · have hR : rightN p m fs = funsN fs fs.length 0 := by unfold rightN; rw [if_neg c1, if_neg c2, if_pos c3]
        rw [hR]
        rw [c3] at eN
        simp [f_unit_Right, env0, go_sem, get_alloc, n_alloc, get_set, n_set, get_kill, n_kill, writeAt, a11, a21, a31, a41, a51, a61, a71, isNil, hv.one, hlen, goI, e1, e2, e3, e4, eN]
        refine right_loop (p := p) (m := m) _ g.n fs.length 0 (by omega) hv1 (by simp [get_alloc]) (fun h e g' => ?_) (fun x h e g' he => ?_)
        · simp [go_sem, endP, endI, resultsA, resultA, freezeL, freezeV, AV.free.freeL, AV.free, packA, dropS, h]
        · simp [go_sem, endP, endI, resultsA, resultA, freezeL, freezeV, AV.free.freeL, AV.free, packA, dropS, he, h]
      · have c3' : namedN fs fs.length 0 = false := by simpa using c3
        have hR : rightN p m fs = 12 := by unfold rightN; rw [if_neg c1, if_neg c2, if_neg c3]
        rw [hR]
        rw [c3'] at eN
        simp [f_unit_Right, env0, go_sem, get_alloc, n_alloc, get_set, n_set, get_kill, n_kill, writeAt, a11, a21, a31, a41, a51, a61, a71, isNil, hv.one, hlen, goI, e1, e2, e3, e4, eN]
        simp [go_sem, endP, endI, resultsA, resultA, freezeL, freezeV, AV.free.freeL, AV.free, packA, dropS]
end
end Go.Ev
set_option linter.unusedSectionVars false
namespace Go.Ev
open Go
def AV.stay : AV → Bool
  | .sl .. => false
  | .agg _ => false
  | _ => true
theorem freezeV_stay {bar d : Nat} {h : H} {v : AV} (hv : v.stay = true) : freezeV bar (d + 1) h v = some (v, h) := by
  cases v <;> first | (cases hv; done) | (simp [freezeV])
theorem freezeL_stay {bar d : Nat} {h : H} : ∀ {cs : List AV}, cs.all AV.stay = true → freezeL bar (d + 1) h cs = some (cs, h)
  | [], _ => by simp [freezeL]
  | v :: r, hc => by
    rw [List.all_cons, Bool.and_eq_true] at hc
    simp [freezeL, freezeV_stay hc.1, freezeL_stay hc.2]
theorem OS.freeze' {k : Nat} {h : H} {bar : Nat} {a : AV} {n : Nat} {cs : List AV} (v : OS k h bar a n cs) (hc : cs.all AV.stay = true) (hf : cs.all AV.free = true) (hn : n ≤ 9223372036854775807) (d : Nat) : ∃ a' h', freezeV bar (d + 2) h a = some (a', h') ∧ FzV k a' n cs := by
  obtain ⟨h1, h2, ⟨rfl, rfl⟩ | ⟨id, rest, rfl, g1, g2, g3⟩⟩ := v
  · exact ⟨.nilsl, h, by simp [freezeV], h1, hn, .inl ⟨rfl, rfl⟩⟩
  · refine ⟨.fz k n cs false, h.set id (.cells (cs ++ rest) (max 0 (0 + n * k))), ?_, h1, hn, .inr ⟨false, rfl⟩⟩
    have hcs : ((cs ++ rest).drop 0).take (n * k) = cs := by rw [List.drop_zero, ← h1, List.take_left]
    simp only [freezeV, g3]
    rw [if_pos ⟨g1, by simp [h1]⟩, hcs, freezeL_stay hc]
    simp only
    rw [if_pos ⟨hf, h2⟩]
theorem FzV.stay {k : Nat} {a : AV} {n : Nat} {cs : List AV} (v : FzV k a n cs) : a.stay = true := by
  obtain ⟨_, _, ⟨rfl, _⟩ | ⟨full, rfl⟩⟩ := v <;> rfl
def codeN (f : Fn) : Code' := ⟨(gTok f.code).1, (nestP (gTok f.code).1).getD [], f.args⟩
/-- Where its jumps lead is near. -/
def toOk (f : Fn) : Prop := ∃ to, nestP (gTok f.code).1 = some to ∧ ∀ x ∈ to, x ≤ 2000
def RowsV (fs : List Fn) (rows : List (AV × AV × Code')) : Prop := ∀ (j : Nat) (x : AV × AV × Code'), rows[j]? = some x → ∃ f, fs[j]? = some f ∧ x.2.2 = codeN f ∧ CodeV x.2.2 x.1 x.2.1
theorem RowsV.all {fs : List Fn} {rows : List (AV × AV × Code')} (v : RowsV fs rows) (p : AV → Bool) (hi : ∀ n, p (.int .i64 n) = true) (hz : ∀ k a n cs, FzV k a n cs → p a = true) : (rows.flatMap cdC).all p = true := by
  rw [List.all_eq_true]
  intro y hy
  obtain ⟨x, hx, hyx⟩ := List.mem_flatMap.mp hy
  obtain ⟨j, hj⟩ := List.mem_iff_getElem?.mp hx
  obtain ⟨f, _, _, hc⟩ := v j x hj
  simp only [cdC, List.mem_cons, List.not_mem_nil, or_false] at hyx
  rcases hyx with rfl | rfl | rfl
  · exact hz _ _ _ _ hc.1.1
  · exact hz _ _ _ _ hc.1.2
  · exact hi _
theorem fill3 (a b c : AV) (h1 : a.one = true) (h2 : b.one = true) (h3 : c.one = true) : fillA [.nilsl, .nilsl, .int .i64 0] [(0, 1, a), (1, 1, b), (2, 1, c)] = some [a, b, c] := by
  have e1 := cells_one h1
  have e2 := cells_one h2
  have e3 := cells_one h3
  have d1 : a.cells.length = 1 ∧ 0 + 1 ≤ ([.nilsl, .nilsl, .int .i64 0] : List AV).length ∧ a.cells.all AV.one = true := ⟨by rw [e1]; rfl, by simp, by rw [e1]; simp [h1]⟩
  have d2 : b.cells.length = 1 ∧ 1 + 1 ≤ (splice ([.nilsl, .nilsl, .int .i64 0] : List AV) 0 a.cells).length ∧ b.cells.all AV.one = true := ⟨by rw [e2]; rfl, by rw [e1]; simp [splice], by rw [e2]; simp [h2]⟩
  have d3 : c.cells.length = 1 ∧ 2 + 1 ≤ (splice (splice ([.nilsl, .nilsl, .int .i64 0] : List AV) 0 a.cells) 1 b.cells).length ∧ c.cells.all AV.one = true := ⟨by rw [e3]; rfl, by rw [e1, e2]; simp [splice], by rw [e3]; simp [h3]⟩
  simp only [fillA]
  rw [if_pos d1, if_pos d2, if_pos d3, e1, e2, e3]
  rfl
theorem fill33 (a b c : AV) (h1 : a.one = true) (h2 : b.one = true) (h3 : c.one = true) : fillA [.nilsl, .nilsl, .int .i64 0] [(0, 3, .agg [a, b, c])] = some [a, b, c] := by
  simp only [fillA]
  rw [if_pos ⟨rfl, by simp, by simp [AV.cells, h1, h2, h3]⟩]
  rfl
section
variable {bar : Nat} {g : H} {fa : AV} {fs : List Fn} {p m : Int}
theorem codes_loop (hto : ∀ f ∈ fs, toOk f) (hl32 : fs.length ≤ 1000) (hfa : ∀ j, fa.isAt j → j < bar) (Q : Ex → Env → H → Prop) : ∀ (k i : Nat) (g : H) (oa : AV) (rows : List (AV × AV × Code')), fs.length = i + k → bar ≤ g.n → FV g fa fs → OS 3 g bar oa i (rows.flatMap cdC) → rows.length = i → RowsV fs rows →
    (∀ e g' oa' rows', OS 3 g' bar oa' fs.length (rows'.flatMap cdC) → rows'.length = fs.length → RowsV fs rows' → e.get 3 = some oa' → Q (.exit 0) e g') →
    wpL (call tb prim) bar [3, 11, 12, 13] l0_engine_codes [(3, oa), (11, fa), (12, goI fs.length), (13, goI i)] g Q
  | 0, i, g, oa, rows, hk, hbg, hv, ho, hr, hR, hq => by
    refine M_loop l0_engine_codes.eq_1 ?_
    have hlt : ¬ (i : Int) < (fs.length : Int) := by omega
    simp [go_sem, goI, hlt]
    have hi : i = fs.length := by omega
    exact hq _ _ oa rows (hi ▸ ho) (by omega) hR rfl
  | k + 1, i, g, oa, rows, hk, hbg, hv, ho, hr, hR, hq => by
    refine M_loop l0_engine_codes.eq_1 ?_
    have hi : i < fs.length := by omega
    have hlt : (i : Int) < (fs.length : Int) := by omega
    have hw := w64_succ (n := i) (by have := hv.2.1; omega)
    obtain ⟨f, hf⟩ : ∃ f, f = fs[i] := ⟨_, rfl⟩
    have hfi : fs[i]? = some f := by rw [hf]; exact List.getElem?_eq_getElem hi
    obtain ⟨to, hto1, hto2⟩ := hto f (List.mem_of_getElem? hfi)
    have hcto : (codeN f).to = to := by unfold codeN; simp only [hto1, Option.getD_some]
    obtain ⟨g1, hg1⟩ : ∃ g1, g1 = (g.alloc (.cells [.int .i32 0, .int .i64 0, .str ⟨#[]⟩] 0)).set g.n (.cells [.int .i32 f.name, .int .i64 f.args, .str f.code] 0) := ⟨_, rfl⟩
    have n1 : g1.n = g.n + 1 := by rw [hg1]; rfl
    have k1 : ∀ j, j < g.n → g1.get j = g.get j := fun j hj => by rw [hg1, get_set_ne (by omega), get_alloc, if_neg (by omega)]
    have gF : g1.get g.n = some (.cells [.int .i32 f.name, .int .i64 f.args, .str f.code] 0) := by rw [hg1, get_set, if_pos rfl]
    have o1 : OS 3 g1 bar oa i (rows.flatMap cdC) := ho.mono (by omega) (fun j hj => k1 j (ho.ow.at_lt hj).2)
    obtain ⟨la, eT, hla, hll⟩ := glyph_Tokens_ok (bar := bar) (h := g1) f.code
    have eO := nest_Of_ok (pr := prim) (bar := bar) (g := g1) (gTok f.code).1 la hla (by omega)
    rw [hto1] at eO
    obtain ⟨ta, eO, hta, htl⟩ := eO
    have h1 := hla.one
    have h2 := hta.one
    have hfill := fill3 la ta (.int .i64 f.args) h1 h2 rfl
    have hfill2 := fill33 la ta (.int .i64 f.args) h1 h2 rfl
    obtain ⟨oa', g2, eA, o2, n2, f2, _⟩ := o1.app (by omega) 56 [la, ta, .int .i64 f.args] rfl (by
      show (la.one && (ta.one && (true && true))) = true
      rw [h1, h2]; rfl) (by omega) (by omega) (by omega)
    have hv2 : FV g2 fa fs := hv.keep (by omega) (fun j hj => by rw [f2 j (by have := hfa j hj; omega) (fun q => by have := (ho.ow.at_lt q).1; have := hfa j hj; omega)]; exact k1 j (by have := hfa j hj; omega))
    have hall : ([la, ta, .int .i64 f.args] : List AV).all AV.one = true := by
      show (la.one && (ta.one && (true && true))) = true
      rw [h1, h2]; rfl
    simp [go_sem, goI, hlt]
    refine S_frow hv hi fun u => ?_
    rw [← hf]
    simp [go_sem, get_alloc, n_alloc, get_set, n_set, get_kill, n_kill, writeAt, a11, a21, a31, a41, a51, a61, a71, isNil, Fn.cells, spF, hbg]
    rw [← hg1]
    simp [go_sem, get_alloc, n_alloc, get_set, n_set, get_kill, n_kill, writeAt, a11, a21, a31, a41, a51, a61, a71, isNil, gF, eT, eO, evParts, hfill, hfill2, hall, h1, h2]
    rw [eA]
    simp [go_sem, get_alloc, n_alloc, get_set, n_set, get_kill, n_kill, writeAt, a11, a21, a31, a41, a51, a61, a71, hw]
    have hrow : ((rows ++ [(la, ta, codeN f)]).flatMap cdC) = rows.flatMap cdC ++ [la, ta, .int .i64 f.args] := by simp [List.flatMap_append, cdC, codeN]
    refine codes_loop hto hl32 hfa Q k (i + 1) g2 oa' (rows ++ [(la, ta, codeN f)]) (by omega) (by omega) hv2 (by rw [hrow]; exact o2) (by simp; omega) (fun j x hx => ?_) hq
    by_cases hj : j < rows.length
    · rw [List.getElem?_append_left hj] at hx
      exact hR j x hx
    · have hj2 : j = i := by
        have := (List.getElem?_eq_some_iff.mp hx).1
        simp at this; omega
      subst hj2
      rw [List.getElem?_append_right (by omega), hr, Nat.sub_self] at hx
      cases hx
      refine ⟨f, hfi, rfl, ⟨hla, ?_⟩, by show (gTok f.code).1.length ≤ _; omega, ?_, ?_⟩
      · show FzV 1 ta (codeN f).to.length ((codeN f).to.flatMap i64c); rw [hcto]; exact hta
      · show (codeN f).to.length ≤ _; rw [hcto]; omega
      · show ∀ x ∈ (codeN f).to, x ≤ _; rw [hcto]; exact hto2
theorem engine_codes_ok (hv : FV g fa fs) (hto : ∀ f ∈ fs, toOk f) (hl32 : fs.length ≤ 1000) :
    ∃ ca rows, call tb prim n_engine_codes [.agg [.int .i64 p, .int .i64 m, fa]] bar g = some (ca, g) ∧ FzV 3 ca rows.length (rows.flatMap cdC) ∧ rows.length = fs.length ∧ RowsV fs rows := by
  suffices hw : ∃ r, callF (call tb prim) f_engine_codes [.agg [.int .i64 p, .int .i64 m, fa]] bar g = some (r, g) ∧ ∃ rows, FzV 3 r rows.length (rows.flatMap cdC) ∧ rows.length = fs.length ∧ RowsV fs rows by
    obtain ⟨r, h1, rows, h2, h3⟩ := hw; exact ⟨r, rows, call_of tb_engine_codes h1, h2, h3⟩
  refine callF_pureK rfl rfl fun K hK => ?_
  have hv1 : FV (g.alloc (.cells [.int .i64 p, .int .i64 m, fa] 0)) fa fs := hv.keep (by simp [n_alloc]) (fun j hj => by rw [get_alloc, if_neg (by have := hv.at_lt' hj; omega)])
  simp [f_engine_codes, env0, go_sem, get_alloc, n_alloc, get_set, n_set, get_kill, n_kill, writeAt, a11, a21, a31, a41, a51, a61, a71, isNil, hv.one, hv.len, get_alloc]
  refine codes_loop (bar := g.n) hto hl32 (fun j hj => hv.at_lt' hj) _ fs.length 0 _ .nilsl [] (by omega) (by simp [n_alloc]) hv1 OS.nil rfl (fun j x hx => by simp at hx) (fun e g' oa' rows' h1 h2 h3 h4 => ?_)
  obtain ⟨a', h', h5, h6⟩ := h1.freeze' (h3.all _ (fun _ => rfl) (fun _ _ _ _ v => v.stay)) (h3.all _ (fun _ => rfl) (fun _ _ _ _ v => v.free)) (by omega) 2
  simp [go_sem, endX, resultsA, resultA, freezeL, AV.free.freeL, packA, h4, h5, h6.free, freezeV, AV.free]
  exact hK _ ⟨rows', by rw [h2]; exact h6, h2, h3⟩
end
end Go.Ev
set_option linter.unusedSectionVars false
namespace Go.Ev
open Go
theorem memS_len {sg : Int} {st st' : List Int} {m m' : Mem} {tr tr' : Int} (h : memS sg st m tr = some (st', m', tr')) : st'.length ≤ st.length + 1 := by
  unfold memS at h
  repeat' split at h
  all_goals first
    | cases h; simp; done
    | cases h; simp; omega
    | cases h
theorem plainF_len {t : Tok} {st st' : List Int} {r r' : Row} {tr tr' : Int} (h : plainF t st r tr = some (st', r', tr')) : st'.length ≤ st.length + 1 ∧ r'.asks.length ≤ r.asks.length + 1 := by
  have hask : ∀ nm n, (askR r nm n).1.asks.length ≤ r.asks.length + 1 := fun nm n => by
    unfold askR; split <;> simp
  unfold plainF at h
  repeat' split at h
  all_goals first
    | cases h; exact ⟨by first | omega | (simp only [List.length_cons]; omega), by first | exact hask _ _ | omega⟩
    | cases h
theorem endsM_sg : ∀ (r : List Fm) (f : Fm) {fr : List Fm}, endsM f r = some (fr, none) → FrSg (f :: r) → FrSg fr ∧ totS fr ≤ totS (f :: r) ∧ fr.length ≤ (f :: r).length ∧ ∃ f' r', fr = f' :: r' ∧ f'.at' < f'.c.l.length
  | r, f, fr, h, hg => by
    unfold endsM at h
    split at h
    · rename_i hlt
      cases h; exact ⟨hg, Nat.le_refl _, Nat.le_refl _, f, r, rfl, hlt⟩
    · split at h
      · cases h
      · rename_i v st hst
        split at h
        · cases h
        · rename_i g2 r2
          obtain ⟨h1, h2, h3, h4⟩ := endsM_sg r2 { g2 with st := v :: g2.st } h (fun x hx k hk => by
            rcases List.mem_cons.mp hx with rfl | hx
            · exact hg g2 (by simp) k hk
            · exact hg x (by simp [hx]) k hk)
          refine ⟨h1, ?_, ?_, h4⟩
          · simp only [totS, hst, List.length_cons] at h2 ⊢; omega
          · simp only [List.length_cons] at h3 ⊢; omega
theorem stepM_keep {fs : List Fn} {cs : List Code'} {s s' : Mc} (hc : ∀ c ∈ cs, ∀ k ∈ c.l, sigOk k.sign = true) (hg : FrSg s.fr) (h : stepM fs cs s = some s') (hl : s.fr.length ≤ 32) :
    FrSg s'.fr ∧ totS s'.fr ≤ totS s.fr + 1 ∧ s'.r.asks.length ≤ s.r.asks.length + 1 ∧ s'.fr.length ≤ 32 := by
  cases hfr : s.fr with
  | nil => unfold stepM at h; rw [hfr] at h; cases h
  | cons f r =>
    have one : ∀ f' : Fm, f'.c = f.c → f'.st.length ≤ f.st.length + 1 → FrSg (f' :: r) ∧ totS (f' :: r) ≤ totS (f :: r) + 1 ∧ (f' :: r).length ≤ 32 := fun f' h1 h2 => by
      refine ⟨fun x hx k hk => ?_, by simp only [totS]; omega, by rw [hfr] at hl; exact hl⟩
      rw [hfr] at hg
      rcases List.mem_cons.mp hx with rfl | hx
      · rw [h1] at hk; exact hg f (by simp) k hk
      · exact hg x (by simp [hx]) k hk
    have fin : ∀ f' : Fm, s'.fr = f' :: r → f'.c = f.c → f'.st.length ≤ f.st.length + 1 → s'.r.asks.length ≤ s.r.asks.length + 1 → FrSg s'.fr ∧ totS s'.fr ≤ totS (f :: r) + 1 ∧ s'.r.asks.length ≤ s.r.asks.length + 1 ∧ s'.fr.length ≤ 32 := fun f' h3 h1 h2 h4 => by
      rw [h3]; obtain ⟨a, b, c⟩ := one f' h1 h2; exact ⟨a, b, h4, c⟩
    unfold stepM at h
    rw [hfr] at h
    simp only at h
    split at h
    · cases h
    · split at h
      · cases h; exact fin _ rfl rfl (by simp) (by simp)
      · split at h
        · split at h
          · cases h
          · cases h; exact fin _ rfl rfl (by simp) (by simp)
        · split at h
          · split at h
            · cases h
            · rename_i hst
              cases h; exact fin _ rfl rfl (by simp [hst]; omega) (by simp)
          · split at h
            · split at h
              · cases h
              · rename_i c hcc
                split at h
                · cases h
                · split at h
                  · cases h; exact fin _ rfl rfl (by simp; omega) (by simp)
                  · rename_i hd
                    cases h
                    obtain ⟨a1, a2, a3⟩ := one { f with at' := f.at' + 1, st := f.st.drop c.args.toNat } rfl (by simp; omega)
                    refine ⟨fun x hx k hk => ?_, ?_, by simp, ?_⟩
                    · rcases List.mem_cons.mp hx with rfl | hx
                      · exact hc c (List.mem_of_getElem? hcc) k hk
                      · exact a1 x hx k hk
                    · show 0 + totS _ ≤ _
                      omega
                    · simp at hd ⊢; omega
            · split at h
              · split at h
                · split at h
                  · cases h
                  · rename_i hst
                    split at h
                    · cases h; exact fin _ rfl rfl (by simp [hst]; omega) (by simp)
                    · split at h
                      · cases h
                      · split at h
                        · cases h
                        · cases h; exact fin _ rfl rfl (by simp [hst]; omega) (by simp)
                · split at h
                  · cases h
                  · split at h
                    · cases h
                    · cases h; exact fin _ rfl rfl (by simp) (by simp)
              · split at h
                · split at h
                  · cases h
                  · rename_i hm
                    cases h; exact fin _ rfl rfl (memS_len hm) (by simp)
                · split at h
                  · cases h
                  · rename_i hm
                    cases h; exact fin _ rfl rfl (plainF_len hm).1 (plainF_len hm).2
section
variable {bar b : Nat} {g : H} {own : Nat → Nat} {C : Cx}
theorem XO.cell7 {tr val : Int} {ids : List Nat} (v : XO g b own C tr val ids) : ∃ cs, g.get C.X = some (.cells cs 0) ∧ cs[7]? = some (.int .i64 tr) := by
  obtain ⟨⟨fra, h, _⟩, _⟩ := v; exact ⟨_, h, rfl⟩
/-- What is left behind a run. -/
def RunV (g : H) (b : Nat) (own : Nat → Nat) (C : Cx) (s : Mc) (v : Int) : Prop := (∃ ids, XO g b own C s.trap v ids) ∧ MemO g b own C.M s.m ∧ RowO g b own C.R s.r ∧ b ≤ g.n
theorem run_loop (hb : bar ≤ b) (asked : Int) (rc : Nat) (hcs : ∀ x ∈ C.rows, ∀ k ∈ x.2.2.l, sigOk k.sign = true) (Q : Ex → Env → H → Prop) : ∀ (n : Nat) (g : H) (own : Nat → Nat) (s : Mc) (ids : List Nat) {s' : Mc} {v : Int} {n' : Nat}, XV g b own C s 0 ids → FrSg s.fr → totS s.fr + n < 2999999 → s.r.asks.length + n < 1999999 → s.fr.length ≤ 32 → (n : Int) ≤ 1048576 →
    runM C.fs (C.rows.map (·.2.2)) n s = some (s', v, n') →
    (∀ e g' own', RunV g' b own' C s' v → Kp own tA g g' → Agr g.n own own' → e.get 2 = some (.ptr C.R 0) → e.get 4 = some (.int .i64 n') → e.get 12 = some (.ptr rc 0) → e.get 16 = some (.int .i64 asked) → e.get 17 = some (.ptr C.X 0) → Q (.exit 0) e g') →
    wpL (call tb prim) bar [2, 4, 12, 16, 17] l0_engine_Run [(2, .ptr C.R 0), (4, .int .i64 n), (12, .ptr rc 0), (16, .int .i64 asked), (17, .ptr C.X 0)] g Q := by
  intro n
  induction n with
  | zero =>
    intro g own s ids s' v n' xv hg hT hA hL hn hr hq
    refine M_loop l0_engine_Run.eq_1 ?_
    obtain ⟨cs, c1, c7⟩ := xv.x.cell7
    by_cases ht : s.trap = 0
    · have hd : (s.trap == 0) = true := by simpa using ht
      have xv0 := xv
      cases hfr : s.fr with
      | nil => unfold runM at hr; rw [if_neg (by simpa using ht), hfr] at hr; cases hr
      | cons f r =>
        have hv : FrsV g b own (f :: r) ids := hfr ▸ xv.fr
        cases ids with
        | nil => exact hv.elim
        | cons i l =>
          cases he : endsM f r with
          | none => unfold runM at hr; rw [if_neg (by simpa using ht), hfr] at hr; simp only [he] at hr; cases hr
          | some out =>
            obtain ⟨g1, own1, e1, k1, a1, hE⟩ := ends_ok (bar := bar) hb xv.bn xv.x hv (by rw [hfr] at hT; omega) he
            have m1 := xv.m.mono k1 a1 (by unfold tE; omega)
            have r1 := xv.r.mono k1 a1 (by unfold tE; omega)
            have hbn1 : b ≤ g1.n := by have := k1.1; have := xv.bn; omega
            unfold runM at hr
            rw [if_neg (by simpa using ht), hfr] at hr
            simp only [he] at hr
            match out, hr, e1, hE with
            | (fr, some v2), hr, e1, hE =>
              simp only at hr
              cases hr
              simp only [Option.isNone] at e1
              simp [go_sem, get_alloc, n_alloc, get_set, n_set, get_kill, n_kill, writeAt, a11, a21, a31, a41, a51, a61, a71, isNil, c1, c7, hd, e1]
              refine hq _ g1 own1 ⟨⟨[], ?_⟩, m1, r1, hbn1⟩ (k1.le fun k h => tE_A h) a1 rfl rfl rfl rfl rfl
              exact hE.2
            | (fr, none), hr, e1, hE =>
              simp only at hr
              simp only [Option.isNone] at e1
              obtain ⟨j, ids', x1, f1⟩ := hE
              cases hr
              have x1' := x1
              obtain ⟨⟨fra, q1, q2, q3⟩, qo, qb, ql, qs⟩ := x1'
              have hsp : splice (xC C fra s.trap 0) 7 [.int .i64 1] = xC C fra 1 0 := rfl
              have hle : 7 + 1 ≤ (xC C fra s.trap 0).length := by simp [xC]
              obtain ⟨xc, hxc⟩ : ∃ xc, xc = xC C fra s.trap 0 := ⟨_, rfl⟩
              rw [← hxc] at q1 hsp hle
              have hbx : bar ≤ C.X := Nat.le_trans hb qb
              obtain ⟨g2, hg2⟩ : ∃ g2, g2 = g1.set C.X (.cells (xC C fra 1 0) 0) := ⟨_, rfl⟩
              have k2 : Kp own1 (fun k => k = 1) g1 g2 := ⟨by rw [hg2, n_set]; exact Nat.le_refl _, fun j hj hs => by rw [hg2, get_set_ne (fun q => hs (by rw [q]; exact qo))]⟩
              simp [go_sem, get_alloc, n_alloc, get_set, n_set, get_kill, n_kill, writeAt, a11, a21, a31, a41, a51, a61, a71, isNil, c1, c7, hd, e1, q1, hsp, hle, hbx]
              rw [← hg2]
              refine hq _ g2 own1 ⟨⟨j :: ids', ⟨⟨fra, by rw [hg2, get_set, if_pos rfl], q2.mono k2.1 (fun j hj => by rw [hg2, get_set_ne (fun q => by have := q3 j hj; rw [q, qo] at this; omega)]), q3⟩, qo, qb, by rw [hg2, n_set]; exact ql, qs⟩⟩, m1.mono k2 Agr.refl (by omega), r1.mono k2 Agr.refl (by omega), by have := k2.1; omega⟩ ((k1.le fun k h => tE_A h).trans a1 (k2.le fun k h => by unfold tA; omega)) a1 rfl rfl rfl rfl rfl
    · have hd : (s.trap == 0) = false := by simpa using ht
      unfold runM at hr
      rw [if_pos ht] at hr
      cases hr
      simp [go_sem, get_alloc, n_alloc, get_set, n_set, get_kill, n_kill, writeAt, a11, a21, a31, a41, a51, a61, a71, isNil, c1, c7, hd]
      exact hq _ g own ⟨⟨ids, xv.x⟩, xv.m, xv.r, xv.bn⟩ Kp.refl Agr.refl rfl rfl rfl rfl rfl
  | succ n ih =>
    intro g own s ids s' v n' xv hg hT hA hL hn hr hq
    refine M_loop l0_engine_Run.eq_1 ?_
    obtain ⟨cs, c1, c7⟩ := xv.x.cell7
    by_cases ht : s.trap = 0
    · have hd : (s.trap == 0) = true := by simpa using ht
      have xv0 := xv
      cases hfr : s.fr with
      | nil => unfold runM at hr; rw [if_neg (by simpa using ht), hfr] at hr; cases hr
      | cons f r =>
        have hv : FrsV g b own (f :: r) ids := hfr ▸ xv.fr
        cases ids with
        | nil => exact hv.elim
        | cons i l =>
          cases he : endsM f r with
          | none => unfold runM at hr; rw [if_neg (by simpa using ht), hfr] at hr; simp only [he] at hr; cases hr
          | some out =>
            obtain ⟨g1, own1, e1, k1, a1, hE⟩ := ends_ok (bar := bar) hb xv.bn xv.x hv (by rw [hfr] at hT; omega) he
            have m1 := xv.m.mono k1 a1 (by unfold tE; omega)
            have r1 := xv.r.mono k1 a1 (by unfold tE; omega)
            have hbn1 : b ≤ g1.n := by have := k1.1; have := xv.bn; omega
            unfold runM at hr
            rw [if_neg (by simpa using ht), hfr] at hr
            simp only [he] at hr
            match out, hr, e1, hE with
            | (fr, some v2), hr, e1, hE =>
              simp only at hr
              cases hr
              simp only [Option.isNone] at e1
              simp [go_sem, get_alloc, n_alloc, get_set, n_set, get_kill, n_kill, writeAt, a11, a21, a31, a41, a51, a61, a71, isNil, c1, c7, hd, e1]
              refine hq _ g1 own1 ⟨⟨[], ?_⟩, m1, r1, hbn1⟩ (k1.le fun k h => tE_A h) a1 rfl rfl rfl rfl rfl
              exact hE.2
            | (fr, none), hr, e1, hE =>
              simp only at hr
              simp only [Option.isNone] at e1
              obtain ⟨j, ids', x1, f1⟩ := hE
              obtain ⟨hg1, ht1, hl1, f', r', rfl, hlt⟩ := endsM_sg r f he (by rw [← hfr]; exact hg)
              have cx1 := xv.cx.mono k1 a1 (by unfold tE; omega)
              have xv1 : XV g1 b own1 C { s with fr := f' :: r' } 0 (j :: ids') := ⟨x1, cx1, f1, m1, r1, hbn1⟩
              split at hr
              · cases hr
              · rename_i s2 hs2
                have hT' : totS (f' :: r') + n < 2999998 := by rw [hfr] at hT; omega
                obtain ⟨hg2, ht2, ha2, hl2⟩ := stepM_keep (s := { s with fr := f' :: r' }) (fun c hc k hk => by
                  obtain ⟨x, hx, rfl⟩ := List.mem_map.mp hc
                  exact hcs x hx k hk) hg1 hs2 (by rw [hfr] at hL; simp only [List.length_cons] at hL hl1 ⊢; omega)
                have hil : ids'.length = r'.length := f1.2.len
                obtain ⟨g2, own2, ids2, e2, xv2, k2, a2⟩ := step_ok (bar := bar) xv1 rfl hb hs2 hg1 (by show totS (f' :: r') < _; omega) (by show s.r.asks.length < _; omega) (by rw [hil]; rw [hfr] at hL; simp only [List.length_cons] at hL hl1; omega)
                obtain ⟨sid, all, full, tX, tS, tt, _⟩ := x1.top
                obtain ⟨xc, hxc⟩ : ∃ xc, xc = xC C (.sl sid 0 1 (ids'.length + 1) full) s.trap 0 := ⟨_, rfl⟩
                have h6 : xc[6]? = some (.sl sid 0 1 (ids'.length + 1) full) := by rw [hxc]; rfl
                rw [← hxc] at tX
                have hwi : IntKind.i64.wrap (ids'.length : Int) = (ids'.length : Nat) := w64 (by omega) (by rw [hil]; rw [hfr] at hL; simp only [List.length_cons] at hL hl1; omega)
                have hltI : (ids'.length : Int) < (ids'.length : Int) + 1 := by omega
                have hz : (((n : Int) + 1) == 0) = false := by simp; omega
                have hwn : IntKind.i64.wrap (n : Int) = (n : Nat) := w64 (by omega) (by omega)
                simp [go_sem, get_alloc, n_alloc, get_set, n_set, get_kill, n_kill, writeAt, a11, a21, a31, a41, a51, a61, a71, isNil, c1, c7, hd, e1, hz, hwn, tX, h6, hwi, hltI, indexIn, tS, tt, e2]
                have kk : Kp own tA g g2 := (k1.le fun k h => tE_A h).trans a1 k2
                have aa : Agr g.n own own2 := Agr.trans a1 a2 k1.1
                exact ih g2 own2 s2 ids2 xv2 hg2 (by have : totS s2.fr ≤ totS (f' :: r') + 1 := ht2; omega) (by have : s2.r.asks.length ≤ s.r.asks.length + 1 := ha2; omega) hl2 (by omega) hr (fun e g' own' h1 h2 h3 => hq e g' own' h1 (kk.trans aa h2) (Agr.trans aa h3 kk.1))
    · have hd : (s.trap == 0) = false := by simpa using ht
      unfold runM at hr
      rw [if_pos ht] at hr
      cases hr
      simp [go_sem, get_alloc, n_alloc, get_set, n_set, get_kill, n_kill, writeAt, a11, a21, a31, a41, a51, a61, a71, isNil, c1, c7, hd]
      exact hq _ g own ⟨⟨ids, xv.x⟩, xv.m, xv.r, xv.bn⟩ Kp.refl Agr.refl rfl rfl rfl rfl rfl
end
end Go.Ev
set_option linter.unusedSectionVars false
namespace Go.Ev
open Go
theorem FzV.drop {k : Nat} {a : AV} {n : Nat} {cs : List AV} (v : FzV k a n cs) {i : Nat} (hi : i ≤ n) : ∃ a', sliceA k a (some (.int .i64 (i : Int))) none none = some a' ∧ FzV k a' (n - i) (cs.drop (i * k)) := by
  obtain ⟨h1, h2, ⟨rfl, rfl⟩ | ⟨full, rfl⟩⟩ := v
  · have hi0 : i = 0 := by omega
    subst hi0
    refine ⟨.nilsl, by simp [sliceA, optBound, bound], by simp [h1], by omega, .inl ⟨rfl, rfl⟩⟩
  · have e1 : optBound 0 (some (AV.int .i64 (i : Int))) = some i := by simp [optBound, bound]
    have e2 : ∀ n, optBound n none = some n := fun _ => rfl
    refine ⟨.fz k (n - i) ((cs.drop (i * k)).take ((n - i) * k)) (full && decide (n = n)), ?_, ?_, by omega, ?_⟩
    · simp only [sliceA, e1, e2]
      rw [if_pos ⟨trivial, h1, by omega, Nat.le_refl _⟩]
    · rw [List.length_drop, h1, Nat.sub_mul]
    · exact .inr ⟨_, by rw [List.take_of_length_le (by rw [List.length_drop, h1, Nat.sub_mul]; exact Nat.le_refl _)]⟩
theorem askR_pre (r : Row) (nm n : Int) : ∃ l, (askR r nm n).1.asks = r.asks ++ l := by
  unfold askR; split <;> exact ⟨_, rfl⟩
theorem plainF_pre {t : Tok} {st st' : List Int} {r r' : Row} {tr tr' : Int} (h : plainF t st r tr = some (st', r', tr')) : ∃ l, r'.asks = r.asks ++ l := by
  unfold plainF at h
  repeat' split at h
  all_goals first
    | cases h; exact askR_pre _ _ _
    | cases h; exact ⟨[], by simp⟩
    | cases h
theorem stepM_pre {fs : List Fn} {cs : List Code'} {s s' : Mc} (h : stepM fs cs s = some s') : ∃ l, s'.r.asks = s.r.asks ++ l := by
  unfold stepM at h
  repeat' split at h
  all_goals first
    | cases h; done
    | (rename_i hm; cases h; exact plainF_pre hm)
    | cases h; exact ⟨[], by simp⟩
theorem runM_pre {fs : List Fn} {cs : List Code'} : ∀ (n : Nat) {s s' : Mc} {v : Int} {n' : Nat}, runM fs cs n s = some (s', v, n') → ∃ l, s'.r.asks = s.r.asks ++ l
  | n, s, s', v, n', h => by
    unfold runM at h
    split at h
    · cases h; exact ⟨[], by simp⟩
    · split at h
      · cases h
      · split at h
        · cases h
        · cases h; exact ⟨[], by simp⟩
        · split at h
          · cases h; exact ⟨[], by simp⟩
          · split at h
            · cases h
            · rename_i hs
              obtain ⟨l1, h1⟩ := stepM_pre hs
              obtain ⟨l2, h2⟩ := runM_pre _ h
              exact ⟨l1 ++ l2, by rw [h2, h1]; simp⟩
theorem sp40 (a b c d u v w x : AV) : splice [a, b, c, d] 0 [u, v, w, x] = [u, v, w, x] := Eq.trans rfl rfl
theorem fillA_cons {z : List AV} {off n : Nat} {v : AV} {r : List (Nat × Nat × AV)} (h1 : v.cells.length = n) (h2 : off + n ≤ z.length) (h3 : v.cells.all AV.one = true) : fillA z ((off, n, v) :: r) = fillA (splice z off v.cells) r := by
  rw [fillA, if_pos ⟨h1, h2, h3⟩]
theorem fillA_one {z : List AV} {off : Nat} {v : AV} {r : List (Nat × Nat × AV)} (h : v.one = true) (h2 : off + 1 ≤ z.length) : fillA z ((off, 1, v) :: r) = fillA (splice z off [v]) r := by
  have e := cells_one h
  rw [fillA_cons (by rw [e]; rfl) h2 (by rw [e]; simp [h]), e]
theorem fillX (p mo : Int) {fa ca : AV} (h1 : fa.one = true) (h2 : ca.one = true) (M R : Nat) : fillA [.int .i64 0, .int .i64 0, .nilsl, .nilsl, .nilptr, .nilptr, .nilsl, .int .i64 0, .int .i64 0] [(0, 3, .agg [.int .i64 p, .int .i64 mo, fa]), (3, 1, ca), (4, 1, .ptr M 0), (5, 1, .ptr R 0)] = some [.int .i64 p, .int .i64 mo, fa, ca, .ptr M 0, .ptr R 0, .nilsl, .int .i64 0, .int .i64 0] := by
  rw [fillA_cons (n := 3) (v := .agg [.int .i64 p, .int .i64 mo, fa]) rfl (by simp) (by
    show (true && (true && (fa.one && true))) = true
    rw [h1]; rfl), fillA_one h2 (by simp [splice, AV.cells]), fillA_one rfl (by simp [splice, AV.cells]), fillA_one rfl (by simp [splice, AV.cells])]
  rfl
theorem fill4 (a b c : Int) {d : AV} (h : d.one = true) : fillA [.int .i64 0, .int .i64 0, .int .i64 0, .nilsl] [(0, 1, .int .i64 a), (1, 1, .int .i64 b), (2, 1, .int .i64 c), (3, 1, d)] = some [.int .i64 a, .int .i64 b, .int .i64 c, d] := by
  rw [fillA_one rfl (by simp), fillA_one rfl (by simp [splice]), fillA_one rfl (by simp [splice]), fillA_one h (by simp [splice])]
  rfl
/-- What a run gives. -/
def runRes (v tr n : Int) (aa : AV) : AV := .tup [.agg [.int .i64 v, .int .i64 tr, .int .i64 n, aa], .int .i64 0]
section
variable {bar : Nat} {g : H} {own : Nat → Nat} {fa aa : AV} {fs : List Fn} {p mo : Int} {M R : Nat} {m : Mem} {r : Row}
theorem Run_ok (hv : FV g fa fs) (hfo : At own fa 0) (hm : MemO g bar own M m) (hr : RowO g bar own R r) (hbar : bar ≤ g.n) (hright : rightN p mo fs = 0) (hto : ∀ f ∈ fs, toOk f) (hsig : ∀ f ∈ fs, ∀ k ∈ (gTok f.code).1, sigOk k.sign = true) (harg : ∀ f ∈ fs, 0 ≤ f.args ∧ f.args ≤ 26) (hl32 : fs.length ≤ 32)
    {nm fuel : Int} (hf0 : 0 ≤ fuel) (hf1 : fuel ≤ 1048576) {k : Nat} (hk : findN nm fs 0 = k) {f : Fn} (hf : fs[k]? = some f) {args : List Int} (haa : Vw 1 g aa args.length (args.map (AV.int .i64))) (hargs : f.args = args.length) (hra : r.asks.length ≤ 900000)
    {s' : Mc} {v : Int} {n' : Nat} (hrun : runM fs (fs.map codeN) fuel.toNat ⟨[newF (codeN f) args], m, r, 0⟩ = some (s', v, n')) :
    ∃ xa g' own' ids C, call tb prim n_engine_Run [.agg [.int .i64 p, .int .i64 mo, fa], .ptr M 0, .ptr R 0, .int .i32 nm, .int .i64 fuel, aa] bar g = some (runRes v s'.trap n' xa, g') ∧ FzV 2 xa (s'.r.asks.length - r.asks.length) ((s'.r.asks.drop r.asks.length).flatMap asC) ∧ C.M = M ∧ C.R = R ∧ XO g' bar own' C s'.trap v ids ∧ MemO g' bar own' M s'.m ∧ RowO g' bar own' R s'.r ∧ Kp own tA g g' ∧ Agr g.n own own' := by
  -- ahead of the runner
  obtain ⟨g1, hg1⟩ : ∃ g1, g1 = (g.alloc (.cells [.int .i64 p, .int .i64 mo, fa] 0)).alloc (.cells [.int .i64 0, .int .i64 0, .int .i64 0, .nilsl] 0) := ⟨_, rfl⟩
  have n1 : g1.n = g.n + 2 := by rw [hg1]; simp [n_alloc]
  have k1 : ∀ j, j < g.n → g1.get j = g.get j := fun j hj => by rw [hg1, get_alloc, if_neg (by simp [n_alloc]; omega), get_alloc, if_neg (by omega)]
  have gU : g1.get g.n = some (.cells [.int .i64 p, .int .i64 mo, fa] 0) := by rw [hg1, get_alloc, if_neg (by simp [n_alloc]), get_alloc, if_pos rfl]
  have gC : g1.get (g.n + 1) = some (.cells [.int .i64 0, .int .i64 0, .int .i64 0, .nilsl] 0) := by rw [hg1, get_alloc, if_pos (by simp [n_alloc])]
  have hv1 : FV g1 fa fs := hv.keep (by omega) (fun j hj => k1 j (hv.at_lt' hj))
  have eR := unit_Right_ok (bar := bar) (p := p) (m := mo) hv1
  rw [hright] at eR
  have eF := check_Find_ok (pr := prim) (bar := bar) (h := g1) fs fa nm p mo hv1
  rw [hk] at eF
  have hkl := (List.getElem?_eq_some_iff.mp hf).1
  have hfk : fs[k] = f := (List.getElem?_eq_some_iff.mp hf).2
  obtain ⟨own1, hown1⟩ : ∃ own1, own1 = ext own g.n 9 := ⟨_, rfl⟩
  have kp1 : Kp own (fun _ => False) g g1 := ⟨by omega, fun j hj _ => k1 j hj⟩
  have ag1 : Agr g.n own own1 := by rw [hown1]; exact Agr.ext
  have m1 := hm.mono kp1 ag1 (by simp)
  have r1 := hr.mono kp1 ag1 (by simp)
  have r1' := r1
  obtain ⟨⟨rla, raa, hrv, _, _⟩, _⟩ := r1'
  obtain ⟨xa0, eA, hxa0⟩ := asks_ok (bar := bar) hrv
  have hlenA := hxa0.len
  obtain ⟨ca, rows, eC, hca, hrl, hrows⟩ := engine_codes_ok (bar := bar) (p := p) (m := mo) hv1 hto (by omega)
  -- the runner
  obtain ⟨C, hC⟩ : ∃ C : Cx, C = ⟨g1.n, p, mo, fa, fs, ca, rows, M, R⟩ := ⟨_, rfl⟩
  have hCM : C.M = M := by rw [hC]
  have hCR : C.R = R := by rw [hC]
  have hCX : C.X = g1.n := by rw [hC]
  have hCfs : C.fs = fs := by rw [hC]
  have hCrows : C.rows = rows := by rw [hC]
  obtain ⟨g2, hg2⟩ : ∃ g2, g2 = g1.alloc (.cells [.int .i64 p, .int .i64 mo, fa, ca, .ptr M 0, .ptr R 0, .nilsl, .int .i64 0, .int .i64 0] 0) := ⟨_, rfl⟩
  have n2 : g2.n = g1.n + 1 := by rw [hg2]; simp [n_alloc]
  obtain ⟨own2, hown2⟩ : ∃ own2, own2 = ext own1 g1.n 1 := ⟨_, rfl⟩
  have kp2 : Kp own1 (fun _ => False) g1 g2 := by rw [hg2]; exact alloc_kp
  have ag2 : Agr g1.n own1 own2 := by rw [hown2]; exact Agr.ext
  have hfo1 : At own1 fa 0 := fun j hj => by rw [ag1 j (hv.at_lt' hj)]; exact hfo j hj
  have cx1 : CxV g1 own1 C := by
    rw [hC]
    refine ⟨hv1, hfo1, hca, fun x hx => ?_⟩
    obtain ⟨j, hj⟩ := List.mem_iff_getElem?.mp hx
    obtain ⟨f2, hf2, e2, hcv⟩ := hrows j x hj
    refine ⟨hcv, ?_⟩
    rw [e2]; exact harg f2 (List.mem_of_getElem? hf2)
  have cx2 : CxV g2 own2 C := cx1.mono kp2 ag2 (by simp)
  have x2 : XO g2 bar own2 C 0 0 [] := ⟨⟨.nilsl, by rw [hCX, hg2, get_alloc, if_pos rfl, hC]; rfl, OW.nil, fun j hj => hj.elim⟩, by rw [hCX, hown2]; simp [ext], by rw [hCX]; omega, by rw [hCX]; omega, by simp⟩
  have m2 := m1.mono kp2 ag2 (by simp)
  have r2 := r1.mono kp2 ag2 (by simp)
  obtain ⟨x, hx⟩ : ∃ x, rows[k]? = some x := ⟨rows[k]'(by omega), List.getElem?_eq_getElem (by omega)⟩
  obtain ⟨f2, hf2, ex2, hcv2⟩ := hrows k x hx
  have : f2 = f := by rw [hf] at hf2; cases hf2; rfl
  subst this
  have haa2 : Vw 1 g2 aa args.length (args.map (AV.int .i64)) := haa.keep (by omega) (fun j hj => by have := haa.at_lt' hj; rw [hg2, get_alloc, if_neg (by omega)]; exact k1 j this)
  obtain ⟨g3, own3, e3, x3, f3, k3, a3⟩ := call_ok' (bar := bar) (args := args) x2 cx2 (Nat.le_refl _) (by omega) (by rw [hCrows]; exact hx) haa2 (by have := (harg f2 (List.mem_of_getElem? hf)).2; omega) (by simp)
  have cx3 := cx2.mono k3 a3 (by omega)
  have m3 := m2.mono k3 a3 (by omega)
  have r3 := r2.mono k3 a3 (by omega)
  have hsmall : totS [newF x.2.2 args] = 0 := rfl
  have xv3 : XV g3 bar own3 C ⟨[newF (codeN f2) args], m, r, 0⟩ 0 [g2.n] := ⟨x3, cx3, ⟨by rw [← ex2]; exact f3, trivial⟩, by rw [hCM]; exact m3, by rw [hCR]; exact r3, by have := k3.1; omega⟩
  have hmap : C.rows.map (·.2.2) = fs.map codeN := by
    rw [hCrows]
    apply List.ext_getElem?
    intro j
    rw [List.getElem?_map, List.getElem?_map]
    cases hj : rows[j]? with
    | none =>
      have : fs[j]? = none := by rw [List.getElem?_eq_none_iff] at hj ⊢; omega
      rw [this]; rfl
    | some y =>
      obtain ⟨f4, h4, h5, _⟩ := hrows j y hj
      rw [h4]; simp [h5]
  obtain ⟨lp, hlp⟩ := runM_pre _ hrun
  simp only at hlp
  have hws : (fuel.toNat : Int) = fuel := Int.toNat_of_nonneg hf0
  -- the result
  obtain ⟨y, g9, hcall, xa, own', ids, rfl, q1, q2, q3, q4, q5, q6⟩ := callF_K (o := call tb prim) (F := f_engine_Run) (bar := bar) (h := g) (args := [.agg [.int .i64 p, .int .i64 mo, fa], .ptr M 0, .ptr R 0, .int .i32 nm, .int .i64 fuel, aa])
    (P := fun y g' => ∃ xa own' ids, y = runRes v s'.trap n' xa ∧ FzV 2 xa (s'.r.asks.length - r.asks.length) ((s'.r.asks.drop r.asks.length).flatMap asC) ∧ XO g' bar own' C s'.trap v ids ∧ MemO g' bar own' M s'.m ∧ RowO g' bar own' R s'.r ∧ Kp own tA g g' ∧ Agr g.n own own') rfl rfl (fun K hK => by
    have d0 : decide (fuel < 0) = false := by simpa using hf0
    have d1 : decide (1048576 < fuel) = false := by simpa using hf1
    have dk : decide ((k : Int) < 0) = false := by simp
    have da : ((args.length : Int) != f2.args) = false := by rw [hargs]; simp
    have hla := haa.len
    simp [f_engine_Run, env0, go_sem, get_alloc, n_alloc, get_set, n_set, get_kill, n_kill, writeAt, a11, a21, a31, a41, a51, a61, a71, isNil, isNilK, hv.one, d0, d1]
    rw [← hg1]
    simp [go_sem, get_alloc, n_alloc, get_set, n_set, get_kill, n_kill, writeAt, a11, a21, a31, a41, a51, a61, a71, isNil, gU, eR, eF, dk, hla, goI]
    refine S_fld hv1 hkl fun u w => ?_
    rw [hfk]
    simp [go_sem, get_alloc, n_alloc, get_set, n_set, get_kill, n_kill, writeAt, a11, a21, a31, a41, a51, a61, a71, isNil, gU, da, eA, hlenA, goI, eC]
    have hfX := fillX p mo hv.one hca.one M R
    have hoX : ([.int .i64 p, .int .i64 mo, fa, ca, .ptr M 0, .ptr R 0, .nilsl, .int .i64 0, .int .i64 0] : List AV).all AV.one = true := by
      show (true && (true && (fa.one && (ca.one && (true && (true && (true && (true && (true && true))))))))) = true
      rw [hv.one, hca.one]; rfl
    rw [hCX] at e3
    simp [go_sem, get_alloc, n_alloc, get_set, n_set, get_kill, n_kill, writeAt, a11, a21, a31, a41, a51, a61, a71, isNil, evParts, hfX, AV.cells, hoX]
    rw [← hg2]
    simp [go_sem, get_alloc, n_alloc, get_set, n_set, get_kill, n_kill, writeAt, a11, a21, a31, a41, a51, a61, a71, isNil, e3]
    have hcs : ∀ x ∈ C.rows, ∀ k ∈ x.2.2.l, sigOk k.sign = true := fun y hy k2 hk2 => by
      rw [hCrows] at hy
      obtain ⟨j, hj⟩ := List.mem_iff_getElem?.mp hy
      obtain ⟨f4, h4, h5, _⟩ := hrows j y hj
      rw [h5] at hk2
      exact hsig f4 (List.mem_of_getElem? h4) k2 hk2
    have hl := fun Q hq => run_loop (bar := bar) (b := bar) (C := C) (Nat.le_refl _) r.asks.length (g.n + 1) hcs Q fuel.toNat g3 own3 ⟨[newF (codeN f2) args], m, r, 0⟩ [g2.n] (s' := s') (v := v) (n' := n') xv3 (fun y hy k2 hk2 => by
      rw [List.mem_singleton] at hy; subst hy; exact hsig f2 (List.mem_of_getElem? hf) k2 hk2) (by show 0 + 0 + fuel.toNat < _; omega) (by show r.asks.length + fuel.toNat < _; omega) (by simp) (by omega) (by rw [hCfs, hmap]; exact hrun) hq
    simp only [hCR, hCX, hws] at hl
    refine hl _ (fun e g4 own4 hR k4 a4 ge2 ge4 ge12 ge16 ge17 => ?_)
    obtain ⟨⟨ids, x4⟩, m4, r4, b4⟩ := hR
    rw [hCM] at m4
    rw [hCR] at r4
    have r4' := r4
    obtain ⟨⟨rla4, raa4, hrv4, _, _⟩, _⟩ := r4'
    obtain ⟨xa4, eA4, hxa4⟩ := asks_ok (bar := bar) hrv4
    have hle4 : r.asks.length ≤ s'.r.asks.length := by rw [hlp]; simp
    obtain ⟨xa5, eD, hxa5⟩ := hxa4.drop hle4
    rw [flat_drop (c := asC) (k := 2) (fun _ => rfl)] at hxa5
    have x4' := x4
    obtain ⟨⟨fra, gx4, _, _⟩, _, _, _, _⟩ := x4'
    rw [hCX] at gx4
    obtain ⟨xc, hxc⟩ : ∃ xc, xc = xC C fra s'.trap v := ⟨_, rfl⟩
    have hx7 : xc[7]? = some (.int .i64 s'.trap) := by rw [hxc]; rfl
    have hx8 : xc[8]? = some (.int .i64 v) := by rw [hxc]; rfl
    rw [← hxc] at gx4
    have oC1 : own1 (g.n + 1) = 9 := by rw [hown1]; simp only [ext]; rw [if_neg (by omega)]
    have oC2 : own2 (g.n + 1) = 9 := by rw [ag2 _ (by omega)]; exact oC1
    have oC3 : own3 (g.n + 1) = 9 := by rw [a3 _ (by omega)]; exact oC2
    have oC4 : own4 (g.n + 1) = 9 := by rw [a4 _ (by have := k3.1; omega)]; exact oC3
    have gC2 : g2.get (g.n + 1) = some (.cells [.int .i64 0, .int .i64 0, .int .i64 0, .nilsl] 0) := by rw [kp2.2 _ (by omega) (by simp)]; exact gC
    have gC3 : g3.get (g.n + 1) = some (.cells [.int .i64 0, .int .i64 0, .int .i64 0, .nilsl] 0) := by rw [k3.2 _ (by omega) (by rw [oC2]; omega)]; exact gC2
    have gC4 : g4.get (g.n + 1) = some (.cells [.int .i64 0, .int .i64 0, .int .i64 0, .nilsl] 0) := by rw [k4.2 _ (by have := k3.1; omega) (by rw [oC3]; unfold tA; omega)]; exact gC3
    have hf4 := fill4 v s'.trap n' hxa5.one
    have hall : ([.int .i64 v, .int .i64 s'.trap, .int .i64 n', xa5] : List AV).all AV.one = true := by
      show (true && (true && (true && (xa5.one && true)))) = true
      rw [hxa5.one]; rfl
    have hsta : ([.int .i64 v, .int .i64 s'.trap, .int .i64 n', xa5] : List AV).all AV.stay = true := by
      show (true && (true && (true && (xa5.stay && true)))) = true
      rw [hxa5.stay]; rfl
    have hfre : ([.int .i64 v, .int .i64 s'.trap, .int .i64 n', xa5] : List AV).all AV.free = true := by
      show (true && (true && (true && (xa5.free && true)))) = true
      rw [hxa5.free]; rfl
    have hbC : bar ≤ g.n + 1 := by omega
    obtain ⟨g5, hg5⟩ : ∃ g5, g5 = g4.set (g.n + 1) (.cells [.int .i64 v, .int .i64 s'.trap, .int .i64 n', xa5] 0) := ⟨_, rfl⟩
    have k5 : Kp own4 (fun k => k = 9) g4 g5 := ⟨by rw [hg5, n_set]; exact Nat.le_refl _, fun j hj hs => by rw [hg5, get_set_ne (fun q => hs (by rw [q]; exact oC4))]⟩
    have hfz := fun d h => freezeL_stay (bar := bar) (d := d) (h := h) hsta
    have gC5 : g5.get (g.n + 1) = some (.cells [.int .i64 v, .int .i64 s'.trap, .int .i64 n', xa5] 0) := by rw [hg5, get_set, if_pos rfl]
    have hw0 : (([.int .i64 0, .int .i64 0, .int .i64 0, .nilsl] : List AV)).length = 4 := rfl
    simp [go_sem, get_alloc, n_alloc, get_set, n_set, get_kill, n_kill, writeAt, a11, a21, a31, a41, a51, a61, a71, isNil, ge2, ge4, ge12, ge16, ge17, gx4, hx7, hx8, eA4, optEv, eD, evParts, hf4, gC4, hbC, AV.cells, hall, sp40]
    rw [← hg5]
    simp [go_sem, endP, endI, resultsA, resultA, freezeL, freezeV, AV.free.freeL, AV.free, packA, dropS, gC5, freezeV, freezeL, hfz]
    have kk4 : Kp own tA g g4 := (kp1.le fun k h => h.elim).trans ag1 ((kp2.le fun k h => h.elim).trans ag2 ((k3.le fun k h => by unfold tA; have h' : k = 1 ∨ k = 2 := h; omega).trans a3 k4))
    have kk : Kp own tA g g5 := ⟨by rw [hg5, n_set]; exact kk4.1, fun j hj hs => by rw [hg5, get_set_ne (by omega)]; exact kk4.2 j hj hs⟩
    have aa5 : Agr g.n own own4 := Agr.trans ag1 (Agr.trans ag2 (Agr.trans a3 a4 k3.1) (by omega)) (by omega)
    exact ⟨_, _, ⟨rfl, rfl⟩, hK _ _ ⟨xa5, own4, ids, rfl, hxa5, x4.mono k5 Agr.refl (by omega), m4.mono k5 Agr.refl (by omega), r4.mono k5 Agr.refl (by omega), kk, aa5⟩⟩)
  exact ⟨xa, _, own', ids, C, call_of tb_engine_Run hcall, q1, hCM, hCR, q2, q3, q4, q5, q6⟩
end
end Go.Ev
set_option linter.unusedSectionVars false
namespace Go.Ev
open Go
/-- A code's text. -/
structure TextOk (code : ByteArray) (c : Code') : Prop where
  tok : gTok code = (c.l, 0)
  nest : nestP c.l = some c.to
  args : c.args = 2
  right : rightN 1 8 [⟨102, 2, code⟩] = 0
  to : c.to.all (fun x => decide (x ≤ 2000)) = true
  sig : c.l.all (fun k => sigOk k.sign) = true
theorem TextOk.code {code : ByteArray} {c : Code'} (h : TextOk code c) : codeN ⟨102, 2, code⟩ = c := by
  unfold codeN
  simp only [h.tok, h.nest, Option.getD_some]
  rw [← h.args]
theorem fillO (s : ByteArray) : fillA [.int .i32 0, .int .i64 0, .str ⟨#[]⟩] [(0, 1, .int .i32 102), (1, 1, .int .i64 2), (2, 1, .str s)] = some [.int .i32 102, .int .i64 2, .str s] := by
  rw [fillA_one rfl (by simp), fillA_one rfl (by simp [splice]), fillA_one rfl (by simp [splice])]; rfl
theorem fillO3 (s : ByteArray) : fillA [.int .i32 0, .int .i64 0, .str ⟨#[]⟩] [(0, 3, .agg [.int .i32 102, .int .i64 2, .str s])] = some [.int .i32 102, .int .i64 2, .str s] := by
  rw [fillA_cons (n := 3) (v := .agg [.int .i32 102, .int .i64 2, .str s]) rfl (by simp) rfl]; rfl
theorem fillU (p m : Int) {a : AV} (h : a.one = true) : fillA [.int .i64 0, .int .i64 0, .nilsl] [(0, 1, .int .i64 p), (1, 1, .int .i64 m), (2, 1, a)] = some [.int .i64 p, .int .i64 m, a] := by
  rw [fillA_one rfl (by simp), fillA_one rfl (by simp [splice]), fillA_one h (by simp [splice])]; rfl
theorem fill2i (a b : Int) : fillA [.int .i64 0, .int .i64 0] [(0, 1, .int .i64 a), (1, 1, .int .i64 b)] = some [.int .i64 a, .int .i64 b] := by
  rw [fillA_one rfl (by simp), fillA_one rfl (by simp [splice])]; rfl
section
variable {bar : Nat} {g : H}
theorem top_one_ok (s : ByteArray) : ∃ fa, call tb prim n_engramtop_one [.str s] bar g = some (.agg [.int .i64 1, .int .i64 8, fa], g) ∧ FzV 3 fa 1 [.int .i32 102, .int .i64 2, .str s] := by
  suffices hw : ∃ r, callF (call tb prim) f_engramtop_one [.str s] bar g = some (r, g) ∧ ∃ fa, r = .agg [.int .i64 1, .int .i64 8, fa] ∧ FzV 3 fa 1 [.int .i32 102, .int .i64 2, .str s] by
    obtain ⟨r, h1, fa, rfl, h2⟩ := hw; exact ⟨fa, call_of tb_engramtop_one h1, h2⟩
  refine callF_pureK rfl rfl fun K hK => ?_
  have hU := fun a (h : AV.one a = true) => fillU 1 8 h
  simp [f_engramtop_one, env0, go_sem, get_alloc, n_alloc, get_set, n_set, get_kill, n_kill, writeAt, a11, a21, a31, a41, a51, a61, a71, isNil, evParts, fillO, fillO3, AV.cells, hU, spT3]
  simp [go_sem, get_alloc, n_alloc, get_set, n_set, get_kill, n_kill, writeAt, a11, a21, a31, a41, a51, a61, a71, endX, resultsA, resultA, freezeL, AV.free.freeL, packA, freezeV, freezeL, AV.free, AV.free.freeL]
  exact hK _ ⟨.fz 3 1 [.int .i32 102, .int .i64 2, .str s] true, rfl, ⟨rfl, by omega, .inr ⟨true, rfl⟩⟩⟩
open Classical in
/-- Whose the objects are ahead of a run. -/
noncomputable def ownR (M R : Nat) (ba da la aa : AV) : Nat → Nat := fun j => if j = M then 3 else if j = R then 6 else if ba.isAt j then 4 else if da.isAt j then 5 else if la.isAt j then 7 else if aa.isAt j then 8 else 9
theorem top_ends_ok {code : ByteArray} {c : Code'} {a b : Int} (ht : TextOk code c) {s' : Mc} {v : Int} {n' : Nat} (hr : runM [⟨102, 2, code⟩] [c] 100000 (M1 c (zeroM 1 8) ⟨[], []⟩ 0 (lc a b 0 0 0 0 0 0) []) = some (s', v, n')) :
    call tb prim n_engramtop_ends [.str code, .int .i64 a, .int .i64 b] bar g = some (.tup [.int .i64 v, .int .i64 s'.trap, .bool true], g) := by
  refine call_of tb_engramtop_ends (callF_pureW rfl rfl (M_in ?_))
  obtain ⟨fa, e1, hfa⟩ := top_one_ok (bar := g.n) (g := g) code
  obtain ⟨g2, M, ba, da, e2, hM, n2, k2⟩ := new_ok (bar := g.n) (g := g) 1 8 (by omega) (by omega) (Nat.le_refl _)
  obtain ⟨g3, e3, hR, n3, k3⟩ := row_new_nil (bar := g.n) (g := g2) n2
  obtain ⟨g4, hg4⟩ : ∃ g4, g4 = g3.alloc (.cells [.int .i64 a, .int .i64 b] 0) := ⟨_, rfl⟩
  have n4 : g4.n = g3.n + 1 := by rw [hg4, n_alloc]
  have k4 : ∀ j, j < g3.n → g4.get j = g3.get j := fun j hj => by rw [hg4, get_alloc, if_neg (by omega)]
  have hMl := hM.lt
  have hM4 : MemV g4 g.n M (zeroM 1 8) ba da := hM.mono (by omega) (by rw [k4 _ (by omega), k3 _ hMl]) (fun j hj => by have := (hM.ob.at_lt hj).2; rw [k4 _ (by omega), k3 _ this]) (fun j hj => by have := (hM.od.at_lt hj).2; rw [k4 _ (by omega), k3 _ this])
  have hMO : MemO g4 g.n (ownR M g2.n ba da .nilsl .nilsl) M (zeroM 1 8) := by
    refine ⟨⟨ba, da, hM4, fun j hj => ?_, fun j hj => ?_⟩, by simp [ownR]⟩
    · have h1 : j ≠ M := fun q => hM.nb (q ▸ hj)
      have h2 : j ≠ g2.n := by have := (hM.ob.at_lt hj).2; omega
      simp [ownR, h1, h2, hj]
    · have h1 : j ≠ M := fun q => hM.nd (q ▸ hj)
      have h2 : j ≠ g2.n := by have := (hM.od.at_lt hj).2; omega
      have h3 : ¬ ba.isAt j := fun q => hM.ap j q hj
      simp [ownR, h1, h2, h3, hj]
  have hRO : RowO g4 g.n (ownR M g2.n ba da .nilsl .nilsl) g2.n ⟨[], []⟩ := by
    refine ⟨⟨.nilsl, .nilsl, ⟨by rw [k4 _ (by omega)]; exact hR.get, n2, by omega, ⟨rfl, by simp, .inl ⟨rfl, rfl⟩⟩, OW.nil, fun q => q, fun q => q, fun j q => q.elim, by simp⟩, fun j hj => hj.elim, fun j hj => hj.elim⟩, ?_⟩
    have h1 : g2.n ≠ M := by omega
    simp [ownR, h1]
  have hFV : FV g4 fa [⟨102, 2, code⟩] := hfa.vw g4
  have hnot : ∀ j, ¬ fa.isAt j := fun j hj => by
    obtain ⟨_, _, ⟨rfl, _⟩ | ⟨full, rfl⟩⟩ := hfa <;> exact hj
  have hsz : g3.get g3.n = g3.get g3.n := rfl
  have hva : Vw 1 g4 (.sl g3.n 0 1 2 true) [a, b].length ([a, b].map (AV.int .i64)) := ⟨rfl, by simp, .inr (.inr ⟨g3.n, 0, true, [.int .i64 a, .int .i64 b], 0, rfl, by omega, by rw [hg4, get_alloc, if_pos rfl], by simp, rfl⟩)⟩
  obtain ⟨xa, g5, own', ids, C, e5, hxa, _, _, _, _, _, k5, _⟩ := Run_ok (bar := g.n) (p := 1) (mo := 8) (nm := 102) (fuel := 100000) (k := 0) (f := ⟨102, 2, code⟩) (args := [a, b]) hFV (fun j hj => (hnot j hj).elim) hMO hRO (by omega) ht.right (fun f hf => by
      rw [List.mem_singleton] at hf; subst hf
      refine ⟨c.to, by rw [ht.tok]; exact ht.nest, fun x hx => ?_⟩
      have := ht.to
      rw [List.all_eq_true] at this
      simpa using this x hx) (fun f hf k hk => by
      rw [List.mem_singleton] at hf; subst hf
      rw [ht.tok] at hk
      have := ht.sig
      rw [List.all_eq_true] at this
      simpa using this k hk) (fun f hf => by rw [List.mem_singleton] at hf; subst hf; exact ⟨by show (0 : Int) ≤ 2; omega, by show (2 : Int) ≤ 26; omega⟩) (by simp) (by omega) (by omega) rfl rfl hva rfl (by simp) (by
      rw [List.map_singleton, ht.code]; exact hr)
  rw [show ((1 : Nat) : Int) = 1 from rfl] at e2
  unfold runRes at e5
  have hall : ([.int .i64 v, .int .i64 s'.trap, .int .i64 n', xa] : List AV).all AV.one = true := by
    show (true && (true && (true && (xa.one && true)))) = true
    rw [hxa.one]; rfl
  simp [f_engramtop_ends, env0, go_sem, get_alloc, n_alloc, get_set, n_set, get_kill, n_kill, writeAt, a11, a21, a31, a41, a51, a61, a71, isNil, e1, e2, e3, evParts, fill2i]
  rw [← hg4]
  simp [go_sem, get_alloc, n_alloc, get_set, n_set, get_kill, n_kill, writeAt, a11, a21, a31, a41, a51, a61, a71, isNil, e5, AV.cells, hall, sp40]
  have hn5 : g.n ≤ g5.n := by have := k5.1; omega
  simp [go_sem, get_alloc, n_alloc, get_set, n_set, get_kill, n_kill, writeAt, a11, a21, a31, a41, a51, a61, a71, isNil, hn5]
  simp [go_sem, endP, endI, resultsA, resultA, freezeL, freezeV, AV.free.freeL, AV.free, packA, dropS]
theorem top_says_ok {code : ByteArray} {c : Code'} {a b : Int} (ht : TextOk code c) {s' : Mc} {v : Int} {n' : Nat} (hr : runM [⟨102, 2, code⟩] [c] 100000 (M1 c (zeroM 1 8) ⟨[], []⟩ 0 (lc a b 0 0 0 0 0 0) []) = some (s', v, n')) (h0 : s'.trap = 0) :
    call tb prim n_engramtop_says [.str code, .int .i64 a, .int .i64 b] bar g = some (.tup [.int .i64 v, .bool true], g) := by
  refine call_of tb_engramtop_says (callF_pureW rfl rfl (M_in ?_))
  have e := top_ends_ok (bar := g.n) (g := g) ht hr
  rw [h0] at e
  simp [f_engramtop_says, env0, go_sem, get_alloc, n_alloc, get_set, n_set, get_kill, n_kill, writeAt, a11, a21, a31, a41, a51, a61, a71, isNil, e]
  simp [go_sem, endP, endI, resultsA, resultA, freezeL, freezeV, AV.free.freeL, AV.free, packA, dropS]
theorem says_ends {code : ByteArray} {c : Code'} {a b v : Int} (ht : TextOk code c) {m : Mem} {r : Row} (h : Ends [⟨102, 2, code⟩] [c] 100000 (M1 c (zeroM 1 8) ⟨[], []⟩ 0 (lc a b 0 0 0 0 0 0) []) v m r) :
    call tb prim n_engramtop_says [.str code, .int .i64 a, .int .i64 b] bar g = some (.tup [.int .i64 v, .bool true], g) := by
  obtain ⟨n, hn⟩ := h
  exact top_says_ok ht hn rfl
theorem says_res {code : ByteArray} {c : Code'} {a b v : Int} (ht : TextOk code c) (h : resM (runM [⟨102, 2, code⟩] [c] 100000 (M1 c (zeroM 1 8) ⟨[], []⟩ 0 (lc a b 0 0 0 0 0 0) [])) = some (0, v)) :
    call tb prim n_engramtop_says [.str code, .int .i64 a, .int .i64 b] bar g = some (.tup [.int .i64 v, .bool true], g) := by
  cases hr : runM [⟨102, 2, code⟩] [c] 100000 (M1 c (zeroM 1 8) ⟨[], []⟩ 0 (lc a b 0 0 0 0 0 0) []) with
  | none => rw [hr] at h; cases h
  | some x =>
    obtain ⟨s', w, n'⟩ := x
    rw [hr] at h
    simp only [resM, Option.map_some, Option.some.injEq, Prod.mk.injEq] at h
    rw [← h.2]
    exact top_says_ok ht hr h.1
def wakeC : Code' := ⟨[nu 1, nu 2, tk 43], [-1, -1, -1], 2⟩
theorem wake_text : TextOk ⟨#[49, 32, 50, 43]⟩ wakeC := ⟨by kernel_rfl, by kernel_rfl, rfl, by kernel_rfl, rfl, rfl⟩
theorem wake_res : resM (runM [⟨102, 2, ⟨#[49, 32, 50, 43]⟩⟩] [wakeC] 100000 (M1 wakeC (zeroM 1 8) ⟨[], []⟩ 0 (lc 0 0 0 0 0 0 0 0) [])) = some (0, 3) := by kernel_rfl
theorem top_awake_ok : call tb prim n_engramtop_awake [] bar g = some (.bool true, g) := by
  refine call_of tb_engramtop_awake (callF_pureW rfl rfl (M_in ?_))
  have e := says_res (bar := g.n) (g := g) wake_text wake_res
  simp [f_engramtop_awake, env0, go_sem, get_alloc, n_alloc, get_set, n_set, get_kill, n_kill, writeAt, a11, a21, a31, a41, a51, a61, a71, isNil, e]
  simp [go_sem, endP, endI, resultsA, resultA, freezeL, freezeV, AV.free.freeL, AV.free, packA, dropS]
theorem sums_text : TextOk ⟨#[48, 67, 91, 97, 33, 63, 126, 59, 99, 97, 43, 67, 97, 32, 49, 45, 65, 93, 99]⟩ sumsC := ⟨by kernel_rfl, by kernel_rfl, rfl, by kernel_rfl, rfl, rfl⟩
end
end Go.Ev
set_option linter.unusedSectionVars false
namespace Go.Ev
open Go
open Classical in
/-- Whose the objects are ahead of a run, the program's among them. -/
noncomputable def ownF (fa : AV) (M R : Nat) (ba da la aa : AV) : Nat → Nat := fun j => if fa.isAt j then 0 else if j = M then 3 else if j = R then 6 else if ba.isAt j then 4 else if da.isAt j then 5 else if la.isAt j then 7 else if aa.isAt j then 8 else 9
section
variable {bar : Nat} {g : H}
structure UnitOk (p mo : Int) (fs : List Fn) (cs : List Code') : Prop where
  right : rightN p mo fs = 0
  to : ∀ f ∈ fs, toOk f
  sig : ∀ f ∈ fs, ∀ k ∈ (gTok f.code).1, sigOk k.sign = true
  arg : ∀ f ∈ fs, 0 ≤ f.args ∧ f.args ≤ 26
  len : fs.length ≤ 32
  codes : fs.map codeN = cs
/-- A run, memory and answers anywhere. -/
theorem run_at {fa aa : AV} {fs : List Fn} {cs : List Code'} {p mo : Int} {M R : Nat} {m : Mem} {r : Row} {ba da la ra : AV} (hu : UnitOk p mo fs cs) (hv : FV g fa fs) (hM : MemV g bar M m ba da) (hR : RowV g bar R r la ra) (hbar : bar ≤ g.n)
    (dMR : M ≠ R) (dbR : ¬ ba.isAt R) (ddR : ¬ da.isAt R) (dl : ∀ j, la.isAt j → j ≠ M ∧ ¬ ba.isAt j ∧ ¬ da.isAt j) (dr : ∀ j, ra.isAt j → j ≠ M ∧ ¬ ba.isAt j ∧ ¬ da.isAt j) (df : ∀ j, fa.isAt j → j ≠ M ∧ j ≠ R ∧ ¬ ba.isAt j ∧ ¬ da.isAt j ∧ ¬ la.isAt j ∧ ¬ ra.isAt j)
    {nm fuel : Int} (hf0 : 0 ≤ fuel) (hf1 : fuel ≤ 1048576) {k : Nat} (hk : findN nm fs 0 = k) {f : Fn} (hf : fs[k]? = some f) {args : List Int} (haa : Vw 1 g aa args.length (args.map (AV.int .i64))) (hargs : f.args = args.length) (hra : r.asks.length ≤ 900000)
    {s' : Mc} {v : Int} {n' : Nat} (hrun : runM fs cs fuel.toNat ⟨[newF (codeN f) args], m, r, 0⟩ = some (s', v, n')) :
    ∃ xa g' own' ids C, call tb prim n_engine_Run [.agg [.int .i64 p, .int .i64 mo, fa], .ptr M 0, .ptr R 0, .int .i32 nm, .int .i64 fuel, aa] bar g = some (runRes v s'.trap n' xa, g') ∧ FzV 2 xa (s'.r.asks.length - r.asks.length) ((s'.r.asks.drop r.asks.length).flatMap asC) ∧ C.M = M ∧ C.R = R ∧ XO g' bar own' C s'.trap v ids ∧ MemO g' bar own' M s'.m ∧ RowO g' bar own' R s'.r ∧ Kp (ownF fa M R ba da la ra) tA g g' ∧ Agr g.n (ownF fa M R ba da la ra) own' := by
  have hfM : ¬ fa.isAt M := fun q => (df M q).1 rfl
  have hfR : ¬ fa.isAt R := fun q => (df R q).2.1 rfl
  have hMO : MemO g bar (ownF fa M R ba da la ra) M m := by
    refine ⟨⟨ba, da, hM, fun j hj => ?_, fun j hj => ?_⟩, by simp [ownF, hfM]⟩
    · have h1 : j ≠ M := fun q => hM.nb (q ▸ hj)
      have h2 : j ≠ R := fun q => dbR (q ▸ hj)
      have h3 : ¬ fa.isAt j := fun q => (df j q).2.2.1 hj
      simp [ownF, h1, h2, h3, hj]
    · have h1 : j ≠ M := fun q => hM.nd (q ▸ hj)
      have h2 : j ≠ R := fun q => ddR (q ▸ hj)
      have h3 : ¬ fa.isAt j := fun q => (df j q).2.2.2.1 hj
      have h4 : ¬ ba.isAt j := fun q => hM.ap j q hj
      simp [ownF, h1, h2, h3, h4, hj]
  have hRO : RowO g bar (ownF fa M R ba da la ra) R r := by
    refine ⟨⟨la, ra, hR, fun j hj => ?_, fun j hj => ?_⟩, ?_⟩
    · obtain ⟨h1, h4, h5⟩ := dl j hj
      have h2 : j ≠ R := fun q => hR.nl (q ▸ hj)
      have h3 : ¬ fa.isAt j := fun q => (df j q).2.2.2.2.1 hj
      simp [ownF, h1, h2, h3, h4, h5, hj]
    · obtain ⟨h1, h4, h5⟩ := dr j hj
      have h2 : j ≠ R := fun q => hR.na (q ▸ hj)
      have h3 : ¬ fa.isAt j := fun q => (df j q).2.2.2.2.2 hj
      have h6 : ¬ la.isAt j := fun q => hR.ap j q hj
      simp [ownF, h1, h2, h3, h4, h5, h6, hj]
    · have h1 : R ≠ M := fun q => dMR q.symm
      simp [ownF, hfR, h1]
  exact Run_ok hv (fun j hj => by simp [ownF, hj]) hMO hRO hbar hu.right hu.to hu.sig hu.arg hu.len hf0 hf1 hk hf haa hargs hra (by rw [hu.codes]; exact hrun)
/-- New memory, no answers, and a run. -/
theorem run_new {fa : AV} {fs : List Fn} {cs : List Code'} {p mo : Int} (hu : UnitOk p mo fs cs) (hv : FV g fa fs) (hbar : bar ≤ g.n) {pages : Nat} {most : Int} (hp : (pages : Int) ≤ most) (hmo : most ≤ 64)
    {nm fuel : Int} (hf0 : 0 ≤ fuel) (hf1 : fuel ≤ 1048576) {k : Nat} (hk : findN nm fs 0 = k) {f : Fn} (hf : fs[k]? = some f) {args : List Int} (hargs : f.args = args.length) (hla : args.length ≤ 26)
    {s' : Mc} {v : Int} {n' : Nat} (hrun : runM fs cs fuel.toNat ⟨[newF (codeN f) args], zeroM pages most, ⟨[], []⟩, 0⟩ = some (s', v, n')) :
    ∃ g2 M g3 g5 xa, call tb prim n_cells_New [.int .i64 pages, .int .i64 most] bar g = some (.ptr M 0, g2) ∧ call tb prim n_reply_New [.nilsl] bar g2 = some (.ptr g2.n 0, g3) ∧ g3.n = g2.n + 1 ∧ g.n ≤ g2.n ∧ (∀ j, j < g.n → g2.get j = g.get j) ∧ (∀ j, j < g2.n → g3.get j = g2.get j) ∧
      call tb prim n_engine_Run [.agg [.int .i64 p, .int .i64 mo, fa], .ptr M 0, .ptr g2.n 0, .int .i32 nm, .int .i64 fuel, .sl g3.n 0 1 args.length true] bar (g3.alloc (.cells (args.map (AV.int .i64)) 0)) = some (runRes v s'.trap n' xa, g5) ∧ FzV 2 xa s'.r.asks.length (s'.r.asks.flatMap asC) ∧ g.n ≤ g5.n ∧ (∀ j, j < g.n → (fa.isAt j ∨ True) → g5.get j = g.get j) := by
  obtain ⟨g2, M, ba, da, e2, hM, n2, k2⟩ := new_ok (bar := bar) (g := g) pages most hp hmo hbar
  obtain ⟨g3, e3, hR, n3, k3⟩ := row_new_nil (bar := bar) (g := g2) (by omega)
  obtain ⟨g4, hg4⟩ : ∃ g4, g4 = g3.alloc (.cells (args.map (AV.int .i64)) 0) := ⟨_, rfl⟩
  have n4 : g4.n = g3.n + 1 := by rw [hg4, n_alloc]
  have k4 : ∀ j, j < g3.n → g4.get j = g3.get j := fun j hj => by rw [hg4, get_alloc, if_neg (by omega)]
  have hMl := hM.lt
  have hMb := hM.bM
  have hM4 : MemV g4 bar M (zeroM pages most) ba da := by
    have h1 : MemV g4 g.n M (zeroM pages most) ba da := hM.mono (by omega) (by rw [k4 _ (by omega), k3 _ hMl]) (fun j hj => by have := (hM.ob.at_lt hj).2; rw [k4 _ (by omega), k3 _ this]) (fun j hj => by have := (hM.od.at_lt hj).2; rw [k4 _ (by omega), k3 _ this])
    exact ⟨h1.get, by omega, h1.lt, h1.ob.bar_le hbar, h1.od.bar_le hbar, h1.nb, h1.nd, h1.ap, h1.sz, h1.m0, h1.m1, h1.rng⟩
  have hR4 : RowV g4 bar g2.n ⟨[], []⟩ .nilsl .nilsl := ⟨by rw [k4 _ (by omega)]; exact hR.get, by omega, by omega, ⟨rfl, by simp, .inl ⟨rfl, rfl⟩⟩, OW.nil, fun q => q, fun q => q, fun j q => q.elim, by simp⟩
  have hva : Vw 1 g4 (.sl g3.n 0 1 args.length true) args.length (args.map (AV.int .i64)) := ⟨by simp, by omega, .inr (.inr ⟨g3.n, 0, true, args.map (AV.int .i64), 0, rfl, by omega, by rw [hg4, get_alloc, if_pos rfl], by simp, by rw [List.drop_zero, List.take_of_length_le (by simp)]⟩)⟩
  have hv4 : FV g4 fa fs := hv.keep (by omega) (fun j hj => by have := hv.at_lt' hj; rw [k4 _ (by omega), k3 _ (by omega), k2 _ this])
  obtain ⟨xa, g5, own', ids, C, e5, hxa, _, _, _, _, _, k5, _⟩ := run_at (bar := bar) hu hv4 hM4 hR4 (by omega) (by omega) (fun q => by have := (hM.ob.at_lt q).2; omega) (fun q => by have := (hM.od.at_lt q).2; omega) (fun j hj => hj.elim) (fun j hj => hj.elim)
    (fun j hj => by have := hv.at_lt' hj; exact ⟨by omega, by omega, fun q => by have := (hM.ob.at_lt q).1; omega, fun q => by have := (hM.od.at_lt q).1; omega, fun q => q, fun q => q⟩) hf0 hf1 hk hf hva hargs (by simp) hrun
  refine ⟨g2, M, g3, g5, xa, e2, e3, n3, n2, k2, k3, by rw [← hg4]; exact e5, by simpa using hxa, by have := k5.1; omega, fun j hj _ => ?_⟩
  rw [k5.2 j (by omega) ?_, k4 _ (by omega), k3 _ (by omega), k2 _ hj]
  have h1 : j ≠ M := by omega
  have h2 : j ≠ g2.n := by omega
  have h3 : ¬ ba.isAt j := fun q => by have := (hM.ob.at_lt q).1; omega
  have h4 : ¬ da.isAt j := fun q => by have := (hM.od.at_lt q).1; omega
  have h5 : ¬ (AV.nilsl).isAt j := fun q => q
  simp only [ownF, h1, h2, h3, h4, h5, if_false]
  unfold tA
  split <;> omega
end
end Go.Ev
namespace Go.Ev
open Go
theorem arg_i64 {P : Program} {n : Nat} {t : TypeId} {a : AV} (hu : P.underlying t = some (.int .i64)) (h : argOk P (n + 1) t a) : ∃ x, a = .int .i64 x ∧ -9223372036854775808 ≤ x ∧ x ≤ 9223372036854775807 := by
  unfold argOk at h; rw [hu] at h; unfold Fits at h; simp only [hu] at h
  obtain ⟨z, hz, hr⟩ := h; cases hz
  refine ⟨z, rfl, ?_⟩
  simp [Lit.wf] at hr
  have h1 : IntKind.i64.min = -9223372036854775808 := by decide
  have h2 : IntKind.i64.max = 9223372036854775807 := by decide
  omega
end Go.Ev
namespace Go.Ev
open Go
theorem wI_pow (x y : Int) : ∀ n : Nat, wI (x * wI y ^ n) = wI (x * y ^ n)
  | 0 => by simp
  | n + 1 => by
    rw [Int.pow_succ, Int.pow_succ, ← Int.mul_assoc, ← Int.mul_assoc, wI_mul', ← wI_mul (x * wI y ^ n), wI_pow x y n, wI_mul]
section
variable {fs : List Fn} {cs : List Code'} {m : Mem} {r : Row}
/-- Powers. -/
def powsC : Code' := ⟨[nu 1, tk 67, tk 91, tk 98, tk 33, tk 63, tk 126, tk 59, tk 98, nu 1, tk 38, tk 63, tk 99, tk 97, tk 42, tk 67, tk 59, tk 97, tk 46, tk 42, tk 65, tk 98, nu 1, tk 187, tk 66, tk 93, tk 99], [-1, -1, -1, -1, -1, 7, 26, -1, -1, -1, -1, 16, -1, -1, -1, -1, -1, -1, -1, -1, -1, -1, -1, -1, -1, 2, -1], 2⟩
theorem pow_body {a b c d e f g h : Int} (hb : b ≠ 0) : Rb fs cs 24 (M1 powsC m r 2 (lc a b c d e f g h) []) (M1 powsC m r 2 (lc (wI (a * a)) (b.fdiv 2) (if andI b 1 = 0 then c else wI (c * a)) d e f g h) []) := by
  have e1 : Rn fs cs 3 (M1 powsC m r 2 (lc a b c d e f g h) []) (M1 powsC m r 5 (lc a b c d e f g h) [bitI (b == 0)]) := fun n => by kernel_rfl
  rw [ne_b0 hb] at e1
  have e2 : Rn fs cs 5 (M1 powsC m r 5 (lc a b c d e f g h) [bitI false]) (M1 powsC m r 11 (lc a b c d e f g h) [andI b 1]) := fun n => by kernel_rfl
  have e4 : ∀ c, Rn fs cs 10 (M1 powsC m r 16 (lc a b c d e f g h) []) (M1 powsC m r 2 (lc (wI (a * a)) (b.fdiv 2) c d e f g h) []) := fun c n => by kernel_rfl
  by_cases q : andI b 1 = 0
  · rw [if_pos q]
    rw [q] at e2
    have e3 : Rn fs cs 1 (M1 powsC m r 11 (lc a b c d e f g h) [0]) (M1 powsC m r 16 (lc a b c d e f g h) []) := fun n => by kernel_rfl
    exact (((e1.trans e2).trans e3).trans (e4 c)).rb.le (by omega)
  · rw [if_neg q]
    have e3 : Rn fs cs 1 (M1 powsC m r 11 (lc a b c d e f g h) [andI b 1]) (M1 powsC m r 12 (lc a b c d e f g h) []) := fun n => by
      have : stepM fs cs (M1 powsC m r 11 (lc a b c d e f g h) [andI b 1]) = if andI b 1 ≠ 0 then some (M1 powsC m r 12 (lc a b c d e f g h) []) else some (M1 powsC m r 16 (lc a b c d e f g h) []) := by kernel_rfl
      rw [if_pos q] at this
      exact run_step (show 11 < 27 by omega) this
    have e5 : Rn fs cs 4 (M1 powsC m r 12 (lc a b c d e f g h) []) (M1 powsC m r 16 (lc a b (wI (c * a)) d e f g h) []) := fun n => by kernel_rfl
    exact ((((e1.trans e2).trans e3).trans e5).trans (e4 _)).rb.le (by omega)
theorem pow_loop : ∀ (j : Nat) (a b c : Int), 0 ≤ b → b < 2 ^ j → -9223372036854775808 ≤ c ∧ c ≤ 9223372036854775807 → ∃ a' c', Rb fs cs (24 * j) (M1 powsC m r 2 (lc a b c 0 0 0 0 0) []) (M1 powsC m r 2 (lc a' 0 c' 0 0 0 0 0) []) ∧ c' = wI (c * a ^ b.toNat)
  | 0, a, b, c, h0, h1, hc => by
    have : b = 0 := by simp at h1; omega
    subst this
    exact ⟨a, c, Rb.refl, by simp [wI_eq hc.1 hc.2]⟩
  | j + 1, a, b, c, h0, h1, hc => by
    by_cases q : b = 0
    · subst q
      exact ⟨a, c, Rb.refl.le (by omega), by simp [wI_eq hc.1 hc.2]⟩
    · have hb := pow_body (fs := fs) (cs := cs) (m := m) (r := r) (a := a) (c := c) (d := 0) (e := 0) (f := 0) (g := 0) (h := 0) q
      have hm : andI b 1 = b % 2 := andI_mask b 1 (by omega)
      have hf : b.fdiv 2 = b / 2 := Int.fdiv_eq_ediv_of_nonneg b (by omega)
      rw [hm, hf] at hb
      rw [Int.pow_succ] at h1
      obtain ⟨a', c', h2, h3⟩ := pow_loop j (wI (a * a)) (b / 2) (if b % 2 = 0 then c else wI (c * a)) (by omega) (by omega) (by split; exact hc; exact wI_rng _)
      refine ⟨a', c', (hb.trans h2).le (by omega), ?_⟩
      rw [h3, wI_pow]
      have hp : (a * a) ^ (b / 2).toNat = a ^ (2 * (b / 2).toNat) := by rw [Int.pow_mul]; congr 1; rw [Int.pow_succ, Int.pow_succ, Int.pow_zero, Int.one_mul]
      rw [hp]
      by_cases q2 : b % 2 = 0
      · rw [if_pos q2, show 2 * (b / 2).toNat = b.toNat by omega]
      · rw [if_neg q2, wI_mul, Int.mul_assoc, ← Int.pow_succ', show 2 * (b / 2).toNat + 1 = b.toNat by omega]
theorem pow_ends {k : Nat} (hk : k ≤ 63) (a : Int) : Ends fs cs 100000 (M1 powsC m r 0 (lc a k 0 0 0 0 0 0) []) (wI (a ^ k)) m r := by
  have e0 : Rn fs cs 2 (M1 powsC m r 0 (lc a k 0 0 0 0 0 0) []) (M1 powsC m r 2 (lc a k 1 0 0 0 0 0) []) := fun n => by kernel_rfl
  obtain ⟨a', c', h2, h3⟩ := pow_loop (fs := fs) (cs := cs) (m := m) (r := r) 6 a k 1 (by omega) (by omega) (by omega)
  have e2 : Rn fs cs 6 (M1 powsC m r 2 (lc a' 0 c' 0 0 0 0 0) []) (M1 powsC m r 27 (lc a' 0 c' 0 0 0 0 0) [c']) := fun n => by kernel_rfl
  rw [Int.one_mul, Int.toNat_natCast] at h3
  rw [← h3]
  exact ((e0.rb.trans h2).trans e2.rb).ends (by omega) (Nat.le_refl _)
/-- The greatest divisor. -/
def gcdC : Code' := ⟨[tk 91, tk 98, tk 33, tk 63, tk 126, tk 59, tk 97, tk 98, tk 37, tk 67, tk 98, tk 65, tk 99, tk 66, tk 93, tk 97], [-1, -1, -1, 5, 15, -1, -1, -1, -1, -1, -1, -1, -1, -1, 0, -1], 2⟩
theorem gcd_body {a b c : Int} (hb : 0 < b) : Rb fs cs 14 (M1 gcdC m r 0 (lc a b c 0 0 0 0 0) []) (M1 gcdC m r 0 (lc b (a.tmod b) (a.tmod b) 0 0 0 0 0) []) := by
  have e1 : Rn fs cs 3 (M1 gcdC m r 0 (lc a b c 0 0 0 0 0) []) (M1 gcdC m r 3 (lc a b c 0 0 0 0 0) [bitI (b == 0)]) := fun n => by kernel_rfl
  rw [ne_b0 (by omega)] at e1
  have e2 : Rn fs cs 4 (M1 gcdC m r 3 (lc a b c 0 0 0 0 0) [bitI false]) (M1 gcdC m r 8 (lc a b c 0 0 0 0 0) [b, a]) := fun n => by kernel_rfl
  have e3 : Rn fs cs 1 (M1 gcdC m r 8 (lc a b c 0 0 0 0 0) [b, a]) (M1 gcdC m r 9 (lc a b c 0 0 0 0 0) [a.tmod b]) := fun n => by
    have hd : doN 37 a b = (a.tmod b, 0) := by
      have h0 : b ≠ 0 := by omega
      have h1 : b ≠ -1 := by omega
      simp [doN, partedN, h0, h1]
    have : stepM fs cs (M1 gcdC m r 8 (lc a b c 0 0 0 0 0) [b, a]) = some ⟨[⟨gcdC, 9, lc a b c 0 0 0 0 0, [(doN 37 a b).1]⟩], m, r, trapIf ((doN 37 a b).2 == 0) (doN 37 a b).2 0⟩ := by kernel_rfl
    rw [hd] at this
    exact run_step (show 8 < 16 by omega) this
  have e4 : ∀ x, Rn fs cs 6 (M1 gcdC m r 9 (lc a b c 0 0 0 0 0) [x]) (M1 gcdC m r 0 (lc b x x 0 0 0 0 0) []) := fun x n => by kernel_rfl
  exact (((e1.trans e2).trans e3).trans (e4 _)).rb
theorem gcd_mod {a b : Int} (ha : 0 ≤ a) (hb : 0 ≤ b) : Int.gcd b (a % b) = Int.gcd a b := by
  obtain ⟨a, rfl⟩ := Int.eq_ofNat_of_zero_le ha
  obtain ⟨b, rfl⟩ := Int.eq_ofNat_of_zero_le hb
  rw [← Int.natCast_emod]
  show Nat.gcd b (a % b) = Nat.gcd a b
  rw [Nat.gcd_comm b (a % b), ← Nat.gcd_rec, Nat.gcd_comm]
theorem gcd_loop : ∀ (j : Nat) (a b c : Int), 0 ≤ a → 0 ≤ b → b < 2 ^ j → ∃ x c', Rb fs cs (28 * j) (M1 gcdC m r 0 (lc a b c 0 0 0 0 0) []) (M1 gcdC m r 0 (lc x 0 c' 0 0 0 0 0) []) ∧ x = Int.gcd a b
  | 0, a, b, c, ha, h0, h1 => by
    have : b = 0 := by simp at h1; omega
    subst this
    exact ⟨a, c, Rb.refl, by simp [Int.gcd]; omega⟩
  | j + 1, a, b, c, ha, h0, h1 => by
    by_cases q : b = 0
    · subst q
      exact ⟨a, c, Rb.refl.le (by omega), by simp [Int.gcd]; omega⟩
    have t1 : a.tmod b = a % b := Int.tmod_eq_emod_of_nonneg ha
    have g1 := gcd_body (fs := fs) (cs := cs) (m := m) (r := r) (a := a) (c := c) (show 0 < b by omega)
    rw [t1] at g1
    have r1 : 0 ≤ a % b := Int.emod_nonneg _ q
    have r2 : a % b < b := Int.emod_lt_of_pos _ (by omega)
    have k1 : Int.gcd b (a % b) = Int.gcd a b := gcd_mod ha h0
    by_cases q2 : a % b = 0
    · rw [q2] at g1 k1
      exact ⟨b, 0, g1.le (by omega), by rw [← k1]; simp [Int.gcd]; omega⟩
    have t2 : b.tmod (a % b) = b % (a % b) := Int.tmod_eq_emod_of_nonneg h0
    have g2 := gcd_body (fs := fs) (cs := cs) (m := m) (r := r) (a := b) (c := a % b) (show 0 < a % b by omega)
    rw [t2] at g2
    have r3 : 0 ≤ b % (a % b) := Int.emod_nonneg _ q2
    have r4 : b % (a % b) < a % b := Int.emod_lt_of_pos _ (by omega)
    have r5 : b % (a % b) < 2 ^ j := by
      rw [Int.pow_succ] at h1
      have e := Int.mul_ediv_add_emod b (a % b)
      have : 1 ≤ b / (a % b) := Int.le_ediv_of_mul_le (by omega) (by omega)
      have : a % b * 1 ≤ a % b * (b / (a % b)) := Int.mul_le_mul_of_nonneg_left this r1
      omega
    have k2 : Int.gcd (a % b) (b % (a % b)) = Int.gcd b (a % b) := gcd_mod h0 r1
    obtain ⟨x, c', h2, h3⟩ := gcd_loop j (a % b) (b % (a % b)) (b % (a % b)) r1 r3 r5
    exact ⟨x, c', ((g1.trans g2).trans h2).le (by omega), by rw [h3, k2, k1]⟩
theorem gcd_ends {a b : Int} (ha : 0 ≤ a) (hb : 0 ≤ b) (hb2 : b < 65536) : Ends fs cs 100000 (M1 gcdC m r 0 (lc a b 0 0 0 0 0 0) []) (Int.gcd a b) m r := by
  obtain ⟨x, c', h, e⟩ := gcd_loop (fs := fs) (cs := cs) (m := m) (r := r) 16 a b 0 ha hb (by omega)
  have e2 : Rn fs cs 6 (M1 gcdC m r 0 (lc x 0 c' 0 0 0 0 0) []) (M1 gcdC m r 16 (lc x 0 c' 0 0 0 0 0) [x]) := fun n => by kernel_rfl
  rw [← e]
  exact (h.trans e2.rb).ends (by omega) (Nat.le_refl _)
end
end Go.Ev
namespace Go.Ev
open Go
section
variable {fs : List Fn} {cs : List Code'} {m : Mem} {r : Row}
/-- Loops in loops. -/
def nestC : Code' := ⟨[nu 0, tk 67, tk 91, tk 97, tk 33, tk 63, tk 126, tk 59, tk 98, tk 68, tk 91, tk 100, tk 33, tk 63, tk 126, tk 59, tk 99, nu 1, tk 43, tk 67, tk 100, nu 1, tk 45, tk 68, tk 93, tk 97, nu 1, tk 45, tk 65, tk 93, tk 99], [-1, -1, -1, -1, -1, 7, 30, -1, -1, -1, -1, -1, -1, 15, 25, -1, -1, -1, -1, -1, -1, -1, -1, -1, 10, -1, -1, -1, -1, 2, -1], 2⟩
theorem nest_in {a b c d : Int} (hd : d ≠ 0) : Rb fs cs 14 (M1 nestC m r 10 (lc a b c d 0 0 0 0) []) (M1 nestC m r 10 (lc a b (wI (c + 1)) (wI (d - 1)) 0 0 0 0) []) := by
  have e1 : Rn fs cs 3 (M1 nestC m r 10 (lc a b c d 0 0 0 0) []) (M1 nestC m r 13 (lc a b c d 0 0 0 0) [bitI (d == 0)]) := fun n => by kernel_rfl
  rw [ne_b0 hd] at e1
  have e2 : Rn fs cs 11 (M1 nestC m r 13 (lc a b c d 0 0 0 0) [bitI false]) (M1 nestC m r 10 (lc a b (wI (c + 1)) (wI (d - 1)) 0 0 0 0) []) := fun n => by kernel_rfl
  exact (e1.trans e2).rb
theorem nest_row {a c : Int} {y : Nat} (ha : a ≠ 0) (ha2 : 0 ≤ a ∧ a ≤ 100) (hy : y ≤ 31) (hc : 0 ≤ c ∧ c ≤ 100000) : Rb fs cs (14 * y + 20) (M1 nestC m r 2 (lc a y c 0 0 0 0 0) []) (M1 nestC m r 2 (lc (a - 1) y (c + y) 0 0 0 0 0) []) := by
  have e1 : Rn fs cs 3 (M1 nestC m r 2 (lc a y c 0 0 0 0 0) []) (M1 nestC m r 5 (lc a y c 0 0 0 0 0) [bitI (a == 0)]) := fun n => by kernel_rfl
  rw [ne_b0 ha] at e1
  have e2 : Rn fs cs 4 (M1 nestC m r 5 (lc a y c 0 0 0 0 0) [bitI false]) (M1 nestC m r 10 (lc a y c y 0 0 0 0) []) := fun n => by kernel_rfl
  have hl := Rb_loop (fs := fs) (cs := cs) (S := fun j => M1 nestC m r 10 (lc a y (c + ((y : Int) - (j : Nat))) (j : Nat) 0 0 0 0) []) (B := 14) (N := y) (fun j hj => by
    have := nest_in (fs := fs) (cs := cs) (m := m) (r := r) (a := a) (b := y) (c := c + ((y : Int) - (j + 1 : Nat))) (d := ((j + 1 : Nat) : Int)) (by omega)
    rw [wI_eq (by omega) (by omega), wI_eq (by omega) (by omega), show c + ((y : Int) - (j + 1 : Nat)) + 1 = c + ((y : Int) - (j : Nat)) by omega, show ((j + 1 : Nat) : Int) - 1 = (j : Nat) by omega] at this
    exact this) y (Nat.le_refl _)
  simp only [Int.sub_self, Int.add_zero] at hl
  rw [show c + ((y : Int) - (0 : Nat)) = c + y by omega] at hl
  have e3 : Rn fs cs 10 (M1 nestC m r 10 (lc a y (c + y) (0 : Nat) 0 0 0 0) []) (M1 nestC m r 2 (lc (wI (a - 1)) y (c + y) 0 0 0 0 0) []) := fun n => by kernel_rfl
  rw [wI_eq (by omega) (by omega)] at e3
  exact (((e1.trans e2).rb.trans hl).trans e3.rb).le (by omega)
theorem nest_out (y z : Int) : Rn fs cs 6 (M1 nestC m r 2 (lc 0 y z 0 0 0 0 0) []) (M1 nestC m r 31 (lc 0 y z 0 0 0 0 0) [z]) := fun n => by kernel_rfl
theorem nest_ends {x y : Nat} (hx : x ≤ 31) (hy : y ≤ 31) : Ends fs cs 100000 (M1 nestC m r 0 (lc x y 0 0 0 0 0 0) []) ((x : Int) * y) m r := by
  have e0 : Rn fs cs 2 (M1 nestC m r 0 (lc x y 0 0 0 0 0 0) []) (M1 nestC m r 2 (lc x y 0 0 0 0 0 0) []) := fun n => by kernel_rfl
  have hl := Rb_loop (fs := fs) (cs := cs) (S := fun j => M1 nestC m r 2 (lc (j : Nat) y (((x - j : Nat) : Int) * y) 0 0 0 0 0) []) (B := 14 * y + 20) (N := x) (fun j hj => by
    have hb : (x - (j + 1)) * y ≤ 31 * 31 := Nat.mul_le_mul (by omega) hy
    have hb' : (((x - (j + 1) : Nat) : Int) * y) = (((x - (j + 1)) * y : Nat) : Int) := by push_cast; rfl
    have := nest_row (fs := fs) (cs := cs) (m := m) (r := r) (a := ((j + 1 : Nat) : Int)) (c := ((x - (j + 1) : Nat) : Int) * y) (y := y) (by omega) (by omega) hy (by rw [hb']; omega)
    rw [show ((j + 1 : Nat) : Int) - 1 = (j : Nat) by omega, show ((x - (j + 1) : Nat) : Int) * y + y = ((x - j : Nat) : Int) * y by rw [show ((x - j : Nat) : Int) = ((x - (j + 1) : Nat) : Int) + 1 by omega, Int.add_mul, Int.one_mul]] at this
    exact this) x (Nat.le_refl _)
  simp only [Nat.sub_self, Nat.sub_zero, Int.natCast_zero, Int.zero_mul] at hl
  have hB : (14 * y + 20) * x ≤ (14 * 31 + 20) * 31 := Nat.mul_le_mul (by omega) hx
  exact ((e0.rb.trans hl).trans (nest_out _ _).rb).ends (by omega) (Nat.le_refl _)
/-- A division by what is no nought, and no minus one. -/
theorem divs {c : Code'} {i : Nat} {loc st : List Int} {a b n k : Int} (hi : c.l[i]? = some ⟨47, n, k⟩) (h0 : b ≠ 0) (h1 : b ≠ -1) : Rn fs cs 1 (M1 c m r i loc (b :: a :: st)) (M1 c m r (i + 1) loc (wI (a.tdiv b) :: st)) := fun N => by
  have hd : doN 47 a b = (wI (a.tdiv b), 0) := by simp [doN, partedN, h0, h1]
  refine run_step (List.getElem?_eq_some_iff.mp hi).1 ?_
  simp [stepM, M1, hi, isGo, isMemS, plainF, hd, trapIf]
/-- Digits the other way round. -/
def digC : Code' := ⟨[nu 0, tk 67, tk 91, tk 97, tk 33, tk 63, tk 126, tk 59, tk 99, nu 10, tk 42, tk 97, nu 10, tk 37, tk 43, tk 67, tk 97, nu 10, tk 47, tk 65, tk 93, tk 99], [-1, -1, -1, -1, -1, 7, 21, -1, -1, -1, -1, -1, -1, -1, -1, -1, -1, -1, -1, -1, 2, -1], 2⟩
theorem dig_body {a b c : Int} (ha : 0 < a) (ha2 : a ≤ 9223372036854775807) : Rb fs cs 18 (M1 digC m r 2 (lc a b c 0 0 0 0 0) []) (M1 digC m r 2 (lc (a / 10) b (wI (wI (c * 10) + a % 10)) 0 0 0 0 0) []) := by
  have e1 : Rn fs cs 3 (M1 digC m r 2 (lc a b c 0 0 0 0 0) []) (M1 digC m r 5 (lc a b c 0 0 0 0 0) [bitI (a == 0)]) := fun n => by kernel_rfl
  rw [ne_b0 (by omega)] at e1
  have e2 : Rn fs cs 12 (M1 digC m r 5 (lc a b c 0 0 0 0 0) [bitI false]) (M1 digC m r 18 (lc a b (wI (wI (c * 10) + a.tmod 10)) 0 0 0 0 0) [10, a]) := fun n => by kernel_rfl
  have e3 := divs (fs := fs) (cs := cs) (m := m) (r := r) (loc := lc a b (wI (wI (c * 10) + a.tmod 10)) 0 0 0 0 0) (a := a) (b := 10) (c := digC) (i := 18) (n := 0) (k := 0) (st := []) rfl (by omega) (by omega)
  have e4 : ∀ c x : Int, Rn fs cs 2 (M1 digC m r 19 (lc a b c 0 0 0 0 0) [x]) (M1 digC m r 2 (lc x b c 0 0 0 0 0) []) := fun c x n => by kernel_rfl
  have e5 := e4 (wI (wI (c * 10) + a.tmod 10)) (wI (a.tdiv 10))
  rw [Int.tdiv_eq_ediv_of_nonneg (by omega), Int.tmod_eq_emod_of_nonneg (by omega), wI_eq (x := a / 10) (by omega) (by omega)] at e5
  rw [Int.tdiv_eq_ediv_of_nonneg (by omega), Int.tmod_eq_emod_of_nonneg (by omega), wI_eq (x := a / 10) (by omega) (by omega)] at e3
  rw [Int.tmod_eq_emod_of_nonneg (by omega)] at e2
  exact (((e1.trans e2).trans e3).trans e5).rb
/-- Digits, the law's own way. -/
def digW : Nat → Int → Int → Int
  | 0, _, w => w
  | n + 1, x, w => if x ≤ 0 then w else digW n (x / 10) (wI (wI (w * 10) + x % 10))
theorem dig_loop : ∀ (j : Nat) (a b c : Int), 0 ≤ a → a < 10 ^ j → a ≤ 9223372036854775807 → ∃ c', Rb fs cs (18 * j) (M1 digC m r 2 (lc a b c 0 0 0 0 0) []) (M1 digC m r 2 (lc 0 b c' 0 0 0 0 0) []) ∧ c' = digW j a c
  | 0, a, b, c, h0, h1, h2 => by
    have : a = 0 := by simp at h1; omega
    subst this
    exact ⟨c, Rb.refl, rfl⟩
  | j + 1, a, b, c, h0, h1, h2 => by
    by_cases q : a = 0
    · subst q
      exact ⟨c, Rb.refl.le (by omega), by simp [digW]⟩
    · have hb := dig_body (fs := fs) (cs := cs) (m := m) (r := r) (a := a) (b := b) (c := c) (by omega) h2
      rw [Int.pow_succ] at h1
      obtain ⟨c', h3, h4⟩ := dig_loop j (a / 10) b (wI (wI (c * 10) + a % 10)) (by omega) (by omega) (by omega)
      refine ⟨c', (hb.trans h3).le (by omega), ?_⟩
      rw [h4]
      simp only [digW]
      rw [if_neg (by omega)]
theorem dig_ends {a : Int} (b : Int) (h0 : 0 ≤ a) (h1 : a < 1099511627776) : Ends fs cs 100000 (M1 digC m r 0 (lc a b 0 0 0 0 0 0) []) (digW 13 a 0) m r := by
  have e0 : Rn fs cs 2 (M1 digC m r 0 (lc a b 0 0 0 0 0 0) []) (M1 digC m r 2 (lc a b 0 0 0 0 0 0) []) := fun n => by kernel_rfl
  obtain ⟨c', h2, h3⟩ := dig_loop (fs := fs) (cs := cs) (m := m) (r := r) 13 a b 0 h0 (by omega) (by omega)
  have e2 : Rn fs cs 6 (M1 digC m r 2 (lc 0 b c' 0 0 0 0 0) []) (M1 digC m r 22 (lc 0 b c' 0 0 0 0 0) [c']) := fun n => by kernel_rfl
  rw [← h3]
  exact ((e0.rb.trans h2).trans e2.rb).ends (by omega) (Nat.le_refl _)
/-- Bits. -/
def bitsC : Code' := ⟨[nu 0, tk 67, nu 64, tk 68, tk 91, tk 100, tk 33, tk 63, tk 126, tk 59, tk 99, tk 97, nu 1, tk 38, tk 43, tk 67, tk 97, nu 1, tk 187, tk 65, tk 100, nu 1, tk 45, tk 68, tk 93, tk 99], [-1, -1, -1, -1, -1, -1, -1, 9, 25, -1, -1, -1, -1, -1, -1, -1, -1, -1, -1, -1, -1, -1, -1, -1, 4, -1], 2⟩
def bitsW (a : Int) : Nat → Int
  | 0 => 0
  | n + 1 => bitsW a n + a / 2 ^ n % 2
theorem bitsW_rng (a : Int) : ∀ n, 0 ≤ bitsW a n ∧ bitsW a n ≤ n
  | 0 => ⟨by simp [bitsW], by simp [bitsW]⟩
  | n + 1 => by
    have := bitsW_rng a n
    simp only [bitsW]
    omega
theorem bits_ends (a b : Int) : Ends fs cs 100000 (M1 bitsC m r 0 (lc a b 0 0 0 0 0 0) []) (bitsW a 64) m r := by
  have e0 : Rn fs cs 4 (M1 bitsC m r 0 (lc a b 0 0 0 0 0 0) []) (M1 bitsC m r 4 (lc a b 0 64 0 0 0 0) []) := fun n => by kernel_rfl
  have hl := Rb_loop (fs := fs) (cs := cs) (S := fun j => M1 bitsC m r 4 (lc (a / 2 ^ (64 - j)) b (bitsW a (64 - j)) (j : Nat) 0 0 0 0) []) (B := 20) (N := 64) (fun j hj => by
    have e1 : Rn fs cs 3 (M1 bitsC m r 4 (lc (a / 2 ^ (64 - (j + 1))) b (bitsW a (64 - (j + 1))) (j + 1 : Nat) 0 0 0 0) []) (M1 bitsC m r 7 (lc (a / 2 ^ (64 - (j + 1))) b (bitsW a (64 - (j + 1))) (j + 1 : Nat) 0 0 0 0) [bitI (((j + 1 : Nat) : Int) == 0)]) := fun n => by kernel_rfl
    rw [ne_b0 (by omega)] at e1
    have e2 : ∀ x y z : Int, Rn fs cs 17 (M1 bitsC m r 7 (lc x b y z 0 0 0 0) [bitI false]) (M1 bitsC m r 4 (lc (x.fdiv 2) b (wI (y + andI x 1)) (wI (z - 1)) 0 0 0 0) []) := fun x y z n => by kernel_rfl
    have e3 := e2 (a / 2 ^ (64 - (j + 1))) (bitsW a (64 - (j + 1))) ((j + 1 : Nat) : Int)
    have hm : ∀ x, andI x 1 = x % 2 := fun x => andI_mask x 1 (by omega)
    have hf : ∀ x : Int, x.fdiv 2 = x / 2 := fun x => Int.fdiv_eq_ediv_of_nonneg x (by omega)
    have hr := bitsW_rng a (64 - (j + 1))
    rw [hm, hf, wI_eq (by omega) (by omega), wI_eq (by omega) (by omega), show ((j + 1 : Nat) : Int) - 1 = (j : Nat) by omega, Int.ediv_ediv_of_nonneg (Int.pow_nonneg (by omega)), ← Int.pow_succ] at e3
    show Rb fs cs 20 _ (M1 bitsC m r 4 (lc (a / 2 ^ (64 - j)) b (bitsW a (64 - j)) (j : Nat) 0 0 0 0) [])
    rw [show 64 - j = 64 - (j + 1) + 1 by omega]
    exact (e1.trans e3).rb) 64 (Nat.le_refl _)
  have e2 : ∀ x y : Int, Rn fs cs 6 (M1 bitsC m r 4 (lc x b y (0 : Nat) 0 0 0 0) []) (M1 bitsC m r 26 (lc x b y (0 : Nat) 0 0 0 0) [y]) := fun x y n => by kernel_rfl
  have e3 : Rn fs cs 4 (M1 bitsC m r 0 (lc a b 0 0 0 0 0 0) []) (M1 bitsC m r 4 (lc (a / 2 ^ (64 - 64)) b (bitsW a (64 - 64)) (64 : Nat) 0 0 0 0) []) := by
    have : a / 2 ^ (64 - 64) = a := by simp
    rw [this]; exact e0
  exact ((e3.rb.trans hl).trans (e2 _ _).rb).ends (by omega) (Nat.le_refl _)
end
end Go.Ev
namespace Go.Ev
open Go
section
variable {fs : List Fn} {cs : List Code'} {m : Mem} {r : Row}
theorem goz {c : Code'} {i : Nat} {loc st : List Int} {v n k : Int} {j : Nat} (hi : c.l[i]? = some ⟨63, n, k⟩) (hj : c.to[i]? = some (j : Int)) : Rn fs cs 1 (M1 c m r i loc (v :: st)) (M1 c m r (if v = 0 then j else i + 1) loc st) := fun N => by
  refine run_step (List.getElem?_eq_some_iff.mp hi).1 ?_
  by_cases q : v = 0
  · simp [stepM, M1, hi, hj, isGo, q]
  · simp [stepM, M1, hi, isGo, q]
theorem rems {c : Code'} {i : Nat} {loc st : List Int} {a b n k : Int} (hi : c.l[i]? = some ⟨37, n, k⟩) (h0 : b ≠ 0) (h1 : b ≠ -1) : Rn fs cs 1 (M1 c m r i loc (b :: a :: st)) (M1 c m r (i + 1) loc (a.tmod b :: st)) := fun N => by
  have hd : doN 37 a b = (a.tmod b, 0) := by simp [doN, partedN, h0, h1]
  refine run_step (List.getElem?_eq_some_iff.mp hi).1 ?_
  simp [stepM, M1, hi, isGo, isMemS, plainF, hd, trapIf]
theorem orI_bit (p q : Bool) : orI (bitI p) (bitI q) = bitI (p || q) := by
  cases p <;> cases q <;> decide +kernel
theorem bitI_z (p : Bool) : (bitI p = 0) ↔ p = false := by cases p <;> simp [bitI]
/-- Roots. -/
def rootC : Code' := ⟨[nu 0, tk 67, nu 1, nu 21, tk 171, tk 68, tk 91, tk 100, tk 99, tk 45, nu 1, tk 61, tk 63, tk 126, tk 59, tk 99, tk 100, tk 43, nu 2, tk 47, tk 66, tk 98, tk 98, tk 42, tk 97, tk 60, tk 98, tk 98, tk 42, tk 97, tk 61, tk 124, tk 63, tk 98, tk 67, tk 58, tk 98, tk 68, tk 59, tk 93, tk 99], [-1, -1, -1, -1, -1, -1, -1, -1, -1, -1, -1, -1, 14, 40, -1, -1, -1, -1, -1, -1, -1, -1, -1, -1, -1, -1, -1, -1, -1, -1, -1, -1, 36, -1, -1, 38, -1, -1, -1, 6, -1], 2⟩
theorem root_body {a b c d : Int} (hc : 0 ≤ c) (hd : d ≤ 2097152) (hcd : c + 1 < d) (ha : 0 ≤ a ∧ a ≤ 1099511627776) : Rb fs cs 32 (M1 rootC m r 6 (lc a b c d 0 0 0 0) []) (M1 rootC m r 6 (lc a ((c + d) / 2) (if (c + d) / 2 * ((c + d) / 2) ≤ a then (c + d) / 2 else c) (if (c + d) / 2 * ((c + d) / 2) ≤ a then d else (c + d) / 2) 0 0 0 0) []) := by
  have e1 : Rn fs cs 6 (M1 rootC m r 6 (lc a b c d 0 0 0 0) []) (M1 rootC m r 12 (lc a b c d 0 0 0 0) [bitI (wI (d - c) == 1)]) := fun n => by kernel_rfl
  rw [wI_eq (by omega) (by omega), show (d - c == 1) = false by simp; omega] at e1
  have e2 : Rn fs cs 6 (M1 rootC m r 12 (lc a b c d 0 0 0 0) [bitI false]) (M1 rootC m r 19 (lc a b c d 0 0 0 0) [2, wI (c + d)]) := fun n => by kernel_rfl
  rw [wI_eq (by omega) (by omega)] at e2
  have e3 := divs (fs := fs) (cs := cs) (m := m) (r := r) (loc := lc a b c d 0 0 0 0) (a := c + d) (b := 2) (c := rootC) (i := 19) (n := 0) (k := 0) (st := []) rfl (by omega) (by omega)
  rw [Int.tdiv_eq_ediv_of_nonneg (by omega), wI_eq (by omega) (by omega)] at e3
  obtain ⟨x, hx⟩ : ∃ x, x = (c + d) / 2 := ⟨_, rfl⟩
  rw [← hx] at e3 ⊢
  have hxx : 0 ≤ x * x := Int.mul_nonneg (by omega) (by omega)
  have hxy : x * x ≤ 2097152 * 2097152 := Int.mul_le_mul (by omega) (by omega) (by omega) (by omega)
  have e4 : Rn fs cs 11 (M1 rootC m r 20 (lc a b c d 0 0 0 0) [x]) (M1 rootC m r 31 (lc a x c d 0 0 0 0) [bitI (wI (x * x) == a), bitI (decide (wI (x * x) < a))]) := fun n => by kernel_rfl
  rw [wI_eq (by omega) (by omega)] at e4
  have e5 : ∀ p q : Int, Rn fs cs 1 (M1 rootC m r 31 (lc a x c d 0 0 0 0) [p, q]) (M1 rootC m r 32 (lc a x c d 0 0 0 0) [orI q p]) := fun p q n => by kernel_rfl
  have e6 := e5 (bitI (x * x == a)) (bitI (decide (x * x < a)))
  rw [orI_bit] at e6
  have e7 := goz (fs := fs) (cs := cs) (m := m) (r := r) (c := rootC) (i := 32) (loc := lc a x c d 0 0 0 0) (st := []) (v := bitI (decide (x * x < a) || x * x == a)) (n := 0) (k := 0) (j := 36) rfl rfl
  by_cases q : x * x ≤ a
  · have hq : (decide (x * x < a) || x * x == a) = true := by simp; omega
    rw [hq, if_neg (by decide)] at e7
    rw [hq] at e6
    have e8 : Rn fs cs 5 (M1 rootC m r 33 (lc a x c d 0 0 0 0) []) (M1 rootC m r 6 (lc a x x d 0 0 0 0) []) := fun n => by kernel_rfl
    rw [if_pos q, if_pos q]
    exact (((((((e1.trans e2).trans e3).trans e4).trans e6).trans e7).trans e8).rb).le (by omega)
  · have hq : (decide (x * x < a) || x * x == a) = false := by simp; omega
    rw [hq, if_pos (by decide)] at e7
    rw [hq] at e6
    have e8 : Rn fs cs 4 (M1 rootC m r 36 (lc a x c d 0 0 0 0) []) (M1 rootC m r 6 (lc a x c x 0 0 0 0) []) := fun n => by kernel_rfl
    rw [if_neg q, if_neg q]
    exact (((((((e1.trans e2).trans e3).trans e4).trans e6).trans e7).trans e8).rb).le (by omega)
theorem root_loop : ∀ (j : Nat) (a b c d : Int), 0 ≤ c → d ≤ 2097152 → d - c = 2 ^ j → 0 ≤ a ∧ a ≤ 1099511627776 → c * c ≤ a → a < d * d → ∃ b' c', Rb fs cs (32 * j) (M1 rootC m r 6 (lc a b c d 0 0 0 0) []) (M1 rootC m r 6 (lc a b' c' (c' + 1) 0 0 0 0) []) ∧ 0 ≤ c' ∧ c' < 2097152 ∧ c' * c' ≤ a ∧ a < (c' + 1) * (c' + 1)
  | 0, a, b, c, d, hc, hd, hcd, ha, h1, h2 => by
    have : d = c + 1 := by simp at hcd; omega
    subst this
    exact ⟨b, c, Rb.refl, hc, by omega, h1, h2⟩
  | j + 1, a, b, c, d, hc, hd, hcd, ha, h1, h2 => by
    rw [Int.pow_succ] at hcd
    have hp : (1 : Int) ≤ 2 ^ j := by have : (0 : Int) < 2 ^ j := Int.pow_pos (by omega); omega
    have hb := root_body (fs := fs) (cs := cs) (m := m) (r := r) (a := a) (b := b) hc hd (by omega) ha
    by_cases q : (c + d) / 2 * ((c + d) / 2) ≤ a
    · rw [if_pos q, if_pos q] at hb
      obtain ⟨b', c', h3, h4⟩ := root_loop j a ((c + d) / 2) ((c + d) / 2) d (by omega) hd (by omega) ha q h2
      exact ⟨b', c', (hb.trans h3).le (by omega), h4⟩
    · rw [if_neg q, if_neg q] at hb
      obtain ⟨b', c', h3, h4⟩ := root_loop j a ((c + d) / 2) c ((c + d) / 2) hc (by omega) (by omega) ha h1 (by omega)
      exact ⟨b', c', (hb.trans h3).le (by omega), h4⟩
theorem root_ends {a : Int} (b : Int) (h0 : 0 ≤ a) (h1 : a < 1099511627776) : ∃ v, Ends fs cs 100000 (M1 rootC m r 0 (lc a b 0 0 0 0 0 0) []) v m r ∧ 0 ≤ v ∧ v < 2097152 ∧ v * v ≤ a ∧ a < (v + 1) * (v + 1) := by
  have e0 : Rn fs cs 6 (M1 rootC m r 0 (lc a b 0 0 0 0 0 0) []) (M1 rootC m r 6 (lc a b 0 2097152 0 0 0 0) []) := fun n => by kernel_rfl
  obtain ⟨b', c', h2, h3, h4, h5, h6⟩ := root_loop (fs := fs) (cs := cs) (m := m) (r := r) 21 a b 0 2097152 (by omega) (by omega) (by omega) (by omega) (by omega) (by omega)
  have e1 : Rn fs cs 6 (M1 rootC m r 6 (lc a b' c' (c' + 1) 0 0 0 0) []) (M1 rootC m r 12 (lc a b' c' (c' + 1) 0 0 0 0) [bitI (wI (c' + 1 - c') == 1)]) := fun n => by kernel_rfl
  rw [wI_eq (by omega) (by omega), show (c' + 1 - c' == 1) = true by simp; omega] at e1
  have e2 : Rn fs cs 3 (M1 rootC m r 12 (lc a b' c' (c' + 1) 0 0 0 0) [bitI true]) (M1 rootC m r 41 (lc a b' c' (c' + 1) 0 0 0 0) [c']) := fun n => by kernel_rfl
  exact ⟨c', ((e0.rb.trans h2).trans (e1.trans e2).rb).ends (by omega) (Nat.le_refl _), h3, h4, h5, h6⟩
/-- Primes. -/
def primC : Code' := ⟨[nu 2, tk 66, nu 1, tk 67, tk 91, tk 98, tk 98, tk 42, tk 97, tk 60, tk 33, tk 63, tk 126, tk 59, tk 97, tk 98, tk 37, tk 33, tk 63, nu 0, tk 67, tk 59, tk 98, nu 1, tk 43, tk 66, tk 93, tk 98, tk 98, tk 42, tk 97, tk 61, tk 63, nu 0, tk 58, tk 99, tk 59], [-1, -1, -1, -1, -1, -1, -1, -1, -1, -1, -1, 13, 27, -1, -1, -1, -1, -1, 21, -1, -1, -1, -1, -1, -1, -1, 4, -1, -1, -1, -1, -1, 35, -1, 36, -1, -1], 2⟩
theorem prim_body {a b c : Int} (hb : 2 ≤ b) (hb2 : b ≤ 1000) (ha : 0 ≤ a) (hq : b * b < a) : Rb fs cs 25 (M1 primC m r 4 (lc a b c 0 0 0 0 0) []) (M1 primC m r 4 (lc a (b + 1) (if a % b = 0 then 0 else c) 0 0 0 0 0) []) := by
  have hbb : 0 ≤ b * b := Int.mul_nonneg (by omega) (by omega)
  have hbc : b * b ≤ 1000 * 1000 := Int.mul_le_mul hb2 hb2 (by omega) (by omega)
  have e1 : Rn fs cs 6 (M1 primC m r 4 (lc a b c 0 0 0 0 0) []) (M1 primC m r 10 (lc a b c 0 0 0 0 0) [bitI (decide (wI (b * b) < a))]) := fun n => by kernel_rfl
  rw [wI_eq (by omega) (by omega), decide_eq_true hq] at e1
  have e2 : Rn fs cs 5 (M1 primC m r 10 (lc a b c 0 0 0 0 0) [bitI true]) (M1 primC m r 16 (lc a b c 0 0 0 0 0) [b, a]) := fun n => by kernel_rfl
  have e3 := rems (fs := fs) (cs := cs) (m := m) (r := r) (loc := lc a b c 0 0 0 0 0) (a := a) (b := b) (c := primC) (i := 16) (n := 0) (k := 0) (st := []) rfl (by omega) (by omega)
  rw [Int.tmod_eq_emod_of_nonneg ha] at e3
  have e4 : ∀ x : Int, Rn fs cs 1 (M1 primC m r 17 (lc a b c 0 0 0 0 0) [x]) (M1 primC m r 18 (lc a b c 0 0 0 0 0) [bitI (x == 0)]) := fun x n => by kernel_rfl
  have e5 := goz (fs := fs) (cs := cs) (m := m) (r := r) (c := primC) (i := 18) (loc := lc a b c 0 0 0 0 0) (st := []) (v := bitI (a % b == 0)) (n := 0) (k := 0) (j := 21) rfl rfl
  have e6 : ∀ c : Int, Rn fs cs 6 (M1 primC m r 21 (lc a b c 0 0 0 0 0) []) (M1 primC m r 4 (lc a (wI (b + 1)) c 0 0 0 0 0) []) := fun c n => by kernel_rfl
  rw [wI_eq (by omega) (by omega)] at e6
  by_cases q : a % b = 0
  · have hq2 : (a % b == 0) = true := by simpa using q
    have e4' := e4 (a % b)
    rw [hq2] at e4' e5
    rw [if_neg (by decide)] at e5
    have e7 : Rn fs cs 2 (M1 primC m r 19 (lc a b c 0 0 0 0 0) []) (M1 primC m r 21 (lc a b 0 0 0 0 0 0) []) := fun n => by kernel_rfl
    rw [if_pos q]
    exact (((((((e1.trans e2).trans e3).trans e4').trans e5).trans e7).trans (e6 0)).rb).le (by omega)
  · have hq2 : (a % b == 0) = false := by simpa using q
    have e4' := e4 (a % b)
    rw [hq2] at e4' e5
    rw [if_pos (by decide)] at e5
    rw [if_neg q]
    exact ((((((e1.trans e2).trans e3).trans e4').trans e5).trans (e6 c)).rb).le (by omega)
/-- The law's own way: i from 2 on. -/
def primW (k : Int) : Nat → Int
  | 0 => 1
  | n + 1 => if k % ((n : Int) + 2) = 0 then 0 else primW k n
theorem prim_loop {a : Int} (ha : 0 ≤ a ∧ a ≤ 513) : ∀ (n j : Nat), j + n = 21 → ∃ j' : Nat, j ≤ j' ∧ j' ≤ 21 ∧ Rb fs cs (25 * n) (M1 primC m r 4 (lc a ((j : Int) + 2) (primW a j) 0 0 0 0 0) []) (M1 primC m r 4 (lc a ((j' : Int) + 2) (primW a j') 0 0 0 0 0) []) ∧ a ≤ ((j' : Int) + 2) * (j' + 2) ∧ ∀ i : Nat, j ≤ i → i < j' → ((i : Int) + 2) * (i + 2) < a
  | 0, j, h => by
    have : j = 21 := by omega
    subst this
    exact ⟨21, by omega, by omega, Rb.refl, by have := ha.2; omega, fun i h1 h2 => by omega⟩
  | n + 1, j, h => by
    by_cases q : ((j : Int) + 2) * (j + 2) < a
    · have hb := prim_body (fs := fs) (cs := cs) (m := m) (r := r) (a := a) (b := (j : Int) + 2) (c := primW a j) (by omega) (by omega) ha.1 q
      obtain ⟨j', h1, h2, h3, h4, h5⟩ := prim_loop ha n (j + 1) (by omega)
      rw [show (((j + 1 : Nat) : Int) + 2) = (j : Int) + 2 + 1 by omega] at h3
      refine ⟨j', by omega, h2, (hb.trans h3).le (by omega), h4, fun i g1 g2 => ?_⟩
      by_cases e : i = j
      · subst e; exact q
      · exact h5 i (by omega) g2
    · exact ⟨j, by omega, by omega, Rb.refl.le (by omega), by omega, fun i h1 h2 => by omega⟩
theorem prim_ends {a : Int} (b : Int) (ha : 0 ≤ a ∧ a ≤ 513) : ∃ j : Nat, j ≤ 22 ∧ a < ((j : Int) + 2) * (j + 2) ∧ (∀ i : Nat, i < j → ((i : Int) + 2) * (i + 2) ≤ a) ∧ Ends fs cs 100000 (M1 primC m r 0 (lc a b 0 0 0 0 0 0) []) (primW a j) m r := by
  have e0 : Rn fs cs 4 (M1 primC m r 0 (lc a b 0 0 0 0 0 0) []) (M1 primC m r 4 (lc a 2 1 0 0 0 0 0) []) := fun n => by kernel_rfl
  obtain ⟨j, _, h1, h2, h3, h4⟩ := prim_loop (fs := fs) (cs := cs) (m := m) (r := r) ha 21 0 (by omega)
  obtain ⟨y, hy⟩ : ∃ y, y = ((j : Int) + 2) := ⟨_, rfl⟩
  rw [← hy] at h2 h3
  have hyy : 0 ≤ y * y := Int.mul_nonneg (by omega) (by omega)
  have hyc : y * y ≤ 1000 * 1000 := Int.mul_le_mul (by omega) (by omega) (by omega) (by omega)
  have e1 : ∀ c : Int, Rn fs cs 6 (M1 primC m r 4 (lc a y c 0 0 0 0 0) []) (M1 primC m r 10 (lc a y c 0 0 0 0 0) [bitI (decide (wI (y * y) < a))]) := fun c n => by kernel_rfl
  rw [wI_eq (by omega) (by omega), decide_eq_false (by omega)] at e1
  have e2 : ∀ c : Int, Rn fs cs 8 (M1 primC m r 10 (lc a y c 0 0 0 0 0) [bitI false]) (M1 primC m r 32 (lc a y c 0 0 0 0 0) [bitI (wI (y * y) == a)]) := fun c n => by kernel_rfl
  rw [wI_eq (by omega) (by omega)] at e2
  have hst : Rb fs cs (4 + 25 * 21 + 14) (M1 primC m r 0 (lc a b 0 0 0 0 0 0) []) (M1 primC m r 32 (lc a y (primW a j) 0 0 0 0 0) [bitI (y * y == a)]) := ((e0.rb.trans h2).trans ((e1 _).trans (e2 _)).rb)
  by_cases q : y * y = a
  · have hq : (y * y == a) = true := by simpa using q
    rw [hq] at hst
    have e3 : ∀ c : Int, Rn fs cs 3 (M1 primC m r 32 (lc a y c 0 0 0 0 0) [bitI true]) (M1 primC m r 36 (lc a y c 0 0 0 0 0) [0]) := fun c n => by kernel_rfl
    have e4 : ∀ c : Int, Rn fs cs 1 (M1 primC m r 36 (lc a y c 0 0 0 0 0) [0]) (M1 primC m r 37 (lc a y c 0 0 0 0 0) [0]) := fun c n => by kernel_rfl
    refine ⟨j + 1, by omega, ?_, fun i hi => ?_, ?_⟩
    · have : (((j + 1 : Nat) : Int) + 2) = y + 1 := by omega
      rw [show (((j + 1 : Nat) : Int) + 2) * (((j + 1 : Nat) : Int) + 2) = (y + 1) * (y + 1) by rw [this], Int.add_mul, Int.mul_add]; omega
    · by_cases e : i = j
      · subst e; rw [← hy]; omega
      · have := h4 i (by omega) (by omega); omega
    · have hm : a % ((j : Int) + 2) = 0 := by rw [← hy, ← q]; exact Int.mul_emod_left _ _
      simp only [primW]
      rw [if_pos hm]
      exact (hst.trans ((e3 _).trans (e4 _)).rb).ends (by omega) (Nat.le_refl _)
  · have hq : (y * y == a) = false := by simpa using q
    rw [hq] at hst
    have e3 : ∀ c : Int, Rn fs cs 3 (M1 primC m r 32 (lc a y c 0 0 0 0 0) [bitI false]) (M1 primC m r 37 (lc a y c 0 0 0 0 0) [c]) := fun c n => by kernel_rfl
    refine ⟨j, by omega, by rw [← hy]; omega, fun i hi => by have := h4 i (by omega) hi; omega, ?_⟩
    exact (hst.trans (e3 _).rb).ends (by omega) (Nat.le_refl _)
end
end Go.Ev
