/- What the program's judge comes to; nothing is assumed. -/
import Derived.Test.YtliegbpmmjkmkaaDoorA8
set_option linter.unusedSimpArgs false
set_option linter.unusedVariables false
set_option linter.all false
namespace Go.Ev
open Go
structure Jp where
  loop : Bool
  other : Bool
  left : Bool
  base : Int
  fin : Int
structure Js where
  h : Int
  ps : List Jp
def Jp.c (p : Jp) : List AV := [.bool p.loop, .bool p.other, .bool p.left, .int .i64 p.base, .int .i64 p.fin]
theorem Jp.c_len (p : Jp) : p.c.length = 5 := rfl
def isEnd (s : Int) : Bool := decide (s = 58 ∨ s = 59 ∨ s = 93)
def lastLoopJ : List Jp → Nat → Option Nat
  | _, 0 => none
  | ps, k + 1 => match ps[k]? with | some p => if p.loop then some k else lastLoopJ ps k | none => none
def jbase (ps : List Jp) : Int := match ps.getLast? with | some p => p.base | none => 0
def jturn (sg : Int) (s : Js) : Int × Js :=
  if sg = 63 ∨ sg = 91 then (0, ⟨s.h, s.ps ++ [⟨sg == 91, false, false, s.h, 0⟩]⟩) else
  if sg = 58 then (match s.ps.getLast? with | none => (0, s) | some p => (0, ⟨p.base, s.ps.set (s.ps.length - 1) ⟨p.loop, true, p.left, p.base, s.h⟩⟩)) else
  if sg = 59 then (match s.ps.getLast? with | none => (0, s) | some p => if p.other then (if s.h ≠ -1 ∧ p.fin ≠ -1 ∧ s.h ≠ p.fin then (14, s) else (0, ⟨max s.h p.fin, s.ps.dropLast⟩)) else (if s.h ≠ -1 ∧ s.h ≠ p.base then (14, s) else (0, ⟨p.base, s.ps.dropLast⟩))) else
  if sg = 93 then (match s.ps.getLast? with | none => (0, s) | some p => if s.h ≠ -1 ∧ s.h ≠ p.base then (14, s) else (0, ⟨if p.left then p.base else -1, s.ps.dropLast⟩)) else
  if sg = 126 then (match lastLoopJ s.ps s.ps.length with | none => (0, s) | some k => match s.ps[k]? with | none => (0, s) | some p => if s.h ≠ p.base then (14, s) else (0, ⟨-1, s.ps.set k ⟨p.loop, p.other, true, p.base, p.fin⟩⟩)) else
  if sg = 161 then (0, ⟨-1, s.ps⟩) else (0, s)
def jtok (fs : List Fn) (t : Tok) (s : Js) : Int × Js :=
  if s.h = -1 ∧ isEnd t.sign = false then (15, s) else
  if (takesN fs t.sign t.name).2.2 = false then (22, s) else
  if s.h = -1 then jturn t.sign s else
  if s.h - jbase s.ps < (takesN fs t.sign t.name).1 ∨ 64 < s.h - (takesN fs t.sign t.name).1 + (takesN fs t.sign t.name).2.1 then (14, s) else
  jturn t.sign ⟨s.h + ((takesN fs t.sign t.name).2.1 - (takesN fs t.sign t.name).1), s.ps⟩
/-- What must be open, for a sign. -/
def jpre (sg : Int) (ps : List Jp) : Prop :=
  (sg = 58 → ∃ p, ps.getLast? = some p ∧ p.loop = false ∧ p.other = false) ∧ (sg = 59 → ∃ p, ps.getLast? = some p ∧ p.loop = false) ∧ (sg = 93 → ∃ p, ps.getLast? = some p ∧ p.loop = true ∧ p.other = false) ∧
  (sg = 126 → ∃ k, lastLoopJ ps ps.length = some k)
def JOk (s : Js) : Prop := -1 ≤ s.h ∧ s.h ≤ 64 ∧ (∀ p ∈ s.ps, 0 ≤ p.base ∧ p.base ≤ 64 ∧ -1 ≤ p.fin ∧ p.fin ≤ 64) ∧ s.ps.length ≤ 1000
theorem takes_rng (fs : List Fn) (s nm : Int) : 0 ≤ (takesN fs s nm).1 ∧ (takesN fs s nm).1 ≤ 4 ∧ 0 ≤ (takesN fs s nm).2.1 ∧ (takesN fs s nm).2.1 ≤ 2 := by
  unfold takesN callT
  repeat' split
  all_goals simp
  all_goals omega
structure JVp (g : H) (b J : Nat) (p m : Int) (fa : AV) (s : Js) (out : List Int) (pa oa : AV) : Prop where
  cell : g.get J = some (.cells [.int .i64 p, .int .i64 m, fa, .int .i64 s.h, pa, oa] 0)
  bJ : b ≤ J
  Jn : J < g.n
  os : OS 5 g b pa s.ps.length (s.ps.flatMap Jp.c)
  oo : OS 1 g b oa out.length (out.flatMap i64c)
  pJ : ¬ pa.isAt J
  oJ : ¬ oa.isAt J
  ap : pa.apart oa
def JV (g : H) (b J : Nat) (p m : Int) (fa : AV) (s : Js) (out : List Int) : Prop := ∃ pa oa, JVp g b J p m fa s out pa oa
theorem jall_one (l : List Jp) : (l.flatMap Jp.c).all AV.one = true := by
  rw [List.all_eq_true]; intro y hy; rw [List.mem_flatMap] at hy; obtain ⟨u, _, hy⟩ := hy; simp [Jp.c] at hy; rcases hy with rfl | rfl | rfl | rfl | rfl <;> rfl
theorem Jp.c_one (p : Jp) : p.c.all AV.one = true := by simp [Jp.c, AV.one]
theorem sp63 (a b c d e f v : AV) : splice [a, b, c, d, e, f] 3 [v] = [a, b, c, v, e, f] := Eq.trans rfl rfl
theorem sp64 (a b c d e f v : AV) : splice [a, b, c, d, e, f] 4 [v] = [a, b, c, d, v, f] := Eq.trans rfl rfl
theorem sp65 (a b c d e f v : AV) : splice [a, b, c, d, e, f] 5 [v] = [a, b, c, d, e, v] := Eq.trans rfl rfl
theorem sp55 (a b c d e v w x y z : AV) : splice [a, b, c, d, e] 0 [v, w, x, y, z] = [v, w, x, y, z] := Eq.trans rfl rfl
section
variable {bar b : Nat} {g : H} {J : Nat} {p m : Int} {fa : AV} {s : Js} {out : List Int} {pa oa : AV}
theorem JVp.last (hv : JVp g b J p m fa s out pa oa) (hne : s.ps ≠ []) : ∃ id all x, pa = .sl id 0 5 s.ps.length false ∧ b ≤ id ∧ id < g.n ∧ g.get id = some (.cells all 0) ∧ id ≠ J ∧ ¬ oa.isAt id ∧
    s.ps[s.ps.length - 1]? = some x ∧ x ∈ s.ps ∧ s.ps.getLast? = some x ∧
    (∀ h : H, g.n ≤ h.n → h.get id = g.get id → OS 5 h b (.sl id 0 5 (s.ps.length - 1) false) s.ps.dropLast.length (s.ps.dropLast.flatMap Jp.c)) ∧
    (∀ i x x' f vs (h : H), s.ps[i]? = some x → f + vs.length ≤ 5 → Jp.c x' = splice (Jp.c x) f vs → (Jp.c x').all AV.one = true → g.n ≤ h.n → h.get id = some (.cells (splice all (i * 5 + f) vs) 0) → OS 5 h b pa (s.ps.set i x').length ((s.ps.set i x').flatMap Jp.c)) ∧
    (∀ i x, s.ps[i]? = some x → i * 5 + 5 ≤ all.length ∧ all[i * 5]? = some (.bool x.loop) ∧ all[i * 5 + 1]? = some (.bool x.other) ∧ all[i * 5 + 2]? = some (.bool x.left) ∧ all[i * 5 + 3]? = some (.int .i64 x.base) ∧ all[i * 5 + 4]? = some (.int .i64 x.fin) ∧ (all.drop (i * 5)).take 5 = x.c) := by
  obtain ⟨id, all, hpa, e1, e2, e3, e4, e5, e6, e7⟩ := hv.os.elems Jp.c_len hne
  obtain ⟨x, hx1, hx2, hx3, hx4⟩ := drop_last_split hne
  have hJ := hv.pJ
  have hO := hv.ap id (by rw [hpa]; rfl)
  rw [hpa] at hJ
  refine ⟨id, all, x, hpa, e1, e2, e3, hJ, hO, hx3, List.mem_of_getElem? hx3, hx1, e6, e7, fun i y hy => ?_⟩
  obtain ⟨hi, _⟩ := List.getElem?_eq_some_iff.mp hy
  have c0 := e5 i y 0 hy (by omega)
  have c1 := e5 i y 1 hy (by omega)
  have c2 := e5 i y 2 hy (by omega)
  have c3 := e5 i y 3 hy (by omega)
  have c4 := e5 i y 4 hy (by omega)
  refine ⟨by omega, c0, c1, c2, c3, c4, ?_⟩
  apply List.ext_getElem?
  intro j
  by_cases hj : j < 5
  · rw [List.getElem?_take_of_lt hj, List.getElem?_drop, e5 i y j hy hj]
  · rw [List.getElem?_eq_none (by rw [List.length_take]; omega), List.getElem?_eq_none (by rw [Jp.c_len]; omega)]
theorem jbase_ok (hv : JVp g b J p m fa s out pa oa) (hl : s.ps.length ≤ 1000) : call tb prim n_check_judge_base [.ptr J 0] bar g = some (.int .i64 (jbase s.ps), g) := by
  refine call_of tb_check_judge_base (callF_pureW rfl rfl (M_in ?_))
  by_cases hne : s.ps = []
  · have h0 : s.ps.length = 0 := by rw [hne]; rfl
    have hb : jbase s.ps = 0 := by rw [hne]; rfl
    rw [hb]
    simp [f_check_judge_base, env0, go_sem, endP, endI, resultsA, resultA, freezeL, freezeV, AV.free.freeL, AV.free, packA, dropS, hv.cell, isNil, hv.os.len, h0]
  · obtain ⟨id, all, x, hpa, h1, h2, h3, h4, h5, h6, h7, h8, h9, h10, h11⟩ := hv.last hne
    obtain ⟨q1, q2, q3, q4, q5, q6, q7⟩ := pos_facts (List.length_pos_iff.mpr hne) hl
    have hb : jbase s.ps = x.base := by unfold jbase; rw [h8]
    rw [hb]
    have hf := h11 _ _ h6
    have hpos := List.length_pos_iff.mpr hne
    subst hpa
    simp [f_check_judge_base, env0, go_sem, endP, endI, resultsA, resultA, freezeL, freezeV, AV.free.freeL, AV.free, packA, dropS, hv.cell, isNil, q1, q2, q3, q4, indexIn, h3, hf, hne]
theorem JVp.mono (hv : JVp g b J p m fa s out pa oa) {h : H} (hn : g.n ≤ h.n) (hf : ∀ j, j < g.n → h.get j = g.get j) : JVp h b J p m fa s out pa oa where
  cell := by rw [hf J hv.Jn]; exact hv.cell
  bJ := hv.bJ
  Jn := by have := hv.Jn; omega
  os := hv.os.mono hn (fun j hj => hf j (hv.os.at_lt hj).2)
  oo := hv.oo.mono hn (fun j hj => hf j (hv.oo.at_lt hj).2)
  pJ := hv.pJ
  oJ := hv.oJ
  ap := hv.ap
theorem JVp.seth (hv : JVp g b J p m fa s out pa oa) (x : Int) : JVp (g.set J (.cells [.int .i64 p, .int .i64 m, fa, .int .i64 x, pa, oa] 0)) b J p m fa ⟨x, s.ps⟩ out pa oa where
  cell := by rw [get_set, if_pos rfl]
  bJ := hv.bJ
  Jn := hv.Jn
  os := hv.os.set _ hv.pJ
  oo := hv.oo.set _ hv.oJ
  pJ := hv.pJ
  oJ := hv.oJ
  ap := hv.ap
theorem jpop_ok (hbb : bar ≤ b) (hb : b ≤ g.n) (hv : JVp g b J p m fa s out pa oa) (hl : s.ps.length ≤ 1000) (hne : s.ps ≠ []) : ∃ x g' pa', s.ps.getLast? = some x ∧ call tb prim n_check_judge_pop [.ptr J 0] bar g = some (.agg x.c, g') ∧ JVp g' b J p m fa ⟨s.h, s.ps.dropLast⟩ out pa' oa ∧ g.n ≤ g'.n ∧ ∀ j, j < b → g'.get j = g.get j := by
  obtain ⟨id, all, x, hpa, h1, h2, h3, h4, h5, h6, h7, h8, h9, h10, h11⟩ := hv.last hne
  refine ⟨x, ?_⟩
  suffices hw : ∃ r g', callF (call tb prim) f_check_judge_pop [.ptr J 0] bar g = some (r, g') ∧ (r = .agg x.c ∧ ∃ pa', JVp g' b J p m fa ⟨s.h, s.ps.dropLast⟩ out pa' oa ∧ g.n ≤ g'.n ∧ ∀ j, j < b → g'.get j = g.get j) by
    obtain ⟨r, g', c1, rfl, pa', c2⟩ := hw; exact ⟨g', pa', h8, call_of tb_check_judge_pop c1, c2⟩
  refine callF_K rfl rfl fun K hK => ?_
  obtain ⟨q1, q2, q3, q4, q5, q6, q7⟩ := pos_facts (List.length_pos_iff.mpr hne) hl
  obtain ⟨f0, f1, f2, f3, f4, f5, f6⟩ := h11 _ _ h6
  have hJn := hv.Jn
  have hbJ := hv.bJ
  have n1 : J ≠ g.n := by omega
  have n2 : J ≠ g.n + 1 := by omega
  have n3 : id ≠ g.n := by omega
  have n4 : id ≠ g.n + 1 := by omega
  have n5 : g.n + 1 ≠ J := by omega
  have n6 : g.n ≠ J := by omega
  have hbg : bar ≤ g.n := by omega
  have hbg1 : bar ≤ g.n + 1 := by omega
  have hbJ' : bar ≤ J := by omega
  subst hpa
  have hcl : x.c = [.bool x.loop, .bool x.other, .bool x.left, .int .i64 x.base, .int .i64 x.fin] := rfl
  rw [hcl] at f6
  simp [f_check_judge_pop, env0, go_sem, get_alloc, n_alloc, get_set, n_set, get_kill, n_kill, writeAt, a11, a21, a31, a41, a51, a61, a71, hbg]
  refine ⟨⟨?_, ?_, ?_⟩, ?_⟩
  · refine sees_of rfl ?_
    simp [R_nil, R_cons, RS_some, sameV_some, seesQ_some, List.take, List.take_succ_cons, List.take_zero, go_sem, get_alloc, n_alloc, get_set, n_set, get_kill, n_kill, writeAt, a11, a21, a31, a41, a51, a61, a71, hv.cell, isNil, n1, n2, n3, n4, q1, q2, q3, indexIn, h3, f0, f6]
  · refine sees_of rfl ?_
    simp [R_nil, R_cons, RS_some, sameV_some, seesQ_some, List.take, List.take_succ_cons, List.take_zero, go_sem, get_alloc, n_alloc, get_set, n_set, get_kill, n_kill, writeAt, a11, a21, a31, a41, a51, a61, a71, hv.cell, isNil, n1, n2, n3, n4, q1, q2, q3, indexIn, h3, f0, f6]
  · refine sees_of rfl ?_
    simp [R_nil, R_cons, RS_some, sameV_some, seesQ_some, List.take, List.take_succ_cons, List.take_zero, go_sem, get_alloc, n_alloc, get_set, n_set, get_kill, n_kill, writeAt, a11, a21, a31, a41, a51, a61, a71, hv.cell, isNil, n1, n2, n3, n4, q1, q2, q3, indexIn, h3, f0, f6]
  · simp [go_sem, get_alloc, n_alloc, get_set, n_set, get_kill, n_kill, writeAt, a11, a21, a31, a41, a51, a61, a71, endP, endI, resultsA, resultA, freezeL, freezeV, AV.free.freeL, AV.free, packA, dropS, hv.cell, isNil, n1, n2, n3, n4, n5, n6, q1, q2, q3, q5, q6, q7, indexIn, h3, f0, f6, hbg, hbg1, hbJ', sp55, sliceA, optEv, optBound, bound, sp64]
    refine ⟨_, _, ⟨rfl, rfl⟩, hK _ _ ⟨rfl, .sl id 0 5 (s.ps.length - 1) false, ?_, ?_, ?_⟩⟩
    · have hfr : ∀ a c d e, ∀ j, j < g.n → j ≠ J → (((((g.alloc a).alloc a).set (g.n + 1) c).set J d).set g.n e).get j = g.get j := fun a c d e j q1 q2 => by
        rw [get_set_ne (by omega), get_set_ne q2, get_set_ne (by omega), get_alloc, n_alloc, if_neg (by omega), get_alloc, if_neg (by omega)]
      exact {
        cell := by rw [get_set_ne n1, get_set, if_pos rfl]
        bJ := hv.bJ
        Jn := by simp only [n_set, n_alloc]; omega
        os := h9 _ (by simp only [n_set, n_alloc]; omega) (hfr _ _ _ _ id h2 h4)
        oo := hv.oo.mono (by simp only [n_set, n_alloc]; omega) (fun j hj => hfr _ _ _ _ j (hv.oo.at_lt hj).2 (fun e => hv.oJ (e ▸ hj)))
        pJ := h4
        oJ := hv.oJ
        ap := fun j e1 e2 => by cases e1; exact h5 e2 }
    · simp only [n_set, n_alloc]; omega
    · intro j hj
      rw [get_set_ne (by omega), get_set_ne (by omega), get_set_ne (by omega), get_alloc, n_alloc, if_neg (by omega), get_alloc, if_neg (by omega)]
end
end Go.Ev
namespace Go.Ev
open Go
section
variable {bar b : Nat} {g : H} {J : Nat} {p m : Int} {fa : AV} {s : Js} {out : List Int}
/-- What a step of the judge must come to. -/
def JR (g : H) (b J : Nat) (p m : Int) (fa : AV) (out : List Int) (x : Int × Js) (r : AV) (g' : H) : Prop := r = .int .i64 x.1 ∧ g.n ≤ g'.n ∧ (∀ j, j < b → g'.get j = g.get j) ∧ (x.1 = 0 → JV g' b J p m fa x.2 out)
theorem ne_b {a c : Int} (h : a ≠ c) : (a != c) = true := by simpa using h
theorem ne_b' {a c : Int} (h : a = c) : (a != c) = false := by simpa using h
theorem jendIf_ok (hbb : bar ≤ b) (hb : b ≤ g.n) (hv : JV g b J p m fa s out) (hl : s.ps.length ≤ 1000) (hne : s.ps ≠ []) : ∃ r g', call tb prim n_check_judge_endIf [.ptr J 0] bar g = some (r, g') ∧ JR g b J p m fa out (jturn 59 s) r g' := by
  suffices hw : ∃ r g', callF (call tb prim) f_check_judge_endIf [.ptr J 0] bar g = some (r, g') ∧ JR g b J p m fa out (jturn 59 s) r g' by
    obtain ⟨r, h', h1, h2⟩ := hw; exact ⟨r, h', call_of tb_check_judge_endIf h1, h2⟩
  refine callF_K rfl rfl fun K hK => ?_
  obtain ⟨pa, oa, hv⟩ := hv
  obtain ⟨x, g1, pa', hx, hc, hv1, hn1, hf1⟩ := jpop_ok hbb hb hv hl hne
  have hj : jturn 59 s = if x.other then (if s.h ≠ -1 ∧ x.fin ≠ -1 ∧ s.h ≠ x.fin then (14, s) else (0, ⟨max s.h x.fin, s.ps.dropLast⟩)) else (if s.h ≠ -1 ∧ s.h ≠ x.base then (14, s) else (0, ⟨x.base, s.ps.dropLast⟩)) := by
    simp [jturn, hx]
  have hJn := hv1.Jn
  have hbJ : bar ≤ J := by have := hv1.bJ; omega
  have n1 : J ≠ g1.n := by omega
  have n2 : g1.n ≠ J := by omega
  have hbg : bar ≤ g1.n := by omega
  have hcl : x.c = [.bool x.loop, .bool x.other, .bool x.left, .int .i64 x.base, .int .i64 x.fin] := rfl
  have hv2 : JVp ((g1.alloc (.cells [.bool false, .bool false, .bool false, .int .i64 0, .int .i64 0] 0)).set g1.n (.cells x.c 0)) b J p m fa ⟨s.h, s.ps.dropLast⟩ out pa' oa := hv1.mono (by simp [n_set, n_alloc]) (fun j hj => by rw [get_set_ne (by omega), get_alloc, if_neg (by omega)])
  have hfr : ∀ c d e j, j < b → (((g1.alloc c).set g1.n d).set J e).get j = g.get j := fun c d e j hj => by
    rw [get_set_ne (by have := hv1.bJ; omega), get_set_ne (by omega), get_alloc, if_neg (by omega), hf1 j hj]
  have hfr0 : ∀ c d j, j < b → ((g1.alloc c).set g1.n d).get j = g.get j := fun c d j hj => by
    rw [get_set_ne (by omega), get_alloc, if_neg (by omega), hf1 j hj]
  rw [hj] at hK
  rw [hcl] at hc hv2
  cases ho : x.other with
  | false =>
    rw [ho] at hK hv2 hc
    simp only [Bool.false_eq_true, if_false] at hK
    have hgood : ¬ (s.h ≠ -1 ∧ s.h ≠ x.base) → K (.int .i64 0) (((g1.alloc (.cells [.bool false, .bool false, .bool false, .int .i64 0, .int .i64 0] 0)).set g1.n (.cells [.bool x.loop, .bool false, .bool x.left, .int .i64 x.base, .int .i64 x.fin] 0)).set J (.cells [.int .i64 p, .int .i64 m, fa, .int .i64 x.base, pa', oa] 0)) := fun hc2 => by
      refine hK _ _ ?_
      rw [if_neg hc2]
      exact ⟨rfl, by simp only [n_set, n_alloc]; omega, fun j hj => hfr _ _ _ j hj, fun _ => ⟨pa', oa, hv2.seth x.base⟩⟩
    by_cases c1 : s.h = -1
    · have d1 := ne_b' c1
      simp [f_check_judge_endIf, env0, go_sem, get_alloc, n_alloc, get_set, n_set, get_kill, n_kill, writeAt, a11, a21, a31, a41, a51, a61, a71, endP, endI, resultsA, resultA, freezeL, freezeV, AV.free.freeL, AV.free, packA, dropS, hc, hbg, hbJ, n1, n2, hv1.cell, isNil, sp55, sp63, c1]
      exact ⟨_, _, ⟨rfl, rfl⟩, hgood (fun e => e.1 c1)⟩
    · have d1 := ne_b c1
      by_cases c2 : s.h = x.base
      · have d2 := ne_b' c2
        simp [f_check_judge_endIf, env0, go_sem, get_alloc, n_alloc, get_set, n_set, get_kill, n_kill, writeAt, a11, a21, a31, a41, a51, a61, a71, endP, endI, resultsA, resultA, freezeL, freezeV, AV.free.freeL, AV.free, packA, dropS, hc, hbg, hbJ, n1, n2, hv1.cell, isNil, sp55, sp63, d1, d2]
        exact ⟨_, _, ⟨rfl, rfl⟩, hgood (fun e => e.2 c2)⟩
      · have d2 := ne_b c2
        rw [if_pos ⟨c1, c2⟩] at hK
        simp [f_check_judge_endIf, env0, go_sem, get_alloc, n_alloc, get_set, n_set, get_kill, n_kill, writeAt, a11, a21, a31, a41, a51, a61, a71, endP, endI, resultsA, resultA, freezeL, freezeV, AV.free.freeL, AV.free, packA, dropS, hc, hbg, hbJ, n1, n2, hv1.cell, isNil, sp55, sp63, d1, d2]
        exact ⟨_, _, ⟨rfl, rfl⟩, hK _ _ ⟨rfl, by simp only [n_set, n_alloc]; omega, fun j hj => hfr0 _ _ j hj, fun e => by cases e⟩⟩
  | true =>
    rw [ho] at hK hv2 hc
    simp only [if_true] at hK
    have hmx : (if x.fin > s.h then x.fin else s.h) = max s.h x.fin := by split <;> omega
    have hgood : ¬ (s.h ≠ -1 ∧ x.fin ≠ -1 ∧ s.h ≠ x.fin) → K (.int .i64 0) (((g1.alloc (.cells [.bool false, .bool false, .bool false, .int .i64 0, .int .i64 0] 0)).set g1.n (.cells [.bool x.loop, .bool true, .bool x.left, .int .i64 x.base, .int .i64 x.fin] 0)).set J (.cells [.int .i64 p, .int .i64 m, fa, .int .i64 (max s.h x.fin), pa', oa] 0)) := fun hc2 => by
      refine hK _ _ ?_
      rw [if_neg hc2]
      exact ⟨rfl, by simp only [n_set, n_alloc]; omega, fun j hj => hfr _ _ _ j hj, fun _ => ⟨pa', oa, hv2.seth _⟩⟩
    rw [← hmx] at hgood
    by_cases c1 : s.h = -1
    · rw [c1] at hgood
      simp [f_check_judge_endIf, env0, go_sem, get_alloc, n_alloc, get_set, n_set, get_kill, n_kill, writeAt, a11, a21, a31, a41, a51, a61, a71, endP, endI, resultsA, resultA, freezeL, freezeV, AV.free.freeL, AV.free, packA, dropS, hc, hbg, hbJ, n1, n2, hv1.cell, isNil, sp55, sp63, c1]
      exact ⟨_, _, ⟨rfl, rfl⟩, hgood (fun e => e.1 rfl)⟩
    · have d1 := ne_b c1
      by_cases c2 : x.fin = -1
      · rw [c2] at hgood
        simp [f_check_judge_endIf, env0, go_sem, get_alloc, n_alloc, get_set, n_set, get_kill, n_kill, writeAt, a11, a21, a31, a41, a51, a61, a71, endP, endI, resultsA, resultA, freezeL, freezeV, AV.free.freeL, AV.free, packA, dropS, hc, hbg, hbJ, n1, n2, hv1.cell, isNil, sp55, sp63, d1, c2]
        exact ⟨_, _, ⟨rfl, rfl⟩, hgood (fun e => e.2.1 rfl)⟩
      · have d2 := ne_b c2
        by_cases c3 : s.h = x.fin
        · have d3 := ne_b' c3
          simp [f_check_judge_endIf, env0, go_sem, get_alloc, n_alloc, get_set, n_set, get_kill, n_kill, writeAt, a11, a21, a31, a41, a51, a61, a71, endP, endI, resultsA, resultA, freezeL, freezeV, AV.free.freeL, AV.free, packA, dropS, hc, hbg, hbJ, n1, n2, hv1.cell, isNil, sp55, sp63, d1, d2, d3]
          exact ⟨_, _, ⟨rfl, rfl⟩, hgood (fun e => e.2.2 c3)⟩
        · have d3 := ne_b c3
          rw [if_pos ⟨c1, c2, c3⟩] at hK
          simp [f_check_judge_endIf, env0, go_sem, get_alloc, n_alloc, get_set, n_set, get_kill, n_kill, writeAt, a11, a21, a31, a41, a51, a61, a71, endP, endI, resultsA, resultA, freezeL, freezeV, AV.free.freeL, AV.free, packA, dropS, hc, hbg, hbJ, n1, n2, hv1.cell, isNil, sp55, sp63, d1, d2, d3]
          exact ⟨_, _, ⟨rfl, rfl⟩, hK _ _ ⟨rfl, by simp only [n_set, n_alloc]; omega, fun j hj => hfr0 _ _ j hj, fun e => by cases e⟩⟩
theorem jendLoop_ok (hbb : bar ≤ b) (hb : b ≤ g.n) (hv : JV g b J p m fa s out) (hl : s.ps.length ≤ 1000) (hne : s.ps ≠ []) : ∃ r g', call tb prim n_check_judge_endLoop [.ptr J 0] bar g = some (r, g') ∧ JR g b J p m fa out (jturn 93 s) r g' := by
  suffices hw : ∃ r g', callF (call tb prim) f_check_judge_endLoop [.ptr J 0] bar g = some (r, g') ∧ JR g b J p m fa out (jturn 93 s) r g' by
    obtain ⟨r, h', h1, h2⟩ := hw; exact ⟨r, h', call_of tb_check_judge_endLoop h1, h2⟩
  refine callF_K rfl rfl fun K hK => ?_
  obtain ⟨pa, oa, hv⟩ := hv
  obtain ⟨x, g1, pa', hx, hc, hv1, hn1, hf1⟩ := jpop_ok hbb hb hv hl hne
  have hj : jturn 93 s = if s.h ≠ -1 ∧ s.h ≠ x.base then (14, s) else (0, ⟨if x.left then x.base else -1, s.ps.dropLast⟩) := by
    simp [jturn, hx]
  have hJn := hv1.Jn
  have hbJ : bar ≤ J := by have := hv1.bJ; omega
  have n1 : J ≠ g1.n := by omega
  have n2 : g1.n ≠ J := by omega
  have hbg : bar ≤ g1.n := by omega
  have hcl : x.c = [.bool x.loop, .bool x.other, .bool x.left, .int .i64 x.base, .int .i64 x.fin] := rfl
  have hv2 : JVp ((g1.alloc (.cells [.bool false, .bool false, .bool false, .int .i64 0, .int .i64 0] 0)).set g1.n (.cells x.c 0)) b J p m fa ⟨s.h, s.ps.dropLast⟩ out pa' oa := hv1.mono (by simp [n_set, n_alloc]) (fun j hj => by rw [get_set_ne (by omega), get_alloc, if_neg (by omega)])
  have hfr0 : ∀ c d j, j < b → ((g1.alloc c).set g1.n d).get j = g.get j := fun c d j hj => by
    rw [get_set_ne (by omega), get_alloc, if_neg (by omega), hf1 j hj]
  have hset : ∀ (h : H) c d, (h.set J c).set J d = h.set J d := fun h c d => by
    unfold H.set
    simp only
    congr 1
    funext j
    split <;> rfl
  rw [hj] at hK
  rw [hcl] at hc hv2
  by_cases hbad : s.h ≠ -1 ∧ s.h ≠ x.base
  · have d1 := ne_b hbad.1
    have d2 := ne_b hbad.2
    rw [if_pos hbad] at hK
    simp [f_check_judge_endLoop, env0, go_sem, get_alloc, n_alloc, get_set, n_set, get_kill, n_kill, writeAt, a11, a21, a31, a41, a51, a61, a71, endP, endI, resultsA, resultA, freezeL, freezeV, AV.free.freeL, AV.free, packA, dropS, hc, hbg, hbJ, n1, n2, hv1.cell, isNil, sp55, sp63, d1, d2]
    exact ⟨_, _, ⟨rfl, rfl⟩, hK _ _ ⟨rfl, by simp only [n_set, n_alloc]; omega, fun j hj => hfr0 _ _ j hj, fun e => by cases e⟩⟩
  · rw [if_neg hbad] at hK
    have hfr : ∀ c d e f j, j < b → ((((g1.alloc c).set g1.n d).set J e).set J f).get j = g.get j := fun c d e f j hj => by
      rw [get_set_ne (by have := hv1.bJ; omega), get_set_ne (by have := hv1.bJ; omega), hfr0 c d j hj]
    have hfr1 : ∀ c d e j, j < b → (((g1.alloc c).set g1.n d).set J e).get j = g.get j := fun c d e j hj => by
      rw [get_set_ne (by have := hv1.bJ; omega), hfr0 c d j hj]
    cases hlf : x.left with
    | true =>
      rw [hlf] at hK hc hv2
      simp only [if_true] at hK
      have h3 := (hv2.seth (-1)).seth x.base
      by_cases c1 : s.h = -1
      · simp [f_check_judge_endLoop, env0, go_sem, get_alloc, n_alloc, get_set, n_set, get_kill, n_kill, writeAt, a11, a21, a31, a41, a51, a61, a71, endP, endI, resultsA, resultA, freezeL, freezeV, AV.free.freeL, AV.free, packA, dropS, hc, hbg, hbJ, n1, n2, hv1.cell, isNil, sp55, sp63, c1]
        exact ⟨_, _, ⟨rfl, rfl⟩, hK _ _ ⟨rfl, by simp only [n_set, n_alloc]; omega, fun j hj => hfr _ _ _ _ j hj, fun _ => ⟨pa', oa, h3⟩⟩⟩
      · have d1 := ne_b c1
        have d2 := ne_b' (show s.h = x.base from Classical.byContradiction fun e => hbad ⟨c1, e⟩)
        simp [f_check_judge_endLoop, env0, go_sem, get_alloc, n_alloc, get_set, n_set, get_kill, n_kill, writeAt, a11, a21, a31, a41, a51, a61, a71, endP, endI, resultsA, resultA, freezeL, freezeV, AV.free.freeL, AV.free, packA, dropS, hc, hbg, hbJ, n1, n2, hv1.cell, isNil, sp55, sp63, d1, d2]
        exact ⟨_, _, ⟨rfl, rfl⟩, hK _ _ ⟨rfl, by simp only [n_set, n_alloc]; omega, fun j hj => hfr _ _ _ _ j hj, fun _ => ⟨pa', oa, h3⟩⟩⟩
    | false =>
      rw [hlf] at hK hc hv2
      simp only [Bool.false_eq_true, if_false] at hK
      have h3 := hv2.seth (-1)
      by_cases c1 : s.h = -1
      · simp [f_check_judge_endLoop, env0, go_sem, get_alloc, n_alloc, get_set, n_set, get_kill, n_kill, writeAt, a11, a21, a31, a41, a51, a61, a71, endP, endI, resultsA, resultA, freezeL, freezeV, AV.free.freeL, AV.free, packA, dropS, hc, hbg, hbJ, n1, n2, hv1.cell, isNil, sp55, sp63, c1]
        exact ⟨_, _, ⟨rfl, rfl⟩, hK _ _ ⟨rfl, by simp only [n_set, n_alloc]; omega, fun j hj => hfr1 _ _ _ j hj, fun _ => ⟨pa', oa, h3⟩⟩⟩
      · have d1 := ne_b c1
        have d2 := ne_b' (show s.h = x.base from Classical.byContradiction fun e => hbad ⟨c1, e⟩)
        simp [f_check_judge_endLoop, env0, go_sem, get_alloc, n_alloc, get_set, n_set, get_kill, n_kill, writeAt, a11, a21, a31, a41, a51, a61, a71, endP, endI, resultsA, resultA, freezeL, freezeV, AV.free.freeL, AV.free, packA, dropS, hc, hbg, hbJ, n1, n2, hv1.cell, isNil, sp55, sp63, d1, d2]
        exact ⟨_, _, ⟨rfl, rfl⟩, hK _ _ ⟨rfl, by simp only [n_set, n_alloc]; omega, fun j hj => hfr1 _ _ _ j hj, fun _ => ⟨pa', oa, h3⟩⟩⟩
end
end Go.Ev
namespace Go.Ev
open Go
section
variable {bar b : Nat} {g : H} {J : Nat} {p m : Int} {fa : AV} {s : Js} {out : List Int}
theorem lastLoopJ_some : ∀ (ps : List Jp) (n k : Nat), lastLoopJ ps n = some k → k < n ∧ ∃ p, ps[k]? = some p ∧ p.loop = true
  | ps, 0, k, h => by simp [lastLoopJ] at h
  | ps, n + 1, k, h => by
    simp only [lastLoopJ] at h
    cases hp : ps[n]? with
    | none => rw [hp] at h; simp at h
    | some p =>
      rw [hp] at h
      simp only at h
      split at h
      · rename_i hl
        injection h with h
        subst h
        exact ⟨by omega, p, hp, hl⟩
      · obtain ⟨h1, h2⟩ := lastLoopJ_some ps n k h
        exact ⟨by omega, h2⟩
theorem jleave_loop {pa oa : AV} (hv : JVp g b J p m fa s out pa oa) (hl : s.ps.length ≤ 1000) (k0 : Nat) (Q : Ex → Env → H → Prop) (hq : ∀ e, e.get 0 = some (.ptr J 0) → e.get 3 = some (.int .i64 (k0 : Nat)) → Q (.exit 0) e g) : ∀ (n : Nat), n ≤ s.ps.length → lastLoopJ s.ps n = some k0 →
    wpL (call tb prim) bar [0, 3] l0_check_judge_leave [(0, .ptr J 0), (3, .int .i64 ((n : Int) - 1))] g Q := by
  intro n
  induction n with
  | zero => intro _ h; simp [lastLoopJ] at h
  | succ k ih =>
    intro hn hll
    refine M_loop l0_check_judge_leave.eq_1 ?_
    have hne : s.ps ≠ [] := List.length_pos_iff.mp (by omega)
    obtain ⟨id, all, _, hpa, h1, h2, h3, h4, h5, _, _, _, h9, h10, h11⟩ := hv.last hne
    have hk : k < s.ps.length := by omega
    have hk' : (k : Int) < (s.ps.length : Int) := by omega
    have hxk : s.ps[k]? = some s.ps[k] := List.getElem?_eq_getElem hk
    obtain ⟨f0, f1, f2, f3, f4, f5, f6⟩ := h11 k _ hxk
    have hkk : ((k + 1 : Nat) : Int) - 1 = (k : Int) := by omega
    rw [hkk]
    simp only [lastLoopJ, hxk] at hll
    subst hpa
    generalize s.ps[k] = x at *
    cases hlp : x.loop with
    | true =>
      rw [hlp, if_pos rfl] at hll
      injection hll with hll
      subst hll
      simp [go_sem, hv.cell, isNil, indexIn, hk, hk', h3, f1, hlp]
      exact hq _ rfl rfl
    | false =>
      rw [hlp] at hll
      simp only [Bool.false_eq_true, if_false] at hll
      have hw : IntKind.i64.wrap ((k : Int) - 1) = (k : Int) - 1 := w64 (by omega) (by omega)
      simp [go_sem, hv.cell, isNil, indexIn, hk, hk', h3, f1, hlp, hw]
      exact ih (by omega) hll
theorem jleave_ok (hbb : bar ≤ b) (hb : b ≤ g.n) (hv : JV g b J p m fa s out) (hl : s.ps.length ≤ 1000) (hll : ∃ k, lastLoopJ s.ps s.ps.length = some k) : ∃ r g', call tb prim n_check_judge_leave [.ptr J 0] bar g = some (r, g') ∧ JR g b J p m fa out (jturn 126 s) r g' := by
  suffices hw : ∃ r g', callF (call tb prim) f_check_judge_leave [.ptr J 0] bar g = some (r, g') ∧ JR g b J p m fa out (jturn 126 s) r g' by
    obtain ⟨r, h', h1, h2⟩ := hw; exact ⟨r, h', call_of tb_check_judge_leave h1, h2⟩
  refine callF_K rfl rfl fun K hK => ?_
  obtain ⟨pa, oa, hv⟩ := hv
  obtain ⟨k, hll⟩ := hll
  obtain ⟨hk, x, hx, hlp⟩ := lastLoopJ_some _ _ _ hll
  have hj : jturn 126 s = if s.h ≠ x.base then (14, s) else (0, ⟨-1, s.ps.set k ⟨x.loop, x.other, true, x.base, x.fin⟩⟩) := by
    simp only [jturn, hll, hx]
    rfl
  rw [hj] at hK
  have hne : s.ps ≠ [] := List.length_pos_iff.mp (by omega)
  have hpl := List.length_pos_iff.mpr hne
  have hw : IntKind.i64.wrap ((s.ps.length : Int) - 1) = (s.ps.length : Int) - 1 := w64 (by omega) (by omega)
  have hvl := hv.os.len
  have hv0 := hv
  obtain ⟨id, all, _, hpa, h1, h2, h3, h4, h5, _, _, _, h9, h10, h11⟩ := hv.last hne
  obtain ⟨f0, f1, f2, f3, f4, f5, f6⟩ := h11 k _ hx
  have hk' : (k : Int) < (s.ps.length : Int) := by omega
  have hbJ : bar ≤ J := by have := hv.bJ; omega
  have hbi : bar ≤ id := by omega
  have hle : k * 5 + 2 + 1 ≤ all.length := by omega
  have n1 : J ≠ id := fun e => h4 e.symm
  simp [f_check_judge_leave, env0, go_sem, hv.cell, isNil, hvl, hw]
  refine jleave_loop hv0 hl k _ (fun e q1 q2 => ?_) s.ps.length (Nat.le_refl _) hll
  subst hpa
  by_cases c1 : s.h = x.base
  · have d1 := ne_b' c1
    rw [if_neg (fun e => e c1)] at hK
    have hos := h10 k x ⟨x.loop, x.other, true, x.base, x.fin⟩ 2 [.bool true] ((g.set id (.cells (splice all (k * 5 + 2) [.bool true]) 0)).set J (.cells [.int .i64 p, .int .i64 m, fa, .int .i64 (-1), .sl id 0 5 s.ps.length false, oa] 0)) hx (by simp) rfl (Jp.c_one _) (Nat.le_refl _) (by rw [get_set_ne h4, get_set, if_pos rfl])
    simp [go_sem, get_alloc, n_alloc, get_set, n_set, get_kill, n_kill, writeAt, a11, a21, a31, a41, a51, a61, a71, endP, endI, resultsA, resultA, freezeL, freezeV, AV.free.freeL, AV.free, packA, dropS, q1, q2, hv.cell, isNil, indexIn, hk, hk', h3, f4, d1, hbJ, hbi, hle, n1, sp63]
    refine ⟨_, _, ⟨rfl, rfl⟩, hK _ _ ⟨rfl, Nat.le_refl _, fun j hj => by rw [get_set_ne (by have := hv.bJ; omega), get_set_ne (by omega)], fun _ => ⟨.sl id 0 5 s.ps.length false, oa, ?_⟩⟩⟩
    exact {
      cell := by rw [get_set, if_pos rfl]
      bJ := hv.bJ
      Jn := hv.Jn
      os := hos
      oo := (hv.oo.set _ h5).set _ hv.oJ
      pJ := hv.pJ
      oJ := hv.oJ
      ap := hv.ap }
  · have d1 := ne_b c1
    rw [if_pos c1] at hK
    simp [go_sem, get_alloc, n_alloc, get_set, n_set, get_kill, n_kill, writeAt, a11, a21, a31, a41, a51, a61, a71, endP, endI, resultsA, resultA, freezeL, freezeV, AV.free.freeL, AV.free, packA, dropS, q1, q2, hv.cell, isNil, indexIn, hk, hk', h3, f4, d1]
    exact ⟨_, _, ⟨rfl, rfl⟩, hK _ _ ⟨rfl, Nat.le_refl _, fun _ _ => rfl, fun e => by cases e⟩⟩
theorem jturn_ok (sg : Int) (hbb : bar ≤ b) (hb : b ≤ g.n) (hv : JV g b J p m fa s out) (hl : s.ps.length ≤ 900) (hpre : jpre sg s.ps) (hh : -100000 ≤ s.h ∧ s.h ≤ 100000) : ∃ r g', call tb prim n_check_judge_turn [.ptr J 0, .int .i32 sg] bar g = some (r, g') ∧ JR g b J p m fa out (jturn sg s) r g' := by
  suffices hw : ∃ r g', callF (call tb prim) f_check_judge_turn [.ptr J 0, .int .i32 sg] bar g = some (r, g') ∧ JR g b J p m fa out (jturn sg s) r g' by
    obtain ⟨r, h', h1, h2⟩ := hw; exact ⟨r, h', call_of tb_check_judge_turn h1, h2⟩
  refine callF_K rfl rfl fun K hK => ?_
  obtain ⟨pre1, pre2, pre3, pre4⟩ := hpre
  have hv0 := hv
  obtain ⟨pa, oa, hv⟩ := hv
  have hJn := hv.Jn
  have hbJ : bar ≤ J := by have := hv.bJ; omega
  by_cases c1 : sg = 63 ∨ sg = 91
  · have hj : jturn sg s = (0, ⟨s.h, s.ps ++ [⟨sg == 91, false, false, s.h, 0⟩]⟩) := by simp only [jturn]; rw [if_pos c1]
    rw [hj] at hK
    obtain ⟨a', g', e1, e2, e3, e4, e5⟩ := hv.os.app' hb hbb 24 (Jp.c ⟨sg == 91, false, false, s.h, 0⟩) rfl (Jp.c_one _) (by omega) (by omega) (by omega)
    simp only [Jp.c] at e1
    have hgJ : g'.get J = some (.cells [.int .i64 p, .int .i64 m, fa, .int .i64 s.h, pa, oa] 0) := by rw [e4 J hJn hv.pJ]; exact hv.cell
    have n1 : J ≠ g.n := by omega
    have hfr : ∀ c j, j < b → (g'.set J c).get j = g.get j := fun c j hj => by rw [get_set_ne (by have := hv.bJ; omega), e4 j (by omega) (fun q => by have := hv.os.at_lt q; omega)]
    have haJ : ¬ a'.isAt J := fun q => by have := e5 _ q; omega
    have hfin : JV (g'.set J (.cells [.int .i64 p, .int .i64 m, fa, .int .i64 s.h, a', oa] 0)) b J p m fa ⟨s.h, s.ps ++ [⟨sg == 91, false, false, s.h, 0⟩]⟩ out := ⟨a', oa, {
      cell := by rw [get_set, if_pos rfl]
      bJ := hv.bJ
      Jn := by simp only [n_set]; omega
      os := by have := e2.set (.cells [.int .i64 p, .int .i64 m, fa, .int .i64 s.h, a', oa] 0) haJ; simpa [Jp.c] using this
      oo := (hv.oo.mono (by omega) (fun j q => e4 j (hv.oo.at_lt q).2 (fun q2 => hv.ap j q2 q))).set _ hv.oJ
      pJ := haJ
      oJ := hv.oJ
      ap := fun j q1 q2 => by have := e5 _ q1; have := hv.oo.at_lt q2; omega }⟩
    rcases c1 with rfl | rfl
    · simp [f_check_judge_turn, env0, go_sem, get_alloc, n_alloc, get_set, n_set, get_kill, n_kill, writeAt, a11, a21, a31, a41, a51, a61, a71, endP, endI, resultsA, resultA, freezeL, freezeV, AV.free.freeL, AV.free, packA, dropS]
      refine ⟨?_, ?_⟩
      · refine sees_of rfl ?_
        simp [R_nil, R_cons, RS_some, sameV_some, seesQ_some, List.take, List.take_succ_cons, List.take_zero, go_sem, get_alloc, n_alloc, get_set, n_set, get_kill, n_kill, writeAt, a11, a21, a31, a41, a51, a61, a71, hv.cell, isNil, evParts, fillA, splice, n1]
      · have e1' : appR bar 5 24 (some pa) (some (.sl g.n 0 5 1 true)) (g.alloc (.cells [.bool false, .bool false, .bool false, .int .i64 s.h, .int .i64 0] 0)) = some (a', g') := e1
        simp [go_sem, get_alloc, n_alloc, get_set, n_set, get_kill, n_kill, writeAt, a11, a21, a31, a41, a51, a61, a71, endP, endI, resultsA, resultA, freezeL, freezeV, AV.free.freeL, AV.free, packA, dropS, hv.cell, isNil, evParts, fillA, splice, e1', hgJ, hbJ, e2.one]
        exact ⟨_, _, ⟨rfl, rfl⟩, hK _ _ ⟨rfl, by simp only [n_set]; omega, fun j hj => hfr _ j hj, fun _ => hfin⟩⟩
    · simp [f_check_judge_turn, env0, go_sem, get_alloc, n_alloc, get_set, n_set, get_kill, n_kill, writeAt, a11, a21, a31, a41, a51, a61, a71, endP, endI, resultsA, resultA, freezeL, freezeV, AV.free.freeL, AV.free, packA, dropS]
      refine ⟨?_, ?_⟩
      · refine sees_of rfl ?_
        simp [R_nil, R_cons, RS_some, sameV_some, seesQ_some, List.take, List.take_succ_cons, List.take_zero, go_sem, get_alloc, n_alloc, get_set, n_set, get_kill, n_kill, writeAt, a11, a21, a31, a41, a51, a61, a71, hv.cell, isNil, evParts, fillA, splice, n1]
      · have e1' : appR bar 5 24 (some pa) (some (.sl g.n 0 5 1 true)) (g.alloc (.cells [.bool true, .bool false, .bool false, .int .i64 s.h, .int .i64 0] 0)) = some (a', g') := e1
        simp [go_sem, get_alloc, n_alloc, get_set, n_set, get_kill, n_kill, writeAt, a11, a21, a31, a41, a51, a61, a71, endP, endI, resultsA, resultA, freezeL, freezeV, AV.free.freeL, AV.free, packA, dropS, hv.cell, isNil, evParts, fillA, splice, e1', hgJ, hbJ, e2.one]
        exact ⟨_, _, ⟨rfl, rfl⟩, hK _ _ ⟨rfl, by simp only [n_set]; omega, fun j hj => hfr _ j hj, fun _ => hfin⟩⟩
  by_cases c2 : sg = 58
  · subst c2
    obtain ⟨x, hx, _, _⟩ := pre1 rfl
    have hne : s.ps ≠ [] := fun e => by rw [e] at hx; cases hx
    have hj : jturn 58 s = (0, ⟨x.base, s.ps.set (s.ps.length - 1) ⟨x.loop, true, x.left, x.base, s.h⟩⟩) := by simp [jturn, hx]
    rw [hj] at hK
    obtain ⟨id, all, x', hpa, h1, h2, h3, h4, h5, h6, h7, h8, h9, h10, h11⟩ := hv.last hne
    rw [hx] at h8
    injection h8 with h8
    subst h8
    obtain ⟨f0, f1, f2, f3, f4, f5, f6⟩ := h11 _ _ h6
    obtain ⟨q1, q2, q3, q4, q5, q6, q7⟩ := pos_facts (List.length_pos_iff.mpr hne) (by omega)
    have n1 : J ≠ id := fun e => h4 e.symm
    have hbi : bar ≤ id := by omega
    have hle1 : (s.ps.length - 1) * 5 + 1 + 1 ≤ all.length := by omega
    have hle2 : (s.ps.length - 1) * 5 + 4 + 1 ≤ (splice all ((s.ps.length - 1) * 5 + 1) [.bool true]).length := by simp [splice]; omega
    have hsp1 : ∀ v, (splice all ((s.ps.length - 1) * 5 + 1) [v])[(s.ps.length - 1) * 5 + 3]? = all[(s.ps.length - 1) * 5 + 3]? := fun v => by
      unfold splice
      rw [List.append_assoc, List.getElem?_append_right (by simp; omega), List.getElem?_append_right (by simp; omega), List.getElem?_drop]
      congr 1
      simp; omega
    have hsp2 : ∀ v w, (splice (splice all ((s.ps.length - 1) * 5 + 1) [v]) ((s.ps.length - 1) * 5 + 4) [w])[(s.ps.length - 1) * 5 + 3]? = (splice all ((s.ps.length - 1) * 5 + 1) [v])[(s.ps.length - 1) * 5 + 3]? := fun v w => by
      conv => lhs; unfold splice
      rw [List.append_assoc, List.getElem?_append_left (by simp [splice]; omega), List.getElem?_take_of_lt (by omega)]
      rfl
    have hb3 : (splice (splice all ((s.ps.length - 1) * 5 + 1) [.bool true]) ((s.ps.length - 1) * 5 + 4) [.int .i64 s.h])[(s.ps.length - 1) * 5 + 3]? = some (.int .i64 x.base) := by rw [hsp2, hsp1]; exact f4
    have hos1 := h10 (s.ps.length - 1) x ⟨x.loop, true, x.left, x.base, x.fin⟩ 1 [.bool true] (g.set id (.cells (splice all ((s.ps.length - 1) * 5 + 1) [.bool true]) 0)) h6 (by simp) rfl (Jp.c_one _) (Nat.le_refl _) (by rw [get_set, if_pos rfl])
    have hne1 : s.ps.set (s.ps.length - 1) ⟨x.loop, true, x.left, x.base, x.fin⟩ ≠ [] := List.length_pos_iff.mp (by rw [List.length_set]; exact List.length_pos_iff.mpr hne)
    obtain ⟨id', all', hpa', _, _, h3', _, _, _, h10'⟩ := hos1.elems Jp.c_len hne1
    rw [hpa] at hpa'
    injection hpa' with hid
    subst hid
    rw [get_set, if_pos rfl] at h3'
    injection h3' with h3'
    injection h3' with h3'
    subst h3'
    have hos2 := h10' (s.ps.length - 1) ⟨x.loop, true, x.left, x.base, x.fin⟩ ⟨x.loop, true, x.left, x.base, s.h⟩ 4 [.int .i64 s.h] (((g.set id (.cells (splice all ((s.ps.length - 1) * 5 + 1) [.bool true]) 0)).set id (.cells (splice (splice all ((s.ps.length - 1) * 5 + 1) [.bool true]) ((s.ps.length - 1) * 5 + 4) [.int .i64 s.h]) 0)).set J (.cells [.int .i64 p, .int .i64 m, fa, .int .i64 x.base, pa, oa] 0))
      (by rw [List.getElem?_set, if_pos rfl, if_pos q2]) (by simp) rfl (Jp.c_one _) (Nat.le_refl _) (by rw [get_set_ne h4, get_set, if_pos rfl])
    rw [List.set_set] at hos2
    subst hpa
    simp [f_check_judge_turn, env0, go_sem, get_alloc, n_alloc, get_set, n_set, get_kill, n_kill, writeAt, a11, a21, a31, a41, a51, a61, a71, endP, endI, resultsA, resultA, freezeL, freezeV, AV.free.freeL, AV.free, packA, dropS, hv.cell, isNil, q1, q2, q3, q4, indexIn, h3, n1, hbi, hle1, hle2, hb3, hbJ, sp63]
    refine ⟨_, _, ⟨rfl, rfl⟩, hK _ _ ⟨rfl, Nat.le_refl _, fun j hj => by rw [get_set_ne (by have := hv.bJ; omega), get_set_ne (by omega), get_set_ne (by omega)], fun _ => ⟨.sl id 0 5 s.ps.length false, oa, ?_⟩⟩⟩
    exact {
      cell := by rw [get_set, if_pos rfl]
      bJ := hv.bJ
      Jn := hv.Jn
      os := hos2
      oo := ((hv.oo.set _ h5).set _ h5).set _ hv.oJ
      pJ := hv.pJ
      oJ := hv.oJ
      ap := hv.ap }
  have d1 : (sg == 63) = false := by simp; omega
  have d2 : (sg == 91) = false := by simp; omega
  have d3 : (sg == 58) = false := by simpa using c2
  by_cases c3 : sg = 59
  · subst c3
    obtain ⟨x, hx, _⟩ := pre2 rfl
    obtain ⟨r, g', e1, e2⟩ := jendIf_ok hbb hb hv0 (by omega) (fun e => by rw [e] at hx; cases hx)
    simp [f_check_judge_turn, env0, go_sem, get_alloc, n_alloc, get_set, n_set, get_kill, n_kill, writeAt, a11, a21, a31, a41, a51, a61, a71, endP, endI, resultsA, resultA, freezeL, freezeV, AV.free.freeL, AV.free, packA, dropS, e1]
    exact ⟨_, _, ⟨rfl, rfl⟩, hK _ _ e2⟩
  by_cases c4 : sg = 93
  · subst c4
    obtain ⟨x, hx, _⟩ := pre3 rfl
    obtain ⟨r, g', e1, e2⟩ := jendLoop_ok hbb hb hv0 (by omega) (fun e => by rw [e] at hx; cases hx)
    simp [f_check_judge_turn, env0, go_sem, get_alloc, n_alloc, get_set, n_set, get_kill, n_kill, writeAt, a11, a21, a31, a41, a51, a61, a71, endP, endI, resultsA, resultA, freezeL, freezeV, AV.free.freeL, AV.free, packA, dropS, e1]
    exact ⟨_, _, ⟨rfl, rfl⟩, hK _ _ e2⟩
  by_cases c5 : sg = 126
  · subst c5
    obtain ⟨r, g', e1, e2⟩ := jleave_ok hbb hb hv0 (by omega) (pre4 rfl)
    simp [f_check_judge_turn, env0, go_sem, get_alloc, n_alloc, get_set, n_set, get_kill, n_kill, writeAt, a11, a21, a31, a41, a51, a61, a71, endP, endI, resultsA, resultA, freezeL, freezeV, AV.free.freeL, AV.free, packA, dropS, e1]
    exact ⟨_, _, ⟨rfl, rfl⟩, hK _ _ e2⟩
  have d4 : (sg == 59) = false := by simpa using c3
  have d5 : (sg == 93) = false := by simpa using c4
  have d6 : (sg == 126) = false := by simpa using c5
  by_cases c6 : sg = 161
  · subst c6
    have hj : jturn 161 s = (0, ⟨-1, s.ps⟩) := by simp [jturn]
    rw [hj] at hK
    simp [f_check_judge_turn, env0, go_sem, get_alloc, n_alloc, get_set, n_set, get_kill, n_kill, writeAt, a11, a21, a31, a41, a51, a61, a71, endP, endI, resultsA, resultA, freezeL, freezeV, AV.free.freeL, AV.free, packA, dropS, hv.cell, isNil, hbJ, sp63]
    exact ⟨_, _, ⟨rfl, rfl⟩, hK _ _ ⟨rfl, Nat.le_refl _, fun j hj => by rw [get_set_ne (by have := hv.bJ; omega)], fun _ => ⟨pa, oa, hv.seth (-1)⟩⟩⟩
  · have d7 : (sg == 161) = false := by simpa using c6
    have hj : jturn sg s = (0, s) := by unfold jturn; rw [if_neg c1, if_neg c2, if_neg c3, if_neg c4, if_neg c5, if_neg c6]
    rw [hj] at hK
    simp [f_check_judge_turn, env0, go_sem, get_alloc, n_alloc, get_set, n_set, get_kill, n_kill, writeAt, a11, a21, a31, a41, a51, a61, a71, endP, endI, resultsA, resultA, freezeL, freezeV, AV.free.freeL, AV.free, packA, dropS, d1, d2, d3, d4, d5, d6, d7]
    exact ⟨_, _, ⟨rfl, rfl⟩, hK _ _ ⟨rfl, Nat.le_refl _, fun _ _ => rfl, fun _ => hv0⟩⟩
end
end Go.Ev
namespace Go.Ev
open Go
section
variable {bar b : Nat} {g : H} {J : Nat} {p m : Int} {fa : AV} {s : Js} {out : List Int}
theorem jbase_rng (hok : JOk s) : 0 ≤ jbase s.ps ∧ jbase s.ps ≤ 64 := by
  unfold jbase
  cases h : s.ps.getLast? with
  | none => simp
  | some x => have := hok.2.2.1 x (List.mem_of_getLast? h); exact ⟨this.1, this.2.1⟩
theorem jtoken_ok (fs : List Fn) (t : Tok) (h0 : H) (hfv : FV h0 fa fs) (h0n : h0.n ≤ b) (hag : Ag h0.n h0 g) (hbb : bar ≤ b) (hb : b ≤ g.n) (hv : JV g b J p m fa s out) (hok : JOk s) (hl : s.ps.length ≤ 800) (hol : out.length ≤ 5000) (hpre : jpre t.sign s.ps) :
    ∃ r g', call tb prim n_check_judge_token [.ptr J 0, .agg t.cells] bar g = some (r, g') ∧ JR g b J p m fa (out ++ [s.h]) (jtok fs t s) r g' := by
  suffices hw : ∃ r g', callF (call tb prim) f_check_judge_token [.ptr J 0, .agg t.cells] bar g = some (r, g') ∧ JR g b J p m fa (out ++ [s.h]) (jtok fs t s) r g' by
    obtain ⟨r, h', h1, h2⟩ := hw; exact ⟨r, h', call_of tb_check_judge_token h1, h2⟩
  refine callF_K rfl rfl fun K hK => ?_
  obtain ⟨pa, oa, hv⟩ := hv
  have hJn := hv.Jn
  have hbJ : bar ≤ J := by have := hv.bJ; omega
  have n1 : J ≠ g.n := by omega
  have n2 : J ≠ g.n + 1 := by omega
  have hvA : JVp (g.alloc (.cells t.cells 0)) b J p m fa s out pa oa := hv.mono (by simp [n_alloc]) (fun j hj => by rw [get_alloc, if_neg (by omega)])
  obtain ⟨a', g1, e1, e2, e3, e4, e5⟩ := hvA.oo.app' (by simp only [n_alloc]; omega) hbb 8 (i64c s.h) rfl rfl (by omega) (by omega) (by omega)
  simp only [n_alloc] at e1 e3 e4 e5
  simp only [i64c] at e1
  have hgJ : g1.get J = some (.cells [.int .i64 p, .int .i64 m, fa, .int .i64 s.h, pa, oa] 0) := by rw [e4 J (by omega) hv.oJ]; exact hvA.cell
  have hgt : g1.get g.n = some (.cells t.cells 0) := by rw [e4 g.n (by omega) (fun q => by have := hv.oo.at_lt q; omega), get_alloc, if_pos rfl]
  have haJ : ¬ a'.isAt J := fun q => by have := e5 _ q; omega
  have hfr1 : ∀ j, j < g.n → j ≠ J → ¬ oa.isAt j → g1.get j = g.get j := fun j q1 q2 q3 => by rw [e4 j (by omega) q3, get_alloc, if_neg (by omega)]
  have hv1 : JVp (g1.set J (.cells [.int .i64 p, .int .i64 m, fa, .int .i64 s.h, pa, a'] 0)) b J p m fa s (out ++ [s.h]) pa a' := {
      cell := by rw [get_set, if_pos rfl]
      bJ := hv.bJ
      Jn := by simp only [n_set]; omega
      os := (hv.os.mono (by omega) (fun j q => hfr1 j (hv.os.at_lt q).2 (fun e => hv.pJ (e ▸ q)) (fun q2 => hv.ap j q q2))).set _ hv.pJ
      oo := by have := e2.set (.cells [.int .i64 p, .int .i64 m, fa, .int .i64 s.h, pa, a'] 0) haJ; simpa [i64c] using this
      pJ := hv.pJ
      oJ := haJ
      ap := fun j q1 q2 => by have := e5 _ q2; have := hv.os.at_lt q1; omega }
  have hfrb : ∀ c j, j < b → (g1.set J c).get j = g.get j := fun c j hj => by
    rw [get_set_ne (by have := hv.bJ; omega), hfr1 j (by omega) (by have := hv.bJ; omega) (fun q => by have := hv.oo.at_lt q; omega)]
  have hg2t : (g1.set J (.cells [.int .i64 p, .int .i64 m, fa, .int .i64 s.h, pa, a'] 0)).get g.n = some (.cells t.cells 0) := by rw [get_set_ne (by omega)]; exact hgt
  have hg2n : (g1.set J (.cells [.int .i64 p, .int .i64 m, fa, .int .i64 s.h, pa, a'] 0)).n = g.n + 3 := by simp only [n_set]; omega
  have hfone := Vw.one hfv
  have hfv2 : FV (g1.set J (.cells [.int .i64 p, .int .i64 m, fa, .int .i64 s.h, pa, a'] 0)) fa fs := hfv.mono ⟨by have := hag.1; omega, fun j hj => by rw [hfrb _ j (by omega), hag.2 j hj]⟩ (Nat.le_refl _)
  have htk : call tb prim n_check_Takes [.agg [.int .i64 p, .int .i64 m, fa], .agg t.cells] bar (g1.set J (.cells [.int .i64 p, .int .i64 m, fa, .int .i64 s.h, pa, a'] 0)) = _ := check_Takes_ok fs fa t.sign t.n t.name p m hfv2
  have hbase : call tb prim n_check_judge_base [.ptr J 0] bar (g1.set J (.cells [.int .i64 p, .int .i64 m, fa, .int .i64 s.h, pa, a'] 0)) = some (.int .i64 (jbase s.ps), _) := jbase_ok hv1 (by omega)
  have hcell2 := hv1.cell
  obtain ⟨b1, b2⟩ := jbase_rng hok
  obtain ⟨b3, b4, b5, b6⟩ := takes_rng fs t.sign t.name
  obtain ⟨b7, b8, _, _⟩ := hok
  have htc : t.cells = [.int .i32 t.sign, .int .i64 t.n, .int .i32 t.name] := rfl
  simp only [htc] at hg2t htk e1 ⊢
  have hjt : jtok fs t s = _ := rfl
  have hturn : ∀ (x : Int) (gx : H), gx = (g1.set J (.cells [.int .i64 p, .int .i64 m, fa, .int .i64 x, pa, a'] 0)) → -100000 ≤ x ∧ x ≤ 100000 → ∃ r g', call tb prim n_check_judge_turn [.ptr J 0, .int .i32 t.sign] bar gx = some (r, g') ∧ JR g b J p m fa (out ++ [s.h]) (jturn t.sign ⟨x, s.ps⟩) r g' := fun x gx hgx hx => by
    have hset : (g1.set J (.cells [.int .i64 p, .int .i64 m, fa, .int .i64 s.h, pa, a'] 0)).set J (.cells [.int .i64 p, .int .i64 m, fa, .int .i64 x, pa, a'] 0) = gx := by
      rw [hgx]; unfold H.set; simp only; congr 1; funext j; split <;> rfl
    have hvx : JV gx b J p m fa ⟨x, s.ps⟩ (out ++ [s.h]) := ⟨pa, a', by rw [← hset]; exact hv1.seth x⟩
    have hgxn : gx.n = g.n + 3 := by rw [hgx]; simp only [n_set]; omega
    obtain ⟨r, g', q1, q2, q3, q4, q5⟩ := jturn_ok (s := ⟨x, s.ps⟩) t.sign hbb (by omega) hvx (by simp only; omega) hpre hx
    exact ⟨r, g', q1, q2, by omega, fun j hj => by rw [q4 j hj, hgx]; exact hfrb _ j hj, q5⟩
  generalize hg2 : g1.set J (.cells [.int .i64 p, .int .i64 m, fa, .int .i64 s.h, pa, a'] 0) = g2 at *
  generalize htv : takesN fs t.sign t.name = tv at *
  simp [f_check_judge_token, env0, go_sem, get_alloc, n_alloc, get_set, n_set, get_kill, n_kill, writeAt, a11, a21, a31, a41, a51, a61, a71, endP, endI, resultsA, resultA, freezeL, freezeV, AV.free.freeL, AV.free, packA, dropS]
  refine ⟨?_, ?_⟩
  · refine sees_of rfl ?_
    simp [R_nil, R_cons, RS_some, sameV_some, seesQ_some, List.take, List.take_succ_cons, List.take_zero, go_sem, get_alloc, n_alloc, get_set, n_set, get_kill, n_kill, writeAt, a11, a21, a31, a41, a51, a61, a71, hv.cell, isNil, evParts, fillA, sp10, n1, n2]
  · simp [go_sem, get_alloc, n_alloc, get_set, n_set, get_kill, n_kill, writeAt, a11, a21, a31, a41, a51, a61, a71, endP, endI, resultsA, resultA, freezeL, freezeV, AV.free.freeL, AV.free, packA, dropS, hv.cell, isNil, evParts, fillA, sp10, n1, n2, e1, hgJ, hbJ, e2.one, sp65, hg2, hcell2, hg2t]
    have hK14 : s.h ≠ -1 → tv.2.2 = true → (s.h - jbase s.ps < tv.1 ∨ 64 < s.h - tv.1 + tv.2.1) → K (.int .i64 14) g2 := fun a1 a2 a3 => by
      refine hK _ _ ?_
      have : jtok fs t s = (14, s) := by unfold jtok; rw [htv, if_neg (fun e => a1 e.1), if_neg (by simp [a2]), if_neg a1, if_pos a3]
      rw [this]
      exact ⟨rfl, by omega, fun j hj => by rw [← hg2]; exact hfrb _ j hj, fun e => by cases e⟩
    have hK22 : ¬ (s.h = -1 ∧ isEnd t.sign = false) → tv.2.2 = false → K (.int .i64 22) g2 := fun a1 a2 => by
      refine hK _ _ ?_
      have : jtok fs t s = (22, s) := by unfold jtok; rw [htv, if_neg a1, if_pos a2]
      rw [this]
      exact ⟨rfl, by omega, fun j hj => by rw [← hg2]; exact hfrb _ j hj, fun e => by cases e⟩
    by_cases a : s.h = -1
    · have ab : (s.h == -1) = true := by simpa using a
      have ab2 : (s.h != -1) = false := ne_b' a
      obtain ⟨r, g3, c1, c2⟩ := hturn s.h g2 hg2.symm (by omega)
      by_cases hE : isEnd t.sign = true
      · have hgo : tv.2.2 = true → jtok fs t s = jturn t.sign ⟨s.h, s.ps⟩ := fun a2 => by
          unfold jtok; rw [htv, if_neg (by simp [hE]), if_neg (by simp [a2]), if_pos a]
        have hE' : t.sign = 58 ∨ t.sign = 59 ∨ t.sign = 93 := by simpa [isEnd] using hE
        cases htv2 : tv.2.2 with
        | false =>
          have hk := hK22 (by simp [hE]) htv2
          rw [htv2] at htk
          rcases hE' with hE' | hE' | hE'
          all_goals
            simp only [hE'] at *
            simp [go_sem, get_alloc, n_alloc, get_set, n_set, get_kill, n_kill, writeAt, a11, a21, a31, a41, a51, a61, a71, endP, endI, resultsA, resultA, freezeL, freezeV, AV.free.freeL, AV.free, packA, dropS, isNil, hcell2, hg2t, ab, ab2, htk]
            exact ⟨_, _, ⟨rfl, rfl⟩, hk⟩
        | true =>
          have hgo := hgo htv2
          rw [hgo] at hK
          rw [htv2] at htk
          rcases hE' with hE' | hE' | hE'
          all_goals
            simp only [hE'] at *
            simp [go_sem, get_alloc, n_alloc, get_set, n_set, get_kill, n_kill, writeAt, a11, a21, a31, a41, a51, a61, a71, endP, endI, resultsA, resultA, freezeL, freezeV, AV.free.freeL, AV.free, packA, dropS, isNil, hcell2, hg2t, ab, ab2, htk, c1]
            exact ⟨_, _, ⟨rfl, rfl⟩, hK _ _ c2⟩
      · have hE0 : isEnd t.sign = false := by simpa using hE
        have hE' : ¬ (t.sign = 58 ∨ t.sign = 59 ∨ t.sign = 93) := by simpa [isEnd] using hE
        have f1 : (t.sign != 58) = true := by simp; omega
        have f2 : (t.sign != 59) = true := by simp; omega
        have f3 : (t.sign != 93) = true := by simp; omega
        have : jtok fs t s = (15, s) := by unfold jtok; rw [if_pos ⟨a, hE0⟩]
        rw [this] at hK
        simp [go_sem, get_alloc, n_alloc, get_set, n_set, get_kill, n_kill, writeAt, a11, a21, a31, a41, a51, a61, a71, endP, endI, resultsA, resultA, freezeL, freezeV, AV.free.freeL, AV.free, packA, dropS, isNil, hcell2, hg2t, ab, f1, f2, f3]
        exact ⟨_, _, ⟨rfl, rfl⟩, hK _ _ ⟨rfl, by omega, fun j hj => by rw [← hg2]; exact hfrb _ j hj, fun e => by cases e⟩⟩
    · have ab : (s.h == -1) = false := by simpa using a
      have ab2 : (s.h != -1) = true := ne_b a
      cases htv2 : tv.2.2 with
      | false =>
        have hk := hK22 (fun e => a e.1) htv2
        rw [htv2] at htk
        simp [go_sem, get_alloc, n_alloc, get_set, n_set, get_kill, n_kill, writeAt, a11, a21, a31, a41, a51, a61, a71, endP, endI, resultsA, resultA, freezeL, freezeV, AV.free.freeL, AV.free, packA, dropS, isNil, hcell2, hg2t, ab, ab2, htk]
        exact ⟨_, _, ⟨rfl, rfl⟩, hk⟩
      | true =>
        rw [htv2] at htk
        have w1 : IntKind.i64.wrap (s.h - jbase s.ps) = s.h - jbase s.ps := w64 (by omega) (by omega)
        have w2 : IntKind.i64.wrap (s.h - tv.1) = s.h - tv.1 := w64 (by omega) (by omega)
        have w3 : IntKind.i64.wrap (s.h - tv.1 + tv.2.1) = s.h - tv.1 + tv.2.1 := w64 (by omega) (by omega)
        have w4 : IntKind.i64.wrap (tv.2.1 - tv.1) = tv.2.1 - tv.1 := w64 (by omega) (by omega)
        have w5 : IntKind.i64.wrap (s.h + (tv.2.1 - tv.1)) = s.h + (tv.2.1 - tv.1) := w64 (by omega) (by omega)
        by_cases q1 : s.h - jbase s.ps < tv.1
        · simp [go_sem, get_alloc, n_alloc, get_set, n_set, get_kill, n_kill, writeAt, a11, a21, a31, a41, a51, a61, a71, endP, endI, resultsA, resultA, freezeL, freezeV, AV.free.freeL, AV.free, packA, dropS, isNil, hcell2, hg2t, ab, ab2, htk, hbase, w1, q1]
          exact ⟨_, _, ⟨rfl, rfl⟩, hK14 a htv2 (.inl q1)⟩
        · by_cases q2 : 64 < s.h - tv.1 + tv.2.1
          · simp [go_sem, get_alloc, n_alloc, get_set, n_set, get_kill, n_kill, writeAt, a11, a21, a31, a41, a51, a61, a71, endP, endI, resultsA, resultA, freezeL, freezeV, AV.free.freeL, AV.free, packA, dropS, isNil, hcell2, hg2t, ab, ab2, htk, hbase, w1, q1, w2, w3, q2]
            exact ⟨_, _, ⟨rfl, rfl⟩, hK14 a htv2 (.inr q2)⟩
          · have hgo : jtok fs t s = jturn t.sign ⟨s.h + (tv.2.1 - tv.1), s.ps⟩ := by
              unfold jtok; rw [htv, if_neg (fun e => a e.1), if_neg (by simp [htv2]), if_neg a, if_neg (by omega)]
            rw [hgo] at hK
            obtain ⟨r, g3, c1, c2⟩ := hturn (s.h + (tv.2.1 - tv.1)) (g2.set J (.cells [.int .i64 p, .int .i64 m, fa, .int .i64 (s.h + (tv.2.1 - tv.1)), pa, a'] 0)) (by rw [← hg2]; unfold H.set; simp only; congr 1; funext j; split <;> rfl) (by omega)
            have hnJ : (g2.set J (.cells [.int .i64 p, .int .i64 m, fa, .int .i64 (s.h + (tv.2.1 - tv.1)), pa, a'] 0)).get g.n = g2.get g.n := get_set_ne (by omega)
            have n3 : g.n ≠ J := by omega
            simp [go_sem, get_alloc, n_alloc, get_set, n_set, get_kill, n_kill, writeAt, a11, a21, a31, a41, a51, a61, a71, endP, endI, resultsA, resultA, freezeL, freezeV, AV.free.freeL, AV.free, packA, dropS, isNil, hcell2, hg2t, ab, ab2, htk, hbase, w1, q1, w2, w3, q2, w4, w5, hbJ, sp63, n3, c1]
            exact ⟨_, _, ⟨rfl, rfl⟩, hK _ _ c2⟩
end
end Go.Ev
namespace Go.Ev
open Go
def JGood (fs : List Fn) : List Tok → Js → Prop
  | [], s => JOk s
  | t :: r, s => JOk s ∧ s.ps.length ≤ 800 ∧ (s.h ≠ -1 → jbase s.ps ≤ s.h) ∧ jpre t.sign s.ps ∧ ((jtok fs t s).1 = 0 → JGood fs r (jtok fs t s).2)
/-- The judge's parts and the matcher's. -/
structure JRel (i : Nat) (s : Mt) (j : Js) : Prop where
  fl : j.ps.map (fun p => (p.loop, p.other)) = s.op.map fun p => (p.loop, decide (0 < p.ot))
  ot : ∀ p ∈ s.op, p.loop = true → p.ot = 0
  fr : ∀ p ∈ s.op, p.fr < i
  n16 : s.op.length ≤ 16
  h0 : -1 ≤ j.h
  h1 : j.h ≤ 64
  bs : ∀ p ∈ j.ps, 0 ≤ p.base ∧ p.base ≤ 64 ∧ -1 ≤ p.fin ∧ p.fin ≤ 64 ∧ (p.other = true → p.fin = -1 ∨ p.base ≤ p.fin)
  so : j.ps.Pairwise fun p q => p.base ≤ q.base
  al : j.h ≠ -1 → ∀ p ∈ j.ps, p.base ≤ j.h
theorem JRel.len {i : Nat} {s : Mt} {j : Js} (h : JRel i s j) : j.ps.length = s.op.length := by
  have := congrArg List.length h.fl
  simpa using this
theorem JRel.ok {i : Nat} {s : Mt} {j : Js} (h : JRel i s j) : JOk j :=
  ⟨h.h0, h.h1, fun p hp => ⟨(h.bs p hp).1, (h.bs p hp).2.1, (h.bs p hp).2.2.1, (h.bs p hp).2.2.2.1⟩, by have := h.len; have := h.n16; omega⟩
theorem lastLoop_eq {s : Mt} {j : Js} (h : j.ps.map (fun p => (p.loop, p.other)) = s.op.map fun p => (p.loop, decide (0 < p.ot))) : ∀ n, lastLoopJ j.ps n = lastLoop s.op n
  | 0 => rfl
  | n + 1 => by
    have hn := congrArg (fun l => l[n]?) h
    simp only [List.getElem?_map] at hn
    simp only [lastLoopJ, lastLoop]
    cases h1 : j.ps[n]? with
    | none => rw [h1] at hn; cases h2 : s.op[n]? with
      | none => rfl
      | some q => rw [h2] at hn; simp at hn
    | some p => rw [h1] at hn; cases h2 : s.op[n]? with
      | none => rw [h2] at hn; simp at hn
      | some q =>
        rw [h2] at hn
        simp only [Option.map_some, Option.some.injEq, Prod.mk.injEq] at hn
        simp only [hn.1]
        rw [lastLoop_eq h n]
/-- What is open innermost, in both. -/
theorem JRel.last {i : Nat} {s : Mt} {j : Js} (h : JRel i s j) {q : Pt} (hq : s.op.getLast? = some q) : ∃ p, j.ps.getLast? = some p ∧ p.loop = q.loop ∧ p.other = decide (0 < q.ot) ∧ p ∈ j.ps ∧ q ∈ s.op := by
  have hn := congrArg List.getLast? h.fl
  rw [List.getLast?_map, List.getLast?_map, hq] at hn
  cases hp : j.ps.getLast? with
  | none => rw [hp] at hn; simp at hn
  | some p =>
    rw [hp] at hn
    simp only [Option.map_some, Option.some.injEq, Prod.mk.injEq] at hn
    exact ⟨p, rfl, hn.1, hn.2, List.mem_of_getLast? hp, List.mem_of_getLast? hq⟩
theorem JRel.pre {i : Nat} {s : Mt} {j : Js} (h : JRel i s j) {sg : Int} {s' : Mt} (hs : pstep sg i s = some s') : jpre sg j.ps := by
  refine ⟨fun e => ?_, fun e => ?_, fun e => ?_, fun e => ?_⟩
  · subst e
    unfold pstep at hs
    rw [if_neg (by omega), if_neg (by omega), if_pos rfl] at hs
    cases hq : s.op.getLast? with
    | none => rw [hq] at hs; cases hs
    | some q =>
      rw [hq] at hs
      simp only at hs
      obtain ⟨p, h1, h2, h3, _⟩ := h.last hq
      split at hs
      · cases hs
      · rename_i hc
        simp at hc
        exact ⟨p, h1, by rw [h2]; exact hc.1, by rw [h3]; simp; omega⟩
  · subst e
    unfold pstep at hs
    rw [if_neg (by omega), if_neg (by omega), if_neg (by omega), if_pos rfl] at hs
    cases hq : s.op.getLast? with
    | none => rw [hq] at hs; cases hs
    | some q =>
      rw [hq] at hs
      simp only at hs
      obtain ⟨p, h1, h2, h3, _⟩ := h.last hq
      split at hs
      · cases hs
      · rename_i hc
        exact ⟨p, h1, by rw [h2]; simpa using hc⟩
  · subst e
    unfold pstep at hs
    rw [if_neg (by omega), if_neg (by omega), if_neg (by omega), if_neg (by omega), if_pos rfl] at hs
    cases hq : s.op.getLast? with
    | none => rw [hq] at hs; cases hs
    | some q =>
      rw [hq] at hs
      simp only at hs
      obtain ⟨p, h1, h2, h3, _, hm⟩ := h.last hq
      split at hs
      · rename_i hc
        exact ⟨p, h1, by rw [h2]; exact hc, by rw [h3]; simp; exact h.ot q hm hc⟩
      · cases hs
  · subst e
    unfold pstep at hs
    rw [if_neg (by omega), if_neg (by omega), if_neg (by omega), if_neg (by omega), if_neg (by omega), if_pos rfl] at hs
    cases hq : lastLoop s.op s.op.length with
    | none => rw [hq] at hs; cases hs
    | some k => exact ⟨k, by rw [lastLoop_eq h.fl, h.len, hq]⟩
theorem base_le {ps : List Jp} (so : ps.Pairwise fun p q => p.base ≤ q.base) {x : Jp} (hx : ps.getLast? = some x) : ∀ p ∈ ps, p.base ≤ x.base := fun p hp => by
  have hne : ps ≠ [] := fun e => by rw [e] at hx; cases hx
  obtain ⟨y, hy1, hy2, _, _⟩ := drop_last_split hne
  rw [hx] at hy1; injection hy1 with hy1; subst hy1
  rw [hy2] at so hp
  rw [List.pairwise_append] at so
  rw [List.mem_append] at hp
  rcases hp with hp | hp
  · exact so.2.2 p hp x (by simp)
  · simp at hp; subst hp; exact Int.le_refl _
theorem mem_drop {A : Type} {l : List A} {x : A} (h : x ∈ l.dropLast) : x ∈ l := by rw [List.dropLast_eq_take] at h; exact List.mem_of_mem_take h
theorem takes_end (fs : List Fn) {s : Int} (nm : Int) (h : isEnd s = true) : takesN fs s nm = (0, 0, true) := by
  have h' : s = 58 ∨ s = 59 ∨ s = 93 := by simpa [isEnd] using h
  exact T8 (by simp [isCtl]; omega)
theorem takes_brk (fs : List Fn) (nm : Int) : takesN fs 91 nm = (0, 0, true) ∧ takesN fs 126 nm = (0, 0, true) ∧ takesN fs 161 nm = (0, 0, true) ∧ takesN fs 63 nm = (1, 0, true) := ⟨T8 (by decide), T8 (by decide), T8 (by decide), T7 rfl⟩
/-- The turn keeps the two together. -/
theorem JRel.turn {i : Nat} {s : Mt} {j : Js} {h : Int} (hr : JRel i s j) {sg : Int} {s' : Mt} (hs : pstep sg i s = some s') (hh0 : -1 ≤ h) (hh1 : h ≤ 64) (hal : h ≠ -1 → ∀ p ∈ j.ps, p.base ≤ h) (hd : isEnd sg = false → h ≠ -1) (h0 : (jturn sg ⟨h, j.ps⟩).1 = 0) : JRel (i + 1) s' (jturn sg ⟨h, j.ps⟩).2 := by
  have hpre := hr.pre hs
  have fr1 : ∀ p ∈ s.op, p.fr < i + 1 := fun p hp => by have := hr.fr p hp; omega
  unfold pstep at hs
  unfold jturn at h0 ⊢
  by_cases c1 : sg = 63 ∨ sg = 91
  · rw [if_pos c1] at h0 ⊢
    have hne : h ≠ -1 := hd (by simp [isEnd]; omega)
    have hfin : ∀ lp : Bool, lp = (sg == 91) → s.op.length + 1 ≤ 16 → JRel (i + 1) ⟨s.to, s.op ++ [⟨lp, i, 0, []⟩], max s.deep (s.op.length + 1)⟩ ⟨h, j.ps ++ [⟨sg == 91, false, false, h, 0⟩]⟩ := fun lp hlp h16 => {
      fl := by simp [hr.fl, hlp]
      ot := fun p hp hl => by
        rw [List.mem_append] at hp
        rcases hp with hp | hp
        · exact hr.ot p hp hl
        · simp at hp; subst hp; rfl
      fr := fun p hp => by
        rw [List.mem_append] at hp
        rcases hp with hp | hp
        · exact fr1 p hp
        · simp at hp; subst hp; simp
      n16 := by simp; omega
      h0 := hh0
      h1 := hh1
      bs := fun p hp => by
        rw [List.mem_append] at hp
        rcases hp with hp | hp
        · exact hr.bs p hp
        · simp at hp; subst hp; simp only; exact ⟨by omega, hh1, by omega, by omega, fun e => by cases e⟩
      so := by
        rw [List.pairwise_append]
        exact ⟨hr.so, List.pairwise_singleton _ _, fun p hp q hq => by simp at hq; subst hq; exact hal hne p hp⟩
      al := fun _ p hp => by
        rw [List.mem_append] at hp
        rcases hp with hp | hp
        · exact hal hne p hp
        · simp at hp; subst hp; exact Int.le_refl _ }
    rcases c1 with rfl | rfl
    · rw [if_pos rfl] at hs
      split at hs
      · rename_i h16
        injection hs with hs; subst hs
        exact hfin false rfl h16
      · cases hs
    · rw [if_neg (by omega), if_pos rfl] at hs
      split at hs
      · rename_i h16
        injection hs with hs; subst hs
        exact hfin true rfl h16
      · cases hs
  rw [if_neg (by omega), if_neg (by omega)] at hs
  rw [if_neg c1] at h0 ⊢
  by_cases c2 : sg = 58
  · rw [if_pos c2] at hs h0 ⊢
    cases hq : s.op.getLast? with
    | none => rw [hq] at hs; cases hs
    | some q =>
      rw [hq] at hs
      obtain ⟨p, e1, e2, e3, e4, e5⟩ := hr.last hq
      simp only [e1] at h0 ⊢
      simp only at hs
      split at hs
      · cases hs
      · rename_i hc
        simp at hc
        injection hs with hs; subst hs
        have hi0 : 0 < i := by have := hr.fr q e5; omega
        have hpb := hr.bs p e4
        have hlj : j.ps[j.ps.length - 1]? = some p := by rw [← List.getLast?_eq_getElem?]; exact e1
        refine { fl := ?_, ot := fun x hx hl => ?_, fr := fun x hx => ?_, n16 := by simp only [List.length_set]; exact hr.n16, h0 := by simp only; omega, h1 := by simp only; omega, bs := fun x hx => ?_, so := ?_, al := fun _ x hx => ?_ }
        · simp only [List.map_set, hr.fl, hr.len]
          simp [e2, hi0]
        · rcases List.mem_or_eq_of_mem_set hx with hx | rfl
          · exact hr.ot x hx hl
          · rw [hc.1] at hl; cases hl
        · rcases List.mem_or_eq_of_mem_set hx with hx | rfl
          · exact fr1 x hx
          · exact fr1 q e5
        · rcases List.mem_or_eq_of_mem_set hx with hx | rfl
          · exact hr.bs x hx
          · refine ⟨hpb.1, hpb.2.1, hh0, hh1, fun _ => ?_⟩
            by_cases ch : h = -1
            · exact .inl ch
            · exact .inr (hal ch p e4)
        · have hm : (j.ps.set (j.ps.length - 1) ⟨p.loop, true, p.left, p.base, h⟩).map Jp.base = j.ps.map Jp.base := by
            rw [List.map_set]
            apply List.ext_getElem?
            intro k
            rw [List.getElem?_set]
            split
            · rename_i e; subst e
              split
              · rw [List.getElem?_map, hlj]; rfl
              · rename_i hh; simp at hh; rw [List.getElem?_map, hlj]; simp [List.getElem?_eq_none_iff.mpr hh] at hlj
            · rfl
          have h3 : (j.ps.map Jp.base).Pairwise (· ≤ ·) := List.pairwise_map.mpr hr.so
          rw [← hm] at h3
          exact List.pairwise_map.mp h3
        · simp only
          rcases List.mem_or_eq_of_mem_set hx with hx | rfl
          · exact base_le hr.so e1 x hx
          · exact Int.le_refl _
  rw [if_neg c2] at hs h0 ⊢
  have hdrop : ∀ {q : Pt} {x : Int} {to : List Int}, s.op.getLast? = some q → -1 ≤ x → x ≤ 64 → (x ≠ -1 → ∀ p ∈ j.ps.dropLast, p.base ≤ x) → JRel (i + 1) ⟨to, s.op.dropLast, s.deep⟩ ⟨x, j.ps.dropLast⟩ := fun {q x to} hq g1 g2 g3 => {
    fl := by simp only [List.map_dropLast, hr.fl]
    ot := fun p hp => hr.ot p (mem_drop hp)
    fr := fun p hp => fr1 p (mem_drop hp)
    n16 := by simp only [List.length_dropLast]; have := hr.n16; omega
    h0 := g1
    h1 := g2
    bs := fun p hp => hr.bs p (mem_drop hp)
    so := hr.so.sublist (List.dropLast_sublist _)
    al := g3 }
  by_cases c3 : sg = 59
  · rw [if_pos c3] at hs h0 ⊢
    cases hq : s.op.getLast? with
    | none => rw [hq] at hs; cases hs
    | some q =>
      rw [hq] at hs
      obtain ⟨p, e1, e2, e3, e4, e5⟩ := hr.last hq
      have hpb := hr.bs p e4
      have hbl := base_le hr.so e1
      simp only [e1] at h0 ⊢
      simp only at hs
      split at hs
      · cases hs
      · injection hs with hs; subst hs
        by_cases co : p.other = true
        · rw [if_pos co] at h0 ⊢
          split at h0
          · cases h0
          · rename_i hc
            rw [if_neg hc]
            refine hdrop hq (by omega) (by omega) (fun hx y hy => ?_)
            have hy1 := hbl y (mem_drop hy)
            by_cases ch : h = -1
            · rcases hpb.2.2.2.2 co with hf | hf <;> omega
            · have := hal ch y (mem_drop hy); omega
        · rw [if_neg co] at h0 ⊢
          split at h0
          · cases h0
          · rename_i hc
            rw [if_neg hc]
            exact hdrop hq (by omega) (by omega) (fun _ y hy => hbl y (mem_drop hy))
  rw [if_neg c3] at hs h0 ⊢
  by_cases c4 : sg = 93
  · rw [if_pos c4] at hs h0 ⊢
    cases hq : s.op.getLast? with
    | none => rw [hq] at hs; cases hs
    | some q =>
      rw [hq] at hs
      obtain ⟨p, e1, e2, e3, e4, e5⟩ := hr.last hq
      have hpb := hr.bs p e4
      have hbl := base_le hr.so e1
      simp only [e1] at h0 ⊢
      simp only at hs
      split at hs
      · injection hs with hs; subst hs
        split at h0
        · cases h0
        · rename_i hc
          rw [if_neg hc]
          refine hdrop hq ?_ ?_ (fun hx y hy => ?_)
          · split <;> omega
          · split <;> omega
          · split
            · exact hbl y (mem_drop hy)
            · rename_i hl; simp only [hl] at hx; exact absurd rfl hx
      · cases hs
  rw [if_neg c4] at hs h0 ⊢
  by_cases c5 : sg = 126
  · rw [if_pos c5] at hs h0 ⊢
    cases hk : lastLoop s.op s.op.length with
    | none => rw [hk] at hs; cases hs
    | some k =>
      have hkj : lastLoopJ j.ps j.ps.length = some k := by rw [lastLoop_eq hr.fl, hr.len, hk]
      obtain ⟨hk1, pj, hpj, hlj⟩ := lastLoopJ_some _ _ _ hkj
      rw [hk] at hs
      simp only [hkj, hpj] at h0 ⊢
      simp only at hs
      obtain ⟨_, q, hq, hlq⟩ := lastLoop_some _ _ _ hk
      rw [hq] at hs
      simp only at hs
      injection hs with hs; subst hs
      split at h0
      · cases h0
      · rename_i hc
        rw [if_neg hc]
        have hflk := congrArg (fun l => l[k]?) hr.fl
        simp only [List.getElem?_map, hpj, hq, Option.map_some, Option.some.injEq, Prod.mk.injEq] at hflk
        refine { fl := ?_, ot := fun x hx hl => ?_, fr := fun x hx => ?_, n16 := by simp only [List.length_set]; exact hr.n16, h0 := by simp only; omega, h1 := by simp only; omega, bs := fun x hx => ?_, so := ?_, al := fun e => absurd rfl e }
        · simp only [List.map_set, hr.fl]
          simp [hflk]
        · rcases List.mem_or_eq_of_mem_set hx with hx | rfl
          · exact hr.ot x hx hl
          · exact hr.ot q (List.mem_of_getElem? hq) hl
        · rcases List.mem_or_eq_of_mem_set hx with hx | rfl
          · exact fr1 x hx
          · exact fr1 q (List.mem_of_getElem? hq)
        · rcases List.mem_or_eq_of_mem_set hx with hx | rfl
          · exact hr.bs x hx
          · exact hr.bs pj (List.mem_of_getElem? hpj)
        · have hm : (j.ps.set k ⟨pj.loop, pj.other, true, pj.base, pj.fin⟩).map Jp.base = j.ps.map Jp.base := by
            rw [List.map_set]
            apply List.ext_getElem?
            intro k'
            rw [List.getElem?_set]
            split
            · rename_i e; subst e
              split
              · rw [List.getElem?_map, hpj]; rfl
              · rename_i hh; simp at hh; omega
            · rfl
          have h3 : (j.ps.map Jp.base).Pairwise (· ≤ ·) := List.pairwise_map.mpr hr.so
          rw [← hm] at h3
          exact List.pairwise_map.mp h3
  rw [if_neg c5] at hs h0 ⊢
  injection hs with hs; subst hs
  have hsame : ∀ x : Int, -1 ≤ x → x ≤ 64 → (x ≠ -1 → ∀ p ∈ j.ps, p.base ≤ x) → JRel (i + 1) s ⟨x, j.ps⟩ := fun x g1 g2 g3 => { fl := hr.fl, ot := hr.ot, fr := fr1, n16 := hr.n16, h0 := g1, h1 := g2, bs := hr.bs, so := hr.so, al := g3 }
  by_cases c6 : sg = 161
  · rw [if_pos c6]
    exact hsame (-1) (by omega) (by omega) (fun e => absurd rfl e)
  · rw [if_neg c6]
    exact hsame h hh0 hh1 hal
theorem JRel.jb {i : Nat} {s : Mt} {j : Js} (hr : JRel i s j) (h : j.h ≠ -1) : jbase j.ps ≤ j.h := by
  unfold jbase
  cases hx : j.ps.getLast? with
  | none => have := hr.h0; simp only; omega
  | some x => exact hr.al h x (List.mem_of_getLast? hx)
theorem JRel.tok {i : Nat} {s : Mt} {j : Js} (hr : JRel i s j) (fs : List Fn) (t : Tok) {s' : Mt} (hs : pstep t.sign i s = some s') (h0 : (jtok fs t j).1 = 0) : JRel (i + 1) s' (jtok fs t j).2 := by
  have hjb := hr.jb
  have hh0 := hr.h0
  have hh1 := hr.h1
  obtain ⟨b3, b4, b5, b6⟩ := takes_rng fs t.sign t.name
  unfold jtok at h0 ⊢
  split at h0
  · cases h0
  rename_i c1
  rw [if_neg c1]
  split at h0
  · cases h0
  rename_i c2
  rw [if_neg c2]
  split at h0
  · rename_i c3
    rw [if_pos c3]
    have := hr.turn (h := j.h) hs hh0 hh1 hr.al (fun e => absurd ⟨c3, e⟩ c1) h0
    exact this
  · rename_i c3
    rw [if_neg c3]
    split at h0
    · cases h0
    · rename_i c4
      rw [if_neg c4]
      have hb := hjb c3
      have hjb0 : 0 ≤ jbase j.ps := (jbase_rng hr.ok).1
      refine hr.turn (h := j.h + ((takesN fs t.sign t.name).2.1 - (takesN fs t.sign t.name).1)) hs (by omega) (by omega) (fun _ p hp => ?_) (fun _ => by omega) h0
      have : p.base ≤ jbase j.ps := by
        unfold jbase
        cases hx : j.ps.getLast? with
        | none => rw [List.getLast?_eq_none_iff] at hx; rw [hx] at hp; cases hp
        | some x => exact base_le hr.so hx p hp
      omega
theorem nest_good (fs : List Fn) (l : List Tok) : ∀ (k i : Nat) (s : Mt) (j : Js) (s' : Mt), l.length = i + k → ploop l k i s = some s' → JRel i s j → JGood fs (l.drop i) j := by
  intro k
  induction k with
  | zero => intro i s j s' hl hp hr; rw [List.drop_eq_nil_of_le (by omega)]; exact hr.ok
  | succ k ih =>
    intro i s j s' hl hp hr
    have hi : i < l.length := by omega
    rw [List.drop_eq_getElem_cons hi]
    have hsg : sgn l i = l[i].sign := by simp [sgn, hi]
    simp only [ploop, hsg] at hp
    cases hs : pstep l[i].sign i s with
    | none => rw [hs] at hp; cases hp
    | some s2 =>
      rw [hs] at hp
      refine ⟨hr.ok, by have := hr.len; have := hr.n16; omega, hr.jb, hr.pre hs, fun h0 => ?_⟩
      exact ih (i + 1) s2 _ s' (by omega) hp (hr.tok fs l[i] hs h0)
theorem nestP_good (fs : List Fn) (l : List Tok) {to : List Int} (h : nestP l = some to) : JGood fs l ⟨0, []⟩ := by
  unfold nestP at h
  cases hp : ploop l l.length 0 ⟨List.replicate l.length (-1), [], 0⟩ with
  | none => rw [hp] at h; cases h
  | some s =>
    have := nest_good fs l l.length 0 _ ⟨0, []⟩ s (by omega) hp { fl := rfl, ot := by simp, fr := by simp, n16 := by simp, h0 := by simp, h1 := by simp, bs := by simp, so := List.Pairwise.nil, al := by simp }
    simpa using this
end Go.Ev
