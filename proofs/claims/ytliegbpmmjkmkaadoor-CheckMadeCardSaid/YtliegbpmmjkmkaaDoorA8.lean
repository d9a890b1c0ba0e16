/- What the program's nesting comes to; nothing is assumed. -/
import Derived.Test.YtliegbpmmjkmkaaDoorA7
set_option linter.unusedSimpArgs false
set_option linter.unusedVariables false
set_option linter.all false
namespace Go.Ev
open Go
structure Pt where
  loop : Bool
  fr : Nat
  ot : Nat
  leaves : List Nat
structure Mt where
  to : List Int
  op : List Pt
  deep : Nat
/-- A part with the slice that its leaves stand in. -/
structure Pa where
  p : Pt
  lv : AV
def Pa.c (x : Pa) : List AV := [.bool x.p.loop, .int .i64 (x.p.fr : Nat), .int .i64 (x.p.ot : Nat), x.lv]
theorem Pa.c_len (x : Pa) : x.c.length = 4 := rfl
def setAll (v : Int) : List Nat → List Int → List Int
  | [], to => to
  | k :: r, to => setAll v r (to.set k v)
theorem setAll_len (v : Int) : ∀ (l : List Nat) (to : List Int), (setAll v l to).length = to.length
  | [], to => rfl
  | k :: r, to => by rw [setAll, setAll_len v r, List.length_set]
/-- The innermost loop's place. -/
def lastLoop : List Pt → Nat → Option Nat
  | _, 0 => none
  | op, k + 1 => match op[k]? with | some p => if p.loop then some k else lastLoop op k | none => none
def pstep (sg : Int) (i : Nat) (s : Mt) : Option Mt :=
  if sg = 63 then (if s.op.length + 1 ≤ 16 then some ⟨s.to, s.op ++ [⟨false, i, 0, []⟩], max s.deep (s.op.length + 1)⟩ else none) else
  if sg = 91 then (if s.op.length + 1 ≤ 16 then some ⟨s.to, s.op ++ [⟨true, i, 0, []⟩], max s.deep (s.op.length + 1)⟩ else none) else
  if sg = 58 then (match s.op.getLast? with | none => none | some p => if p.loop || decide (0 < p.ot) then none else some ⟨s.to.set p.fr (i + 1 : Nat), s.op.set (s.op.length - 1) ⟨p.loop, p.fr, i, p.leaves⟩, s.deep⟩) else
  if sg = 59 then (match s.op.getLast? with | none => none | some p => if p.loop then none else some ⟨s.to.set (if 0 < p.ot then p.ot else p.fr) i, s.op.dropLast, s.deep⟩) else
  if sg = 93 then (match s.op.getLast? with | none => none | some p => if p.loop then some ⟨setAll (i + 1 : Nat) p.leaves (s.to.set i p.fr), s.op.dropLast, s.deep⟩ else none) else
  if sg = 126 then (match lastLoop s.op s.op.length with | none => none | some k => match s.op[k]? with | some p => some ⟨s.to, s.op.set k ⟨p.loop, p.fr, p.ot, p.leaves ++ [i]⟩, s.deep⟩ | none => none) else
  some s
def LV (g : H) (b M tid : Nat) (oa : AV) (x : Pa) : Prop := OS 1 g b x.lv x.p.leaves.length (x.p.leaves.flatMap n64c) ∧ ¬ x.lv.isAt M ∧ ¬ x.lv.isAt tid ∧ oa.apart x.lv
def PtOk (N : Nat) (p : Pt) : Prop := p.fr < N ∧ p.ot < N ∧ (∀ k ∈ p.leaves, k < N) ∧ p.leaves.length ≤ N
structure MVp (g : H) (b M tid : Nat) (s : Mt) (oa : AV) (ps : List Pa) : Prop where
  cell : g.get M = some (.cells [.sl tid 0 1 s.to.length true, oa, .int .i64 (s.deep : Nat)] 0)
  bM : b ≤ M
  Mn : M < g.n
  ne : tid ≠ M
  to : TOV g b (.sl tid 0 1 s.to.length true) tid s.to
  os : OS 4 g b oa ps.length (ps.flatMap Pa.c)
  oM : ¬ oa.isAt M
  ot : ¬ oa.isAt tid
  map : s.op = ps.map Pa.p
  lv : ∀ x ∈ ps, LV g b M tid oa x
  pw : ps.Pairwise fun x y => x.lv.apart y.lv
  ok : ∀ p ∈ s.op, PtOk s.to.length p
  dn : s.op.length ≤ 1000
/-- A matcher that stands in object M. -/
def MV (g : H) (b M tid : Nat) (s : Mt) : Prop := ∃ oa ps, MVp g b M tid s oa ps
theorem LV.mono {g g' : H} {b M tid : Nat} {oa : AV} {x : Pa} (v : LV g b M tid oa x) (hn : g.n ≤ g'.n) (hf : ∀ j, j < g.n → j ≠ M → j ≠ tid → ¬ oa.isAt j → g'.get j = g.get j) : LV g' b M tid oa x :=
  ⟨v.1.mono hn (fun j hj => hf j (v.1.at_lt hj).2 (fun e => v.2.1 (e ▸ hj)) (fun e => v.2.2.1 (e ▸ hj)) (fun hj2 => v.2.2.2 j hj2 hj)), v.2⟩
section
variable {pr : Oracle} {bar b : Nat} {g : H}
theorem top_ok (M tid : Nat) (s : Mt) (oa : AV) (ps : List Pa) (hv : MVp g b M tid s oa ps) : ∃ r, call tb pr n_nest_matcher_top [.ptr M 0] bar g = some (r, g) ∧ ((s.op = [] ∧ ps = [] ∧ r = .nilptr) ∨ ∃ id, ps ≠ [] ∧ oa = .sl id 0 4 ps.length false ∧ r = .ptr id ((ps.length - 1) * 4)) := by
  suffices hw : ∃ r h', callF (call tb pr) f_nest_matcher_top [.ptr M 0] bar g = some (r, h') ∧ h' = g ∧ ((s.op = [] ∧ ps = [] ∧ r = .nilptr) ∨ ∃ id, ps ≠ [] ∧ oa = .sl id 0 4 ps.length false ∧ r = .ptr id ((ps.length - 1) * 4)) by
    obtain ⟨r, h', h1, rfl, h2⟩ := hw; exact ⟨r, call_of tb_nest_matcher_top h1, h2⟩
  refine callF_K rfl rfl fun K hK => ?_
  by_cases hne : ps = []
  · have h0 : ps.length = 0 := by rw [hne]; rfl
    have hs : s.op = [] := by rw [hv.map, hne]; rfl
    simp [f_nest_matcher_top, env0, go_sem, endP, endI, resultsA, resultA, freezeL, freezeV, AV.free.freeL, AV.free, packA, dropS, hv.cell, isNil, hv.os.len, h0]
    exact ⟨_, _, ⟨rfl, rfl⟩, hK _ _ ⟨rfl, .inl ⟨hs, hne, rfl⟩⟩⟩
  · obtain ⟨id, all, rfl, e1, e2, e3, e4, e5, e6, e7⟩ := hv.os.elems Pa.c_len hne
    have hpos := List.length_pos_iff.mpr hne
    have hdn := hv.dn
    have hlen : s.op.length = ps.length := by rw [hv.map, List.length_map]
    have h0 : ((ps.length : Int) == 0) = false := by simp; omega
    have hw : IntKind.i64.wrap ((ps.length : Int) - 1) = ((ps.length - 1 : Nat) : Int) := by rw [w64 (by omega) (by omega)]; omega
    have h1 : ps.length - 1 < ps.length := by omega
    have h2 : ((ps.length - 1 : Nat) : Int) < (ps.length : Int) := by omega
    simp [f_nest_matcher_top, env0, go_sem, endP, endI, resultsA, resultA, freezeL, freezeV, AV.free.freeL, AV.free, packA, dropS, hv.cell, isNil, h0, hw, indexIn, h1, h2]
    exact ⟨_, _, ⟨rfl, rfl⟩, hK _ _ ⟨rfl, .inr ⟨id, hne, rfl, rfl⟩⟩⟩
theorem PtOk.mono {N N' : Nat} {p : Pt} (h : PtOk N p) (hn : N = N') : PtOk N' p := hn ▸ h
theorem begin_ok (M tid : Nat) (s : Mt) (i : Nat) (lp : Bool) (hb : b ≤ g.n) (hbb : bar ≤ b) (hi : i < s.to.length) (hl : s.op.length ≤ 900) (hto : s.to.length ≤ 100000) (hv : MV g b M tid s) : ∃ r g', call tb pr n_nest_matcher_begin [.ptr M 0, .int .i64 (i : Nat), .bool lp] bar g = some (r, g') ∧ g.n ≤ g'.n ∧ (∀ j, j < b → g'.get j = g.get j) ∧
    r = .bool (decide (s.op.length + 1 ≤ 16)) ∧ MV g' b M tid ⟨s.to, s.op ++ [⟨lp, i, 0, []⟩], max s.deep (s.op.length + 1)⟩ := by
  suffices hw : ∃ r g', callF (call tb pr) f_nest_matcher_begin [.ptr M 0, .int .i64 (i : Nat), .bool lp] bar g = some (r, g') ∧ (g.n ≤ g'.n ∧ (∀ j, j < b → g'.get j = g.get j) ∧
    r = .bool (decide (s.op.length + 1 ≤ 16)) ∧ MV g' b M tid ⟨s.to, s.op ++ [⟨lp, i, 0, []⟩], max s.deep (s.op.length + 1)⟩) by
    obtain ⟨r, h', h1, h2⟩ := hw; exact ⟨r, h', call_of tb_nest_matcher_begin h1, h2⟩
  refine callF_K rfl rfl fun K hK => ?_
  obtain ⟨oa, ps, hv⟩ := hv
  have hlen : s.op.length = ps.length := by rw [hv.map, List.length_map]
  obtain ⟨a', g', e1, e2, e3, e4, e5⟩ := hv.os.app' hb hbb 48 (Pa.c ⟨⟨lp, i, 0, []⟩, .nilsl⟩) rfl rfl (by omega) (by omega) (by omega)
  simp only [Pa.c, Int.natCast_zero] at e1
  have hMb : bar ≤ M := Nat.le_trans hbb hv.bM
  have hgM : g'.get M = some (.cells [.sl tid 0 1 s.to.length true, oa, .int .i64 (s.deep : Nat)] 0) := by rw [e4 M hv.Mn hv.oM]; exact hv.cell
  have hcm : (if ((ps.length : Int) + 1) > (s.deep : Int) then ((ps.length : Int) + 1) else (s.deep : Int)) = ((max s.deep (s.op.length + 1) : Nat) : Int) := by
    rw [hlen]; split <;> omega
  have hoM : ¬ a'.isAt M := fun hj => by have := e5 _ hj; have := hv.Mn; omega
  have hot : ¬ a'.isAt tid := fun hj => by have := e5 _ hj; have := hv.to.2.2.1; omega
  have hfr : ∀ c d, ∀ j, j < g.n → j ≠ M → ¬ oa.isAt j → ((g'.set M c).set M d).get j = g.get j := fun c d j h1 h2 h3 => by
    rw [get_set_ne h2, get_set_ne h2, e4 j h1 h3]
  have h16 : ((ps.length : Int) + 1 ≤ 16) = (s.op.length + 1 ≤ 16) := by rw [hlen, eq_iff_iff]; omega
  simp [f_nest_matcher_begin, env0, go_sem, endP, endI, resultsA, resultA, freezeL, freezeV, AV.free.freeL, AV.free, packA, dropS, get_alloc, n_alloc, get_set, n_set, get_kill, n_kill, writeAt, a11, a21, a31, a41, a51, a61, a71, hv.cell, isNil, evParts, fillA, splice, e1, hgM, hMb, e2.one, hv.os.one, e2.len, hcm, h16, hv.to.1]
  refine ⟨_, _, ⟨rfl, rfl⟩, hK _ _ ⟨by simp only [n_set]; omega, fun j hj => hfr _ _ j (by omega) (by have := hv.bM; omega) (fun hj2 => by have := hv.os.at_lt hj2; omega), by simp [packA], a', ps ++ [⟨⟨lp, i, 0, []⟩, .nilsl⟩], ?_⟩⟩
  have hn3 : g.n + 2 = g'.n := e3.symm
  exact {
    cell := by rw [get_set, if_pos rfl]
    bM := hv.bM
    Mn := by have := hv.Mn; simp only [n_set]; omega
    ne := hv.ne
    to := hv.to.mono (by simp only [n_set]; omega) (hfr _ _ tid hv.to.2.2.1 hv.ne hv.ot)
    os := by
      have := (e2.set (.cells [.sl tid 0 1 s.to.length true, a', .int .i64 (s.deep : Nat)] 0) hoM).set (.cells [.sl tid 0 1 s.to.length true, a', .int .i64 (max s.deep (s.op.length + 1) : Nat)] 0) hoM
      simpa [Pa.c] using this
    oM := hoM
    ot := hot
    map := by simp [hv.map]
    lv := fun x hx => by
      rw [List.mem_append] at hx
      rcases hx with hx | hx
      · have hL := hv.lv x hx
        have h2 := hL.mono (g' := (g'.set M (.cells [.sl tid 0 1 s.to.length true, a', .int .i64 (s.deep : Nat)] 0)).set M (.cells [.sl tid 0 1 s.to.length true, a', .int .i64 (max s.deep (s.op.length + 1) : Nat)] 0)) (by simp only [n_set]; omega) (fun j q1 q2 q3 q4 => hfr _ _ j q1 q2 q4)
        exact ⟨h2.1, h2.2.1, h2.2.2.1, fun j q1 q2 => by have := e5 _ q1; have := hL.1.at_lt q2; omega⟩
      · simp at hx; subst hx
        exact ⟨OS.nil, fun h => h, fun h => h, fun j q1 q2 => q2⟩
    pw := by
      rw [List.pairwise_append]
      exact ⟨hv.pw, List.pairwise_singleton _ _, fun x hx y hy => by simp at hy; subst hy; exact fun j q1 q2 => q2⟩
    ok := fun p hp => by
      rw [List.mem_append] at hp
      rcases hp with hp | hp
      · exact hv.ok p hp
      · simp at hp; subst hp
        exact ⟨hi, by show 0 < s.to.length; omega, by simp, Nat.zero_le _⟩
    dn := by simp; omega }
/-- What is open innermost, as it stands in memory. -/
theorem MVp.last {M tid : Nat} {s : Mt} {oa : AV} {ps : List Pa} (hv : MVp g b M tid s oa ps) (hne : ps ≠ []) : ∃ id all x, oa = .sl id 0 4 ps.length false ∧ b ≤ id ∧ id < g.n ∧ g.get id = some (.cells all 0) ∧ id ≠ M ∧ id ≠ tid ∧
    ps[ps.length - 1]? = some x ∧ x ∈ ps ∧ s.op.getLast? = some x.p ∧ s.op.length = ps.length ∧ (ps.length - 1) * 4 + 4 ≤ all.length ∧
    (all[(ps.length - 1) * 4]? = some (.bool x.p.loop) ∧ all[(ps.length - 1) * 4 + 1]? = some (.int .i64 (x.p.fr : Nat)) ∧ all[(ps.length - 1) * 4 + 2]? = some (.int .i64 (x.p.ot : Nat)) ∧ all[(ps.length - 1) * 4 + 3]? = some x.lv) ∧
    (∀ h : H, g.n ≤ h.n → h.get id = g.get id → OS 4 h b (.sl id 0 4 (ps.length - 1) false) ps.dropLast.length (ps.dropLast.flatMap Pa.c)) ∧
    (∀ i x x' f vs (h : H), ps[i]? = some x → f + vs.length ≤ 4 → Pa.c x' = splice (Pa.c x) f vs → (Pa.c x').all AV.one = true → g.n ≤ h.n → h.get id = some (.cells (splice all (i * 4 + f) vs) 0) → OS 4 h b oa (ps.set i x').length ((ps.set i x').flatMap Pa.c)) ∧
    (∀ i x, ps[i]? = some x → i * 4 + 4 ≤ all.length ∧ all[i * 4]? = some (.bool x.p.loop) ∧ all[i * 4 + 1]? = some (.int .i64 (x.p.fr : Nat)) ∧ all[i * 4 + 2]? = some (.int .i64 (x.p.ot : Nat)) ∧ all[i * 4 + 3]? = some x.lv) := by
  obtain ⟨id, all, hoa, e1, e2, e3, e4, e5, e6, e7⟩ := hv.os.elems Pa.c_len hne
  obtain ⟨x, hx1, hx2, hx3, hx4⟩ := drop_last_split hne
  have hM := hv.oM
  have hT := hv.ot
  rw [hoa] at hM hT
  have hall : ∀ i x, ps[i]? = some x → i * 4 + 4 ≤ all.length ∧ all[i * 4]? = some (.bool x.p.loop) ∧ all[i * 4 + 1]? = some (.int .i64 (x.p.fr : Nat)) ∧ all[i * 4 + 2]? = some (.int .i64 (x.p.ot : Nat)) ∧ all[i * 4 + 3]? = some x.lv := fun i x hx => by
    obtain ⟨hi, _⟩ := List.getElem?_eq_some_iff.mp hx
    exact ⟨by omega, e5 i x 0 hx (by omega), e5 i x 1 hx (by omega), e5 i x 2 hx (by omega), e5 i x 3 hx (by omega)⟩
  refine ⟨id, all, x, hoa, e1, e2, e3, hM, hT, hx3, ?_, ?_, by rw [hv.map, List.length_map], (hall _ _ hx3).1, (hall _ _ hx3).2, e6, e7, hall⟩
  · exact List.mem_of_getElem? hx3
  · rw [hv.map, List.getLast?_map, hx1]; rfl
theorem MVp.upd {M tid : Nat} {s : Mt} {oa : AV} {ps : List Pa} (hv : MVp g b M tid s oa ps) {h : H} {s' : Mt} {oa' : AV} {ps' : List Pa}
    (hcell : h.get M = some (.cells [.sl tid 0 1 s'.to.length true, oa', .int .i64 (s'.deep : Nat)] 0)) (hn : g.n ≤ h.n) (hto : TOV h b (.sl tid 0 1 s'.to.length true) tid s'.to) (hlen : s'.to.length = s.to.length)
    (hos : OS 4 h b oa' ps'.length (ps'.flatMap Pa.c)) (hoM : ¬ oa'.isAt M) (hot : ¬ oa'.isAt tid) (hmap : s'.op = ps'.map Pa.p) (hsub : ∀ x ∈ ps', ∃ y ∈ ps, y.lv = x.lv ∧ y.p.leaves = x.p.leaves)
    (hpw : ps'.Pairwise fun x y => x.lv.apart y.lv) (hap : ∀ j, oa'.isAt j → oa.isAt j) (hfr : ∀ j, j < g.n → j ≠ M → j ≠ tid → ¬ oa.isAt j → h.get j = g.get j) (hok : ∀ p ∈ s'.op, PtOk s.to.length p) (hdn : s'.op.length ≤ 1000) : MVp h b M tid s' oa' ps' where
  cell := hcell
  bM := hv.bM
  Mn := by have := hv.Mn; omega
  ne := hv.ne
  to := hto
  os := hos
  oM := hoM
  ot := hot
  map := hmap
  lv := fun x hx => by
    obtain ⟨y, hy, e1, e2⟩ := hsub x hx
    have h1 := (hv.lv y hy).mono hn hfr
    unfold LV at h1
    rw [e1, e2] at h1
    exact ⟨h1.1, h1.2.1, h1.2.2.1, fun j q1 q2 => h1.2.2.2 j (hap j q1) q2⟩
  pw := hpw
  ok := fun p hp => hlen ▸ hok p hp
  dn := hdn
theorem set_sub {ps : List Pa} {i : Nat} {x x' : Pa} (hx : ps[i]? = some x) (h1 : x'.lv = x.lv) (h2 : x'.p.leaves = x.p.leaves) : (∀ y ∈ ps.set i x', ∃ z ∈ ps, z.lv = y.lv ∧ z.p.leaves = y.p.leaves) ∧ ((ps.Pairwise fun x y => x.lv.apart y.lv) → (ps.set i x').Pairwise fun x y => x.lv.apart y.lv) := by
  refine ⟨fun y hy => ?_, fun hp => ?_⟩
  · rcases List.mem_or_eq_of_mem_set hy with hy | rfl
    · exact ⟨y, hy, rfl, rfl⟩
    · exact ⟨x, List.mem_of_getElem? hx, h1.symm, h2.symm⟩
  · have hm : (ps.set i x').map Pa.lv = ps.map Pa.lv := by
      rw [List.map_set, h1]
      apply List.ext_getElem?
      intro j
      rw [List.getElem?_set]
      split
      · rename_i e; subst e
        split
        · rw [List.getElem?_map, hx]; rfl
        · rename_i h; simp at h; rw [List.getElem?_map, hx] ; simp [List.getElem?_eq_none_iff.mpr h] at hx
      · rfl
    have h3 : (ps.map Pa.lv).Pairwise AV.apart := List.pairwise_map.mpr hp
    rw [← hm] at h3
    exact List.pairwise_map.mp h3
theorem pos_facts {n : Nat} (h : 0 < n) (hn : n ≤ 1000) : IntKind.i64.wrap ((n : Int) - 1) = ((n - 1 : Nat) : Int) ∧ n - 1 < n ∧ ((n - 1 : Nat) : Int) < (n : Int) ∧ ((n : Int) == 0) = false ∧ 0 ≤ (n : Int) - 1 ∧ ((n : Int) - 1).toNat = n - 1 ∧ n - 1 ≤ n :=
  ⟨by rw [w64 (by omega) (by omega)]; omega, by omega, by omega, by simp; omega, by omega, by omega, by omega⟩
theorem other_ok (M tid : Nat) (s : Mt) (i : Nat) (hb : b ≤ g.n) (hbb : bar ≤ b) (hi : i < s.to.length) (hto : s.to.length ≤ 100000) (hv : MV g b M tid s) : ∃ r g', call tb pr n_nest_matcher_other [.ptr M 0, .int .i64 (i : Nat)] bar g = some (r, g') ∧ g.n ≤ g'.n ∧ (∀ j, j < b → g'.get j = g.get j) ∧
    (match s.op.getLast? with | none => r = .bool false | some p => if p.loop || decide (0 < p.ot) then r = .bool false else r = .bool true ∧ MV g' b M tid ⟨s.to.set p.fr (i + 1 : Nat), s.op.set (s.op.length - 1) ⟨p.loop, p.fr, i, p.leaves⟩, s.deep⟩) := by
  suffices hw : ∃ r g', callF (call tb pr) f_nest_matcher_other [.ptr M 0, .int .i64 (i : Nat)] bar g = some (r, g') ∧ (g.n ≤ g'.n ∧ (∀ j, j < b → g'.get j = g.get j) ∧
    (match s.op.getLast? with | none => r = .bool false | some p => if p.loop || decide (0 < p.ot) then r = .bool false else r = .bool true ∧ MV g' b M tid ⟨s.to.set p.fr (i + 1 : Nat), s.op.set (s.op.length - 1) ⟨p.loop, p.fr, i, p.leaves⟩, s.deep⟩)) by
    obtain ⟨r, h', h1, h2⟩ := hw; exact ⟨r, h', call_of tb_nest_matcher_other h1, h2⟩
  refine callF_K rfl rfl fun K hK => ?_
  obtain ⟨oa, ps, hv⟩ := hv
  obtain ⟨r, hc, hr⟩ := top_ok (pr := pr) (bar := bar) M tid s oa ps hv
  rcases hr with ⟨hop, hps, rfl⟩ | ⟨id, hne, hoa, rfl⟩
  · have hg : s.op.getLast? = none := by rw [hop]; rfl
    rw [hg] at hK
    simp [f_nest_matcher_other, env0, go_sem, endP, endI, resultsA, resultA, freezeL, freezeV, AV.free.freeL, AV.free, packA, dropS, hc, isNilK]
    exact ⟨_, _, ⟨rfl, rfl⟩, hK _ _ ⟨Nat.le_refl _, fun _ _ => rfl, rfl⟩⟩
  · obtain ⟨id', all, x, hoa', h1, h2, h3, h4, h5, h6, h7, h8, h9, h10, h11, h12, h13, h14⟩ := hv.last hne
    rw [hoa] at hoa'
    injection hoa' with hid
    subst hid
    rw [h8] at hK
    simp only at hK
    have hdn := hv.dn
    cases hlp : x.p.loop with
    | true =>
      simp only [hlp, Bool.true_or, if_true] at hK
      simp [f_nest_matcher_other, env0, go_sem, endP, endI, resultsA, resultA, freezeL, freezeV, AV.free.freeL, AV.free, packA, dropS, hc, isNilK, isNil, h3, h11, hlp]
      exact ⟨_, _, ⟨rfl, rfl⟩, hK _ _ ⟨Nat.le_refl _, fun _ _ => rfl, rfl⟩⟩
    | false =>
      by_cases hot : 0 < x.p.ot
      · have hot' : (0 : Int) < (x.p.ot : Int) := by omega
        simp only [hlp, hot, decide_true, Bool.or_true, if_true] at hK
        simp [f_nest_matcher_other, env0, go_sem, endP, endI, resultsA, resultA, freezeL, freezeV, AV.free.freeL, AV.free, packA, dropS, hc, isNilK, isNil, h3, h11, hlp, hot]
        exact ⟨_, _, ⟨rfl, rfl⟩, hK _ _ ⟨Nat.le_refl _, fun _ _ => rfl, rfl⟩⟩
      · have hot' : ¬ (0 : Int) < (x.p.ot : Int) := by omega
        simp only [hlp, hot, decide_false, Bool.or_false, Bool.false_eq_true, if_false] at hK
        have hbi : bar ≤ id := by omega
        have hle : (ps.length - 1) * 4 + 2 + 1 ≤ all.length := by omega
        obtain ⟨_, hTb, hTn, hTg⟩ := hv.to
        have hpk := hv.ok x.p (by rw [hv.map]; exact List.mem_map_of_mem h7)
        have hfrl : (x.p.fr : Int) < (s.to.length : Int) := by have := hpk.1; omega
        have hle2 : x.p.fr + 1 ≤ (s.to.flatMap i64c).length := by rw [i64_len]; have := hpk.1; omega
        have hw := w64_succ (n := i) (by omega)
        have hbt : bar ≤ tid := by omega
        have hT1 := (hv.to.mono (g' := g.set id (.cells (splice all ((ps.length - 1) * 4 + 2) [.int .i64 (i : Nat)]) 0)) (Nat.le_refl _) (get_set_ne (fun e => h5 e.symm))).set hpk.1 ((i + 1 : Nat) : Int)
        have hg11 : (splice all ((ps.length - 1) * 4 + 2) [.int .i64 (i : Nat)])[(ps.length - 1) * 4 + 1]? = some (.int .i64 (x.p.fr : Nat)) := by
          unfold splice
          rw [List.append_assoc, List.getElem?_append_left (by rw [List.length_take]; omega), List.getElem?_take_of_lt (by omega)]
          exact h11.2.1
        have hos := h13 (ps.length - 1) x ⟨⟨x.p.loop, x.p.fr, i, x.p.leaves⟩, x.lv⟩ 2 [.int .i64 (i : Nat)] ((g.set id (.cells (splice all ((ps.length - 1) * 4 + 2) [.int .i64 (i : Nat)]) 0)).set tid (.cells (splice (s.to.flatMap i64c) x.p.fr [.int .i64 ((i + 1 : Nat) : Int)]) 0)) h6 (by simp) rfl
          (by have := (hv.lv x h7).1.one; simp [Pa.c, this, AV.one]; exact this) (by simp [n_set]) (by rw [get_set_ne h5, get_set, if_pos rfl])
        have hfr : ∀ j, j ≠ id → j ≠ tid → ((g.set id (.cells (splice all ((ps.length - 1) * 4 + 2) [.int .i64 (i : Nat)]) 0)).set tid (.cells (splice (s.to.flatMap i64c) x.p.fr [.int .i64 ((i + 1 : Nat) : Int)]) 0)).get j = g.get j := fun j q1 q2 => by rw [get_set_ne q2, get_set_ne q1]
        have hM1 : ((g.set id (.cells (splice all ((ps.length - 1) * 4 + 2) [.int .i64 (i : Nat)]) 0))).get M = g.get M := get_set_ne (fun e => h4 e.symm)
        have hti : ((g.set id (.cells (splice all ((ps.length - 1) * 4 + 2) [.int .i64 (i : Nat)]) 0))).get tid = g.get tid := get_set_ne (fun e => h5 e.symm)
        generalize htc : s.to.flatMap i64c = tc at *
        generalize hg1 : g.set id (.cells (splice all ((ps.length - 1) * 4 + 2) [.int .i64 (i : Nat)]) 0) = g1 at *
        have hg1i : g1.get id = some (.cells (splice all ((ps.length - 1) * 4 + 2) [.int .i64 (i : Nat)]) 0) := by rw [← hg1, get_set, if_pos rfl]
        generalize hal : splice all ((ps.length - 1) * 4 + 2) [.int .i64 (i : Nat)] = all1 at *
        have hg1n : g1.n = g.n := by rw [← hg1]; rfl
        simp [f_nest_matcher_other, env0, go_sem, endP, endI, resultsA, resultA, freezeL, freezeV, AV.free.freeL, AV.free, packA, dropS, get_alloc, n_alloc, get_set, n_set, get_kill, n_kill, writeAt, a11, a21, a31, a41, a51, a61, a71, hc, isNilK, isNil, h3, h11, hlp, hot, hot', hbi, hle, hal, hg1, hM1, hv.cell, hg1i, hg11, hTg, hti, indexIn, hfrl, hw, hbt, hle2]
        have hss := set_sub (x' := ⟨⟨x.p.loop, x.p.fr, i, x.p.leaves⟩, x.lv⟩) h6 rfl rfl
        refine ⟨_, _, ⟨rfl, rfl⟩, hK _ _ ⟨by simp only [n_set]; omega, fun j hj => by have := hfr j (by omega) (by omega); simpa using this, rfl, oa, ps.set (ps.length - 1) ⟨⟨x.p.loop, x.p.fr, i, x.p.leaves⟩, x.lv⟩, ?_⟩⟩
        rw [← hlp]
        have hT2 : TOV (g1.set tid (.cells (splice tc x.p.fr [.int .i64 ((i + 1 : Nat) : Int)]) 0)) b (.sl tid 0 1 (s.to.set x.p.fr ((i + 1 : Nat) : Int)).length true) tid (s.to.set x.p.fr ((i + 1 : Nat) : Int)) := by
          rw [List.length_set]; exact hT1
        refine hv.upd (s' := ⟨s.to.set x.p.fr (i + 1 : Nat), s.op.set (s.op.length - 1) ⟨x.p.loop, x.p.fr, i, x.p.leaves⟩, s.deep⟩) ?_ (by simp only [n_set]; omega) hT2 (List.length_set) hos hv.oM hv.ot ?_ hss.1 (hss.2 hv.pw) (fun j q => q) (fun j q1 q2 q3 q4 => ?_) (fun p hp => ?_) (by simp; exact hv.dn)
        · rw [get_set_ne (fun e => hv.ne e.symm), hM1, hv.cell]; simp [hoa]
        · rw [hv.map, List.map_set, List.length_map]
        · exact hfr j (fun e => q4 (by rw [hoa, e]; rfl)) q3
        · rcases List.mem_or_eq_of_mem_set hp with hp | rfl
          · exact hv.ok p hp
          · exact ⟨hpk.1, hi, hpk.2.2⟩
end
end Go.Ev
namespace Go.Ev
open Go
section
variable {pr : Oracle} {bar b : Nat} {g : H}
theorem drop_sub {ps : List Pa} : (∀ y ∈ ps.dropLast, ∃ z ∈ ps, z.lv = y.lv ∧ z.p.leaves = y.p.leaves) ∧ ((ps.Pairwise fun x y => x.lv.apart y.lv) → ps.dropLast.Pairwise fun x y => x.lv.apart y.lv) :=
  ⟨fun y hy => ⟨y, by rw [List.dropLast_eq_take] at hy; exact List.mem_of_mem_take hy, rfl, rfl⟩, fun h => h.sublist (List.dropLast_sublist _)⟩
theorem endIf_ok (M tid : Nat) (s : Mt) (i : Nat) (hb : b ≤ g.n) (hbb : bar ≤ b) (hi : i < s.to.length) (hto : s.to.length ≤ 100000) (hv : MV g b M tid s) : ∃ r g', call tb pr n_nest_matcher_endIf [.ptr M 0, .int .i64 (i : Nat)] bar g = some (r, g') ∧ g.n ≤ g'.n ∧ (∀ j, j < b → g'.get j = g.get j) ∧
    (match s.op.getLast? with | none => r = .bool false | some p => if p.loop then r = .bool false else r = .bool true ∧ MV g' b M tid ⟨s.to.set (if 0 < p.ot then p.ot else p.fr) i, s.op.dropLast, s.deep⟩) := by
  suffices hw : ∃ r g', callF (call tb pr) f_nest_matcher_endIf [.ptr M 0, .int .i64 (i : Nat)] bar g = some (r, g') ∧ (g.n ≤ g'.n ∧ (∀ j, j < b → g'.get j = g.get j) ∧
    (match s.op.getLast? with | none => r = .bool false | some p => if p.loop then r = .bool false else r = .bool true ∧ MV g' b M tid ⟨s.to.set (if 0 < p.ot then p.ot else p.fr) i, s.op.dropLast, s.deep⟩)) by
    obtain ⟨r, h', h1, h2⟩ := hw; exact ⟨r, h', call_of tb_nest_matcher_endIf h1, h2⟩
  refine callF_K rfl rfl fun K hK => ?_
  obtain ⟨oa, ps, hv⟩ := hv
  obtain ⟨r, hc, hr⟩ := top_ok (pr := pr) (bar := bar) M tid s oa ps hv
  rcases hr with ⟨hop, hps, rfl⟩ | ⟨id, hne, hoa, rfl⟩
  · have hg : s.op.getLast? = none := by rw [hop]; rfl
    rw [hg] at hK
    simp [f_nest_matcher_endIf, env0, go_sem, endP, endI, resultsA, resultA, freezeL, freezeV, AV.free.freeL, AV.free, packA, dropS, hc, isNilK]
    exact ⟨_, _, ⟨rfl, rfl⟩, hK _ _ ⟨Nat.le_refl _, fun _ _ => rfl, rfl⟩⟩
  · obtain ⟨id', all, x, hoa', h1, h2, h3, h4, h5, h6, h7, h8, h9, h10, h11, h12, h13, h14⟩ := hv.last hne
    rw [hoa] at hoa'
    injection hoa' with hid
    subst hid
    rw [h8] at hK
    simp only at hK
    have hdn := hv.dn
    cases hlp : x.p.loop with
    | true =>
      simp only [hlp, if_true] at hK
      simp [f_nest_matcher_endIf, env0, go_sem, endP, endI, resultsA, resultA, freezeL, freezeV, AV.free.freeL, AV.free, packA, dropS, hc, isNilK, isNil, h3, h11, hlp]
      exact ⟨_, _, ⟨rfl, rfl⟩, hK _ _ ⟨Nat.le_refl _, fun _ _ => rfl, rfl⟩⟩
    | false =>
      simp only [hlp, Bool.false_eq_true, if_false] at hK
      obtain ⟨q1, q2, q3, q4, q5, q6, q7⟩ := pos_facts (List.length_pos_iff.mpr hne) (by omega)
      have hpk := hv.ok x.p (by rw [hv.map]; exact List.mem_map_of_mem h7)
      have hbt : bar ≤ tid := by have := hv.to.2.1; omega
      have hbM : bar ≤ M := by have := hv.bM; omega
      obtain ⟨w, hwd⟩ : ∃ w, w = (if 0 < x.p.ot then x.p.ot else x.p.fr) := ⟨_, rfl⟩
      rw [← hwd] at hK
      have hwl : w < s.to.length := by rw [hwd]; split; exact hpk.2.1; exact hpk.1
      have hwl' : (w : Int) < (s.to.length : Int) := by omega
      have hle2 : w + 1 ≤ (s.to.flatMap i64c).length := by rw [i64_len]; omega
      have hT1 := hv.to.set hwl (i : Int)
      obtain ⟨_, hTb, hTn, hTg⟩ := hv.to
      have hfr : ∀ c j, j ≠ M → j ≠ tid → ((g.set tid (.cells (splice (s.to.flatMap i64c) w [.int .i64 (i : Int)]) 0)).set M c).get j = g.get j := fun c j e1 e2 => by rw [get_set_ne e1, get_set_ne e2]
      have hM1 : (g.set tid (.cells (splice (s.to.flatMap i64c) w [.int .i64 (i : Int)]) 0)).get M = g.get M := get_set_ne (fun e => hv.ne e.symm)
      have hT2 : TOV ((g.set tid (.cells (splice (s.to.flatMap i64c) w [.int .i64 (i : Int)]) 0)).set M (.cells [.sl tid 0 1 s.to.length true, .sl id 0 4 (ps.length - 1) false, .int .i64 (s.deep : Nat)] 0)) b (.sl tid 0 1 (s.to.set w (i : Int)).length true) tid (s.to.set w (i : Int)) := by
        rw [List.length_set]; exact hT1.mono (Nat.le_refl _) (get_set_ne hv.ne)
      have hos := h12 ((g.set tid (.cells (splice (s.to.flatMap i64c) w [.int .i64 (i : Int)]) 0)).set M (.cells [.sl tid 0 1 s.to.length true, .sl id 0 4 (ps.length - 1) false, .int .i64 (s.deep : Nat)] 0)) (Nat.le_refl _) (hfr _ _ h4 h5)
      generalize htc : s.to.flatMap i64c = tc at *
      generalize hg1 : g.set tid (.cells (splice tc w [.int .i64 (i : Int)]) 0) = g1 at *
      have hg1n : g1.n = g.n := by rw [← hg1]; rfl
      have hfin : MV (g1.set M (.cells [.sl tid 0 1 s.to.length true, .sl id 0 4 (ps.length - 1) false, .int .i64 (s.deep : Nat)] 0)) b M tid ⟨s.to.set w (i : Int), s.op.dropLast, s.deep⟩ := by
        refine ⟨.sl id 0 4 (ps.length - 1) false, ps.dropLast, hv.upd ?_ (by simp only [n_set]; omega) hT2 (List.length_set) hos h4 h5 ?_ drop_sub.1 (drop_sub.2 hv.pw) (fun j q => by rw [hoa]; exact q) (fun j e1 e2 e3 e4 => hfr _ j e2 e3) (fun p hp => ?_) ?_⟩
        · rw [get_set, if_pos rfl, List.length_set]
        · simp only [hv.map, List.map_dropLast]
        · exact hv.ok p (by rw [List.dropLast_eq_take] at hp; exact List.mem_of_mem_take hp)
        · show s.op.dropLast.length ≤ 1000; rw [List.length_dropLast]; omega
      have hfrb : ∀ c j, j < b → (g1.set M c).get j = g.get j := fun c j hj => hfr c j (by have := hv.bM; omega) (by omega)
      subst hoa
      by_cases hot : 0 < x.p.ot
      · have hot' : (0 : Int) < (x.p.ot : Int) := by omega
        have hwo : w = x.p.ot := by rw [hwd, if_pos hot]
        rw [hwo] at hwl hwl' hle2 hg1
        simp [f_nest_matcher_endIf, env0, go_sem, endP, endI, resultsA, resultA, freezeL, freezeV, AV.free.freeL, AV.free, packA, dropS, get_alloc, n_alloc, get_set, n_set, get_kill, n_kill, writeAt, a11, a21, a31, a41, a51, a61, a71, hc, isNilK, isNil, h3, h11, hlp, hot, hot', hg1, hM1, hv.cell, hTg, indexIn, hwl', hwl, hbt, hbM, hle2, q1, q2, q3, sliceA, optEv, optBound, bound, q5, q6, q7, sp30, sp31, sp32]
        exact ⟨_, _, ⟨rfl, rfl⟩, hK _ _ ⟨by simp only [n_set]; omega, hfrb _, rfl, hfin⟩⟩
      · have hot' : ¬ (0 : Int) < (x.p.ot : Int) := by omega
        have hwo : w = x.p.fr := by rw [hwd, if_neg hot]
        rw [hwo] at hwl hwl' hle2 hg1
        simp [f_nest_matcher_endIf, env0, go_sem, endP, endI, resultsA, resultA, freezeL, freezeV, AV.free.freeL, AV.free, packA, dropS, get_alloc, n_alloc, get_set, n_set, get_kill, n_kill, writeAt, a11, a21, a31, a41, a51, a61, a71, hc, isNilK, isNil, h3, h11, hlp, hot, hot', hg1, hM1, hv.cell, hTg, indexIn, hwl', hwl, hbt, hbM, hle2, q1, q2, q3, sliceA, optEv, optBound, bound, q5, q6, q7, sp30, sp31, sp32]
        exact ⟨_, _, ⟨rfl, rfl⟩, hK _ _ ⟨by simp only [n_set]; omega, hfrb _, rfl, hfin⟩⟩
theorem n64c_get {l : List Nat} {h : H} {bar : Nat} {a : AV} (v : OS 1 h bar a l.length (l.flatMap n64c)) (hne : l ≠ []) : ∃ id all, a = .sl id 0 1 l.length false ∧ bar ≤ id ∧ id < h.n ∧ h.get id = some (.cells all 0) ∧ ∀ i (hi : i < l.length), all[i]? = some (.int .i64 (l[i] : Nat)) := by
  obtain ⟨id, all, e0, e1, e2, e3, e4, e5, e6, e7⟩ := v.elems (c := n64c) (fun _ => rfl) hne
  exact ⟨id, all, e0, e1, e2, e3, fun i hi => by have := e5 i l[i] 0 (List.getElem?_eq_getElem hi) Nat.one_pos; simpa [n64c] using this⟩
theorem endLoop_loop (M tid : Nat) (i : Nat) (N : Nat) (hi : i < N) (hN : N ≤ 100000) (leaves : List Nat) (lv : AV) (g0 : H) (hM : ∃ oa dp, g0.get M = some (.cells [.sl tid 0 1 N true, oa, dp] 0)) (hne : tid ≠ M) (hbt : bar ≤ tid) (hlv : OS 1 g0 b lv leaves.length (leaves.flatMap n64c)) (hlt : ¬ lv.isAt tid) (hk : ∀ k ∈ leaves, k < N) (hll : leaves.length ≤ 100000) (Q : Ex → Env → H → Prop) : ∀ (k idx : Nat) (gk : H) (to : List Int), leaves.length = idx + k → to.length = N →
    gk.get tid = some (.cells (to.flatMap i64c) 0) → (∀ j, j ≠ tid → gk.get j = g0.get j) → gk.n = g0.n →
    (∀ e g', e.get 0 = some (.ptr M 0) → g'.get tid = some (.cells ((setAll ((i + 1 : Nat) : Int) (leaves.drop idx) to).flatMap i64c) 0) → (∀ j, j ≠ tid → g'.get j = g0.get j) → g'.n = g0.n → Q (.exit 0) e g') →
    wpL (call tb pr) bar [0, 1, 32, 33, 34] l0_nest_matcher_endLoop [(0, .ptr M 0), (1, .int .i64 (i : Nat)), (32, lv), (33, goI leaves.length), (34, goI idx)] gk Q := by
  intro k
  induction k with
  | zero =>
    intro idx gk to hl htl ht hj hn hq
    refine M_loop l0_nest_matcher_endLoop.eq_1 ?_
    simp [go_sem, hl]
    exact hq _ _ rfl (by rw [List.drop_eq_nil_of_le (by omega)]; exact ht) hj hn
  | succ k ih =>
    intro idx gk to hl htl ht hj hn hq
    refine M_loop l0_nest_matcher_endLoop.eq_1 ?_
    have hx : idx < leaves.length := by omega
    have hx' : (idx : Int) < (leaves.length : Int) := by omega
    have hnl : leaves ≠ [] := fun e => by rw [e] at hx; cases hx
    obtain ⟨lid, all, rfl, e1, e2, e3, e4⟩ := n64c_get hlv hnl
    have hd : leaves.drop idx = leaves[idx] :: leaves.drop (idx + 1) := List.drop_eq_getElem_cons hx
    have hw := w64_succ (n := idx) (by omega)
    have hw2 := w64_succ (n := i) (by omega)
    have hkb := hk _ (List.getElem_mem hx)
    have hkb' : (leaves[idx] : Int) < (N : Int) := by omega
    have hle : leaves[idx] + 1 ≤ (to.flatMap i64c).length := by rw [i64_len]; omega
    have hlid : gk.get lid = some (.cells all 0) := by rw [hj lid hlt]; exact e3
    obtain ⟨oa, dp, hM⟩ := hM
    have hMk : gk.get M = some (.cells [.sl tid 0 1 N true, oa, dp] 0) := by rw [hj M (fun e => hne e.symm)]; exact hM
    have hset := i64_set (to := to) (i := leaves[idx]) (by omega) ((i + 1 : Nat) : Int)
    have h4 := e4 idx hx
    generalize htc : to.flatMap i64c = tc at *
    generalize hlk : leaves[idx] = lk at *
    simp [go_sem, get_alloc, n_alloc, get_set, n_set, get_kill, n_kill, writeAt, a11, a21, a31, a41, a51, a61, a71, hx, hx', indexIn, hlid, h4, hMk, isNil, hw, hw2, hkb, hkb', ht, hbt, hle]
    refine ih (idx + 1) _ (to.set lk ((i + 1 : Nat) : Int)) (by omega) (by rw [List.length_set]; exact htl) ?_ (fun j q => by rw [get_set_ne q, hj j q]) (by simp only [n_set]; exact hn) (fun e g' q1 q2 q3 q4 => hq e g' q1 (by rw [hd]; simp only [setAll]; exact q2) q3 q4)
    rw [get_set, if_pos rfl]
    congr 2
theorem endLoop_ok (M tid : Nat) (s : Mt) (i : Nat) (hb : b ≤ g.n) (hbb : bar ≤ b) (hi : i < s.to.length) (hto : s.to.length ≤ 100000) (hv : MV g b M tid s) : ∃ r g', call tb pr n_nest_matcher_endLoop [.ptr M 0, .int .i64 (i : Nat)] bar g = some (r, g') ∧ g.n ≤ g'.n ∧ (∀ j, j < b → g'.get j = g.get j) ∧
    (match s.op.getLast? with | none => r = .bool false | some p => if p.loop then r = .bool true ∧ MV g' b M tid ⟨setAll (i + 1 : Nat) p.leaves (s.to.set i p.fr), s.op.dropLast, s.deep⟩ else r = .bool false) := by
  suffices hw : ∃ r g', callF (call tb pr) f_nest_matcher_endLoop [.ptr M 0, .int .i64 (i : Nat)] bar g = some (r, g') ∧ (g.n ≤ g'.n ∧ (∀ j, j < b → g'.get j = g.get j) ∧
    (match s.op.getLast? with | none => r = .bool false | some p => if p.loop then r = .bool true ∧ MV g' b M tid ⟨setAll (i + 1 : Nat) p.leaves (s.to.set i p.fr), s.op.dropLast, s.deep⟩ else r = .bool false)) by
    obtain ⟨r, h', h1, h2⟩ := hw; exact ⟨r, h', call_of tb_nest_matcher_endLoop h1, h2⟩
  refine callF_K rfl rfl fun K hK => ?_
  obtain ⟨oa, ps, hv⟩ := hv
  obtain ⟨r, hc, hr⟩ := top_ok (pr := pr) (bar := bar) M tid s oa ps hv
  rcases hr with ⟨hop, hps, rfl⟩ | ⟨id, hne, hoa, rfl⟩
  · have hg : s.op.getLast? = none := by rw [hop]; rfl
    rw [hg] at hK
    simp [f_nest_matcher_endLoop, env0, go_sem, endP, endI, resultsA, resultA, freezeL, freezeV, AV.free.freeL, AV.free, packA, dropS, hc, isNilK]
    exact ⟨_, _, ⟨rfl, rfl⟩, hK _ _ ⟨Nat.le_refl _, fun _ _ => rfl, rfl⟩⟩
  · obtain ⟨id', all, x, hoa', h1, h2, h3, h4, h5, h6, h7, h8, h9, h10, h11, h12, h13, h14⟩ := hv.last hne
    rw [hoa] at hoa'
    injection hoa' with hid
    subst hid
    rw [h8] at hK
    simp only at hK
    have hdn := hv.dn
    cases hlp : x.p.loop with
    | false =>
      simp only [hlp, Bool.false_eq_true, if_false] at hK
      simp [f_nest_matcher_endLoop, env0, go_sem, endP, endI, resultsA, resultA, freezeL, freezeV, AV.free.freeL, AV.free, packA, dropS, hc, isNilK, isNil, h3, h11, hlp]
      exact ⟨_, _, ⟨rfl, rfl⟩, hK _ _ ⟨Nat.le_refl _, fun _ _ => rfl, rfl⟩⟩
    | true =>
      simp only [hlp, if_true] at hK
      obtain ⟨q1, q2, q3, q4, q5, q6, q7⟩ := pos_facts (List.length_pos_iff.mpr hne) (by omega)
      have hpk := hv.ok x.p (by rw [hv.map]; exact List.mem_map_of_mem h7)
      have hbt : bar ≤ tid := by have := hv.to.2.1; omega
      have hbM : bar ≤ M := by have := hv.bM; omega
      have hi' : (i : Int) < (s.to.length : Int) := by omega
      have hle2 : i + 1 ≤ (s.to.flatMap i64c).length := by rw [i64_len]; omega
      have hT1 := hv.to.set hi (x.p.fr : Int)
      obtain ⟨_, hTb, hTn, hTg⟩ := hv.to
      have hL := hv.lv x h7
      have hM1 : (g.set tid (.cells (splice (s.to.flatMap i64c) i [.int .i64 (x.p.fr : Int)]) 0)).get M = g.get M := get_set_ne (fun e => hv.ne e.symm)
      have hid1 : (g.set tid (.cells (splice (s.to.flatMap i64c) i [.int .i64 (x.p.fr : Int)]) 0)).get id = g.get id := get_set_ne h5
      have hlv1 : OS 1 (g.set tid (.cells (splice (s.to.flatMap i64c) i [.int .i64 (x.p.fr : Int)]) 0)) b x.lv x.p.leaves.length (x.p.leaves.flatMap n64c) := hL.1.set _ hL.2.2.1
      obtain ⟨_, _, _, hT1g⟩ := hT1
      have hall1 : ∀ j, j ≠ tid → (g.set tid (.cells (splice (s.to.flatMap i64c) i [.int .i64 (x.p.fr : Int)]) 0)).get j = g.get j := fun j hj => get_set_ne hj
      generalize htc : s.to.flatMap i64c = tc at *
      generalize hg1 : g.set tid (.cells (splice tc i [.int .i64 (x.p.fr : Int)]) 0) = g1 at *
      have hg1n : g1.n = g.n := by rw [← hg1]; rfl
      subst hoa
      simp [f_nest_matcher_endLoop, env0, go_sem, get_alloc, n_alloc, get_set, n_set, get_kill, n_kill, writeAt, a11, a21, a31, a41, a51, a61, a71, hc, isNilK, isNil, h3, h11, hlp, hg1, hM1, hv.cell, hTg, indexIn, hi, hi', hbt, hle2, hid1, hlv1.len]
      refine endLoop_loop (b := b) M tid i s.to.length hi hto x.p.leaves x.lv g1 ⟨_, _, by rw [hM1]; exact hv.cell⟩ hv.ne hbt hlv1 hL.2.2.1 hpk.2.2.1 (by have := hpk.2.2.2; omega) _ x.p.leaves.length 0 g1 (s.to.set i (x.p.fr : Int)) (by omega) (List.length_set) hT1g (fun _ _ => rfl) rfl (fun e g' p1 p2 p3 p4 => ?_)
      rw [List.drop_zero] at p2
      have hgM : g'.get M = some (.cells [.sl tid 0 1 s.to.length true, .sl id 0 4 ps.length false, .int .i64 (s.deep : Nat)] 0) := by rw [p3 M (fun e => hv.ne e.symm), hM1]; exact hv.cell
      have hfr : ∀ c j, j ≠ M → j ≠ tid → (g'.set M c).get j = g.get j := fun c j e1 e2 => by rw [get_set_ne e1, p3 j e2, hall1 j e2]
      have hlen2 : (setAll ((i + 1 : Nat) : Int) x.p.leaves (s.to.set i (x.p.fr : Int))).length = s.to.length := by rw [setAll_len, List.length_set]
      have hos := h12 (g'.set M (.cells [.sl tid 0 1 s.to.length true, .sl id 0 4 (ps.length - 1) false, .int .i64 (s.deep : Nat)] 0)) (by simp only [n_set]; omega) (hfr _ _ h4 h5)
      have hT2 : TOV (g'.set M (.cells [.sl tid 0 1 s.to.length true, .sl id 0 4 (ps.length - 1) false, .int .i64 (s.deep : Nat)] 0)) b (.sl tid 0 1 (setAll ((i + 1 : Nat) : Int) x.p.leaves (s.to.set i (x.p.fr : Int))).length true) tid (setAll ((i + 1 : Nat) : Int) x.p.leaves (s.to.set i (x.p.fr : Int))) :=
        ⟨rfl, hTb, by simp only [n_set]; omega, by rw [get_set_ne hv.ne]; exact p2⟩
      simp [go_sem, get_alloc, n_alloc, get_set, n_set, get_kill, n_kill, writeAt, a11, a21, a31, a41, a51, a61, a71, endP, endI, resultsA, resultA, freezeL, freezeV, AV.free.freeL, AV.free, packA, dropS, p1, isNil, hgM, hbM, q1, q2, q3, sliceA, optEv, optBound, bound, q5, q6, q7, sp30, sp31, sp32]
      refine ⟨_, _, ⟨rfl, rfl⟩, hK _ _ ⟨by simp only [n_set]; omega, fun j hj => hfr _ j (by have := hv.bM; omega) (by omega), rfl, .sl id 0 4 (ps.length - 1) false, ps.dropLast, hv.upd ?_ (by simp only [n_set]; omega) hT2 hlen2 hos h4 h5 ?_ drop_sub.1 (drop_sub.2 hv.pw) (fun j q => q) (fun j e1 e2 e3 e4 => hfr _ j e2 e3) (fun p hp => ?_) ?_⟩⟩
      · rw [get_set, if_pos rfl, hlen2]
      · simp only [hv.map, List.map_dropLast]
      · exact hv.ok p (by rw [List.dropLast_eq_take] at hp; exact List.mem_of_mem_take hp)
      · show s.op.dropLast.length ≤ 1000; rw [List.length_dropLast]; omega
end
end Go.Ev
namespace Go.Ev
open Go
section
variable {pr : Oracle} {bar b : Nat} {g : H}
theorem pairwise_set {A : Type} {R : A → A → Prop} (hs : ∀ x y, R x y → R y x) (a : A) : ∀ (l : List A) (k : Nat), l.Pairwise R → (∀ y ∈ l, R a y) → (l.set k a).Pairwise R
  | [], _, _, _ => by simp
  | x :: l, 0, h, ha => by
    rw [List.set_cons_zero, List.pairwise_cons]
    rw [List.pairwise_cons] at h
    exact ⟨fun y hy => ha y (List.mem_cons_of_mem _ hy), h.2⟩
  | x :: l, k + 1, h, ha => by
    rw [List.set_cons_succ, List.pairwise_cons]
    rw [List.pairwise_cons] at h
    refine ⟨fun y hy => ?_, pairwise_set hs a l k h.2 fun y hy => ha y (List.mem_cons_of_mem _ hy)⟩
    rcases List.mem_or_eq_of_mem_set hy with hy | rfl
    · exact h.1 y hy
    · exact hs _ _ (ha x (by simp))
theorem leave_loop (M tid : Nat) (s : Mt) (i : Nat) (hb : b ≤ g.n) (hbb : bar ≤ b) (hi : i < s.to.length) (hto : s.to.length ≤ 100000) (oa : AV) (ps : List Pa) (hv : MVp g b M tid s oa ps) (hlv : ∀ p ∈ s.op, p.leaves.length ≤ i) (Q : Ex → Env → H → Prop) : ∀ (n : Nat), n ≤ s.op.length →
    (∀ e g' k p, e.get 4 = some (.bool true) → lastLoop s.op n = some k → s.op[k]? = some p → g.n ≤ g'.n → (∀ j, j < b → g'.get j = g.get j) → MV g' b M tid ⟨s.to, s.op.set k ⟨p.loop, p.fr, p.ot, p.leaves ++ [i]⟩, s.deep⟩ → Q .ret e g') →
    (∀ e, lastLoop s.op n = none → Q (.exit 0) e g) →
    wpL (call tb pr) bar [0, 1, 5] l0_nest_matcher_leave [(0, .ptr M 0), (1, .int .i64 (i : Nat)), (5, .int .i64 ((n : Int) - 1))] g Q := by
  intro n
  induction n with
  | zero =>
    intro hn h1 h2
    refine M_loop l0_nest_matcher_leave.eq_1 ?_
    simp [go_sem]
    exact h2 _ rfl
  | succ k ih =>
    intro hn h1 h2
    refine M_loop l0_nest_matcher_leave.eq_1 ?_
    have hlen : s.op.length = ps.length := by rw [hv.map, List.length_map]
    have hdn := hv.dn
    have hne : ps ≠ [] := List.length_pos_iff.mp (by omega)
    obtain ⟨id, all, _, hoa, e1, e2, e3, e4, e5, _, _, _, _, _, _, _, e13, e14⟩ := hv.last hne
    have hk : k < ps.length := by omega
    have hk' : (k : Int) < (ps.length : Int) := by omega
    have hxk : ps[k]? = some ps[k] := List.getElem?_eq_getElem hk
    obtain ⟨f0, f1, f2, f3, f4⟩ := e14 k ps[k] hxk
    have hop : s.op[k]? = some ps[k].p := by rw [hv.map, List.getElem?_map, hxk]; rfl
    have hmem : ps[k] ∈ ps := List.getElem_mem hk
    have hkk : ((k + 1 : Nat) : Int) - 1 = (k : Int) := by omega
    rw [hkk]
    have hll : lastLoop s.op (k + 1) = if ps[k].p.loop then some k else lastLoop s.op k := by simp only [lastLoop, hop]
    have hpos : (0 : Int) ≤ (k : Int) := by omega
    subst hoa
    generalize ps[k] = x at *
    cases hlp : x.p.loop with
    | false =>
      have hw : IntKind.i64.wrap ((k : Int) - 1) = (k : Int) - 1 := w64 (by omega) (by omega)
      simp [go_sem, hv.cell, isNil, indexIn, hk, hk', e3, f1, hlp, hw]
      refine ih (by omega) (fun e g' j p q1 q2 => h1 e g' j p q1 (by rw [hll, hlp]; exact q2)) (fun e q => h2 e (by rw [hll, hlp]; exact q))
    | true =>
      have hL := hv.lv x hmem
      have hpl := hlv x.p (by rw [hv.map]; exact List.mem_map_of_mem hmem)
      obtain ⟨a', g', c1, c2, c3, c4, c5⟩ := hL.1.app' hb hbb 8 (n64c i) rfl rfl (by omega) (by omega) (by omega)
      simp only [n64c] at c1
      have hgi : g'.get id = some (.cells all 0) := by rw [c4 id e2 (hL.2.2.2 id rfl)]; exact e3
      have hgM : g'.get M = some (.cells [.sl tid 0 1 s.to.length true, .sl id 0 4 ps.length false, .int .i64 (s.deep : Nat)] 0) := by rw [c4 M hv.Mn hL.2.1]; exact hv.cell
      have hbi : bar ≤ id := by omega
      have hle : k * 4 + 3 + 1 ≤ all.length := by omega
      have n1 : id ≠ g.n := by omega
      have n2 : M ≠ g.n := by have := hv.Mn; omega
      simp [go_sem, get_alloc, n_alloc, get_set, n_set, get_kill, n_kill, writeAt, a11, a21, a31, a41, a51, a61, a71, hv.cell, isNil, indexIn, hk, hk', e3, f1, hlp]
      refine ⟨⟨?_, ?_, ?_, ?_⟩, ?_⟩
      · refine sees_of rfl ?_
        simp [R_nil, R_cons, RS_some, sameV_some, seesQ_some, List.take, List.take_succ_cons, List.take_zero, go_sem, get_alloc, n_alloc, get_set, n_set, get_kill, n_kill, writeAt, a11, a21, a31, a41, a51, a61, a71, hv.cell, isNil, indexIn, hk, hk', e3, f4, evParts, fillA, sp10, n1, n2]
      · refine sees_of rfl ?_
        simp [R_nil, R_cons, RS_some, sameV_some, seesQ_some, List.take, List.take_succ_cons, List.take_zero, go_sem, get_alloc, n_alloc, get_set, n_set, get_kill, n_kill, writeAt, a11, a21, a31, a41, a51, a61, a71, hv.cell, isNil, indexIn, hk, hk', e3, f4, evParts, fillA, sp10, n1, n2, c1, hgM, hgi]
      · refine sees_of rfl ?_
        simp [R_nil, R_cons, RS_some, sameV_some, seesQ_some, List.take, List.take_succ_cons, List.take_zero, go_sem, get_alloc, n_alloc, get_set, n_set, get_kill, n_kill, writeAt, a11, a21, a31, a41, a51, a61, a71, hv.cell, isNil, indexIn, hk, hk', e3, f4, evParts, fillA, sp10, n1, n2]
      · refine sees_of rfl ?_
        simp [R_nil, R_cons, RS_some, sameV_some, seesQ_some, List.take, List.take_succ_cons, List.take_zero, go_sem, get_alloc, n_alloc, get_set, n_set, get_kill, n_kill, writeAt, a11, a21, a31, a41, a51, a61, a71, hv.cell, isNil, indexIn, hk, hk', e3, f4, evParts, fillA, sp10, n1, n2]
      · simp [go_sem, get_alloc, n_alloc, get_set, n_set, get_kill, n_kill, writeAt, a11, a21, a31, a41, a51, a61, a71, hv.cell, isNil, indexIn, hk, hk', e3, f4, evParts, fillA, sp10, n1, n2, c1, hgM, hgi, hbi, hle, c2.one]
        have hat' : ∀ j, j < g.n → ¬ a'.isAt j := fun j hj q => by have := c5 _ q; omega
        have hfr : ∀ c j, j < g.n → j ≠ id → ¬ x.lv.isAt j → (g'.set id c).get j = g.get j := fun c j q1 q2 q3 => by rw [get_set_ne q2, c4 j q1 q3]
        have hos := e13 k x ⟨⟨x.p.loop, x.p.fr, x.p.ot, x.p.leaves ++ [i]⟩, a'⟩ 3 [a'] (g'.set id (.cells (splice all (k * 4 + 3) [a']) 0)) hxk (by simp) rfl (by simp [Pa.c, c2.one, AV.one]; exact c2.one) (by simp only [n_set]; omega) (by rw [get_set, if_pos rfl])
        refine h1 _ _ k x.p rfl (by rw [hll, hlp, if_pos rfl]) hop (by simp only [n_set]; omega) (fun j hj => hfr _ j (by omega) (by omega) (fun q => by have := hL.1.at_lt q; omega)) ⟨.sl id 0 4 ps.length false, ps.set k ⟨⟨x.p.loop, x.p.fr, x.p.ot, x.p.leaves ++ [i]⟩, a'⟩, ?_⟩
        exact {
          cell := by rw [get_set_ne (fun e => e4 e.symm)]; exact hgM
          bM := hv.bM
          Mn := by have := hv.Mn; simp only [n_set]; omega
          ne := hv.ne
          to := hv.to.mono (by simp only [n_set]; omega) (hfr _ tid hv.to.2.2.1 (fun e => e5 e.symm) hL.2.2.1)
          os := hos
          oM := hv.oM
          ot := hv.ot
          map := by show s.op.set k _ = _; rw [hv.map, List.map_set]
          lv := fun y hy => by
            obtain ⟨j, hj⟩ := List.mem_iff_getElem?.mp hy
            rw [List.getElem?_set] at hj
            by_cases hkj : k = j
            · rw [if_pos hkj, if_pos (by omega)] at hj
              injection hj with hj
              subst hj
              refine ⟨?_, hat' _ hv.Mn, hat' _ hv.to.2.2.1, fun j q1 q2 => by cases q1; exact hat' _ e2 q2⟩
              have := c2.set (id := id) (.cells (splice all (k * 4 + 3) [a']) 0) (hat' id e2)
              simpa [n64c] using this
            · rw [if_neg hkj] at hj
              have hy2 := hv.lv y (List.mem_of_getElem? hj)
              have hap : x.lv.apart y.lv := by
                have hpw := List.pairwise_iff_getElem.mp hv.pw
                obtain ⟨hj1, hj2⟩ := List.getElem?_eq_some_iff.mp hj
                obtain ⟨hk1, hk2⟩ := List.getElem?_eq_some_iff.mp hxk
                rcases Nat.lt_or_gt_of_ne hkj with hlt | hlt
                · have := hpw k j hk1 hj1 hlt; rw [hj2, hk2] at this; exact this
                · have := hpw j k hj1 hk1 hlt; rw [hj2, hk2] at this; exact this.symm
              refine ⟨hy2.1.mono (by simp only [n_set]; omega) (fun q hq => hfr _ q (hy2.1.at_lt hq).2 (fun e => hy2.2.2.2 q (by rw [e]; rfl) hq) (fun q2 => hap q q2 hq)), hy2.2⟩
          pw := by
            have h3 : (ps.map Pa.lv).Pairwise AV.apart := List.pairwise_map.mpr hv.pw
            have h4 := pairwise_set (fun _ _ h => AV.apart.symm h) a' (ps.map Pa.lv) k h3 (fun y hy j q1 q2 => by
              obtain ⟨z, hz, rfl⟩ := List.mem_map.mp hy
              exact hat' j ((hv.lv z hz).1.at_lt q2).2 q1)
            have h5 : (ps.set k ⟨⟨x.p.loop, x.p.fr, x.p.ot, x.p.leaves ++ [i]⟩, a'⟩).map Pa.lv = (ps.map Pa.lv).set k a' := by rw [List.map_set]
            rw [← h5] at h4
            exact List.pairwise_map.mp h4
          ok := fun p hp => by
            rcases List.mem_or_eq_of_mem_set hp with hp | rfl
            · exact hv.ok p hp
            · have hpk := hv.ok x.p (by rw [hv.map]; exact List.mem_map_of_mem hmem)
              refine ⟨hpk.1, hpk.2.1, fun q hq => ?_, by simp; omega⟩
              rw [List.mem_append] at hq
              rcases hq with hq | hq
              · exact hpk.2.2.1 q hq
              · simp at hq; subst hq; exact hi
          dn := by simp; exact hv.dn }
theorem leave_ok (M tid : Nat) (s : Mt) (i : Nat) (hb : b ≤ g.n) (hbb : bar ≤ b) (hi : i < s.to.length) (hto : s.to.length ≤ 100000) (hv : MV g b M tid s) (hlv : ∀ p ∈ s.op, p.leaves.length ≤ i) : ∃ r g', call tb pr n_nest_matcher_leave [.ptr M 0, .int .i64 (i : Nat)] bar g = some (r, g') ∧ g.n ≤ g'.n ∧ (∀ j, j < b → g'.get j = g.get j) ∧
    (match lastLoop s.op s.op.length with | none => r = .bool false | some k => match s.op[k]? with | some p => r = .bool true ∧ MV g' b M tid ⟨s.to, s.op.set k ⟨p.loop, p.fr, p.ot, p.leaves ++ [i]⟩, s.deep⟩ | none => False) := by
  suffices hw : ∃ r g', callF (call tb pr) f_nest_matcher_leave [.ptr M 0, .int .i64 (i : Nat)] bar g = some (r, g') ∧ (g.n ≤ g'.n ∧ (∀ j, j < b → g'.get j = g.get j) ∧
    (match lastLoop s.op s.op.length with | none => r = .bool false | some k => match s.op[k]? with | some p => r = .bool true ∧ MV g' b M tid ⟨s.to, s.op.set k ⟨p.loop, p.fr, p.ot, p.leaves ++ [i]⟩, s.deep⟩ | none => False)) by
    obtain ⟨r, h', h1, h2⟩ := hw; exact ⟨r, h', call_of tb_nest_matcher_leave h1, h2⟩
  refine callF_K rfl rfl fun K hK => ?_
  obtain ⟨oa, ps, hv⟩ := hv
  have hlen : s.op.length = ps.length := by rw [hv.map, List.length_map]
  have hdn := hv.dn
  have hw : IntKind.i64.wrap ((ps.length : Int) - 1) = (s.op.length : Int) - 1 := by rw [w64 (by omega) (by omega), hlen]
  simp [f_nest_matcher_leave, env0, go_sem, hv.cell, isNil, hv.os.len, hw]
  refine leave_loop M tid s i hb hbb hi hto oa ps hv hlv _ s.op.length (Nat.le_refl _) (fun e g' k p q1 q2 q3 q4 q5 q6 => ?_) (fun e q => ?_)
  · simp [go_sem, endP, endI, resultsA, resultA, freezeL, freezeV, AV.free.freeL, AV.free, packA, dropS, q1]
    refine ⟨_, _, ⟨rfl, rfl⟩, hK _ _ ⟨q4, q5, ?_⟩⟩
    rw [q2]; simp only; rw [q3]; exact ⟨by first | trivial | rfl, q6⟩
  · simp [go_sem, endP, endI, resultsA, resultA, freezeL, freezeV, AV.free.freeL, AV.free, packA, dropS]
    refine ⟨_, _, ⟨rfl, rfl⟩, hK _ _ ⟨Nat.le_refl _, fun _ _ => rfl, ?_⟩⟩
    rw [q]
theorem lastLoop_some : ∀ (op : List Pt) (n k : Nat), lastLoop op n = some k → k < n ∧ ∃ p, op[k]? = some p ∧ p.loop = true
  | op, 0, k, h => by simp [lastLoop] at h
  | op, n + 1, k, h => by
    simp only [lastLoop] at h
    cases hp : op[n]? with
    | none => rw [hp] at h; simp at h
    | some p =>
      rw [hp] at h
      simp only at h
      split at h
      · rename_i hl
        injection h with h
        subst h
        exact ⟨by omega, p, hp, hl⟩
      · obtain ⟨h1, h2⟩ := lastLoop_some op n k h
        exact ⟨by omega, h2⟩
/-- 'token': one more. -/
theorem nest_token_ok (M tid : Nat) (s : Mt) (i : Nat) (sg : Int) (hb : b ≤ g.n) (hbb : bar ≤ b) (hi : i < s.to.length) (hto : s.to.length ≤ 100000) (hl : s.op.length ≤ 16) (hv : MV g b M tid s) (hlv : ∀ p ∈ s.op, p.leaves.length ≤ i) : ∃ r g', call tb pr n_nest_matcher_token [.ptr M 0, .int .i64 (i : Nat), .int .i32 sg] bar g = some (r, g') ∧ g.n ≤ g'.n ∧ (∀ j, j < b → g'.get j = g.get j) ∧
    (match pstep sg i s with | none => r = .bool false | some s' => r = .bool true ∧ MV g' b M tid s') := by
  suffices hw : ∃ r g', callF (call tb pr) f_nest_matcher_token [.ptr M 0, .int .i64 (i : Nat), .int .i32 sg] bar g = some (r, g') ∧ (g.n ≤ g'.n ∧ (∀ j, j < b → g'.get j = g.get j) ∧
    (match pstep sg i s with | none => r = .bool false | some s' => r = .bool true ∧ MV g' b M tid s')) by
    obtain ⟨r, h', h1, h2⟩ := hw; exact ⟨r, h', call_of tb_nest_matcher_token h1, h2⟩
  refine callF_K rfl rfl fun K hK => ?_
  by_cases c1 : sg = 63
  · subst c1
    obtain ⟨r, g', h1, h2, h3, h4, h5⟩ := begin_ok (pr := pr) (bar := bar) M tid s i false hb hbb hi (by omega) hto hv
    simp [f_nest_matcher_token, env0, go_sem, endP, endI, resultsA, resultA, freezeL, freezeV, AV.free.freeL, AV.free, packA, dropS, h1]
    refine ⟨_, _, ⟨rfl, rfl⟩, hK _ _ ⟨h2, h3, ?_⟩⟩
    unfold pstep
    rw [if_pos rfl]
    by_cases c : s.op.length + 1 ≤ 16
    · rw [if_pos c]; simp [h4, c]; exact h5
    · rw [if_neg c]; simp [h4, c]
  by_cases c2 : sg = 91
  · subst c2
    obtain ⟨r, g', h1, h2, h3, h4, h5⟩ := begin_ok (pr := pr) (bar := bar) M tid s i true hb hbb hi (by omega) hto hv
    simp [f_nest_matcher_token, env0, go_sem, endP, endI, resultsA, resultA, freezeL, freezeV, AV.free.freeL, AV.free, packA, dropS, h1]
    refine ⟨_, _, ⟨rfl, rfl⟩, hK _ _ ⟨h2, h3, ?_⟩⟩
    unfold pstep
    rw [if_neg (by omega), if_pos rfl]
    by_cases c : s.op.length + 1 ≤ 16
    · rw [if_pos c]; simp [h4, c]; exact h5
    · rw [if_neg c]; simp [h4, c]
  by_cases c3 : sg = 58
  · subst c3
    obtain ⟨r, g', h1, h2, h3, h4⟩ := other_ok (pr := pr) (bar := bar) M tid s i hb hbb hi hto hv
    simp [f_nest_matcher_token, env0, go_sem, endP, endI, resultsA, resultA, freezeL, freezeV, AV.free.freeL, AV.free, packA, dropS, h1]
    refine ⟨_, _, ⟨rfl, rfl⟩, hK _ _ ⟨h2, h3, ?_⟩⟩
    unfold pstep
    rw [if_neg (by omega), if_neg (by omega), if_pos rfl]
    cases hg : s.op.getLast? with
    | none => rw [hg] at h4; exact h4
    | some p =>
      rw [hg] at h4
      simp only at h4 ⊢
      by_cases c : (p.loop || decide (0 < p.ot)) = true
      · rw [if_pos c] at h4 ⊢; exact h4
      · rw [if_neg c] at h4 ⊢; exact h4
  by_cases c4 : sg = 59
  · subst c4
    obtain ⟨r, g', h1, h2, h3, h4⟩ := endIf_ok (pr := pr) (bar := bar) M tid s i hb hbb hi hto hv
    simp [f_nest_matcher_token, env0, go_sem, endP, endI, resultsA, resultA, freezeL, freezeV, AV.free.freeL, AV.free, packA, dropS, h1]
    refine ⟨_, _, ⟨rfl, rfl⟩, hK _ _ ⟨h2, h3, ?_⟩⟩
    unfold pstep
    rw [if_neg (by omega), if_neg (by omega), if_neg (by omega), if_pos rfl]
    cases hg : s.op.getLast? with
    | none => rw [hg] at h4; exact h4
    | some p =>
      rw [hg] at h4
      simp only at h4 ⊢
      by_cases c : p.loop = true
      · rw [if_pos c] at h4 ⊢; exact h4
      · rw [if_neg c] at h4 ⊢; exact h4
  by_cases c5 : sg = 93
  · subst c5
    obtain ⟨r, g', h1, h2, h3, h4⟩ := endLoop_ok (pr := pr) (bar := bar) M tid s i hb hbb hi hto hv
    simp [f_nest_matcher_token, env0, go_sem, endP, endI, resultsA, resultA, freezeL, freezeV, AV.free.freeL, AV.free, packA, dropS, h1]
    refine ⟨_, _, ⟨rfl, rfl⟩, hK _ _ ⟨h2, h3, ?_⟩⟩
    unfold pstep
    rw [if_neg (by omega), if_neg (by omega), if_neg (by omega), if_neg (by omega), if_pos rfl]
    cases hg : s.op.getLast? with
    | none => rw [hg] at h4; exact h4
    | some p =>
      rw [hg] at h4
      simp only at h4 ⊢
      by_cases c : p.loop = true
      · rw [if_pos c] at h4 ⊢; exact h4
      · rw [if_neg c] at h4 ⊢; exact h4
  by_cases c6 : sg = 126
  · subst c6
    obtain ⟨r, g', h1, h2, h3, h4⟩ := leave_ok (pr := pr) (bar := bar) M tid s i hb hbb hi hto hv hlv
    simp [f_nest_matcher_token, env0, go_sem, endP, endI, resultsA, resultA, freezeL, freezeV, AV.free.freeL, AV.free, packA, dropS, h1]
    refine ⟨_, _, ⟨rfl, rfl⟩, hK _ _ ⟨h2, h3, ?_⟩⟩
    unfold pstep
    rw [if_neg (by omega), if_neg (by omega), if_neg (by omega), if_neg (by omega), if_neg (by omega), if_pos rfl]
    cases hg : lastLoop s.op s.op.length with
    | none => rw [hg] at h4; exact h4
    | some k =>
      obtain ⟨_, p, hp, _⟩ := lastLoop_some _ _ _ hg
      rw [hg] at h4
      simp only [hp] at h4 ⊢
      exact h4
  have d1 : (sg == 63) = false := by simpa using c1
  have d2 : (sg == 91) = false := by simpa using c2
  have d3 : (sg == 58) = false := by simpa using c3
  have d4 : (sg == 59) = false := by simpa using c4
  have d5 : (sg == 93) = false := by simpa using c5
  have d6 : (sg == 126) = false := by simpa using c6
  simp [f_nest_matcher_token, env0, go_sem, endP, endI, resultsA, resultA, freezeL, freezeV, AV.free.freeL, AV.free, packA, dropS, d1, d2, d3, d4, d5, d6]
  refine ⟨_, _, ⟨rfl, rfl⟩, hK _ _ ⟨Nat.le_refl _, fun _ _ => rfl, ?_⟩⟩
  unfold pstep
  rw [if_neg c1, if_neg c2, if_neg c3, if_neg c4, if_neg c5, if_neg c6]
  exact ⟨rfl, hv⟩
end
end Go.Ev
namespace Go.Ev
open Go
def ploop (l : List Tok) : Nat → Nat → Mt → Option Mt
  | 0, _, s => some s
  | k + 1, i, s => (pstep (sgn l i) i s).bind (ploop l k (i + 1))
def nestP (l : List Tok) : Option (List Int) := match ploop l l.length 0 ⟨List.replicate l.length (-1), [], 0⟩ with
  | none => none
  | some s => if s.op = [] then some s.to else none
theorem pstep_inv {sg : Int} {i : Nat} {s s' : Mt} (h : pstep sg i s = some s') (h16 : s.op.length ≤ 16) (hlv : ∀ p ∈ s.op, p.leaves.length ≤ i) : s'.to.length = s.to.length ∧ s'.op.length ≤ 16 ∧ ∀ p ∈ s'.op, p.leaves.length ≤ i + 1 := by
  have hdl : ∀ p ∈ s.op.dropLast, p.leaves.length ≤ i + 1 := fun p hp => by
    have := hlv p (by rw [List.dropLast_eq_take] at hp; exact List.mem_of_mem_take hp); omega
  unfold pstep at h
  split at h
  · split at h
    · injection h with h; subst h
      refine ⟨rfl, by simp; omega, fun p hp => ?_⟩
      rw [List.mem_append] at hp
      rcases hp with hp | hp
      · have := hlv p hp; omega
      · simp at hp; subst hp; simp
    · cases h
  split at h
  · split at h
    · injection h with h; subst h
      refine ⟨rfl, by simp; omega, fun p hp => ?_⟩
      rw [List.mem_append] at hp
      rcases hp with hp | hp
      · have := hlv p hp; omega
      · simp at hp; subst hp; simp
    · cases h
  split at h
  · split at h
    · cases h
    · rename_i p0 hp0
      split at h
      · cases h
      · injection h with h; subst h
        refine ⟨List.length_set, by rw [List.length_set]; exact h16, fun p hp => ?_⟩
        rcases List.mem_or_eq_of_mem_set hp with hp | rfl
        · have := hlv p hp; omega
        · have := hlv p0 (List.mem_of_getLast? hp0); simp only; omega
  split at h
  · split at h
    · cases h
    · split at h
      · cases h
      · injection h with h; subst h
        exact ⟨List.length_set, by rw [List.length_dropLast]; omega, hdl⟩
  split at h
  · split at h
    · cases h
    · split at h
      · injection h with h; subst h
        exact ⟨by rw [setAll_len, List.length_set], by rw [List.length_dropLast]; omega, hdl⟩
      · cases h
  split at h
  · split at h
    · cases h
    · rename_i k hk
      split at h
      · rename_i p0 hp0
        injection h with h; subst h
        refine ⟨rfl, by rw [List.length_set]; exact h16, fun p hp => ?_⟩
        rcases List.mem_or_eq_of_mem_set hp with hp | rfl
        · have := hlv p hp; omega
        · have := hlv p0 (List.mem_of_getElem? hp0); simp; omega
      · cases h
  · injection h with h; subst h
    exact ⟨rfl, h16, fun p hp => by have := hlv p hp; omega⟩
section
variable {pr : Oracle} {bar b : Nat} {g : H}
theorem MV.mono {M tid : Nat} {s : Mt} (hv : MV g b M tid s) {h : H} (hn : g.n ≤ h.n) (hf : ∀ j, j < g.n → h.get j = g.get j) : MV h b M tid s := by
  obtain ⟨oa, ps, hv⟩ := hv
  refine ⟨oa, ps, ?_⟩
  exact {
    cell := by rw [hf M hv.Mn]; exact hv.cell
    bM := hv.bM
    Mn := by have := hv.Mn; omega
    ne := hv.ne
    to := hv.to.mono hn (hf tid hv.to.2.2.1)
    os := hv.os.mono hn (fun j hj => hf j (hv.os.at_lt hj).2)
    oM := hv.oM
    ot := hv.ot
    map := hv.map
    lv := fun x hx => (hv.lv x hx).mono hn (fun j q1 _ _ _ => hf j q1)
    pw := hv.pw
    ok := hv.ok
    dn := hv.dn }
theorem match_loop0 (l : List Tok) (la : AV) (M tid : Nat) (hM : tid ≠ M) (hbt : bar ≤ tid) (oa dp : AV) (hlen : l.length ≤ 100000) (Q : Ex → Env → H → Prop) : ∀ (k i : Nat) (g : H) (to : List Int), l.length = i + k → to.length = l.length → g.get tid = some (.cells (to.flatMap i64c) 0) → g.get M = some (.cells [.sl tid 0 1 l.length true, oa, dp] 0) → (∀ j, j < i → to[j]? = some (-1)) →
    (∀ e g' , e.get 0 = some la → e.get 4 = some (.ptr M 0) → g'.n = g.n → g'.get tid = some (.cells ((List.replicate l.length (-1 : Int)).flatMap i64c) 0) → g'.get M = g.get M → (∀ j, j ≠ tid → g'.get j = g.get j) → Q (.exit 0) e g') →
    wpL (call tb pr) bar [0, 4, 14, 15] l0_nest_match [(0, la), (4, .ptr M 0), (14, goI l.length), (15, goI i)] g Q := by
  intro k
  induction k with
  | zero =>
    intro i g to hk htl ht hgM hm hq
    refine M_loop l0_nest_match.eq_1 ?_
    simp [go_sem, hk]
    refine hq _ _ rfl rfl rfl ?_ rfl (fun _ _ => rfl)
    have : to = List.replicate l.length (-1 : Int) := by
      apply List.ext_getElem?
      intro j
      by_cases hj : j < l.length
      · rw [hm j (by omega), List.getElem?_replicate, if_pos hj]
      · rw [List.getElem?_eq_none (by omega), List.getElem?_eq_none (by simp; omega)]
    rw [← this]; exact ht
  | succ k ih =>
    intro i g to hk htl ht hgM hm hq
    refine M_loop l0_nest_match.eq_1 ?_
    have hi : i < l.length := by omega
    have hbi : (i : Int) < (l.length : Int) := by omega
    have hw := w64_succ (n := i) (by omega)
    have hle : i + 1 ≤ (to.flatMap i64c).length := by rw [i64_len]; omega
    have hset := i64_set (to := to) (i := i) (by omega) (-1)
    generalize htc : to.flatMap i64c = tc at *
    simp [go_sem, get_alloc, n_alloc, get_set, n_set, get_kill, n_kill, writeAt, a11, a21, a31, a41, a51, a61, a71, hi, hbi, hgM, isNil, indexIn, ht, hbt, hle, hw]
    refine ih (i + 1) _ (to.set i (-1)) (by omega) (by rw [List.length_set]; exact htl) (by rw [get_set, if_pos rfl, hset]) (by rw [get_set_ne (fun e => hM e.symm)]; exact hgM) (fun j hj => ?_) (fun e g' q1 q2 q3 q4 q5 q6 => hq e g' q1 q2 q3 q4 (by rw [q5, get_set_ne (fun e => hM e.symm)]) (fun j hj => by rw [q6 j hj, get_set_ne hj]))
    rw [List.getElem?_set]
    by_cases hji : i = j
    · rw [if_pos hji, if_pos (by omega)]
    · rw [if_neg hji]; exact hm j (by omega)
theorem match_loop1 (l : List Tok) (la : AV) (hla : FzV 3 la l.length (l.flatMap Tok.cells)) (hlen : l.length ≤ 100000) (M tid : Nat) (hbb : bar ≤ b) (Q : Ex → Env → H → Prop) : ∀ (k i : Nat) (g : H) (s : Mt), l.length = i + k → MV g b M tid s → b ≤ g.n → s.to.length = l.length → s.op.length ≤ 16 → (∀ p ∈ s.op, p.leaves.length ≤ i) →
    (∀ e g', e.get 2 = some (.ptr M 0) → e.get 3 = some (.bool false) → ploop l k i s = none → g.n ≤ g'.n → Q .ret e g') →
    (∀ e g' s', e.get 4 = some (.ptr M 0) → ploop l k i s = some s' → MV g' b M tid s' → g.n ≤ g'.n → s'.to.length = l.length → Q (.exit 2) e g') →
    wpL (call tb pr) bar [4, 25, 26, 27] l1_nest_match [(4, .ptr M 0), (25, la), (26, goI l.length), (27, goI i)] g Q := by
  intro k
  induction k with
  | zero =>
    intro i g s hk hv hb htl h16 hlv h1 h2
    refine M_loop l1_nest_match.eq_1 ?_
    simp [go_sem, hk]
    exact h2 _ _ s rfl rfl hv (Nat.le_refl _) htl
  | succ k ih =>
    intro i g s hk hv hb htl h16 hlv h1 h2
    refine M_loop l1_nest_match.eq_1 ?_
    have hi : i < l.length := by omega
    have hbi : (i : Int) < (l.length : Int) := by omega
    have hw := w64_succ (n := i) (by omega)
    rcases tok_cases hla with ⟨rfl, rfl⟩ | ⟨full, cs, rfl, hl, hx, hy⟩
    · cases hi
    have hyi := hy i hi
    have hsg : sgn l i = l[i].sign := by simp [sgn, hi]
    generalize hti : l[i] = t at *
    have hbn : bar ≤ g.n := by omega
    have hv2 : MV ((g.alloc (.cells [.int .i32 0, .int .i64 0, .int .i32 0] 0)).set g.n (.cells t.cells 0)) b M tid s := hv.mono (by simp [n_set, n_alloc]) (fun j hj => by rw [get_set_ne (by omega), get_alloc, if_neg (by omega)])
    obtain ⟨r, g', c1, c2, c3, c4⟩ := nest_token_ok (pr := pr) (bar := bar) M tid s i (sgn l i) (by simp only [n_set, n_alloc]; omega) hbb (by omega) (by omega) h16 hv2 hlv
    simp only [n_set, n_alloc] at c2
    have hgo : ploop l (k + 1) i s = (pstep (sgn l i) i s).bind (ploop l k (i + 1)) := rfl
    simp only [Tok.cells, hsg] at c1
    cases hp : pstep (sgn l i) i s with
    | none =>
      rw [hp] at c4
      simp only at c4
      subst c4
      simp [go_sem, get_alloc, n_alloc, get_set, n_set, get_kill, n_kill, writeAt, a11, a21, a31, a41, a51, a61, a71, hi, hbi, indexIn, hl, hyi, Tok.cells, splice, hbn, c1]
      exact h1 _ _ rfl rfl (by rw [hgo, hp]; rfl) (by omega)
    | some s' =>
      rw [hp] at c4
      simp only at c4
      obtain ⟨rfl, hv'⟩ := c4
      obtain ⟨i1, i2, i3⟩ := pstep_inv hp h16 hlv
      simp [go_sem, get_alloc, n_alloc, get_set, n_set, get_kill, n_kill, writeAt, a11, a21, a31, a41, a51, a61, a71, hi, hbi, indexIn, hl, hyi, Tok.cells, splice, hbn, c1, hw]
      exact ih (i + 1) g' s' (by omega) hv' (by omega) (by omega) i2 i3 (fun e g2 q1 q2 q3 q4 => h1 e g2 q1 q2 (by rw [hgo, hp]; exact q3) (by omega)) (fun e g2 s2 q1 q2 q3 q4 => h2 e g2 s2 q1 (by rw [hgo, hp]; exact q2) q3 (by omega))
theorem nest_match_ok (l : List Tok) (la : AV) (hla : FzV 3 la l.length (l.flatMap Tok.cells)) (hlen : l.length ≤ 100000) (hbb : bar ≤ g.n) : ∃ r g', call tb pr n_nest_match [la] bar g = some (r, g') ∧
    (match ploop l l.length 0 ⟨List.replicate l.length (-1), [], 0⟩ with | none => ∃ M, r = .tup [.ptr M 0, .bool false] | some s => ∃ M tid, r = .tup [.ptr M 0, .bool (decide (s.op = []))] ∧ MV g' g.n M tid s ∧ s.to.length = l.length) := by
  suffices hw : ∃ r g', callF (call tb pr) f_nest_match [la] bar g = some (r, g') ∧
    (match ploop l l.length 0 ⟨List.replicate l.length (-1), [], 0⟩ with | none => ∃ M, r = .tup [.ptr M 0, .bool false] | some s => ∃ M tid, r = .tup [.ptr M 0, .bool (decide (s.op = []))] ∧ MV g' g.n M tid s ∧ s.to.length = l.length) by
    obtain ⟨r, h', h1, h2⟩ := hw; exact ⟨r, h', call_of tb_nest_match h1, h2⟩
  refine callF_K rfl rfl fun K hK => ?_
  have hln : ∀ g, lenR (some la) g = some (goI l.length, g) := (hla.vw g).len
  have hsz : (l.length : Int) * 8 ≤ 140737488355328 := by omega
  have hsz2 : (l.length : Int) ≤ 9223372036854775807 := by omega
  simp [f_nest_match, env0, go_sem, get_alloc, n_alloc, get_set, n_set, get_kill, n_kill, writeAt, a11, a21, a31, a41, a51, a61, a71, hln, hsz, hsz2, evParts, fillA, splice]
  refine match_loop0 l la (g.n + 1) g.n (by omega) hbb .nilsl (.int .i64 0) hlen _ l.length 0 _ (List.replicate l.length 0) (by omega) (by simp) ?_ (by simp [get_alloc, n_alloc]) (by simp) (fun e g1 q1 q2 q3 q4 q5 q6 => ?_)
  · simp only [get_alloc, n_alloc]; rw [if_neg (by omega), if_pos trivial, rep_i64]
  · simp [go_sem, q1, q2, hln]
    have hMV : MV g1 g.n (g.n + 1) g.n ⟨List.replicate l.length (-1), [], 0⟩ := by
      refine ⟨.nilsl, [], ?_⟩
      exact {
        cell := by rw [q5]; simp [get_alloc, n_alloc]
        bM := by omega
        Mn := by simp only [n_alloc] at q3; omega
        ne := by omega
        to := ⟨rfl, Nat.le_refl _, by simp only [n_alloc] at q3; omega, q4⟩
        os := OS.nil
        oM := fun h => h
        ot := fun h => h
        map := rfl
        lv := fun x hx => by cases hx
        pw := List.Pairwise.nil
        ok := fun p hp => by cases hp
        dn := by simp }
    refine match_loop1 l la hla hlen (g.n + 1) g.n hbb _ l.length 0 g1 ⟨List.replicate l.length (-1), [], 0⟩ (by omega) hMV (by simp only [n_alloc] at q3; omega) (by simp) (by simp) (by simp) (fun e g2 p1 p2 p3 p4 => ?_) (fun e g2 s' p1 p2 p3 p4 p5 => ?_)
    · rw [p3] at hK
      simp [go_sem, endP, endI, resultsA, resultA, freezeL, freezeV, AV.free.freeL, AV.free, packA, dropS, p1, p2]
      exact ⟨_, _, ⟨rfl, rfl⟩, hK _ _ ⟨_, rfl⟩⟩
    · rw [p2] at hK
      have hp3 := p3
      obtain ⟨oa, ps, hv⟩ := p3
      have hlen : s'.op.length = ps.length := by rw [hv.map, List.length_map]
      have hbd : ((ps.length : Int) == 0) = decide (s'.op = []) := by
        rw [Bool.eq_iff_iff]; simp only [beq_iff_eq, decide_eq_true_eq]
        constructor
        · intro h; exact List.length_eq_zero_iff.mp (by omega)
        · intro h; rw [h] at hlen; simp at hlen; rw [← hlen]; rfl
      simp [go_sem, endP, endI, resultsA, resultA, freezeL, freezeV, AV.free.freeL, AV.free, packA, dropS, p1, isNil, hv.cell, hv.os.len, hbd]
      exact ⟨_, _, ⟨rfl, rfl⟩, hK _ _ ⟨_, _, rfl, hp3, p5⟩⟩
theorem nest_Of_ok (l : List Tok) (la : AV) (hla : FzV 3 la l.length (l.flatMap Tok.cells)) (hlen : l.length ≤ 100000) : match nestP l with
    | some to => ∃ a, call tb pr n_nest_Of [la] bar g = some (.tup [a, .int .i64 0], g) ∧ FzV 1 a to.length (to.flatMap i64c) ∧ to.length = l.length
    | none => call tb pr n_nest_Of [la] bar g = some (.tup [.nilsl, .int .i64 13], g) := by
  suffices hw : ∃ r, callF (call tb pr) f_nest_Of [la] bar g = some (r, g) ∧ (match nestP l with
    | some to => ∃ a, r = .tup [a, .int .i64 0] ∧ FzV 1 a to.length (to.flatMap i64c) ∧ to.length = l.length
    | none => r = .tup [.nilsl, .int .i64 13]) by
    obtain ⟨r, h1, h2⟩ := hw
    have h1 := call_of tb_nest_Of h1
    revert h2
    cases nestP l with
    | none => intro h2; simp only at h2; subst h2; exact h1
    | some to => intro h2; simp only at h2; obtain ⟨a, rfl, h3, h4⟩ := h2; exact ⟨a, h1, h3, h4⟩
  refine callF_pureK rfl rfl fun K hK => ?_
  obtain ⟨r, g', hc, hr⟩ := nest_match_ok (pr := pr) (bar := g.n) (g := g) l la hla hlen (Nat.le_refl _)
  unfold nestP at hK
  cases hp : ploop l l.length 0 ⟨List.replicate l.length (-1), [], 0⟩ with
  | none =>
    rw [hp] at hr hK
    obtain ⟨M, rfl⟩ := hr
    simp [f_nest_Of, env0, go_sem, endX, resultsA, resultA, freezeL, AV.free.freeL, packA, hc, freezeV, AV.free]
    exact hK _ rfl
  | some s =>
    rw [hp] at hr hK
    obtain ⟨M, tid, rfl, ⟨oa, ps, hv⟩, hl⟩ := hr
    by_cases hop : s.op = []
    · simp only [hop, if_true] at hK
      obtain ⟨a2, h5, h6, h7⟩ := hv.to.freeze (by omega) 2
      simp [f_nest_Of, env0, go_sem, endX, resultsA, resultA, freezeL, AV.free.freeL, packA, hc, hop, isNil, hv.cell, h6, h7.free, freezeV, AV.free]
      exact hK _ ⟨a2, rfl, h7, hl⟩
    · simp only [hop, if_false] at hK
      simp [f_nest_Of, env0, go_sem, endX, resultsA, resultA, freezeL, AV.free.freeL, packA, hc, hop, freezeV, AV.free]
      exact hK _ rfl
end
end Go.Ev
