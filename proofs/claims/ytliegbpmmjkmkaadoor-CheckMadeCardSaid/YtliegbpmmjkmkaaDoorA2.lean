/- Each operation and each region of the interpreter is sound; nothing is assumed. -/
import Derived.LoopN
import Derived.Still
import Derived.StillTail
import Derived.Test.YtliegbpmmjkmkaaDoorA1
set_option linter.unusedSimpArgs false
set_option linter.unusedVariables false
set_option linter.all false
namespace Go.Ev
open Go

section
variable {P : Program} {G : Glob} {φ : Phi} {I : Imm} {e : Env} {h : H} {w : World} {ρ : Operand → Value} {bar : Nat} {o : Oper}

theorem run_loadCells_VR {b q : Nat} {cs : List AV} (hc : ∀ (j : Nat) (c : AV), cs[j]? = some c → ∃ v, w.cell? ⟨b, q + j, none⟩ = some v ∧ VR φ I c v) :
    ∃ ys : List Value, VRL φ I cs ys ∧ ∀ w' : World, w'.heap = w.heap → (loadCells ⟨b, q, none⟩ cs.length).run P w' = .ok ys.toArray w' := by
  have hex : ∀ j, ∃ u : Value, ∀ c, cs[j]? = some c → w.cell? ⟨b, q + j, none⟩ = some u ∧ VR φ I c u := fun j => by
    cases hj : cs[j]? with
    | none => exact ⟨Go.undef, fun c hc' => by cases hc'⟩
    | some c => obtain ⟨u, h1, h2⟩ := hc j c hj; exact ⟨u, fun c' hc' => by cases hc'; exact ⟨h1, h2⟩⟩
  let f : Nat → Value := fun j => Classical.choose (hex j)
  have hf : ∀ j c, cs[j]? = some c → w.cell? ⟨b, q + j, none⟩ = some (f j) ∧ VR φ I c (f j) := fun j c => Classical.choose_spec (hex j) c
  refine ⟨(List.range cs.length).map f, ⟨by simp, fun j c v h1 h2 => ?_⟩, fun w' hw => ?_⟩
  rotate_left
  · refine run_loadCells w' _ _ f (fun j hj => ?_)
    rw [add_none]
    have := (hf j _ (List.getElem?_eq_getElem hj)).1
    simpa only [World.cell?, hw] using this
  · have hlt := (List.getElem?_eq_some_iff.1 h1).1
    simp [hlt] at h2; subst h2
    exact (hf j c h1).2

/-- What append and copy take: in the model. -/
theorem source_sound (hR : R φ I h w) {k : Nat} {v : AV} {x : Value} {n : Nat} {xs : List AV} (hs : source k h v = some (n, xs)) (hx : VR φ I v x) :
    (∀ w' : World, (Builtin.lenOf x).run P w' = .ok n w') ∧ xs.length = n * k ∧ (∀ (j : Nat) (c : AV), xs[j]? = some c → c.one = true) ∧
    ∀ m, m ≤ n → ∃ ys : List Value, VRL φ I (xs.take (m * k)) ys ∧ ∀ w' : World, w'.heap = w.heap → (Builtin.firstCells k m x).run P w' = .ok ys.toArray w' := by
  unfold source at hs
  split at hs
  · cases hs; cases hx
    exact ⟨fun w' => rfl, by simp, fun j c hc => by simp at hc, fun m hm => ⟨[], by simpa using VRL.nil, fun w' hw => rfl⟩⟩
  · split at hs
    · rename_i s hk
      subst hk; cases hs; cases hx
      refine ⟨fun w' => rfl, by simp, fun j c hc => ?_, fun m hm => ⟨(s.data.toList.take m).map fun b => .int .u8 b.toNat, ?_, fun w' hw => ?_⟩⟩
      · simp at hc; obtain ⟨b, _, rfl⟩ := hc; rfl
      rotate_left
      · simp only [Builtin.firstCells, Sem.run_pure]
        congr 2
        apply Array.ext'
        simp [ByteArray.extract, ByteArray.copySlice]
      · refine ⟨by simp, fun j c v h1 h2 => ?_⟩
        rw [Nat.mul_one, ← List.map_take] at h1
        rw [List.getElem?_map] at h1 h2
        cases hb : (s.data.toList.take m)[j]? with
        | none => simp [hb] at h1
        | some b => simp [hb] at h1 h2; subst h1; subst h2; exact .int .u8 _
    · cases hs
  · rename_i id off k' len full
    split at hs
    · rename_i hk
      subst hk
      split at hs
      · rename_i cs p hg
        split at hs
        · rename_i hle
          cases hs
          obtain ⟨b, q, rc, el, fr, g1, g2, g3, g4, g5, g6⟩ := hR.obj id _ hg
          have hone : ∀ (j : Nat) (c : AV), ((cs.drop off).take (n * k))[j]? = some c → c.one = true := fun j c hc => by
            rw [List.getElem?_take] at hc
            split at hc
            · rw [List.getElem?_drop] at hc; exact (g4 _ c hc).1
            · cases hc
          refine ⟨fun w' => by cases hx <;> rfl, by simp; omega, hone, fun m hm => ?_⟩
          have hmk : m * k ≤ n * k := Nat.mul_le_mul_right _ hm
          cases hx with
          | sl _ _ _ _ _ b' q' sz cap hφ h1 h2 h3 =>
            rw [g1] at hφ; cases hφ
            have := run_loadCells_VR (P := P) (φ := φ) (I := I) (w := w) (b := b) (q := q + off) (cs := ((cs.drop off).take (n * k)).take (m * k)) (fun j c hc => by
              rw [List.getElem?_take] at hc
              split at hc
              · rw [List.getElem?_take] at hc
                split at hc
                · rw [List.getElem?_drop] at hc
                  obtain ⟨_, v, hv1, hv2⟩ := g4 _ c hc
                  refine ⟨v, ?_, hv2⟩
                  rw [cell_of g2, Nat.add_assoc]; exact hv1
                · cases hc
              · cases hc)
            have hl : (((cs.drop off).take (n * k)).take (m * k)).length = m * k := by simp; omega
            rw [hl] at this
            obtain ⟨ys, e1, e2⟩ := this
            exact ⟨ys, e1, fun w' hw => by simpa [Builtin.firstCells] using e2 w' hw⟩
          | sl0 =>
            have : m = 0 := by omega
            subst this
            exact ⟨[], by simpa using VRL.nil, fun w' hw => by simp [Builtin.firstCells, loadCells, loadCellsFrom]⟩
        · cases hs
      · cases hs
    · cases hs
  · rename_i k' len cs full
    split at hs
    · rename_i hk
      obtain ⟨rfl, hl⟩ := hk
      cases hs
      refine ⟨fun w' => by cases hx <;> rfl, hl, fun j c hc => ?_, fun m hm => ?_⟩
      · cases hx with
        | fz _ _ _ _ b q cap vs h1 h2 h3 => exact (h3 j c hc).2
        | fz0 => simp at hc
      · have hmk : m * k ≤ n * k := Nat.mul_le_mul_right _ hm
        cases hx with
        | fz _ _ _ _ b q cap vs h1 h2 h3 h4 h5 h6 =>
          have := run_loadCells_VR (P := P) (φ := φ) (I := I) (w := w) (b := b) (q := q) (cs := xs.take (m * k)) (fun j c hc => by
            rw [List.getElem?_take] at hc
            split at hc
            · have := hR.imm _ _ _ (h1 j c hc)
              exact ⟨vs j, this, h2 j c hc⟩
            · cases hc)
          have hl' : (xs.take (m * k)).length = m * k := by simp; omega
          rw [hl'] at this
          obtain ⟨ys, e1, e2⟩ := this
          exact ⟨ys, e1, fun w' hw => by simpa [Builtin.firstCells] using e2 w' hw⟩
        | fz0 =>
          have : m = 0 := by omega
          subst this
          exact ⟨[], by simpa using VRL.nil, fun w' hw => by simp [Builtin.firstCells, loadCells, loadCellsFrom]⟩
    · cases hs
  · cases hs

theorem nextcap_le {need cap : Nat} (h : cap < need) : Builtin.nextslicecap need cap ≤ 2 * need := by
  unfold Builtin.nextslicecap
  split
  · omega
  · split
    · omega
    · simp only [Builtin.growBy]
      repeat' split
      all_goals omega

/-- append, where there is room. -/
theorem run_append_fit {t u ty e' : TypeId} {j : TypeInfo} {du : TypeDesc} (ht : P.underlying t = some (.slice e')) (hj : P.info? e' = some j) (hu : P.underlying u = some du) (hdu : ∀ k, du ≠ .int k)
    {base : Option Addr} {len cap n : Nat} {x : Value} {new : Array Value} (hl : (Builtin.lenOf x).run P w = .ok n w) (hn : (Builtin.firstCells j.size n x).run P w = .ok new w) (hroom : len + n ≤ cap)
    {w' : World} (hw : (match base with | some a => storeCells (a.add (len * j.size)) new.toList | none => pure ()).run P w = .ok () w') :
    (Builtin.append_ #[t, u] ty #[.slice base len cap, x]).run P w = .ok (.slice base (len + n) cap) w' := by
  have hz : (match du with | .int _ => true | _ => false) = false := by cases du <;> simp at hdu ⊢
  simp only [Builtin.append_, Sem.run_bind, run_underlying ht, Result.andThen_ok, sizeOf, typeInfo, run_program, hj, Sem.run_pure, run_underlying hu, hl, List.getElem?_toArray, List.getElem?_cons_zero, List.getElem?_cons_succ]
  cases base with
  | none =>
    simp only at hw
    cases du <;> simp at hdu <;> simp [hl, hroom, hn] <;> cases hw <;> rfl
  | some a =>
    simp only at hw
    cases du <;> simp at hdu <;> simp [hl, hroom, hn, hw]

/-- append, where there is none. -/
theorem run_append_grow {t u ty e' : TypeId} {j : TypeInfo} {z : Value} {du : TypeDesc} (ht : P.underlying t = some (.slice e')) (hj : P.info? e' = some j) (hz : j.zero = some z) (hu : P.underlying u = some du) (hdu : ∀ k, du ≠ .int k)
    {base : Option Addr} {len cap n : Nat} {x : Value} {old new : Array Value} (hl : (Builtin.lenOf x).run P w = .ok n w)
    (ho : ∀ w' : World, w'.heap = w.heap → (Builtin.firstCells j.size len (.slice base len cap)).run P w' = .ok old w') (hn : ∀ w' : World, w'.heap = w.heap → (Builtin.firstCells j.size n x).run P w' = .ok new w')
    (hroom : cap < len + n) (hmax : len + n ≤ 9223372036854775807) (hpos : 0 < j.bytes) (hb : (len + n) * j.bytes ≤ 140737488355328) :
    ∃ (newCap : Nat) (rest : Array Value), len + n ≤ newCap ∧ rest.size = (newCap - (len + n)) * z.cells.size ∧
    (Builtin.append_ #[t, u] ty #[.slice base len cap, x]).run P w = .ok (.slice (some ⟨w.heap.size, 0, none⟩) (len + n) newCap) (w.drew.alloc (.cells (old ++ new ++ rest) e')) := by
  let q : Question := .appendCap (len + n) cap e'
  refine ⟨q.cut (w.tape w.drawn q), Builtin.zeroCells z.cells (q.cut (w.tape w.drawn q) - (len + n)), ?_, by simp [Builtin.zeroCells], ?_⟩
  · simp only [q, Question.cut]; omega
  have h1 : ¬ (len + n ≤ cap) := by omega
  have h2 : ¬ (((len + n : Nat) : Int) > IntKind.i64.max ∧ j.bytes = 0) := by omega
  have h3 : ¬ (Builtin.nextslicecap (len + n) cap * j.bytes > 2 ^ 48) := by
    have := Nat.mul_le_mul_right j.bytes (nextcap_le hroom)
    rw [Nat.mul_assoc] at this
    omega
  have ho' := ho w.drew rfl
  have hn' := hn w.drew rfl
  simp only [Builtin.append_, Sem.run_bind, run_underlying ht, Result.andThen_ok, sizeOf, typeInfo, run_program, hj, Sem.run_pure, run_underlying hu, List.getElem?_toArray, List.getElem?_cons_zero, List.getElem?_cons_succ]
  cases du <;> simp at hdu <;> simp [hl, h1, h2, h3, Nat.ne_of_gt hpos, zeroValue, typeInfo, hj, hz, Question.forced, ho', hn', newRow, q]

end
end Go.Ev
namespace Go.Ev
open Go

section
variable {P : Program} {G : Glob} {φ : Phi} {I : Imm} {e : Env} {h : H} {w : World} {ρ : Operand → Value} {bar : Nat} {o : Oper}

theorem R.drew (hR : R φ I h w) : R φ I h w.drew := hR.of_heap rfl

/-- Objects that are gone. -/
theorem R.kill (hR : R φ I h w) (id : Nat) : R φ I (h.kill id) w := hR.sub rfl fun i x hx => by
  simp only [H.kill] at hx
  split at hx
  · cases hx
  · exact hx

/-- A new object over cells that were copied into a block of their own. -/
theorem grown (hR : R φ I h w) {id : Nat} (hbar : bar ≤ h.n) (hid : bar ≤ id) {xs : List AV} {ys : List Value} {rest : Array Value} {el : TypeId} {p k m cap zs : Nat} (hvl : VRL φ I xs ys) (hone : ∀ (j : Nat) (c : AV), xs[j]? = some c → c.one = true)
    (hlen : xs.length = m * k) (hcap : m ≤ cap) (hrest : rest.size = (cap - m) * zs) (hzs : zs = k) :
    ∃ φ', R φ' I ((h.kill id).alloc (.cells xs p)) (w.alloc (.cells (ys.toArray ++ rest) el)) ∧ VR φ' I (.sl h.n 0 k m false) (.slice (some ⟨w.heap.size, 0, none⟩) m cap) ∧
      Stp bar φ I h w φ' I ((h.kill id).alloc (.cells xs p)) (w.alloc (.cells (ys.toArray ++ rest) el)) := by
  have hl := hvl.1
  obtain ⟨φ', g1, g2, g3⟩ := (hR.kill id).alloc bar hbar (ys.toArray ++ rest) el xs p (by simp; omega) (fun j c hc => by
    obtain ⟨v, h1, h2⟩ := hvl.get hc
    have hlt := (List.getElem?_eq_some_iff.1 h1).1
    exact ⟨hone j c hc, v, by rw [Array.getElem?_append_left (by simpa using hlt)]; simpa using h1, h2⟩) (w.alloc (.cells (ys.toArray ++ rest) el)) rfl rfl rfl
  refine ⟨φ', g2, ?_, ?_⟩
  · have hsz : (ys.toArray ++ rest).size = cap * k := by
      subst hzs
      simp [hrest, ← hl, hlen, ← Nat.add_mul]
      congr 1; omega
    rw [hsz] at g1
    exact VR.sl (φ := φ') (I := I) h.n 0 k m false _ 0 _ cap g1 hcap (by omega) (fun hf => by cases hf)
  · have hkill : Stp bar φ I h w φ I (h.kill id) w := ⟨.refl _, .refl _, Nat.le_refl _, fun _ _ _ => rfl, fun i x hi hl hx => .inr ⟨i, x, hi, fun hn => hl (by simp [H.kill, hn]), hx, rfl⟩,
      fun i hi => by have : i ≠ id := by omega
                     simp [H.kill, this], Nat.le_refl _, rfl, rfl, fun _ _ _ hv => .inl hv⟩
    exact hkill.trans g3

theorem H.kill_free {h : H} {id : Nat} (hid : h.get id = none) : h.kill id = h := by
  cases h with
  | mk n get =>
    simp only [H.kill, H.mk.injEq, true_and]
    funext j
    split
    · rename_i hj; subst hj; exact hid.symm
    · rfl

/-- Without an object that goes. -/
theorem grown' (hR : R φ I h w) (hbar : bar ≤ h.n) {xs : List AV} {ys : List Value} {rest : Array Value} {el : TypeId} {p k m cap zs : Nat} (hvl : VRL φ I xs ys) (hone : ∀ (j : Nat) (c : AV), xs[j]? = some c → c.one = true)
    (hlen : xs.length = m * k) (hcap : m ≤ cap) (hrest : rest.size = (cap - m) * zs) (hzs : zs = k) :
    ∃ φ', R φ' I (h.alloc (.cells xs p)) (w.alloc (.cells (ys.toArray ++ rest) el)) ∧ VR φ' I (.sl h.n 0 k m false) (.slice (some ⟨w.heap.size, 0, none⟩) m cap) ∧
      Stp bar φ I h w φ' I (h.alloc (.cells xs p)) (w.alloc (.cells (ys.toArray ++ rest) el)) := by
  have := grown (bar := bar) (el := el) (p := p) hR (id := h.n) hbar hbar hvl hone hlen hcap hrest hzs
  rwa [H.kill_free (hR.wf _ (Nat.le_refl _))] at this

/-- Appended in place: the object is another one behind it. -/
theorem inplace (hR : R φ I h w) {id off k len n cap b q s : Nat} {cs xs : List AV} {p : Nat} {ys : List Value} (hbar : bar ≤ h.n) (hid : bar ≤ id) (hg : h.get id = some (.cells cs p)) (hφ : φ id = some (b, q, s))
    (hle : off + len * k ≤ cs.length) (hp : p ≤ off + len * k) (hxl : xs.length = n * k) (hvl : VRL φ I xs ys) (hone : ∀ (j : Nat) (c : AV), xs[j]? = some c → c.one = true) (hcap : q + off + cap * k ≤ s) (hroom : len + n ≤ cap) :
    ∃ w' φ', (storeCells ((⟨b, q + off, none⟩ : Addr).add (len * k)) ys).run P w = .ok () w' ∧ R φ' I ((h.kill id).alloc (.cells ((cs.drop off).take (len * k) ++ xs) (p - off))) w' ∧
      VR φ' I (.sl h.n 0 k (len + n) false) (.slice (some ⟨b, q + off, none⟩) (len + n) cap) ∧ Stp bar φ I h w φ' I ((h.kill id).alloc (.cells ((cs.drop off).take (len * k) ++ xs) (p - off))) w' := by
  obtain ⟨b', q', rc, el, fr, g1, g2, g3, g4, g5, g6⟩ := hR.obj id _ hg
  rw [hφ] at g1; cases g1
  have hl := hvl.1
  have hnk : (len + n) * k ≤ cap * k := Nat.mul_le_mul_right k hroom
  rw [Nat.add_mul] at hnk
  obtain ⟨w', e1, e2, e3, e4, e5, e6, _, _⟩ := run_storeCells (P := P) b (q + off + len * k) el fr ys 0 w rc g2 (by omega) (fun j h1 h2 => g5 j (by omega) (by omega)) (fun v hv => by
    obtain ⟨j, hj⟩ := List.mem_iff_getElem?.1 hv
    have hlt : j < xs.length := hl ▸ (List.getElem?_eq_some_iff.1 hj).1
    exact (hvl.2 j _ v (List.getElem?_eq_getElem hlt) hj).one (hone j _ (List.getElem?_eq_getElem hlt)))
  have hne : ∀ j x, (h.kill id).get j = some x → j ≠ id ∧ h.get j = some x := fun j x hx => by
    simp only [H.kill] at hx
    split at hx
    · cases hx
    · exact ⟨by assumption, hx⟩
  have hle' : Phi.le φ (fun j => if j = h.n then some (b, q + off, rc.size) else φ j) := fun j x hx => by
    by_cases hj : j = h.n
    · subst hj; rw [hR.dom _ (Nat.le_refl _)] at hx; cases hx
    · simp [hj, hx]
  have hidn : id ≠ h.n := fun hh => by subst hh; rw [hR.wf _ (Nat.le_refl _)] at hg; cases hg
  have htl : ((cs.drop off).take (len * k)).length = len * k := by simp; omega
  refine ⟨w', fun j => if j = h.n then some (b, q + off, rc.size) else φ j, by rw [add_none]; exact e1, ?_, ?_, ?_⟩
  · refine (hR.kill id).put h.n b (q + off) (splA rc (q + off + len * k) ys) el fr ((cs.drop off).take (len * k) ++ xs) (p - off) hle' (by simp [splA_size]) ?_ ?_ ?_ ?_ e3 (by simpa using e2) ?_ ?_ ?_ ?_
    · intro j hj
      simp only [H.alloc, H.kill] at hj
      rw [if_neg (by omega)]; exact hR.dom j (by omega)
    · intro j hj
      have hj' : h.n + 1 ≤ j := hj
      have h1 : ¬ j = h.n := by omega
      have h2 := hR.wf j (by omega)
      show (if j = h.n then _ else if j = id then none else h.get j) = none
      rw [if_neg h1, h2]; split <;> rfl
    · intro j x hx
      simp only [H.alloc] at hx
      by_cases hj : j = (h.kill id).n
      · simp only [hj, if_true, Option.some.injEq] at hx; exact .inl ⟨hj, hx.symm⟩
      · simp only [hj, if_false] at hx; exact .inr ⟨hj, hx⟩
    · intro j x y hj hx hy hyb
      have hj' : j ≠ (h.kill id).n := hj
      simp only [H.alloc, hj', if_false] at hx
      obtain ⟨h1, h2⟩ := hne j x hx
      obtain ⟨y1, y2, y3⟩ := y
      simp only at hyb; subst hyb
      exact h1 (hR.inj j id x _ _ _ _ _ _ h2 hg hy hφ)
    · rw [List.length_append, htl, splA_size]; omega
    · intro j c hc
      rw [splA_get]
      by_cases hj : j < len * k
      · rw [List.getElem?_append_left (by omega), List.getElem?_take, if_pos hj, List.getElem?_drop] at hc
        obtain ⟨h1, v, h2, h3⟩ := g4 _ c hc
        refine ⟨h1, v, ?_, h3.mono hle' (.refl _)⟩
        rw [if_neg (by omega), Nat.add_assoc]; exact h2
      · rw [List.getElem?_append_right (by omega), htl] at hc
        obtain ⟨v, h1, h2⟩ := hvl.get hc
        have hlt := (List.getElem?_eq_some_iff.1 hc).1
        refine ⟨hone _ c hc, v, ?_, h2.mono hle' (.refl _)⟩
        rw [if_pos ⟨by omega, by omega, by omega⟩, ← h1]
        congr 1; omega
    · intro j h1 h2
      exact g5 j (by omega) (by rw [splA_size] at h2; exact h2)
    · intro j v hv
      have h1 := g6 j v hv
      refine ⟨by omega, ?_⟩
      rw [splA_get, if_neg (by omega)]
      have := hR.imm b j v hv
      rw [cell_of g2] at this; exact this
  · refine VR.sl h.n 0 k (len + n) false b (q + off) rc.size cap (by simp) hroom (by omega) (fun hf => by cases hf)
  · refine ⟨hle', .refl _, by omega, fun j hj hf => e3 j (fun hjb => hf id hid (by rw [hg]; simp) _ hφ hjb.symm), fun i x hi hlv hx => ?_, fun i hi => ?_, by simp [H.alloc, H.kill], e5, e6, fun _ _ _ hv => .inl hv⟩
    · by_cases hj : i = h.n
      · simp only [hj, if_true, Option.some.injEq] at hx; subst hx
        exact .inr ⟨id, _, hid, by rw [hg]; simp, hφ, rfl⟩
      · simp only [hj, if_false] at hx
        refine .inr ⟨i, x, hi, ?_, hx, rfl⟩
        intro hn
        apply hlv
        simp only [H.alloc, H.kill, hj, if_false, hn, ite_self]
    · have h1 : i ≠ id := by omega
      have h2 : i ≠ h.n := by omega
      simp only [H.alloc, H.kill, h1, h2, if_false]

theorem op_app (hR : R φ I h w) (hbar : bar ≤ h.n) {s x : Operand} {t u : TypeId} (ho : o.op = .call { callee := .builtin .append, args := #[s, x], argTypes := #[t, u] }) {e' : TypeId} {j : TypeInfo} {z : Value} {zc : List AV} {du : TypeDesc}
    (ht : P.underlying t = some (.slice e')) (hj : P.info? e' = some j) (hz : j.zero = some z) (hzc : ofVL z.cells.toList = some zc) (hzl : zc.length = j.size) (hbp : 0 < j.bytes) (hu : P.underlying u = some du) (hdu : ∀ k, du ≠ .int k)
    {sv xv v : AV} {h' : H} {n : Nat} {xs : List AV} (hsv : VR φ I sv (ρ s)) (hxv : VR φ I xv (ρ x)) (hsrc : source j.size h xv = some (n, xs)) (hk : 0 < j.size) (hev : appendA bar j.size j.bytes h sv n xs = some (v, h')) :
    OpOk P ρ o bar φ I h w v h' := by
  have hzs : z.cells.size = j.size := by have := (ofVL_sound (φ := φ) (I := I) _ _ hzc).1; simp at this; omega
  have he : ∀ w' y, (Builtin.append_ #[t, u] o.type #[ρ s, ρ x]).run P w = .ok y w' → (execOp ρ o).run P w = .ok (.value y) w' := fun w' y hy => by
    simp only [execOp, ho, resolve, invoke, builtin]
    simp only [Sem.run_bind, Sem.run_pure, Result.andThen_ok]
    simp [hy]
  obtain ⟨s1, s2, s3, s4⟩ := source_sound (P := P) hR hsrc hxv
  obtain ⟨yl, yv, yr⟩ := s4 n (Nat.le_refl _)
  rw [show xs.take (n * j.size) = xs from List.take_of_length_le (by omega)] at yv
  -- nothing is appended
  have hnone : ∀ base len cap, ρ s = .slice base len cap → len ≤ cap → n = 0 → (execOp ρ o).run P w = .ok (.value (ρ s)) w := fun base len cap hs hlc hn0 => by
    subst hn0
    have hys : yl = [] := by
      have h1 := yv.1
      rw [s2] at h1
      exact List.eq_nil_of_length_eq_zero (by omega)
    subst hys
    apply he
    rw [hs]
    exact run_append_fit ht hj hu hdu (s1 w) (yr w rfl) (by omega) (by cases base <;> simp [storeCells])
  -- it is copied into a new block
  have hgrow : ∀ base len cap (ol : List Value), ρ s = .slice base len cap → cap < len + n → len + n ≤ 9223372036854775807 → (len + n) * j.bytes ≤ 140737488355328 →
      (∀ w' : World, w'.heap = w.heap → (Builtin.firstCells j.size len (.slice base len cap)).run P w' = .ok ol.toArray w') →
      ∃ nc el rest, (execOp ρ o).run P w = .ok (.value (.slice (some ⟨w.heap.size, 0, none⟩) (len + n) nc)) (w.drew.alloc (.cells ((ol ++ yl).toArray ++ rest) el)) ∧
        len + n ≤ nc ∧ rest.size = (nc - (len + n)) * z.cells.size := fun base len cap ol hs hroom hmax hb hfc => by
    obtain ⟨nc, rest, g1, g2, g3⟩ := run_append_grow (ty := o.type) (base := base) (cap := cap) (x := ρ x) (old := ol.toArray) (new := yl.toArray) ht hj hz hu hdu (s1 w) hfc yr hroom hmax hbp hb
    refine ⟨nc, e', rest, ?_, g1, g2⟩
    apply he
    rw [hs, g3]
    simp
  unfold appendA at hev
  split at hev
  · -- nil
    generalize hz' : ρ s = sz at hsv
    cases hsv
    split at hev
    · rename_i hn0
      cases hev
      have := hnone none 0 0 hz' (Nat.le_refl _) hn0
      rw [hz'] at this
      exact .same hR this .nilsl
    · rename_i hn0
      split at hev
      · rename_i hc
        cases hev
        obtain ⟨nc, el, rest, g1, g2, g3⟩ := hgrow none 0 0 [] hz' (by omega) (by omega) (by simpa using hc.1) (fun w' _ => rfl)
        simp only [Nat.zero_add, List.nil_append] at g1 g2 g3
        obtain ⟨φ', k1, k2, k3⟩ := grown' (bar := bar) (el := el) (p := 0) (k := j.size) (m := n) (rest := rest) hR.drew hbar yv s3 s2 g2 g3 hzs
        exact ⟨_, _, φ', I, .inl g1, k1, k2, (Stp.of_heap (w := w) (w' := w.drew) rfl rfl rfl).trans k3⟩
      · cases hev
  · rename_i k' len cs full
    split at hev
    · rename_i hkc
      obtain ⟨rfl, hcl⟩ := hkc
      have hsh : ∃ base cap, ρ s = .slice base len cap ∧ len ≤ cap ∧ (full = true → cap = len) := by
        generalize hz' : ρ s = sz at hsv
        cases hsv with
        | fz _ _ _ _ b q cap vs h1 h2 h3 h4 h5 h6 => exact ⟨_, cap, rfl, h4, h5⟩
        | fz0 _ _ a cap h5 => exact ⟨_, cap, rfl, Nat.zero_le _, h5⟩
      obtain ⟨base, cap, hs, hlc, hfl⟩ := hsh
      split at hev
      · rename_i hn0
        cases hev
        exact .same hR (hnone base len cap hs hlc hn0) hsv
      · rename_i hn0
        split at hev
        · rename_i hc
          cases hev
          obtain ⟨hfull, hb, hmax⟩ := hc
          have hcap := hfl hfull
          subst hcap
          obtain ⟨_, _, t3, t4⟩ := source_sound (P := P) hR (k := j.size) (v := .fz j.size cap cs full) (n := cap) (xs := cs) (by simp [source, hcl]) hsv
          obtain ⟨ol, ov, orun⟩ := t4 cap (Nat.le_refl _)
          rw [show cs.take (cap * j.size) = cs from List.take_of_length_le (by omega)] at ov
          rw [hs] at orun
          obtain ⟨nc, el, rest, g1, g2, g3⟩ := hgrow base cap cap ol hs (by omega) hmax hb orun
          obtain ⟨φ', k1, k2, k3⟩ := grown' (bar := bar) (el := el) (p := 0) (k := j.size) (m := cap + n) (rest := rest) hR.drew hbar (ov.append yv) (fun i c hc => by
            by_cases hi : i < cs.length
            · rw [List.getElem?_append_left hi] at hc; exact t3 i c hc
            · rw [List.getElem?_append_right (by omega)] at hc; exact s3 _ c hc) (by rw [List.length_append, hcl, s2, Nat.add_mul]) g2 g3 hzs
          exact ⟨_, _, φ', I, .inl g1, k1, k2, (Stp.of_heap (w := w) (w' := w.drew) rfl rfl rfl).trans k3⟩
        · cases hev
    · cases hev
  · rename_i id off k' len full
    split at hev
    · rename_i hkc
      subst hkc
      have hsh : ∃ base cap, ρ s = .slice base len cap ∧ len ≤ cap ∧ (full = true → cap = len) := by
        generalize hz' : ρ s = sz at hsv
        cases hsv with
        | sl _ _ _ _ _ b q sz cap hφ h1 h2 h3 => exact ⟨_, cap, rfl, h1, h3⟩
        | sl0 => exact ⟨_, 0, rfl, Nat.le_refl _, fun _ => rfl⟩
      obtain ⟨base, cap, hs, hlc, hfl⟩ := hsh
      split at hev
      · rename_i hn0
        cases hev
        exact .same hR (hnone base len cap hs hlc hn0) hsv
      · rename_i hn0
        split at hev
        · rename_i cs p hg
          split at hev
          · rename_i hc
            obtain ⟨hle, hb, hmax⟩ := hc
            obtain ⟨_, t2, t3, t4⟩ := source_sound (P := P) hR (k := j.size) (v := .sl id off j.size len full) (n := len) (xs := (cs.drop off).take (len * j.size)) (by simp [source, hg, hle]) hsv
            obtain ⟨ol, ov, orun⟩ := t4 len (Nat.le_refl _)
            rw [show ((cs.drop off).take (len * j.size)).take (len * j.size) = (cs.drop off).take (len * j.size) from List.take_of_length_le (by omega)] at ov
            rw [hs] at orun
            have hone : ∀ (i : Nat) (c : AV), ((cs.drop off).take (len * j.size) ++ xs)[i]? = some c → c.one = true := fun i c hc => by
              by_cases hi : i < ((cs.drop off).take (len * j.size)).length
              · rw [List.getElem?_append_left hi] at hc; exact t3 i c hc
              · rw [List.getElem?_append_right (by omega)] at hc; exact s3 _ c hc
            split at hev
            · rename_i hfull
              cases hev
              have hcap := hfl hfull
              subst hcap
              obtain ⟨nc, el, rest, g1, g2, g3⟩ := hgrow base cap cap ol hs (by omega) hmax hb orun
              obtain ⟨φ', k1, k2, k3⟩ := grown' (bar := bar) (el := el) (p := 0) (k := j.size) (m := cap + n) (rest := rest) hR.drew hbar (ov.append yv) hone (by rw [List.length_append, t2, s2, Nat.add_mul]) g2 g3 hzs
              exact ⟨_, _, φ', I, .inl g1, k1, k2, (Stp.of_heap (w := w) (w' := w.drew) rfl rfl rfl).trans k3⟩
            · split at hev
              · rename_i hc2
                cases hev
                by_cases hroom : len + n ≤ cap
                · -- there is room
                  have hsv' := hsv
                  rw [hs] at hsv'
                  cases hsv' with
                  | sl _ _ _ _ _ b q sz _ hφ h1 h2 h3 =>
                    obtain ⟨w', φ', m1, m2, m3, m4⟩ := inplace (P := P) (bar := bar) hR hbar hc2.1 hg hφ hle hc2.2 s2 yv s3 h2 hroom
                    refine ⟨_, w', φ', I, .inl (he w' _ ?_), m2, m3, m4⟩
                    rw [hs]
                    exact run_append_fit ht hj hu hdu (s1 w) (yr w rfl) hroom (by simpa using m1)
                  | sl0 => omega
                · obtain ⟨nc, el, rest, g1, g2, g3⟩ := hgrow base len cap ol hs (by omega) hmax hb orun
                  obtain ⟨φ', k1, k2, k3⟩ := grown (bar := bar) (id := id) (el := el) (p := p - off) (k := j.size) (m := len + n) (rest := rest) hR.drew hbar hc2.1 (ov.append yv) hone (by rw [List.length_append, t2, s2, Nat.add_mul]) g2 g3 hzs
                  exact ⟨_, _, φ', I, .inl g1, k1, k2, (Stp.of_heap (w := w) (w' := w.drew) rfl rfl rfl).trans k3⟩
              · cases hev
          · cases hev
        · cases hev
    · cases hev
  · cases hev

end
end Go.Ev
namespace Go.Ev
open Go

section
variable {P : Program} {G : Glob} {φ : Phi} {I : Imm} {e : Env} {h : H} {w : World} {ρ : Operand → Value} {bar : Nat} {o : Oper}

theorem op_cpy (hR : R φ I h w) {d s : Operand} {t u : TypeId} (ho : o.op = .call { callee := .builtin .copy, args := #[d, s], argTypes := #[t, u] }) {e' : TypeId} {j : TypeInfo} (ht : P.underlying t = some (.slice e')) (hj : P.info? e' = some j)
    {dv sv v : AV} {h' : H} {m : Nat} {xs : List AV} (hdv : VR φ I dv (ρ d)) (hsv : VR φ I sv (ρ s)) (hsrc : source j.size h sv = some (m, xs))
    (hev : cpyA bar j.size h dv m xs = some (v, h')) : OpOk P ρ o bar φ I h w v h' := by
  have he : ∀ w' y, (Builtin.copy_ #[t, u] o.type #[ρ d, ρ s]).run P w = .ok y w' → (execOp ρ o).run P w = .ok (.value y) w' := fun w' y hy => by
    simp only [execOp, ho, resolve, invoke, builtin]
    simp only [Sem.run_bind, Sem.run_pure, Result.andThen_ok]
    simp [hy]
  obtain ⟨s1, s2, s3, s4⟩ := source_sound (P := P) hR hsrc hsv
  have hrun : ∀ base len cap ys w', ρ d = .slice base len cap → (Builtin.firstCells j.size (Nat.min m len) (ρ s)).run P w = .ok ys w → (match base with | some a => storeCells a ys.toList | none => pure ()).run P w = .ok () w' →
      (execOp ρ o).run P w = .ok (.value (goInt (min m len : Nat))) w' := fun base len cap ys w' hd hf hst => by
    apply he
    simp only [Builtin.copy_, Sem.run_bind, run_underlying ht, Result.andThen_ok, sizeOf, typeInfo, run_program, hj, Sem.run_pure, List.getElem?_toArray, List.getElem?_cons_zero, List.getElem?_cons_succ, hd, s1 w, hf]
    cases base <;> simp only at hst
    · cases hst; rfl
    · simp [hst]
  unfold cpyA at hev
  split at hev
  · cases hev
    generalize hz : ρ d = z at hdv
    cases hdv
    obtain ⟨yl, yv, yr⟩ := s4 0 (Nat.zero_le _)
    have := hrun none 0 0 yl.toArray w hz (by simpa using yr w rfl) rfl
    exact .same hR (by simpa using this) (by constructor)
  · rename_i id off k' len full
    split at hev
    · rename_i hk
      subst hk
      simp only [Option.map_eq_some_iff, Prod.mk.injEq] at hev
      obtain ⟨h1, hw, rfl, rfl⟩ := hev
      obtain ⟨yl, yv, yr⟩ := s4 (min m len) (Nat.min_le_left _ _)
      unfold writeAt at hw
      split at hw
      · rename_i cs p hg
        split at hw
        · rename_i hc
          cases hw
          obtain ⟨c1, c2, c3, c4⟩ := hc
          generalize hz : ρ d = z at hdv
          cases hdv with
          | sl _ _ _ _ _ b q sz cap hφ g1 g2 g3 =>
            obtain ⟨w', e1, e2, e3⟩ := hR.write (P := P) (bar := bar) hg hφ c2 c3 c4 yv c1
            have := hrun _ _ _ yl.toArray w' hz (by simpa [Nat.min_def] using yr w rfl) (by simpa using e1)
            exact ⟨_, w', φ, I, .inl this, e2, by constructor, e3⟩
          | sl0 _ _ _ _ a y hφ =>
            -- nothing is copied
            have hx0 : xs.take (min m 0 * j.size) = [] := by simp
            have hyl : yl = [] := by
              have := yv.1
              simp at this
              exact List.eq_nil_of_length_eq_zero this.symm
            subst hyl
            have := hrun _ _ _ #[] w hz (by simpa [Nat.min_def] using yr w rfl) (by simp [storeCells])
            have hsame : h.set id (.cells (splice cs off (xs.take (min m 0 * j.size))) p) = h := by
              rw [hx0]
              simp only [splice, List.length_nil, Nat.add_zero, List.append_nil, List.take_append_drop]
              cases h with
              | mk n get =>
                simp only [H.set, H.mk.injEq, true_and]
                funext i
                split
                · rename_i hi; subst hi; exact hg.symm
                · rfl
            rw [hsame]
            exact .same hR this (by constructor)
        · cases hw
      · cases hw
    · cases hev
  · cases hev

theorem bytesOf_sound : ∀ (cs : List AV) (vs : List Value) (bs : List UInt8), VRL φ I cs vs → bytesOf? cs = some bs → ∀ acc : ByteArray,
    (forIn vs acc (fun (c : Value) (r : ByteArray) => (match c with
      | .int .u8 n => pure (ForInStep.yield (r.push (UInt8.ofNat n.toNat)))
      | _ => do
        stuck "bytesToString: byte expected"
        pure (ForInStep.yield r) : Sem (ForInStep ByteArray)))).run P w = .ok ⟨acc.data ++ bs.toArray⟩ w
  | [], vs, bs, h, hb, acc => by
    have : vs = [] := List.eq_nil_of_length_eq_zero h.1.symm
    subst this
    simp [bytesOf?] at hb; subst hb
    simp
  | c :: cs, vs, bs, h, hb, acc => by
    cases vs with
    | nil => have := h.1; simp at this
    | cons v vs =>
      have hc := h.2 0 c v rfl rfl
      have ht : VRL φ I cs vs := ⟨by simpa using h.1, fun i c' v' h1 h2 => h.2 (i + 1) c' v' (by simpa using h1) (by simpa using h2)⟩
      simp only [bytesOf?] at hb
      split at hb
      · rename_i b bs' hb1 hb2
        cases hb
        unfold byteOf? at hb1
        split at hb1
        · cases hb1
          cases hc
          simp only [List.forIn_cons, Sem.run_bind, Sem.run_pure, Result.andThen_ok]
          rw [bytesOf_sound cs vs bs' ht hb2]
          congr 1
          simp
        · cases hb1
      · cases hb

theorem op_cbs (hR : R φ I h w) {s d : TypeId} {x : Operand} (ho : o.op = .convert s d x) {e' : TypeId} (hs : P.underlying s = some (.slice e')) (he' : P.underlying e' = some (.int .u8)) (hd : P.underlying d = some .string)
    {v : AV} {n : Nat} {cs : List AV} {bs : List UInt8} (hx : VR φ I v (ρ x)) (hns : ∀ s, v ≠ .str s) (hsrc : source 1 h v = some (n, cs)) (hb : bytesOf? cs = some bs) : OpOk P ρ o bar φ I h w (.str ⟨bs.toArray⟩) h := by
  have he : execOp ρ o = (do pure (Next.value (← convert s d (ρ x))) : Sem Next) := by simp only [execOp, ho]
  obtain ⟨s1, s2, s3, s4⟩ := source_sound (P := P) hR hsrc hx
  obtain ⟨yl, yv, yr⟩ := s4 n (Nat.le_refl _)
  rw [show cs.take (n * 1) = cs from List.take_of_length_le (by omega)] at yv
  have yr := yr w rfl
  have hl := s1 w
  have hloop := bytesOf_sound (P := P) (w := w) cs yl bs yv hb ByteArray.empty
  generalize hz : ρ x = z at hx yr hl
  have hshape : (z = .slice none 0 0 ∧ cs = [] ) ∨ (∃ a cap, z = .slice (some a) n cap) := by
    cases hx <;> try (simp [source] at hsrc; done)
    · exact absurd rfl (hns _)
    · simp [source] at hsrc; exact .inl ⟨rfl, hsrc.2⟩
    all_goals
      right
      cases hl; exact ⟨_, _, rfl⟩
  refine .of hR he (x := .string ⟨bs.toArray⟩) ?_ (.str _)
  rw [hz]
  rcases hshape with ⟨rfl, rfl⟩ | ⟨a, cap, rfl⟩
  · simp [bytesOf?] at hb; subst hb
    simp [convert, run_underlying hs, run_underlying hd, run_underlying he', Conv.bytesToString]
    rfl
  · simp only [Builtin.firstCells, Nat.mul_one] at yr
    have : (ByteArray.empty.data ++ bs.toArray) = bs.toArray := by
      show (#[] : Array UInt8) ++ bs.toArray = bs.toArray
      simp
    rw [this] at hloop
    simp only [convert, Sem.run_bind, run_underlying hs, run_underlying hd, run_underlying he', Result.andThen_ok, Conv.bytesToString, yr]
    rw [← Array.forIn_toList]
    refine Eq.trans (congrArg (fun r => Result.andThen r _) hloop) ?_
    simp

theorem op_csb (hR : R φ I h w) (hbar : bar ≤ h.n) {s d : TypeId} {x : Operand} (ho : o.op = .convert s d x) {ds : TypeDesc} {e' : TypeId} (hs : P.underlying s = some ds) (he' : P.underlying e' = some (.int .u8)) (hd : P.underlying d = some (.slice e'))
    {t : ByteArray} (hx : VR φ I (.str t) (ρ x)) : OpOk P ρ o bar φ I h w (.sl h.n 0 1 t.size false) (h.alloc (.cells (t.data.toList.map fun b => .int .u8 b.toNat) 0)) := by
  have he : execOp ρ o = (do pure (Next.value (← convert s d (ρ x))) : Sem Next) := by simp only [execOp, ho]
  generalize hz : ρ x = z at hx
  cases hx
  let q : Question := .appendCap t.size 0 e'
  let c := q.cut (w.tape w.drawn q)
  have hc : t.size ≤ c := by simp only [c, q, Question.cut]; omega
  let rc : Array Value := (t.data.map fun b => Value.int .u8 b.toNat) ++ Array.replicate (c - t.size) (.int .u8 0)
  have hrcs : rc.size = c := by
    have : t.data.size = t.size := rfl
    simp [rc]; omega
  let w1 : World := w.drew.alloc (.cells rc e')
  let w2 : World := w1.freeze ⟨w.heap.size, rc.size, none⟩ 1
  have h1 : w1.heap[w.heap.size]? = some (.cells rc e' (0, 0)) := heap_alloc_new w.drew _
  have h2 : w2.heap[w.heap.size]? = some (.cells rc e' (rc.size, rc.size + 1)) := by
    simp only [w2, World.freeze]
    simp [Array.getElem?_modify, h1]
  have h3 : ∀ k, k ≠ w.heap.size → w2.heap[k]? = w.heap[k]? := fun k hk => by
    have e1 : w2.heap[k]? = w1.heap[k]? := by
      simp only [w2, World.freeze]
      simp [Array.getElem?_modify, Ne.symm hk]
    rw [e1]
    show (w.heap.push (.cells rc e'))[k]? = _
    rw [Array.getElem?_push]; simp [hk]
  have h4 : w2.heap.size = w.heap.size + 1 := by
    simp only [w2, World.freeze]
    simp [w1]
  have hrun : (convert s d (.string t)).run P w = .ok (.slice (some ⟨w.heap.size, 0, none⟩) t.size c) w2 := by
    have hsh : w1.shape? w.heap.size = some (e', rc.size) := by simp [World.shape?, h1]
    have hconv : (Conv.stringToBytes e' t).run P w = .ok (.slice (some ⟨w.heap.size, 0, none⟩) t.size c) w2 := by
      have hms : (markStringish ⟨w.heap.size, 0, none⟩).run P w1 = .ok () w2 := by
        simp only [markStringish, Sem.run_bind, run_shape, hsh, Result.andThen_ok, run_freeze]; rfl
      simp only [Conv.stringToBytes, Sem.run_bind, run_choose, Question.forced, Bool.false_eq_true, if_false, Result.andThen_ok, newRow, run_newObj, Sem.run_pure]
      refine Eq.trans (congrArg (fun r => Result.andThen r _) hms) ?_
      rfl
    cases ds <;> simp only [convert, Sem.run_bind, run_underlying hs, run_underlying hd, run_underlying he', Result.andThen_ok, hconv]
  obtain ⟨φ', k1, k2, k3⟩ := hR.allocF bar hbar rc e' (rc.size, rc.size + 1) (fun j hj hf => by unfold frz at hf; omega) (t.data.toList.map fun b => .int .u8 b.toNat) 0 (by
      have : t.data.size = t.size := rfl
      simp [hrcs]; omega) (fun j cc hcc => by
        rw [List.getElem?_map] at hcc
        cases hb : t.data.toList[j]? with
        | none => rw [hb] at hcc; cases hcc
        | some b =>
          rw [hb] at hcc; cases hcc
          have hlt : j < t.data.size := by simpa using (List.getElem?_eq_some_iff.1 hb).1
          refine ⟨rfl, .int .u8 b.toNat, ?_, .int _ _⟩
          rw [Array.getElem?_append_left (by simpa using hlt)]
          simp at hb ⊢
          simp [hb]) w2 h3 h2 (by omega) (by simp [w2, World.freeze, w1]; rfl) (by simp [w2, World.freeze, w1]; rfl)
  refine ⟨.slice (some ⟨w.heap.size, 0, none⟩) t.size c, w2, φ', I, .inl ?_, k2, ?_, k3⟩
  · rw [he, hz]; simp [hrun]
  · simpa using VR.sl (φ := φ') (I := I) h.n 0 1 t.size false w.heap.size 0 rc.size c k1 hc (by omega) (fun hf => by cases hf)

theorem op_next (hR : R φ I h w) {x : Operand} (ho : o.op = .next x true) {id : Nat} {s : ByteArray} {pos : Nat} (hbar : bar ≤ id) (hx : VR φ I (.ptr id 0) (ρ x)) (hg : h.get id = some (.iter s pos)) {v : AV} {h' : H}
    (hev : (if pos < s.size then some (AV.tup [.bool true, goI pos, .int .i32 (Utf8.decode s pos).1], h.set id (.iter s (pos + (Utf8.decode s pos).2))) else some (.tup [.bool false], h)) = some (v, h')) :
    OpOk P ρ o bar φ I h w v h' := by
  have he : execOp ρ o = (do pure (Next.value (← Instr.next (ρ x) true o.type)) : Sem Next) := by simp only [execOp, ho]
  obtain ⟨b, g1, g2⟩ := hR.obj id _ hg
  generalize hz : ρ x = z at hx
  cases hx with
  | ptr _ _ b' q sz hφ =>
    rw [g1] at hφ; cases hφ
    have hget : (getObj b).run P w = .ok (.stringIter s pos) w := by simp [getObj, Sem.run, g2]
    split at hev
    · rename_i hlt
      cases hev
      refine ⟨.tuple #[.bool true, goInt pos, .int .i32 (Utf8.decode s pos).1], { w with heap := w.heap.setIfInBounds b (.stringIter s (pos + (Utf8.decode s pos).2)) }, φ, I, .inl ?_, ?_, ?_, ?_⟩
      · rw [he]
        have hset : (setObj b (.stringIter s (pos + (Utf8.decode s pos).2))).run P w = .ok () { w with heap := w.heap.setIfInBounds b (.stringIter s (pos + (Utf8.decode s pos).2)) } := by simp [setObj, Sem.run, g2]
        simp [hz, Instr.next, hget, hlt, hset]
      · have hblt : b < w.heap.size := (Array.getElem?_eq_some_iff.1 g2).1
        have hoth : ∀ k, k ≠ b → (w.heap.setIfInBounds b (.stringIter s (pos + (Utf8.decode s pos).2)))[k]? = w.heap[k]? := fun k hk => Array.getElem?_setIfInBounds_ne (Ne.symm hk)
        have hI : ∀ j v, I b j ≠ some v := fun j v hv => by
          have := hR.imm _ _ _ hv
          simp [World.cell?, g2] at this
        refine ⟨fun i hi => ?_, hR.dom, fun i y hy => ?_, fun i j y z b' s' t' s'' t'' hy hz hi hj => ?_, fun b' j v hv => ?_⟩
        · have : i ≠ id := fun hii => by subst hii; rw [hR.wf i hi] at hg; cases hg
          simp only [H.set, this, if_false]; exact hR.wf i hi
        · simp only [H.set] at hy
          by_cases hi : i = id
          · simp only [hi, if_true, Option.some.injEq] at hy; subst hy
            exact ⟨b, by rw [hi]; exact g1, by simp [hblt]⟩
          · simp only [hi, if_false] at hy
            refine (hR.obj i y hy).keep (.refl _) (.refl _) (fun b' s' t' hb' => hoth b' (fun hbb => ?_)) (fun _ _ _ _ _ _ hv => hv)
            subst hbb
            exact hi (hR.inj i id y _ _ _ _ _ _ hy hg hb' g1)
        · have hy' : ∃ y', h.get i = some y' := by
            simp only [H.set] at hy
            by_cases hii : i = id
            · exact ⟨_, by rw [hii]; exact hg⟩
            · simp only [hii, if_false] at hy; exact ⟨_, hy⟩
          have hz' : ∃ z', h.get j = some z' := by
            simp only [H.set] at hz
            by_cases hjj : j = id
            · exact ⟨_, by rw [hjj]; exact hg⟩
            · simp only [hjj, if_false] at hz; exact ⟨_, hz⟩
          obtain ⟨y', hy'⟩ := hy'
          obtain ⟨z', hz'⟩ := hz'
          exact hR.inj i j y' z' b' s' t' s'' t'' hy' hz' hi hj
        · have := hR.imm b' j v hv
          have hb : b' ≠ b := fun hbb => hI j v (hbb ▸ hv)
          simp only [World.cell?] at this ⊢
          rw [hoth b' hb]; exact this
      · have : VRL φ I [.bool true, goI pos, .int .i32 (Utf8.decode s pos).1] [.bool true, goInt pos, .int .i32 (Utf8.decode s pos).1] := .cons (.bool _) (.cons (.int _ _) (.cons (.int _ _) .nil))
        exact .tup _ _ rfl (fun j c v h1 h2 => this.2 j c v h1 (by simpa using h2))
      · refine ⟨.refl _, .refl _, by simp, fun k hk hf => Array.getElem?_setIfInBounds_ne (fun hbk => hf id hbar (by rw [hg]; simp) _ g1 hbk), fun i y hi hl hy => .inr ⟨i, y, hi, ?_, hy, rfl⟩, fun i hi => ?_, Nat.le_refl _, rfl, rfl, fun _ _ _ hv => .inl hv⟩
        · simp only [H.set] at hl
          split at hl
          · rename_i hii; rw [hii, hg]; simp
          · exact hl
        · have : i ≠ id := by omega
          simp [H.set, this]
    · rename_i hlt
      cases hev
      refine .of hR he (x := .tuple #[.bool false]) (by simp [hz, Instr.next, hget, hlt]) ?_
      have : VRL φ I [.bool false] [.bool false] := .cons (.bool _) .nil
      exact .tup _ _ rfl (fun j c v h1 h2 => this.2 j c v h1 (by simpa using h2))

end
end Go.Ev
namespace Go.Ev
open Go

section
variable {P : Program} {G : Glob} {φ : Phi} {I : Imm} {e : Env} {h h' : H} {w : World} {a : Act} {bar : Nat} {o : Oper}

theorem optEv_sound (hE : EnvR φ I e a.tmps) (hG : GR G I) {x : Option Operand} {y : Option Opd} {v : Option AV} (hx : compOpt G x = some y) (hv : optEv e y = some v) : OptR φ I a.eval v x := by
  cases x with
  | none =>
    simp only [compOpt, Option.some.injEq] at hx; subst hx
    simp only [optEv, Option.some.injEq] at hv; subst hv
    trivial
  | some x =>
    simp only [compOpt, Option.map_eq_some_iff] at hx
    obtain ⟨y', hy', rfl⟩ := hx
    simp only [optEv] at hv
    split at hv
    · rename_i u hu
      cases hv
      exact opd_sound hE hG hy' hu
    · cases hv

set_option maxHeartbeats 1000000 in
theorem op_sound (hR : R φ I h w) (hE : EnvR φ I e a.tmps) (hG : GR G I) (hbar : bar ≤ h.n) {iop : IOp} (hc : compOp P G o.op = some iop) {v : AV} (hev : evOp bar e h iop = some (v, h')) :
    OpOk P a.eval o bar φ I h w v h' := by
  have S : ∀ {x : Operand} {y : Opd} {v : AV}, compOpd G x = some y → y.ev e = some v → VR φ I v (a.eval x) := fun hx hv => opd_sound hE hG hx hv
  generalize hop : o.op = op at hc
  cases op with
  | move x =>
    simp only [compOp, Option.map_eq_some_iff] at hc
    obtain ⟨y, hy, rfl⟩ := hc
    simp only [evOp, Option.map_eq_some_iff, Prod.mk.injEq] at hev
    obtain ⟨u, hu, rfl, rfl⟩ := hev
    exact op_mov hR (.inl hop) (S hy hu)
  | assign x =>
    simp only [compOp, Option.map_eq_some_iff] at hc
    obtain ⟨y, hy, rfl⟩ := hc
    simp only [evOp, Option.map_eq_some_iff, Prod.mk.injEq] at hev
    obtain ⟨u, hu, rfl, rfl⟩ := hev
    exact op_mov hR (.inr hop) (S hy hu)
  | pick c x y =>
    simp only [compOp, Option.bind_eq_bind, Option.bind_eq_some_iff, Option.some.injEq] at hc
    obtain ⟨c', hc', x', hx', y', hy', rfl⟩ := hc
    simp only [evOp] at hev
    split at hev
    · rename_i t u v' h1 h2 h3
      cases hev
      exact op_pick hR hop (S hc' h1) (S hx' h2) (S hy' h3)
    · cases hev
  | alloc t =>
    simp only [compOp, Option.bind_eq_bind, Option.bind_eq_some_iff, Option.some.injEq] at hc
    obtain ⟨i, hi, z, hz, zc, hzc, rfl⟩ := hc
    simp only [evOp] at hev
    split at hev
    · rename_i hone
      cases hev
      exact op_alloc hR hbar hop hi hz hzc hone
    · cases hev
  | box t x =>
    simp only [compOp, Option.map_eq_some_iff] at hc
    obtain ⟨y, hy, rfl⟩ := hc
    simp only [evOp] at hev
    split at hev
    · rename_i u hu
      split at hev
      · rename_i hone
        cases hev
        exact op_box hR hbar hop (S hy hu) hone
      · cases hev
    · cases hev
  | build t ps =>
    simp only [compOp, Option.bind_eq_bind, Option.bind_eq_some_iff] at hc
    obtain ⟨i, hi, z, hz, zc, hzc, d, hd, hc⟩ := hc
    have key : ∀ place qs, ((∃ fs, P.underlying t = some (.struct fs) ∧ place = szs P fs ∧ fs.toList.all (fun f => (P.info? f.type).isSome) = true) ∨ (∃ n e' j, P.underlying t = some (.array n e') ∧ P.info? e' = some j ∧ place = fun k => some (k * j.size, j.size))) →
        compParts G place ps.toList = some qs → evOp bar e h (.build zc qs) = some (v, h') → OpOk P a.eval o bar φ I h w v h' := fun place qs hpl hq hev => by
      simp only [evOp] at hev
      split at hev
      · rename_i vs hvs
        simp only [Option.map_eq_some_iff, Prod.mk.injEq] at hev
        obtain ⟨cs, hcs, rfl, rfl⟩ := hev
        exact op_build hR hop hi hz hzc hpl hq hvs hcs (fun x v y h1 h2 => S h1 h2)
      · cases hev
    split at hc
    · rename_i fs
      split at hc
      · rename_i hall
        simp only [Option.bind_eq_some_iff, Option.some.injEq] at hc
        obtain ⟨qs, hq, rfl⟩ := hc
        exact key _ qs (.inl ⟨fs, hd, rfl, hall⟩) hq hev
      · cases hc
    · rename_i n e'
      simp only [Option.bind_eq_some_iff, Option.some.injEq] at hc
      obtain ⟨j, hj, qs, hq, rfl⟩ := hc
      exact key _ qs (.inr ⟨n, e', j, hd, hj, rfl⟩) hq hev
    · cases hc
  | buildSlice t len ps =>
    simp only [compOp, Option.bind_eq_bind, Option.bind_eq_some_iff] at hc
    obtain ⟨d, hd, hc⟩ := hc
    split at hc
    · rename_i e'
      simp only [Option.bind_eq_some_iff] at hc
      obtain ⟨j, hj, hc⟩ := hc
      split at hc
      · rename_i hlen
        simp only [Option.bind_eq_some_iff] at hc
        obtain ⟨z, hz, zc, hzc, hc⟩ := hc
        split at hc
        · rename_i hzl
          simp only [Option.bind_eq_some_iff, Option.some.injEq] at hc
          obtain ⟨qs, hq, rfl⟩ := hc
          simp only [evOp] at hev
          split at hev
          · rename_i vs hvs
            split at hev
            · rename_i cs hcs
              split at hev
              · rename_i hone
                cases hev
                exact op_bslice hR hbar hop hd hj hz hzc hzl hlen.1 hlen.2 hq hvs hcs hone.1 (fun x v y h1 h2 => S h1 h2)
              · cases hev
            · cases hev
          · cases hev
        · cases hc
      · cases hc
    · cases hc
  | load t x =>
    simp only [compOp, Option.bind_eq_bind, Option.bind_eq_some_iff, Option.some.injEq] at hc
    obtain ⟨i, hi, d, hd, y, hy, rfl⟩ := hc
    cases hyv : y.ev e with
    | none => simp [evOp, hyv] at hev
    | some u => exact op_ld hR hop hd hi (S hy hyv) hyv hev
  | store t x y =>
    simp only [compOp, Option.bind_eq_bind, Option.bind_eq_some_iff, Option.some.injEq] at hc
    obtain ⟨i, hi, x', hx', y', hy', rfl⟩ := hc
    simp only [evOp] at hev
    split at hev
    · rename_i id off v' h1 h2
      split at hev
      · rename_i hn
        simp only [Option.map_eq_some_iff, Prod.mk.injEq] at hev
        obtain ⟨h1', hw, rfl, rfl⟩ := hev
        exact op_st hR hop hi (S hx' h1) (S hy' h2) hn hw
      · cases hev
    · cases hev
  | nilCheck x =>
    simp only [compOp, Option.map_eq_some_iff] at hc
    obtain ⟨y, hy, rfl⟩ := hc
    simp only [evOp] at hev
    split at hev
    · rename_i u hu
      split at hev
      · rename_i hn
        cases hev
        exact op_nilc hR hop (S hy hu) hn
      · cases hev
    · cases hev
  | binOp op xt x y yt =>
    simp only [compOp, Option.bind_eq_bind, Option.bind_eq_some_iff] at hc
    obtain ⟨d, hd, hc⟩ := hc
    have kbin : ∀ x' y', compOpd G x = some x' → compOpd G y = some y' → evOp bar e h (.bin op x' y') = some (v, h') → OpOk P a.eval o bar φ I h w v h' := fun x' y' hx' hy' hev => by
      simp only [evOp] at hev
      split at hev
      · rename_i u1 u2 h1 h2
        simp only [Option.map_eq_some_iff, Prod.mk.injEq] at hev
        obtain ⟨r, hr, rfl, rfl⟩ := hev
        exact op_bin hR hop (S hx' h1) (S hy' h2) hr
      · cases hev
    have keqb : ∀ neg x' y', d = .bool → (op = if neg then .neq else .eql) → compOpd G x = some x' → compOpd G y = some y' → evOp bar e h (.eqb neg x' y') = some (v, h') → OpOk P a.eval o bar φ I h w v h' := fun neg x' y' hdb hop' hx' hy' hev => by
      subst hdb
      simp only [evOp] at hev
      split at hev
      · rename_i b1 b2 h1 h2
        cases hev
        exact op_eqb hR hop hd hop' (S hx' h1) (S hy' h2)
      · cases hev
    have kno : compEq P G op xt x y d = some iop → OpOk P a.eval o bar φ I h w v h' := fun hc => by
      unfold compEq at hc
      split at hc
      · rename_i kd hk
        split at hc
        · rename_i x' hx'
          obtain ⟨neg, hop', rfl⟩ := eqnOp_cases hc
          simp only [evOp] at hev
          split at hev
          · rename_i u hu
            simp only [Option.map_eq_some_iff, Prod.mk.injEq] at hev
            obtain ⟨t, ht, rfl, rfl⟩ := hev
            exact op_eqn hR hop hd hk hop' (S hx' hu) ht (fun c => rfl)
          · cases hev
        · cases hc
      · split at hc
        · rename_i x' y' ks hx' hy' hks
          split at hc
          · rename_i hg
            obtain ⟨neg, hop', rfl⟩ := eqaOp_cases hc
            simp only [evOp] at hev
            split at hev
            · rename_i cs ds h1 h2
              simp only [Option.map_eq_some_iff, Prod.mk.injEq] at hev
              obtain ⟨t, ht, rfl, rfl⟩ := hev
              exact op_eqa hR hop hd hks hg.1 hg.2 hop' (S hx' h1) (S hy' h2) ht
            · cases hev
          · cases hc
        · cases hc
    split at hc
    · simp only [Option.bind_eq_some_iff, Option.some.injEq] at hc
      obtain ⟨x', hx', y', hy', rfl⟩ := hc
      exact kbin x' y' hx' hy' hev
    · simp only [Option.bind_eq_some_iff, Option.some.injEq] at hc
      obtain ⟨x', hx', y', hy', rfl⟩ := hc
      exact kbin x' y' hx' hy' hev
    · split at hc
      · simp only [Option.bind_eq_some_iff, Option.some.injEq] at hc
        obtain ⟨x', hx', y', hy', rfl⟩ := hc
        exact keqb false x' y' rfl rfl hx' hy' hev
      · simp only [Option.bind_eq_some_iff, Option.some.injEq] at hc
        obtain ⟨x', hx', y', hy', rfl⟩ := hc
        exact keqb true x' y' rfl rfl hx' hy' hev
      · cases hc
    · exact kno hc
  | unOp op t x =>
    simp only [compOp, Option.bind_eq_bind, Option.bind_eq_some_iff, Option.some.injEq] at hc
    obtain ⟨x', hx', rfl⟩ := hc
    simp only [evOp] at hev
    split at hev
    · rename_i u hu
      simp only [Option.map_eq_some_iff, Prod.mk.injEq] at hev
      obtain ⟨t, ht, rfl, rfl⟩ := hev
      exact op_un hR hop (S hx' hu) ht
    · cases hev
  | convert s d x =>
    simp only [compOp, Option.bind_eq_bind, Option.bind_eq_some_iff] at hc
    obtain ⟨ds, hs, dd, hd, hc⟩ := hc
    split at hc
    · rename_i k
      simp only [Option.bind_eq_some_iff, Option.some.injEq] at hc
      obtain ⟨x', hx', rfl⟩ := hc
      simp only [evOp] at hev
      split at hev
      · rename_i k' n hu
        cases hev
        exact op_cint hR hop hs hd (S hx' hu)
      · cases hev
    · split at hc
      · rename_i e'
        simp only [Option.bind_eq_some_iff] at hc
        obtain ⟨de, hde, hc⟩ := hc
        split at hc
        · simp only [Option.bind_eq_some_iff, Option.some.injEq] at hc
          obtain ⟨x', hx', rfl⟩ := hc
          simp only [evOp] at hev
          split at hev
          · rename_i u hu
            split at hev
            · rename_i n cs hsrc
              split at hev
              · rename_i bs hb
                split at hev
                · cases hev
                · rename_i hns
                  cases hev
                  exact op_cbs hR hop hs hde hd (S hx' hu) (fun s hs' => hns s hs') hsrc hb
              · cases hev
            · cases hev
          · cases hev
        · cases hc
      · simp only [Option.bind_eq_some_iff, Option.some.injEq] at hc
        obtain ⟨x', hx', rfl⟩ := hc
        simp only [evOp] at hev
        split at hev
        · rename_i k n hu
          cases hev
          exact op_cstr hR hop hs hd rfl (S hx' hu)
        · rename_i t hu
          cases hev
          exact op_cstr hR hop hs hd rfl (S hx' hu)
        · cases hev
    · rename_i e'
      simp only [Option.bind_eq_some_iff] at hc
      obtain ⟨de, hde, hc⟩ := hc
      split at hc
      · simp only [Option.bind_eq_some_iff, Option.some.injEq] at hc
        obtain ⟨x', hx', rfl⟩ := hc
        simp only [evOp] at hev
        split at hev
        · rename_i t hu
          cases hev
          exact op_csb hR hbar hop hs hde hd (S hx' hu)
        · cases hev
      · cases hc
    · cases hc
  | makeInterface t x =>
    simp only [compOp, Option.bind_eq_bind, Option.bind_eq_some_iff] at hc
    obtain ⟨d, hd, hc⟩ := hc
    split at hc
    · cases hc
    · rename_i hn
      simp only [Option.bind_eq_some_iff, Option.some.injEq] at hc
      obtain ⟨x', hx', rfl⟩ := hc
      simp only [evOp] at hev
      split at hev
      · rename_i u hu
        cases hev
        exact op_mkif hR hop hd (fun ms hm => hn ms hm) (S hx' hu)
      · cases hev
  | makeFunc fn first caps =>
    unfold compOp at hc
    split at hc <;> try (cases hc; done)
    all_goals rename_i heq
    all_goals first
      | (cases heq; done)
      | skip
    all_goals
      cases heq
      simp only [Option.bind_eq_bind, Option.bind_eq_some_iff, Option.some.injEq] at hc
      obtain ⟨l, hl, rfl⟩ := hc
      simp only [evOp] at hev
      split at hev
      · rename_i vs hvs
        cases hev
        exact op_mkfn hR hop (opds_sound hE hG _ _ _ hl hvs)
      · cases hev
  | makeSlice t x y =>
    simp only [compOp, Option.bind_eq_bind, Option.bind_eq_some_iff] at hc
    obtain ⟨d, hd, hc⟩ := hc
    split at hc
    · rename_i e'
      simp only [Option.bind_eq_some_iff] at hc
      obtain ⟨j, hj, z, hz, zc, hzc, hc⟩ := hc
      split at hc
      · rename_i hzl
        simp only [Option.bind_eq_some_iff, Option.some.injEq] at hc
        obtain ⟨x', hx', y', hy', rfl⟩ := hc
        simp only [evOp] at hev
        split at hev
        · rename_i l c h1 h2
          split at hev
          · rename_i hcond
            cases hev
            obtain ⟨c1, c2, c3, c4, c5, c6, c7⟩ := hcond
            exact op_mksl hR hbar hop hd hj hz hzc hzl.1 c6 (S hx' h1) (S hy' h2) c1 c2 c3 c4 c7
          · cases hev
        · cases hev
      · cases hc
    · cases hc
  | slice t x lo hi mx =>
    simp only [compOp, Option.bind_eq_bind, Option.bind_eq_some_iff] at hc
    obtain ⟨d, hd, hc⟩ := hc
    split at hc
    · split at hc
      · simp only [Option.bind_eq_some_iff, Option.some.injEq] at hc
        obtain ⟨x', hx', lo', hlo, hi', hhi, rfl⟩ := hc
        simp only [evOp] at hev
        split at hev
        · rename_i s a1 b1 h1 h2 h3
          simp only [Option.map_eq_some_iff, Prod.mk.injEq] at hev
          obtain ⟨r, hr, rfl, rfl⟩ := hev
          exact op_slc_str hR hop hd hr (S hx' h1) (optEv_sound hE hG hlo h2) (optEv_sound hE hG hhi h3)
        · cases hev
      · cases hc
    · rename_i e'
      simp only [Option.bind_eq_some_iff, Option.some.injEq] at hc
      obtain ⟨j, hj, x', hx', lo', hlo, hi', hhi, mx', hmx, rfl⟩ := hc
      simp only [evOp] at hev
      split at hev
      · rename_i u a1 b1 c1 h1 h2 h3 h4
        simp only [Option.map_eq_some_iff, Prod.mk.injEq] at hev
        obtain ⟨r, hr, rfl, rfl⟩ := hev
        exact op_slc_sl hR hop hd hj hr (S hx' h1) (optEv_sound hE hG hlo h2) (optEv_sound hE hG hhi h3) (optEv_sound hE hG hmx h4)
      · cases hev
    · rename_i n e'
      split at hc
      · simp only [Option.bind_eq_some_iff, Option.some.injEq] at hc
        obtain ⟨j, hj, x', hx', lo', hlo, hi', hhi, rfl⟩ := hc
        simp only [evOp] at hev
        split at hev
        · rename_i id off a1 b1 h1 h2 h3
          split at hev
          · rename_i l u cs p g1 g2 g3
            split at hev
            · rename_i hcond
              cases hev
              exact op_slarr hR hop hd hj (S hx' h1) (optEv_sound hE hG hlo h2) (optEv_sound hE hG hhi h3) g1 g2 g3 hcond.1 hcond.2.1 hcond.2.2
            · cases hev
          · cases hev
        · cases hev
      · cases hc
    · cases hc
  | fieldAddr t x f =>
    simp only [compOp, Option.bind_eq_bind, Option.bind_eq_some_iff] at hc
    obtain ⟨d, hd, hc⟩ := hc
    split at hc
    · rename_i fs
      simp only [Option.bind_eq_some_iff] at hc
      obtain ⟨fd, hf, i, hi, hc⟩ := hc
      split at hc
      · cases hc
      · rename_i hs
        simp only [Option.bind_eq_some_iff, Option.some.injEq] at hc
        obtain ⟨x', hx', rfl⟩ := hc
        simp only [evOp] at hev
        split at hev
        · rename_i id off hu
          cases hev
          exact op_fadr hR hop hd hf hi hs rfl (S hx' hu)
        · rename_i cs off hu
          cases hev
          exact op_fadr hR hop hd hf hi hs rfl (S hx' hu)
        · cases hev
    · cases hc
  | field t x f =>
    simp only [compOp, Option.bind_eq_bind, Option.bind_eq_some_iff] at hc
    obtain ⟨d, hd, hc⟩ := hc
    split at hc
    · rename_i fs
      simp only [Option.bind_eq_some_iff, Option.some.injEq] at hc
      obtain ⟨fd, hf, i, hi, d', hd', x', hx', rfl⟩ := hc
      simp only [evOp] at hev
      split at hev
      · rename_i cs hu
        simp only [Option.map_eq_some_iff, Prod.mk.injEq] at hev
        obtain ⟨r, hr, rfl, rfl⟩ := hev
        exact op_fld hR hop hd hf hi hd' (S hx' hu) hr
      · cases hev
    · cases hc
  | indexAddr t x i =>
    simp only [compOp, Option.bind_eq_bind, Option.bind_eq_some_iff] at hc
    obtain ⟨d, hd, hc⟩ := hc
    split at hc
    · rename_i n e'
      simp only [Option.bind_eq_some_iff, Option.some.injEq] at hc
      obtain ⟨j, hj, x', hx', i', hi', rfl⟩ := hc
      simp only [evOp] at hev
      split at hev
      · rename_i id off iv h1 h2
        simp only [Option.map_eq_some_iff, Prod.mk.injEq] at hev
        obtain ⟨r, hr, rfl, rfl⟩ := hev
        exact op_iadrA hR hop hd hj (by simp [hr]) (S hx' h1) (S hi' h2)
      · rename_i cs off iv h1 h2
        simp only [Option.map_eq_some_iff, Prod.mk.injEq] at hev
        obtain ⟨r, hr, rfl, rfl⟩ := hev
        exact op_iadrA hR hop hd hj (by simp [hr]) (S hx' h1) (S hi' h2)
      · cases hev
    · rename_i e'
      simp only [Option.bind_eq_some_iff, Option.some.injEq] at hc
      obtain ⟨j, hj, x', hx', i', hi', rfl⟩ := hc
      simp only [evOp] at hev
      split at hev
      · rename_i id off k' len _ iv h1 h2
        split at hev
        · rename_i hk
          simp only [Option.map_eq_some_iff, Prod.mk.injEq] at hev
          obtain ⟨r, hr, rfl, rfl⟩ := hev
          exact op_iadr hR hop hd hj (by simp [hk, hr]) (S hx' h1) (S hi' h2)
        · cases hev
      · rename_i k' len cs _ iv h1 h2
        split at hev
        · rename_i hk
          simp only [Option.map_eq_some_iff, Prod.mk.injEq] at hev
          obtain ⟨r, hr, rfl, rfl⟩ := hev
          exact op_iadr hR hop hd hj (by simp [hk, hr]) (S hx' h1) (S hi' h2)
        · cases hev
      · cases hev
    · cases hc
  | index t x i =>
    simp only [compOp, Option.bind_eq_bind, Option.bind_eq_some_iff] at hc
    obtain ⟨d, hd, hc⟩ := hc
    split at hc
    · rename_i n e'
      simp only [Option.bind_eq_some_iff, Option.some.injEq] at hc
      obtain ⟨j, hj, d', hd', x', hx', i', hi', rfl⟩ := hc
      simp only [evOp] at hev
      split at hev
      · rename_i cs iv h1 h2
        split at hev
        · rename_i q hq
          simp only [Option.map_eq_some_iff, Prod.mk.injEq] at hev
          obtain ⟨r, hr, rfl, rfl⟩ := hev
          exact op_idxA hR hop hd hj hd' (S hx' h1) (S hi' h2) hq hr
        · cases hev
      · cases hev
    · simp only [Option.bind_eq_some_iff, Option.some.injEq] at hc
      obtain ⟨x', hx', i', hi', rfl⟩ := hc
      simp only [evOp] at hev
      split at hev
      · rename_i s iv h1 h2
        split at hev
        · rename_i q hq
          simp only [Option.map_eq_some_iff, Prod.mk.injEq] at hev
          obtain ⟨b, hb, rfl, rfl⟩ := hev
          exact op_idxs hR hop hd (S hx' h1) (S hi' h2) hq hb
        · cases hev
      · cases hev
    · cases hc
  | range t x =>
    simp only [compOp, Option.bind_eq_bind, Option.bind_eq_some_iff] at hc
    obtain ⟨d, hd, hc⟩ := hc
    split at hc
    · simp only [Option.bind_eq_some_iff, Option.some.injEq] at hc
      obtain ⟨x', hx', rfl⟩ := hc
      simp only [evOp] at hev
      split at hev
      · rename_i s hu
        cases hev
        exact op_rng hR hbar hop hd (S hx' hu)
      · cases hev
    · cases hc
  | next x isS =>
    cases isS with
    | false => cases hc
    | true =>
      simp only [compOp, Option.bind_eq_bind, Option.bind_eq_some_iff, Option.some.injEq] at hc
      obtain ⟨x', hx', rfl⟩ := hc
      simp only [evOp] at hev
      split at hev
      · rename_i id hu
        split at hev
        · rename_i s pos hg
          split at hev
          · rename_i hb
            exact op_next hR hop hb (S hx' hu) hg hev
          · cases hev
        · cases hev
      · cases hev
  | typeAssert x xt t ok =>
    cases ok with
    | false => cases hc
    | true =>
      simp only [compOp, Option.bind_eq_bind, Option.bind_eq_some_iff] at hc
      obtain ⟨d, hd, hc⟩ := hc
      split at hc
      · cases hc
      · rename_i hn
        simp only [Option.bind_eq_some_iff, Option.some.injEq] at hc
        obtain ⟨i, hi, z, hz, zc, hzc, x', hx', rfl⟩ := hc
        simp only [evOp] at hev
        split at hev
        · rename_i t' u hu
          split at hev <;> (rename_i ht; cases hev; exact op_tas hR hop hd (fun ms hm => hn ms hm) hi hz hzc (by simp [ht]) (S hx' hu))
        · rename_i hu
          cases hev
          exact op_tas hR hop hd (fun ms hm => hn ms hm) hi hz hzc rfl (S hx' hu)
        · cases hev
  | extract x i =>
    simp only [compOp, Option.bind_eq_bind, Option.bind_eq_some_iff, Option.some.injEq] at hc
    obtain ⟨x', hx', rfl⟩ := hc
    simp only [evOp] at hev
    split at hev
    · rename_i vs hu
      simp only [Option.map_eq_some_iff, Prod.mk.injEq] at hev
      obtain ⟨r, hr, rfl, rfl⟩ := hev
      exact op_ext hR hop (S hx' hu) hr
    · cases hev
  | call c =>
    unfold compOp at hc
    split at hc
    all_goals first
      | (rename_i heq; cases heq; done)
      | (cases hc; done)
      | skip
    · rename_i heq
      cases heq
      simp only [Option.bind_eq_bind, Option.bind_eq_some_iff, Option.some.injEq] at hc
      obtain ⟨f, hf, l, hl, rfl⟩ := hc
      cases hev
    · rename_i x t heq
      cases heq
      simp only [Option.bind_eq_bind, Option.bind_eq_some_iff] at hc
      obtain ⟨d, hd, hc⟩ := hc
      split at hc
      · simp only [Option.bind_eq_some_iff, Option.some.injEq] at hc
        obtain ⟨x', hx', rfl⟩ := hc
        simp only [evOp] at hev
        split at hev
        · rename_i s hu
          cases hev
          exact op_len hR hop hd (S hx' hu) (.inl ⟨rfl, s, rfl, rfl⟩)
        · cases hev
      · rename_i e'
        simp only [Option.bind_eq_some_iff, Option.some.injEq] at hc
        obtain ⟨x', hx', rfl⟩ := hc
        simp only [evOp] at hev
        split at hev
        · rename_i hu
          cases hev
          exact op_len hR hop hd (S hx' hu) (.inr ⟨⟨e', rfl⟩, .inl ⟨rfl, rfl⟩⟩)
        · rename_i hu
          cases hev
          exact op_len hR hop hd (S hx' hu) (.inr ⟨⟨e', rfl⟩, .inr (.inl ⟨_, _, _, _, _, rfl, rfl⟩)⟩)
        · rename_i hu
          cases hev
          exact op_len hR hop hd (S hx' hu) (.inr ⟨⟨e', rfl⟩, .inr (.inr ⟨_, _, _, _, rfl, rfl⟩)⟩)
        · cases hev
      · cases hc
    · rename_i x t heq
      cases heq
      simp only [Option.bind_eq_bind, Option.bind_eq_some_iff] at hc
      obtain ⟨d, hd, hc⟩ := hc
      split at hc
      · rename_i e'
        simp only [Option.bind_eq_some_iff, Option.some.injEq] at hc
        obtain ⟨x', hx', rfl⟩ := hc
        simp only [evOp] at hev
        split at hev
        · rename_i hu
          cases hev
          exact op_cap hR hop hd (S hx' hu) (.inl ⟨rfl, rfl⟩)
        · rename_i hu
          cases hev
          exact op_cap hR hop hd (S hx' hu) (.inr (.inl ⟨_, _, _, _, rfl, rfl⟩))
        · rename_i hu
          cases hev
          exact op_cap hR hop hd (S hx' hu) (.inr (.inr ⟨_, _, _, rfl, rfl⟩))
        · cases hev
      · cases hc
    · rename_i x y ts heq
      cases heq
      simp only [Option.bind_eq_bind, Option.bind_eq_some_iff, Option.some.injEq] at hc
      obtain ⟨x', hx', y', hy', rfl⟩ := hc
      simp only [evOp] at hev
      split at hev
      · rename_i k a1 k' b1 h1 h2
        split at hev
        · rename_i hk
          subst hk
          cases hev
          exact op_mm (isMax := true) hR hop (S hx' h1) (S hy' h2)
        · cases hev
      · cases hev
    · rename_i x y ts heq
      cases heq
      simp only [Option.bind_eq_bind, Option.bind_eq_some_iff, Option.some.injEq] at hc
      obtain ⟨x', hx', y', hy', rfl⟩ := hc
      simp only [evOp] at hev
      split at hev
      · rename_i k a1 k' b1 h1 h2
        split at hev
        · rename_i hk
          subst hk
          cases hev
          exact op_mm (isMax := false) hR hop (S hx' h1) (S hy' h2)
        · cases hev
      · cases hev
    · rename_i s x t u heq
      cases heq
      simp only [Option.bind_eq_bind, Option.bind_eq_some_iff] at hc
      obtain ⟨d, hd, hc⟩ := hc
      split at hc
      · rename_i e'
        simp only [Option.bind_eq_some_iff] at hc
        obtain ⟨j, hj, z, hz, zc, hzc, hc⟩ := hc
        split at hc
        · rename_i hzl
          simp only [Option.bind_eq_some_iff] at hc
          obtain ⟨du, hdu, hc⟩ := hc
          split at hc
          · cases hc
          · rename_i hni
            simp only [Option.bind_eq_some_iff, Option.some.injEq] at hc
            obtain ⟨s', hs', x', hx', rfl⟩ := hc
            simp only [evOp] at hev
            split at hev
            · rename_i sv xv h1 h2
              split at hev
              · rename_i n xs hsrc
                split at hev
                · rename_i hk
                  exact op_app hR hbar hop hd hj hz hzc hzl.1 hzl.2 hdu (fun k hk => hni k hk) (S hs' h1) (S hx' h2) hsrc hk hev
                · cases hev
              · cases hev
            · cases hev
        · cases hc
      · cases hc
    · rename_i s x t u heq
      cases heq
      simp only [Option.bind_eq_bind, Option.bind_eq_some_iff] at hc
      obtain ⟨d, hd, hc⟩ := hc
      split at hc
      · rename_i e'
        simp only [Option.bind_eq_some_iff, Option.some.injEq] at hc
        obtain ⟨j, hj, s', hs', x', hx', rfl⟩ := hc
        simp only [evOp] at hev
        split at hev
        · rename_i dv sv h1 h2
          split at hev
          · rename_i m xs hsrc
            exact op_cpy hR hop hd hj (S hs' h1) (S hx' h2) hsrc hev
          · cases hev
        · cases hev
      · cases hc
  | _ => cases hc

end
end Go.Ev
namespace Go.Ev
open Go

/-- What a call comes to, as Ev says it. -/
def CallOk (P : Program) (G : Glob) (f : Nat) (args : List AV) (bar : Nat) (h : H) (r : AV) (h' : H) : Prop :=
  (∃ fn, P.funcs[f]? = some fn ∧ fn.body.isSome = true ∧ fn.name ≠ "runtime.NumGoroutine") ∧
  ∀ (φ : Phi) (I : Imm) (w : World) (vs : List Value), R φ I h w → GR G I → VRL φ I args vs → bar ≤ h.n →
    Calls P f vs.toArray w fun e w' => ∃ v φ' I', e = .returned v ∧ R φ' I' h' w' ∧ VR φ' I' r v ∧ Stp bar φ I h w φ' I' h' w'
def Sound (P : Program) (G : Glob) (o : Oracle) : Prop := ∀ f args bar h r h', o f args bar h = some (r, h') → CallOk P G f args bar h r h'

def isCall : IOp → Bool
  | .call _ _ => true
  | _ => false
/-- An operation, calls of functions among them. -/
def compAll (P : Program) (G : Glob) (o : Op) : Option IOp :=
  match o with
  | .call { callee := .value f, args, .. } => match compOpd G f, compL G args.toList with
    | some f', some l => some (.call f' l)
    | _, _ => none
  | op => match compOp P G op with
    | some i => if isCall i = true then some .bad else some i
    | none => some .bad
theorem compAll_cases {op : Op} {P : Program} {G : Glob} {i : IOp} (h : compAll P G op = some i) :
    (∃ c fo f l, op = .call c ∧ c.callee = .value fo ∧ compOpd G fo = some f ∧ compL G c.args.toList = some l ∧ i = .call f l) ∨ (compOp P G op = some i ∧ isCall i = false) ∨ i = .bad := by
  unfold compAll at h
  split at h
  · rename_i f args ts
    split at h
    · rename_i f' l hf hl
      cases h
      exact .inl ⟨_, f, f', l, rfl, rfl, hf, hl, rfl⟩
    · cases h
  · split at h
    · rename_i j hj
      split at h
      · cases h; exact .inr (.inr rfl)
      · rename_i hn
        cases h
        exact .inr (.inl ⟨hj, by simpa using hn⟩)
    · cases h; exact .inr (.inr rfl)
def dstOk (N : Nat) : Option Nat → Bool
  | some d => decide (d < N)
  | none => true
def compGuard (ops : Array Oper) : Option (Nat × Bool) → Option (Option (Nat × Bool))
  | none => some none
  | some (j, want) => match (ops[j]?).bind (·.dst) with
    | some s => some (some (s, want))
    | none => none
def compOper (P : Program) (G : Glob) (N : Nat) (ops : Array Oper) (o : Oper) : Option IOper :=
  match compAll P G o.op, compGuard ops o.guard with
  | some op, some g => if dstOk N o.dst = true then some { dst := o.dst, op, guard := g } else none
  | _, _ => none
def compOps (P : Program) (G : Glob) (N : Nat) (ops : Array Oper) : List Oper → Option (List IOper)
  | [] => some []
  | o :: r => match compOper P G N ops o, compOps P G N ops r with | some x, some l => some (x :: l) | _, _ => none

/-- The frame and the world, as Ev has them; since the beginning of the function. -/
structure Rel (G : Glob) (N bar : Nat) (φ0 : Phi) (I0 : Imm) (h0 : H) (w0 : World) (e : Env) (h : H) (a : Act) (w : World) : Prop where
  mk' ::
  ex : ∃ φ I, R φ I h w ∧ EnvR φ I e a.tmps ∧ GR G I ∧ Stp bar φ0 I0 h0 w0 φ I h w
  defers : a.defers = []
  size : a.tmps.size = N
  bar : bar ≤ h.n

section
variable {P : Program} {G : Glob} {N bar : Nat} {φ0 : Phi} {I0 : Imm} {h0 : H} {w0 : World} {o : Oracle}

theorem put_defers (a : Act) (d : Option Nat) (v : Value) : (a.put d v).defers = a.defers := by cases d <;> rfl
theorem put_size (a : Act) (d : Option Nat) (v : Value) : (a.put d v).tmps.size = a.tmps.size := by cases d <;> simp [Act.put]

theorem Rel.put {e : Env} {h h' : H} {a : Act} {w w' : World} {φ φ' : Phi} {I I' : Imm} {d : Option Nat} {v : AV} {x : Value} (r : Rel G N bar φ0 I0 h0 w0 e h a w) (hE : EnvR φ I e a.tmps) (hG : GR G I) (hS : Stp bar φ0 I0 h0 w0 φ I h w)
    (hR : R φ' I' h' w') (hx : VR φ' I' v x) (hs : Stp bar φ I h w φ' I' h' w') (hd : ∀ i, d = some i → i < N) : Rel G N bar φ0 I0 h0 w0 (e.put d v) h' (a.put d x) w' where
  ex := ⟨φ', I', hR, (hE.mono hs.phi hs.imm).put (fun i hi => by rw [r.size]; exact hd i hi) hx, hG.mono hs.imm, hS.trans hs⟩
  defers := by rw [put_defers]; exact r.defers
  size := by rw [put_size]; exact r.size
  bar := Nat.le_trans r.bar hs.n

theorem compOper_dst {ops : Array Oper} {x : Oper} {y : IOper} (h : compOper P G N ops x = some y) : y.dst = x.dst ∧ (∀ i, x.dst = some i → i < N) ∧ compAll P G x.op = some y.op ∧
    ((x.guard = none ∧ y.guard = none) ∨ ∃ j want s, x.guard = some (j, want) ∧ (ops[j]?).bind (·.dst) = some s ∧ y.guard = some (s, want)) := by
  unfold compOper at h
  split at h
  · rename_i op g hop hg
    split at h
    · rename_i hd
      cases h
      refine ⟨rfl, fun i hi => by rw [hi] at hd; simpa [dstOk] using hd, hop, ?_⟩
      cases hgg : x.guard with
      | none =>
        rw [hgg] at hg
        simp only [compGuard, Option.some.injEq] at hg
        exact .inl ⟨rfl, hg.symm⟩
      | some q =>
        obtain ⟨j, want⟩ := q
        rw [hgg] at hg
        simp only [compGuard] at hg
        split at hg
        · rename_i s hs
          cases hg
          exact .inr ⟨j, want, s, rfl, hs, rfl⟩
        · cases hg
    · cases h
  · cases h

theorem wanted_sound {ops : Array Oper} {x : Oper} {y : IOper} (hc : compOper P G N ops x = some y) {φ : Phi} {I : Imm} {e : Env} {a : Act} (hE : EnvR φ I e a.tmps) {b : Bool} (hw : wantedA e y.guard = some b) :
    Region.wanted x (yielded ops a.tmps) = b := by
  obtain ⟨_, _, _, hg⟩ := compOper_dst hc
  rcases hg with ⟨hg, hg'⟩ | ⟨j, want, s, hg, hs, hg'⟩
  · rw [hg'] at hw; simp only [wantedA, Option.some.injEq] at hw
    simp [Region.wanted, hg, ← hw]
  · rw [hg'] at hw
    simp only [wantedA] at hw
    split at hw
    · rename_i t ht
      cases hw
      obtain ⟨h1, h2⟩ := hE s _ ht
      have : a.tmps[s]? = some (.bool t) := by
        rw [Array.getElem?_eq_getElem h1]
        simp [h1] at h2
        generalize a.tmps[s] = z at h2
        cases h2; rfl
      simp [Region.wanted, hg, yielded, hs, this]
    · rename_i ht
      cases hw
      obtain ⟨h1, h2⟩ := hE s _ ht
      have : ∃ vs, a.tmps[s]? = some (.tuple vs) := by
        rw [Array.getElem?_eq_getElem h1]
        simp [h1] at h2
        generalize a.tmps[s] = z at h2
        cases h2; exact ⟨_, rfl⟩
      obtain ⟨vs, hvs⟩ := this
      simp [Region.wanted, hg, yielded, hs, hvs]
    · cases hw

/-- One operation, a call or not. -/
theorem runOp_core (ho : Sound P G o) {x : Oper} {y : IOper} {ops : Array Oper} (hc : compOper P G N ops x = some y) {e : Env} {h h' : H} {a : Act} {w : World} {v : AV} {φ : Phi} {I : Imm} (hR : R φ I h w) (hE : EnvR φ I e a.tmps) (hG : GR G I) (hbar : bar ≤ h.n)
    (hev : runOp o bar e h y.op = some (v, h')) {K : Act → World → Prop} {Q : Exit → Act → World → Prop}
    (hK : ∀ xv w' φ' I', R φ' I' h' w' → VR φ' I' v xv → Stp bar φ I h w φ' I' h' w' → K (a.put x.dst xv) w') : x.wp P a w K Q := by
  obtain ⟨hdst, hd, hop, _⟩ := compOper_dst hc
  have hplain : OpOk P a.eval x bar φ I h w v h' → x.wp P a w K Q := fun hok => by
    obtain ⟨y', w', φ', I', hr, hR', hv, hs⟩ := hok
    unfold Oper.wp
    rcases hr with hr | ⟨hr, rfl⟩
    · rw [hr]
      exact hK _ _ _ _ hR' hv hs
    · rw [hr]
      exact hK _ _ _ _ hR' hv hs
  rcases compAll_cases hop with ⟨c, fo, f, l, hxc, hfo, hf, hargs, hy⟩ | ⟨hop', hnc⟩ | hbad
  · rw [hy] at hev
    simp only [runOp] at hev
    split at hev
    · rename_i g caps vs h1 h2
      obtain ⟨⟨fn, hfn, hbody, hname⟩, hcs⟩ := ho _ _ _ _ _ _ hev
      have hfv := opd_sound hE hG hf h1
      have hav := opds_sound hE hG _ _ _ hargs h2
      generalize hz : a.eval fo = z at hfv
      cases hfv with
      | fn _ _ cv hc1 hc2 =>
        have hall : VRL φ I (vs ++ caps) (c.args.toList.map a.eval ++ cv.toList) := hav.append ⟨by simpa using hc1, fun i cc v g1 g2 => hc2 i cc v g1 (by simpa using g2)⟩
        have hrun : (execOp a.eval x).run P w = .ok (.enter g (c.args.toList.map a.eval ++ cv.toList).toArray) w := by
          simp only [execOp, hxc, resolve, hfo, hz, Deferred.ofValue, Sem.run_bind, Sem.run_pure, Result.andThen_ok, invoke, callFunc, run_program, hfn]
          have hn : (fn.name == "runtime.NumGoroutine") = false := by simpa using hname
          have hb : fn.body.isNone = false := by
            cases hbb : fn.body with
            | none => rw [hbb] at hbody; cases hbody
            | some _ => rfl
          simp only [hn, hb, Bool.false_eq_true, if_false, Sem.run_pure]
          congr 2
          apply Array.ext'
          simp
        unfold Oper.wp
        rw [hrun]
        refine (hcs φ I w _ hR hG hall hbar).mono fun e' w' hpost => ?_
        obtain ⟨v', φ', I', rfl, hR', hv, hs⟩ := hpost
        exact hK _ _ _ _ hR' hv hs
    · cases hev
  · refine hplain (op_sound hR hE hG hbar hop' ?_)
    cases hy : y.op <;> rw [hy] at hev hnc <;> first | exact hev | cases hnc
  · rw [hbad] at hev; cases hev

theorem runOp_sound (ho : Sound P G o) {x : Oper} {y : IOper} {ops : Array Oper} (hc : compOper P G N ops x = some y) {e : Env} {h h' : H} {a : Act} {w : World} {v : AV} (r : Rel G N bar φ0 I0 h0 w0 e h a w)
    (hev : runOp o bar e h y.op = some (v, h')) {K : Act → World → Prop} {Q : Exit → Act → World → Prop} (hK : ∀ a' w', Rel G N bar φ0 I0 h0 w0 (e.put y.dst v) h' a' w' → K a' w') : x.wp P a w K Q := by
  obtain ⟨hdst, hd, hop, _⟩ := compOper_dst hc
  obtain ⟨φ, I, hR, hE, hG, hS⟩ := r.ex
  exact runOp_core ho hc hR hE hG r.bar hev fun xv w' φ' I' hR' hv hs => hK _ _ (by rw [hdst]; exact r.put hE hG hS hR' hv hs hd)

/-- A region, in the order of the text. -/
theorem runOps_sound (ho : Sound P G o) {ops : Array Oper} {Q : Exit → Act → World → Prop} : ∀ (l : List Oper) (k : Nat) (il : List IOper) (e e' : Env) (h h' : H) (a : Act) (w : World), (∀ j, l[j]? = ops[k + j]?) → compOps P G N ops l = some il →
    runOps o bar il e h = some (e', h') → Rel G N bar φ0 I0 h0 w0 e h a w → (∀ a' w', Rel G N bar φ0 I0 h0 w0 e' h' a' w' → Q .normal a' w') → wpOps P ops Q (List.range' k l.length) a w
  | [], k, il, e, e', h, h', a, w, hl, hc, hr, r, hQ => by
    simp only [compOps, Option.some.injEq] at hc; subst hc
    simp only [runOps, Option.some.injEq, Prod.mk.injEq] at hr
    obtain ⟨rfl, rfl⟩ := hr
    exact hQ a w r
  | x :: l, k, il, e, e', h, h', a, w, hl, hc, hr, r, hQ => by
    simp only [compOps] at hc
    split at hc
    · rename_i y il' hy hil
      cases hc
      have hk : ops[k]? = some x := by simpa using (hl 0).symm
      have hl' : ∀ j, l[j]? = ops[k + 1 + j]? := fun j => by have := hl (j + 1); simpa [Nat.add_assoc, Nat.add_comm 1 j] using this
      obtain ⟨φ, I, hR, hE, hG, hS⟩ := r.ex
      simp only [List.length_cons, List.range'_succ, wpOps, hk]
      simp only [runOps] at hr
      split at hr
      · rename_i hw
        rw [wanted_sound hy hE hw]
        simp only [if_true]
        split at hr
        · rename_i v h1 hrun
          exact .inl (runOp_sound ho hy r hrun fun a' w' r' => runOps_sound ho l (k + 1) il' _ _ _ _ a' w' hl' hil hr r' hQ)
        · cases hr
      · rename_i hw
        rw [wanted_sound hy hE hw]
        simp only [Bool.false_eq_true, if_false]
        obtain ⟨hdst, hd, _, _⟩ := compOper_dst hy
        refine runOps_sound ho l (k + 1) il' _ _ _ _ _ w hl' hil hr ?_ hQ
        rw [hdst]
        exact r.put hE hG hS hR .undef (.refl _ _ _ _ _) hd
      · cases hr
    · cases hc

end
end Go.Ev
namespace Go.Ev
open Go

def oslot : Opd → List Nat
  | .t n => [n]
  | .c _ => []
def oslots : List Opd → List Nat
  | [] => []
  | x :: r => oslot x ++ oslots r
def pslots : List (Nat × Nat × Opd) → List Nat
  | [] => []
  | (_, _, x) :: r => oslot x ++ pslots r
def xslot : Option Opd → List Nat
  | none => []
  | some x => oslot x
/-- The slots that an operation looks at. -/
def slots : IOp → List Nat
  | .mov x | .box x | .nilc x | .eqn _ _ x | .un _ x | .cint _ x | .cstr x | .cbs x | .csb x | .mkif _ x | .fadr _ x | .fld _ _ _ x | .ext x _ | .len x | .lens x | .cap x | .rng x | .next x | .tas _ _ x | .ld _ _ x => oslot x
  | .pick c a b => oslot c ++ oslot a ++ oslot b
  | .alloc _ | .bad => []
  | .build _ ps | .bslice _ _ _ ps => pslots ps
  | .st _ a v | .bin _ a v | .eqb _ a v | .eqa _ _ a v | .iadr _ a v | .iadrA _ _ a v | .idxs a v | .idxA _ _ _ a v | .app _ _ a v | .appz _ _ _ a v | .cpy _ a v | .mm _ a v | .mksl _ _ _ a v => oslot a ++ oslot v
  | .mkfn _ cs => oslots cs
  | .slc _ x a b c => oslot x ++ xslot a ++ xslot b ++ xslot c
  | .slcs x a b | .slarr _ _ x a b => oslot x ++ xslot a ++ xslot b
  | .call f xs => oslot f ++ oslots xs
/-- Does it make, write, end objects? -/
def effect : IOp → Bool
  | .alloc _ | .box _ | .bslice .. | .st .. | .csb _ | .mksl .. | .app .. | .appz .. | .cpy .. | .rng _ | .next _ | .call .. => true
  | _ => false
/-- Does it look at objects? -/
def looks : IOp → Bool
  | .ld .. | .cbs _ | .slarr .. => true
  | _ => false

theorem ev_congr {e e' : Env} {x : Opd} (h : ∀ t ∈ oslot x, e.get t = e'.get t) : x.ev e = x.ev e' := by
  cases x with
  | t n => exact h n (by simp [oslot])
  | c v => rfl
theorem evs_congr {e e' : Env} : ∀ {xs : List Opd}, (∀ t ∈ oslots xs, e.get t = e'.get t) → evs e xs = evs e' xs
  | [], _ => rfl
  | x :: r, h => by
    simp only [evs]
    rw [ev_congr (x := x) (fun t ht => h t (by simp [oslots, ht])), evs_congr (xs := r) (fun t ht => h t (by simp [oslots, ht]))]
theorem evParts_congr {e e' : Env} : ∀ {xs : List (Nat × Nat × Opd)}, (∀ t ∈ pslots xs, e.get t = e'.get t) → evParts e xs = evParts e' xs
  | [], _ => rfl
  | (i, n, x) :: r, h => by
    simp only [evParts]
    rw [ev_congr (x := x) (fun t ht => h t (by simp [pslots, ht])), evParts_congr (xs := r) (fun t ht => h t (by simp [pslots, ht]))]
theorem optEv_congr {e e' : Env} {x : Option Opd} (h : ∀ t ∈ xslot x, e.get t = e'.get t) : optEv e x = optEv e' x := by
  cases x with
  | none => rfl
  | some x => simp only [optEv]; rw [ev_congr (x := x) (fun t ht => h t (by simp [xslot, ht]))]

theorem runOp_congr {o : Oracle} {bar : Nat} {e e' : Env} {h : H} {op : IOp} (hs : ∀ t ∈ slots op, e.get t = e'.get t) : runOp o bar e h op = runOp o bar e' h op := by
  have S1 : ∀ x : Opd, (∀ t ∈ oslot x, t ∈ slots op) → x.ev e = x.ev e' := fun x hx => ev_congr fun t ht => hs t (hx t ht)
  have S2 : ∀ x : Option Opd, (∀ t ∈ xslot x, t ∈ slots op) → optEv e x = optEv e' x := fun x hx => optEv_congr fun t ht => hs t (hx t ht)
  have S3 : ∀ xs : List Opd, (∀ t ∈ oslots xs, t ∈ slots op) → evs e xs = evs e' xs := fun x hx => evs_congr fun t ht => hs t (hx t ht)
  have S4 : ∀ xs : List (Nat × Nat × Opd), (∀ t ∈ pslots xs, t ∈ slots op) → evParts e xs = evParts e' xs := fun x hx => evParts_congr fun t ht => hs t (hx t ht)
  cases op with
  | mov x | box x | nilc x | eqn _ _ x | un _ x | cint _ x | cstr x | cbs x | csb x | mkif _ x | fadr _ x | fld _ _ _ x | ext x _ | len x | lens x | cap x | rng x | next x | tas _ _ x | ld _ _ x =>
    simp only [runOp, evOp]; rw [S1 x (fun t ht => ht)]
  | pick c a b => simp only [runOp, evOp]; rw [S1 c (fun t ht => by simp [slots, ht]), S1 a (fun t ht => by simp [slots, ht]), S1 b (fun t ht => by simp [slots, ht])]
  | alloc z | bad => rfl
  | build z ps | bslice _ _ _ ps => simp only [runOp, evOp]; rw [S4 ps (fun t ht => ht)]
  | st _ a v | bin _ a v | eqb _ a v | eqa _ _ a v | iadr _ a v | iadrA _ _ a v | idxs a v | idxA _ _ _ a v | app _ _ a v | appz _ _ _ a v | cpy _ a v | mm _ a v | mksl _ _ _ a v =>
    simp only [runOp, evOp]; rw [S1 a (fun t ht => by simp [slots, ht]), S1 v (fun t ht => by simp [slots, ht])]
  | mkfn _ cs => simp only [runOp, evOp]; rw [S3 cs (fun t ht => ht)]
  | slc _ x a b c => simp only [runOp, evOp]; rw [S1 x (fun t ht => by simp [slots, ht]), S2 a (fun t ht => by simp [slots, ht]), S2 b (fun t ht => by simp [slots, ht]), S2 c (fun t ht => by simp [slots, ht])]
  | slcs x a b | slarr _ _ x a b => simp only [runOp, evOp]; rw [S1 x (fun t ht => by simp [slots, ht]), S2 a (fun t ht => by simp [slots, ht]), S2 b (fun t ht => by simp [slots, ht])]
  | call f xs => simp only [runOp]; rw [S1 f (fun t ht => by simp [slots, ht]), S3 xs (fun t ht => by simp [slots, ht])]

theorem map_pair {α : Type} {x : Option α} {h h' : H} {v : α} (hh : x.map (·, h) = some (v, h')) : h' = h ∧ x = some v := by
  cases x with
  | none => cases hh
  | some u => simp at hh; exact ⟨hh.2.symm, by rw [hh.1]⟩

set_option maxHeartbeats 2000000 in
/-- What neither looks at objects nor turns them gives the same over every heap. -/
theorem runOp_pure {o : Oracle} {bar : Nat} {e : Env} {h h' : H} {op : IOp} {v : AV} (he : effect op = false) (hr : runOp o bar e h op = some (v, h')) : h' = h ∧ (looks op = false → ∀ h2, runOp o bar e h2 op = some (v, h2)) := by
  cases op <;> simp only [effect] at he <;> try (cases he; done)
  all_goals simp only [runOp, evOp] at hr ⊢
  all_goals first
    | (obtain ⟨h1, h2⟩ := map_pair hr; exact ⟨h1, fun _ h3 => by rw [h2]; rfl⟩)
    | skip
  all_goals (repeat' split at hr) <;> first
    | (cases hr; done)
    | (cases hr; exact ⟨rfl, fun hl => by first | (cases hl; done) | (intro h2; simp_all; done) | (intro h2; simp_all; omega)⟩)
    | (obtain ⟨h1, h2⟩ := map_pair hr; exact ⟨h1, fun hl => by first | (cases hl; done) | (intro h3; simp_all)⟩)
    | (simp only [Option.map_eq_some_iff, Prod.mk.injEq] at hr; obtain ⟨u, h1, h2, h3⟩ := hr; exact ⟨h3.symm, fun hl => by first | (cases hl; done) | (intro h4; simp_all)⟩)



/-- Functions that give the heap back as it was; they look at it. -/
def pureCall (pu : Nat → Bool) : IOp → Bool
  | .call (.c (.fn f [])) _ => pu f
  | _ => false
def eff (pu : Nat → Bool) (op : IOp) : Bool := effect op && !pureCall pu op
def look (pu : Nat → Bool) (op : IOp) : Bool := looks op || pureCall pu op
def PureO (o : Oracle) (pu : Nat → Bool) : Prop := ∀ f args bar h r h', pu f = true → o f args bar h = some (r, h') → h' = h

theorem runOp_still {o : Oracle} {pu : Nat → Bool} (hp : PureO o pu) {bar : Nat} {e : Env} {h h' : H} {op : IOp} {v : AV} (he : eff pu op = false) (hr : runOp o bar e h op = some (v, h')) : h' = h ∧ (look pu op = false → ∀ h2, runOp o bar e h2 op = some (v, h2)) := by
  cases hef : effect op with
  | false =>
    obtain ⟨h1, h2⟩ := runOp_pure hef hr
    exact ⟨h1, fun hl => h2 (by unfold look at hl; simp only [Bool.or_eq_false_iff] at hl; exact hl.1)⟩
  | true =>
    have hpc : pureCall pu op = true := by unfold eff at he; rw [hef] at he; simpa using he
    refine ⟨?_, fun hl => by unfold look at hl; rw [hpc] at hl; simp at hl⟩
    unfold pureCall at hpc
    split at hpc
    · rename_i f xs
      simp only [runOp, Opd.ev] at hr
      split at hr
      · rename_i g caps vs h1 h2
        cases h1
        exact hp _ _ _ _ _ _ hpc hr
      · cases hr
    · cases hpc

/-- It makes one object, of what leads into no other. -/
def allc : IOp → Bool
  | .alloc z => z.all AV.free
  | .mksl _ _ z _ _ => z.all AV.free
  | .csb _ => true
  | .bslice _ z _ ps => z.all AV.free && ps.isEmpty
  | _ => false
/-- The value of what makes an object: the object's number is its own. -/
def Shape (s : Nat → AV) : Prop := (∀ id, s id = .ptr id 0) ∨ ∃ k len full, ∀ id, s id = .sl id 0 k len full

theorem rep_free {z : List AV} (hz : z.all AV.free = true) : ∀ n, ∀ c ∈ rep z n, c.free = true := by
  intro n
  induction n with
  | zero => intro c hc; simp [rep] at hc
  | succ n ih =>
    intro c hc
    simp only [rep, List.mem_append] at hc
    rcases hc with hc | hc
    · exact List.all_eq_true.1 hz c hc
    · exact ih c hc

theorem allc_run {o : Oracle} {bar : Nat} {e : Env} {h h' : H} {op : IOp} {v : AV} (ha : allc op = true) (hr : runOp o bar e h op = some (v, h')) :
    ∃ s cs, Shape s ∧ v = s h.n ∧ h' = h.alloc (.cells cs 0) ∧ (∀ c ∈ cs, c.free = true) ∧ ∀ bar2 h2, runOp o bar2 e h2 op = some (s h2.n, h2.alloc (.cells cs 0)) := by
  cases op <;> simp only [allc] at ha <;> try (cases ha; done)
  · rename_i z
    simp only [runOp, evOp] at hr ⊢
    split at hr
    · rename_i hc
      cases hr
      exact ⟨fun id => .ptr id 0, z, .inl fun _ => rfl, rfl, rfl, fun c hc => List.all_eq_true.1 ha c hc, fun bar2 h2 => by simp [hc]⟩
    · cases hr
  · rename_i k z len ps
    simp only [Bool.and_eq_true, List.isEmpty_iff] at ha
    obtain ⟨hz, rfl⟩ := ha
    simp only [runOp, evOp, evParts, fillA] at hr ⊢
    split at hr
    · rename_i hc
      cases hr
      exact ⟨fun id => .sl id 0 k len true, z, .inr ⟨k, len, true, fun _ => rfl⟩, rfl, rfl, fun c hc => List.all_eq_true.1 hz c hc, fun bar2 h2 => by rw [if_pos hc]⟩
    · cases hr
  · rename_i x
    simp only [runOp, evOp] at hr ⊢
    split at hr
    · rename_i s hs
      cases hr
      exact ⟨fun id => .sl id 0 1 s.size false, _, .inr ⟨1, _, false, fun _ => rfl⟩, rfl, rfl, fun c hc => by
        simp only [List.mem_map] at hc
        obtain ⟨_, _, rfl⟩ := hc
        rfl, fun bar2 h2 => rfl⟩
    · cases hr
  · rename_i k bytes z l c
    simp only [runOp, evOp] at hr ⊢
    split at hr
    · rename_i l' c' h1 h2
      split at hr
      · rename_i hc
        cases hr
        exact ⟨fun id => .sl id 0 k l'.toNat (decide (l' = c')), _, .inr ⟨k, _, _, fun _ => rfl⟩, rfl, rfl, rep_free ha _, fun bar2 h2 => by rw [if_pos hc]⟩
      · cases hr
    · cases hr

/-- A run in the order of the text, told step by step: frames, heaps, values, what was carried out. -/
def Tr (o : Oracle) (bar : Nat) (il : List IOper) (E : Nat → Env) (Hh : Nat → H) (V : Nat → AV) (W : Nat → Bool) : Prop :=
  ∀ i x, il[i]? = some x → E (i + 1) = (E i).put x.dst (V i) ∧ wantedA (E i) x.guard = some (W i) ∧ (W i = true → runOp o bar (E i) (Hh i) x.op = some (V i, Hh (i + 1))) ∧ (W i = false → V i = .undef ∧ Hh (i + 1) = Hh i)

theorem tr_of {o : Oracle} {bar : Nat} : ∀ (il : List IOper) (e e' : Env) (h h' : H), runOps o bar il e h = some (e', h') → ∃ E Hh V W, Tr o bar il E Hh V W ∧ E 0 = e ∧ Hh 0 = h ∧ E il.length = e' ∧ Hh il.length = h' ∧
    ∀ k, k ≤ il.length → runOps o bar (il.take k) e h = some (E k, Hh k)
  | [], e, e', h, h', hr => by
    simp only [runOps, Option.some.injEq, Prod.mk.injEq] at hr
    obtain ⟨rfl, rfl⟩ := hr
    exact ⟨fun _ => e, fun _ => h, fun _ => .undef, fun _ => true, fun i x hx => by simp at hx, rfl, rfl, rfl, rfl, fun k _ => by simp [runOps]⟩
  | x :: il, e, e', h, h', hr => by
    simp only [runOps] at hr
    have go : ∀ v h1 b, wantedA e x.guard = some b → (b = true → runOp o bar e h x.op = some (v, h1)) → (b = false → v = .undef ∧ h1 = h) → runOps o bar il (e.put x.dst v) h1 = some (e', h') →
        ∃ E Hh V W, Tr o bar (x :: il) E Hh V W ∧ E 0 = e ∧ Hh 0 = h ∧ E (x :: il).length = e' ∧ Hh (x :: il).length = h' ∧ ∀ k, k ≤ (x :: il).length → runOps o bar ((x :: il).take k) e h = some (E k, Hh k) := fun v h1 b hw h2 h3 h4 => by
      obtain ⟨E, Hh, V, W, ht, t1, t2, t3, t4, t5⟩ := tr_of il _ _ _ _ h4
      refine ⟨fun i => match i with | 0 => e | i + 1 => E i, fun i => match i with | 0 => h | i + 1 => Hh i, fun i => match i with | 0 => v | i + 1 => V i, fun i => match i with | 0 => b | i + 1 => W i, ?_, rfl, rfl, t3, t4, ?_⟩
      rotate_left
      · intro k hk
        cases k with
        | zero => simp [runOps]
        | succ k =>
          simp only [List.take_succ_cons, runOps, hw]
          cases b with
          | true => simp only [h2 rfl]; exact t5 k (by simpa using hk)
          | false => obtain ⟨rfl, rfl⟩ := h3 rfl; exact t5 k (by simpa using hk)
      intro i y hy
      cases i with
      | zero =>
        simp only [List.getElem?_cons_zero, Option.some.injEq] at hy; subst hy
        exact ⟨t1, hw, fun hb => by rw [h2 hb]; simp [t2], fun hb => ⟨(h3 hb).1, by simp only [t2]; exact (h3 hb).2⟩⟩
      | succ i => exact ht i y (by simpa using hy)
    split at hr
    · rename_i hw
      split at hr
      · rename_i v h1 hrun
        exact go v h1 true hw (fun _ => hrun) (fun hf => by cases hf) hr
      · cases hr
    · rename_i hw
      exact go .undef h false hw (fun hf => by cases hf) (fun _ => ⟨rfl, rfl⟩) hr
    · cases hr

def gslot : Option (Nat × Bool) → List Nat
  | none => []
  | some (s, _) => [s]
/-- One writes a slot that the other looks at, or writes. -/
def clash (x y : IOper) : Bool :=
  (match x.dst with | some t => (slots y.op ++ gslot y.guard).contains t || y.dst == some t | none => false) ||
  (match y.dst with | some t => (slots x.op ++ gslot x.guard).contains t | none => false)
/-- Which operations come ahead of one, in any case: one bit each. -/
def ahead (ops : List Oper) : List Nat → List Nat
  | acc => match ops with
    | [] => acc
    | o :: r => ahead r (acc ++ [o.after.toList.foldl (fun s e => if Region.binds .any e then s ||| 2 ^ e.on ||| acc.getD e.on 0 else s) 0])
def anc (ops : Array Oper) : List Nat := ahead ops.toList []
def isEff (pu : Nat → Bool) (il : List IOper) (j : Nat) : Bool := match il[j]? with
  | some y => eff pu y.op
  | none => false
/-- What makes an object of its own may come ahead of calls: if all that looks at it comes behind them. -/
def early (pu : Nat → Bool) (b : List Nat) (il : List IOper) (j : Nat) (y : IOper) : Bool :=
  allc y.op && y.guard.isNone && il.zipIdx.all fun (z, q) =>
    !(decide (j < q) && match y.dst with | some t => (slots z.op ++ gslot z.guard).contains t || z.dst == some t | none => false) || (List.range j).all fun i => !isEff pu il i || (b.getD q 0).testBit i
/-- May one come, when those that turn objects have come as far as the k-th? -/
def needs (pu : Nat → Bool) (b : List Nat) (il : List IOper) (i k : Nat) : Bool :=
  (List.range il.length).all fun j => !isEff pu il j || ((!(decide (k ≤ j) && decide (j < i)) || !(b.getD i 0).testBit j || (match il[j]? with | some y => early pu b il j y | none => false)) && (!(decide (i < j) && decide (j < k)) || !(b.getD j 0).testBit i))
/-- Where the order of the text is not the one that a looking operation must come in: what is asked when it is carried out. -/
def asks (pu : Nat → Bool) (ops : Array Oper) (il : List IOper) : List (Nat × Nat) :=
  let b := anc ops
  il.zipIdx.flatMap fun (y, i) => if look pu y.op then (List.range (il.length + 1)).filterMap fun k => if (decide (k = il.length) || isEff pu il k) && needs pu b il i k && (List.range il.length).any (fun j => isEff pu il j && ((decide (k ≤ j) && decide (j < i)) || (decide (i ≤ j) && decide (j < k)))) then some (i, k) else none else []
/-- Operations that clash come in order, and none waits for a later one. -/
def drawOk (pu : Nat → Bool) (ops : Array Oper) (il : List IOper) : Bool :=
  let b := anc ops
  (il.zipIdx.all fun (y, j) => (il.take j).zipIdx.all fun (x, i) => (b.getD j 0).testBit i || (!clash x y && (!(eff pu x.op && eff pu y.op) || early pu b il j y))) &&
  ops.toList.zipIdx.all fun (o, j) => o.after.toList.all fun e => !Region.binds .any e || decide (e.on < j)

end Go.Ev
namespace Go.Ev
open Go

section
variable {φ : Phi} {w : World}
theorem freeL_get (l : List AV) (h : AV.free.freeL l = true) (i : Nat) (c : AV) (hc : l[i]? = some c) : c.free = true := by
  induction l generalizing i with
  | nil => simp at hc
  | cons x r ih =>
    simp only [AV.free.freeL, Bool.and_eq_true] at h
    cases i with
    | zero => simp at hc; subst hc; exact h.1
    | succ i => exact ih h.2 i (by simpa using hc)

/-- Nothing in it leads into the heap: it is what it is over any other. -/
theorem VR.free {φ' : Phi} {I : Imm} {c : AV} {v : Value} (h : VR φ I c v) : c.free = true → VR φ' I c v := by
  have hL : ∀ (l : List AV), AV.free.freeL l = true → ∀ (i : Nat) (c : AV), l[i]? = some c → c.free = true := by
    intro l
    induction l with
    | nil => intro _ i c h; simp at h
    | cons x r ih =>
      intro h i c hc
      simp only [AV.free.freeL, Bool.and_eq_true] at h
      cases i with
      | zero => simp at hc; subst hc; exact h.1
      | succ i => exact ih h.2 i c (by simpa using hc)
  induction h with
  | bool b => intro _; exact .bool b
  | int k n => intro _; exact .int k n
  | flt k n => intro _; exact .flt k n
  | str s => intro _; exact .str s
  | nilptr => intro _; exact .nilptr
  | ptr => intro hf; simp [AV.free] at hf
  | fptr cs off b o vs h1 _ h3 ih => intro _; exact .fptr cs off b o vs h1 (fun i c hc => ih i c hc (h3 i c hc).1) h3
  | nilsl => intro _; exact .nilsl
  | sl => intro hf; simp [AV.free] at hf
  | sl0 => intro hf; simp [AV.free] at hf
  | fz k len cs full b o cap vs h1 _ h3 h4 h5 h6 ih => intro _; exact .fz k len cs full b o cap vs h1 (fun i c hc => ih i c hc (h3 i c hc).1) h3 h4 h5 h6
  | fz0 k full a cap h5 => intro _; exact .fz0 k full a cap h5
  | nilmap => intro _; exact .nilmap
  | map => intro hf; simp [AV.free] at hf
  | fn f cs vs h1 _ ih => intro hf; exact .fn f cs vs h1 (fun i c v g1 g2 => ih i c v g1 g2 (hL cs (by simpa [AV.free] using hf) i c g1))
  | nilfn => intro _; exact .nilfn
  | ifc t c v _ ih => intro hf; exact .ifc t c v (ih (by simpa [AV.free] using hf))
  | nilifc => intro _; exact .nilifc
  | agg cs vs h1 _ ih => intro hf; exact .agg cs vs h1 (fun i c v g1 g2 => ih i c v g1 g2 (hL cs (by simpa [AV.free] using hf) i c g1))
  | tup cs vs h1 _ ih => intro hf; exact .tup cs vs h1 (fun i c v g1 g2 => ih i c v g1 g2 (hL cs (by simpa [AV.free] using hf) i c g1))

/-- The heap as it was, behind a call that turned none of it. -/
theorem R.back {φ1 : Phi} {I I1 : Imm} {h h1 : H} {w1 : World} (hR : R φ I h w) (hR1 : R φ1 I1 h1 w1) (hs : Stp h.n φ I h w φ1 I1 h1 w1) : R φ I1 h w1 := by
  have hblk : ∀ b, b < w.heap.size → w1.heap[b]? = w.heap[b]? := fun b hb => hs.frame b hb fun i hi hl => absurd (hR.wf i hi) hl
  refine ⟨hR.wf, hR.dom, fun i x hx => ?_, hR.inj, hR1.imm⟩
  have hi : i < h.n := by
    by_cases hi : i < h.n
    · exact hi
    · rw [hR.wf i (by omega)] at hx; cases hx
  have hx1 : h1.get i = some x := by rw [hs.old i hi]; exact hx
  have ho := hR.obj i x hx
  have ho1 := hR1.obj i x hx1
  cases x with
  | cells cs p =>
    obtain ⟨b, o, rc, el, fr, g1, g2, g3, g4, g5, g6⟩ := ho
    obtain ⟨b1, o1, rc1, el1, fr1, k1, k2, k3, k4, k5, k6⟩ := ho1
    have e := hs.phi _ _ g1
    rw [k1] at e
    simp only [Option.some.injEq, Prod.mk.injEq] at e
    obtain ⟨rfl, rfl, e3⟩ := e
    have hb := (Array.getElem?_eq_some_iff.1 g2).1
    exact ⟨b1, o1, rc, el, fr, g1, by rw [hblk b1 hb]; exact g2, g3, fun j c hc => ⟨(g4 j c hc).1, let ⟨v, hv, hr⟩ := (g4 j c hc).2; ⟨v, hv, hr.mono (.refl _) hs.imm⟩⟩, g5, k6⟩
  | map es => exact ho.elim
  | iter s pos =>
    obtain ⟨b, g1, g2⟩ := ho
    have hb := (Array.getElem?_eq_some_iff.1 g2).1
    exact ⟨b, g1, by rw [hblk b hb]; exact g2⟩

theorem Stp.back {bar : Nat} {φ1 : Phi} {I I1 : Imm} {h h1 : H} {w1 : World} (hR : R φ I h w) (hs : Stp h.n φ I h w φ1 I1 h1 w1) : Stp bar φ I h w φ I1 h w1 := by
  refine ⟨.refl _, hs.imm, hs.size, fun b hb hd => hs.frame b hb fun i hi hl => absurd (hR.wf i hi) hl, fun i x hi hl hp => .inr ⟨i, x, hi, hl, hp, rfl⟩, fun _ _ => rfl, Nat.le_refl _, hs.os, hs.output, fun b j v hv => ?_⟩
  rcases hs.immT b j v hv with h1 | h1 | ⟨i, x, hi, hl, _⟩
  · exact .inl h1
  · exact .inr (.inl h1)
  · exact absurd (hR.wf i hi) hl

theorem Shape.vr {s : Nat → AV} (hs : Shape s) {φ φ' : Phi} {I : Imm} {id id' : Nat} {x : Nat × Nat × Nat} {v : Value} (h1 : φ id = some x) (h : VR φ I (s id) v) (h2 : φ' id' = some x) : VR φ' I (s id') v := by
  rcases hs with hs | ⟨k, len, full, hs⟩
  · rw [hs] at h ⊢
    cases h with
    | ptr _ _ b o sz hp => rw [h1] at hp; cases hp; exact .ptr id' 0 b o sz h2
  · rw [hs] at h ⊢
    cases h with
    | sl _ _ _ _ _ b o sz cap hp g1 g2 g3 => rw [h1] at hp; cases hp; exact .sl id' 0 k len full b o sz cap h2 g1 g2 g3
    | sl0 _ _ _ _ a y hp => exact .sl0 id' 0 k full a x h2
end

theorem fold_bit {acc : List Nat} {i : Nat} : ∀ (l : List Edge) (s : Nat), (l.foldl (fun s e => if Region.binds .any e then s ||| 2 ^ e.on ||| acc.getD e.on 0 else s) s).testBit i = true →
    s.testBit i = true ∨ ∃ e ∈ l, Region.binds .any e = true ∧ (i = e.on ∨ (acc.getD e.on 0).testBit i = true)
  | [], s, h => .inl h
  | e :: l, s, h => by
    simp only [List.foldl_cons] at h
    rcases fold_bit l _ h with h1 | ⟨e', he', hb⟩
    · split at h1
      · rename_i hb
        simp only [Nat.testBit_or, Bool.or_eq_true] at h1
        rcases h1 with (h1 | h1) | h1
        · exact .inl h1
        · right
          refine ⟨e, by simp, hb, .inl ?_⟩
          simp [Nat.testBit_two_pow] at h1
          exact h1.symm
        · exact .inr ⟨e, by simp, hb, .inr h1⟩
      · exact .inl h1
    · exact .inr ⟨e', by simp [he'], hb⟩

theorem ahead_prefix : ∀ (ops : List Oper) (acc : List Nat) (i : Nat), i < acc.length → (ahead ops acc).getD i 0 = acc.getD i 0
  | [], acc, i, h => rfl
  | o :: r, acc, i, h => by
    simp only [ahead]
    rw [ahead_prefix r _ i (by simp; omega)]
    simp [List.getElem?_append_left h]
theorem ahead_get : ∀ (ops : List Oper) (acc : List Nat) (j : Nat) (o : Oper), ops[j]? = some o → ∃ acc' : List Nat, (∀ i, i < acc.length + j → acc'.getD i 0 = (ahead ops acc).getD i 0) ∧
    (ahead ops acc).getD (acc.length + j) 0 = o.after.toList.foldl (fun s e => if Region.binds .any e then s ||| 2 ^ e.on ||| acc'.getD e.on 0 else s) 0
  | [], acc, j, o, h => by simp at h
  | x :: r, acc, 0, o, h => by
    simp only [List.getElem?_cons_zero, Option.some.injEq] at h; subst h
    refine ⟨acc, fun i hi => ?_, ?_⟩
    · simp only [ahead]; rw [ahead_prefix r _ i (by simp; omega)]; simp [List.getElem?_append_left (show i < acc.length by omega)]
    · simp only [ahead, Nat.add_zero]; rw [ahead_prefix r _ _ (by simp)]; simp
  | x :: r, acc, j + 1, o, h => by
    simp only [List.getElem?_cons_succ] at h
    obtain ⟨acc', h1, h2⟩ := ahead_get r (acc ++ [x.after.toList.foldl (fun s e => if Region.binds .any e then s ||| 2 ^ e.on ||| acc.getD e.on 0 else s) 0]) j o h
    simp only [List.length_append, List.length_cons, List.length_nil] at h1 h2
    refine ⟨acc', fun i hi => ?_, ?_⟩
    · simp only [ahead]; exact h1 i (by omega)
    · simp only [ahead]; rw [← h2]; congr 1; omega

/-- What comes ahead of one that may come now has come. -/
theorem anc_listed {ops : Array Oper} (hon : ∀ j o, ops[j]? = some o → ∀ e ∈ o.after, Region.binds .any e = true → e.on < j) {L : Nat → Prop}
    (hcl : ∀ j o, ops[j]? = some o → L j → ∀ e ∈ o.after, Region.binds .any e = true → L e.on) :
    ∀ j o, ops[j]? = some o → (∀ e ∈ o.after, Region.binds .any e = true → L e.on) → ∀ i, ((anc ops).getD j 0).testBit i = true → L i := by
  intro j
  induction j using Nat.strongRecOn with
  | _ j ih =>
    intro o ho hr i hi
    obtain ⟨acc', h1, h2⟩ := ahead_get ops.toList [] j o (by simpa using ho)
    simp only [List.length_nil, Nat.zero_add] at h1 h2
    rw [anc, h2] at hi
    rcases fold_bit _ _ hi with h3 | ⟨e, he, hb, h3⟩
    · simp at h3
    · have he' : e ∈ o.after := by simpa using he
      have hlt := hon j o ho e he' hb
      have hL := hr e he' hb
      rcases h3 with rfl | h3
      · exact hL
      · rw [h1 _ hlt] at h3
        have : e.on < ops.size := by have := (Array.getElem?_eq_some_iff.1 ho).1; omega
        exact ih e.on hlt _ (Array.getElem?_eq_getElem this) (hcl e.on _ (Array.getElem?_eq_getElem this) hL) i h3

theorem countP_lt {p q : Nat → Bool} : ∀ {l : List Nat} {i : Nat}, i ∈ l → p i = true → q i = false → (∀ x, q x = true → p x = true) → l.countP q < l.countP p
  | [], i, h, _, _, _ => by cases h
  | x :: l, i, h, h1, h2, h3 => by
    have hle : l.countP q ≤ l.countP p := List.countP_mono_left (fun x _ => h3 x)
    simp only [List.countP_cons]
    rcases List.mem_cons.1 h with rfl | h
    · simp [h1, h2]; omega
    · have := countP_lt h h1 h2 h3
      have := h3 x
      cases hq : q x <;> cases hp : p x <;> simp [hq, hp] at * <;> omega

theorem compOps_get {P : Program} {G : Glob} {N : Nat} {ops : Array Oper} : ∀ (l : List Oper) (il : List IOper), compOps P G N ops l = some il → il.length = l.length ∧ ∀ (i : Nat) (x : Oper), l[i]? = some x → ∃ y, il[i]? = some y ∧ compOper P G N ops x = some y
  | [], il, h => by simp only [compOps, Option.some.injEq] at h; subst h; exact ⟨rfl, fun i x hx => by simp at hx⟩
  | x :: l, il, h => by
    simp only [compOps] at h
    split at h
    · rename_i y il' hy hil
      cases h
      obtain ⟨h1, h2⟩ := compOps_get l il' hil
      refine ⟨by simp [h1], fun i z hz => ?_⟩
      cases i with
      | zero => simp at hz; subst hz; exact ⟨y, by simp, hy⟩
      | succ i => simpa using h2 i z (by simpa using hz)
    · cases h

section
variable {P : Program} {G : Glob} {N bar : Nat} {φ0 : Phi} {I0 : Imm} {h0 : H} {w0 : World} {o : Oracle} {pu : Nat → Bool}

/-- The last ahead of i that writes a slot. -/
theorem env_last {il : List IOper} {E : Nat → Env} {Hh : Nat → H} {V : Nat → AV} {W : Nat → Bool} (ht : Tr o bar il E Hh V W) (t : Nat) (v : AV) : ∀ i, i ≤ il.length → (E i).get t = some v →
    (∃ j x, j < i ∧ il[j]? = some x ∧ x.dst = some t ∧ V j = v ∧ ∀ k y, j < k → k < i → il[k]? = some y → y.dst ≠ some t) ∨ ((∀ k y, k < i → il[k]? = some y → y.dst ≠ some t) ∧ (E 0).get t = some v)
  | 0, _, h => .inr ⟨fun k y hk => by omega, h⟩
  | i + 1, hi, h => by
    have hlt : i < il.length := by omega
    have hx := List.getElem?_eq_getElem hlt
    obtain ⟨h1, _⟩ := ht i _ hx
    rw [h1] at h
    by_cases hd : (il[i]).dst = some t
    · rw [hd] at h
      simp only [Env.put, Env.set, Env.get, if_true, Option.some.injEq] at h
      exact .inl ⟨i, _, by omega, hx, hd, h, fun k y h2 h3 => by omega⟩
    · have hget : ((E i).put (il[i]).dst (V i)).get t = (E i).get t := by
        cases hdd : (il[i]).dst with
        | none => rfl
        | some s =>
          rw [hdd] at hd
          have : t ≠ s := fun hts => hd (by rw [hts])
          simp [Env.put, Env.set, Env.get, this]
      rw [hget] at h
      rcases env_last ht t v i (by omega) h with ⟨j, x, g1, g2, g3, g4, g5⟩ | ⟨g1, g2⟩
      · refine .inl ⟨j, x, by omega, g2, g3, g4, fun k y hk hk' hy => ?_⟩
        by_cases hki : k = i
        · subst hki; rw [hx] at hy; cases hy; exact hd
        · exact g5 k y hk (by omega) hy
      · refine .inr ⟨fun k y hk hy => ?_, g2⟩
        by_cases hki : k = i
        · subst hki; rw [hx] at hy; cases hy; exact hd
        · exact g1 k y (by omega) hy

theorem isEff_of {il : List IOper} {j : Nat} {y : IOper} (hy : il[j]? = some y) : isEff pu il j = eff pu y.op := by simp [isEff, hy]
theorem isEff_lt {il : List IOper} {j : Nat} (h : isEff pu il j = true) : j < il.length := by
  unfold isEff at h
  split at h
  · rename_i y hy; exact (List.getElem?_eq_some_iff.1 hy).1
  · cases h

/-- Heaps between two operations that turn objects are one. -/
theorem heap_same (hp : PureO o pu) {il : List IOper} {E : Nat → Env} {Hh : Nat → H} {V : Nat → AV} {W : Nat → Bool} (ht : Tr o bar il E Hh V W) (i : Nat) : ∀ d, i + d ≤ il.length → (∀ k, i ≤ k → k < i + d → isEff pu il k = false) → Hh (i + d) = Hh i
  | 0, _, _ => rfl
  | d + 1, hd, hn => by
    have hlt : i + d < il.length := by omega
    have hx := List.getElem?_eq_getElem hlt
    obtain ⟨_, h2, h3, h4⟩ := ht (i + d) _ hx
    have he := hn (i + d) (by omega) (by omega)
    rw [isEff_of hx] at he
    have : Hh (i + d + 1) = Hh (i + d) := by
      cases hw : W (i + d) with
      | true => exact (runOp_still hp he (h3 hw)).1
      | false => exact (h4 hw).2
    rw [show i + (d + 1) = i + d + 1 by omega, this]
    exact heap_same hp ht i d (by omega) (fun k h1 h2 => hn k h1 (by omega))

theorem clash_symm_dst {x y : IOper} {t : Nat} (h : x.dst = some t) (hy : t ∈ slots y.op ++ gslot y.guard ∨ y.dst = some t) : clash x y = true := by
  unfold clash
  rw [h]
  have : ((slots y.op ++ gslot y.guard).contains t || y.dst == some t) = true := by
    rcases hy with hy | hy
    · simp only [Bool.or_eq_true]; left; simpa using hy
    · simp [hy]
  simp only [this, Bool.true_or]
theorem clash_dst_right {x y : IOper} {t : Nat} (h : y.dst = some t) (hx : t ∈ slots x.op ++ gslot x.guard) : clash x y = true := by
  unfold clash
  rw [h]
  have : (slots x.op ++ gslot x.guard).contains t = true := by simpa using hx
  simp only [Bool.or_eq_true]
  right; exact this

theorem keep_get (e : Env) : ∀ (l : List Nat) (t : Nat), (e.keep l).get t = if t ∈ l then e.get t else none
  | [], t => rfl
  | i :: r, t => by
    simp only [Env.keep]
    cases hi : e.get i with
    | none =>
      rw [keep_get e r t]
      by_cases ht : t = i
      · subst ht; simp [hi]
      · simp [ht]
    | some v =>
      simp only [Env.get]
      by_cases ht : t = i
      · subst ht; simp [hi]
      · simp [ht, keep_get e r t]

theorem drawOk_pair {ops : Array Oper} {il : List IOper} (h : drawOk pu ops il = true) {i j : Nat} {x y : IOper} (hij : i < j) (hx : il[i]? = some x) (hy : il[j]? = some y) :
    ((anc ops).getD j 0).testBit i = true ∨ (clash x y = false ∧ ((eff pu x.op = true ∧ eff pu y.op = true) → early pu (anc ops) il j y = true)) := by
  unfold drawOk at h
  simp only [Bool.and_eq_true, List.all_eq_true] at h
  have h1 := h.1 (y, j) (by rw [List.mem_iff_getElem?]; exact ⟨j, by simp [List.getElem?_zipIdx, hy]⟩) (x, i) (by
    rw [List.mem_iff_getElem?]
    exact ⟨i, by simp [List.getElem?_zipIdx, List.getElem?_take, hij, hx]⟩)
  simp only [Bool.or_eq_true, Bool.and_eq_true, Bool.not_eq_true'] at h1
  rcases h1 with h1 | ⟨h1, h2⟩
  · exact .inl h1
  · refine .inr ⟨h1, fun ⟨g1, g2⟩ => ?_⟩
    rcases h2 with h2 | h2
    · rw [g1, g2] at h2; cases h2
    · exact h2
theorem drawOk_clash {ops : Array Oper} {il : List IOper} (h : drawOk pu ops il = true) {i j : Nat} {x y : IOper} (hij : i < j) (hx : il[i]? = some x) (hy : il[j]? = some y) (hc : clash x y = true) : ((anc ops).getD j 0).testBit i = true := by
  rcases drawOk_pair h hij hx hy with h1 | ⟨h1, _⟩
  · exact h1
  · rw [hc] at h1; cases h1
theorem drawOk_on {ops : Array Oper} {il : List IOper} (h : drawOk pu ops il = true) : ∀ j o, ops[j]? = some o → ∀ e ∈ o.after, Region.binds .any e = true → e.on < j := by
  unfold drawOk at h
  simp only [Bool.and_eq_true, List.all_eq_true] at h
  intro j o ho e he hb
  have h1 := h.2 (o, j) (by rw [List.mem_iff_getElem?]; exact ⟨j, by simp [List.getElem?_zipIdx, ho]⟩) e (by simpa using he)
  simpa [hb] using h1

theorem early_parts {b : List Nat} {il : List IOper} {j : Nat} {y : IOper} (h : early pu b il j y = true) : allc y.op = true ∧ y.guard = none := by
  unfold early at h
  simp only [Bool.and_eq_true, Option.isNone_iff_eq_none] at h
  exact h.1
theorem early_use {b : List Nat} {il : List IOper} {j : Nat} {y : IOper} (h : early pu b il j y = true) {q : Nat} {z : IOper} {t : Nat} (hz : il[q]? = some z) (hjq : j < q) (hd : y.dst = some t)
    (hu : t ∈ slots z.op ++ gslot z.guard ∨ z.dst = some t) : ∀ i, i < j → isEff pu il i = true → (b.getD q 0).testBit i = true := by
  unfold early at h
  simp only [Bool.and_eq_true, List.all_eq_true] at h
  intro i hi he
  have h1 := h.2 (z, q) (by rw [List.mem_iff_getElem?]; exact ⟨q, by simp [List.getElem?_zipIdx, hz]⟩)
  rw [hd] at h1
  have h2 : ((slots z.op ++ gslot z.guard).contains t || z.dst == some t) = true := by
    rcases hu with hu | hu
    · simp only [Bool.or_eq_true]; left; simpa using hu
    · simp [hu]
  simp only [h2, hjq, decide_true, Bool.and_true, Bool.not_true, Bool.false_or, List.all_eq_true] at h1
  have := h1 i (by simpa using hi)
  simpa [he] using this
theorem asks_of {ops : Array Oper} {il : List IOper} {i k : Nat} {y : IOper} (hy : il[i]? = some y) (hl : look pu y.op = true) (hk : k ≤ il.length) (hk2 : k = il.length ∨ isEff pu il k = true)
    (h1 : ∀ j, isEff pu il j = true → k ≤ j → j < i → ((anc ops).getD i 0).testBit j = false ∨ ∃ y, il[j]? = some y ∧ early pu (anc ops) il j y = true) (h2 : ∀ j, isEff pu il j = true → i < j → j < k → ((anc ops).getD j 0).testBit i = false)
    (h3 : ∃ j, isEff pu il j = true ∧ ((k ≤ j ∧ j < i) ∨ (i ≤ j ∧ j < k))) : (i, k) ∈ asks pu ops il := by
  unfold asks
  simp only [List.mem_flatMap]
  refine ⟨(y, i), by rw [List.mem_iff_getElem?]; exact ⟨i, by simp [List.getElem?_zipIdx, hy]⟩, ?_⟩
  simp only [hl, if_true, List.mem_filterMap]
  refine ⟨k, by simp; omega, ?_⟩
  have g1 : (decide (k = il.length) || isEff pu il k) = true := by rcases hk2 with h | h <;> simp [h]
  have g2 : needs pu (anc ops) il i k = true := by
    unfold needs
    simp only [List.all_eq_true]
    intro j hj
    cases he : isEff pu il j with
    | false => simp
    | true =>
      simp only [Bool.not_true, Bool.false_or, Bool.and_eq_true]
      constructor
      · by_cases hc : k ≤ j ∧ j < i
        · rcases h1 j he hc.1 hc.2 with h | ⟨y, g1, g2⟩
          · rw [h]; simp
          · rw [g1]; simp [g2]
        · have : (decide (k ≤ j) && decide (j < i)) = false := by
            rw [Bool.and_eq_false_iff]; simp; omega
          simp [this]
      · by_cases hc : i < j ∧ j < k
        · rw [h2 j he hc.1 hc.2]; simp
        · have : (decide (i < j) && decide (j < k)) = false := by
            rw [Bool.and_eq_false_iff]; simp; omega
          simp [this]
  have g3 : ((List.range il.length).any fun j => isEff pu il j && ((decide (k ≤ j) && decide (j < i)) || (decide (i ≤ j) && decide (j < k)))) = true := by
    obtain ⟨j, he, hc⟩ := h3
    simp only [List.any_eq_true]
    refine ⟨j, by simpa using isEff_lt he, ?_⟩
    rcases hc with hc | hc <;> simp [he, hc.1, hc.2]
  simp only [g1, g2, g3, Bool.and_true, if_true]

theorem set_get {L : Array Bool} {i j : Nat} (hi : i < L.size) : (L.setIfInBounds i true).getD j false = if j = i then true else L.getD j false := by
  by_cases hji : j = i
  · subst hji; simp [hi]
  · simp [hji, Array.getElem?_setIfInBounds_ne (Ne.symm hji)]

/-- The value that a slot has when these have come. -/
def ValL (il : List IOper) (V : Nat → AV) (e0 : Env) (L : Nat → Prop) (t : Nat) (v : AV) : Prop :=
  (∃ j x, il[j]? = some x ∧ L j ∧ x.dst = some t ∧ V j = v ∧ ∀ k y, j < k → il[k]? = some y → L k → y.dst ≠ some t) ∨
  ((∀ k y, il[k]? = some y → L k → y.dst ≠ some t) ∧ e0.get t = some v)

/-- An object that is made ahead of its turn: block b is its own, and no other object's. -/
structure Pend (pu : Nat → Bool) (ops : Array Oper) (w0 : World) (il : List IOper) (V : Nat → AV) (Hh : Nat → H) (L : Array Bool) (h : H) (φ : Phi) (I : Imm) (w : World) (a : Act) (j b : Nat) : Prop where
  mk' ::
  ex : ∃ y s cs p rc el fr, il[j]? = some y ∧ early pu (anc ops) il j y = true ∧ V j = s (Hh j).n ∧ Hh (j + 1) = (Hh j).alloc (.cells cs 0) ∧ Shape s ∧ w.heap[b]? = some (.cells rc el fr) ∧ p + cs.length ≤ rc.size ∧
    (∀ q c, cs[q]? = some c → c.one = true ∧ ∃ v, rc[p + q]? = some v ∧ VR φ I c v) ∧ (∀ q, p ≤ q → q < rc.size → ¬ frz fr q) ∧ (∀ q v, I b q = some v → q < p) ∧
    (∀ t, y.dst = some t → t < a.tmps.size ∧ ∀ (φ' : Phi) (id : Nat), φ' id = some (b, p, rc.size) → VR φ' I (s id) (a.tmps.getD t Go.undef))
  low : w0.heap.size ≤ b
  own : ∀ q x, h.get q ≠ none → φ q = some x → x.1 ≠ b
  use : ∀ q z y t, il[q]? = some z → L.getD q false = true → j < q → il[j]? = some y → y.dst = some t → ¬ (t ∈ slots z.op ++ gslot z.guard ∨ z.dst = some t)

theorem Pend.lt {ops : Array Oper} {il : List IOper} {V : Nat → AV} {Hh : Nat → H} {L : Array Bool} {h : H} {φ : Phi} {I : Imm} {w : World} {a : Act} {j b : Nat} (p : Pend pu ops w0 il V Hh L h φ I w a j b) : b < w.heap.size := by
  obtain ⟨y, s, cs, q, rc, el, fr, _, _, _, _, _, h6, _⟩ := p.ex
  exact (Array.getElem?_eq_some_iff.1 h6).1

/-- It stays so when another operation comes. -/
theorem Pend.step {ops : Array Oper} {il : List IOper} {V : Nat → AV} {Hh : Nat → H} {L : Array Bool} {h h' : H} {φ φ' : Phi} {I I' : Imm} {w w' : World} {a : Act} {j b i : Nat} {d : Option Nat} {xv : Value} {y : IOper} (p : Pend pu ops w0 il V Hh L h φ I w a j b)
    (hR : R φ I h w) (hs : Stp bar φ I h w φ' I' h' w') (hi : i < L.size) (hy : il[i]? = some y) (hyd : y.dst = d)
    (hc : ∀ z t, il[j]? = some z → z.dst = some t → ¬ (t ∈ slots y.op ++ gslot y.guard ∨ y.dst = some t)) : Pend pu ops w0 il V Hh (L.setIfInBounds i true) h' φ' I' w' (a.put d xv) j b := by
  have hlt := p.lt
  obtain ⟨z, s, cs, q, rc, el, fr, h1, h2, h3, h4, h5, h6, h7, h8, h9, h10, h11⟩ := p.ex
  have hIb : ∀ k v, I' b k = some v → I b k = some v := fun k v hv => by
    rcases hs.immT b k v hv with g | g | ⟨r, x, _, hl, hx, he⟩
    · exact g
    · omega
    · exact absurd he (p.own r x hl hx)
  refine ⟨⟨z, s, cs, q, rc, el, fr, h1, h2, h3, h4, h5, ?_, h7, fun k c hcc => ⟨(h8 k c hcc).1, let ⟨v, g1, g2⟩ := (h8 k c hcc).2; ⟨v, g1, g2.mono hs.phi hs.imm⟩⟩, h9, fun k v hv => h10 k v (hIb k v hv), fun t ht => ?_⟩, p.low, fun r x hl hx => ?_, fun r z' y' t hz' hL' hjr hy' hd' => ?_⟩
  · rw [hs.frame b hlt fun r _ hl x hx => p.own r x hl hx]; exact h6
  · obtain ⟨g1, g2⟩ := h11 t ht
    have hdt : d ≠ some t := fun hdt => hc z t h1 ht (.inr (by rw [hyd, hdt]))
    refine ⟨by rw [put_size]; exact g1, fun φ'' id hid => ?_⟩
    have : (a.put d xv).tmps.getD t Go.undef = a.tmps.getD t Go.undef := by
      cases hd : d with
      | none => rfl
      | some r =>
        have hst : r ≠ t := fun hst => hdt (by rw [hd, hst])
        simp [Act.put, Array.getElem?_setIfInBounds_ne hst]
    rw [this]
    exact (g2 φ'' id hid).mono (.refl _) hs.imm
  · by_cases hr : bar ≤ r
    · rcases hs.terr r x hr hl hx with g | ⟨m, u, hm, hlm, hu, he⟩
      · omega
      · rw [← he]; exact p.own m u hlm hu
    · have hl' : h.get r ≠ none := by rw [← hs.old r (by omega)]; exact hl
      cases hg : h.get r with
      | none => exact absurd hg hl'
      | some ob =>
        obtain ⟨c, s', t', g1, _⟩ := (hR.obj r ob hg).block
        have := hs.phi _ _ g1
        rw [hx] at this; cases this
        exact p.own r _ hl' g1
  · rw [set_get hi] at hL'
    split at hL'
    · rename_i hri
      subst hri
      rw [hy] at hz'; cases hz'
      exact hc y' t hy' hd'
    · exact p.use r z' y' t hz' hL' hjr hy' hd'

end
end Go.Ev
namespace Go.Ev
open Go

section
variable {P : Program} {G : Glob} {N bar : Nat} {φ0 : Phi} {I0 : Imm} {h0 : H} {w0 : World} {o : Oracle} {pu : Nat → Bool}

def Bd (pu : Nat → Bool) (il : List IOper) (L : Array Bool) (k j : Nat) : Prop := L.getD j false = true ∧ (isEff pu il j = true → j < k)

structure Inv (G : Glob) (N bar : Nat) (φ0 : Phi) (I0 : Imm) (h0 : H) (w0 : World) (pu : Nat → Bool) (ops : Array Oper) (il : List IOper) (E : Nat → Env) (Hh : Nat → H) (V : Nat → AV) (L : Array Bool) (a : Act) (w : World) (k : Nat) (φ : Phi) (I : Imm) (B : Nat → Nat) : Prop where
  mk' ::
  sz : L.size = ops.size
  closed : ∀ j o, ops[j]? = some o → L.getD j false = true → ∀ e ∈ o.after, Region.binds .any e = true → L.getD e.on false = true
  kle : k ≤ il.length
  R : Ev.R φ I (Hh k) w
  G : GR G I
  S : Stp bar φ0 I0 h0 w0 φ I (Hh k) w
  bar : bar ≤ (Hh k).n
  low : ∀ j, j < k → isEff pu il j = true → L.getD j false = true
  pend : ∀ j, k ≤ j → isEff pu il j = true → L.getD j false = true → Pend pu ops w0 il V Hh L (Hh k) φ I w a j (B j)
  inj : ∀ i j, k ≤ i → k ≤ j → isEff pu il i = true → isEff pu il j = true → L.getD i false = true → L.getD j false = true → B i = B j → i = j
  val : ∀ t v, ValL il V (E 0) (Bd pu il L k) t v → (∀ j y, il[j]? = some y → k ≤ j → isEff pu il j = true → L.getD j false = true → y.dst ≠ some t) → t < a.tmps.size ∧ VR φ I v (a.tmps.getD t Go.undef)
  defers : a.defers = []
  size : a.tmps.size = N

/-- An object that was made ahead of its turn has its turn. -/
theorem Inv.bind {ops : Array Oper} {il : List IOper} {E : Nat → Env} {Hh : Nat → H} {V : Nat → AV} {L : Array Bool} {a : Act} {w : World} {k : Nat} {φ : Phi} {I : Imm} {B : Nat → Nat} (v : Inv G N bar φ0 I0 h0 w0 pu ops il E Hh V L a w k φ I B)
    (he : isEff pu il k = true) (hL : L.getD k false = true) : ∃ φ', Inv G N bar φ0 I0 h0 w0 pu ops il E Hh V L a w (k + 1) φ' I B := by
  have hk := isEff_lt he
  have p := v.pend k (Nat.le_refl _) he hL
  obtain ⟨y, s, cs, q, rc, el, fr, h1, h2, h3, h4, h5, h6, h7, h8, h9, h10, h11⟩ := p.ex
  have hn : φ (Hh k).n = none := v.R.dom _ (Nat.le_refl _)
  have hle : Phi.le φ (fun j => if j = (Hh k).n then some (B k, q, rc.size) else φ j) := fun j x hx => by
    by_cases hj : j = (Hh k).n
    · subst hj; rw [hn] at hx; cases hx
    · simp [hj, hx]
  have hRn : Ev.R (fun j => if j = (Hh k).n then some (B k, q, rc.size) else φ j) I (Hh (k + 1)) w := by
    rw [h4]
    refine v.R.put (Hh k).n (B k) q rc el fr cs 0 hle (by simp) ?_ ?_ ?_ ?_ (fun _ _ => rfl) h6 h7 ?_ ?_ ?_
    · intro j hj
      simp only [H.alloc] at hj
      have : j ≠ (Hh k).n := by omega
      simp [this, v.R.dom j (by omega)]
    · intro j hj
      simp only [H.alloc] at hj ⊢
      have : j ≠ (Hh k).n := by omega
      simp [this, v.R.wf j (by omega)]
    · intro j x hx
      simp only [H.alloc] at hx
      by_cases hj : j = (Hh k).n
      · simp only [hj, if_true, Option.some.injEq] at hx; exact .inl ⟨hj, hx.symm⟩
      · simp only [hj, if_false] at hx; exact .inr ⟨hj, hx⟩
    · intro j x y hj hx hy
      simp only [H.alloc, hj, if_false] at hx
      exact p.own j y (by rw [hx]; simp) hy
    · intro j c hc
      obtain ⟨g1, u, g2, g3⟩ := h8 j c hc
      exact ⟨g1, u, g2, g3.mono hle (.refl _)⟩
    · intro j g1 g2
      exact h9 j (by omega) g2
    · intro j u hu
      have := v.R.imm _ _ _ hu
      rw [cell_of h6] at this
      exact ⟨by have := h10 j u hu; omega, this⟩
  refine ⟨_, v.sz, v.closed, by omega, hRn, v.G, ?_, ?_, fun j hj hej => ?_, fun j hj hej hLj => ?_, fun i j hi hj => v.inj i j (by omega) (by omega), fun t u hu hnp => ?_, v.defers, v.size⟩
  · have S := v.S
    refine ⟨S.phi.trans hle, S.imm, S.size, S.frame, fun i x hi hl hx => ?_, fun i hi => ?_, by rw [h4]; simp only [H.alloc]; have := S.n; omega, S.os, S.output, S.immT⟩
    · rw [h4] at hl
      by_cases hj : i = (Hh k).n
      · simp only [hj, if_true, Option.some.injEq] at hx; subst hx; exact .inl p.low
      · simp only [H.alloc, hj, if_false] at hl hx
        exact S.terr i x hi hl hx
    · have hb := v.bar
      have : i ≠ (Hh k).n := by omega
      rw [h4]
      simp only [H.alloc, this, if_false]
      exact S.old i hi
  · rw [h4]; simp only [H.alloc]; have := v.bar; omega
  · by_cases hjk : j = k
    · subst hjk; exact hL
    · exact v.low j (by omega) hej
  · have pj := v.pend j (by omega) hej hLj
    have hbb : B k ≠ B j := fun hbb => by
      have := v.inj k j (Nat.le_refl _) (by omega) he hej hL hLj hbb
      omega
    obtain ⟨y', s', cs', q', rc', el', fr', k1, k2, k3, k4, k5, k6, k7, k8, k9, k10, k11⟩ := pj.ex
    refine ⟨⟨y', s', cs', q', rc', el', fr', k1, k2, k3, k4, k5, k6, k7, fun r c hc => ⟨(k8 r c hc).1, let ⟨u, g1, g2⟩ := (k8 r c hc).2; ⟨u, g1, g2.mono hle (.refl _)⟩⟩, k9, k10, k11⟩, pj.low, fun r x hl hx => ?_, pj.use⟩
    rw [h4] at hl
    by_cases hj' : r = (Hh k).n
    · simp only [hj', if_true, Option.some.injEq] at hx; subst hx; exact hbb
    · simp only [H.alloc, hj', if_false] at hl hx
      exact pj.own r x hl hx
  · have hbk : Bd pu il L (k + 1) k := ⟨hL, fun _ => Nat.lt_succ_self _⟩
    by_cases hyt : y.dst = some t
    · have huV : u = V k := by
        rcases hu with ⟨j, x, g1, g2, g3, g4, g5⟩ | ⟨g1, g2⟩
        · by_cases hjk : j = k
          · subst hjk; exact g4.symm
          · exfalso
            rcases Nat.lt_or_gt_of_ne hjk with hlt | hgt
            · exact g5 k y hlt h1 hbk hyt
            · exact p.use j x y t g1 g2.1 hgt h1 hyt (.inr g3)
        · exact absurd hyt (g1 k y h1 hbk)
      subst huV
      obtain ⟨g1, g2⟩ := h11 t hyt
      refine ⟨g1, ?_⟩
      rw [h3]
      exact g2 _ (Hh k).n (by simp)
    · have hu' : ValL il V (E 0) (Bd pu il L k) t u := by
        have hdn : ∀ r z, il[r]? = some z → Bd pu il L k r → Bd pu il L (k + 1) r := fun r z _ h => ⟨h.1, fun h' => Nat.lt_succ_of_lt (h.2 h')⟩
        rcases hu with ⟨j, x, g1, g2, g3, g4, g5⟩ | ⟨g1, g2⟩
        · have hjk : j ≠ k := fun hjk => by subst hjk; rw [h1] at g1; cases g1; exact hyt g3
          exact .inl ⟨j, x, g1, ⟨g2.1, fun h => by have := g2.2 h; omega⟩, g3, g4, fun r z hr hz hb => g5 r z hr hz (hdn r z hz hb)⟩
        · exact .inr ⟨fun r z hz hb => g1 r z hz (hdn r z hz hb), g2⟩
      obtain ⟨g1, g2⟩ := v.val t u hu' fun j z hz hj hej hLj => by
        by_cases hjk : j = k
        · subst hjk; rw [h1] at hz; cases hz; exact hyt
        · exact hnp j z hz (by omega) hej hLj
      exact ⟨g1, g2.mono hle (.refl _)⟩

/-- As far as it goes. -/
theorem Inv.norm (hp : PureO o pu) {ops : Array Oper} {il : List IOper} {E : Nat → Env} {Hh : Nat → H} {V : Nat → AV} {W : Nat → Bool} (ht : Tr o bar il E Hh V W) {L : Array Bool} {a : Act} {w : World} : ∀ (d k : Nat) (φ : Phi) (I : Imm) (B : Nat → Nat), k + d = il.length →
    Inv G N bar φ0 I0 h0 w0 pu ops il E Hh V L a w k φ I B → ∃ k' φ', Inv G N bar φ0 I0 h0 w0 pu ops il E Hh V L a w k' φ' I B ∧ (k' = il.length ∨ (isEff pu il k' = true ∧ L.getD k' false = false))
  | 0, k, φ, I, B, hd, v => ⟨k, φ, v, .inl (by omega)⟩
  | d + 1, k, φ, I, B, hd, v => by
    cases he : isEff pu il k with
    | true =>
      cases hL : L.getD k false with
      | true =>
        obtain ⟨φ', v'⟩ := v.bind he hL
        exact Inv.norm hp ht d (k + 1) φ' I B (by omega) v'
      | false => exact ⟨k, φ, v, .inr ⟨he, hL⟩⟩
    | false =>
      have hh : Hh (k + 1) = Hh k := heap_same hp ht k 1 (by omega) fun j h1 h2 => by
        have : j = k := by omega
        subst this; exact he
      have hne : ∀ j, isEff pu il j = true → j ≠ k := fun j hj hjk => by subst hjk; rw [he] at hj; cases hj
      refine Inv.norm hp ht d (k + 1) φ I B (by omega) ⟨v.sz, v.closed, by omega, hh ▸ v.R, v.G, hh ▸ v.S, hh ▸ v.bar, fun j hj hej => v.low j (by have := hne j hej; omega) hej, fun j hj hej hLj => hh ▸ v.pend j (by omega) hej hLj,
        fun i j hi hj => v.inj i j (by omega) (by omega), fun t u hu hnp => ?_, v.defers, v.size⟩
      have hbd : ∀ j, Bd pu il L (k + 1) j ↔ Bd pu il L k j := fun j => ⟨fun h => ⟨h.1, fun h' => by have := h.2 h'; have := hne j h'; omega⟩, fun h => ⟨h.1, fun h' => Nat.lt_succ_of_lt (h.2 h')⟩⟩
      refine v.val t u ?_ fun j z hz hj hej hLj => hnp j z hz (by have := hne j hej; omega) hej hLj
      rcases hu with ⟨j, x, g1, g2, g3, g4, g5⟩ | ⟨g1, g2⟩
      · exact .inl ⟨j, x, g1, (hbd j).1 g2, g3, g4, fun r z hr hz hb => g5 r z hr hz ((hbd r).2 hb)⟩
      · exact .inr ⟨fun r z hz hb => g1 r z hz ((hbd r).2 hb), g2⟩

end
end Go.Ev
namespace Go.Ev
open Go

section
variable {P : Program} {G : Glob} {N bar : Nat} {φ0 : Phi} {I0 : Imm} {h0 : H} {w0 : World} {o : Oracle} {pu : Nat → Bool}

/-- What looks at objects sees the same whenever it may come. -/
def Stab (o : Oracle) (bar : Nat) (pu : Nat → Bool) (ops : Array Oper) (il : List IOper) (E : Nat → Env) (Hh : Nat → H) (V : Nat → AV) (W : Nat → Bool) : Prop :=
  ∀ i k y, il[i]? = some y → (i, k) ∈ asks pu ops il → W i = true → ∃ h', runOp o bar (E i) (Hh k) y.op = some (V i, h')

theorem inv_all (ho : Sound P G o) (hp : PureO o pu) {ops : Array Oper} {il : List IOper} (hc : compOps P G N ops ops.toList = some il) (hok : drawOk pu ops il = true) {E : Nat → Env} {Hh : Nat → H} {V : Nat → AV} {W : Nat → Bool} (ht : Tr o bar il E Hh V W)
    (hst : Stab o bar pu ops il E Hh V W) {Q : Exit → Act → World → Prop} (hQ : ∀ a' w', Rel G N bar φ0 I0 h0 w0 (E il.length) (Hh il.length) a' w' → Q .normal a' w') :
    ∀ (fuel : Nat) (L : Array Bool) (a : Act) (w : World) (k : Nat) (φ : Phi) (I : Imm) (B : Nat → Nat), Inv G N bar φ0 I0 h0 w0 pu ops il E Hh V L a w k φ I B → (List.range ops.size).countP (fun i => !L.getD i false) ≤ fuel → wpAny P .any ops Q fuel L a w := by
  obtain ⟨hlen, hget⟩ := compOps_get ops.toList il hc
  simp only [Array.length_toList] at hlen
  have hon := drawOk_on hok
  -- all have come
  have hend : ∀ L a w k φ I B, Inv G N bar φ0 I0 h0 w0 pu ops il E Hh V L a w k φ I B → (∀ i, i < ops.size → L.getD i false = true) → Q .normal a w := fun L a w k φ I B v0 hall => by
    obtain ⟨k, φ, v, hk⟩ := v0.norm hp ht (il.length - k) k φ I B (by have := v0.kle; omega)
    have hk' : k = il.length := by
      rcases hk with h | ⟨h1, h2⟩
      · exact h
      · have := hall k (by have := isEff_lt h1; omega)
        rw [h2] at this; cases this
    subst hk'
    refine hQ a w ⟨⟨φ, I, v.R, fun t u hu => v.val t u ?_ (fun j y hy hj => by have := (List.getElem?_eq_some_iff.1 hy).1; omega), v.G, v.S⟩, v.defers, v.size, v.bar⟩
    have hb : ∀ j y, il[j]? = some y → Bd pu il L il.length j := fun j y hy => ⟨hall j (by have := (List.getElem?_eq_some_iff.1 hy).1; omega), fun h => isEff_lt h⟩
    rcases env_last ht t u il.length (Nat.le_refl _) hu with ⟨j, x, g1, g2, g3, g4, g5⟩ | ⟨g1, g2⟩
    · exact .inl ⟨j, x, g2, hb j x g2, g3, g4, fun q y h1 hy _ => g5 q y h1 (List.getElem?_eq_some_iff.1 hy).1 hy⟩
    · exact .inr ⟨fun q y hy _ => g1 q y (List.getElem?_eq_some_iff.1 hy).1 hy, g2⟩
  have hzero : ∀ L : Array Bool, (List.range ops.size).countP (fun i => !L.getD i false) = 0 → ∀ i, i < ops.size → L.getD i false = true := fun L h i hi => by
    have := List.countP_eq_zero.1 h i (by simpa using hi)
    simpa using this
  have hready0 : ∀ L : Array Bool, (∀ j o, ops[j]? = some o → L.getD j false = true → ∀ e ∈ o.after, Region.binds .any e = true → L.getD e.on false = true) → L.size = ops.size → Region.ready .any ops L = [] → ∀ i, i < ops.size → L.getD i false = true := fun L hcl hsz hr i => by
    induction i using Nat.strongRecOn with
    | _ i ih =>
      intro hi
      by_cases hLi : L.getD i false = true
      · exact hLi
      · exfalso
        have : i ∈ Region.ready .any ops L := by
          rw [mem_ready]
          refine ⟨?_, _, Array.getElem?_eq_getElem hi, fun e he hb => ih e.on (hon i _ (Array.getElem?_eq_getElem hi) e he hb) (by have := hon i _ (Array.getElem?_eq_getElem hi) e he hb; omega)⟩
          have hlt : i < L.size := by omega
          simp [hlt] at hLi ⊢; exact hLi
        rw [hr] at this; cases this
  intro fuel
  induction fuel with
  | zero =>
    intro L a w k φ I B v hcnt
    have hall := hzero L (by omega)
    refine ⟨?_, hend L a w k φ I B v hall⟩
    cases hr : Region.ready .any ops L with
    | nil => rfl
    | cons i r =>
      have : i ∈ Region.ready .any ops L := by rw [hr]; simp
      rw [mem_ready] at this
      obtain ⟨h1, oi, hoi, _⟩ := this
      have hi := (Array.getElem?_eq_some_iff.1 hoi).1
      have h2 := hall i hi
      have hlt : i < L.size := by rw [v.sz]; exact hi
      simp [hlt] at h1 h2
      rw [h1] at h2; cases h2
  | succ fuel ih =>
    intro L a w k φ I B v0 hcnt
    refine ⟨fun hr => hend L a w k φ I B v0 (hready0 L v0.closed v0.sz hr), fun i hi => ?_⟩
    obtain ⟨k, φ, v, hkn⟩ := v0.norm hp ht (il.length - k) k φ I B (by have := v0.kle; omega)
    clear v0
    rw [mem_ready] at hi
    obtain ⟨hLi, x, hx, hdeps⟩ := hi
    have hin := (Array.getElem?_eq_some_iff.1 hx).1
    have hiL : i < L.size := by rw [v.sz]; exact hin
    have hLi' : L.getD i false = false := by simp [hiL] at hLi ⊢; exact hLi
    obtain ⟨y, hy, hcy⟩ := hget i x (by simpa using hx)
    have hilen : i < il.length := (List.getElem?_eq_some_iff.1 hy).1
    obtain ⟨hdst, hd, hop, hg⟩ := compOper_dst hcy
    obtain ⟨t1, t2, t3, t4⟩ := ht i y hy
    -- what comes ahead has come, what waits for this has not
    have hAb : ∀ j, ((anc ops).getD i 0).testBit j = true → L.getD j false = true := fun j hb =>
      anc_listed hon (L := fun q => L.getD q false = true) v.closed i x hx hdeps j hb
    have hBb : ∀ j, j < ops.size → L.getD j false = true → ((anc ops).getD j 0).testBit i = true → False := fun j hjn hLj hb => by
      have := anc_listed hon (L := fun q => L.getD q false = true) v.closed j _ (Array.getElem?_eq_getElem hjn) (v.closed j _ (Array.getElem?_eq_getElem hjn) hLj) i hb
      rw [hLi'] at this; cases this
    have hA : ∀ j z, j < i → il[j]? = some z → clash z y = true → L.getD j false = true := fun j z hji hz hcl => hAb j (drawOk_clash hok hji hz hy hcl)
    have hB : ∀ j z, i < j → il[j]? = some z → clash y z = true → L.getD j false = false := fun j z hij hz hcl => by
      cases hLj : L.getD j false with
      | false => rfl
      | true => exact (hBb j (by have := (List.getElem?_eq_some_iff.1 hz).1; omega) hLj (drawOk_clash hok hij hy hz hcl)).elim
    -- none of the objects made ahead is looked at
    have hconf : ∀ j z t, k ≤ j → isEff pu il j = true → L.getD j false = true → il[j]? = some z → z.dst = some t → ¬ (t ∈ slots y.op ++ gslot y.guard ∨ y.dst = some t) := fun j z t hkj hej hLj hz hzt hu => by
      have hjlt := isEff_lt hej
      have hke : isEff pu il k = true ∧ L.getD k false = false := by
        rcases hkn with h | h
        · omega
        · exact h
      have hkj' : k < j := by
        rcases Nat.lt_or_eq_of_le hkj with h | h
        · exact h
        · subst h; rw [hke.2] at hLj; cases hLj
      rcases Nat.lt_trichotomy j i with hlt | heq | hgt
      · have hery := (v.pend j hkj hej hLj).ex
        obtain ⟨z', s, cs, q, rc, el, fr, k1, k2, _⟩ := hery
        rw [hz] at k1; cases k1
        have := hAb k (early_use k2 hy hlt hzt hu k hkj' hke.1)
        rw [hke.2] at this; cases this
      · subst heq; rw [hLi'] at hLj; cases hLj
      · have hcl : clash y z = true := by
          rcases hu with hu | hu
          · exact clash_dst_right hzt hu
          · exact clash_symm_dst hu (.inr hzt)
        rw [hB j z hgt hz hcl] at hLj; cases hLj
    -- the frame as it is now, at the slots that it looks at
    let sl := slots y.op ++ gslot y.guard
    let e1 := (E i).keep sl
    have he1 : ∀ t, t ∈ sl → e1.get t = (E i).get t := fun t hts => by simp only [e1]; rw [keep_get, if_pos hts]
    have hE : EnvR φ I e1 a.tmps := fun t u hv => by
      simp only [e1] at hv
      rw [keep_get] at hv
      split at hv
      · rename_i hts
        refine v.val t u ?_ (fun j z hz hj hej hLj hzt => hconf j z t hj hej hLj hz hzt (.inl hts))
        have hafter : ∀ q z, i ≤ q → il[q]? = some z → Bd pu il L k q → z.dst ≠ some t := fun q z hq hz hLq hzd => by
          by_cases hqi : q = i
          · subst hqi; have := hLq.1; rw [hLi'] at this; cases this
          · have h1 := hB q z (by omega) hz (clash_dst_right hzd hts)
            have h2 := hLq.1
            rw [h1] at h2; cases h2
        rcases env_last ht t u i (by omega) hv with ⟨j, z, g1, g2, g3, g4, g5⟩ | ⟨g1, g2⟩
        · have hLj := hA j z g1 g2 (clash_symm_dst g3 (.inl hts))
          refine .inl ⟨j, z, g2, ⟨hLj, fun hej => ?_⟩, g3, g4, fun q z' h1 hz' hLq => ?_⟩
          · rcases Nat.lt_or_ge j k with h | h
            · exact h
            · exact (hconf j z t h hej hLj g2 g3 (.inl hts)).elim
          · by_cases hqi : q < i
            · exact g5 q z' h1 hqi hz'
            · exact hafter q z' (by omega) hz' hLq
        · refine .inr ⟨fun q z' hz' hLq => ?_, g2⟩
          by_cases hqi : q < i
          · exact g1 q z' hqi hz'
          · exact hafter q z' (by omega) hz' hLq
      · cases hv
    have hwant : wantedA e1 y.guard = some (W i) := by
      rw [← t2]
      cases hgg : y.guard with
      | none => rfl
      | some q =>
        obtain ⟨s, want⟩ := q
        simp only [wantedA]
        rw [he1 s (by simp [sl, hgg, gslot])]
    have hcount : (List.range ops.size).countP (fun q => !(L.setIfInBounds i true).getD q false) ≤ fuel := by
      have hlt := countP_lt (l := List.range ops.size) (p := fun q => !L.getD q false) (q := fun q => !(L.setIfInBounds i true).getD q false) (i := i) (by simpa using hin) (by simp [hLi']) (by rw [set_get hiL]; simp) (fun q hq => by
        rw [set_get hiL] at hq
        split at hq
        · simp at hq
        · exact hq)
      omega
    have hclosed : ∀ j o, ops[j]? = some o → (L.setIfInBounds i true).getD j false = true → ∀ e ∈ o.after, Region.binds .any e = true → (L.setIfInBounds i true).getD e.on false = true := fun j z hz hLj e he hbb => by
      rw [set_get hiL] at hLj ⊢
      split
      · rfl
      · split at hLj
        · rename_i hji
          subst hji
          rw [hx] at hz; cases hz
          exact hdeps e he hbb
        · exact v.closed j z hz hLj e he hbb
    have hputo : ∀ (xv : Value) (t : Nat), y.dst ≠ some t → (a.put x.dst xv).tmps.getD t Go.undef = a.tmps.getD t Go.undef := fun xv t hyt => by
      cases hxd : x.dst with
      | none => rfl
      | some s =>
        have hst : s ≠ t := fun hst => hyt (by rw [hdst, hxd, hst])
        simp [Act.put, Array.getElem?_setIfInBounds_ne hst]
    -- what comes behind
    have hnext : ∀ (xv : Value) (w' : World) (φ' : Phi) (I' : Imm) (k' : Nat), k' ≤ il.length → k ≤ k' → (isEff pu il i = true → i < k') → (∀ j, k ≤ j → j < k' → isEff pu il j = true → j = i) → Ev.R φ' I' (Hh k') w' → VR φ' I' (V i) xv → Stp bar φ I (Hh k) w φ' I' (Hh k') w' →
        wpAny P .any ops Q fuel (L.setIfInBounds i true) (a.put x.dst xv) w' := fun xv w' φ' I' k' hk' hkk hie hbtw hR' hv' hs' => by
      refine ih _ _ _ k' φ' I' B ⟨by simp [v.sz], hclosed, hk', hR', v.G.mono hs'.imm, v.S.trans hs', Nat.le_trans v.bar hs'.n, fun j hj hej => ?_, fun j hj hej hLj => ?_, fun p q hp1 hq1 hp2 hq2 hp3 hq3 => ?_, fun t u hvl hnp => ?_, by rw [put_defers]; exact v.defers, by rw [put_size]; exact v.size⟩ hcount
      · rw [set_get hiL]
        split
        · rfl
        · rename_i hji
          rcases Nat.lt_or_ge j k with h | h
          · exact v.low j h hej
          · exact absurd (hbtw j h hj hej) hji
      · have hji : j ≠ i := fun hji => by subst hji; have := hie hej; omega
        rw [set_get hiL, if_neg hji] at hLj
        rw [← hdst]
        exact (v.pend j (by omega) hej hLj).step v.R hs' hiL hy rfl fun z t hz hzt => hconf j z t (by omega) hej hLj hz hzt
      · have hpi : p ≠ i := fun h => by subst h; have := hie hp2; omega
        have hqi : q ≠ i := fun h => by subst h; have := hie hq2; omega
        rw [set_get hiL, if_neg hpi] at hp3
        rw [set_get hiL, if_neg hqi] at hq3
        exact v.inj p q (by omega) (by omega) hp2 hq2 hp3 hq3
      · have hbi : Bd pu il (L.setIfInBounds i true) k' i := ⟨by rw [set_get hiL]; simp, hie⟩
        by_cases hyt : y.dst = some t
        · have hvV : u = V i := by
            rcases hvl with ⟨j, z, g1, g2, g3, g4, g5⟩ | ⟨g1, g2⟩
            · by_cases hji : j = i
              · subst hji; exact g4.symm
              · exfalso
                have g2' := g2.1
                rw [set_get hiL, if_neg hji] at g2'
                rcases Nat.lt_or_gt_of_ne hji with hlt | hgt
                · exact g5 i y hlt hy hbi hyt
                · have := hB j z hgt g1 (clash_symm_dst hyt (.inr g3))
                  rw [this] at g2'; cases g2'
            · exact absurd hyt (g1 i y hy hbi)
          subst hvV
          rw [hdst] at hyt
          have htn := hd t hyt
          rw [hyt]
          refine ⟨by simp [Act.put, v.size]; exact htn, ?_⟩
          have : t < a.tmps.size := by rw [v.size]; exact htn
          simpa [Act.put, this] using hv'
        · have hup : ∀ q, Bd pu il L k q → Bd pu il (L.setIfInBounds i true) k' q := fun q hq => ⟨by rw [set_get hiL]; split <;> first | rfl | exact hq.1, fun h => Nat.lt_of_lt_of_le (hq.2 h) hkk⟩
          have hvl' : ValL il V (E 0) (Bd pu il L k) t u := by
            rcases hvl with ⟨j, z, g1, g2, g3, g4, g5⟩ | ⟨g1, g2⟩
            · have hji : j ≠ i := fun hji => by subst hji; rw [hy] at g1; cases g1; exact hyt g3
              have g2' := g2.1
              rw [set_get hiL, if_neg hji] at g2'
              refine .inl ⟨j, z, g1, ⟨g2', fun hej => ?_⟩, g3, g4, fun q z' h1 hz' hLq => g5 q z' h1 hz' (hup q hLq)⟩
              rcases Nat.lt_or_ge j k with h | h
              · exact h
              · exact absurd (hbtw j h (g2.2 hej) hej) hji
            · exact .inr ⟨fun q z' hz' hLq => g1 q z' hz' (hup q hLq), g2⟩
          obtain ⟨f1, f2⟩ := v.val t u hvl' fun j z hz hj hej hLj => by
            rcases Nat.lt_or_ge j k' with h | h
            · have := hbtw j hj h hej
              subst this; rw [hLi'] at hLj; cases hLj
            · exact hnp j z hz h hej (by rw [set_get hiL]; split <;> first | rfl | exact hLj)
          refine ⟨by rw [put_size]; exact f1, ?_⟩
          rw [hputo xv t hyt]
          exact f2.mono hs'.phi hs'.imm
    have hnone : ∀ j, k ≤ j → j < k → isEff pu il j = true → j = i := fun j h1 h2 => by omega
    -- it comes
    unfold wpOp
    simp only [hx]
    rw [wanted_sound hcy hE hwant]
    have hcong : ∀ b2 hh, runOp o b2 e1 hh y.op = runOp o b2 (E i) hh y.op := fun b2 hh => runOp_congr fun t hts => he1 t (by simp [sl, hts])
    cases hey : isEff pu il i with
    | true =>
      have hey' := hey
      rw [isEff_of hy] at hey'
      have hki : k ≤ i := by
        rcases Nat.lt_or_ge i k with h | h
        · have := v.low i h hey; rw [hLi'] at this; cases this
        · exact h
      rcases Nat.lt_or_eq_of_le hki with hlt | heq
      · -- ahead of its turn
        have hke : isEff pu il k = true ∧ L.getD k false = false := by
          rcases hkn with h | h
          · omega
          · exact h
        obtain ⟨z, hz⟩ : ∃ z, il[k]? = some z := ⟨_, List.getElem?_eq_getElem (isEff_lt hke.1)⟩
        have hery : early pu (anc ops) il i y = true := by
          rcases drawOk_pair hok hlt hz hy with h | ⟨_, h⟩
          · have := hAb k h; rw [hke.2] at this; cases this
          · exact h ⟨by rw [← isEff_of hz]; exact hke.1, hey'⟩
        obtain ⟨hal, hgn⟩ := early_parts hery
        have hWi : W i = true := by rw [hgn] at t2; simpa [wantedA] using t2.symm
        rw [hWi]
        simp only [if_true]
        obtain ⟨s, cs, hs1, hs2, hs3, hs4, hs5⟩ := allc_run hal (t3 hWi)
        refine .inl ?_
        refine runOp_core (bar := (Hh k).n) (I := I) ho hcy v.R hE v.G (Nat.le_refl _) (by rw [hcong]; exact hs5 (Hh k).n (Hh k)) fun xv w' φ' I' hR' hv' hs' => ?_
        have hRb := R.back v.R hR' hs'
        have hSb := Stp.back (bar := bar) v.R hs'
        have hget' : ((Hh k).alloc (.cells cs 0)).get (Hh k).n = some (.cells cs 0) := by simp [H.alloc]
        obtain ⟨b, p, rc, el, fr, g1, g2, g3, g4, g5, g6⟩ := hR'.obj _ _ hget'
        have hbw : w.heap.size ≤ b := by
          rcases hs'.terr (Hh k).n _ (Nat.le_refl _) (by rw [hget']; simp) g1 with h | ⟨j, u, hj, hl, _⟩
          · exact h
          · exact absurd (v.R.wf j hj) hl
        refine ih _ _ _ k φ I' (fun j => if j = i then b else B j) ⟨by simp [v.sz], hclosed, v.kle, hRb, v.G.mono hs'.imm, v.S.trans hSb, v.bar, fun j hj hej => ?_, fun j hj hej hLj => ?_, fun p q hp1 hq1 hp2 hq2 hp3 hq3 hpq => ?_, fun t u hvl hnp => ?_, by rw [put_defers]; exact v.defers, by rw [put_size]; exact v.size⟩ hcount
        · rw [set_get hiL]
          split
          · rfl
          · exact v.low j hj hej
        · by_cases hji : j = i
          · subst hji
            simp only [if_true]
            refine ⟨⟨y, s, cs, p, rc, el, fr, hy, hery, hs2, hs3, hs1, g2, g3, fun q c hq => ⟨(g4 q c hq).1, let ⟨u, k1, k2⟩ := (g4 q c hq).2; ⟨u, k1, k2.free (hs4 c (List.mem_of_getElem? hq))⟩⟩, fun q h1 h2 => g5 q (by omega) h2, fun q u hu => by have := g6 q u hu; omega, fun t hyt => ?_⟩,
              by have := v.S.size; omega, fun q u hl hu => ?_, fun q z' y' t hz' hLq hjq hy' hyt hus => ?_⟩
            · rw [hdst] at hyt
              have htn := hd t hyt
              rw [hyt]
              have hts : t < a.tmps.size := by rw [v.size]; exact htn
              refine ⟨by simp [Act.put]; exact hts, fun φ'' id hid => ?_⟩
              have := hs1.vr g1 hv' hid
              simpa [Act.put, hts] using this
            · cases hgq : (Hh k).get q with
              | none => exact absurd hgq hl
              | some ob =>
                obtain ⟨c, s', t', m1, m2⟩ := (v.R.obj q ob hgq).block
                rw [hu] at m1; cases m1
                show c ≠ b
                omega
            · rw [hy] at hy'; cases hy'
              have hqi : q ≠ j := by omega
              rw [set_get hiL, if_neg hqi] at hLq
              have hcl : clash y z' = true := clash_symm_dst hyt hus
              rw [hB q z' hjq hz' hcl] at hLq; cases hLq
          · rw [set_get hiL, if_neg hji] at hLj
            rw [if_neg hji, ← hdst]
            exact (v.pend j hj hej hLj).step v.R hSb hiL hy rfl fun z t hz hzt => hconf j z t hj hej hLj hz hzt
        · have hBlt : ∀ j, k ≤ j → isEff pu il j = true → j ≠ i → (L.setIfInBounds i true).getD j false = true → B j < w.heap.size := fun j hj hej hji hLj => by
            rw [set_get hiL, if_neg hji] at hLj
            exact (v.pend j hj hej hLj).lt
          by_cases hpi : p = i <;> by_cases hqi : q = i
          · omega
          · simp only [hpi, hqi, if_true, if_false] at hpq
            have := hBlt q hq1 hq2 hqi hq3
            omega
          · simp only [hpi, hqi, if_true, if_false] at hpq
            have := hBlt p hp1 hp2 hpi hp3
            omega
          · simp only [hpi, hqi, if_false] at hpq
            rw [set_get hiL, if_neg hpi] at hp3
            rw [set_get hiL, if_neg hqi] at hq3
            exact v.inj p q hp1 hq1 hp2 hq2 hp3 hq3 hpq
        · have hyt : y.dst ≠ some t := hnp i y hy hki hey (by rw [set_get hiL]; simp)
          have hup : ∀ q, Bd pu il L k q → Bd pu il (L.setIfInBounds i true) k q := fun q hq => ⟨by rw [set_get hiL]; split <;> first | rfl | exact hq.1, hq.2⟩
          have hvl' : ValL il V (E 0) (Bd pu il L k) t u := by
            rcases hvl with ⟨j, z, m1, m2, m3, m4, m5⟩ | ⟨m1, m2⟩
            · have hji : j ≠ i := fun hji => by subst hji; rw [hy] at m1; cases m1; exact hyt m3
              have m2' := m2.1
              rw [set_get hiL, if_neg hji] at m2'
              exact .inl ⟨j, z, m1, ⟨m2', m2.2⟩, m3, m4, fun q z' h1 hz' hLq => m5 q z' h1 hz' (hup q hLq)⟩
            · exact .inr ⟨fun q z' hz' hLq => m1 q z' hz' (hup q hLq), m2⟩
          obtain ⟨f1, f2⟩ := v.val t u hvl' fun j z hz hj hej hLj => hnp j z hz hj hej (by rw [set_get hiL]; split <;> first | rfl | exact hLj)
          refine ⟨by rw [put_size]; exact f1, ?_⟩
          rw [hputo xv t hyt]
          exact f2.mono (.refl _) hs'.imm
      · -- its turn
        subst heq
        have hb1 : ∀ j, k ≤ j → j < k + 1 → isEff pu il j = true → j = k := fun j h1 h2 _ => by omega
        cases hW : W k with
        | false =>
          simp only [Bool.false_eq_true, if_false]
          obtain ⟨hVu, hHi⟩ := t4 hW
          exact hnext Go.undef w φ I (k + 1) (by omega) (by omega) (fun _ => by omega) hb1 (hHi ▸ v.R) (hVu ▸ .undef) (hHi ▸ .refl _ _ _ _ _)
        | true =>
          simp only [if_true]
          exact .inl (runOp_core ho hcy v.R hE v.G v.bar (by rw [hcong]; exact t3 hW) fun xv w' φ' I' hR' hv' hs' => hnext xv w' φ' I' (k + 1) (by omega) (by omega) (fun _ => by omega) hb1 hR' hv' hs')
    | false =>
      have hey' := hey
      rw [isEff_of hy] at hey'
      cases hW : W i with
      | false =>
        simp only [Bool.false_eq_true, if_false]
        exact hnext Go.undef w φ I k v.kle (Nat.le_refl _) (fun h => by rw [hey] at h; cases h) hnone v.R ((t4 hW).1 ▸ .undef) (.refl _ _ _ _ _)
      | true =>
        simp only [if_true]
        have hrun := t3 hW
        have hrk : runOp o bar e1 (Hh k) y.op = some (V i, Hh k) := by
          rw [hcong]
          cases hlk : look pu y.op with
          | false => exact (runOp_still hp hey' hrun).2 hlk _
          | true =>
            have hex : ∃ h', runOp o bar (E i) (Hh k) y.op = some (V i, h') := by
              by_cases hbt : ∃ j, isEff pu il j = true ∧ ((k ≤ j ∧ j < i) ∨ (i ≤ j ∧ j < k))
              · refine hst i k y hy (asks_of hy hlk v.kle (hkn.imp id fun h => h.1) (fun j hej h1 h2 => ?_) (fun j hej h1 h2 => ?_) hbt) hW
                · cases hb : ((anc ops).getD i 0).testBit j with
                  | false => exact .inl rfl
                  | true =>
                    obtain ⟨z', s, cs, q, rc, el, fr, k1, k2, _⟩ := (v.pend j h1 hej (hAb j hb)).ex
                    exact .inr ⟨z', k1, k2⟩
                · cases hb : ((anc ops).getD j 0).testBit i with
                  | false => rfl
                  | true => exact (hBb j (by have := isEff_lt hej; omega) (v.low j h2 hej) hb).elim
              · have hh : Hh k = Hh i := by
                  rcases Nat.le_total k i with h | h
                  · have := heap_same hp ht k (i - k) (by omega) (fun q h1 h2 => by
                      cases hq : isEff pu il q with
                      | false => rfl
                      | true => exact absurd ⟨q, hq, .inl ⟨h1, by omega⟩⟩ hbt)
                    rw [show k + (i - k) = i by omega] at this; exact this.symm
                  · have := heap_same hp ht i (k - i) (by have := v.kle; omega) (fun q h1 h2 => by
                      cases hq : isEff pu il q with
                      | false => rfl
                      | true => exact absurd ⟨q, hq, .inr ⟨h1, by omega⟩⟩ hbt)
                    rwa [show i + (k - i) = k by omega] at this
                exact ⟨_, by rw [hh]; exact hrun⟩
            obtain ⟨h', hex⟩ := hex
            have := (runOp_still hp hey' hex).1
            rw [this] at hex
            exact hex
        exact .inl (runOp_core ho hcy v.R hE v.G v.bar hrk fun xv w' φ' I' hR' hv' hs' => hnext xv w' φ' I' k v.kle (Nat.le_refl _) (fun h => by rw [hey] at h; cases h) hnone hR' hv' hs')

/-- **A region that draws its order comes to what the order of the text comes to.** -/
theorem region_draw (hm : P.follows .mixedOrders = true) (ho : Sound P G o) (hp : PureO o pu) {id : Nat} {ops : Array Oper} {il : List IOper} {e e' : Env} {h h' : H} {a : Act} {w : World} {Q : Exit → Act → World → Prop}
    (hc : compOps P G N ops ops.toList = some il) (hok : drawOk pu ops il = true) (hr : runOps o bar il e h = some (e', h')) (r : Rel G N bar φ0 I0 h0 w0 e h a w)
    (hst : ∀ p ∈ asks pu ops il, ∃ y e1 h1 h2 e2, il[p.1]? = some y ∧ runOps o bar (il.take p.1) e h = some (e1, h1) ∧ runOps o bar (il.take p.2) e h = some (e2, h2) ∧
      (wantedA e1 y.guard = some false ∨ ∃ v h3 h4, runOp o bar e1 h1 y.op = some (v, h3) ∧ runOp o bar e1 h2 y.op = some (v, h4)))
    (hQ : ∀ a' w', Rel G N bar φ0 I0 h0 w0 e' h' a' w' → Q .normal a' w') : (Code.region id ops true).wp P Q a w := by
  obtain ⟨E, Hh, V, W, ht, t1, t2, t3, t4, t5⟩ := tr_of il e e' h h' hr
  obtain ⟨φ, I, hR, hE, hG, hS⟩ := r.ex
  have hstab : Stab o bar pu ops il E Hh V W := fun i k y hy hik hW => by
    obtain ⟨y', e1, h1, h2, e2, g1, g2, g3, g4⟩ := hst (i, k) hik
    simp only at g1 g2 g3
    rw [hy] at g1; cases g1
    have hi : i ≤ il.length := Nat.le_of_lt (List.getElem?_eq_some_iff.1 hy).1
    have hk : k ≤ il.length := by
      unfold asks at hik
      simp only [List.mem_flatMap] at hik
      obtain ⟨q, _, hq⟩ := hik
      split at hq
      · simp only [List.mem_filterMap] at hq
        obtain ⟨r, hr1, hr2⟩ := hq
        split at hr2
        · cases hr2; simp at hr1; omega
        · cases hr2
      · cases hq
    rw [t5 i hi] at g2; cases g2
    rw [t5 k hk] at g3; cases g3
    obtain ⟨s1, s2, s3, s4⟩ := ht i y hy
    rcases g4 with g4 | g4
    · rw [s2, hW] at g4; cases g4
    · obtain ⟨v, h3, h4, g5, g6⟩ := g4
      rw [s3 hW] at g5; cases g5
      exact ⟨h4, g6⟩
  refine wp_region_any hm (inv_all ho hp hc hok ht hstab (fun a' w' hrel => hQ a' w' (by rw [← t3, ← t4]; exact hrel)) _ _ _ _ 0 φ I (fun _ => 0) ?_ ?_)
  · have hrep : ∀ j, (Array.replicate ops.size false).getD j false = false := fun j => Go.getD_replicate_false ops.size j
    have hno : ∀ (j : Nat) {p : Prop}, (Array.replicate ops.size false).getD j false = true → p := fun j p h => by rw [hrep] at h; cases h
    refine ⟨by simp, fun j z hz hLj => hno j hLj, Nat.zero_le _, ?_, hG, ?_, ?_, fun j hj => by omega, fun j _ _ hLj => hno j hLj, fun p q _ _ _ _ h => hno p h, fun t v hv _ => ?_, r.defers, r.size⟩
    · rw [t2]; exact hR.of_heap rfl
    · rw [t2]; exact hS.trans (Stp.of_heap rfl rfl rfl)
    · rw [t2]; exact r.bar
    · rcases hv with ⟨j, x, _, g2, _⟩ | ⟨_, g2⟩
      · exact hno j g2.1
      · rw [t1] at g2; exact hE t v g2
  · exact Nat.le_trans List.countP_le_length (by simp)

end
end Go.Ev
