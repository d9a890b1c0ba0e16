/- What the program's tokens and the document's nesting come to; nothing is assumed. -/
import Derived.Laws.Bits64
import Derived.Test.YtliegbpmmjkmkaaDoorA6
set_option linter.unusedSimpArgs false
set_option linter.unusedVariables false
set_option linter.all false
namespace Go.Ev
open Go
structure RS where
  out : List Tok
  dg : ByteArray
  bad : Bool
def isE (s : ByteArray) : Bool := s.toList.isEmpty
theorem isE_eq (s : ByteArray) : isE s = s.data.toList.isEmpty := by
  unfold isE
  rw [ByteArray.toList_eq]
def named (r : Int) : Bool := decide (r = 955 ∨ r = 960)
def RS.waits (s : RS) : Bool := isE s.dg && (match s.out.getLast? with | some t => named t.sign && t.name == 0 | none => false)
def RS.number (s : RS) : RS := if isE s.dg then s else match Lib.parseIntB 64 s.dg.data.toList with
  | .ok v => ⟨s.out ++ [⟨48, v, 0⟩], ⟨#[]⟩, s.bad⟩
  | .range => ⟨s.out ++ [⟨48, Lib.intSat 64 s.dg.data.toList, 0⟩], ⟨#[]⟩, true⟩
  | _ => ⟨s.out ++ [⟨48, 0, 0⟩], ⟨#[]⟩, true⟩
theorem named_ok {pr : Oracle} {bar : Nat} {h : H} (r : Int) : call tb pr n_glyph_named [.int .i32 r] bar h = some (.bool (named r), h) := glyph_named_ok r
/-- A reader that stands in object R. -/
def RdV (g : H) (bar : Nat) (R z : Nat) (s : RS) : Prop := ∃ oa, g.get R = some (.cells [oa, .str s.dg, .bool s.bad] 0) ∧ bar ≤ R ∧ R < g.n ∧ OS 3 g bar oa s.out.length (s.out.flatMap Tok.cells) ∧ ¬ oa.isAt R ∧ z ≠ R ∧ z < g.n ∧ ¬ oa.isAt z
theorem last_get {l : List Tok} {t : Tok} (h : l.getLast? = some t) : 0 < l.length ∧ l[l.length - 1]? = some t := by
  rw [List.getLast?_eq_getElem?] at h
  refine ⟨?_, h⟩
  cases l with
  | nil => simp at h
  | cons x r => simp
/-- What is read of one's own slice. -/
theorem OS.tok {h : H} {bar : Nat} {a : AV} {out : List Tok} (v : OS 3 h bar a out.length (out.flatMap Tok.cells)) : (a = .nilsl ∧ out = []) ∨ ∃ id all, a = .sl id 0 3 out.length false ∧ bar ≤ id ∧ id < h.n ∧ h.get id = some (.cells all 0) ∧
    (∃ rest, all = out.flatMap Tok.cells ++ rest) ∧
    ∀ i (hi : i < out.length), all[i * 3]? = some (.int .i32 out[i].sign) ∧ all[i * 3 + 1]? = some (.int .i64 out[i].n) ∧ all[i * 3 + 2]? = some (.int .i32 out[i].name) := by
  obtain ⟨h1, h2, ⟨h3, h4⟩ | ⟨id, rest, e1, e2, e3, e4⟩⟩ := v
  · exact .inl ⟨h3, List.length_eq_zero_iff.mp h4⟩
  · refine .inr ⟨id, _, e1, e2, e3, e4, ⟨rest, rfl⟩, fun i hi => ?_⟩
    have hg : ∀ j, j < 3 → (out.flatMap Tok.cells ++ rest)[i * 3 + j]? = out[i].cells[j]? := fun j hj => by
      rw [List.getElem?_append_left (by rw [h1]; omega)]
      exact flat_get Tok.cells_len out i j _ hj (List.getElem?_eq_getElem hi)
    exact ⟨hg 0 (by omega), hg 1 (by omega), hg 2 (by omega)⟩
section
variable {bar b : Nat} {h : H}
theorem glyph_waits_ok (R z : Nat) (s : RS) (hl : s.out.length ≤ 6000) (hv : RdV h b R z s) : call tb prim n_glyph_reader_waits [.ptr R 0] bar h = some (.bool s.waits, h) := by
  refine call_of tb_glyph_reader_waits (callF_pureW rfl rfl (M_in ?_))
  obtain ⟨oa, hR, hb1, hb2, ho, hat, hz1, hz2, hz3⟩ := hv
  by_cases he : isE s.dg = true
  · have he' : s.dg.toList.isEmpty = true := he
    rcases ho.tok with ⟨rfl, hnil⟩ | ⟨id, all, rfl, hbi, hid, hgi, hrest, hx⟩
    · simp [f_glyph_reader_waits, env0, go_sem, endP, endI, resultsA, resultA, freezeL, freezeV, AV.free.freeL, AV.free, packA, dropS, hR, isNil, strBin, he', RS.waits, he, hnil]
    · cases hg : s.out.getLast? with
      | none =>
        have h0 : s.out.length = 0 := by simpa using hg
        simp [f_glyph_reader_waits, env0, go_sem, endP, endI, resultsA, resultA, freezeL, freezeV, AV.free.freeL, AV.free, packA, dropS, hR, isNil, strBin, he', RS.waits, he, hg, h0]
      | some t =>
        obtain ⟨hpos, hlast⟩ := last_get hg
        have hp1 : (0 : Int) < (s.out.length : Int) := by omega
        have hw : IntKind.i64.wrap ((s.out.length : Int) - 1) = ((s.out.length - 1 : Nat) : Int) := by rw [w64 (by omega) (by omega)]; omega
        have hlt : s.out.length - 1 < s.out.length := by omega
        have hlt' : ((s.out.length - 1 : Nat) : Int) < (s.out.length : Int) := by omega
        have hxi := hx _ hlt
        have ht : s.out[s.out.length - 1] = t := by rw [List.getElem?_eq_getElem hlt] at hlast; exact Option.some.inj hlast
        rw [ht] at hxi
        simp [f_glyph_reader_waits, env0, go_sem, endP, endI, resultsA, resultA, freezeL, freezeV, AV.free.freeL, AV.free, packA, dropS, hR, isNil, strBin, he', RS.waits, he, hg, hpos, hw, indexIn, hlt, hlt', hgi, hxi, named_ok]
        refine G_bool (fun c => ?_) (fun c => ?_) <;> simp [go_sem, endP, endI, resultsA, resultA, freezeL, freezeV, AV.free.freeL, AV.free, packA, dropS, hR, isNil, indexIn, hpos, hw, hlt, hlt', hgi, hxi, c]
  · have he' : s.dg.toList.isEmpty = false := by simpa [isE] using he
    simp [f_glyph_reader_waits, env0, go_sem, endP, endI, resultsA, resultA, freezeL, freezeV, AV.free.freeL, AV.free, packA, dropS, hR, isNil, strBin, he', RS.waits, he, ho.len]
/-- 'number': behind it the reader is as 'RS.number' says. -/
theorem glyph_number_ok (R z : Nat) (s : RS) (hl : s.out.length ≤ 6000) (hs : s.dg.size ≤ 10000) (hbh : b ≤ h.n) (hbb : bar ≤ b) (hv : RdV h b R z s) : ∃ r h', call tb prim n_glyph_reader_number [.ptr R 0] bar h = some (r, h') ∧ RdV h' b R z s.number ∧ h.n ≤ h'.n ∧ ∀ j, j < b ∨ j = z → h'.get j = h.get j := by
  suffices hw : ∃ r h', callF (call tb prim) f_glyph_reader_number [.ptr R 0] bar h = some (r, h') ∧ RdV h' b R z s.number ∧ h.n ≤ h'.n ∧ ∀ j, j < b ∨ j = z → h'.get j = h.get j by
    obtain ⟨r, h', h1, h2⟩ := hw; exact ⟨r, h', call_of tb_glyph_reader_number h1, h2⟩
  refine callF_W rfl rfl (M_in ?_)
  have hv0 := hv
  obtain ⟨oa, hR, hb1, hb2, ho, hat, hz1, hz2, hz3⟩ := hv
  by_cases he : isE s.dg = true
  · have he' : s.dg.toList.isEmpty = true := he
    have hnum : s.number = s := by simp [RS.number, he]
    simp [f_glyph_reader_number, env0, go_sem, endP, endI, resultsA, resultA, freezeL, freezeV, AV.free.freeL, AV.free, packA, dropS, hR, isNil, strBin, he', hnum]
    exact ⟨[], h, ⟨rfl, rfl⟩, hv0, Nat.le_refl _, fun _ _ => rfl⟩
  · have he' : s.dg.toList.isEmpty = false := by simpa [isE] using he
    have hbR : bar ≤ R := by omega
    have hna : ∀ j, (j < b ∨ j = z) → ¬ oa.isAt j := fun j hj hj2 => by
      rcases hj with hj | rfl
      · have := ho.at_lt hj2; omega
      · exact hz3 hj2
    have hpi := fun (g : H) (bb : Nat) => strconv_ParseInt_ok (bar := bb) (h := g) s.dg (by omega)
    obtain ⟨v, bd, hnum', hpr⟩ : ∃ v bd, s.number = ⟨s.out ++ [⟨48, v, 0⟩], ⟨#[]⟩, s.bad || bd⟩ ∧ prInt s.dg = .tup [.int .i64 v, if bd then .ifc t_Pstrconv_NumError (.fptr [] 0) else .nilifc] := by
      unfold RS.number prInt
      rw [if_neg he]
      cases Lib.parseIntB 64 s.dg.data.toList
      · rename_i v; exact ⟨v, false, by simp, rfl⟩
      · exact ⟨0, true, by simp, rfl⟩
      · exact ⟨_, true, by simp, rfl⟩
    obtain ⟨nb, hnb2⟩ : ∃ nb, nb = (s.bad || bd) := ⟨_, rfl⟩
    have hnum : s.number = ⟨s.out ++ [⟨48, v, 0⟩], ⟨#[]⟩, nb⟩ := by rw [hnb2]; exact hnum'
    have ho1 : OS 3 (h.set R (.cells [oa, .str s.dg, .bool nb] 0)) b oa s.out.length (s.out.flatMap Tok.cells) := ho.set _ hat
    obtain ⟨a', g', e1, e2, e3, e4, e5⟩ := ho1.app' (by simpa [n_set] using hbh) hbb 24 (Tok.cells ⟨48, v, 0⟩) rfl rfl (by omega) (by omega) (by omega)
    simp only [Tok.cells, n_set] at e1 e3 e4 e5
    have hgR : g'.get R = some (.cells [oa, .str s.dg, .bool nb] 0) := by rw [e4 R hb2 hat, get_set, if_pos rfl]
    have hnb : isNilK 2 (if bd = true then .ifc t_Pstrconv_NumError (.fptr [] 0) else .nilifc) = some (!bd) := by cases bd <;> rfl
    rw [hnum]
    have hend : RdV ((g'.set R (.cells [a', .str s.dg, .bool nb] 0)).set R (.cells [a', .str ⟨#[]⟩, .bool nb] 0)) b R z ⟨s.out ++ [⟨48, v, 0⟩], ⟨#[]⟩, nb⟩ := by
      have hnat : ¬ a'.isAt R := fun hj => by have := e5 _ hj; omega
      refine ⟨a', by simp [get_set], hb1, by simp only [n_set]; omega, ?_, hnat, hz1, by simp only [n_set]; omega, fun hj => by have := e5 _ hj; omega⟩
      have := (e2.set (.cells [a', .str s.dg, .bool nb] 0) hnat).set (.cells [a', .str ⟨#[]⟩, .bool nb] 0) hnat
      simpa [Tok.cells] using this
    have hfr : ∀ j, j < b ∨ j = z → ((g'.set R (.cells [a', .str s.dg, .bool nb] 0)).set R (.cells [a', .str ⟨#[]⟩, .bool nb] 0)).get j = h.get j := fun j hj => by
      rw [get_set_ne (by omega), get_set_ne (by omega), e4 j (by omega) (hna j hj), get_set_ne (by omega)]
    cases hbad : s.bad with
    | true =>
      have hnt : nb = true := by rw [hnb2, hbad]; rfl
      subst hnt
      simp [f_glyph_reader_number, env0, go_sem, get_alloc, n_alloc, get_set, n_set, get_kill, n_kill, writeAt, a11, a21, a31, a41, a51, a61, a71, endP, endI, resultsA, resultA, freezeL, freezeV, AV.free.freeL, AV.free, packA, dropS, hR, isNil, strBin, he', hpi, hpr, hbad, hbR, splice, evParts, fillA, e1, e2.one, ho.one, hgR]
      exact ⟨_, _, ⟨rfl, rfl⟩, hend, by simp only [n_set]; omega, hfr⟩
    | false =>
      have hnt : nb = bd := by rw [hnb2, hbad]; rfl
      subst hnt
      simp [f_glyph_reader_number, env0, go_sem, get_alloc, n_alloc, get_set, n_set, get_kill, n_kill, writeAt, a11, a21, a31, a41, a51, a61, a71, endP, endI, resultsA, resultA, freezeL, freezeV, AV.free.freeL, AV.free, packA, dropS, hR, isNil, strBin, he', hpi, hpr, hbad, hbR, hnb, splice, evParts, fillA, e1, e2.one, ho.one, hgR]
      exact ⟨_, _, ⟨rfl, rfl⟩, hend, by simp only [n_set]; omega, hfr⟩
def RS.setName (s : RS) (x : Int) : List Tok := match s.out.getLast? with
  | some t => s.out.set (s.out.length - 1) ⟨t.sign, t.n, x⟩
  | none => s.out
def RS.rune (s : RS) (x : Int) : RS :=
  if s.waits then ⟨s.setName x, s.dg, s.bad || !nameR x⟩ else
  if isD x then ⟨s.out, s.dg ++ Utf8.encode x, s.bad⟩ else
  if x = 32 then s.number else ⟨s.number.out ++ [⟨x, 0, 0⟩], s.number.dg, s.number.bad || !knownR x⟩
theorem RS.number_len (s : RS) : s.number.out.length ≤ s.out.length + 1 := by
  unfold RS.number
  split
  · omega
  · split <;> simp
theorem sp30 (a b c v : AV) : splice [a, b, c] 0 [v] = [v, b, c] := Eq.trans rfl rfl
theorem sp31 (a b c v : AV) : splice [a, b, c] 1 [v] = [a, v, c] := Eq.trans rfl rfl
theorem sp32 (a b c v : AV) : splice [a, b, c] 2 [v] = [a, b, v] := Eq.trans rfl rfl
theorem encode_le (x : Int) : (Utf8.encode x).size ≤ 4 := by
  unfold Utf8.encode
  simp only
  repeat' split
  all_goals (show Array.size _ ≤ 4; simp)
theorem glyph_rune_ok (R z : Nat) (s : RS) (x : Int) (hl : s.out.length ≤ 5000) (hs : s.dg.size ≤ 9000) (hbh : b ≤ h.n) (hbb : bar ≤ b) (hv : RdV h b R z s) : ∃ r h', call tb prim n_glyph_reader_rune [.ptr R 0, .int .i32 x] bar h = some (r, h') ∧ RdV h' b R z (s.rune x) ∧ h.n ≤ h'.n ∧ ∀ j, j < b ∨ j = z → h'.get j = h.get j := by
  suffices hw : ∃ r h', callF (call tb prim) f_glyph_reader_rune [.ptr R 0, .int .i32 x] bar h = some (r, h') ∧ RdV h' b R z (s.rune x) ∧ h.n ≤ h'.n ∧ ∀ j, j < b ∨ j = z → h'.get j = h.get j by
    obtain ⟨r, h', h1, h2⟩ := hw; exact ⟨r, h', call_of tb_glyph_reader_rune h1, h2⟩
  refine callF_W rfl rfl (M_in ?_)
  have hwt : call tb prim n_glyph_reader_waits [.ptr R 0] bar h = some (.bool s.waits, h) := glyph_waits_ok R z s (by omega) hv
  obtain ⟨rn, hn, hnc, hnv, hnn, hnf⟩ := glyph_number_ok (bar := bar) R z s (by omega) (by omega) hbh hbb hv
  obtain ⟨oa, hR, hb1, hb2, ho, hat, hz1, hz2, hz3⟩ := hv
  have hbR : bar ≤ R := by omega
  cases hw : s.waits with
  | true =>
    have hr : s.rune x = ⟨s.setName x, s.dg, s.bad || !nameR x⟩ := by simp [RS.rune, hw]
    rw [hw] at hwt
    rw [hr]
    unfold RS.waits at hw
    rw [Bool.and_eq_true] at hw
    obtain ⟨_, hw2⟩ := hw
    cases hg : s.out.getLast? with
    | none => rw [hg] at hw2; cases hw2
    | some t =>
      have hsn : s.setName x = s.out.set (s.out.length - 1) ⟨t.sign, t.n, x⟩ := by simp [RS.setName, hg]
      obtain ⟨hpos, hlast⟩ := last_get hg
      have hlt : s.out.length - 1 < s.out.length := by omega
      have hlt' : ((s.out.length - 1 : Nat) : Int) < (s.out.length : Int) := by omega
      have hwr : IntKind.i64.wrap ((s.out.length : Int) - 1) = ((s.out.length - 1 : Nat) : Int) := by rw [w64 (by omega) (by omega)]; omega
      obtain ⟨hcl, hone, ⟨rfl, h0⟩ | ⟨id, rest, rfl, g1, g2, g3⟩⟩ := ho
      · omega
      · have hne : id ≠ R := hat
        have hbi : bar ≤ id := by omega
        have hsp : splice (s.out.flatMap Tok.cells ++ rest) ((s.out.length - 1) * 3 + 2) [.int .i32 x] = (s.out.set (s.out.length - 1) ⟨t.sign, t.n, x⟩).flatMap Tok.cells ++ rest :=
          flat_splice Tok.cells_len rest 2 [.int .i32 x] ⟨t.sign, t.n, x⟩ s.out _ t hlast (by simp) rfl
        have hle : (s.out.length - 1) * 3 + 2 + 1 ≤ (s.out.flatMap Tok.cells).length + rest.length := by rw [hcl]; omega
        have hend : ∀ bd, RdV ((h.set R (.cells [.sl id 0 3 s.out.length false, .str s.dg, .bool bd] 0)).set id (.cells ((s.out.set (s.out.length - 1) ⟨t.sign, t.n, x⟩).flatMap Tok.cells ++ rest) 0)) b R z ⟨s.setName x, s.dg, bd⟩ := fun bd => by
          refine ⟨.sl id 0 3 s.out.length false, ?_, hb1, hb2, ?_, hat, hz1, hz2, hz3⟩
          · rw [get_set_ne (fun e => hne e.symm), get_set, if_pos rfl]
          · rw [hsn]
            refine ⟨by rw [flat_len Tok.cells_len], ?_, .inr ⟨id, rest, by rw [List.length_set], g1, g2, by rw [get_set, if_pos rfl]⟩⟩
            rw [List.all_eq_true]; intro y hy; rw [List.mem_flatMap] at hy; obtain ⟨u, _, hy⟩ := hy; simp [Tok.cells] at hy; rcases hy with rfl | rfl | rfl <;> rfl
        have hfr : ∀ bd j, j < b ∨ j = z → ((h.set R (.cells [.sl id 0 3 s.out.length false, .str s.dg, .bool bd] 0)).set id (.cells ((s.out.set (s.out.length - 1) ⟨t.sign, t.n, x⟩).flatMap Tok.cells ++ rest) 0)).get j = h.get j := fun bd j hj => by
          have : id ≠ z := hz3
          rw [get_set_ne (by omega), get_set_ne (by omega)]
        generalize hall : s.out.flatMap Tok.cells ++ rest = all at *
        have hle' : (s.out.length - 1) * 3 + 2 + 1 ≤ all.length := by rw [← hall]; simpa using hle
        generalize hnew : (s.out.set (s.out.length - 1) ⟨t.sign, t.n, x⟩).flatMap Tok.cells ++ rest = new at *
        cases hbad : s.bad with
        | true =>
          simp [f_glyph_reader_rune, env0, go_sem, get_alloc, n_alloc, get_set, n_set, get_kill, n_kill, writeAt, a11, a21, a31, a41, a51, a61, a71, endP, endI, resultsA, resultA, freezeL, freezeV, AV.free.freeL, AV.free, packA, dropS, hwt, hR, isNil, hbad, hbR, glyph_Name_ok, sp30, sp31, sp32, hwr, indexIn, hlt, hlt', g3, hbi, hle', hsp, hne]
          exact ⟨[], _, ⟨rfl, rfl⟩, by simpa using hend true, by simp only [n_set]; omega, by simpa using hfr true⟩
        | false =>
          simp [f_glyph_reader_rune, env0, go_sem, get_alloc, n_alloc, get_set, n_set, get_kill, n_kill, writeAt, a11, a21, a31, a41, a51, a61, a71, endP, endI, resultsA, resultA, freezeL, freezeV, AV.free.freeL, AV.free, packA, dropS, hwt, hR, isNil, hbad, hbR, glyph_Name_ok, sp30, sp31, sp32, hwr, indexIn, hlt, hlt', g3, hbi, hle', hsp, hne]
          exact ⟨[], _, ⟨rfl, rfl⟩, hend _, by simp only [n_set]; omega, hfr _⟩
  | false =>
    rw [hw] at hwt
    cases hD : isD x with
    | true =>
      have hr : s.rune x = ⟨s.out, s.dg ++ Utf8.encode x, s.bad⟩ := by simp [RS.rune, hw, hD]
      rw [hr]
      have hD' : 48 ≤ x ∧ x ≤ 57 := by simpa [isD] using hD
      have hsz : s.dg.size + (Utf8.encode x).size ≤ 9223372036854775807 := by have := encode_le x; omega
      simp [f_glyph_reader_rune, env0, go_sem, get_alloc, n_alloc, get_set, n_set, get_kill, n_kill, writeAt, a11, a21, a31, a41, a51, a61, a71, endP, endI, resultsA, resultA, freezeL, freezeV, AV.free.freeL, AV.free, packA, dropS, hwt, hR, isNil, hbR, glyph_within_ok, hD', sp30, sp31, sp32, strBin, hsz, ho.one]
      exact ⟨[], _, ⟨rfl, rfl⟩, ⟨oa, by rw [get_set, if_pos rfl], hb1, by simpa [n_set] using hb2, ho.set _ hat, hat, hz1, by simpa [n_set] using hz2, hz3⟩, by simp only [n_set]; omega, fun j hj => by rw [get_set_ne (by omega)]⟩
    | false =>
      have hD1 : (decide (48 ≤ x) && decide (x ≤ 57)) = false := by simpa [isD] using hD
      obtain ⟨na, hnR, hnb1, hnb2, hno, hnat, hnz1, hnz2, hnz3⟩ := hnv
      by_cases h32 : x = 32
      · subst h32
        have hr : s.rune 32 = s.number := by simp [RS.rune, hw, hD]
        rw [hr]
        cases hbad : s.number.bad with
        | true =>
          simp [f_glyph_reader_rune, env0, go_sem, get_alloc, n_alloc, get_set, n_set, get_kill, n_kill, writeAt, a11, a21, a31, a41, a51, a61, a71, endP, endI, resultsA, resultA, freezeL, freezeV, AV.free.freeL, AV.free, packA, dropS, hwt, hnR, isNil, hbR, glyph_within_ok, hnc, hbad, sp30, sp31, sp32]
          exact ⟨[], _, ⟨rfl, rfl⟩, ⟨na, by rw [get_set, if_pos rfl, hbad], hnb1, by simpa [n_set] using hnb2, hno.set _ hnat, hnat, hnz1, by simpa [n_set] using hnz2, hnz3⟩, by simp only [n_set]; omega, fun j hj => by rw [get_set_ne (by omega), hnf j hj]⟩
        | false =>
          simp [f_glyph_reader_rune, env0, go_sem, get_alloc, n_alloc, get_set, n_set, get_kill, n_kill, writeAt, a11, a21, a31, a41, a51, a61, a71, endP, endI, resultsA, resultA, freezeL, freezeV, AV.free.freeL, AV.free, packA, dropS, hwt, hnR, isNil, hbR, glyph_within_ok, hnc, hbad, sp30, sp31, sp32]
          exact ⟨[], _, ⟨rfl, rfl⟩, ⟨na, by rw [get_set, if_pos rfl, hbad], hnb1, by simpa [n_set] using hnb2, hno.set _ hnat, hnat, hnz1, by simpa [n_set] using hnz2, hnz3⟩, by simp only [n_set]; omega, fun j hj => by rw [get_set_ne (by omega), hnf j hj]⟩
      · have hr : s.rune x = ⟨s.number.out ++ [⟨x, 0, 0⟩], s.number.dg, s.number.bad || !knownR x⟩ := by simp [RS.rune, hw, hD, h32]
        rw [hr]
        have h32' : (x == 32) = false := by simpa using h32
        have h32b : (x != 32) = true := by simpa using h32
        have hnl := s.number_len
        have hna2 : ∀ j, (j < b ∨ j = z) → ¬ na.isAt j := fun j hj hj2 => by
          rcases hj with hj | rfl
          · have := hno.at_lt hj2; omega
          · exact hnz3 hj2
        obtain ⟨nb, hnb⟩ : ∃ nb, nb = (s.number.bad || !knownR x) := ⟨_, rfl⟩
        rw [← hnb]
        have ho1 : OS 3 (hn.set R (.cells [na, .str s.number.dg, .bool nb] 0)) b na s.number.out.length (s.number.out.flatMap Tok.cells) := hno.set _ hnat
        obtain ⟨a', g', e1, e2, e3, e4, e5⟩ := ho1.app' (by simp only [n_set]; omega) hbb 24 (Tok.cells ⟨x, 0, 0⟩) rfl rfl (by omega) (by omega) (by omega)
        simp only [Tok.cells, n_set] at e1 e3 e4 e5
        have hgR : g'.get R = some (.cells [na, .str s.number.dg, .bool nb] 0) := by rw [e4 R hnb2 hnat, get_set, if_pos rfl]
        have hnat2 : ¬ a'.isAt R := fun hj => by have := e5 _ hj; omega
        have hend : RdV (g'.set R (.cells [a', .str s.number.dg, .bool nb] 0)) b R z ⟨s.number.out ++ [⟨x, 0, 0⟩], s.number.dg, nb⟩ := by
          refine ⟨a', by rw [get_set, if_pos rfl], hb1, by simp only [n_set]; omega, ?_, hnat2, hz1, by simp only [n_set]; omega, fun hj => by have := e5 _ hj; omega⟩
          have := e2.set (.cells [a', .str s.number.dg, .bool nb] 0) hnat2
          simpa [Tok.cells] using this
        have hfr : ∀ j, j < b ∨ j = z → (g'.set R (.cells [a', .str s.number.dg, .bool nb] 0)).get j = h.get j := fun j hj => by
          rw [get_set_ne (by omega), e4 j (by omega) (hna2 j hj), get_set_ne (by omega), hnf j hj]
        cases hbad : s.number.bad with
        | true =>
          have hnt : nb = true := by rw [hnb, hbad]; rfl
          subst hnt
          simp [f_glyph_reader_rune, env0, go_sem, get_alloc, n_alloc, get_set, n_set, get_kill, n_kill, writeAt, a11, a21, a31, a41, a51, a61, a71, endP, endI, resultsA, resultA, freezeL, freezeV, AV.free.freeL, AV.free, packA, dropS, hwt, hnR, isNil, hbR, glyph_within_ok, hD1, hnc, hbad, sp30, sp31, sp32, h32b, glyph_Known_ok, evParts, fillA, splice, e1, hgR, e2.one, hno.one]
          exact ⟨[], _, ⟨rfl, rfl⟩, hend, by simp only [n_set]; omega, hfr⟩
        | false =>
          have hnt : nb = !knownR x := by rw [hnb, hbad]; rfl
          subst hnt
          simp [f_glyph_reader_rune, env0, go_sem, get_alloc, n_alloc, get_set, n_set, get_kill, n_kill, writeAt, a11, a21, a31, a41, a51, a61, a71, endP, endI, resultsA, resultA, freezeL, freezeV, AV.free.freeL, AV.free, packA, dropS, hwt, hnR, isNil, hbR, glyph_within_ok, hD1, hnc, hbad, sp30, sp31, sp32, h32b, glyph_Known_ok, evParts, fillA, splice, e1, hgR, e2.one, hno.one]
          exact ⟨[], _, ⟨rfl, rfl⟩, hend, by simp only [n_set]; omega, hfr⟩
end
end Go.Ev
namespace Go.Ev
open Go
def gloop : List Int → RS → Option RS
  | [], s => some s
  | x :: r, s => if (s.rune x).bad then none else gloop r (s.rune x)
def gTok (s : ByteArray) : List Tok × Int := if 512 < s.size then ([], 3) else match gloop (runesI s) ⟨[], ⟨#[]⟩, false⟩ with
  | none => ([], 12)
  | some s => if s.number.bad || s.number.waits then ([], 12) else (s.number.out, 0)
theorem RdV.setz {g : H} {b R z : Nat} {s : RS} (v : RdV g b R z s) (o : HObj) : RdV (g.set z o) b R z s := by
  obtain ⟨oa, hR, hb1, hb2, ho, hat, hz1, hz2, hz3⟩ := v
  exact ⟨oa, by rw [get_set_ne (fun e => hz1 e.symm)]; exact hR, hb1, hb2, ho.set _ hz3, hat, hz1, hz2, hz3⟩
theorem RS.rune_len (s : RS) (x : Int) : (s.rune x).out.length ≤ s.out.length + 2 := by
  have := s.number_len
  unfold RS.rune RS.setName
  repeat' split
  all_goals simp
  all_goals omega
theorem RS.number_dg (s : RS) : s.number.dg.size ≤ s.dg.size := by
  unfold RS.number
  repeat' split
  all_goals first | exact Nat.le_refl _ | exact Nat.zero_le _
theorem RS.rune_dg (s : RS) (x : Int) : (s.rune x).dg.size ≤ s.dg.size + 4 := by
  have := s.number_dg
  have := encode_le x
  unfold RS.rune
  repeat' split
  all_goals (try simp only [ByteArray.size_append]) <;> omega
section
variable {bar b : Nat} {h : H}
theorem glyph_tokens_loop (str : ByteArray) (hs : str.size ≤ 512) (R id : Nat) (hid : bar ≤ id) (hbb : bar ≤ b) (Q : Ex → Env → H → Prop) : ∀ (n pos : Nat) (g : H) (s : RS), g.get id = some (.iter str pos) → str.size ≤ pos + n → RdV g b R id s → b ≤ g.n →
    s.out.length ≤ 2 * pos → s.dg.size ≤ 4 * pos → pos ≤ 600 → s.bad = false →
    (∀ e g', e.get 2 = some .nilsl → e.get 3 = some (.int .i64 12) → gloop (runesFI str n pos) s = none → Q .ret e g') →
    (∀ e g' s', e.get 4 = some (.ptr R 0) → gloop (runesFI str n pos) s = some s' → RdV g' b R id s' → b ≤ g'.n → s'.out.length ≤ 1200 → s'.dg.size ≤ 2400 → s'.bad = false → Q (.exit 0) e g') →
    wpL (call tb prim) bar [4, 13] l0_glyph_Tokens [(4, .ptr R 0), (13, .ptr id 0)] g Q := by
  intro n
  induction n with
  | zero =>
    intro pos g s hg hn hv hb h1 h2 h3 hbad h4 h5
    have : ¬ pos < str.size := by omega
    refine M_loop l0_glyph_Tokens.eq_1 ?_
    simp [go_sem, hg, hid, this]
    exact h5 _ _ s rfl rfl hv hb (by omega) (by omega) hbad
  | succ n ih =>
    intro pos g s hg hn hv hb h1 h2 h3 hbad h4 h5
    refine M_loop l0_glyph_Tokens.eq_1 ?_
    by_cases this : pos < str.size
    · have hd := decode_pos str pos
      have hd4 : (Utf8.decode str pos).2 ≤ 4 := by
        unfold Utf8.decode
        simp only
        repeat' split
        all_goals (show _ ≤ 4; omega)
      obtain ⟨r, h', hc, hv', hn', hf'⟩ := glyph_rune_ok (bar := bar) R id s ((Utf8.decode str pos).1 : Int) (by omega) (by omega) (by simpa [n_set] using hb) hbb (hv.setz (.iter str (pos + (Utf8.decode str pos).2)))
      have hi' : h'.get id = some (.iter str (pos + (Utf8.decode str pos).2)) := by rw [hf' id (.inr rfl), get_set, if_pos rfl]
      have hgl : gloop (runesFI str (n + 1) pos) s = if (s.rune ((Utf8.decode str pos).1 : Int)).bad then none else gloop (runesFI str n (pos + (Utf8.decode str pos).2)) (s.rune ((Utf8.decode str pos).1 : Int)) := by
        simp [runesFI, runesF, this, gloop]
      have hrl := s.rune_len ((Utf8.decode str pos).1 : Int)
      have hrd := s.rune_dg ((Utf8.decode str pos).1 : Int)
      have hR' := hv'
      obtain ⟨oa, hR, _⟩ := hR'
      simp [go_sem, hg, hid, this, hc, hR, isNil]
      refine C_bool (fun hb2 => ?_) (fun hb2 => ?_) <;> simp [go_sem]
      · exact h4 _ _ rfl rfl (by rw [hgl, if_pos hb2])
      · simp only [n_set] at hn'
        refine ih _ h' _ hi' (by omega) hv' (by omega) (by omega) (by omega) (by omega) hb2 (fun e g' q1 q2 q3 => h4 e g' q1 q2 (by rw [hgl, if_neg (by simp [hb2]), q3])) (fun e g' s' q1 q2 q3 => h5 e g' s' q1 (by rw [hgl, if_neg (by simp [hb2]), q2]) q3)
    · simp [go_sem, hg, hid, this]
      exact h5 _ _ s rfl (by simp [runesFI, runesF, this, gloop]) hv hb (by omega) (by omega) hbad
theorem glyph_Tokens_ok (s : ByteArray) : ∃ a, call tb prim n_glyph_Tokens [.str s] bar h = some (.tup [a, .int .i64 (gTok s).2], h) ∧ FzV 3 a (gTok s).1.length ((gTok s).1.flatMap Tok.cells) ∧ (gTok s).1.length ≤ 1300 := by
  suffices hw : ∃ r, callF (call tb prim) f_glyph_Tokens [.str s] bar h = some (r, h) ∧ ∃ a, r = .tup [a, .int .i64 (gTok s).2] ∧ FzV 3 a (gTok s).1.length ((gTok s).1.flatMap Tok.cells) ∧ (gTok s).1.length ≤ 1300 by
    obtain ⟨r, h1, a, rfl, h2, h3⟩ := hw; exact ⟨a, call_of tb_glyph_Tokens h1, h2, h3⟩
  refine callF_pureX rfl rfl (M_in ?_)
  by_cases hs : s.size ≤ 512
  · have hs' : ¬ (512 : Int) < (s.size : Int) := by omega
    have hs2 : ¬ 512 < s.size := by omega
    simp [f_glyph_Tokens, env0, go_sem, hs2, hs', evParts, fillA]
    refine glyph_tokens_loop (b := h.n) s hs h.n (h.n + 1) (by omega) (Nat.le_refl _) _ s.size 0 _ ⟨[], ⟨#[]⟩, false⟩ (by simp [get_alloc, n_alloc]) (by omega)
      ⟨.nilsl, by simp [get_alloc, n_alloc], Nat.le_refl _, by simp only [n_alloc]; omega, OS.nil, by simp [AV.isAt], by omega, by simp only [n_alloc]; omega, by simp [AV.isAt]⟩ (by simp only [n_alloc]; omega) (by simp) (Nat.zero_le _) (by omega) rfl (fun e g' h1 h2 h3 => ?_) (fun e g' s' h1 h2 hv' hb' hl hd hbad => ?_)
    · have : gTok s = ([], 12) := by unfold gTok; rw [if_neg hs2]; show (match gloop (runesFI s s.size 0) _ with | none => _ | some _ => _) = _; rw [h3]
      rw [this]
      simp [go_sem, endX, resultsA, resultA, freezeL, AV.free.freeL, packA, h1, h2, freezeV, AV.free]
      exact ⟨rfl, by omega, .inl ⟨rfl, rfl⟩⟩
    · have hgt : gTok s = if s'.number.bad || s'.number.waits then ([], 12) else (s'.number.out, 0) := by
        unfold gTok; rw [if_neg hs2]; show (match gloop (runesFI s s.size 0) _ with | none => _ | some _ => _) = _; rw [h2]
      obtain ⟨rn, hn, hnc, hnv, hnn, hnf⟩ := glyph_number_ok (bar := h.n) h.n (h.n + 1) s' (by omega) (by omega) hb' (Nat.le_refl _) hv'
      have hnl := s'.number_len
      have hwt : ∀ bb, call tb prim n_glyph_reader_waits [.ptr h.n 0] bb hn = some (.bool s'.number.waits, hn) := fun bb => glyph_waits_ok h.n (h.n + 1) s'.number (by omega) hnv
      obtain ⟨oa, hR, hb1, hb2, ho, hat, hz1, hz2, hz3⟩ := hnv
      obtain ⟨a2, h5, h6, h7⟩ := ho.freeze (still_tok _) (by omega) 2
      rw [hgt]
      cases c1 : s'.number.bad with
      | true =>
        simp [go_sem, endX, resultsA, resultA, freezeL, AV.free.freeL, packA, h1, hnc, hR, isNil, c1, freezeV, AV.free]
        exact ⟨rfl, by omega, .inl ⟨rfl, rfl⟩⟩
      | false =>
        cases c2 : s'.number.waits with
        | true =>
          rw [c2] at hwt
          simp [go_sem, endX, resultsA, resultA, freezeL, AV.free.freeL, packA, h1, hnc, hR, isNil, c1, hwt, freezeV, AV.free]
          exact ⟨rfl, by omega, .inl ⟨rfl, rfl⟩⟩
        | false =>
          rw [c2] at hwt
          simp [go_sem, endX, resultsA, resultA, freezeL, AV.free.freeL, packA, h1, hnc, hR, isNil, c1, hwt, h6, h7.free, AV.free, freezeV]
          exact ⟨h7, by omega⟩
  · have hs' : (512 : Int) < (s.size : Int) := by omega
    have hs2 : 512 < s.size := by omega
    have : gTok s = ([], 3) := by unfold gTok; rw [if_pos hs2]
    rw [this]
    simp [f_glyph_Tokens, env0, go_sem, hs', hs2, endX, resultsA, resultA, freezeL, AV.free.freeL, packA, freezeV, AV.free]
    exact ⟨rfl, by omega, .inl ⟨rfl, rfl⟩⟩
end
end Go.Ev
namespace Go.Ev
open Go
def dstep (a : Nat) (c : UInt8) : Nat := a * 10 + (c.toNat - 48)
def dval (a : Nat) (l : List UInt8) : Nat := l.foldl dstep a
def digs (l : List UInt8) : Prop := ∀ c ∈ l, 48 ≤ c.toNat ∧ c.toNat ≤ 57
theorem dval_cons (a : Nat) (c : UInt8) (r : List UInt8) : dval a (c :: r) = dval (a * 10 + (c.toNat - 48)) r := by unfold dval; rw [List.foldl_cons, dstep]
theorem dval_ge : ∀ (l : List UInt8) (a : Nat), a ≤ dval a l
  | [], a => by unfold dval; rw [List.foldl_nil]; exact Nat.le_refl _
  | c :: r, a => by rw [dval_cons]; have := dval_ge r (a * 10 + (c.toNat - 48)); omega
theorem dval_nil (a : Nat) : dval a [] = a := by unfold dval; rw [List.foldl_nil]
theorem dval_app (l : List UInt8) : ∀ (a : Nat) (c : UInt8), dval a (l ++ [c]) = dval a l * 10 + (c.toNat - 48) := by
  induction l with
  | nil => intro a c; rw [List.nil_append, dval_cons, dval_nil, dval_nil]
  | cons x r ih => intro a c; rw [List.cons_append, dval_cons, dval_cons]; exact ih _ c
theorem parseM (l : List UInt8) : ∀ a, digs l → a ≤ 18446744073709551615 → Lib.parseUintM (2 ^ 64 - 1) a l = if dval a l ≤ 18446744073709551615 then .ok (dval a l) else .range := by
  induction l with
  | nil => intro a _ ha; rw [dval_nil, if_pos ha]; simp only [Lib.parseUintM]
  | cons c r ih =>
    intro a hd ha
    have hc := hd c (by simp)
    have hr : digs r := fun x hx => hd x (by simp [hx])
    rw [dval_cons]
    generalize hk : c.toNat - 48 = k
    have hge := dval_ge r (a * 10 + k)
    simp only [Lib.parseUintM, hk]
    rw [if_pos hc]
    by_cases h1 : 1844674407370955162 ≤ a
    · rw [if_pos h1, if_neg (by omega)]
    · rw [if_neg h1]
      by_cases h2 : 2 ^ 64 - 1 < a * 10 + k
      · rw [if_pos h2, if_neg (by omega)]
      · rw [if_neg h2]; exact ih _ hr (by omega)
theorem parseI {l : List UInt8} (hne : l ≠ []) (hd : digs l) : Lib.parseIntB 64 l = if dval 0 l ≤ 9223372036854775807 then .ok (dval 0 l : Int) else .range := by
  cases l with
  | nil => exact absurd rfl hne
  | cons c r =>
    have hc := hd c (by simp)
    have hU : Lib.parseUintB 64 (c :: r) = if dval 0 (c :: r) ≤ 18446744073709551615 then .ok (dval 0 (c :: r)) else .range := by
      unfold Lib.parseUintB
      rw [if_neg (by simp), parseM _ 0 hd (by omega)]
    have h1 : ¬ (c.toNat = 43 ∨ c.toNat = 45) := by omega
    have h2 : ¬ c.toNat = 45 := by omega
    unfold Lib.parseIntB
    simp only
    rw [if_neg h1, hU]
    generalize dval 0 (c :: r) = d
    by_cases h3 : d ≤ 18446744073709551615
    · rw [if_pos h3]
      simp only [h2, not_false_eq_true, true_and, false_and, if_false]
      by_cases h4 : d ≤ 9223372036854775807
      · rw [if_neg (by omega), if_pos h4]
      · rw [if_pos (by omega), if_neg h4]
    · rw [if_neg h3, if_neg (by omega)]
theorem encode_dig {x : Int} (h : isD x = true) : ∃ c : UInt8, (Utf8.encode x).data.toList = [c] ∧ (c.toNat : Int) = x ∧ 48 ≤ c.toNat ∧ c.toNat ≤ 57 := by
  have h' : 48 ≤ x ∧ x ≤ 57 := by simpa [isD] using h
  refine ⟨UInt8.ofNat x.toNat, ?_, ?_, ?_, ?_⟩
  · unfold Utf8.encode
    have hv : Utf8.valid x = true := by simp [Utf8.valid]; omega
    simp only [hv, if_true]
    rw [if_pos (by omega)]
  all_goals (rw [UInt8.toNat_ofNat']; omega)
def RS.fin : Option RS → Option (List Tok)
  | none => none
  | some s => if s.number.bad || s.number.waits then none else some s.number.out
theorem number_E {s : RS} (h : isE s.dg = true) : s.number = s := by unfold RS.number; rw [if_pos h]
theorem number_ok {s : RS} (h : isE s.dg = false) (hd : digs s.dg.data.toList) (hv : dval 0 s.dg.data.toList ≤ 9223372036854775807) : s.number = ⟨s.out ++ [⟨48, dval 0 s.dg.data.toList, 0⟩], ⟨#[]⟩, s.bad⟩ := by
  unfold RS.number
  rw [if_neg (by simp [h]), parseI (by rw [isE_eq] at h; intro e; rw [e] at h; cases h) hd, if_pos hv]
theorem number_big {s : RS} (h : isE s.dg = false) (hd : digs s.dg.data.toList) (hv : ¬ dval 0 s.dg.data.toList ≤ 9223372036854775807) : s.number.bad = true := by
  unfold RS.number
  rw [if_neg (by simp [h]), parseI (by rw [isE_eq] at h; intro e; rw [e] at h; cases h) hd, if_neg hv]
theorem isE_nil : isE ⟨#[]⟩ = true := by rw [isE_eq]; rfl
theorem known_named {x : Int} (h : x = 955 ∨ x = 960) : knownR x = true := by
  have : ∀ r : Int, hasR signsB r = true ∨ ¬ (r = 955 ∨ r = 960) := fun r => by
    have : runes signsB = [(0, 43), (1, 45), (2, 42), (3, 47), (4, 37), (5, 38), (6, 124), (7, 94), (8, 60), (9, 61), (10, 33), (11, 46), (12, 44), (13, 64), (14, 36), (15, 35), (16, 63), (17, 58), (18, 59), (19, 91), (20, 93), (21, 126), (22, 171), (24, 187), (26, 169), (28, 174), (30, 164), (32, 161), (34, 955), (36, 960)] := by decide +kernel
    by_cases h : r = 955 ∨ r = 960
    · left; unfold hasR; rw [this]; rcases h with rfl | rfl <;> rfl
    · exact .inr h
  unfold knownR
  rcases this x with h1 | h1
  · rw [h1]; simp
  · exact absurd h h1
theorem waits_app {out : List Tok} {t : Tok} {b : Bool} : RS.waits ⟨out ++ [t], ⟨#[]⟩, b⟩ = (named t.sign && t.name == 0) := by
  simp [RS.waits, isE_nil]
theorem waits_dg {s : RS} (h : isE s.dg = false) : s.waits = false := by simp [RS.waits, h]
theorem E_dg {s : RS} (h : isE s.dg = true) : s.dg = ⟨#[]⟩ := by
  rw [isE_eq] at h
  cases hs : s.dg with
  | mk d => rw [hs] at h; congr; have : d.toList = [] := by simpa using h
            exact Array.toList_eq_nil_iff.mp this
theorem tok_main : ∀ (l : List Int),
    (∀ s : RS, s.bad = false → isE s.dg = true → s.waits = false → RS.fin (gloop l s) = (tokF l .plain).map (s.out ++ ·)) ∧
    (∀ s : RS, s.bad = false → isE s.dg = false → digs s.dg.data.toList → dval 0 s.dg.data.toList ≤ 9223372036854775807 → RS.fin (gloop l s) = (tokF l (.num (dval 0 s.dg.data.toList))).map (s.out ++ ·)) ∧
    (∀ s : RS, isE s.dg = false → digs s.dg.data.toList → ¬ dval 0 s.dg.data.toList ≤ 9223372036854775807 → RS.fin (gloop l s) = none) ∧
    (∀ (s : RS) (out : List Tok) (g : Int), s.bad = false → isE s.dg = true → named g = true → s.out = out ++ [⟨g, 0, 0⟩] → RS.fin (gloop l s) = (tokF l (.name g)).map (out ++ ·)) := by
  intro l
  induction l with
  | nil =>
    refine ⟨fun s hb he hw => ?_, fun s hb he hd hv => ?_, fun s he hd hv => ?_, fun s out g hb he hg ho => ?_⟩
    · simp [gloop, RS.fin, number_E he, hb, hw, tokF]
    · simp [gloop, RS.fin, number_ok he hd hv, hb, waits_app, tokF, named]
    · simp [gloop, RS.fin, number_big he hd hv]
    · have hw : s.waits = true := by simp [RS.waits, he, ho, hg]
      simp [gloop, RS.fin, number_E he, hw, tokF]
  | cons x r ih =>
    obtain ⟨ihA, ihB, ihO, ihC⟩ := ih
    have hA : ∀ s : RS, s.bad = false → isE s.dg = true → s.waits = false → RS.fin (gloop (x :: r) s) = (tokF (x :: r) .plain).map (s.out ++ ·) := fun s hb he hw => by
      have hdg := E_dg he
      cases hD : isD x with
      | true =>
        obtain ⟨c, hc1, hc2, hc3, hc4⟩ := encode_dig hD
        have hr : s.rune x = ⟨s.out, s.dg ++ Utf8.encode x, s.bad⟩ := by simp [RS.rune, hw, hD]
        have hl : (s.dg ++ Utf8.encode x).data.toList = [c] := by rw [hdg]; simp [hc1]
        have hne : x ≠ 32 := by intro e; subst e; simp [isD] at hD
        have := ihB ⟨s.out, s.dg ++ Utf8.encode x, s.bad⟩ hb (by rw [isE_eq, hl]; rfl) (by rw [hl]; intro y hy; simp at hy; subst hy; exact ⟨hc3, hc4⟩) (by rw [hl]; simp only [dval_cons, dval_nil]; omega)
        simp only [hl] at this
        simp only [gloop, hr, hb, Bool.false_eq_true, if_false]
        rw [hb] at this
        rw [this]
        simp only [tokF, hD, if_true]
        rw [if_neg hne]
        have hv : ((dval 0 [c] : Nat) : Int) = x - 48 := by rw [dval_cons, dval_nil]; omega
        rw [hv]
      | false =>
        by_cases h32 : x = 32
        · subst h32
          have hr : s.rune 32 = s := by simp [RS.rune, hw, hD, number_E he]
          simp only [gloop, hr, hb, Bool.false_eq_true, if_false, tokF, if_true]
          exact ihA s hb he hw
        · have hr : s.rune x = ⟨s.out ++ [⟨x, 0, 0⟩], s.dg, !knownR x⟩ := by simp [RS.rune, hw, hD, number_E he, h32, hb]
          cases hk : knownR x with
          | false =>
            have hnn : ¬ (x = 955 ∨ x = 960) := fun e => by rw [known_named e] at hk; cases hk
            simp only [gloop, hr, hk, Bool.not_false, if_true, RS.fin, tokF, hD, Bool.false_eq_true, if_false]
            rw [if_neg h32, if_neg hnn]; rfl
          | true =>
            simp only [gloop, hr, hk, Bool.not_true, Bool.false_eq_true, if_false, tokF, hD, if_true]
            rw [if_neg h32]
            by_cases hnn : x = 955 ∨ x = 960
            · rw [if_pos hnn]
              exact ihC _ s.out x rfl he (by simp [named, hnn]) rfl
            · rw [if_neg hnn, map_app]
              have := ihA ⟨s.out ++ [⟨x, 0, 0⟩], s.dg, false⟩ rfl he (by rw [hdg, waits_app]; simp [named, hnn])
              exact this
    refine ⟨hA, fun s hb he hd hv => ?_, fun s he hd hv => ?_, fun s out g hb he hg ho => ?_⟩
    · have hw := waits_dg he
      cases hD : isD x with
      | true =>
        obtain ⟨c, hc1, hc2, hc3, hc4⟩ := encode_dig hD
        have hr : s.rune x = ⟨s.out, s.dg ++ Utf8.encode x, s.bad⟩ := by simp [RS.rune, hw, hD]
        have hl : (s.dg ++ Utf8.encode x).data.toList = s.dg.data.toList ++ [c] := by simp [hc1]
        have he2 : isE (s.dg ++ Utf8.encode x) = false := by rw [isE_eq, hl]; simp
        have hd2 : digs (s.dg ++ Utf8.encode x).data.toList := by
          rw [hl]; intro y hy; rw [List.mem_append] at hy
          rcases hy with hy | hy
          · exact hd y hy
          · simp at hy; subst hy; exact ⟨hc3, hc4⟩
        have hval : dval 0 (s.dg ++ Utf8.encode x).data.toList = dval 0 s.dg.data.toList * 10 + (c.toNat - 48) := by rw [hl, dval_app]
        simp only [gloop, hr, hb, Bool.false_eq_true, if_false, tokF, hD, if_true]
        by_cases ho : 9223372036854775807 < (dval 0 s.dg.data.toList : Int) * 10 + (x - 48)
        · rw [if_pos ho]
          exact ihO _ he2 hd2 (by rw [hval]; omega)
        · rw [if_neg ho]
          have := ihB ⟨s.out, s.dg ++ Utf8.encode x, false⟩ rfl he2 hd2 (by rw [hval]; omega)
          rw [this, hval]
          congr 2
          congr 1
          omega
      | false =>
        have hnum := number_ok he hd hv
        have hw2 : s.number.waits = false := by rw [hnum, waits_app]; simp [named]
        have hE2 : isE s.number.dg = true := by rw [hnum]; exact isE_nil
        have hr : s.rune x = s.number.rune x := by
          unfold RS.rune
          simp only [hw, hw2, hD, Bool.false_eq_true, if_false, number_E hE2]
        have hg : gloop (x :: r) s = gloop (x :: r) s.number := by simp only [gloop, hr]
        rw [hg, hA s.number (by rw [hnum]; exact hb) hE2 hw2, hnum]
        rw [← map_app]
        congr 1
        simp only [tokF, hD, Bool.false_eq_true, if_false]
    · have hw := waits_dg he
      cases hD : isD x with
      | true =>
        obtain ⟨c, hc1, hc2, hc3, hc4⟩ := encode_dig hD
        have hr : s.rune x = ⟨s.out, s.dg ++ Utf8.encode x, s.bad⟩ := by simp [RS.rune, hw, hD]
        have hl : (s.dg ++ Utf8.encode x).data.toList = s.dg.data.toList ++ [c] := by simp [hc1]
        have he2 : isE (s.dg ++ Utf8.encode x) = false := by rw [isE_eq, hl]; simp
        have hd2 : digs (s.dg ++ Utf8.encode x).data.toList := by
          rw [hl]; intro y hy; rw [List.mem_append] at hy
          rcases hy with hy | hy
          · exact hd y hy
          · simp at hy; subst hy; exact ⟨hc3, hc4⟩
        have hval : dval 0 (s.dg ++ Utf8.encode x).data.toList = dval 0 s.dg.data.toList * 10 + (c.toNat - 48) := by rw [hl, dval_app]
        simp only [gloop, hr]
        split
        · rfl
        · exact ihO _ he2 hd2 (by rw [hval]; omega)
      | false =>
        have hbig := number_big he hd hv
        have hr : (s.rune x).bad = true := by
          unfold RS.rune
          simp only [hw, hD, Bool.false_eq_true, if_false]
          split
          · exact hbig
          · simp [hbig]
        simp only [gloop, hr, if_true, RS.fin]
    · have hw : s.waits = true := by simp [RS.waits, he, ho, hg]
      have hr : s.rune x = ⟨out ++ [⟨g, 0, x⟩], s.dg, !nameR x⟩ := by
        simp [RS.rune, hw, RS.setName, ho, hb]
      simp only [gloop, hr, tokF]
      cases hn : nameR x with
      | false => simp [RS.fin]
      | true =>
        simp only [Bool.not_true, Bool.false_eq_true, if_false, if_true]
        rw [map_app]
        have hx0 : (x == 0) = false := by
          cases h0 : x == 0 with
          | false => rfl
          | true => simp at h0; subst h0; simp [nameR] at hn
        exact ihA ⟨out ++ [⟨g, 0, x⟩], s.dg, false⟩ rfl he (by rw [E_dg he, waits_app]; simp [hx0])
theorem gTok_eq (s : ByteArray) : gTok s = toksN s := by
  unfold gTok toksN
  split
  · rfl
  · have := (tok_main (runesI s)).1 ⟨[], ⟨#[]⟩, false⟩ rfl isE_nil (by simp [RS.waits])
    simp only [List.nil_append] at this
    have h2 : (tokF (runesI s) .plain).map (fun x => x) = tokF (runesI s) .plain := by cases tokF (runesI s) .plain <;> rfl
    rw [h2] at this
    rw [← this]
    cases gloop (runesI s) ⟨[], ⟨#[]⟩, false⟩ with
    | none => rfl
    | some s' =>
      simp only [RS.fin]
      split
      · rfl
      · rfl
end Go.Ev
namespace Go.Ev
open Go
def i64c (x : Int) : List AV := [.int .i64 x]
def n64c (x : Nat) : List AV := [.int .i64 x]
def sgn (l : List Tok) (i : Nat) : Int := match l[i]? with | some t => t.sign | none => 0
structure NS where
  to : List Int
  op : List Nat
  deep : Nat
def rstep (l : List Tok) (i : Nat) (s : NS) : Option NS :=
  if sgn l i = 63 ∨ sgn l i = 91 then (if 16 < s.op.length + 1 then none else some ⟨s.to.set i (-1), s.op ++ [i], max s.deep (s.op.length + 1)⟩) else
  if sgn l i = 58 then (match s.op.getLast? with | none => none | some p => if sgn l p = 63 then some ⟨(s.to.set i (-1)).set p (i + 1 : Nat), s.op.dropLast ++ [i], s.deep⟩ else none) else
  if sgn l i = 59 then (match s.op.getLast? with | none => none | some p => if sgn l p = 91 then none else some ⟨(s.to.set i (-1)).set p i, s.op.dropLast, s.deep⟩) else
  if sgn l i = 93 then (match s.op.getLast? with | none => none | some p => if sgn l p = 91 then some ⟨(s.to.set i (-1)).set i p, s.op.dropLast, s.deep⟩ else none) else
  some ⟨s.to.set i (-1), s.op, s.deep⟩
def rloop (l : List Tok) : Nat → Nat → NS → Option NS
  | 0, _, s => some s
  | k + 1, i, s => (rstep l i s).bind (rloop l k (i + 1))
def leavesN (l : List Tok) (to : List Int) (at' : Nat) : Nat → Nat → Int
  | 0, _ => -1
  | k + 1, i => if sgn l i = 93 ∧ to.getD i 0 < at' then ((i + 1 : Nat) : Int) else leavesN l to at' k (i + 1)
def rloop2 (l : List Tok) : Nat → Nat → List Int → Option (List Int)
  | 0, _, to => some to
  | k + 1, i, to => if sgn l i = 126 then (if leavesN l to i (l.length - i) i < 0 then none else rloop2 l k (i + 1) (to.set i (leavesN l to i (l.length - i) i))) else rloop2 l k (i + 1) to
def nestR (l : List Tok) : Option (List Int × Nat) := match rloop l l.length 0 ⟨List.replicate l.length 0, [], 0⟩ with
  | none => none
  | some s => if s.op = [] then (rloop2 l l.length 0 s.to).map (·, s.deep) else none

/-- A list of numbers that was made in one piece. -/
def TOV (h : H) (bar : Nat) (a : AV) (id : Nat) (to : List Int) : Prop := a = .sl id 0 1 to.length true ∧ bar ≤ id ∧ id < h.n ∧ h.get id = some (.cells (to.flatMap i64c) 0)
theorem i64_get {to : List Int} {i : Nat} (hi : i < to.length) : (to.flatMap i64c)[i]? = some (.int .i64 to[i]) := by
  have := flat_get0 (c := i64c) (k := 1) (fun _ => rfl) to i to[i] (by omega) (List.getElem?_eq_getElem hi)
  simpa [i64c] using this
theorem i64_set {to : List Int} {i : Nat} (hi : i < to.length) (v : Int) : splice (to.flatMap i64c) i [.int .i64 v] = (to.set i v).flatMap i64c := by
  have := flat_splice (c := i64c) (k := 1) (fun _ => rfl) [] 0 [.int .i64 v] v to i to[i] (List.getElem?_eq_getElem hi) (by simp) rfl
  simpa using this
theorem i64_len (to : List Int) : (to.flatMap i64c).length = to.length := by rw [flat_len (k := 1) (fun _ => rfl), Nat.mul_one]
theorem tok_cases {a : AV} {l : List Tok} (v : FzV 3 a l.length (l.flatMap Tok.cells)) : (a = .nilsl ∧ l = []) ∨
    ∃ full cs, a = .fz 3 l.length cs full ∧ (cs.length = l.length * 3) = True ∧ (∀ i, i < l.length → cs[i * 3]? = some (.int .i32 (sgn l i))) ∧
      ∀ i (hi : i < l.length), i * 3 + 3 ≤ cs.length ∧ (cs.drop (i * 3)).take 3 = l[i].cells := by
  obtain ⟨h1, h2, ⟨h3, h4⟩ | ⟨full, h3⟩⟩ := v
  · exact .inl ⟨h3, List.length_eq_zero_iff.mp h4⟩
  · refine .inr ⟨full, _, h3, by simp only [h1], fun i hi => ?_, fun i hi => ⟨by rw [h1]; omega, flat_row Tok.cells_len l i _ (List.getElem?_eq_getElem hi)⟩⟩
    have := flat_get0 Tok.cells_len l i l[i] (by omega) (List.getElem?_eq_getElem hi)
    rw [this]
    simp [Tok.cells, sgn, hi]
/-- The open ones: a slice of the function's own. -/
theorem op_cases {h : H} {bar : Nat} {a : AV} {op : List Nat} (v : OS 1 h bar a op.length (op.flatMap n64c)) : (op = [] ∧ ((a = .nilsl) ∨ ∃ id rest, a = .sl id 0 1 0 false ∧ bar ≤ id ∧ id < h.n ∧ h.get id = some (.cells rest 0))) ∨
    ∃ id all p, op.getLast? = some p ∧ op ≠ [] ∧ a = .sl id 0 1 op.length false ∧ bar ≤ id ∧ id < h.n ∧ h.get id = some (.cells all 0) ∧ all[op.length - 1]? = some (.int .i64 (p : Nat)) ∧ op.length ≤ all.length ∧
      (∀ g : H, g.n = h.n → g.get id = h.get id → OS 1 g bar (.sl id 0 1 (op.length - 1) false) op.dropLast.length (op.dropLast.flatMap n64c)) ∧
      ∀ (q : Nat) (g : H), g.n = h.n → g.get id = some (.cells (splice all (op.length - 1) [.int .i64 (q : Nat)]) 0) → OS 1 g bar a (op.dropLast ++ [q]).length ((op.dropLast ++ [q]).flatMap n64c) := by
  obtain ⟨h1, h2, ⟨h3, h4⟩ | ⟨id, rest, e1, e2, e3, e4⟩⟩ := v
  · have : op = [] := List.length_eq_zero_iff.mp h4
    exact .inl ⟨this, .inl h3⟩
  · by_cases hop : op = []
    · subst hop
      exact .inl ⟨rfl, .inr ⟨id, _, e1, e2, e3, e4⟩⟩
    · right
      obtain ⟨p, hp⟩ : ∃ p, op.getLast? = some p := ⟨_, List.getLast?_eq_some_getLast hop⟩
      have hsplit : op = op.dropLast ++ [p] := by
        have := List.dropLast_concat_getLast hop
        rw [List.getLast?_eq_some_getLast hop] at hp
        injection hp with hp
        rw [← hp]; exact this.symm
      have hn1 : op.length = op.dropLast.length + 1 := by rw [List.length_dropLast]; cases op with | nil => exact absurd rfl hop | cons _ _ => simp
      have hlast : op[op.length - 1]? = some p := by rw [← List.getLast?_eq_getElem?]; exact hp
      have hl1 : ∀ l : List Nat, (l.flatMap n64c).length = l.length := fun l => by rw [flat_len (k := 1) (fun _ => rfl), Nat.mul_one]
      have hall1 : ∀ l : List Nat, (l.flatMap n64c).all AV.one = true := fun l => by
        rw [List.all_eq_true]; intro y hy; rw [List.mem_flatMap] at hy; obtain ⟨u, _, hy⟩ := hy; simp [n64c] at hy; subst hy; rfl
      refine ⟨id, op.flatMap n64c ++ rest, p, hp, hop, e1, e2, e3, e4, ?_, by simp [hl1], fun g g1 g2 => ?_, fun q g g1 g2 => ?_⟩
      · rw [List.getElem?_append_left (by rw [hl1]; omega)]
        have := flat_get0 (c := n64c) (k := 1) (fun _ => rfl) op (op.length - 1) p (by omega) hlast
        rw [Nat.mul_one] at this
        rw [this]; rfl
      · refine ⟨by rw [hl1, Nat.mul_one], hall1 _, .inr ⟨id, .int .i64 (p : Nat) :: rest, by rw [List.length_dropLast], e2, by omega, ?_⟩⟩
        rw [g2, e4]
        congr 2
        conv => lhs; rw [hsplit]
        simp [n64c]
      · refine ⟨by rw [hl1, Nat.mul_one], hall1 _, .inr ⟨id, rest, by rw [e1, List.length_append, List.length_singleton, ← hn1], e2, by omega, ?_⟩⟩
        rw [g2]
        congr 2
        have := flat_splice (c := n64c) (k := 1) (fun _ => rfl) rest 0 [.int .i64 (q : Nat)] q op (op.length - 1) p hlast (by simp) rfl
        rw [Nat.mul_one, Nat.add_zero] at this
        rw [this]
        congr 2
        conv => lhs; rw [hsplit]
        rw [List.length_append, List.length_singleton, Nat.add_sub_cancel, List.set_append_right _ _ (by simp)]
        simp
end Go.Ev
namespace Go.Ev
open Go
section
variable {pr : Oracle} {bar : Nat} {h : H}
theorem TOV.set {g : H} {a : AV} {id : Nat} {to : List Int} (v : TOV g bar a id to) {i : Nat} (hi : i < to.length) (x : Int) : TOV (g.set id (.cells (splice (to.flatMap i64c) i [.int .i64 x]) 0)) bar a id (to.set i x) := by
  obtain ⟨h1, h2, h3, h4⟩ := v
  exact ⟨by rw [h1, List.length_set], h2, h3, by rw [get_set, if_pos rfl, i64_set hi]⟩
theorem TOV.mono {g g' : H} {a : AV} {id : Nat} {to : List Int} (v : TOV g bar a id to) (hn : g.n ≤ g'.n) (hg : g'.get id = g.get id) : TOV g' bar a id to := by
  obtain ⟨h1, h2, h3, h4⟩ := v
  exact ⟨h1, h2, by omega, by rw [hg]; exact h4⟩
theorem sp10 (a v : AV) : splice [a] 0 [v] = [v] := Eq.trans rfl rfl
theorem ref_nest_loop (l : List Tok) (la : AV) (hla : FzV 3 la l.length (l.flatMap Tok.cells)) (hlen : l.length ≤ 100000) (ta : AV) (tid : Nat) (Q : Ex → Env → H → Prop) : ∀ (k i : Nat) (g : H) (oa : AV) (s : NS), l.length = i + k → TOV g bar ta tid s.to → s.to.length = l.length →
    OS 1 g bar oa s.op.length (s.op.flatMap n64c) → ¬ oa.isAt tid → bar ≤ g.n → (∀ p ∈ s.op, p < i) → s.op.length ≤ 16 →
    (∀ e g', e.get 2 = some .nilsl → e.get 3 = some (.int .i64 (-1)) → e.get 4 = some (.int .i64 13) → rloop l k i s = none → Q .ret e g') →
    (∀ e g' oa' s', e.get 0 = some la → e.get 5 = some ta → e.get 6 = some oa' → e.get 7 = some (.int .i64 (s'.deep : Nat)) → rloop l k i s = some s' → TOV g' bar ta tid s'.to → s'.to.length = l.length → OS 1 g' bar oa' s'.op.length (s'.op.flatMap n64c) → bar ≤ g'.n → Q (.exit 0) e g') →
    wpL (call tb pr) bar [0, 5, 6, 7, 14, 15] l0_engramref9_Nest [(0, la), (5, ta), (6, oa), (7, .int .i64 (s.deep : Nat)), (14, goI l.length), (15, goI i)] g Q := by
  intro k
  induction k with
  | zero =>
    intro i g oa s hk ht htl ho hat hb hp hl16 h1 h2
    refine M_loop l0_engramref9_Nest.eq_1 ?_
    simp [go_sem, hk]
    exact h2 _ _ _ s rfl rfl rfl rfl rfl ht htl ho hb
  | succ k ih =>
    intro i g oa s hk ht htl ho hat hb hp hl16 h1 h2
    refine M_loop l0_engramref9_Nest.eq_1 ?_
    have hi : i < l.length := by omega
    have hbi : (i : Int) < (l.length : Int) := by omega
    have hit : i < s.to.length := by omega
    have hw := w64_succ (n := i) (by omega)
    rcases tok_cases hla with ⟨rfl, rfl⟩ | ⟨full, cs, rfl, hl, hx, _⟩
    · cases hi
    have hxi := hx i hi
    have hT1 := ht.set hit (-1)
    have hO1 := ho.set (.cells (splice (s.to.flatMap i64c) i [.int .i64 (-1)]) 0) hat
    have htl1 : (s.to.set i (-1)).length = l.length := by rw [List.length_set]; exact htl
    obtain ⟨hta, htb, htn, htg⟩ := ht
    rw [htl] at hta
    subst hta
    have hle1 : i + 1 ≤ (s.to.flatMap i64c).length := by rw [i64_len]; omega
    have hgo : rloop l (k + 1) i s = (rstep l i s).bind (rloop l k (i + 1)) := rfl
    generalize htc : s.to.flatMap i64c = tc at *
    generalize hg1 : g.set tid (.cells (splice tc i [.int .i64 (-1)]) 0) = g1 at *
    have hg1n : g1.n = g.n := by rw [← hg1]; rfl
    by_cases hA : sgn l i = 63 ∨ sgn l i = 91
    · obtain ⟨a', g', e1, e2, e3, e4, e5⟩ := hO1.app (by omega) 8 (n64c i) rfl rfl (by omega) (by omega) (by omega)
      simp only [n64c] at e1
      have hT2 : TOV g' bar (.sl tid 0 1 l.length true) tid (s.to.set i (-1)) := hT1.mono (by omega) (e4 tid (by omega) hat)
      have hmm : (if ((s.op.length : Int) + 1) > (s.deep : Int) then ((s.op.length : Int) + 1) else (s.deep : Int)) = ((max s.deep (s.op.length + 1) : Nat) : Int) := by
        split <;> omega
      by_cases h16 : 16 < s.op.length + 1
      · have hgo2 : rloop l (k + 1) i s = none := by rw [hgo]; unfold rstep; rw [if_pos hA, if_pos h16]; rfl
        have h16' : (16 : Int) < (s.op.length : Int) + 1 := by omega
        rcases hA with hA | hA
        · simp [-getElem?_pos, go_sem, get_alloc, n_alloc, get_set, n_set, get_kill, n_kill, writeAt, a11, a21, a31, a41, a51, a61, a71, hbi, hi, indexIn, hl, hxi, hA, htg, htb, hle1, hg1, evParts, fillA, sp10, e1, e2.len, hmm, h16']
          refine h1 _ _ ?_ ?_ ?_ hgo2 <;> rfl
        · simp [-getElem?_pos, go_sem, get_alloc, n_alloc, get_set, n_set, get_kill, n_kill, writeAt, a11, a21, a31, a41, a51, a61, a71, hbi, hi, indexIn, hl, hxi, hA, htg, htb, hle1, hg1, evParts, fillA, sp10, e1, e2.len, hmm, h16']
          refine h1 _ _ ?_ ?_ ?_ hgo2 <;> rfl
      · have hgo2 : rloop l (k + 1) i s = rloop l k (i + 1) ⟨s.to.set i (-1), s.op ++ [i], max s.deep (s.op.length + 1)⟩ := by rw [hgo]; unfold rstep; rw [if_pos hA, if_neg h16]; rfl
        have h16' : ¬ (16 : Int) < (s.op.length : Int) + 1 := by omega
        have hat' : ¬ a'.isAt tid := fun hj => by have := e5 _ hj; omega
        have hO2 : OS 1 g' bar a' (s.op ++ [i]).length ((s.op ++ [i]).flatMap n64c) := by simpa [n64c] using e2
        have hp2 : ∀ p ∈ s.op ++ [i], p < i + 1 := fun p hpp => by
          rw [List.mem_append] at hpp
          rcases hpp with hpp | hpp
          · have := hp p hpp; omega
          · simp at hpp; omega
        rcases hA with hA | hA
        · simp [-getElem?_pos, go_sem, get_alloc, n_alloc, get_set, n_set, get_kill, n_kill, writeAt, a11, a21, a31, a41, a51, a61, a71, hbi, hi, indexIn, hl, hxi, hA, htg, htb, hle1, hg1, evParts, fillA, sp10, e1, e2.len, hmm, h16', hw]
          exact ih (i + 1) g' a' ⟨s.to.set i (-1), s.op ++ [i], max s.deep (s.op.length + 1)⟩ (by omega) hT2 htl1 hO2 hat' (by omega) hp2 (by simp; omega) (fun e g' q1 q2 q3 q4 => h1 e g' q1 q2 q3 (by rw [hgo2, q4])) (fun e g' oa' s' q1 q2 q3 q4 q5 => h2 e g' oa' s' q1 q2 q3 q4 (by rw [hgo2, q5]))
        · simp [-getElem?_pos, go_sem, get_alloc, n_alloc, get_set, n_set, get_kill, n_kill, writeAt, a11, a21, a31, a41, a51, a61, a71, hbi, hi, indexIn, hl, hxi, hA, htg, htb, hle1, hg1, evParts, fillA, sp10, e1, e2.len, hmm, h16', hw]
          exact ih (i + 1) g' a' ⟨s.to.set i (-1), s.op ++ [i], max s.deep (s.op.length + 1)⟩ (by omega) hT2 htl1 hO2 hat' (by omega) hp2 (by simp; omega) (fun e g' q1 q2 q3 q4 => h1 e g' q1 q2 q3 (by rw [hgo2, q4])) (fun e g' oa' s' q1 q2 q3 q4 q5 => h2 e g' oa' s' q1 q2 q3 q4 (by rw [hgo2, q5]))
    · have n1 : (sgn l i == 63) = false := by simp; omega
      have n2 : (sgn l i == 91) = false := by simp; omega
      by_cases hE : sgn l i = 58 ∨ sgn l i = 59 ∨ sgn l i = 93
      · rcases op_cases hO1 with ⟨hop, hnil⟩ | ⟨oid, all, p, hlast, hop, rfl, g1', g2', g3', g4', g5', g6', g7'⟩
        · have hgo2 : rloop l (k + 1) i s = none := by
            rw [hgo]; unfold rstep; rw [if_neg hA, hop]
            rcases hE with hE | hE | hE <;> simp [hE]
          have hln : ∀ g, lenR (some oa) g = some (goI 0, g) := by
            rcases hnil with rfl | ⟨_, _, rfl, _⟩ <;> intro g <;> rfl
          rcases hE with hE | hE | hE
          · simp [-getElem?_pos, go_sem, get_alloc, n_alloc, get_set, n_set, get_kill, n_kill, writeAt, a11, a21, a31, a41, a51, a61, a71, hbi, hi, indexIn, hl, hxi, hE, htg, htb, hle1, hg1, hln]
            refine h1 _ _ ?_ ?_ ?_ hgo2 <;> rfl
          · simp [-getElem?_pos, go_sem, get_alloc, n_alloc, get_set, n_set, get_kill, n_kill, writeAt, a11, a21, a31, a41, a51, a61, a71, hbi, hi, indexIn, hl, hxi, hE, htg, htb, hle1, hg1, hln]
            refine h1 _ _ ?_ ?_ ?_ hgo2 <;> rfl
          · simp [-getElem?_pos, go_sem, get_alloc, n_alloc, get_set, n_set, get_kill, n_kill, writeAt, a11, a21, a31, a41, a51, a61, a71, hbi, hi, indexIn, hl, hxi, hE, htg, htb, hle1, hg1, hln]
            refine h1 _ _ ?_ ?_ ?_ hgo2 <;> rfl
        · have hopl : 0 < s.op.length := List.length_pos_iff.mpr hop
          have hol0 : ((s.op.length : Int) == 0) = false := by simp; omega
          have hpl : p < l.length := by
            have := hp p (List.mem_of_getLast? hlast); omega
          have hpt : p < s.to.length := by omega
          have hwo : IntKind.i64.wrap ((s.op.length : Int) - 1) = ((s.op.length - 1 : Nat) : Int) := by rw [w64 (by omega) (by omega)]; omega
          have ho1 : s.op.length - 1 < s.op.length := by omega
          have ho1' : ((s.op.length - 1 : Nat) : Int) < (s.op.length : Int) := by omega
          have hpb : (p : Int) < (l.length : Int) := by omega
          have hxp := hx p hpl
          have hpi : ((p : Int) < (i : Int)) := by have := hp p (List.mem_of_getLast? hlast); omega
          have hone : oid ≠ tid := hat
          have hpt1 : p < (s.to.set i (-1)).length := by rw [List.length_set]; exact hpt
          have hit1 : i < (s.to.set i (-1)).length := by rw [List.length_set]; exact hit
          have hle2 : p + 1 ≤ ((s.to.set i (-1)).flatMap i64c).length := by rw [i64_len]; omega
          have hle3 : i + 1 ≤ ((s.to.set i (-1)).flatMap i64c).length := by rw [i64_len]; omega
          have hoall : s.op.length - 1 + 1 ≤ all.length := by omega
          have hbo : 0 ≤ (s.op.length : Int) - 1 := by omega
          have hub : ((s.op.length : Int) - 1).toNat = s.op.length - 1 := by omega
          have hsub : s.op.length - 1 ≤ s.op.length := by omega
          obtain ⟨_, htb1, htn1, htg1⟩ := id hT1
          have hTa := hT1.set hpt1 ((i + 1 : Nat) : Int)
          have hTb := hT1.set hpt1 (i : Int)
          have hTc := hT1.set hit1 (p : Int)
          generalize htc1 : (s.to.set i (-1)).flatMap i64c = tc1 at *
          have hopp : ∀ q ∈ s.op.dropLast, q < i := fun q hq => hp q (by rw [List.dropLast_eq_take] at hq; exact List.mem_of_mem_take hq)
          have hdl : s.op.dropLast.length = s.op.length - 1 := List.length_dropLast
          rcases hE with hE | hE | hE
          · by_cases hs : sgn l p = 63
            · have hgo2 : rloop l (k + 1) i s = rloop l k (i + 1) ⟨(s.to.set i (-1)).set p ((i + 1 : Nat) : Int), s.op.dropLast ++ [i], s.deep⟩ := by rw [hgo]; unfold rstep; rw [if_neg hA, if_pos hE, hlast]; simp only [hs, if_true]; rfl
              simp [-getElem?_pos, go_sem, get_alloc, n_alloc, get_set, n_set, get_kill, n_kill, writeAt, a11, a21, a31, a41, a51, a61, a71, hbi, hi, indexIn, hl, hxi, hE, htg, htb, hle1, hg1, hop, hopl, hol0, hwo, hw, ho1, ho1', g3', g4', hpb, hpl, hxp, hs, htg1, hle2, hone, hoall, g1']
              have hT2 := (hTa.mono (g' := (g1.set tid (.cells (splice tc1 p [.int .i64 ((i + 1 : Nat) : Int)]) 0)).set oid (.cells (splice all (s.op.length - 1) [.int .i64 (i : Int)]) 0)) (Nat.le_refl _) (by rw [get_set_ne (fun e => hone e.symm)]))
              have hO2 := g7' i ((g1.set tid (.cells (splice tc1 p [.int .i64 ((i + 1 : Nat) : Int)]) 0)).set oid (.cells (splice all (s.op.length - 1) [.int .i64 (i : Int)]) 0)) rfl (by rw [get_set, if_pos rfl])
              refine ih (i + 1) _ _ ⟨(s.to.set i (-1)).set p ((i + 1 : Nat) : Int), s.op.dropLast ++ [i], s.deep⟩ (by omega) hT2 (by rw [List.length_set]; exact htl1) hO2 hat (by simp only [n_set]; omega) (fun q hq => ?_) (by simp; omega) (fun e g' q1 q2 q3 q4 => h1 e g' q1 q2 q3 (by rw [hgo2, q4])) (fun e g' oa' s' q1 q2 q3 q4 q5 => h2 e g' oa' s' q1 q2 q3 q4 (by rw [hgo2, q5]))
              rw [List.mem_append] at hq
              rcases hq with hq | hq
              · have := hopp q hq; omega
              · simp at hq; omega
            · have hgo2 : rloop l (k + 1) i s = none := by rw [hgo]; unfold rstep; rw [if_neg hA, if_pos hE, hlast]; simp only [hs, if_false]; rfl
              have hs' : (sgn l p != 63) = true := by simpa using hs
              simp [-getElem?_pos, go_sem, get_alloc, n_alloc, get_set, n_set, get_kill, n_kill, writeAt, a11, a21, a31, a41, a51, a61, a71, hbi, hi, indexIn, hl, hxi, hE, htg, htb, hle1, hg1, hop, hopl, hol0, hwo, hw, ho1, ho1', g3', g4', hpb, hpl, hxp, hs']
              refine h1 _ _ ?_ ?_ ?_ hgo2 <;> rfl
          · have h58 : ¬ sgn l i = 58 := by omega
            by_cases hs : sgn l p = 91
            · have hgo2 : rloop l (k + 1) i s = none := by rw [hgo]; unfold rstep; rw [if_neg hA, if_neg h58, if_pos hE, hlast]; simp only [hs, if_true]; rfl
              have hs' : (sgn l p == 91) = true := by simpa using hs
              simp [-getElem?_pos, go_sem, get_alloc, n_alloc, get_set, n_set, get_kill, n_kill, writeAt, a11, a21, a31, a41, a51, a61, a71, hbi, hi, indexIn, hl, hxi, hE, htg, htb, hle1, hg1, hop, hopl, hol0, hwo, hw, ho1, ho1', g3', g4', hpb, hpl, hxp, hs']
              refine h1 _ _ ?_ ?_ ?_ hgo2 <;> rfl
            · have hgo2 : rloop l (k + 1) i s = rloop l k (i + 1) ⟨(s.to.set i (-1)).set p (i : Int), s.op.dropLast, s.deep⟩ := by rw [hgo]; unfold rstep; rw [if_neg hA, if_neg h58, if_pos hE, hlast]; simp only [hs, if_false]; rfl
              have hs' : (sgn l p == 91) = false := by simpa using hs
              simp [-getElem?_pos, go_sem, get_alloc, n_alloc, get_set, n_set, get_kill, n_kill, writeAt, a11, a21, a31, a41, a51, a61, a71, hbi, hi, indexIn, hl, hxi, hE, htg, htb, hle1, hg1, hop, hopl, hol0, hwo, hw, ho1, ho1', g3', g4', hpb, hpl, hxp, hs, hs', htg1, hle2, hle3, hone, hoall, g1', sliceA, optEv, optBound, bound, hbo, hub, hsub]
              have hO2 := g6' (g1.set tid (.cells (splice tc1 p [.int .i64 (i : Int)]) 0)) rfl (by rw [get_set_ne hone])
              exact ih (i + 1) _ _ ⟨(s.to.set i (-1)).set p (i : Int), s.op.dropLast, s.deep⟩ (by omega) hTb (by rw [List.length_set]; exact htl1) hO2 hat (by simp only [n_set]; omega) (fun q hq => by have := hopp q hq; omega) (by simp; omega) (fun e g' q1 q2 q3 q4 => h1 e g' q1 q2 q3 (by rw [hgo2, q4])) (fun e g' oa' s' q1 q2 q3 q4 q5 => h2 e g' oa' s' q1 q2 q3 q4 (by rw [hgo2, q5]))
          · have h58 : ¬ sgn l i = 58 := by omega
            have h59 : ¬ sgn l i = 59 := by omega
            by_cases hs : sgn l p = 91
            · have hgo2 : rloop l (k + 1) i s = rloop l k (i + 1) ⟨(s.to.set i (-1)).set i (p : Int), s.op.dropLast, s.deep⟩ := by rw [hgo]; unfold rstep; rw [if_neg hA, if_neg h58, if_neg h59, if_pos hE, hlast]; simp only [hs, if_true]; rfl
              have hs' : (sgn l p != 91) = false := by simpa using hs
              simp [-getElem?_pos, go_sem, get_alloc, n_alloc, get_set, n_set, get_kill, n_kill, writeAt, a11, a21, a31, a41, a51, a61, a71, hbi, hi, indexIn, hl, hxi, hE, htg, htb, hle1, hg1, hop, hopl, hol0, hwo, hw, ho1, ho1', g3', g4', hpb, hpl, hxp, hs, hs', htg1, hle2, hle3, hone, hoall, g1', sliceA, optEv, optBound, bound, hbo, hub, hsub]
              have hO2 := g6' (g1.set tid (.cells (splice tc1 i [.int .i64 (p : Int)]) 0)) rfl (by rw [get_set_ne hone])
              exact ih (i + 1) _ _ ⟨(s.to.set i (-1)).set i (p : Int), s.op.dropLast, s.deep⟩ (by omega) hTc (by rw [List.length_set]; exact htl1) hO2 hat (by simp only [n_set]; omega) (fun q hq => by have := hopp q hq; omega) (by simp; omega) (fun e g' q1 q2 q3 q4 => h1 e g' q1 q2 q3 (by rw [hgo2, q4])) (fun e g' oa' s' q1 q2 q3 q4 q5 => h2 e g' oa' s' q1 q2 q3 q4 (by rw [hgo2, q5]))
            · have hgo2 : rloop l (k + 1) i s = none := by rw [hgo]; unfold rstep; rw [if_neg hA, if_neg h58, if_neg h59, if_pos hE, hlast]; simp only [hs, if_false]; rfl
              have hs' : (sgn l p != 91) = true := by simpa using hs
              simp [-getElem?_pos, go_sem, get_alloc, n_alloc, get_set, n_set, get_kill, n_kill, writeAt, a11, a21, a31, a41, a51, a61, a71, hbi, hi, indexIn, hl, hxi, hE, htg, htb, hle1, hg1, hop, hopl, hol0, hwo, hw, ho1, ho1', g3', g4', hpb, hpl, hxp, hs']
              refine h1 _ _ ?_ ?_ ?_ hgo2 <;> rfl
      · have hgo2 : rloop l (k + 1) i s = rloop l k (i + 1) ⟨s.to.set i (-1), s.op, s.deep⟩ := by rw [hgo]; unfold rstep; rw [if_neg hA, if_neg (by omega), if_neg (by omega), if_neg (by omega)]; rfl
        have n3 : (sgn l i == 58) = false := by simp; omega
        have n4 : (sgn l i == 59) = false := by simp; omega
        have n5 : (sgn l i == 93) = false := by simp; omega
        simp [-getElem?_pos, go_sem, get_alloc, n_alloc, get_set, n_set, get_kill, n_kill, writeAt, a11, a21, a31, a41, a51, a61, a71, hbi, hi, indexIn, hl, hxi, n1, n2, n3, n4, n5, htg, htb, hle1, hg1, hw]
        exact ih (i + 1) g1 oa ⟨s.to.set i (-1), s.op, s.deep⟩ (by omega) hT1 htl1 hO1 hat (by omega) (fun q hq => by have := hp q hq; omega) hl16 (fun e g' q1 q2 q3 q4 => h1 e g' q1 q2 q3 (by rw [hgo2, q4])) (fun e g' oa' s' q1 q2 q3 q4 q5 => h2 e g' oa' s' q1 q2 q3 q4 (by rw [hgo2, q5]))
theorem ref_leaves_loop (l : List Tok) (la : AV) (hla : FzV 3 la l.length (l.flatMap Tok.cells)) (hlen : l.length ≤ 100000) (to : List Int) (htl : to.length = l.length) (ta : AV) (b tid at' : Nat) (g : H) (ht : TOV g b ta tid to) (Q : Ex → Env → H → Prop) : ∀ (k i : Nat), l.length = i + k →
    (∀ e, e.get 6 = some (.int .i64 (leavesN l to at' k i)) → Q .ret e g) → (∀ e, leavesN l to at' k i = -1 → Q (.exit 0) e g) →
    wpL (call tb pr) bar [0, 1, 2, 7] l0_engramref9_leaves [(0, la), (1, ta), (2, goI at'), (7, goI i)] g Q := by
  intro k
  induction k with
  | zero =>
    intro i hk h1 h2
    refine M_loop l0_engramref9_leaves.eq_1 ?_
    have hln : ∀ g, lenR (some la) g = some (goI l.length, g) := (hla.vw g).len
    simp [go_sem, hln, hk]
    exact h2 _ rfl
  | succ k ih =>
    intro i hk h1 h2
    refine M_loop l0_engramref9_leaves.eq_1 ?_
    have hi : i < l.length := by omega
    have hbi : (i : Int) < (l.length : Int) := by omega
    have hw := w64_succ (n := i) (by omega)
    rcases tok_cases hla with ⟨rfl, rfl⟩ | ⟨full, cs, rfl, hl, hx, _⟩
    · cases hi
    have hxi := hx i hi
    obtain ⟨hta, htb, htn, htg⟩ := ht
    rw [htl] at hta
    subst hta
    have hti := i64_get (to := to) (i := i) (by omega)
    have htd : to.getD i 0 = to[i] := by rw [List.getD_eq_getElem?_getD, List.getElem?_eq_getElem (by omega)]; rfl
    generalize to.flatMap i64c = tc at *
    have hgo : leavesN l to at' (k + 1) i = if sgn l i = 93 ∧ to.getD i 0 < at' then ((i + 1 : Nat) : Int) else leavesN l to at' k (i + 1) := rfl
    rw [htd] at hgo
    by_cases c1 : sgn l i = 93
    · by_cases c2 : to[i] < (at' : Int)
      · rw [if_pos ⟨c1, c2⟩] at hgo
        simp [-getElem?_pos, go_sem, hbi, hi, indexIn, hl, hxi, c1, c2, htg, hti, hw]
        exact h1 _ (by rw [hgo]; simp [Env.get])
      · rw [if_neg (fun e => c2 e.2)] at hgo
        simp [-getElem?_pos, go_sem, hbi, hi, indexIn, hl, hxi, c1, c2, htg, hti, hw]
        exact ih (i + 1) (by omega) (fun e q => h1 e (by rw [hgo]; exact q)) (fun e q => h2 e (by rw [hgo]; exact q))
    · rw [if_neg (fun e => c1 e.1)] at hgo
      have c1' : (sgn l i == 93) = false := by simpa using c1
      simp [-getElem?_pos, go_sem, hbi, hi, indexIn, hl, hxi, c1', htg, hti, hw]
      exact ih (i + 1) (by omega) (fun e q => h1 e (by rw [hgo]; exact q)) (fun e q => h2 e (by rw [hgo]; exact q))
theorem engramref9_leaves_ok (l : List Tok) (la : AV) (hla : FzV 3 la l.length (l.flatMap Tok.cells)) (hlen : l.length ≤ 100000) (to : List Int) (htl : to.length = l.length) (ta : AV) (b tid at' : Nat) (ht : TOV h b ta tid to) (hat : at' ≤ l.length) : call tb pr n_engramref9_leaves [la, ta, .int .i64 (at' : Nat)] bar h = some (.int .i64 (leavesN l to at' (l.length - at') at'), h) := by
  refine call_of tb_engramref9_leaves (callF_pureW rfl rfl (M_in ?_))
  simp [f_engramref9_leaves, env0, go_sem]
  refine ref_leaves_loop l la hla hlen to htl ta b tid at' h ht _ (l.length - at') at' (by omega) (fun e h1 => ?_) (fun e h1 => ?_)
  · simp [go_sem, endP, endI, resultsA, resultA, freezeL, freezeV, AV.free.freeL, AV.free, packA, dropS, h1]
  · simp [go_sem, endP, endI, resultsA, resultA, freezeL, freezeV, AV.free.freeL, AV.free, packA, dropS]; exact h1.symm
theorem ref_nest_loop2 (l : List Tok) (la : AV) (hla : FzV 3 la l.length (l.flatMap Tok.cells)) (hlen : l.length ≤ 100000) (ta : AV) (tid : Nat) (deep : Nat) (Q : Ex → Env → H → Prop) : ∀ (k i : Nat) (g : H) (to : List Int), l.length = i + k → TOV g bar ta tid to → to.length = l.length →
    (∀ e g', e.get 2 = some .nilsl → e.get 3 = some (.int .i64 (-1)) → e.get 4 = some (.int .i64 13) → rloop2 l k i to = none → Q .ret e g') →
    (∀ e g' to', e.get 5 = some ta → e.get 7 = some (.int .i64 (deep : Nat)) → rloop2 l k i to = some to' → TOV g' bar ta tid to' → to'.length = l.length → Q (.exit 3) e g') →
    wpL (call tb pr) bar [0, 5, 7, 143, 144] l1_engramref9_Nest [(0, la), (5, ta), (7, .int .i64 (deep : Nat)), (143, goI l.length), (144, goI i)] g Q := by
  intro k
  induction k with
  | zero =>
    intro i g to hk ht htl h1 h2
    refine M_loop l1_engramref9_Nest.eq_1 ?_
    simp [go_sem, hk]
    exact h2 _ _ to rfl rfl rfl ht htl
  | succ k ih =>
    intro i g to hk ht htl h1 h2
    refine M_loop l1_engramref9_Nest.eq_1 ?_
    have hi : i < l.length := by omega
    have hbi : (i : Int) < (l.length : Int) := by omega
    have hit : i < to.length := by omega
    have hw := w64_succ (n := i) (by omega)
    have hlv := engramref9_leaves_ok (pr := pr) (bar := bar) l la hla hlen to htl ta bar tid i ht (by omega)
    rcases tok_cases hla with ⟨rfl, rfl⟩ | ⟨full, cs, rfl, hl, hx, _⟩
    · cases hi
    have hxi := hx i hi
    have hT1 := ht.set hit (leavesN l to i (l.length - i) i)
    have htl1 : (to.set i (leavesN l to i (l.length - i) i)).length = l.length := by rw [List.length_set]; exact htl
    obtain ⟨_, _, _, htg1⟩ := id hT1
    obtain ⟨hta, htb, htn, htg⟩ := ht
    rw [htl] at hta
    subst hta
    have hle1 : i + 1 ≤ (to.flatMap i64c).length := by rw [i64_len]; omega
    have hgo : rloop2 l (k + 1) i to = if sgn l i = 126 then (if leavesN l to i (l.length - i) i < 0 then none else rloop2 l k (i + 1) (to.set i (leavesN l to i (l.length - i) i))) else rloop2 l k (i + 1) to := rfl
    generalize htc : to.flatMap i64c = tc at *
    generalize hlvv : leavesN l to i (l.length - i) i = lv at *
    have hti := i64_get (to := to.set i lv) (i := i) (by rw [List.length_set]; exact hit)
    simp only [List.getElem_set_self] at hti
    generalize hg1 : g.set tid (.cells (splice tc i [.int .i64 lv]) 0) = g1 at *
    by_cases c1 : sgn l i = 126
    · rw [if_pos c1] at hgo
      by_cases c2 : lv < 0
      · rw [if_pos c2] at hgo
        simp [-getElem?_pos, go_sem, get_alloc, n_alloc, get_set, n_set, get_kill, n_kill, writeAt, a11, a21, a31, a41, a51, a61, a71, hbi, hi, indexIn, hl, hxi, c1, htg, htb, hle1, hlv, hg1, htg1, hti, c2]
        refine h1 _ _ ?_ ?_ ?_ hgo <;> rfl
      · rw [if_neg c2] at hgo
        simp [-getElem?_pos, go_sem, get_alloc, n_alloc, get_set, n_set, get_kill, n_kill, writeAt, a11, a21, a31, a41, a51, a61, a71, hbi, hi, indexIn, hl, hxi, c1, htg, htb, hle1, hlv, hg1, htg1, hti, c2, hw]
        exact ih (i + 1) g1 _ (by omega) hT1 htl1 (fun e g' q1 q2 q3 q4 => h1 e g' q1 q2 q3 (by rw [hgo, q4])) (fun e g' to' q1 q2 q3 => h2 e g' to' q1 q2 (by rw [hgo, q3]))
    · rw [if_neg c1] at hgo
      have c1' : (sgn l i == 126) = false := by simpa using c1
      simp [-getElem?_pos, go_sem, get_alloc, n_alloc, get_set, n_set, get_kill, n_kill, writeAt, a11, a21, a31, a41, a51, a61, a71, hbi, hi, indexIn, hl, hxi, c1', hw]
      have ht0 : TOV g bar (.sl tid 0 1 l.length true) tid to := ⟨by rw [htl], htb, htn, by rw [htc]; exact htg⟩
      exact ih (i + 1) g _ (by omega) ht0 htl (fun e g' q1 q2 q3 q4 => h1 e g' q1 q2 q3 (by rw [hgo, q4])) (fun e g' to' q1 q2 q3 => h2 e g' to' q1 q2 (by rw [hgo, q3]))
theorem still_i64 (l : List Int) : (l.flatMap i64c).all AV.still = true := by
  rw [List.all_eq_true]; intro x hx; rw [List.mem_flatMap] at hx; obtain ⟨r, _, hx⟩ := hx; simp [i64c] at hx; subst hx; rfl
theorem TOV.freeze {g : H} {a : AV} {id : Nat} {to : List Int} (v : TOV g bar a id to) (hn : to.length ≤ 9223372036854775807) (d : Nat) : ∃ a' h', freezeV bar (d + 2) g a = some (a', h') ∧ FzV 1 a' to.length (to.flatMap i64c) := by
  obtain ⟨rfl, h2, h3, h4⟩ := v
  have hf : (to.flatMap i64c).all AV.free = true := by have := still_i64 to; rw [List.all_eq_true] at this ⊢; exact fun x hx => still_free (this x hx)
  have ho : (to.flatMap i64c).all AV.one = true := by have := still_i64 to; rw [List.all_eq_true] at this ⊢; exact fun x hx => still_one (this x hx)
  refine ⟨.fz 1 to.length (to.flatMap i64c) true, g.set id (.cells (to.flatMap i64c) (max 0 (0 + to.length * 1))), ?_, by rw [i64_len, Nat.mul_one], hn, .inr ⟨true, rfl⟩⟩
  have hcs : ((to.flatMap i64c).drop 0).take (to.length * 1) = to.flatMap i64c := by rw [List.drop_zero, Nat.mul_one, ← i64_len to, List.take_length]
  simp only [freezeV, h4]
  rw [if_pos ⟨h2, by rw [i64_len]; omega⟩, hcs, freezeL_still (still_i64 to)]
  simp only
  rw [if_pos ⟨hf, ho⟩]
theorem rep_i64 : ∀ n, rep [.int .i64 0] n = (List.replicate n (0 : Int)).flatMap i64c
  | 0 => rfl
  | n + 1 => by rw [List.replicate_succ, List.flatMap_cons, ← rep_i64 n]; rfl
theorem engramref9_Nest_ok (l : List Tok) (la : AV) (hla : FzV 3 la l.length (l.flatMap Tok.cells)) (hlen : l.length ≤ 100000) : match nestR l with
    | some (to, deep) => ∃ a, call tb pr n_engramref9_Nest [la] bar h = some (.tup [a, .int .i64 (deep : Nat), .int .i64 0], h) ∧ FzV 1 a to.length (to.flatMap i64c) ∧ to.length = l.length
    | none => call tb pr n_engramref9_Nest [la] bar h = some (.tup [.nilsl, .int .i64 (-1), .int .i64 13], h) := by
  suffices hw : ∃ r, callF (call tb pr) f_engramref9_Nest [la] bar h = some (r, h) ∧ (match nestR l with
    | some (to, deep) => ∃ a, r = .tup [a, .int .i64 (deep : Nat), .int .i64 0] ∧ FzV 1 a to.length (to.flatMap i64c) ∧ to.length = l.length
    | none => r = .tup [.nilsl, .int .i64 (-1), .int .i64 13]) by
    obtain ⟨r, h1, h2⟩ := hw
    have h1 := call_of tb_engramref9_Nest h1
    revert h2
    cases nestR l with
    | none => intro h2; simp only at h2; subst h2; exact h1
    | some x => obtain ⟨to, deep⟩ := x; intro h2; simp only at h2; obtain ⟨a, rfl, h3, h4⟩ := h2; exact ⟨a, h1, h3, h4⟩
  refine callF_pureX rfl rfl (M_in ?_)
  have hln : ∀ g, lenR (some la) g = some (goI l.length, g) := (hla.vw h).len
  have hsz : (l.length : Int) * 8 ≤ 140737488355328 := by omega
  have hsz2 : (l.length : Int) ≤ 9223372036854775807 := by omega
  simp [f_engramref9_Nest, env0, go_sem, hln, hsz, hsz2]
  have hT0 : TOV (h.alloc (.cells (rep [.int .i64 0] l.length) 0)) h.n (.sl h.n 0 1 l.length true) h.n (List.replicate l.length (0 : Int)) := ⟨by rw [List.length_replicate], Nat.le_refl _, by simp [n_alloc], by rw [get_alloc, if_pos rfl, rep_i64]⟩
  refine ref_nest_loop l la hla hlen (.sl h.n 0 1 l.length true) h.n _ l.length 0 _ .nilsl ⟨List.replicate l.length 0, [], 0⟩ (by omega) hT0 (by simp) OS.nil (by simp [AV.isAt]) (by simp [n_alloc]) (by simp) (by simp) (fun e g' q1 q2 q3 q4 => ?_) (fun e g' oa' s' q1 q2 q3 q4 q5 q6 q7 q8 q9 => ?_)
  · have hn : nestR l = none := by unfold nestR; rw [q4]
    rw [hn]
    simp [go_sem, endX, resultsA, resultA, freezeL, AV.free.freeL, packA, q1, q2, q3, freezeV, AV.free]
  · by_cases hop : s'.op = []
    · have hn : nestR l = (rloop2 l l.length 0 s'.to).map (·, s'.deep) := by unfold nestR; rw [q5]; simp only; rw [if_pos hop]
      rw [hn]
      have h0 : s'.op.length = 0 := by rw [hop]; rfl
      simp [go_sem, q1, q2, q3, q4, q8.len, h0, hln]
      refine ref_nest_loop2 l la hla hlen _ h.n s'.deep _ l.length 0 g' s'.to (by omega) q6 q7 (fun e g' p1 p2 p3 p4 => ?_) (fun e g' to' p1 p2 p3 p4 p5 => ?_)
      · rw [p4]
        simp [go_sem, endX, resultsA, resultA, freezeL, AV.free.freeL, packA, p1, p2, p3, freezeV, AV.free]
      · rw [p3]
        obtain ⟨a2, h5, h6, h7⟩ := p4.freeze (by omega) 2
        simp [go_sem, endX, resultsA, resultA, freezeL, AV.free.freeL, packA, p1, p2, h6, freezeV, h7.free, AV.free]
        exact ⟨h7, p5⟩
    · have hn : nestR l = none := by unfold nestR; rw [q5]; simp only; rw [if_neg hop]
      rw [hn]
      have h0 : 0 < s'.op.length := List.length_pos_iff.mpr hop
      have h0' : (0 : Int) < (s'.op.length : Int) := by omega
      simp [go_sem, endX, resultsA, resultA, freezeL, AV.free.freeL, packA, q1, q2, q3, q4, q8.len, h0, h0', hop, freezeV, AV.free]
end
end Go.Ev
