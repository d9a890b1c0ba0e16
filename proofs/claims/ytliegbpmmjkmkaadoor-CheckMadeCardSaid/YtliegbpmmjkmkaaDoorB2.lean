/- What texts that are made of a tape come to; nothing is assumed. -/
import Derived.Test.YtliegbpmmjkmkaaDoorB1
set_option linter.unusedSimpArgs false
set_option linter.unusedVariables false
set_option linter.all false
namespace Go.Ev
open Go
theorem get_app (s t : ByteArray) (i : Nat) : (s ++ t).get! (s.size + i) = t.get! i := by
  have h : (s ++ t).data = s.data ++ t.data := by simp
  show (s ++ t).data[s.size + i]! = t.data[i]!
  rw [h]
  show (s.data ++ t.data)[s.data.size + i]! = t.data[i]!
  rw [getElem!_def, getElem!_def, Array.getElem?_append_right (by omega), Nat.add_sub_cancel_left]
theorem get_app_l (s t : ByteArray) (i : Nat) (hi : i < s.size) : (s ++ t).get! i = s.get! i := by
  have h : (s ++ t).data = s.data ++ t.data := by simp
  show (s ++ t).data[i]! = s.data[i]!
  rw [h, getElem!_def, getElem!_def, Array.getElem?_append_left hi]
theorem decode_app (s t : ByteArray) (i : Nat) : Utf8.decode (s ++ t) (s.size + i) = Utf8.decode t i := by
  have h : ∀ k, (s ++ t).get! (s.size + i + k) = t.get! (i + k) := fun k => by rw [Nat.add_assoc, get_app]
  have e : ∀ k, (s.size + i + k < (s ++ t).size) = (i + k < t.size) := fun k => by rw [ByteArray.size_append, eq_iff_iff]; omega
  simp only [Utf8.decode, h, e]
theorem runesF_fuel (s : ByteArray) : ∀ n m pos, s.size ≤ pos + n → s.size ≤ pos + m → runesF s n pos = runesF s m pos
  | 0, 0, pos, _, _ => rfl
  | 0, m + 1, pos, h, _ => by simp only [runesF]; rw [if_neg (by omega)]
  | n + 1, 0, pos, _, h => by simp only [runesF]; rw [if_neg (by omega)]
  | n + 1, m + 1, pos, h1, h2 => by
    simp only [runesF]
    have := decode_pos s pos
    rw [runesF_fuel s n m (pos + (Utf8.decode s pos).2) (by omega) (by omega)]
theorem runesFI_app (s t : ByteArray) : ∀ n pos, runesFI (s ++ t) n (s.size + pos) = runesFI t n pos
  | 0, pos => rfl
  | n + 1, pos => by
    have e : (s.size + pos < (s ++ t).size) = (pos < t.size) := by rw [ByteArray.size_append, eq_iff_iff]; omega
    have := runesFI_app s t n (pos + (Utf8.decode t pos).2)
    simp only [runesFI, runesF, e, decode_app] at this ⊢
    rw [Nat.add_assoc]
    split
    · simp only [List.map_cons, this]
    · rfl
/-- A text of whole runes: these, whatever follows. -/
def Wt (s : ByteArray) (rs : List Int) : Prop := ∀ t, runesI (s ++ t) = rs ++ runesI t
theorem runesI_nil : runesI ⟨#[]⟩ = [] := rfl
theorem ba_app_nil (s : ByteArray) : s ++ ⟨#[]⟩ = s := by
  apply ByteArray.ext; simp
theorem ba_nil_app (s : ByteArray) : ⟨#[]⟩ ++ s = s := by
  apply ByteArray.ext; simp
theorem ba_assoc (a b c : ByteArray) : a ++ b ++ c = a ++ (b ++ c) := by
  apply ByteArray.ext; simp
theorem Wt.runes {s : ByteArray} {rs : List Int} (h : Wt s rs) : runesI s = rs := by
  have := h ⟨#[]⟩
  rwa [ba_app_nil, runesI_nil, List.append_nil] at this
theorem Wt.nil : Wt ⟨#[]⟩ [] := fun t => by rw [ba_nil_app]; rfl
theorem Wt.app {s t : ByteArray} {a b : List Int} (h : Wt s a) (g : Wt t b) : Wt (s ++ t) (a ++ b) := fun u => by
  rw [ba_assoc, h, g, List.append_assoc]
theorem Wt.rune {s : ByteArray} {r : Nat} (h0 : 0 < s.size) (h : ∀ t, Utf8.decode (s ++ t) 0 = (r, s.size)) : Wt s [(r : Int)] := fun t => by
  have hs : (s ++ t).size = s.size + t.size := ByteArray.size_append
  have e := runesFI_app s t t.size 0
  have f : runesF (s ++ t) ((s ++ t).size - 1) s.size = runesF (s ++ t) t.size s.size := runesF_fuel _ _ _ _ (by omega) (by omega)
  show (runesF (s ++ t) (s ++ t).size 0).map _ = _
  have : (s ++ t).size = (s ++ t).size - 1 + 1 := by omega
  rw [this, runesF, if_pos (by omega), h]
  simp only [Nat.zero_add, List.map_cons, f]
  simp only [runesFI, Nat.add_zero] at e
  rw [e]; rfl
theorem Wt.one (c : UInt8) (hc : c.toNat < 128) : Wt ⟨#[c]⟩ [(c.toNat : Int)] := Wt.rune (show 0 < 1 by omega) fun t => by
  have h : (⟨#[c]⟩ ++ t : ByteArray).get! (0 + 0) = c := get_app_l ⟨#[c]⟩ t 0 (show 0 < 1 by omega)
  simp only [Utf8.decode, h]
  rw [if_pos hc]; rfl
theorem Wt.two (c d : UInt8) (h1 : c.toNat / 32 = 6) (h2 : d.toNat / 64 = 2) (h3 : 128 ≤ c.toNat % 32 * 64 + d.toNat % 64) : Wt ⟨#[c, d]⟩ [((c.toNat % 32 * 64 + d.toNat % 64 : Nat) : Int)] := Wt.rune (show 0 < 2 by omega) fun t => by
  have a0 : (⟨#[c, d]⟩ ++ t : ByteArray).get! (0 + 0) = c := get_app_l ⟨#[c, d]⟩ t 0 (by show 0 < 2; omega)
  have a1 : (⟨#[c, d]⟩ ++ t : ByteArray).get! (0 + 1) = d := get_app_l ⟨#[c, d]⟩ t 1 (by show 1 < 2; omega)
  have hs : 0 + 1 < (⟨#[c, d]⟩ ++ t : ByteArray).size := by rw [ByteArray.size_append]; show 0 + 1 < 2 + _; omega
  simp only [Utf8.decode, a0, a1]
  rw [if_neg (by omega), if_pos (by simp [h1, h2]; simpa using hs), if_pos h3]; rfl
/-- The runes of bytes that are signs of one byte or two. -/
def asc : List UInt8 → Option (List Int)
  | [] => some []
  | [c] => if c.toNat < 128 then some [(c.toNat : Int)] else none
  | c :: d :: r => if c.toNat < 128 then (asc (d :: r)).map ((c.toNat : Int) :: ·) else
    if c.toNat / 32 = 6 ∧ d.toNat / 64 = 2 ∧ 128 ≤ c.toNat % 32 * 64 + d.toNat % 64 then (asc r).map (((c.toNat % 32 * 64 + d.toNat % 64 : Nat) : Int) :: ·) else none
theorem asc_ok : ∀ (l : List UInt8) (rs : List Int), asc l = some rs → Wt ⟨⟨l⟩⟩ rs
  | [], rs, h => by simp [asc] at h; subst h; exact Wt.nil
  | [c], rs, h => by
    simp only [asc] at h
    split at h
    · rename_i hc; cases h; exact Wt.one c hc
    · cases h
  | c :: d :: r, rs, h => by
    simp only [asc] at h
    split at h
    · rename_i hc
      cases hr : asc (d :: r) with
      | none => rw [hr] at h; cases h
      | some x =>
        rw [hr] at h; cases h
        have := (Wt.one c hc).app (asc_ok (d :: r) x hr)
        have e : (⟨⟨c :: d :: r⟩⟩ : ByteArray) = ⟨#[c]⟩ ++ ⟨⟨d :: r⟩⟩ := by apply ByteArray.ext; simp
        rw [e]; exact this
    · split at h
      · rename_i hc
        cases hr : asc r with
        | none => rw [hr] at h; cases h
        | some x =>
          rw [hr] at h; cases h
          have := (Wt.two c d hc.1 hc.2.1 hc.2.2).app (asc_ok r x hr)
          have e : (⟨⟨c :: d :: r⟩⟩ : ByteArray) = ⟨#[c, d]⟩ ++ ⟨⟨r⟩⟩ := by apply ByteArray.ext; simp
          rw [e]; exact this
      · cases h
/-- Runes that do not begin with a digit. -/
def nd (q : List Int) : Prop := ∀ x r, q = x :: r → isD x = false
theorem nd_nil : nd [] := fun _ _ h => by cases h
theorem nd_cons {x : Int} {r : List Int} (h : isD x = false) : nd (x :: r) := fun _ _ e => by cases e; exact h
/-- Runes with these tokens, whatever follows, if that does not begin with a digit. -/
def Tx (rs : List Int) (l : List Tok) : Prop := nd rs ∧ ∀ q, nd q → tokF (rs ++ q) .plain = (tokF q .plain).map (l ++ ·)
theorem Tx.nil : Tx [] [] := ⟨nd_nil, fun q _ => by cases h : tokF q .plain <;> simp [h]⟩
theorem Tx.app {a b : List Int} {l m : List Tok} (h : Tx a l) (g : Tx b m) : Tx (a ++ b) (l ++ m) := by
  refine ⟨fun x r e => ?_, fun q hq => ?_⟩
  · cases a with
    | nil => exact g.1 x r e
    | cons y a' => cases e; exact h.1 _ a' rfl
  · have hb : nd (b ++ q) := fun x r e => by
      cases b with
      | nil => exact hq x r e
      | cons y b' => cases e; exact g.1 _ b' rfl
    rw [List.append_assoc, h.2 _ hb, g.2 q hq]
    cases tokF q .plain <;> simp
theorem Tx.sign {x : Int} (h1 : x ≠ 32) (h2 : isD x = false) (h3 : ¬ (x = 955 ∨ x = 960)) (h4 : knownR x = true) : Tx [x] [⟨x, 0, 0⟩] := by
  refine ⟨nd_cons h2, fun q _ => ?_⟩
  show tokF (x :: q) .plain = _
  simp only [tokF, h2, h4]
  rw [if_neg h1, if_neg (by simp), if_neg h3, if_pos trivial]; rfl
theorem Tx.named {s x : Int} (h1 : s = 955 ∨ s = 960) (h2 : nameR x = true) : Tx [s, x] [⟨s, 0, x⟩] := by
  have hd : isD s = false := by rcases h1 with rfl | rfl <;> rfl
  refine ⟨nd_cons hd, fun q _ => ?_⟩
  show tokF (s :: x :: q) .plain = _
  simp only [tokF, hd, h2]
  rw [if_neg (by omega), if_neg (by simp), if_pos h1, if_pos trivial]; rfl
def dnum (a : Int) (ds : List Int) : Int := ds.foldl (fun a d => a * 10 + (d - 48)) a
theorem pow_ge (n : Nat) : (1 : Int) ≤ 10 ^ n := by
  have : (0 : Int) < 10 ^ n := Int.pow_pos (by omega)
  omega
theorem pow_mono {a b : Nat} (h : a ≤ b) : (10 : Int) ^ a ≤ 10 ^ b := by
  obtain ⟨c, rfl⟩ := Nat.le.dest h
  rw [Int.pow_add]
  have := Int.mul_le_mul_of_nonneg_left (pow_ge c) (show (0 : Int) ≤ 10 ^ a from by have := pow_ge a; omega)
  omega
theorem tok_digits {q : List Int} (hq : nd q) : ∀ (ds : List Int) (a : Int), (∀ d ∈ ds, isD d = true) → 0 ≤ a → (a + 1) * 10 ^ ds.length ≤ 1000000000000 → tokF (ds ++ q) (.num a) = (tokF q .plain).map (⟨48, dnum a ds, 0⟩ :: ·)
  | [], a, _, _, _ => tokF_num_end hq
  | d :: ds, a, hd, ha, hb => by
    have h1 := hd d (List.mem_cons_self ..)
    have h2 : 48 ≤ d ∧ d ≤ 57 := by simpa [isD] using h1
    have hp : (1 : Int) ≤ 10 ^ ds.length := pow_ge _
    rw [List.length_cons, Int.pow_succ, ← Int.mul_assoc] at hb
    have hc : (a * 10 + (d - 48) + 1) * 10 ^ ds.length ≤ 1000000000000 := by
      have : (a * 10 + (d - 48) + 1) * 10 ^ ds.length ≤ ((a + 1) * 10) * 10 ^ ds.length := Int.mul_le_mul_of_nonneg_right (by omega) (by omega)
      have e : (a + 1) * 10 ^ ds.length * 10 = (a + 1) * 10 * 10 ^ ds.length := by rw [Int.mul_assoc, Int.mul_comm (10 ^ ds.length) 10, Int.mul_assoc]
      omega
    have hx : a * 10 + (d - 48) ≤ 9223372036854775807 := by
      have : (a * 10 + (d - 48) + 1) * 1 ≤ (a * 10 + (d - 48) + 1) * 10 ^ ds.length := Int.mul_le_mul_of_nonneg_left hp (by omega)
      omega
    have hv := tok_digits hq ds (a * 10 + (d - 48)) (fun x hx => hd x (List.mem_cons_of_mem _ hx)) (by omega) hc
    show tokF (d :: (ds ++ q)) (.num a) = _
    simp only [tokF, h1, if_true]
    rw [if_neg (by omega), hv]; rfl
theorem Tx.num {ds : List Int} (hd : ∀ d ∈ ds, isD d = true) (hne : ds ≠ []) (hl : ds.length ≤ 8) : Tx (32 :: ds) [⟨48, dnum 0 ds, 0⟩] := by
  cases ds with
  | nil => exact absurd rfl hne
  | cons d ds =>
    have h1 := hd d (List.mem_cons_self ..)
    have h2 : 48 ≤ d ∧ d ≤ 57 := by simpa [isD] using h1
    have hn : d ≠ 32 := by omega
    have hb : (d - 48 + 1) * 10 ^ ds.length ≤ 1000000000000 := by
      have h8 : ds.length ≤ 7 := by simpa using hl
      have hp : (10 : Int) ^ ds.length ≤ 10 ^ 7 := pow_mono h8
      have : (d - 48 + 1) * 10 ^ ds.length ≤ 10 * 10 ^ ds.length := Int.mul_le_mul_of_nonneg_right (by omega) (Int.le_of_lt (Int.pow_pos (by omega)))
      omega
    refine ⟨nd_cons rfl, fun q hq => ?_⟩
    have hv := tok_digits hq ds (d - 48) (fun x hx => hd x (List.mem_cons_of_mem _ hx)) (by omega) hb
    show tokF (32 :: d :: (ds ++ q)) .plain = _
    have e0 : dnum 0 (d :: ds) = dnum (d - 48) ds := by simp [dnum]
    simp only [tokF, h1, if_true, hv, e0]
    rw [if_neg hn]; rfl
theorem Tx.tok {rs : List Int} {l : List Tok} (h : Tx rs l) : tokF rs .plain = some l := by
  have := h.2 [] nd_nil
  simpa [tokF] using this
end Go.Ev
namespace Go.Ev
open Go
def jrun (fs : List Fn) : List Tok → Js → Option Js
  | [], s => some s
  | t :: r, s => if (jtok fs t s).1 = 0 then jrun fs r (jtok fs t s).2 else none
theorem jrun_app (fs : List Fn) : ∀ (a b : List Tok) (s : Js), jrun fs (a ++ b) s = (jrun fs a s).bind (jrun fs b)
  | [], b, s => rfl
  | t :: r, b, s => by
    simp only [List.cons_append, jrun]
    split
    · exact jrun_app fs r b _
    · rfl
/-- Bases and ends of what is open are heights. -/
def JB (s : Js) : Prop := -1 ≤ s.h ∧ ∀ p ∈ s.ps, 0 ≤ p.base
theorem jbase_nn {ps : List Jp} (h : ∀ p ∈ ps, 0 ≤ p.base) : 0 ≤ jbase ps := by
  unfold jbase
  split
  · rename_i p hp; exact h p (List.mem_of_getLast? hp)
  · omega
theorem set_base {ps : List Jp} {k : Nat} {q : Jp} (h : ∀ p ∈ ps, 0 ≤ p.base) (hq : 0 ≤ q.base) : ∀ p ∈ ps.set k q, 0 ≤ p.base := fun p hp => by
  rcases List.mem_or_eq_of_mem_set hp with h1 | rfl
  · exact h p h1
  · exact hq
theorem drop_base {ps : List Jp} (h : ∀ p ∈ ps, 0 ≤ p.base) : ∀ p ∈ ps.dropLast, 0 ≤ p.base := fun p hp => h p (mem_drop hp)
theorem jturn_JB {sg : Int} {s : Js} (h : JB s) (h63 : sg = 63 ∨ sg = 91 → 0 ≤ s.h) : JB (jturn sg s).2 := by
  obtain ⟨h1, h2⟩ := h
  unfold jturn
  split
  · rename_i c
    refine ⟨h1, fun p hp => ?_⟩
    rcases List.mem_append.mp hp with a | a
    · exact h2 p a
    · simp at a; subst a; exact h63 c
  split
  · split
    · exact ⟨h1, h2⟩
    · rename_i p hp
      have := h2 p (List.mem_of_getLast? hp)
      exact ⟨by show -1 ≤ p.base; omega, set_base h2 this⟩
  split
  · split
    · exact ⟨h1, h2⟩
    · rename_i p hp
      have := h2 p (List.mem_of_getLast? hp)
      split
      · split
        · exact ⟨h1, h2⟩
        · exact ⟨by show -1 ≤ max s.h p.fin; omega, drop_base h2⟩
      · split
        · exact ⟨h1, h2⟩
        · exact ⟨by show -1 ≤ p.base; omega, drop_base h2⟩
  split
  · split
    · exact ⟨h1, h2⟩
    · rename_i p hp
      have := h2 p (List.mem_of_getLast? hp)
      split
      · exact ⟨h1, h2⟩
      · exact ⟨by show -1 ≤ ite _ _ _; split <;> omega, drop_base h2⟩
  split
  · split
    · exact ⟨h1, h2⟩
    · split
      · exact ⟨h1, h2⟩
      · rename_i k _ p hp
        split
        · exact ⟨h1, h2⟩
        · exact ⟨by show -1 ≤ -1; omega, set_base h2 (h2 p (List.mem_of_getElem? hp))⟩
  split
  · exact ⟨by show -1 ≤ -1; omega, h2⟩
  · exact ⟨h1, h2⟩
/-- A token that is judged well: how high it was, and what it turns. -/
theorem jtok_cases {fs : List Fn} {t : Tok} {s : Js} (h : (jtok fs t s).1 = 0) : (s.h = -1 ∧ isEnd t.sign = true ∧ jtok fs t s = jturn t.sign s) ∨
    (s.h ≠ -1 ∧ (takesN fs t.sign t.name).1 ≤ s.h - jbase s.ps ∧ s.h - (takesN fs t.sign t.name).1 + (takesN fs t.sign t.name).2.1 ≤ 64 ∧ (takesN fs t.sign t.name).2.2 = true ∧ jtok fs t s = jturn t.sign ⟨s.h + ((takesN fs t.sign t.name).2.1 - (takesN fs t.sign t.name).1), s.ps⟩) := by
  unfold jtok at h ⊢
  split at h
  · simp at h
  rename_i c1
  split at h
  · simp at h
  rename_i c2
  rw [if_neg c1, if_neg c2]
  split at h
  · rename_i c3
    rw [if_pos c3]
    refine .inl ⟨c3, ?_, rfl⟩
    cases he : isEnd t.sign with
    | true => rfl
    | false => exact absurd ⟨c3, he⟩ c1
  · rename_i c3
    rw [if_neg c3]
    split at h
    · simp at h
    · rename_i c4
      rw [if_neg c4]
      refine .inr ⟨c3, by omega, by omega, by simpa using c2, rfl⟩
theorem jtok_JB {fs : List Fn} {t : Tok} {s : Js} (hb : JB s) (h : (jtok fs t s).1 = 0) : JB (jtok fs t s).2 := by
  have r := takes_rng fs t.sign t.name
  have b := jbase_nn hb.2
  rcases jtok_cases h with ⟨a, e, h1⟩ | ⟨a, c1, c2, _, h1⟩
  · rw [h1]
    refine jturn_JB hb fun e2 => ?_
    rcases e2 with e2 | e2 <;> rw [e2] at e <;> simp [isEnd] at e
  · rw [h1]
    exact jturn_JB ⟨by show -1 ≤ s.h + _; omega, hb.2⟩ fun _ => by show 0 ≤ s.h + _; omega
theorem jrun_JB {fs : List Fn} : ∀ {l : List Tok} {s s' : Js}, JB s → jrun fs l s = some s' → JB s'
  | [], s, s', hb, h => by cases h; exact hb
  | t :: r, s, s', hb, h => by
    simp only [jrun] at h
    split at h
    · rename_i c; exact jrun_JB (jtok_JB hb c) h
    · cases h
/-- After these tokens, if they are judged well, it goes on. -/
def Alive (l : List Tok) : Prop := ∀ fs s s', JB s → jrun fs l s = some s' → 0 ≤ s'.h
def plainS (sg : Int) : Bool := decide (sg ≠ 58 ∧ sg ≠ 59 ∧ sg ≠ 93 ∧ sg ≠ 126 ∧ sg ≠ 161)
theorem Alive.plain (l : List Tok) {t : Tok} (ht : plainS t.sign = true) : Alive (l ++ [t]) := fun fs s s' hb h => by
  rw [jrun_app] at h
  cases h1 : jrun fs l s with
  | none => rw [h1] at h; cases h
  | some s1 =>
    rw [h1] at h
    simp only [Option.bind_some, jrun] at h
    have hb1 := jrun_JB hb h1
    split at h
    · rename_i c
      cases h
      have hp : t.sign ≠ 58 ∧ t.sign ≠ 59 ∧ t.sign ≠ 93 ∧ t.sign ≠ 126 ∧ t.sign ≠ 161 := by simpa [plainS] using ht
      have r := takes_rng fs t.sign t.name
      have b := jbase_nn hb1.2
      rcases jtok_cases c with ⟨_, e, _⟩ | ⟨a, c1, c2, _, h2⟩
      · simp [isEnd] at e; omega
      · rw [h2]
        unfold jturn
        split
        · show 0 ≤ s1.h + _; omega
        · rw [if_neg (by omega), if_neg (by omega), if_neg (by omega), if_neg (by omega), if_neg (by omega)]
          show 0 ≤ s1.h + _; omega
    · cases h
theorem Alive.endIf (l : List Tok) {c : List Tok} (hc : Alive c) {t : Tok} (ht : t.sign = 59) : Alive (l ++ c ++ [t]) := fun fs s s' hb h => by
  rw [jrun_app, jrun_app] at h
  cases h1 : jrun fs l s with
  | none => rw [h1] at h; cases h
  | some s1 =>
    rw [h1] at h
    have hb1 := jrun_JB hb h1
    cases h2 : jrun fs c s1 with
    | none => simp [h2] at h
    | some s2 =>
      have h0 := hc fs s1 s2 hb1 h2
      have hb2 := jrun_JB hb1 h2
      simp only [Option.bind_some, h2, jrun] at h
      split at h
      · rename_i c
        cases h
        have hz : takesN fs t.sign t.name = (0, 0, true) := by rw [ht]; exact T8 (by decide)
        rcases jtok_cases c with ⟨e, _, _⟩ | ⟨a, c1, c2, _, h3⟩
        · omega
        · rw [h3, hz, ht]
          simp only [Int.sub_self, Int.add_zero]
          unfold jturn
          rw [if_neg (by omega), if_neg (by omega), if_pos rfl]
          split
          · exact h0
          · rename_i p hp
            have := hb2.2 p (List.mem_of_getLast? hp)
            split
            · split
              · exact h0
              · show 0 ≤ max s2.h p.fin; omega
            · split
              · exact h0
              · exact this
      · cases h
theorem jloop_run (fs : List Fn) : ∀ (l : List Tok) (s : Js) (o : List Int), (jloop fs l s o).1 = 0 ↔ ∃ s', jrun fs l s = some s' ∧ (jloop fs l s o).2.1 = s'
  | [], s, o => by simp [jloop, jrun]
  | t :: r, s, o => by
    simp only [jloop, jrun]
    split
    · exact jloop_run fs r _ _
    · rename_i c; simp [c]
end Go.Ev
namespace Go.Ev
open Go
/-- All objects but T are as they were; there may be more. -/
def Up (T : Nat) (h h' : H) : Prop := h.n ≤ h'.n ∧ ∀ j, j < h.n → j ≠ T → h'.get j = h.get j
theorem Up.refl (T : Nat) (h : H) : Up T h h := ⟨Nat.le_refl _, fun _ _ _ => rfl⟩
theorem Up.trans {T : Nat} {h g f : H} (a : Up T h g) (b : Up T g f) : Up T h f := ⟨Nat.le_trans a.1 b.1, fun j h1 h2 => (b.2 j (Nat.lt_of_lt_of_le h1 a.1) h2).trans (a.2 j h1 h2)⟩
theorem Up.alloc {T : Nat} (h : H) (o : HObj) : Up T h (h.alloc o) := ⟨by simp [n_alloc], fun j hj _ => by rw [get_alloc, if_neg (by omega)]⟩
theorem Up.setT {T : Nat} (h : H) (o : HObj) : Up T h (h.set T o) := ⟨Nat.le_refl _, fun j _ hn => by rw [get_set, if_neg hn]⟩
theorem Vw.up {k T : Nat} {h h' : H} {a : AV} {n : Nat} {cs : List AV} (v : Vw k h a n cs) (u : Up T h h') (ha : ¬ a.isAt T) : Vw k h' a n cs := by
  obtain ⟨h1, h2, h3⟩ := v
  refine ⟨h1, h2, ?_⟩
  rcases h3 with h3 | h3 | ⟨id, off, full, all, p, e1, e2, e3, e4, e5⟩
  · exact .inl h3
  · exact .inr (.inl h3)
  · subst e1
    refine .inr (.inr ⟨id, off, full, all, p, rfl, Nat.lt_of_lt_of_le e2 u.1, ?_, e4, e5⟩)
    rw [u.2 id e2 (fun e => ha e)]; exact e3
/-- A tape that lies in T. -/
def TS (h : H) (T : Nat) (L : List Int) : Prop := ∃ la, ∃ at' : Nat, h.get T = some (.cells [la, .int .i64 (at' : Nat)] 0) ∧ T < h.n ∧ (∀ j, la.isAt j → j < T) ∧ Vw 1 h la L.length (L.flatMap i64c) ∧ at' ≤ L.length
theorem TS.up {h h' : H} {T : Nat} {L : List Int} (v : TS h T L) (u : Up T h h') (hT : h'.get T = h.get T) : TS h' T L := by
  obtain ⟨la, a, h1, h2, h3, h4, h5⟩ := v
  exact ⟨la, a, hT.trans h1, Nat.lt_of_lt_of_le h2 u.1, h3, h4.up u (fun q => Nat.lt_irrefl _ (h3 T q)), h5⟩
theorem TS.keep {h h' : H} {T : Nat} {L : List Int} (v : TS h T L) (hn : h.n ≤ h'.n) (hj : ∀ j, j ≤ T → h'.get j = h.get j) : TS h' T L := by
  obtain ⟨la, a, h1, h2, h3, ⟨k1, k2, k3⟩, h5⟩ := v
  refine ⟨la, a, (hj T (Nat.le_refl _)).trans h1, by omega, h3, ⟨k1, k2, ?_⟩, h5⟩
  rcases k3 with k3 | k3 | ⟨id, off, full, all, p, e1, e2, e3, e4, e5⟩
  · exact .inl k3
  · exact .inr (.inl k3)
  · subst e1
    refine .inr (.inr ⟨id, off, full, all, p, rfl, by omega, ?_, e4, e5⟩)
    rw [hj id (Nat.le_of_lt (h3 id rfl))]; exact e3
section
variable {bar : Nat} {h : H}
def withN (n hi : Int) : Int := if 0 ≤ n ∧ n ≤ hi then n else if n.tmod (hi + 1) < 0 then n.tmod (hi + 1) + hi + 1 else n.tmod (hi + 1)
theorem withN_rng (n hi : Int) (h0 : 0 ≤ hi) : 0 ≤ withN n hi ∧ withN n hi ≤ hi := by
  have a := Int.tmod_lt_of_pos n (show 0 < hi + 1 by omega)
  have b : -(hi + 1) < n.tmod (hi + 1) := by
    have := Int.tmod_lt_of_pos (-n) (show 0 < hi + 1 by omega)
    rw [Int.neg_tmod] at this; omega
  unfold withN
  split
  · omega
  · split <;> omega
theorem Within_ok (n hi : Int) (h0 : 0 ≤ hi) (h1 : hi ≤ 1099511627776) : call tb prim n_engrambook_Within [.int .i64 n, .int .i64 0, .int .i64 hi] bar h = some (.int .i64 (withN n hi), h) := by
  refine call_of tb_engrambook_Within (callF_pureW rfl rfl (M_in ?_))
  have a := Int.tmod_lt_of_pos n (show 0 < hi + 1 by omega)
  have b : -(hi + 1) < n.tmod (hi + 1) := by
    have := Int.tmod_lt_of_pos (-n) (show 0 < hi + 1 by omega)
    rw [Int.neg_tmod] at this; omega
  have w1 : IntKind.i64.wrap (hi + 1) = hi + 1 := w64 (by omega) (by omega)
  have w0 : IntKind.i64.wrap hi = hi := w64 (by omega) (by omega)
  have w2 : IntKind.i64.wrap (n.tmod (hi + 1)) = n.tmod (hi + 1) := w64 (by omega) (by omega)
  have w3 : IntKind.i64.wrap (n.tmod (hi + 1) + hi) = n.tmod (hi + 1) + hi := w64 (by omega) (by omega)
  have w4 : IntKind.i64.wrap (n.tmod (hi + 1) + hi + 1) = n.tmod (hi + 1) + hi + 1 := w64 (by omega) (by omega)
  have hz : hi + 1 ≠ 0 := by omega
  by_cases c1 : 0 ≤ n
  · by_cases c2 : n ≤ hi
    · simp [f_engrambook_Within, env0, go_sem, endP, endI, resultsA, resultA, freezeL, freezeV, AV.free.freeL, AV.free, packA, dropS, c1, c2, withN]
    · by_cases c3 : n.tmod (hi + 1) < 0
      · simp [f_engrambook_Within, env0, go_sem, endP, endI, resultsA, resultA, freezeL, freezeV, AV.free.freeL, AV.free, packA, dropS, c1, c2, c3, withN, w0, w1, w2, w3, w4, hz]
      · simp [f_engrambook_Within, env0, go_sem, endP, endI, resultsA, resultA, freezeL, freezeV, AV.free.freeL, AV.free, packA, dropS, c1, c2, c3, withN, w0, w1, w2, w3, w4, hz]
  · by_cases c3 : n.tmod (hi + 1) < 0
    · simp [f_engrambook_Within, env0, go_sem, endP, endI, resultsA, resultA, freezeL, freezeV, AV.free.freeL, AV.free, packA, dropS, c1, c3, withN, w0, w1, w2, w3, w4, hz]
    · simp [f_engrambook_Within, env0, go_sem, endP, endI, resultsA, resultA, freezeL, freezeV, AV.free.freeL, AV.free, packA, dropS, c1, c3, withN, w0, w1, w2, w3, w4, hz]
theorem Vw.len1 {k : Nat} {h : H} {a : AV} {n : Nat} {cs : List AV} (v : Vw k h a n cs) (g : H) : lenR (some a) g = some (goI n, g) := v.len g
theorem Next_ok {T : Nat} {L : List Int} (hv : TS h T L) (n : Int) (h1 : 1 ≤ n) (h2 : n ≤ 1000000) (hb : bar ≤ T) : ∃ v h', call tb prim n_engramkeep_Tape_Next [.ptr T 0, .int .i64 n] bar h = some (.int .i64 v, h') ∧ 0 ≤ v ∧ v < n ∧ h'.n = h.n ∧ Up T h h' ∧ TS h' T L := by
  obtain ⟨la, a, e1, e2, e3, e4, e5⟩ := hv
  have hn : ¬ n < 1 := by omega
  have e3' : ¬ la.isAt T := fun q => Nat.lt_irrefl _ (e3 T q)
  obtain ⟨r, h', hc, v, rfl, k⟩ := callF_K (o := call tb prim) (F := f_engramkeep_Tape_Next) (bar := bar) (h := h) (args := [.ptr T 0, .int .i64 n]) (P := fun r h' => ∃ v, r = .int .i64 v ∧ 0 ≤ v ∧ v < n ∧ h'.n = h.n ∧ Up T h h' ∧ TS h' T L) rfl rfl (fun K hK => by
    by_cases c : a < L.length
    · have c' : ¬ (L.length : Int) ≤ (a : Int) := by omega
      have hl : (L.length : Int) ≤ 9223372036854775807 := by have := e4.2.1; omega
      have w1 : IntKind.i64.wrap ((a : Int) + 1) = (a : Int) + 1 := w64 (by omega) (by omega)
      have w2 : IntKind.i64.wrap (a : Int) = (a : Int) := w64 (by omega) (by omega)
      have hz : n ≠ 0 := by omega
      have hu : Up T h (h.set T (.cells [la, .int .i64 ((a : Int) + 1)] 0)) := Up.setT _ _
      simp [f_engramkeep_Tape_Next, env0, go_sem, get_alloc, n_alloc, get_set, n_set, get_kill, n_kill, writeAt, a11, a21, a31, a41, a51, a61, a71, isNil, e1, e4.len, c, c', hn, w1, w2, hb, sp21]
      refine S_num (e4.up hu e3') (Ag.refl _ _) c (fun v1 => ?_)
      simp [go_sem, Within_ok, hz]
      have r := withN_rng L[a] 1073741824 (by omega)
      have q := Int.tmod_lt_of_pos (withN L[a] 1073741824) (show 0 < n by omega)
      have q0 := Int.tmod_nonneg n r.1
      simp [go_sem, endP, endI, resultsA, resultA, freezeL, freezeV, AV.free.freeL, AV.free, packA, dropS]
      exact ⟨_, _, ⟨rfl, rfl⟩, hK _ _ ⟨_, rfl, q0, q, rfl, hu, la, a + 1, by rw [get_set, if_pos rfl]; rfl, e2, e3, e4.up hu e3', by omega⟩⟩
    · have c' : (L.length : Int) ≤ (a : Int) := by omega
      simp [f_engramkeep_Tape_Next, env0, go_sem, isNil, e1, e4.len, c', endP, endI, resultsA, resultA, freezeL, freezeV, AV.free.freeL, AV.free, packA, dropS]
      exact ⟨_, _, ⟨rfl, rfl⟩, hK _ _ ⟨0, rfl, by omega, by omega, rfl, Up.refl _ _, la, a, e1, e2, e3, e4, e5⟩⟩)
  exact ⟨v, h', call_of tb_engramkeep_Tape_Next hc, k⟩
end
end Go.Ev
namespace Go.Ev
open Go
theorem enc_asc {x : Int} (h0 : 0 ≤ x) (h1 : x < 128) : Utf8.encode x = ⟨#[UInt8.ofNat x.toNat]⟩ := by
  have hv : Utf8.valid x = true := by simp [Utf8.valid]; omega
  simp only [Utf8.encode, hv, if_true]
  rw [if_pos (by omega)]
theorem Wt_asc {x : Int} (h0 : 0 ≤ x) (h1 : x < 128) : Wt (Utf8.encode x) [x] ∧ (Utf8.encode x).size = 1 := by
  rw [enc_asc h0 h1]
  have e : (UInt8.ofNat x.toNat).toNat = x.toNat := by rw [UInt8.toNat_ofNat']; omega
  have := Wt.one (UInt8.ofNat x.toNat) (by omega)
  rw [e, Int.toNat_of_nonneg h0] at this
  exact ⟨this, rfl⟩
section
variable {bar : Nat} {h : H}
theorem digits_ok : ∀ (k : Nat) (n : Int), 0 ≤ n → n < 10 ^ (k + 1) → k ≤ 6 → ∀ (bar : Nat) (h : H), ∃ s ds, call tb prim n_engramkeep_digits [.int .i64 n] bar h = some (.str s, h) ∧ Wt s ds ∧ (∀ d ∈ ds, isD d = true) ∧ ds ≠ [] ∧ ds.length ≤ k + 1 ∧ s.size = ds.length := by
  have one : ∀ n : Int, 0 ≤ n → n < 10 → ∀ (bar : Nat) (h : H), call tb prim n_engramkeep_digits [.int .i64 n] bar h = some (.str (Utf8.encode (48 + n)), h) := fun n h0 h1 bar h => by
    refine call_of tb_engramkeep_digits (callF_pureW rfl rfl (M_in ?_))
    have c : ¬ 10 ≤ n := by omega
    have w1 : IntKind.i64.wrap (48 + n) = 48 + n := w64 (by omega) (by omega)
    have w2 : IntKind.i32.wrap (48 + n) = 48 + n := w32 (by omega) (by omega)
    simp [f_engramkeep_digits, env0, go_sem, endP, endI, resultsA, resultA, freezeL, freezeV, AV.free.freeL, AV.free, packA, dropS, c, w1, w2]
  intro k
  induction k with
  | zero =>
    intro n h0 h1 _ bar h
    have h1 : n < 10 := by simpa using h1
    have w := Wt_asc (x := 48 + n) (by omega) (by omega)
    exact ⟨_, _, one n h0 h1 bar h, w.1, by simp [isD]; omega, by simp, by simp, by rw [w.2]; rfl⟩
  | succ k ih =>
    intro n h0 h1 hk bar h
    by_cases c : 10 ≤ n
    · have h2 : n.tdiv 10 < 10 ^ (k + 1) := by
        rw [Int.tdiv_eq_ediv_of_nonneg h0]
        rw [Int.pow_succ] at h1
        exact Int.ediv_lt_of_lt_mul (by omega) h1
      have h3 : 0 ≤ n.tdiv 10 := Int.tdiv_nonneg h0 (by omega)
      have h4 : n.tmod 10 < 10 := Int.tmod_lt_of_pos n (by omega)
      have h5 : 0 ≤ n.tmod 10 := Int.tmod_nonneg 10 h0
      have hbig : n < 100000000 := by
        have : (10 : Int) ^ (k + 1 + 1) ≤ 10 ^ 8 := pow_mono (by omega)
        omega
      obtain ⟨s, ds, hc, hw, hd, hne, hl, hsz⟩ := ih (n.tdiv 10) h3 h2 (by omega) h.n h
      have hx : n.tdiv 10 ≤ n := Int.tdiv_le_self 10 h0
      have w := Wt_asc (x := 48 + n.tmod 10) (by omega) (by omega)
      have w0 : IntKind.i64.wrap (n.tdiv 10) = n.tdiv 10 := w64 (by omega) (by omega)
      have w1 : IntKind.i64.wrap (48 + n.tmod 10) = 48 + n.tmod 10 := w64 (by omega) (by omega)
      have w2 : IntKind.i32.wrap (48 + n.tmod 10) = 48 + n.tmod 10 := w32 (by omega) (by omega)
      refine ⟨s ++ Utf8.encode (48 + n.tmod 10), ds ++ [48 + n.tmod 10], ?_, hw.app w.1, fun d hd' => ?_, by simp, by simp; omega, by rw [ByteArray.size_append, w.2, hsz]; simp⟩
      · refine call_of tb_engramkeep_digits (callF_pureW rfl rfl (M_in ?_))
        have hs : s.size + (Utf8.encode (48 + n.tmod 10)).size ≤ 9223372036854775807 := by rw [w.2]; omega
        simp [f_engramkeep_digits, env0, go_sem, endP, endI, resultsA, resultA, freezeL, freezeV, AV.free.freeL, AV.free, packA, dropS, c, w0, w1, w2, hc, strBin, hs]
      · rcases List.mem_append.mp hd' with a | a
        · exact hd d a
        · simp at a; subst a; simp [isD]; omega
    · have h1 : n < 10 := by omega
      have w := Wt_asc (x := 48 + n) (by omega) (by omega)
      exact ⟨_, _, one n h0 h1 bar h, w.1, by simp [isD]; omega, by simp, by simp, by rw [w.2]; rfl⟩
theorem halts_ok (s : ByteArray) (hs : s.size ≤ 1000000) : ∃ b, call tb prim n_engramkeep_halts [.str s] bar h = some (.bool b, h) := by
  obtain ⟨r, hc, b, rfl⟩ := callF_pureK (o := call tb prim) (F := f_engramkeep_halts) (bar := bar) (h := h) (args := [.str s]) (P := fun r => ∃ b, r = .bool b) rfl rfl (fun K hK => by
    by_cases c : 2 < s.size
    · have c' : (2 : Int) < (s.size : Int) := by omega
      have w : IntKind.i64.wrap ((s.size : Int) - 2) = ((s.size - 2 : Nat) : Int) := by rw [w64 (by omega) (by omega)]; omega
      have e1 : s.size - 2 ≤ s.size := by omega
      have e2 : (0 : Int) ≤ ((s.size - 2 : Nat) : Int) := by omega
      simp [f_engramkeep_halts, env0, go_sem, endX, resultsA, resultA, freezeL, AV.free.freeL, packA, c, c', w, sliceS, optEv, optBound, bound, e1, e2, strBin, freezeV, AV.free]
      exact hK _ ⟨_, rfl⟩
    · have c' : ¬ (2 : Int) < (s.size : Int) := by omega
      simp [f_engramkeep_halts, env0, go_sem, endX, resultsA, resultA, freezeL, AV.free.freeL, packA, c, c', freezeV, AV.free]
      exact hK _ ⟨_, rfl⟩)
  exact ⟨b, call_of tb_engramkeep_halts hc⟩
theorem live_ok (s : ByteArray) (hs : s.size ≤ 1000000) : ∃ s', call tb prim n_engramkeep_live [.str s] bar h = some (.str s', h) ∧ (s' = s ∨ s' = ⟨#[]⟩) := by
  obtain ⟨b, hb⟩ := halts_ok (bar := h.n) (h := h) s hs
  cases b with
  | true =>
    refine ⟨⟨#[]⟩, call_of tb_engramkeep_live (callF_pureW rfl rfl (M_in ?_)), .inr rfl⟩
    simp [f_engramkeep_live, env0, go_sem, endP, endI, resultsA, resultA, freezeL, freezeV, AV.free.freeL, AV.free, packA, dropS, hb]
  | false =>
    refine ⟨s, call_of tb_engramkeep_live (callF_pureW rfl rfl (M_in ?_)), .inl rfl⟩
    simp [f_engramkeep_live, env0, go_sem, endP, endI, resultsA, resultA, freezeL, freezeV, AV.free.freeL, AV.free, packA, dropS, hb]
theorem at_ok (n k : Int) (hk : k ≤ 1000000) : ∃ v, call tb prim n_engramkeep_at [.int .i64 n, .int .i64 k] bar h = some (.int .i64 v, h) ∧ 0 ≤ v ∧ v < max k 1 := by
  have r := withN_rng n 1048576 (by omega)
  refine ⟨(withN n 1048576).tmod (max k 1), call_of tb_engramkeep_at (callF_pureW rfl rfl (M_in ?_)), Int.tmod_nonneg _ r.1, Int.tmod_lt_of_pos _ (by omega)⟩
  by_cases c : k < 1
  · have e : max k 1 = 1 := by omega
    simp [f_engramkeep_at, env0, go_sem, endP, endI, resultsA, resultA, freezeL, freezeV, AV.free.freeL, AV.free, packA, dropS, Within_ok, c, e]
  · have e : max k 1 = k := by omega
    have hz : k ≠ 0 := by omega
    simp [f_engramkeep_at, env0, go_sem, endP, endI, resultsA, resultA, freezeL, freezeV, AV.free.freeL, AV.free, packA, dropS, Within_ok, c, e, hz]
theorem Names_ok : call tb prim n_engramkeep_Names [] bar h = some (.fz 1 5 [.int .i32 102, .int .i32 103, .int .i32 945, .int .i32 104, .int .i32 19990] true, h) := by
  refine call_of tb_engramkeep_Names (callF_pureW rfl rfl (M_in ?_))
  simp [f_engramkeep_Names, env0, go_sem, get_alloc, n_alloc, get_set, n_set, get_kill, n_kill, writeAt, a11, a21, a31, a41, a51, a61, a71, endP, endI, resultsA, resultA, freezeL, freezeV, AV.free.freeL, AV.free, packA, dropS, evParts, fillA, splice]
end
end Go.Ev
namespace Go.Ev
open Go
theorem sz_lit (l : List UInt8) : (ByteArray.mk l.toArray).size = l.length := rfl
theorem sb_add {x y : ByteArray} (h : x.size + y.size ≤ 9223372036854775807) : strBin .add x y = some (.str (x ++ y)) := by
  simp only [strBin]; rw [if_pos h]
/-- A text with these tokens, that is no longer than n. -/
def Code (s : ByteArray) (l : List Tok) (n : Nat) : Prop := ∃ rs, Wt s rs ∧ Tx rs l ∧ s.size ≤ n
theorem Code.app {a b : ByteArray} {l m : List Tok} {n k : Nat} (h : Code a l n) (g : Code b m k) : Code (a ++ b) (l ++ m) (n + k) := by
  obtain ⟨r1, w1, x1, s1⟩ := h
  obtain ⟨r2, w2, x2, s2⟩ := g
  exact ⟨_, w1.app w2, x1.app x2, by rw [ByteArray.size_append]; omega⟩
theorem Code.le {s : ByteArray} {l : List Tok} {n k : Nat} (h : Code s l n) (hn : n ≤ k) : Code s l k := by
  obtain ⟨r, w, x, s⟩ := h; exact ⟨r, w, x, by omega⟩
theorem Code.nil : Code ⟨#[]⟩ [] 0 := ⟨[], Wt.nil, Tx.nil, Nat.le_refl _⟩
def sgT (x : Int) : Tok := ⟨x, 0, 0⟩
theorem Tx.signs : ∀ (rs : List Int), (∀ x ∈ rs, x ≠ 32 ∧ isD x = false ∧ ¬ (x = 955 ∨ x = 960) ∧ knownR x = true) → Tx rs (rs.map sgT)
  | [], _ => Tx.nil
  | x :: r, h => by
    have a := h x (List.mem_cons_self ..)
    exact (Tx.sign a.1 a.2.1 a.2.2.1 a.2.2.2).app (Tx.signs r fun y hy => h y (List.mem_cons_of_mem _ hy))
/-- Literals of known signs. -/
def sgOk (x : Int) : Bool := decide (x ≠ 32) && !isD x && decide (¬ (x = 955 ∨ x = 960)) && knownR x
theorem Code.lit {l : List UInt8} {rs : List Int} (h : asc l = some rs) (hs : rs.all sgOk = true) : Code ⟨l.toArray⟩ (rs.map sgT) l.length :=
  ⟨rs, asc_ok l rs h, Tx.signs rs fun x hx => by
    have := List.all_eq_true.mp hs x hx
    simp [sgOk] at this; exact ⟨this.1.1.1, this.1.1.2, by omega, this.2⟩, Nat.le_refl _⟩
theorem Code.one (l : List UInt8) (x : Int) {n : Nat} (h : asc l = some [x]) (hs : sgOk x = true) (hn : l.length ≤ n) : Code ⟨l.toArray⟩ ([] ++ [sgT x]) n := (Code.lit (rs := [x]) h (by simp [hs])).le hn
theorem Code.num {s : ByteArray} {ds : List Int} (w : Wt s ds) (hd : ∀ d ∈ ds, isD d = true) (hne : ds ≠ []) (hl : ds.length ≤ 8) : Code (⟨#[32]⟩ ++ s) [⟨48, dnum 0 ds, 0⟩] (1 + s.size) :=
  ⟨32 :: ds, (Wt.one 32 (by decide)).app w, Tx.num hd hne hl, by rw [ByteArray.size_append]; exact Nat.le_refl _⟩
theorem Code.letter {x : Int} (h : 65 ≤ x ∧ x ≤ 90 ∨ 97 ≤ x ∧ x ≤ 122) : Code (Utf8.encode x) [sgT x] 1 := by
  have w := Wt_asc (x := x) (by omega) (by omega)
  refine ⟨[x], w.1, Tx.sign (by omega) (by simp [isD]; omega) (by omega) ?_, by rw [w.2]; exact Nat.le_refl _⟩
  simp [knownR]; left; omega
theorem plain_letter {x : Int} (h : 65 ≤ x ∧ x ≤ 90 ∨ 97 ≤ x ∧ x ≤ 122) : plainS (sgT x).sign = true := decide_eq_true (by show x ≠ 58 ∧ x ≠ 59 ∧ x ≠ 93 ∧ x ≠ 126 ∧ x ≠ 161; omega)
/-- One value's code. -/
def Val (s : ByteArray) (n : Nat) : Prop := ∃ l, Code s l n ∧ Alive l
theorem Val.le {s : ByteArray} {n k : Nat} (h : Val s n) (hn : n ≤ k) : Val s k := by obtain ⟨l, c, a⟩ := h; exact ⟨l, c.le hn, a⟩
def vB : Nat → Nat
  | 0 => 5
  | d + 1 => 3 * vB d + 3
theorem vB_mono {a b : Nat} (h : a ≤ b) : vB a ≤ vB b := by
  induction b with
  | zero => have : a = 0 := by omega
            subst this; exact Nat.le_refl _
  | succ b ih =>
    by_cases c : a = b + 1
    · subst c; exact Nat.le_refl _
    · have := ih (by omega); simp only [vB]; omega
theorem vB_ge (a : Nat) : 5 ≤ vB a := vB_mono (a := 0) (by omega)
theorem Val.plain {s t : ByteArray} {l m : List Tok} {n k : Nat} {x : Tok} (h : Code s l n) (g : Code t (m ++ [x]) k) (hx : plainS x.sign = true) : Val (s ++ t) (n + k) :=
  ⟨_, h.app g, by rw [← List.append_assoc]; exact Alive.plain _ hx⟩
theorem Val.cond {s1 s2 s3 : ByteArray} {l1 l2 l3 : List Tok} {n : Nat} (c1 : Code s1 l1 n) (c2 : Code s2 l2 n) (c3 : Code s3 l3 n) (a3 : Alive l3) : Val (s1 ++ ⟨#[63]⟩ ++ s2 ++ ⟨#[58]⟩ ++ s3 ++ ⟨#[59]⟩) (3 * n + 3) := by
  have q1 : Code ⟨#[63]⟩ [sgT 63] 1 := Code.one [63] 63 rfl rfl (by simp)
  have q2 : Code ⟨#[58]⟩ [sgT 58] 1 := Code.one [58] 58 rfl rfl (by simp)
  have q3 : Code ⟨#[59]⟩ [sgT 59] 1 := Code.one [59] 59 rfl rfl (by simp)
  have k1 := c1.app q1
  have k2 := k1.app c2
  have k3 := k2.app q2
  have k4 := k3.app c3
  have k5 := k4.app q3
  have a : Alive (l1 ++ [sgT 63] ++ l2 ++ [sgT 58] ++ l3 ++ [sgT 59]) := Alive.endIf _ a3 rfl
  exact ⟨_, k5.le (by omega), a⟩
theorem pickS {P : ByteArray → Prop} (l : List ByteArray) (hl : ∀ x ∈ l, P x) {v : Int} (h0 : 0 ≤ v) (h1 : v < l.length) : ∃ x, (l.map AV.str)[v.toNat]? = some (.str x) ∧ P x := by
  have hn : v.toNat < l.length := by omega
  refine ⟨l[v.toNat], ?_, hl _ (List.getElem_mem hn)⟩
  rw [List.getElem?_map, List.getElem?_eq_getElem hn]; rfl
theorem pickI {P : Int → Prop} (l : List Int) (hl : ∀ x ∈ l, P x) {v : Int} (h0 : 0 ≤ v) (h1 : v < l.length) : ∃ x, (l.map (AV.int .i64))[v.toNat]? = some (.int .i64 x) ∧ P x := by
  have hn : v.toNat < l.length := by omega
  refine ⟨l[v.toNat], ?_, hl _ (List.getElem_mem hn)⟩
  rw [List.getElem?_map, List.getElem?_eq_getElem hn]; rfl
/-- Functions of a program that is made of a tape. -/
def FnsOk (fs : List Fn) : Prop := ∀ f ∈ fs, (f.name = 102 ∨ f.name = 103 ∨ f.name = 945) ∧ 0 ≤ f.args ∧ f.args ≤ 2
theorem Code.call {x : Int} (h : x = 102 ∨ x = 103 ∨ x = 945) : Code (⟨#[206, 187]⟩ ++ Utf8.encode x) [⟨955, 0, x⟩] 4 := by
  have w : Wt (Utf8.encode x) [x] ∧ (Utf8.encode x).size ≤ 2 := by
    rcases h with rfl | rfl | rfl
    · have := Wt_asc (x := 102) (by omega) (by omega); exact ⟨this.1, by omega⟩
    · have := Wt_asc (x := 103) (by omega) (by omega); exact ⟨this.1, by omega⟩
    · exact ⟨Wt.two 206 177 (by decide) (by decide) (by decide), by decide⟩
  have n : nameR x = true := by rcases h with rfl | rfl | rfl <;> rfl
  exact ⟨[955] ++ [x], (Wt.two 206 187 (by decide) (by decide) (by decide)).app w.1, Tx.named (.inl rfl) n, by rw [ByteArray.size_append]; have := w.2; have : (ByteArray.mk #[206, 187]).size = 2 := rfl; omega⟩
theorem Code.pi : Code ⟨#[207, 128, 113]⟩ [⟨960, 0, 113⟩] 3 :=
  ⟨[960, 113], asc_ok [207, 128, 113] _ rfl, Tx.named (.inr rfl) rfl, Nat.le_refl _⟩
theorem TS.alloc {h : H} {T : Nat} {L : List Int} (v : TS h T L) (o : HObj) : TS (h.alloc o) T L := v.up (Up.alloc _ _) (by obtain ⟨_, _, _, e, _⟩ := v; rw [get_alloc, if_neg (by omega)])
theorem TS.lt {h : H} {T : Nat} {L : List Int} (v : TS h T L) : T < h.n := by obtain ⟨_, _, _, e, _⟩ := v; exact e
end Go.Ev
namespace Go.Ev
open Go
section
variable {bar T : Nat} {h h1 : H} {fa : AV} {fs : List Fn} {L : List Int} {deep k : Int}
def VOut (L : List Int) (deep : Int) (bar T : Nat) (h : H) (fa : AV) : Prop := ∃ s h', call tb prim n_engramkeep_Tape_value [.ptr T 0, .int .i64 deep, fa] bar h = some (.str s, h') ∧ Val s (vB deep.toNat) ∧ Up T h h' ∧ TS h' T L
def VSpec (L : List Int) (fs : List Fn) (deep : Int) : Prop := ∀ (bar T : Nat) (h : H) (fa : AV), bar ≤ T → TS h T L → FV h fa fs → ¬ fa.isAt T → VOut L deep bar T h fa
theorem val_of (hb : bar ≤ T) (hw : ∀ K : AV → H → Prop, (∀ s h', Val s (vB deep.toNat) → Up T h h' → TS h' T L → K (.str s) h') → wpM (call tb prim) bar f_engramkeep_Tape_value.body [] (env0 [.ptr T 0, .int .i64 deep, fa]) h (endI f_engramkeep_Tape_value bar K)) : VOut L deep bar T h fa := by
  obtain ⟨r, h', hc, s, rfl, k⟩ := callF_K (o := call tb prim) (F := f_engramkeep_Tape_value) (bar := bar) (h := h) (args := [.ptr T 0, .int .i64 deep, fa]) (P := fun r h' => ∃ s, r = .str s ∧ Val s (vB deep.toNat) ∧ Up T h h' ∧ TS h' T L) rfl rfl (fun K hK => hw K fun s h' a b c => hK _ _ ⟨s, rfl, a, b, c⟩)
  exact ⟨s, h', call_of tb_engramkeep_Tape_value hc, k⟩
theorem val_A (hb : bar ≤ T) (e1 : call tb prim n_engramkeep_Tape_Next [.ptr T 0, .int .i64 14] bar h = some (.int .i64 k, h1)) (u1 : Up T h h1) (t1 : TS h1 T L) (hc : deep ≤ 0 ∨ k < 3) : VOut L deep bar T h fa := by
  refine val_of hb fun K hK => ?_
  obtain ⟨v, h2, e2, v0, v1, _, u2, t2⟩ := Next_ok (bar := bar) (t1.alloc (.cells [.int .i64 0, .int .i64 1, .int .i64 2, .int .i64 3, .int .i64 8, .int .i64 60, .int .i64 64, .int .i64 255, .int .i64 1000, .int .i64 7] 0)) 10 (by omega) (by omega) hb
  have hT := t1.lt
  have hg : h2.get h1.n = some (.cells [.int .i64 0, .int .i64 1, .int .i64 2, .int .i64 3, .int .i64 8, .int .i64 60, .int .i64 64, .int .i64 255, .int .i64 1000, .int .i64 7] 0) := by
    rw [u2.2 h1.n (by simp [n_alloc]) (by omega), get_alloc, if_pos rfl]
  obtain ⟨x, hx, x0, x1⟩ := pickI (P := fun x => 0 ≤ x ∧ x < 10 ^ 4) [0, 1, 2, 3, 8, 60, 64, 255, 1000, 7] (by decide) v0 v1
  have hx' : ([.int .i64 0, .int .i64 1, .int .i64 2, .int .i64 3, .int .i64 8, .int .i64 60, .int .i64 64, .int .i64 255, .int .i64 1000, .int .i64 7] : List AV)[v.toNat]? = some (.int .i64 x) := hx
  obtain ⟨s, ds, e3, w, hd, hne, hl, hsz⟩ := digits_ok 3 x x0 x1 (by omega) bar h2
  have hs : 1 + s.size ≤ 9223372036854775807 := by omega
  have hk := hK (⟨#[32]⟩ ++ s) h2 ⟨_, (Code.num w hd hne (by omega)).le (by have := vB_ge deep.toNat; omega), Alive.plain [] (show plainS 48 = true from rfl)⟩ (u1.trans ((Up.alloc _ _).trans u2)) t2
  have hb1 := e1
  by_cases c : deep ≤ 0
  · simp [f_engramkeep_Tape_value, env0, go_sem, hb1, c, evParts, fillA, splice, e2, indexIn, v0, v1]
    simp [-getElem?_pos, go_sem, hg, hx', e3, sb_add, sz_lit, hs]
    simp [go_sem, endP, endI, resultsA, resultA, freezeL, freezeV, AV.free.freeL, AV.free, packA, dropS]
    exact ⟨_, _, ⟨rfl, rfl⟩, hk⟩
  · have c3 : k < 3 := by omega
    simp [f_engramkeep_Tape_value, env0, go_sem, hb1, c, c3, evParts, fillA, splice, e2, indexIn, v0, v1]
    simp [-getElem?_pos, go_sem, hg, hx', e3, sb_add, sz_lit, hs]
    simp [go_sem, endP, endI, resultsA, resultA, freezeL, freezeV, AV.free.freeL, AV.free, packA, dropS]
    exact ⟨_, _, ⟨rfl, rfl⟩, hk⟩
theorem val_B (hb : bar ≤ T) (e1 : call tb prim n_engramkeep_Tape_Next [.ptr T 0, .int .i64 14] bar h = some (.int .i64 k, h1)) (u1 : Up T h h1) (t1 : TS h1 T L) (hd : 0 < deep) (hc : ¬ k < 3) (hc2 : k < 6) : VOut L deep bar T h fa := by
  refine val_of hb fun K hK => ?_
  obtain ⟨v, h2, e2, v0, v1, _, u2, t2⟩ := Next_ok (bar := bar) t1 4 (by omega) (by omega) hb
  have w1 : IntKind.i64.wrap (97 + v) = 97 + v := w64 (by omega) (by omega)
  have w2 : IntKind.i32.wrap (97 + v) = 97 + v := w32 (by omega) (by omega)
  have hk := hK (Utf8.encode (97 + v)) h2 ⟨_, (Code.letter (by omega)).le (by have := vB_ge deep.toNat; omega), Alive.plain [] (t := sgT (97 + v)) (plain_letter (by omega))⟩ (u1.trans u2) t2
  have hb1 := e1
  have c : ¬ deep ≤ 0 := by omega
  simp [f_engramkeep_Tape_value, env0, go_sem, hb1, c, hc, hc2, e2, w1, w2]
  simp [go_sem, endP, endI, resultsA, resultA, freezeL, freezeV, AV.free.freeL, AV.free, packA, dropS]
  exact ⟨_, _, ⟨rfl, rfl⟩, hk⟩
theorem val_C (hb : bar ≤ T) (e1 : call tb prim n_engramkeep_Tape_Next [.ptr T 0, .int .i64 14] bar h = some (.int .i64 k, h1)) (u1 : Up T h h1) (t1 : TS h1 T L) (hd : 0 < deep) (hd2 : deep ≤ 9) (hv : FV h fa fs) (hfa : ¬ fa.isAt T) (ih : VSpec L fs (deep - 1)) (hc : ¬ k < 6) (hc2 : k < 9) : VOut L deep bar T h fa := by
  refine val_of hb fun K hK => ?_
  obtain ⟨v, h2, e2, v0, v1, _, u2, t2⟩ := Next_ok (bar := bar) (t1.alloc (.cells [.str ⟨#[43]⟩, .str ⟨#[45]⟩, .str ⟨#[42]⟩, .str ⟨#[38]⟩, .str ⟨#[124]⟩, .str ⟨#[94]⟩, .str ⟨#[60]⟩, .str ⟨#[61]⟩, .str ⟨#[47]⟩, .str ⟨#[37]⟩, .str ⟨#[194, 171]⟩, .str ⟨#[194, 187]⟩] 0)) 12 (by omega) (by omega) hb
  have hT := t1.lt
  have hg : h2.get h1.n = some (.cells [.str ⟨#[43]⟩, .str ⟨#[45]⟩, .str ⟨#[42]⟩, .str ⟨#[38]⟩, .str ⟨#[124]⟩, .str ⟨#[94]⟩, .str ⟨#[60]⟩, .str ⟨#[61]⟩, .str ⟨#[47]⟩, .str ⟨#[37]⟩, .str ⟨#[194, 171]⟩, .str ⟨#[194, 187]⟩] 0) := by
    rw [u2.2 h1.n (by simp [n_alloc]) (by omega), get_alloc, if_pos rfl]
  obtain ⟨x, hx, y, hy, py⟩ := pickS (P := fun x => ∃ y, Code x ([] ++ [y]) 2 ∧ plainS y.sign = true) [⟨#[43]⟩, ⟨#[45]⟩, ⟨#[42]⟩, ⟨#[38]⟩, ⟨#[124]⟩, ⟨#[94]⟩, ⟨#[60]⟩, ⟨#[61]⟩, ⟨#[47]⟩, ⟨#[37]⟩, ⟨#[194, 171]⟩, ⟨#[194, 187]⟩] (by
    intro x hx; simp only [List.mem_cons, List.not_mem_nil, or_false] at hx
    rcases hx with rfl | rfl | rfl | rfl | rfl | rfl | rfl | rfl | rfl | rfl | rfl | rfl
    · exact ⟨sgT 43, Code.one [43] 43 rfl rfl (by simp), rfl⟩
    · exact ⟨sgT 45, Code.one [45] 45 rfl rfl (by simp), rfl⟩
    · exact ⟨sgT 42, Code.one [42] 42 rfl rfl (by simp), rfl⟩
    · exact ⟨sgT 38, Code.one [38] 38 rfl rfl (by simp), rfl⟩
    · exact ⟨sgT 124, Code.one [124] 124 rfl rfl (by simp), rfl⟩
    · exact ⟨sgT 94, Code.one [94] 94 rfl rfl (by simp), rfl⟩
    · exact ⟨sgT 60, Code.one [60] 60 rfl rfl (by simp), rfl⟩
    · exact ⟨sgT 61, Code.one [61] 61 rfl rfl (by simp), rfl⟩
    · exact ⟨sgT 47, Code.one [47] 47 rfl rfl (by simp), rfl⟩
    · exact ⟨sgT 37, Code.one [37] 37 rfl rfl (by simp), rfl⟩
    · exact ⟨sgT 171, Code.one [194, 171] 171 rfl rfl (by simp), rfl⟩
    · exact ⟨sgT 187, Code.one [194, 187] 187 rfl rfl (by simp), rfl⟩) v0 v1
  have hx' : ([.str ⟨#[43]⟩, .str ⟨#[45]⟩, .str ⟨#[42]⟩, .str ⟨#[38]⟩, .str ⟨#[124]⟩, .str ⟨#[94]⟩, .str ⟨#[60]⟩, .str ⟨#[61]⟩, .str ⟨#[47]⟩, .str ⟨#[37]⟩, .str ⟨#[194, 171]⟩, .str ⟨#[194, 187]⟩] : List AV)[v.toNat]? = some (.str x) := hx
  have U2 : Up T h h2 := u1.trans ((Up.alloc _ _).trans u2)
  obtain ⟨s1, h3, e3, ⟨l1, c1, a1⟩, u3, t3⟩ := ih bar T h2 fa hb t2 (Vw.up hv U2 hfa) hfa
  have U3 := U2.trans u3
  obtain ⟨s2, h4, e4, ⟨l2, c2, a2⟩, u4, t4⟩ := ih bar T h3 fa hb t3 (Vw.up hv U3 hfa) hfa
  have U4 := U3.trans u4
  have hB : vB deep.toNat = 3 * vB (deep - 1).toNat + 3 := by
    have : deep.toNat = (deep - 1).toNat + 1 := by omega
    rw [this]; rfl
  have hM : vB (deep - 1).toNat ≤ vB 8 := vB_mono (by omega)
  have h8 : vB 8 = 42645 := rfl
  obtain ⟨_, _, _, z1⟩ := id c1
  obtain ⟨_, _, _, z2⟩ := id c2
  obtain ⟨_, _, _, z3⟩ := id hy
  have g1 : s1.size + s2.size ≤ 9223372036854775807 := by omega
  have g2 : s1.size + s2.size + x.size ≤ 9223372036854775807 := by omega
  have w1 : IntKind.i64.wrap (deep - 1) = deep - 1 := w64 (by omega) (by omega)
  have hk := hK (s1 ++ s2 ++ x) h4 ((Val.plain (c1.app c2) hy py).le (by have := vB_ge (deep - 1).toNat; omega)) U4 t4
  have hb1 := e1
  have c : ¬ deep ≤ 0 := by omega
  have c3 : ¬ k < 3 := by omega
  simp [f_engramkeep_Tape_value, env0, go_sem, hb1, c, c3, hc, hc2, evParts, fillA, splice, e2, indexIn, v0, v1]
  simp [-getElem?_pos, go_sem, hg, hx', w1, e3, e4, sb_add, g1, g2]
  simp [go_sem, endP, endI, resultsA, resultA, freezeL, freezeV, AV.free.freeL, AV.free, packA, dropS]
  exact ⟨_, _, ⟨rfl, rfl⟩, hk⟩
theorem val_D (hb : bar ≤ T) (e1 : call tb prim n_engramkeep_Tape_Next [.ptr T 0, .int .i64 14] bar h = some (.int .i64 k, h1)) (u1 : Up T h h1) (t1 : TS h1 T L) (hd : 0 < deep) (hd2 : deep ≤ 9) (hv : FV h fa fs) (hfa : ¬ fa.isAt T) (ih : VSpec L fs (deep - 1)) (hc : k = 9) : VOut L deep bar T h fa := by
  refine val_of hb fun K hK => ?_
  obtain ⟨s1, h2, e2, ⟨l1, c1, a1⟩, u2, t2⟩ := ih bar T h1 fa hb t1 (Vw.up hv u1 hfa) hfa
  have hT := t2.lt
  obtain ⟨v, h3, e3, v0, v1, _, u3, t3⟩ := Next_ok (bar := bar) (t2.alloc (.cells [.str ⟨#[33]⟩, .str ⟨#[46, 43]⟩, .str ⟨#[194, 169]⟩, .str ⟨#[64]⟩, .str ⟨#[207, 128, 113]⟩, .str ⟨#[46, 44]⟩, .str ⟨#[194, 164]⟩] 0)) 7 (by omega) (by omega) hb
  have hg : h3.get h2.n = some (.cells [.str ⟨#[33]⟩, .str ⟨#[46, 43]⟩, .str ⟨#[194, 169]⟩, .str ⟨#[64]⟩, .str ⟨#[207, 128, 113]⟩, .str ⟨#[46, 44]⟩, .str ⟨#[194, 164]⟩] 0) := by
    rw [u3.2 h2.n (by simp [n_alloc]) (by omega), get_alloc, if_pos rfl]
  obtain ⟨x, hx, m, y, hy, py⟩ := pickS (P := fun x => ∃ m y, Code x (m ++ [y]) 3 ∧ plainS y.sign = true) [⟨#[33]⟩, ⟨#[46, 43]⟩, ⟨#[194, 169]⟩, ⟨#[64]⟩, ⟨#[207, 128, 113]⟩, ⟨#[46, 44]⟩, ⟨#[194, 164]⟩] (by
    intro x hx; simp only [List.mem_cons, List.not_mem_nil, or_false] at hx
    rcases hx with rfl | rfl | rfl | rfl | rfl | rfl | rfl
    · exact ⟨[], sgT 33, Code.one [33] 33 rfl rfl (by simp), rfl⟩
    · exact ⟨[sgT 46], sgT 43, (Code.lit (l := [46, 43]) (rs := [46, 43]) rfl rfl).le (by simp), rfl⟩
    · exact ⟨[], sgT 169, Code.one [194, 169] 169 rfl rfl (by simp), rfl⟩
    · exact ⟨[], sgT 64, Code.one [64] 64 rfl rfl (by simp), rfl⟩
    · exact ⟨[], _, Code.pi, rfl⟩
    · exact ⟨[sgT 46], sgT 44, (Code.lit (l := [46, 44]) (rs := [46, 44]) rfl rfl).le (by simp), rfl⟩
    · exact ⟨[], sgT 164, Code.one [194, 164] 164 rfl rfl (by simp), rfl⟩) v0 v1
  have hx' : ([.str ⟨#[33]⟩, .str ⟨#[46, 43]⟩, .str ⟨#[194, 169]⟩, .str ⟨#[64]⟩, .str ⟨#[207, 128, 113]⟩, .str ⟨#[46, 44]⟩, .str ⟨#[194, 164]⟩] : List AV)[v.toNat]? = some (.str x) := hx
  have hB : vB deep.toNat = 3 * vB (deep - 1).toNat + 3 := by
    have : deep.toNat = (deep - 1).toNat + 1 := by omega
    rw [this]; rfl
  have hM : vB (deep - 1).toNat ≤ vB 8 := vB_mono (by omega)
  have h8 : vB 8 = 42645 := rfl
  obtain ⟨_, _, _, z1⟩ := id c1
  obtain ⟨_, _, _, z3⟩ := id hy
  have g1 : s1.size + x.size ≤ 9223372036854775807 := by omega
  have w1 : IntKind.i64.wrap (deep - 1) = deep - 1 := w64 (by omega) (by omega)
  have hk := hK (s1 ++ x) h3 ((Val.plain c1 hy py).le (by have := vB_ge (deep - 1).toNat; omega)) (u1.trans (u2.trans ((Up.alloc _ _).trans u3))) t3
  have hb1 := e1
  have c : ¬ deep ≤ 0 := by omega
  subst hc
  simp [f_engramkeep_Tape_value, env0, go_sem, hb1, c, w1, e2, evParts, fillA, splice, e3, indexIn, v0, v1]
  simp [-getElem?_pos, go_sem, hg, hx', sb_add, g1]
  simp [go_sem, endP, endI, resultsA, resultA, freezeL, freezeV, AV.free.freeL, AV.free, packA, dropS]
  exact ⟨_, _, ⟨rfl, rfl⟩, hk⟩
theorem val_E (hb : bar ≤ T) (e1 : call tb prim n_engramkeep_Tape_Next [.ptr T 0, .int .i64 14] bar h = some (.int .i64 k, h1)) (u1 : Up T h h1) (t1 : TS h1 T L) (hd : 0 < deep) (hd2 : deep ≤ 9) (hv : FV h fa fs) (hfa : ¬ fa.isAt T) (ih : VSpec L fs (deep - 1)) (hc : k = 10) : VOut L deep bar T h fa := by
  refine val_of hb fun K hK => ?_
  obtain ⟨s1, h2, e2, ⟨l1, c1, a1⟩, u2, t2⟩ := ih bar T h1 fa hb t1 (Vw.up hv u1 hfa) hfa
  have U2 := u1.trans u2
  obtain ⟨s2, h3, e3, ⟨l2, c2, a2⟩, u3, t3⟩ := ih bar T h2 fa hb t2 (Vw.up hv U2 hfa) hfa
  have U3 := U2.trans u3
  obtain ⟨s3, h4, e4, ⟨l3, c3, a3⟩, u4, t4⟩ := ih bar T h3 fa hb t3 (Vw.up hv U3 hfa) hfa
  have U4 := U3.trans u4
  have hB : vB deep.toNat = 3 * vB (deep - 1).toNat + 3 := by
    have : deep.toNat = (deep - 1).toNat + 1 := by omega
    rw [this]; rfl
  have hM : vB (deep - 1).toNat ≤ vB 8 := vB_mono (by omega)
  have h8 : vB 8 = 42645 := rfl
  obtain ⟨_, _, _, z1⟩ := id c1
  obtain ⟨_, _, _, z2⟩ := id c2
  obtain ⟨_, _, _, z3⟩ := id c3
  have g1 : s1.size + 1 ≤ 9223372036854775807 := by omega
  have g2 : s1.size + 1 + s2.size ≤ 9223372036854775807 := by omega
  have g3 : s1.size + 1 + s2.size + 1 ≤ 9223372036854775807 := by omega
  have g4 : s1.size + 1 + s2.size + 1 + s3.size ≤ 9223372036854775807 := by omega
  have g5 : s1.size + 1 + s2.size + 1 + s3.size + 1 ≤ 9223372036854775807 := by omega
  have w1 : IntKind.i64.wrap (deep - 1) = deep - 1 := w64 (by omega) (by omega)
  have hk := hK _ h4 ((Val.cond c1 c2 c3 a3).le (by rw [hB]; exact Nat.le_refl _)) U4 t4
  have hb1 := e1
  have c : ¬ deep ≤ 0 := by omega
  subst hc
  simp [f_engramkeep_Tape_value, env0, go_sem, hb1, c, w1, e2, sb_add, sz_lit, g1, ByteArray.size_append, e3, g2, g3, e4, g4, g5]
  simp [go_sem, endP, endI, resultsA, resultA, freezeL, freezeV, AV.free.freeL, AV.free, packA, dropS]
  exact ⟨_, _, ⟨rfl, rfl⟩, hk⟩
theorem val_F (hb : bar ≤ T) (e1 : call tb prim n_engramkeep_Tape_Next [.ptr T 0, .int .i64 14] bar h = some (.int .i64 k, h1)) (u1 : Up T h h1) (t1 : TS h1 T L) (hd : 0 < deep) (hc : k = 11) : VOut L deep bar T h fa := by
  refine val_of hb fun K hK => ?_
  have hk := hK ⟨#[35]⟩ h1 ⟨_, Code.one [35] 35 rfl rfl (by have := vB_ge deep.toNat; simp; omega), Alive.plain [] (t := sgT 35) rfl⟩ u1 t1
  have hb1 := e1
  have c : ¬ deep ≤ 0 := by omega
  subst hc
  simp [f_engramkeep_Tape_value, env0, go_sem, hb1, c]
  simp [go_sem, endP, endI, resultsA, resultA, freezeL, freezeV, AV.free.freeL, AV.free, packA, dropS]
  exact ⟨_, _, ⟨rfl, rfl⟩, hk⟩
theorem val_H (hb : bar ≤ T) (e1 : call tb prim n_engramkeep_Tape_Next [.ptr T 0, .int .i64 14] bar h = some (.int .i64 k, h1)) (u1 : Up T h h1) (t1 : TS h1 T L) (hd : 0 < deep) (hd2 : deep ≤ 9) (hv : FV h fa fs) (hfa : ¬ fa.isAt T) (ih : VSpec L fs (deep - 1)) (hc : k = 12 ∧ fs.length = 0 ∨ k = 13) : VOut L deep bar T h fa := by
  refine val_of hb fun K hK => ?_
  obtain ⟨s1, h2, e2, ⟨l1, c1, a1⟩, u2, t2⟩ := ih bar T h1 fa hb t1 (Vw.up hv u1 hfa) hfa
  obtain ⟨v, h3, e3, v0, v1, _, u3, t3⟩ := Next_ok (bar := bar) t2 4 (by omega) (by omega) hb
  obtain ⟨x, h4, e4, x0, x1, _, u4, t4⟩ := Next_ok (bar := bar) t3 4 (by omega) (by omega) hb
  have w2 : IntKind.i64.wrap (65 + v) = 65 + v := w64 (by omega) (by omega)
  have w3 : IntKind.i32.wrap (65 + v) = 65 + v := w32 (by omega) (by omega)
  have w4 : IntKind.i64.wrap (97 + x) = 97 + x := w64 (by omega) (by omega)
  have w5 : IntKind.i32.wrap (97 + x) = 97 + x := w32 (by omega) (by omega)
  have hB : vB deep.toNat = 3 * vB (deep - 1).toNat + 3 := by
    have : deep.toNat = (deep - 1).toNat + 1 := by omega
    rw [this]; rfl
  have hM : vB (deep - 1).toNat ≤ vB 8 := vB_mono (by omega)
  have h8 : vB 8 = 42645 := rfl
  obtain ⟨_, _, _, z1⟩ := id c1
  have q1 : Code (Utf8.encode (65 + v)) [sgT (65 + v)] 1 := Code.letter (by omega)
  have q2 : Code (Utf8.encode (97 + x)) [sgT (97 + x)] 1 := Code.letter (by omega)
  have y1 := (Wt_asc (x := 65 + v) (by omega) (by omega)).2
  have y2 := (Wt_asc (x := 97 + x) (by omega) (by omega)).2
  have g1 : s1.size + 1 ≤ 9223372036854775807 := by omega
  have g2 : s1.size + 1 + 1 ≤ 9223372036854775807 := by omega
  have w1 : IntKind.i64.wrap (deep - 1) = deep - 1 := w64 (by omega) (by omega)
  have hk := hK (s1 ++ Utf8.encode (65 + v) ++ Utf8.encode (97 + x)) h4 ((Val.plain (m := []) (c1.app q1) q2 (plain_letter (by omega))).le (by have := vB_ge (deep - 1).toNat; omega)) (u1.trans (u2.trans (u3.trans u4))) t4
  have hb1 := e1
  have c : ¬ deep ≤ 0 := by omega
  have hl := hv.len
  rcases hc with ⟨rfl, hc⟩ | rfl
  · have hl' : ¬ (0 : Int) < (fs.length : Int) := by omega
    simp [f_engramkeep_Tape_value, env0, go_sem, hb1, c, hl, hl', hc, w1, e2, e3, w2, w3, w4, w5, e4, sb_add, y1, y2, ByteArray.size_append, g1, g2]
    simp [go_sem, endP, endI, resultsA, resultA, freezeL, freezeV, AV.free.freeL, AV.free, packA, dropS]
    exact ⟨_, _, ⟨rfl, rfl⟩, hk⟩
  · simp [f_engramkeep_Tape_value, env0, go_sem, hb1, c, w1, e2, e3, w2, w3, w4, w5, e4, sb_add, y1, y2, ByteArray.size_append, g1, g2]
    simp [go_sem, endP, endI, resultsA, resultA, freezeL, freezeV, AV.free.freeL, AV.free, packA, dropS]
    exact ⟨_, _, ⟨rfl, rfl⟩, hk⟩
end
end Go.Ev
namespace Go.Ev
open Go
section
variable {bar T : Nat} {h h1 : H} {fa : AV} {fs : List Fn} {L : List Int} {deep k : Int}
/-- A row of a list of functions, wherever it lies. -/
theorem S_row {o : Oracle} {bar : Nat} {g : H} {fa : AV} {fs : List Fn} (hv : FV g fa fs) {i : Nat} (hi : i < fs.length) {c d : Nat} {r : List IOper} {ks : List Fr} {e : Env} {Q : Ex → Env → H → Prop}
    (hw : ∀ v, wpX o bar r ks ((d, .agg fs[i].cells) :: (c, v) :: e) g Q) : wpS o bar (iadrR 3 (some fa) (some (.int .i64 (i : Nat))) g) (some c) (⟨some d, .ld true 3 (.t c), none⟩ :: r) ks e Q := by
  have hbi : (i : Int) < (fs.length : Int) := by omega
  rcases hv.cases with ⟨rfl, rfl⟩ | ⟨full, cs, rfl, hl, _, hy⟩ | ⟨id', off, full, all, p', rfl, hlt, hg', _, hy⟩
  · cases hi
  · simp [go_sem, indexIn, hi, hbi, hl, hy i hi]
    exact hw _
  · simp [go_sem, indexIn, hi, hbi, hg', hy i hi]
    exact hw _
theorem val_loop (hb : bar ≤ T) (hd2 : deep ≤ 9) (hd : 0 < deep) (hv : FV h fa fs) (hfa : ¬ fa.isAt T) (ih : VSpec L fs (deep - 2)) (f : Fn) (hf : f.args ≤ 2) (X : Nat) (hX : X < h.n) (hXT : X ≠ T) (hXg : h.get X = some (.cells f.cells 0)) (Q : Ex → Env → H → Prop) : ∀ (n : Nat) (i : Int) (g : H) (s : ByteArray) (l : List Tok), 0 ≤ i → f.args ≤ i + n → (i ≤ f.args ∨ i = 0) → Up T h g → TS g T L → Code s l (i.toNat * vB (deep - 2).toNat) →
    (∀ e g' s' l', e.get 9 = some (.ptr X 0) → e.get 10 = some (.str s') → Up T h g' → TS g' T L → Code s' l' (2 * vB (deep - 2).toNat) → Q (.exit 1) e g') →
    wpL (call tb prim) bar [0, 1, 2, 9, 10, 11] l0_engramkeep_Tape_value [(0, .ptr T 0), (1, .int .i64 deep), (2, fa), (9, .ptr X 0), (10, .str s), (11, .int .i64 i)] g Q := by
  have hM : vB (deep - 2).toNat ≤ vB 8 := vB_mono (by omega)
  have h8 : vB 8 = 42645 := rfl
  have w1 : IntKind.i64.wrap (deep - 2) = deep - 2 := w64 (by omega) (by omega)
  intro n
  induction n with
  | zero =>
    intro i g s l h0 h1 h2 hu ht hc hq
    refine M_loop l0_engramkeep_Tape_value.eq_1 ?_
    have hg := (hu.2 X hX hXT).trans hXg
    have c : ¬ i < f.args := by omega
    simp [go_sem, hg, Fn.cells, c]
    refine hq _ _ s l rfl rfl hu ht (hc.le ?_)
    have : i.toNat ≤ 2 := by omega
    exact Nat.mul_le_mul_right _ this
  | succ n ihn =>
    intro i g s l h0 h1 h2 hu ht hc hq
    refine M_loop l0_engramkeep_Tape_value.eq_1 ?_
    have hg := (hu.2 X hX hXT).trans hXg
    by_cases c : i < f.args
    · obtain ⟨s1, g1, e1, ⟨l1, c1, a1⟩, u1, t1⟩ := ih bar T g fa hb ht (Vw.up hv hu hfa) hfa
      obtain ⟨_, _, _, z1⟩ := id c1
      obtain ⟨_, _, _, z2⟩ := id hc
      have hi1 : i.toNat ≤ 1 := by omega
      have hm := Nat.mul_le_mul_right (vB (deep - 2).toNat) hi1
      have g2 : s.size + s1.size ≤ 9223372036854775807 := by omega
      have w2 : IntKind.i64.wrap (i + 1) = i + 1 := w64 (by omega) (by omega)
      simp [go_sem, hg, Fn.cells, c, w1, e1, sb_add, g2, w2]
      refine ihn (i + 1) g1 _ _ (by omega) (by omega) (by omega) (hu.trans u1) t1 ((hc.app c1).le ?_) hq
      have : (i + 1).toNat = i.toNat + 1 := by omega
      rw [this, Nat.succ_mul]; exact Nat.le_refl _
    · simp [go_sem, hg, Fn.cells, c]
      refine hq _ _ s l rfl rfl hu ht (hc.le ?_)
      have : i.toNat ≤ 2 := by omega
      exact Nat.mul_le_mul_right _ this
theorem val_G (hb : bar ≤ T) (e1 : call tb prim n_engramkeep_Tape_Next [.ptr T 0, .int .i64 14] bar h = some (.int .i64 k, h1)) (u1 : Up T h h1) (t1 : TS h1 T L) (hd : 0 < deep) (hd2 : deep ≤ 9) (hv : FV h fa fs) (hfa : ¬ fa.isAt T) (hfs : FnsOk fs) (hfl : fs.length ≤ 1000) (ih : VSpec L fs (deep - 2)) (hc : k = 12) (hc2 : 0 < fs.length) : VOut L deep bar T h fa := by
  refine val_of hb fun K hK => ?_
  obtain ⟨v, h2, e2, v0, v1, _, u2, t2⟩ := Next_ok (bar := bar) t1 fs.length (by omega) (by omega) hb
  obtain ⟨i, rfl⟩ : ∃ i : Nat, v = (i : Nat) := ⟨v.toNat, by omega⟩
  have hi : i < fs.length := by omega
  have hf := hfs fs[i] (List.getElem_mem hi)
  have U2 := u1.trans u2
  have hT := t2.lt
  have hb1 := e1
  have c : ¬ deep ≤ 0 := by omega
  have hl := hv.len
  have hl' : (0 : Int) < (fs.length : Int) := by omega
  have n1 : h2.n ≠ T := by omega
  subst hc
  simp [f_engramkeep_Tape_value, env0, go_sem, hb1, c, hl, hc2, e2]
  refine S_row (Vw.up hv U2 hfa) hi fun v1 => ?_
  have nb : bar ≤ h2.n := by omega
  simp [go_sem, get_alloc, n_alloc, get_set, n_set, get_kill, n_kill, writeAt, a11, a21, a31, a41, a51, a61, a71, Fn.cells, nb, splice]
  have hM : vB (deep - 2).toNat ≤ vB 8 := vB_mono (by omega)
  have h8 : vB 8 = 42645 := rfl
  have hB : vB deep.toNat = 3 * vB (deep - 1).toNat + 3 := by
    have : deep.toNat = (deep - 1).toNat + 1 := by omega
    rw [this]; rfl
  have hB2 : vB (deep - 2).toNat ≤ vB (deep - 1).toNat := vB_mono (by omega)
  have U3 : Up T h2 ((h2.alloc (.cells [.int .i32 0, .int .i64 0, .str ⟨#[]⟩] 0)).set h2.n (.cells fs[i].cells 0)) := ⟨by simp [n_set, n_alloc], fun j hj _ => by rw [get_set, if_neg (by omega), get_alloc, if_neg (by omega)]⟩
  have T3 : TS ((h2.alloc (.cells [.int .i32 0, .int .i64 0, .str ⟨#[]⟩] 0)).set h2.n (.cells fs[i].cells 0)) T L := t2.up U3 (by rw [get_set, if_neg (by omega), get_alloc, if_neg (by omega)])
  refine val_loop (fs := fs) (deep := deep) hb hd2 hd (Vw.up hv (U2.trans U3) hfa) hfa ih fs[i] hf.2.2 h2.n (by simp [n_set, n_alloc]) n1 (by rw [get_set, if_pos rfl]) _ 2 0 _ ⟨#[]⟩ [] (by omega) (by omega) (by omega) (Up.refl _ _) T3 (Code.nil.le (by omega)) (fun e g' s' l' q1 q2 u4 t4 c4 => ?_)
  have hg := (u4.2 h2.n (by simp [n_set, n_alloc]) n1).trans (by rw [get_set, if_pos rfl] : _ = some (.cells fs[i].cells 0))
  obtain ⟨_, _, _, z1⟩ := id c4
  have y := Code.call hf.1
  obtain ⟨_, _, _, z2⟩ := id y
  have cc := c4.app y
  have zz : (Utf8.encode fs[i].name).size ≤ 4 := encode_le _
  have g1 : s'.size + 2 ≤ 9223372036854775807 := by omega
  have g2 : s'.size + 2 + (Utf8.encode fs[i].name).size ≤ 9223372036854775807 := by omega
  simp [go_sem, q1, q2, hg, Fn.cells, sb_add, sz_lit, g1, g2, ByteArray.size_append]
  simp [go_sem, endP, endI, resultsA, resultA, freezeL, freezeV, AV.free.freeL, AV.free, packA, dropS]
  refine ⟨_, _, ⟨rfl, rfl⟩, hK _ _ ?_ (U2.trans (U3.trans u4)) t4⟩
  rw [ba_assoc]
  exact ⟨_, cc.le (by have := vB_ge (deep - 1).toNat; omega), Alive.plain _ rfl⟩
theorem value_ok (hfs : FnsOk fs) (hfl : fs.length ≤ 1000) : ∀ (d : Nat) (deep : Int), deep ≤ d → d ≤ 9 → -5 ≤ deep → VSpec L fs deep := by
  intro d
  induction d with
  | zero =>
    intro deep h1 _ _ bar T h fa hb ht hv hfa
    obtain ⟨k, h1, e1, k0, k1, _, u1, t1⟩ := Next_ok (bar := bar) ht 14 (by omega) (by omega) hb
    exact val_A hb e1 u1 t1 (.inl (by omega))
  | succ d ih =>
    intro deep h1 h2 h3 bar T h fa hb ht hv hfa
    obtain ⟨k, h1, e1, k0, k1, _, u1, t1⟩ := Next_ok (bar := bar) ht 14 (by omega) (by omega) hb
    by_cases c0 : deep ≤ 0
    · exact val_A hb e1 u1 t1 (.inl c0)
    have i1 := ih (deep - 1) (by omega) (by omega) (by omega)
    have i2 := ih (deep - 2) (by omega) (by omega) (by omega)
    have p : 0 < deep := by omega
    have q : deep ≤ 9 := by omega
    by_cases c1 : k < 3
    · exact val_A hb e1 u1 t1 (.inr c1)
    by_cases c2 : k < 6
    · exact val_B hb e1 u1 t1 p c1 c2
    by_cases c3 : k < 9
    · exact val_C hb e1 u1 t1 p q hv hfa i1 c2 c3
    by_cases c4 : k = 9
    · exact val_D hb e1 u1 t1 p q hv hfa i1 c4
    by_cases c5 : k = 10
    · exact val_E hb e1 u1 t1 p q hv hfa i1 c5
    by_cases c6 : k = 11
    · exact val_F hb e1 u1 t1 p c6
    by_cases c7 : k = 12 ∧ 0 < fs.length
    · exact val_G hb e1 u1 t1 p q hv hfa hfs hfl i2 c7.1 c7.2
    · exact val_H hb e1 u1 t1 p q hv hfa i1 (by omega)
end
end Go.Ev
namespace Go.Ev
open Go
def dB : Nat → Nat
  | 0 => 63
  | d + 1 => 2 * dB d + 23
theorem dB_mono {a b : Nat} (h : a ≤ b) : dB a ≤ dB b := by
  induction b with
  | zero => have : a = 0 := by omega
            subst this; exact Nat.le_refl _
  | succ b ih =>
    by_cases c : a = b + 1
    · subst c; exact Nat.le_refl _
    · have := ih (by omega); simp only [dB]; omega
theorem dB_ge (a : Nat) : 63 ≤ dB a := dB_mono (a := 0) (by omega)
/-- A text of known tokens. -/
def Cd (s : ByteArray) (n : Nat) : Prop := ∃ l, Code s l n
theorem Cd.le {s : ByteArray} {n k : Nat} (h : Cd s n) (hn : n ≤ k) : Cd s k := by obtain ⟨l, c⟩ := h; exact ⟨l, c.le hn⟩
theorem Cd.app {a b : ByteArray} {n k : Nat} (h : Cd a n) (g : Cd b k) : Cd (a ++ b) (n + k) := by obtain ⟨l, c⟩ := h; obtain ⟨m, d⟩ := g; exact ⟨_, c.app d⟩
theorem Cd.lit {l : List UInt8} (rs : List Int) (h : asc l = some rs) (hs : rs.all sgOk = true) : Cd ⟨l.toArray⟩ l.length := ⟨_, Code.lit h hs⟩
theorem Cd.nil : Cd ⟨#[]⟩ 0 := ⟨_, Code.nil⟩
theorem Cd.size {s : ByteArray} {n : Nat} (h : Cd s n) : s.size ≤ n := by obtain ⟨_, _, _, _, z⟩ := h; exact z
theorem Val.cd {s : ByteArray} {n : Nat} (h : Val s n) : Cd s n := by obtain ⟨l, c, _⟩ := h; exact ⟨l, c⟩
theorem Cd.letter {x : Int} (h : 65 ≤ x ∧ x ≤ 90 ∨ 97 ≤ x ∧ x ≤ 122) : Cd (Utf8.encode x) 1 := ⟨_, Code.letter h⟩
theorem Cd.loop {s u t x : ByteArray} {n : Nat} (c0 : Cd (⟨#[32]⟩ ++ s) 5) (qu : Cd u 1) (qx : Cd x 1) (c : Cd t n) : Cd (⟨#[32]⟩ ++ s ++ u ++ ⟨#[91]⟩ ++ x ++ ⟨#[33, 63, 126, 59]⟩ ++ t ++ x ++ ⟨#[32, 49, 45]⟩ ++ u ++ ⟨#[93]⟩) (n + 20) := by
  have q1 : Cd ⟨#[91]⟩ 1 := Cd.lit (l := [91]) [91] rfl rfl
  have q2 : Cd ⟨#[33, 63, 126, 59]⟩ 4 := Cd.lit (l := [33, 63, 126, 59]) [33, 63, 126, 59] rfl rfl
  have t3 : Tx ([32, 49] ++ [45]) _ := (Tx.num (ds := [49]) (by decide) (by simp) (by simp)).app (Tx.sign (x := 45) (by omega) rfl (by omega) rfl)
  have q3 : Cd ⟨#[32, 49, 45]⟩ 3 := ⟨_, [32, 49, 45], asc_ok [32, 49, 45] _ rfl, t3, Nat.le_refl _⟩
  have q4 : Cd ⟨#[93]⟩ 1 := Cd.lit (l := [93]) [93] rfl rfl
  have k1 := c0.app qu
  have k2 := k1.app q1
  have k3 := k2.app qx
  have k4 := k3.app q2
  have k5 := k4.app c
  have k6 := k5.app qx
  have k7 := k6.app q3
  have k8 := k7.app qu
  have k9 := k8.app q4
  exact k9.le (by omega)
theorem vb2 : vB 2 = 57 := rfl
theorem vb1 : vB 1 = 18 := rfl
section
variable {bar T : Nat} {h h1 : H} {fa : AV} {fs : List Fn} {L : List Int} {deep k : Int}
def DOut (L : List Int) (deep : Int) (bar T : Nat) (h : H) (fa : AV) : Prop := ∃ s h', call tb prim n_engramkeep_Tape_deed [.ptr T 0, .int .i64 deep, fa] bar h = some (.str s, h') ∧ Cd s (dB deep.toNat) ∧ Up T h h' ∧ TS h' T L
def DSpec (L : List Int) (fs : List Fn) (deep : Int) : Prop := ∀ (bar T : Nat) (h : H) (fa : AV), bar ≤ T → TS h T L → FV h fa fs → ¬ fa.isAt T → DOut L deep bar T h fa
theorem deed_of (hb : bar ≤ T) (hw : ∀ K : AV → H → Prop, (∀ s h', Cd s (dB deep.toNat) → Up T h h' → TS h' T L → K (.str s) h') → wpM (call tb prim) bar f_engramkeep_Tape_deed.body [] (env0 [.ptr T 0, .int .i64 deep, fa]) h (endI f_engramkeep_Tape_deed bar K)) : DOut L deep bar T h fa := by
  obtain ⟨r, h', hc, s, rfl, k⟩ := callF_K (o := call tb prim) (F := f_engramkeep_Tape_deed) (bar := bar) (h := h) (args := [.ptr T 0, .int .i64 deep, fa]) (P := fun r h' => ∃ s, r = .str s ∧ Cd s (dB deep.toNat) ∧ Up T h h' ∧ TS h' T L) rfl rfl (fun K hK => hw K fun s h' a b c => hK _ _ ⟨s, rfl, a, b, c⟩)
  exact ⟨s, h', call_of tb_engramkeep_Tape_deed hc, k⟩
set_option linter.unusedSectionVars false
variable (hv2 : VSpec L fs 2) (hv1 : VSpec L fs 1)
include hv2 hv1
theorem deed_A (hb : bar ≤ T) (e1 : call tb prim n_engramkeep_Tape_Next [.ptr T 0, .int .i64 9] bar h = some (.int .i64 k, h1)) (u1 : Up T h h1) (t1 : TS h1 T L) (hv : FV h fa fs) (hfa : ¬ fa.isAt T) (hc : k < 3) : DOut L deep bar T h fa := by
  refine deed_of hb fun K hK => ?_
  obtain ⟨s1, h2, e2, c1, u2, t2⟩ := hv2 bar T h1 fa hb t1 (Vw.up hv u1 hfa) hfa
  obtain ⟨v, h3, e3, v0, v1, _, u3, t3⟩ := Next_ok (bar := bar) t2 4 (by omega) (by omega) hb
  have c1 : Cd s1 57 := c1.cd
  have w1 : IntKind.i64.wrap (65 + v) = 65 + v := w64 (by omega) (by omega)
  have w2 : IntKind.i32.wrap (65 + v) = 65 + v := w32 (by omega) (by omega)
  have q : Cd (Utf8.encode (65 + v)) 1 := Cd.letter (by omega)
  have z := c1.size
  have y1 := (Wt_asc (x := 65 + v) (by omega) (by omega)).2
  have g1 : s1.size + 1 ≤ 9223372036854775807 := by omega
  have hk := hK _ h3 ((c1.app q).le (by have := dB_ge deep.toNat; omega)) (u1.trans (u2.trans u3)) t3
  simp [f_engramkeep_Tape_deed, env0, go_sem, e1, hc, e2, e3, w1, w2, sb_add, y1, g1]
  simp [go_sem, endP, endI, resultsA, resultA, freezeL, freezeV, AV.free.freeL, AV.free, packA, dropS]
  exact ⟨_, _, ⟨rfl, rfl⟩, hk⟩
theorem deed_B (hb : bar ≤ T) (e1 : call tb prim n_engramkeep_Tape_Next [.ptr T 0, .int .i64 9] bar h = some (.int .i64 k, h1)) (u1 : Up T h h1) (t1 : TS h1 T L) (hv : FV h fa fs) (hfa : ¬ fa.isAt T) (hc : ¬ k < 3) (hc2 : k < 5) : DOut L deep bar T h fa := by
  refine deed_of hb fun K hK => ?_
  obtain ⟨v, h2, e2, v0, v1, _, u2, t2⟩ := Next_ok (bar := bar) t1 190 (by omega) (by omega) hb
  obtain ⟨s, ds, e3, w, hd, hne, hl, hsz⟩ := digits_ok 2 v v0 (by omega) (by omega) bar h2
  have U2 := u1.trans u2
  obtain ⟨s1, h3, e4, c1, u3, t3⟩ := hv2 bar T h2 fa hb t2 (Vw.up hv U2 hfa) hfa
  have hT := t3.lt
  obtain ⟨x, h4, e5, x0, x1, _, u4, t4⟩ := Next_ok (bar := bar) (t3.alloc (.cells [.str ⟨#[36]⟩, .str ⟨#[194, 174]⟩] 0)) 2 (by omega) (by omega) hb
  have hg : h4.get h3.n = some (.cells [.str ⟨#[36]⟩, .str ⟨#[194, 174]⟩] 0) := by
    rw [u4.2 h3.n (by simp [n_alloc]) (by omega), get_alloc, if_pos rfl]
  obtain ⟨y, hy, py⟩ := pickS (P := fun x => Cd x 2) [⟨#[36]⟩, ⟨#[194, 174]⟩] (by
    intro x hx; simp only [List.mem_cons, List.not_mem_nil, or_false] at hx
    rcases hx with rfl | rfl
    · exact (Cd.lit (l := [36]) [36] rfl rfl).le (by simp)
    · exact Cd.lit (l := [194, 174]) [174] rfl rfl) x0 x1
  have hy' : ([.str ⟨#[36]⟩, .str ⟨#[194, 174]⟩] : List AV)[x.toNat]? = some (.str y) := hy
  have c1 : Cd s1 57 := c1.cd
  have c0 : Cd (⟨#[32]⟩ ++ s) 4 := ⟨_, (Code.num w hd hne (by omega)).le (by omega)⟩
  have z := c1.size
  have z2 := py.size
  have g1 : 1 + s.size ≤ 9223372036854775807 := by omega
  have g2 : 1 + s.size + s1.size ≤ 9223372036854775807 := by omega
  have g3 : 1 + s.size + s1.size + y.size ≤ 9223372036854775807 := by omega
  have hk := hK _ h4 (((c0.app c1).app py).le (by have := dB_ge deep.toNat; omega)) (U2.trans (u3.trans ((Up.alloc _ _).trans u4))) t4
  simp [f_engramkeep_Tape_deed, env0, go_sem, e1, hc, hc2, e2, e3, sb_add, sz_lit, g1, e4, ByteArray.size_append, g2, evParts, fillA, splice, e5, indexIn, x0, x1]
  simp [-getElem?_pos, go_sem, hg, hy', sb_add, sz_lit, ByteArray.size_append, g3]
  simp [go_sem, endP, endI, resultsA, resultA, freezeL, freezeV, AV.free.freeL, AV.free, packA, dropS]
  exact ⟨_, _, ⟨rfl, rfl⟩, hk⟩
theorem deed_C (hb : bar ≤ T) (e1 : call tb prim n_engramkeep_Tape_Next [.ptr T 0, .int .i64 9] bar h = some (.int .i64 k, h1)) (u1 : Up T h h1) (t1 : TS h1 T L) (hv : FV h fa fs) (hfa : ¬ fa.isAt T) (ih : DSpec L fs (deep - 1)) (hd : 0 < deep) (hd2 : deep ≤ 3) (hc : k = 5) : DOut L deep bar T h fa := by
  refine deed_of hb fun K hK => ?_
  obtain ⟨s1, h2, e2, c1, u2, t2⟩ := hv1 bar T h1 fa hb t1 (Vw.up hv u1 hfa) hfa
  have U2 := u1.trans u2
  obtain ⟨s2, h3, e3, c2, u3, t3⟩ := ih bar T h2 fa hb t2 (Vw.up hv U2 hfa) hfa
  have U3 := U2.trans u3
  have hB : dB deep.toNat = 2 * dB (deep - 1).toNat + 23 := by
    have : deep.toNat = (deep - 1).toNat + 1 := by omega
    rw [this]; rfl
  have hM : dB (deep - 1).toNat ≤ dB 2 := dB_mono (by omega)
  have h8 : dB 2 = 321 := rfl
  have z2 := c2.size
  obtain ⟨s3, e4, hs3⟩ := live_ok (bar := bar) (h := h3) s2 (by omega)
  have c3 : Cd s3 (dB (deep - 1).toNat) := by
    rcases hs3 with rfl | rfl
    · exact c2
    · exact Cd.nil.le (by omega)
  obtain ⟨s4, h4, e5, c4, u4, t4⟩ := ih bar T h3 fa hb t3 (Vw.up hv U3 hfa) hfa
  have hT := t4.lt
  have z3 := c3.size
  have z4 := c4.size
  have c1 : Cd s1 18 := c1.cd
  have z1 := c1.size
  obtain ⟨x, h5, e6, x0, x1, _, u5, t5⟩ := Next_ok (bar := bar) (t4.alloc (.cells [.str ⟨#[59]⟩, .str (⟨#[58]⟩ ++ s4 ++ ⟨#[59]⟩), .str ⟨#[58, 194, 161, 59]⟩] 0)) 3 (by omega) (by omega) hb
  have hg : h5.get h4.n = some (.cells [.str ⟨#[59]⟩, .str (⟨#[58]⟩ ++ s4 ++ ⟨#[59]⟩), .str ⟨#[58, 194, 161, 59]⟩] 0) := by
    rw [u5.2 h4.n (by simp [n_alloc]) (by omega), get_alloc, if_pos rfl]
  have q1 : Cd ⟨#[58]⟩ 1 := Cd.lit (l := [58]) [58] rfl rfl
  have q2 : Cd ⟨#[59]⟩ 1 := Cd.lit (l := [59]) [59] rfl rfl
  have q3 : Cd ⟨#[63]⟩ 1 := Cd.lit (l := [63]) [63] rfl rfl
  obtain ⟨y, hy, py⟩ := pickS (P := fun x => Cd x (dB (deep - 1).toNat + 4)) [⟨#[59]⟩, ⟨#[58]⟩ ++ s4 ++ ⟨#[59]⟩, ⟨#[58, 194, 161, 59]⟩] (by
    intro x hx; simp only [List.mem_cons, List.not_mem_nil, or_false] at hx
    rcases hx with rfl | rfl | rfl
    · exact q2.le (by omega)
    · exact ((q1.app c4).app q2).le (by omega)
    · exact (Cd.lit (l := [58, 194, 161, 59]) [58, 161, 59] rfl rfl).le (by simp)) x0 x1
  have hy' : ([.str ⟨#[59]⟩, .str (⟨#[58]⟩ ++ s4 ++ ⟨#[59]⟩), .str ⟨#[58, 194, 161, 59]⟩] : List AV)[x.toNat]? = some (.str y) := hy
  have z5 := py.size
  have g1 : s1.size + 1 ≤ 9223372036854775807 := by omega
  have g2 : s1.size + 1 + s3.size ≤ 9223372036854775807 := by omega
  have g3 : 1 + s4.size ≤ 9223372036854775807 := by omega
  have g4 : 1 + s4.size + 1 ≤ 9223372036854775807 := by omega
  have g5 : s1.size + 1 + s3.size + y.size ≤ 9223372036854775807 := by omega
  have w1 : IntKind.i64.wrap (deep - 1) = deep - 1 := w64 (by omega) (by omega)
  have hk := hK _ h5 ((((c1.app q3).app c3).app py).le (by omega)) (U3.trans (u4.trans ((Up.alloc _ _).trans u5))) t5
  subst hc
  simp [f_engramkeep_Tape_deed, env0, go_sem, e1, hd, e2, sb_add, sz_lit, g1, w1, e3, e4, ByteArray.size_append, g2, e5, g3, g4, evParts, fillA, splice, e6, indexIn, x0, x1]
  simp [-getElem?_pos, go_sem, hg, hy', sb_add, sz_lit, ByteArray.size_append, g5]
  simp [go_sem, endP, endI, resultsA, resultA, freezeL, freezeV, AV.free.freeL, AV.free, packA, dropS]
  exact ⟨_, _, ⟨rfl, rfl⟩, hk⟩
theorem deed_D (hb : bar ≤ T) (e1 : call tb prim n_engramkeep_Tape_Next [.ptr T 0, .int .i64 9] bar h = some (.int .i64 k, h1)) (u1 : Up T h h1) (t1 : TS h1 T L) (hv : FV h fa fs) (hfa : ¬ fa.isAt T) (ih : DSpec L fs (deep - 1)) (hd : 0 < deep) (hd2 : deep ≤ 3) (hc : k = 6) : DOut L deep bar T h fa := by
  refine deed_of hb fun K hK => ?_
  obtain ⟨v, h2, e2, v0, v1, _, u2, t2⟩ := Next_ok (bar := bar) t1 3 (by omega) (by omega) hb
  obtain ⟨x, h3, e3, x0, x1, _, u3, t3⟩ := Next_ok (bar := bar) t2 5 (by omega) (by omega) hb
  obtain ⟨s, ds, e4, w, hds, hne, hl, hsz⟩ := digits_ok 3 (1 + x) (by omega) (by omega) (by omega) bar h3
  have U3 := u1.trans (u2.trans u3)
  obtain ⟨s2, h4, e5, c2, u4, t4⟩ := ih bar T h3 fa hb t3 (Vw.up hv U3 hfa) hfa
  have hB : dB deep.toNat = 2 * dB (deep - 1).toNat + 23 := by
    have : deep.toNat = (deep - 1).toNat + 1 := by omega
    rw [this]; rfl
  have hM : dB (deep - 1).toNat ≤ dB 2 := dB_mono (by omega)
  have h8 : dB 2 = 321 := rfl
  have z2 := c2.size
  obtain ⟨s3, e6, hs3⟩ := live_ok (bar := bar) (h := h4) s2 (by omega)
  have c3 : Cd s3 (dB (deep - 1).toNat) := by
    rcases hs3 with rfl | rfl
    · exact c2
    · exact Cd.nil.le (by omega)
  have z3 := c3.size
  have c0 : Cd (⟨#[32]⟩ ++ s) 5 := ⟨_, (Code.num w hds hne (by omega)).le (by omega)⟩
  have w1 : IntKind.i64.wrap (120 + v) = 120 + v := w64 (by omega) (by omega)
  have w2 : IntKind.i32.wrap (120 + v) = 120 + v := w32 (by omega) (by omega)
  have w3 : IntKind.i64.wrap (1 + x) = 1 + x := w64 (by omega) (by omega)
  have w4 : IntKind.i64.wrap (deep - 1) = deep - 1 := w64 (by omega) (by omega)
  have w5 : IntKind.u8.wrap (120 + v - 32) = 88 + v := by rw [IntKind.wrap_u8]; omega
  have w6 : IntKind.i32.wrap (88 + v) = 88 + v := w32 (by omega) (by omega)
  have qx : Cd (Utf8.encode (120 + v)) 1 := Cd.letter (by omega)
  have qu : Cd (Utf8.encode (88 + v)) 1 := Cd.letter (by omega)
  have y1 := (Wt_asc (x := 120 + v) (by omega) (by omega)).2
  have y2 := (Wt_asc (x := 88 + v) (by omega) (by omega)).2
  have hx0 : ∀ p, (((Utf8.encode (120 + v)).data[0]'p).toNat : Int) = 120 + v := by
    rw [enc_asc (by omega) (by omega)]
    intro p
    show ((UInt8.ofNat (120 + v).toNat).toNat : Int) = _
    rw [UInt8.toNat_ofNat']; omega
  have g1 : 1 + s.size ≤ 9223372036854775807 := by omega
  have g2 : 1 + s.size + 1 ≤ 9223372036854775807 := by omega
  have g3 : 1 + s.size + 1 + 1 ≤ 9223372036854775807 := by omega
  have g4 : 1 + s.size + 1 + 1 + 1 ≤ 9223372036854775807 := by omega
  have g5 : 1 + s.size + 1 + 1 + 1 + 4 ≤ 9223372036854775807 := by omega
  have g6 : 1 + s.size + 1 + 1 + 1 + 4 + s3.size ≤ 9223372036854775807 := by omega
  have g7 : 1 + s.size + 1 + 1 + 1 + 4 + s3.size + 1 ≤ 9223372036854775807 := by omega
  have g8 : 1 + s.size + 1 + 1 + 1 + 4 + s3.size + 1 + 3 ≤ 9223372036854775807 := by omega
  have g9 : 1 + s.size + 1 + 1 + 1 + 4 + s3.size + 1 + 3 + 1 ≤ 9223372036854775807 := by omega
  have ga : 1 + s.size + 1 + 1 + 1 + 4 + s3.size + 1 + 3 + 1 + 1 ≤ 9223372036854775807 := by omega
  have hk := hK _ h4 ((Cd.loop c0 qu qx c3).le (by omega)) (U3.trans u4) t4
  subst hc
  simp [f_engramkeep_Tape_deed, env0, go_sem, e1, hd, e2, w1, w2]
  simp [-getElem?_pos, go_sem, hx0, w5, w6, e3, w3, e4, y1, y2, sb_add, sz_lit, ByteArray.size_append, indexIn]
  simp [-getElem?_pos, go_sem, hx0, w5, w6, sb_add, sz_lit, ByteArray.size_append, y1, y2, g1, g2, g3, g4, g5, w4, e5, e6, g6, g7, g8, g9, ga]
  simp [go_sem, endP, endI, resultsA, resultA, freezeL, freezeV, AV.free.freeL, AV.free, packA, dropS]
  exact ⟨_, _, ⟨rfl, rfl⟩, hk⟩
theorem deed_E (hb : bar ≤ T) (e1 : call tb prim n_engramkeep_Tape_Next [.ptr T 0, .int .i64 9] bar h = some (.int .i64 k, h1)) (u1 : Up T h h1) (t1 : TS h1 T L) (hv : FV h fa fs) (hfa : ¬ fa.isAt T) (hc : k = 7) : DOut L deep bar T h fa := by
  refine deed_of hb fun K hK => ?_
  obtain ⟨s1, h2, e2, c1, u2, t2⟩ := hv2 bar T h1 fa hb t1 (Vw.up hv u1 hfa) hfa
  have hT := t2.lt
  have c1 : Cd s1 57 := c1.cd
  have z1 := c1.size
  obtain ⟨x, h3, e3, x0, x1, _, u3, t3⟩ := Next_ok (bar := bar) (t2.alloc (.cells [.str ⟨#[]⟩, .str ⟨#[194, 161]⟩] 0)) 9 (by omega) (by omega) hb
  have hg : h3.get h2.n = some (.cells [.str ⟨#[]⟩, .str ⟨#[194, 161]⟩] 0) := by
    rw [u3.2 h2.n (by simp [n_alloc]) (by omega), get_alloc, if_pos rfl]
  have w1 : IntKind.i64.wrap (x.tdiv 8) = x / 8 := by rw [Int.tdiv_eq_ediv_of_nonneg x0]; exact w64 (by omega) (by omega)
  have x2 : 0 ≤ x / 8 := by omega
  have x3 : x / 8 < 2 := by omega
  obtain ⟨y, hy, py⟩ := pickS (P := fun x => Cd x 2) [⟨#[]⟩, ⟨#[194, 161]⟩] (by
    intro x hx; simp only [List.mem_cons, List.not_mem_nil, or_false] at hx
    rcases hx with rfl | rfl
    · exact Cd.nil.le (by simp)
    · exact Cd.lit (l := [194, 161]) [161] rfl rfl) x2 x3
  have hy' : ([.str ⟨#[]⟩, .str ⟨#[194, 161]⟩] : List AV)[(x / 8).toNat]? = some (.str y) := hy
  have z2 := py.size
  have q : Cd ⟨#[44]⟩ 1 := Cd.lit (l := [44]) [44] rfl rfl
  have g1 : s1.size + 1 ≤ 9223372036854775807 := by omega
  have g2 : s1.size + 1 + y.size ≤ 9223372036854775807 := by omega
  have hk := hK _ h3 (((c1.app q).app py).le (by have := dB_ge deep.toNat; omega)) (u1.trans (u2.trans ((Up.alloc _ _).trans u3))) t3
  subst hc
  simp [f_engramkeep_Tape_deed, env0, go_sem, e1, e2, sb_add, sz_lit, g1, evParts, fillA, splice, e3, w1, indexIn, x2, x3]
  simp [-getElem?_pos, go_sem, hg, hy', sb_add, sz_lit, ByteArray.size_append, g2]
  simp [go_sem, endP, endI, resultsA, resultA, freezeL, freezeV, AV.free.freeL, AV.free, packA, dropS]
  exact ⟨_, _, ⟨rfl, rfl⟩, hk⟩
theorem deed_F (hb : bar ≤ T) (e1 : call tb prim n_engramkeep_Tape_Next [.ptr T 0, .int .i64 9] bar h = some (.int .i64 k, h1)) (u1 : Up T h h1) (t1 : TS h1 T L) (hv : FV h fa fs) (hfa : ¬ fa.isAt T) (hc : ¬ k < 5) (hc2 : k = 5 → ¬ 0 < deep) (hc3 : k = 6 → ¬ 0 < deep) (hc4 : k ≠ 7) : DOut L deep bar T h fa := by
  refine deed_of hb fun K hK => ?_
  obtain ⟨s1, h2, e2, c1, u2, t2⟩ := hv1 bar T h1 fa hb t1 (Vw.up hv u1 hfa) hfa
  have c1 : Cd s1 18 := c1.cd
  have z1 := c1.size
  have q : Cd ⟨#[90]⟩ 1 := Cd.lit (l := [90]) [90] rfl rfl
  have g1 : s1.size + 1 ≤ 9223372036854775807 := by omega
  have hk := hK _ h2 ((c1.app q).le (by have := dB_ge deep.toNat; omega)) (u1.trans u2) t2
  have c3 : ¬ k < 3 := by omega
  by_cases a5 : k = 5
  · have := hc2 a5
    subst a5
    simp [f_engramkeep_Tape_deed, env0, go_sem, e1, this, e2, sb_add, sz_lit, g1]
    simp [go_sem, endP, endI, resultsA, resultA, freezeL, freezeV, AV.free.freeL, AV.free, packA, dropS]
    exact ⟨_, _, ⟨rfl, rfl⟩, hk⟩
  by_cases a6 : k = 6
  · have := hc3 a6
    subst a6
    simp [f_engramkeep_Tape_deed, env0, go_sem, e1, this, e2, sb_add, sz_lit, g1]
    simp [go_sem, endP, endI, resultsA, resultA, freezeL, freezeV, AV.free.freeL, AV.free, packA, dropS]
    exact ⟨_, _, ⟨rfl, rfl⟩, hk⟩
  have b5 : (k == 5) = false := by simpa using a5
  have b6 : (k == 6) = false := by simpa using a6
  have b7 : (k == 7) = false := by simpa using hc4
  simp [f_engramkeep_Tape_deed, env0, go_sem, e1, c3, hc, b5, b6, b7, e2, sb_add, sz_lit, g1]
  simp [go_sem, endP, endI, resultsA, resultA, freezeL, freezeV, AV.free.freeL, AV.free, packA, dropS]
  exact ⟨_, _, ⟨rfl, rfl⟩, hk⟩
theorem deed_ok : ∀ (d : Nat) (deep : Int), deep ≤ d → d ≤ 3 → DSpec L fs deep := by
  intro d
  induction d with
  | zero =>
    intro deep h1 _ bar T h fa hb ht hv hfa
    obtain ⟨k, h1, e1, k0, k1, _, u1, t1⟩ := Next_ok (bar := bar) ht 9 (by omega) (by omega) hb
    by_cases c1 : k < 3
    · exact deed_A hv2 hv1 hb e1 u1 t1 hv hfa c1
    by_cases c2 : k < 5
    · exact deed_B hv2 hv1 hb e1 u1 t1 hv hfa c1 c2
    by_cases c3 : k = 7
    · exact deed_E hv2 hv1 hb e1 u1 t1 hv hfa c3
    · exact deed_F hv2 hv1 hb e1 u1 t1 hv hfa c2 (by omega) (by omega) c3
  | succ d ih =>
    intro deep h1 h2 bar T h fa hb ht hv hfa
    obtain ⟨k, h1, e1, k0, k1, _, u1, t1⟩ := Next_ok (bar := bar) ht 9 (by omega) (by omega) hb
    have i1 := ih (deep - 1) (by omega) (by omega)
    by_cases c1 : k < 3
    · exact deed_A hv2 hv1 hb e1 u1 t1 hv hfa c1
    by_cases c2 : k < 5
    · exact deed_B hv2 hv1 hb e1 u1 t1 hv hfa c1 c2
    by_cases c3 : k = 7
    · exact deed_E hv2 hv1 hb e1 u1 t1 hv hfa c3
    by_cases c4 : k = 5 ∧ 0 < deep
    · exact deed_C hv2 hv1 hb e1 u1 t1 hv hfa i1 c4.2 (by omega) c4.1
    by_cases c5 : k = 6 ∧ 0 < deep
    · exact deed_D hv2 hv1 hb e1 u1 t1 hv hfa i1 c5.2 (by omega) c5.1
    · exact deed_F hv2 hv1 hb e1 u1 t1 hv hfa c2 (by omega) (by omega) c3
end
end Go.Ev
