/- What the seat's proofs lean on, part 6: the executor over abstract values, its soundness, and what the program's functions answer (Sp32, Trf1, Tel2, Tel3, Tel4, Tel5, Trf2). -/
import Derived.Test.YtdngkocecdikcaaDoorEng05
set_option linter.all false
set_option linter.unusedVariables false
set_option linter.unusedSimpArgs false
set_option linter.unusedVariables false
set_option linter.unusedSimpArgs false
set_option maxRecDepth 20000
namespace Go.Eng
open Go
theorem ix_hit {α : Type} {p : α → Bool} {l : List α} (h : 0 ≤ ix p l) : ∃ a, l[(ix p l).toNat]? = some a ∧ p a = true := by
  induction l with
  | nil => simp [ix] at h
  | cons a r ih =>
    have hr := ix_lo p r
    simp only [ix] at h ⊢
    by_cases hp : p a = true
    · simp only [hp, if_true]; exact ⟨a, rfl, hp⟩
    · simp only [hp] at h ⊢
      by_cases h1 : ix p r < 0
      · simp [h1] at h
      · simp only [h1, if_false] at h ⊢
        obtain ⟨b, g1, g2⟩ := ih (by omega)
        refine ⟨b, ?_, g2⟩
        have : (ix p r + 1).toNat = (ix p r).toNat + 1 := by omega
        simp only [Bool.false_eq_true, if_false]
        rw [this, List.getElem?_cons_succ]
        exact g1
def wAt (W : List (List UInt8)) (i : Nat) : List UInt8 := W.getD i []
theorem texts_w {W : List (List UInt8)} {i : Nat} (h : i < W.length) {n : Int} (hn : n = i) : (W.map fun l => [str l])[n.toNat]? = some [str (wAt W i)] := by
  subst hn
  unfold wAt
  simp [List.getD_eq_getElem?_getD, h]
def numA (W : List (List UInt8)) (i : Nat) : Int := if i < W.length then atoiV (wAt W i) else 0
def evIx (w : List UInt8) : Int := ix (fun k => evL k == w) (List.range 9)
def parseR (W : List (List UInt8)) : TRow :=
  if wAt W 0 = wCall then ⟨0, numA W 1, if 2 < W.length then evIx (wAt W 2) else -1, numA W 3, numA W 4, numA W 5, numA W 6, 0⟩
  else if wAt W 0 = wStep then ⟨1, numA W 1, 0, 0, 0, 0, 0, numA W 2⟩
  else if wAt W 0 = wDone then ⟨2, numA W 1, 0, 0, 0, 0, 0, numA W 2⟩
  else if wAt W 0 = wResult then ⟨3, 0, numA W 1, numA W 2, numA W 3, 0, 0, numA W 4⟩
  else ⟨-1, 0, 0, 0, 0, 0, 0, 0⟩
def trimW (w : List UInt8) : List UInt8 := Lib.trimPrefix w [45]
def longW (w : List UInt8) : Bool := decide ((trimW w).length > 15)
@[irreducible] def readR (s : List UInt8) : TRow × Int :=
  if s = [] ∨ rowV (parseR (splitL 32 s)) ≠ s ∨ (splitL 32 s).any longW = true then (zeroR, 13) else (parseR (splitL 32 s), 0)
theorem trim_cons (c : UInt8) (r : List UInt8) : trimW (c :: r) = if c = 45 then r else c :: r := by
  unfold trimW Lib.trimPrefix Lib.hasPrefix
  by_cases h : c = 45
  · subst h; simp
  · rw [if_neg h, if_neg]; simp [Ne.symm h, h]
theorem trim_it (n : Int) : trimW (it n) = Lib.decDigits n.natAbs ∧ ((trimW (it n)).length < (it n).length ↔ n < 0) := by
  unfold it Lib.itoa
  split
  · rename_i h
    rw [trim_cons, if_pos rfl]
    exact ⟨rfl, by simp; exact h⟩
  · rename_i h
    obtain ⟨d1, d2, d3⟩ := dec_spec n.toNat
    have e : n.toNat = n.natAbs := by omega
    rw [e] at d1 d3 ⊢
    generalize Lib.decDigits n.natAbs = l at *
    cases l with
    | nil => exact absurd rfl d3
    | cons c r =>
      have hc := d1 c (by simp)
      unfold isDig at hc
      rw [trim_cons, if_neg (by rintro rfl; revert hc; decide)]
      exact ⟨rfl, by simp; omega⟩
theorem long_it (n : Int) : longW (it n) = !decide (sh15 n) := by
  unfold longW
  rw [(trim_it n).1]
  have h := dec_lt 14 n.natAbs
  have e : (10 : Nat) ^ (14 + 1) = 1000000000000000 := by decide
  rw [e] at h
  generalize (Lib.decDigits n.natAbs).length = L at *
  by_cases hn : n.natAbs < 1000000000000000
  · have := h.2 hn
    rw [decide_eq_false (by omega), decide_eq_true (by unfold sh15; omega)]; rfl
  · have : ¬ L ≤ 14 + 1 := fun hh => hn (h.1 hh)
    rw [decide_eq_true (by omega), decide_eq_false (by unfold sh15; omega)]; rfl
theorem ev_more : ∀ k : _root_.Fin 9, longW (evL k.val) = false ∧ evIx (evL k.val) = (k.val : Int) := by decide +kernel
theorem w_long : longW wCall = false ∧ longW wStep = false ∧ longW wDone = false ∧ longW wResult = false := by decide +kernel
theorem w_ne : wStep ≠ wCall ∧ wDone ≠ wCall ∧ wDone ≠ wStep ∧ wResult ≠ wCall ∧ wResult ≠ wStep ∧ wResult ≠ wDone := by decide
theorem atoi_it {n : Int} (h : sh15 n) : atoiV (it n) = n := by
  unfold sh15 at h
  unfold atoiV it
  rw [atoi_itoa (by omega) (by omega)]
theorem parse_words {r : TRow} (ht : toldB r = true) (hs : shortB r = true) : parseR (wordsR r) = r := by
  have h := told_iff.1 ht
  obtain ⟨s1, s2, s3, s4, s5, s6, s7⟩ := short_iff.1 hs
  obtain ⟨n1, n2, n3, n4, n5, n6⟩ := w_ne
  obtain ⟨kind, prog, type, node, target, related, phase, err⟩ := r
  dsimp only at *
  unfold wordsR parseR
  dsimp only
  by_cases k0 : kind = 0
  · subst k0
    have hty : 0 ≤ type ∧ type ≤ 8 ∧ err = 0 := by rcases h with h | h | h <;> omega
    have hev := (ev_more ⟨type.toNat, by omega⟩).2
    simp only at hev
    simp only [if_true, wAt, numA, List.getD_cons_zero, List.getD_cons_succ, List.length_cons, List.length_nil]
    simp only [show (0 : Nat) + 1 + 1 + 1 + 1 + 1 + 1 + 1 = 7 from rfl, show 1 < 7 from by decide, show 2 < 7 from by decide, show 3 < 7 from by decide, show 4 < 7 from by decide, show 5 < 7 from by decide, show 6 < 7 from by decide, if_true, atoi_it s1, atoi_it s3, atoi_it s4, atoi_it s5, atoi_it s6, hev]
    simp only [TRow.mk.injEq, true_and, and_true]
    omega
  · rw [if_neg k0]
    by_cases k1 : kind = 1
    · subst k1
      simp only [if_true, wAt, numA, List.getD_cons_zero, List.getD_cons_succ, List.length_cons, List.length_nil, n1, if_false]
      simp only [show (0 : Nat) + 1 + 1 + 1 = 3 from rfl, show 1 < 3 from by decide, show 2 < 3 from by decide, if_true, atoi_it s1, atoi_it s7]
      simp only [TRow.mk.injEq, true_and, and_true]
      omega
    · rw [if_neg k1]
      by_cases k2 : kind = 2
      · subst k2
        simp only [if_true, wAt, numA, List.getD_cons_zero, List.getD_cons_succ, List.length_cons, List.length_nil, n2, n3, if_false]
        simp only [show (0 : Nat) + 1 + 1 + 1 = 3 from rfl, show 1 < 3 from by decide, show 2 < 3 from by decide, if_true, atoi_it s1, atoi_it s7]
        simp only [TRow.mk.injEq, true_and, and_true]
        omega
      · rw [if_neg k2]
        simp only [if_true, wAt, numA, List.getD_cons_zero, List.getD_cons_succ, List.length_cons, List.length_nil, n4, n5, n6, if_false]
        simp only [show (0 : Nat) + 1 + 1 + 1 + 1 + 1 = 5 from rfl, show 1 < 5 from by decide, show 2 < 5 from by decide, show 3 < 5 from by decide, show 4 < 5 from by decide, if_true, atoi_it s2, atoi_it s3, atoi_it s4, atoi_it s7]
        simp only [TRow.mk.injEq, true_and, and_true]
        omega
theorem words_long {r : TRow} (ht : toldB r = true) : (wordsR r).any longW = false ↔ shortB r = true := by
  have h := told_iff.1 ht
  obtain ⟨l1, l2, l3, l4⟩ := w_long
  rw [short_iff]
  obtain ⟨kind, prog, type, node, target, related, phase, err⟩ := r
  dsimp only at *
  unfold wordsR
  dsimp only
  have z : sh15 0 := by unfold sh15; omega
  have small : ∀ n : Int, 0 ≤ n ∧ n ≤ 8 → sh15 n := fun n hn => by unfold sh15; omega
  by_cases k0 : kind = 0
  · subst k0
    have hty : 0 ≤ type ∧ type ≤ 8 ∧ err = 0 := by rcases h with h | h | h <;> omega
    have hev := (ev_more ⟨type.toNat, by omega⟩).1
    simp only at hev
    have := small type ⟨hty.1, hty.2.1⟩
    rw [hty.2.2]
    simp only [if_true, List.any_cons, List.any_nil, l1, hev, long_it, Bool.false_or, Bool.or_false, Bool.or_eq_false_iff, Bool.not_eq_false', decide_eq_true_eq]
    grind
  · rw [if_neg k0]
    by_cases k1 : kind = 1
    · subst k1
      have hz : type = 0 ∧ node = 0 ∧ target = 0 ∧ related = 0 ∧ phase = 0 := by rcases h with h | h | h <;> omega
      obtain ⟨rfl, rfl, rfl, rfl, rfl⟩ := hz
      simp only [if_true, List.any_cons, List.any_nil, l2, long_it, Bool.false_or, Bool.or_false, Bool.or_eq_false_iff, Bool.not_eq_false', decide_eq_true_eq]
      grind
    · rw [if_neg k1]
      by_cases k2 : kind = 2
      · subst k2
        have hz : type = 0 ∧ node = 0 ∧ target = 0 ∧ related = 0 ∧ phase = 0 := by rcases h with h | h | h <;> omega
        obtain ⟨rfl, rfl, rfl, rfl, rfl⟩ := hz
        simp only [if_true, List.any_cons, List.any_nil, l3, long_it, Bool.false_or, Bool.or_false, Bool.or_eq_false_iff, Bool.not_eq_false', decide_eq_true_eq]
        grind
      · rw [if_neg k2]
        have hz : prog = 0 ∧ related = 0 ∧ phase = 0 := by rcases h with h | h | h <;> omega
        obtain ⟨rfl, rfl, rfl⟩ := hz
        simp only [if_true, List.any_cons, List.any_nil, l4, long_it, Bool.false_or, Bool.or_false, Bool.or_eq_false_iff, Bool.not_eq_false', decide_eq_true_eq]
        grind
theorem read_iff {s : List UInt8} {r : TRow} : readR s = (r, 0) ↔ toldB r = true ∧ shortB r = true ∧ rowV r = s := by
  constructor
  · intro h
    unfold readR at h
    split at h
    · simp at h
    · rename_i hn
      simp only [not_or] at hn
      obtain ⟨h1, h2, h3⟩ := hn
      have h2 : rowV (parseR (splitL 32 s)) = s := by simpa using h2
      simp only [Prod.mk.injEq, and_true] at h
      subst h
      have ht : toldB (parseR (splitL 32 s)) = true := by
        cases hb : toldB (parseR (splitL 32 s))
        · unfold rowV at h2; rw [hb] at h2; exact absurd h2.symm h1
        · rfl
      refine ⟨ht, ?_, h2⟩
      have hw := split_row ht
      rw [h2] at hw
      rw [← words_long ht, ← hw]
      simpa using h3
  · rintro ⟨h1, h2, rfl⟩
    have hw := split_row h1
    unfold readR
    rw [hw, parse_words h1 h2, if_neg]
    simp only [not_or]
    refine ⟨rowV_ne h1, by simp, ?_⟩
    rw [(words_long h1).2 h2]; simp
theorem read_bad {s : List UInt8} (h : (readR s).2 ≠ 0) : readR s = (zeroR, 13) := by
  unfold readR at *
  split
  · rfl
  · rename_i hn; rw [if_neg hn] at h; simp at h
def fold15 (acc : Int) (t : List UInt8) : Int := t.foldl (fun a c => 10 * a + c.toNat - 48) acc
@[irreducible] def rd1 (s : List UInt8) : Int × Bool :=
  if (trimW s).length > 15 then (0, false)
  else (if (trimW s).length < s.length then -(fold15 0 (trimW s)) else fold15 0 (trimW s), decide (it (if (trimW s).length < s.length then -(fold15 0 (trimW s)) else fold15 0 (trimW s)) = s))
theorem fold_spell (l : List UInt8) : ∀ acc : Nat, (∀ c ∈ l, isDig c) → fold15 acc l = (spell acc l : Nat) := by
  induction l with
  | nil => intro acc _; rfl
  | cons c r ih =>
    intro acc h
    have hc := h c (by simp)
    unfold isDig at hc
    show fold15 (10 * (acc : Int) + c.toNat - 48) r = ((spell (acc * 10 + (c.toNat - 48)) r : Nat) : Int)
    rw [← ih _ (fun x hx => h x (by simp [hx]))]
    congr 1
    omega
theorem rd1_it {n : Int} (h : sh15 n) : rd1 (it n) = (n, true) := by
  obtain ⟨h1, h2⟩ := trim_it n
  obtain ⟨d1, d2, d3⟩ := dec_spec n.natAbs
  have hl := long_it n
  unfold longW at hl
  rw [decide_eq_true h] at hl
  have hl : ¬ (trimW (it n)).length > 15 := by simpa using hl
  have hf : fold15 0 (trimW (it n)) = (n.natAbs : Int) := by
    have := fold_spell (Lib.decDigits n.natAbs) 0 d1
    rw [d2] at this
    rw [h1]; exact this
  unfold rd1
  rw [if_neg hl, hf]
  by_cases hn : n < 0
  · rw [if_pos (h2.2 hn)]
    have : -(n.natAbs : Int) = n := by omega
    rw [this]; simp
  · rw [if_neg (fun x => hn (h2.1 x))]
    have : (n.natAbs : Int) = n := by omega
    rw [this]; simp
theorem rd1_ok {s : List UInt8} (h : (rd1 s).2 = true) : sh15 (rd1 s).1 ∧ it (rd1 s).1 = s := by
  unfold rd1 at *
  split at h
  · simp at h
  · rename_i hl
    rw [if_neg hl]
    simp only [decide_eq_true_eq] at h ⊢
    refine ⟨?_, h⟩
    generalize (if (trimW s).length < s.length then -(fold15 0 (trimW s)) else fold15 0 (trimW s)) = n at *
    have h1 := long_it n
    rw [h] at h1
    unfold longW at h1
    rw [decide_eq_false hl] at h1
    simpa using h1.symm
def nAt (W : List (List UInt8)) (i : Nat) : Int := (rd1 (wAt W i)).1
def numsOk (l : List (List UInt8)) : Bool := l.all fun w => (rd1 w).2
@[irreducible] def docR (W : List (List UInt8)) : TRow × Bool :=
  if wAt W 0 = wCall ∧ W.length = 7 then
    if numsOk (W.drop 3) = true ∧ (rd1 (wAt W 1)).2 = true ∧ 0 ≤ evIx (wAt W 2) then (⟨0, nAt W 1, evIx (wAt W 2), nAt W 3, nAt W 4, nAt W 5, nAt W 6, 0⟩, true) else (zeroR, false)
  else if numsOk (W.drop 1) = true then
    if wAt W 0 = wStep ∧ W.length = 3 then (⟨1, nAt W 1, 0, 0, 0, 0, 0, nAt W 2⟩, true)
    else if wAt W 0 = wDone ∧ W.length = 3 then (⟨2, nAt W 1, 0, 0, 0, 0, 0, nAt W 2⟩, true)
    else if wAt W 0 = wResult ∧ W.length = 5 then (⟨3, 0, nAt W 1, nAt W 2, nAt W 3, 0, 0, nAt W 4⟩, true)
    else (zeroR, false)
  else (zeroR, false)
theorem evIx_hit {w : List UInt8} (h : 0 ≤ evIx w) : evIx w ≤ 8 ∧ evL (evIx w).toNat = w := by
  have hl := ix_lo (fun k => evL k == w) (List.range 9)
  unfold evIx at *
  obtain ⟨a, h1, h2⟩ := ix_hit h
  have hlt : (ix (fun k => evL k == w) (List.range 9)).toNat < 9 := by
    have := (List.getElem?_eq_some_iff.1 h1).1
    simpa using this
  rw [List.getElem?_range hlt] at h1
  injection h1 with h1
  subst h1
  exact ⟨by omega, by simpa using h2⟩
theorem doc_ok {W : List (List UInt8)} (h : (docR W).2 = true) : toldB (docR W).1 = true ∧ shortB (docR W).1 = true ∧ wordsR (docR W).1 = W := by
  have z : sh15 0 := by unfold sh15; omega
  unfold docR at h ⊢
  split at h
  · rename_i hc
    rw [if_pos hc]
    split at h
    · rename_i hk
      rw [if_pos hk]
      obtain ⟨hc1, hc2⟩ := hc
      obtain ⟨k1, k2, k3⟩ := hk
      obtain ⟨e1, e2⟩ := evIx_hit k3
      match W, hc2 with
      | [w0, w1, w2, w3, w4, w5, w6], _ =>
        simp only [wAt, nAt, List.getD_cons_zero, List.getD_cons_succ] at *
        simp only [numsOk, List.drop_succ_cons, List.drop_zero, List.all_cons, List.all_nil, Bool.and_eq_true, Bool.and_true] at k1
        obtain ⟨g3, g4, g5, g6⟩ := k1
        obtain ⟨a1, b1⟩ := rd1_ok k2
        obtain ⟨a3, b3⟩ := rd1_ok g3
        obtain ⟨a4, b4⟩ := rd1_ok g4
        obtain ⟨a5, b5⟩ := rd1_ok g5
        obtain ⟨a6, b6⟩ := rd1_ok g6
        refine ⟨told_iff.2 (.inl ⟨rfl, rfl, k3, e1⟩), short_iff.2 ⟨a1, by unfold sh15; dsimp only; omega, a3, a4, a5, a6, z⟩, ?_⟩
        unfold wordsR
        simp only [if_true, b1, b3, b4, b5, b6, e2, hc1]
    · simp at h
  · rename_i hc
    rw [if_neg hc]
    split at h
    · rename_i hn
      rw [if_pos hn]
      split at h
      · rename_i h1
        rw [if_pos h1]
        obtain ⟨h1, h2⟩ := h1
        match W, h2 with
        | [w0, w1, w2], _ =>
          simp only [wAt, nAt, List.getD_cons_zero, List.getD_cons_succ] at *
          simp only [numsOk, List.drop_succ_cons, List.drop_zero, List.all_cons, List.all_nil, Bool.and_eq_true, Bool.and_true] at hn
          obtain ⟨a1, b1⟩ := rd1_ok hn.1
          obtain ⟨a2, b2⟩ := rd1_ok hn.2
          refine ⟨told_iff.2 (.inr (.inl ⟨.inl rfl, rfl, rfl, rfl, rfl, rfl⟩)), short_iff.2 ⟨a1, z, z, z, z, z, a2⟩, ?_⟩
          unfold wordsR
          simp [b1, b2, h1]
      · rename_i h1
        rw [if_neg h1]
        split at h
        · rename_i h2
          rw [if_pos h2]
          obtain ⟨h2, h3⟩ := h2
          match W, h3 with
          | [w0, w1, w2], _ =>
            simp only [wAt, nAt, List.getD_cons_zero, List.getD_cons_succ] at *
            simp only [numsOk, List.drop_succ_cons, List.drop_zero, List.all_cons, List.all_nil, Bool.and_eq_true, Bool.and_true] at hn
            obtain ⟨a1, b1⟩ := rd1_ok hn.1
            obtain ⟨a2, b2⟩ := rd1_ok hn.2
            refine ⟨told_iff.2 (.inr (.inl ⟨.inr rfl, rfl, rfl, rfl, rfl, rfl⟩)), short_iff.2 ⟨a1, z, z, z, z, z, a2⟩, ?_⟩
            unfold wordsR
            simp [b1, b2, h2]
        · rename_i h2
          rw [if_neg h2]
          split at h
          · rename_i h3
            rw [if_pos h3]
            obtain ⟨h3, h4⟩ := h3
            match W, h4 with
            | [w0, w1, w2, w3, w4], _ =>
              simp only [wAt, nAt, List.getD_cons_zero, List.getD_cons_succ] at *
              simp only [numsOk, List.drop_succ_cons, List.drop_zero, List.all_cons, List.all_nil, Bool.and_eq_true, Bool.and_true] at hn
              obtain ⟨g1, g2, g3, g4⟩ := hn
              obtain ⟨a1, b1⟩ := rd1_ok g1
              obtain ⟨a2, b2⟩ := rd1_ok g2
              obtain ⟨a3, b3⟩ := rd1_ok g3
              obtain ⟨a4, b4⟩ := rd1_ok g4
              refine ⟨told_iff.2 (.inr (.inr ⟨rfl, rfl, rfl, rfl⟩)), short_iff.2 ⟨z, a1, a2, a3, z, z, a4⟩, ?_⟩
              unfold wordsR
              simp [b1, b2, b3, b4, h3]
          · simp at h
    · simp at h
theorem doc_words {r : TRow} (ht : toldB r = true) (hs : shortB r = true) : docR (wordsR r) = (r, true) := by
  have h := told_iff.1 ht
  obtain ⟨s1, s2, s3, s4, s5, s6, s7⟩ := short_iff.1 hs
  obtain ⟨n1, n2, n3, n4, n5, n6⟩ := w_ne
  obtain ⟨kind, prog, type, node, target, related, phase, err⟩ := r
  dsimp only at *
  unfold wordsR docR
  dsimp only
  by_cases k0 : kind = 0
  · subst k0
    have hty : 0 ≤ type ∧ type ≤ 8 ∧ err = 0 := by rcases h with h | h | h <;> omega
    have hev := (ev_more ⟨type.toNat, by omega⟩).2
    simp only at hev
    have hp : (0 : Int) ≤ (type.toNat : Int) := by omega
    simp only [if_true, wAt, nAt, numsOk, List.getD_cons_zero, List.getD_cons_succ, List.length_cons, List.length_nil, List.drop_succ_cons, List.drop_zero, List.all_cons, List.all_nil, rd1_it s1, rd1_it s3, rd1_it s4, rd1_it s5, rd1_it s6, hev, hp, Bool.and_true, and_true, true_and]
    simp only [Prod.mk.injEq, TRow.mk.injEq, true_and, and_true]
    omega
  · rw [if_neg k0]
    by_cases k1 : kind = 1
    · subst k1
      simp only [if_true, wAt, nAt, numsOk, List.getD_cons_zero, List.getD_cons_succ, List.length_cons, List.length_nil, List.drop_succ_cons, List.drop_zero, List.all_cons, List.all_nil, rd1_it s1, rd1_it s7, n1, Bool.and_true, and_true, true_and, false_and, if_false]
      simp only [Prod.mk.injEq, TRow.mk.injEq, true_and, and_true]
      omega
    · rw [if_neg k1]
      by_cases k2 : kind = 2
      · subst k2
        simp only [if_true, wAt, nAt, numsOk, List.getD_cons_zero, List.getD_cons_succ, List.length_cons, List.length_nil, List.drop_succ_cons, List.drop_zero, List.all_cons, List.all_nil, rd1_it s1, rd1_it s7, n2, n3, Bool.and_true, and_true, true_and, false_and, if_false]
        simp only [Prod.mk.injEq, TRow.mk.injEq, true_and, and_true]
        omega
      · rw [if_neg k2]
        simp only [if_true, wAt, nAt, numsOk, List.getD_cons_zero, List.getD_cons_succ, List.length_cons, List.length_nil, List.drop_succ_cons, List.drop_zero, List.all_cons, List.all_nil, rd1_it s2, rd1_it s3, rd1_it s4, rd1_it s7, n4, n5, n6, Bool.and_true, and_true, true_and, false_and, if_false]
        simp only [Prod.mk.injEq, TRow.mk.injEq, true_and, and_true]
        omega
@[irreducible] def docV (s : List UInt8) : TRow × Int := if (docR (splitL 32 s)).2 = true then ((docR (splitL 32 s)).1, 0) else (zeroR, 13)
theorem doc_iff {s : List UInt8} {r : TRow} : docV s = (r, 0) ↔ toldB r = true ∧ shortB r = true ∧ rowV r = s := by
  constructor
  · intro h
    unfold docV at h
    split at h
    · rename_i hk
      simp only [Prod.mk.injEq, and_true] at h
      subst h
      obtain ⟨h1, h2, h3⟩ := doc_ok hk
      refine ⟨h1, h2, ?_⟩
      unfold rowV
      rw [if_pos h1, h3, join_split]
    · simp at h
  · rintro ⟨h1, h2, rfl⟩
    unfold docV
    rw [split_row h1, doc_words h1 h2]
    simp
theorem doc_same (s : List UInt8) : docV s = readR s := by
  by_cases h : (readR s).2 = 0
  · have e : readR s = ((readR s).1, 0) := by rw [← h]
    rw [e]
    exact doc_iff.2 (read_iff.1 e)
  · rw [read_bad h]
    unfold docV
    split
    · rename_i hk
      have e : docV s = ((docR (splitL 32 s)).1, 0) := by unfold docV; rw [if_pos hk]
      have := read_iff.2 (doc_iff.1 e)
      rw [this] at h
      exact absurd rfl h
    · rfl
theorem row_inj {a b : TRow} (ha : toldB a = true) (sa : shortB a = true) (sb : shortB b = true) (h : rowV a = rowV b) : a = b := by
  have hb : toldB b = true := by
    cases hb : toldB b
    · have e : rowV b = [] := by unfold rowV; rw [hb]; rfl
      rw [e] at h
      exact absurd h (rowV_ne ha)
    · rfl
  have h1 := split_row ha
  rw [h, split_row hb] at h1
  have h2 := parse_words ha sa
  rw [← h1, parse_words hb sb] at h2
  exact h2.symm
end Go.Eng
set_option maxRecDepth 100000
set_option linter.unusedVariables false
set_option linter.unusedSimpArgs false
namespace Go.Eng
open Go Go.Proofs
def evsT : List (List D) := (List.range 9).map fun k => [str (evL k)]
theorem evsT_at {n : Int} (h : 0 ≤ n ∧ n ≤ 8) : evsT[n.toNat]? = some [str (evL n.toNat)] := by
  unfold evsT
  rw [List.getElem?_map, List.getElem?_range (by omega)]
  rfl
set_option maxHeartbeats 2000000 in
theorem ref23_Event (n : Int) : Fn Tryd.prog 15 [.i n] (.d (str (evV n))) := by
  refine Fn_of tt_ok Tryd.func15 rfl (by decide) Tryd.ntmps15 rfl ?_
  by_cases h : 0 ≤ n ∧ n ≤ 8
  · have e : evV n = evL n.toNat := by unfold evV; rw [if_pos h]
    rw [e]
    have hi := evsT_at h
    repeat' ((conv => whnf); (first
      | (refine Ch_r ?_)
      | (refine Br_true (by assumption) ?_)
      | (refine Br_false (by assumption) ?_)
      | (refine Br_true (beqT (by omega)) ?_)
      | (refine Br_false (beqF (by omega)) ?_)
      | (refine Br_beq (fun h => ?_) (fun h => ?_))
      | (refine Br_true (bneT (by omega)) ?_)
      | (refine Br_false (bneF (by omega)) ?_)
      | (refine Br_bne (fun h => ?_) (fun h => ?_))
      | (refine Br_true (decide_eq_true (by omega)) ?_)
      | (refine Br_false (decide_eq_false (by omega)) ?_)
      | (refine Br_dec (fun h => ?_) (fun h => ?_))
      | (refine Br_not ?_)
      | (refine Len_in (fun hlen => ?_))
      | (refine Idx_in _ hi (by omega) rfl ?_)
      | (refine Br_split (fun h => ?_) (fun h => ?_))
      | (refine fin0 rfl ?_)
      | (refine ArK_in (wrap_i64 (by omega) (by omega)) ?_)
      | (refine force_in ?_)))
    all_goals first | rfl | (exfalso; omega)
  · have e : evV n = [] := by unfold evV; rw [if_neg h]
    rw [e]
    repeat' ((conv => whnf); (first
      | (refine Ch_r ?_)
      | (refine Br_true (by assumption) ?_)
      | (refine Br_false (by assumption) ?_)
      | (refine Br_true (beqT (by omega)) ?_)
      | (refine Br_false (beqF (by omega)) ?_)
      | (refine Br_beq (fun h => ?_) (fun h => ?_))
      | (refine Br_true (bneT (by omega)) ?_)
      | (refine Br_false (bneF (by omega)) ?_)
      | (refine Br_bne (fun h => ?_) (fun h => ?_))
      | (refine Br_true (decide_eq_true (by omega)) ?_)
      | (refine Br_false (decide_eq_false (by omega)) ?_)
      | (refine Br_dec (fun h => ?_) (fun h => ?_))
      | (refine Br_not ?_)
      | (refine Len_in (fun hlen => ?_))
      | (refine Br_split (fun h => ?_) (fun h => ?_))
      | (refine fin0 rfl ?_)
      | (refine ArK_in (wrap_i64 (by omega) (by omega)) ?_)
      | (refine force_in ?_)))
    all_goals first | rfl | (exfalso; omega)
theorem ref23_Number (n : Int) (hn : i64B n) : Fn Tryd.prog 32 [.i n] (.d (str (it n))) := by
  refine Fn_of tt_ok Tryd.func32 rfl (by decide) Tryd.ntmps32 rfl ?_
  unfold i64B at hn
  by_cases h : 0 ≤ n
  · obtain ⟨k, rfl⟩ : ∃ k : Nat, n = k := ⟨n.toNat, by omega⟩
    have hd := ref_dig k (by omega)
    have e : it (k : Int) = Lib.decDigits k := by unfold it Lib.itoa; rw [if_neg (by omega)]; rfl
    rw [e]
    have z : decide ((k : Int) ≥ 0) = true := decide_eq_true (by omega)
    repeat' ((conv => whnf); (first
      | (refine Br_true z ?_)
      | (refine Br_true (by assumption) ?_)
      | (refine Br_false (by assumption) ?_)
      | (refine Br_true (beqT (by omega)) ?_)
      | (refine Br_false (beqF (by omega)) ?_)
      | (refine Br_beq (fun h => ?_) (fun h => ?_))
      | (refine Br_true (bneT (by omega)) ?_)
      | (refine Br_false (bneF (by omega)) ?_)
      | (refine Br_bne (fun h => ?_) (fun h => ?_))
      | (refine Br_true (decide_eq_true (by omega)) ?_)
      | (refine Br_false (decide_eq_false (by omega)) ?_)
      | (refine Br_dec (fun h => ?_) (fun h => ?_))
      | (refine Br_not ?_)
      | (refine Len_in (fun hlen => ?_))
      | (refine Fn.use (hd) rfl rfl ?_)
      | (refine CallF_in (hd) rfl rfl ?_)
      | (refine Br_split (fun h => ?_) (fun h => ?_))
      | (refine fin0 rfl ?_)
      | (refine ArK_in (wrap_i64 (by omega) (by omega)) ?_)
      | (refine force_in ?_)))
    rfl
  · have z : decide (n ≥ 0) = false := decide_eq_false (by omega)
    have e : it n = 45 :: Lib.decDigits n.natAbs := by unfold it Lib.itoa; rw [if_pos (by omega)]
    rw [e]
    obtain ⟨m, hm⟩ : ∃ m : Nat, n = -m := ⟨n.natAbs, by omega⟩
    subst hm
    have hab : (-(m : Int)).natAbs = m := by omega
    rw [hab]
    have e1 : (-(m : Int)).tmod 10 = -((m % 10 : Nat) : Int) := by rw [Int.neg_tmod]; rfl
    have e2 : (-(m : Int)).tdiv 10 = -((m / 10 : Nat) : Int) := by rw [Int.neg_tdiv]; rfl
    have w1 : IntKind.i64.wrap (48 - (-(m : Int)).tmod 10) = 48 - (-(m : Int)).tmod 10 := wrap_i64 (by rw [e1]; omega) (by rw [e1]; omega)
    have w2 : IntKind.u8.wrap (48 - (-(m : Int)).tmod 10) = 48 - (-(m : Int)).tmod 10 := wrap_u8x (by rw [e1]; omega) (by rw [e1]; omega)
    have w3 : IntKind.i64.wrap ((-(m : Int)).tdiv 10) = (-(m : Int)).tdiv 10 := wrap_i64 (by rw [e2]; omega) (by rw [e2]; omega)
    have e3 : 0 - (-(m : Int)).tdiv 10 = ((m / 10 : Nat) : Int) := by rw [e2]; omega
    have w4 : IntKind.i64.wrap (0 - (-(m : Int)).tdiv 10) = 0 - (-(m : Int)).tdiv 10 := wrap_i64 (by omega) (by omega)
    have hc : (UInt8.ofNat (48 + m % 10)).toNat = 48 + m % 10 := by rw [UInt8.toNat_ofNat']; omega
    have ht : [[D.int .u8 (48 - (-(m : Int)).tmod 10)]] = [UInt8.ofNat (48 + m % 10)].map (fun c => [D.int .u8 c.toNat]) := by
      rw [e1]; simp only [List.map_cons, List.map_nil, hc]; congr 3; omega
    by_cases h10 : 10 ≤ m
    · have hd : Lib.decDigits m = Lib.decDigits (m / 10) ++ [UInt8.ofNat (48 + m % 10)] := by rw [Lib.decDigits.eq_def m, dif_neg (by omega)]
      have h1 : decide (-(m : Int) ≤ -10) = true := decide_eq_true (by omega)
      have hi := ref_dig (m / 10) (by omega)
      rw [← e3] at hi
      have hl := dec_lenx 20 (m / 10) (Nat.lt_of_le_of_lt (by omega : _ ≤ 9223372036854775807) (by decide))
      have hsz : (⟨(Lib.decDigits (m / 10)).toArray⟩ : ByteArray).size + (⟨[UInt8.ofNat (48 + m % 10)].toArray⟩ : ByteArray).size ≤ LB := by
        rw [str_size, str_size]; unfold LB; simp; omega
      have hres : (.d (.str ((⟨[45].toArray⟩ : ByteArray) ++ ((⟨(Lib.decDigits (m / 10)).toArray⟩ : ByteArray) ++ ⟨[UInt8.ofNat (48 + m % 10)].toArray⟩))) : AV) = .d (str (45 :: Lib.decDigits m)) := by rw [str_app, str_app, hd]; rfl
      have hsz2 : (⟨[45].toArray⟩ : ByteArray).size + ((⟨(Lib.decDigits (m / 10)).toArray⟩ : ByteArray) ++ (⟨[UInt8.ofNat (48 + m % 10)].toArray⟩ : ByteArray)).size ≤ LB := by
        rw [str_app, str_size, str_size]; unfold LB; simp; omega
      generalize Lib.decDigits (m / 10) = dl at *
      repeat' ((conv => whnf); (first
        | (refine Br_false z ?_)
        | (refine Br_true h1 ?_)
        | (refine Ch_r ?_)
        | (refine Br_true (by assumption) ?_)
        | (refine Br_false (by assumption) ?_)
        | (refine Br_true (beqT (by omega)) ?_)
        | (refine Br_false (beqF (by omega)) ?_)
        | (refine Br_beq (fun h => ?_) (fun h => ?_))
        | (refine Br_true (bneT (by omega)) ?_)
        | (refine Br_false (bneF (by omega)) ?_)
        | (refine Br_bne (fun h => ?_) (fun h => ?_))
        | (refine Br_true (decide_eq_true (by omega)) ?_)
        | (refine Br_false (decide_eq_false (by omega)) ?_)
        | (refine Br_dec (fun h => ?_) (fun h => ?_))
        | (refine Br_not ?_)
        | (refine Len_in (fun hlen => ?_))
        | (refine Need_in (by omega) ?_)
        | (refine ArK_in w1 ?_)
        | (refine ArK_in w2 ?_)
        | (refine ArK_in w3 ?_)
        | (refine ArK_in w4 ?_)
        | (refine Text_in _ ht ?_)
        | (refine Fn.use (hi) rfl rfl ?_)
        | (refine CallF_in (hi) rfl rfl ?_)
        | (refine Need_in hsz ?_)
        | (refine Need_in hsz2 ?_)
        | (refine fin0 rfl hres)
        | (refine Br_split (fun h => ?_) (fun h => ?_))
        | (refine fin0 rfl ?_)
        | (refine ArK_in (wrap_i64 (by omega) (by omega)) ?_)
        | (refine force_in ?_)))
    · have hd : Lib.decDigits m = [UInt8.ofNat (48 + m % 10)] := by rw [Lib.decDigits.eq_def m, dif_pos (by omega), Nat.mod_eq_of_lt (by omega)]
      have h1 : decide (-(m : Int) ≤ -10) = false := decide_eq_false (by omega)
      have hres : (.d (.str ((⟨[45].toArray⟩ : ByteArray) ++ (⟨[UInt8.ofNat (48 + m % 10)].toArray⟩ : ByteArray))) : AV) = .d (str (45 :: Lib.decDigits m)) := by rw [str_app, hd]; rfl
      repeat' ((conv => whnf); (first
        | (refine Br_false z ?_)
        | (refine Br_false h1 ?_)
        | (refine Ch_r ?_)
        | (refine Br_true (by assumption) ?_)
        | (refine Br_false (by assumption) ?_)
        | (refine Br_true (beqT (by omega)) ?_)
        | (refine Br_false (beqF (by omega)) ?_)
        | (refine Br_beq (fun h => ?_) (fun h => ?_))
        | (refine Br_true (bneT (by omega)) ?_)
        | (refine Br_false (bneF (by omega)) ?_)
        | (refine Br_bne (fun h => ?_) (fun h => ?_))
        | (refine Br_true (decide_eq_true (by omega)) ?_)
        | (refine Br_false (decide_eq_false (by omega)) ?_)
        | (refine Br_dec (fun h => ?_) (fun h => ?_))
        | (refine Br_not ?_)
        | (refine Len_in (fun hlen => ?_))
        | (refine Need_in (by omega) ?_)
        | (refine ArK_in w1 ?_)
        | (refine ArK_in w2 ?_)
        | (refine Text_in _ ht ?_)
        | (refine Need_in (by rw [str_size, str_size]; unfold LB; simp) ?_)
        | (refine fin0 rfl hres)
        | (refine Br_split (fun h => ?_) (fun h => ?_))
        | (refine fin0 rfl ?_)
        | (refine ArK_in (wrap_i64 (by omega) (by omega)) ?_)
        | (refine force_in ?_)))
theorem fold_bd (t : List UInt8) : ∀ acc : Int, -1000000000000000 * 1000 ≤ acc → acc ≤ 1000000000000000 * 1000 → True := fun _ _ _ => trivial
theorem fold_snoc (t : List UInt8) (c : UInt8) (acc : Int) : fold15 acc (t ++ [c]) = 10 * fold15 acc t + c.toNat - 48 := by unfold fold15; rw [List.foldl_append]; rfl
theorem snoc_of {α : Type} : ∀ (t : List α), t ≠ [] → ∃ a c, t = a ++ [c]
  | [], h => absurd rfl h
  | [c], _ => ⟨[], c, rfl⟩
  | b :: c :: r, _ => by
    obtain ⟨a, d, e⟩ := snoc_of (c :: r) (by simp)
    exact ⟨b :: a, d, by rw [e]; rfl⟩
theorem fold_le (t : List UInt8) : -((10 : Int) ^ t.length * 1000) ≤ fold15 0 t ∧ fold15 0 t ≤ (10 : Int) ^ t.length * 1000 - 1000 := by
  have key : ∀ (n : Nat) (t : List UInt8), t.length = n → -((10 : Int) ^ n * 1000) + 1000 ≤ fold15 0 t ∧ fold15 0 t ≤ (10 : Int) ^ n * 1000 - 1000 := by
    intro n
    induction n with
    | zero => intro t h; rw [List.length_eq_zero_iff.1 h]; simp [fold15]
    | succ n ih =>
      intro t h
      have hne : t ≠ [] := by intro e; subst e; simp at h
      obtain ⟨a, c, rfl⟩ := snoc_of t hne
      rw [fold_snoc]
      have := ih a (by simp at h; omega)
      have hc := c.toNat_lt
      rw [Int.pow_succ]
      omega
  have := key t.length t rfl
  omega
theorem p15 {n : Nat} (h : n ≤ 15) : (10 : Int) ^ n ≤ 1000000000000000 := by
  have : (10 : Nat) ^ n ≤ 10 ^ 15 := Nat.pow_le_pow_right (by decide) h
  have e : ((10 : Nat) : Int) ^ n = ((10 ^ n : Nat) : Int) := by simp
  have e2 : (10 : Int) ^ n = ((10 ^ n : Nat) : Int) := by simp
  rw [e2]
  have e3 : (10 : Nat) ^ 15 = 1000000000000000 := by decide
  omega
theorem str_beq (a b : List UInt8) : ((⟨a.toArray⟩ : ByteArray).toList == (⟨b.toArray⟩ : ByteArray).toList) = decide (a = b) := by
  rw [str_toList, str_toList, Bool.eq_iff_iff]; simp
theorem drop_one (r : List UInt8) (c : UInt8) {i j : Nat} (hi : i = 1) (hj : j = r.length + 1) : (⟨(c :: r).toArray⟩ : ByteArray).extract i j = ⟨r.toArray⟩ := by
  subst hi hj
  rw [str_extract]
  simp
set_option maxHeartbeats 2000000 in
theorem ref23_Read1 (s : List UInt8) (hs : s.length ≤ 100000) : Fn Tryd.prog 44 [.d (str s)] (.tup [.i (rd1 s).1, .b (rd1 s).2]) := by
  refine Fn_of tt_ok Tryd.func44 rfl (by decide) Tryd.ntmps44 rfl ?_
  have hsz : (⟨s.toArray⟩ : ByteArray).size = s.length := str_size s
  have hsplit : (s = [] ∧ trimW s = s) ∨ (∃ c, s[0]? = some c ∧ c = 45 ∧ s ≠ [] ∧ s.length = (trimW s).length + 1 ∧ (⟨s.toArray⟩ : ByteArray).extract (1 : Int).toNat (((⟨s.toArray⟩ : ByteArray).size : Int)).toNat = ⟨(trimW s).toArray⟩) ∨ (∃ c, s[0]? = some c ∧ s ≠ [] ∧ c ≠ 45 ∧ trimW s = s) := by
    cases s with
    | nil => exact .inl ⟨rfl, rfl⟩
    | cons c r =>
      rw [trim_cons]
      by_cases h : c = 45
      · subst h
        exact .inr (.inl ⟨45, rfl, rfl, by simp, rfl, drop_one r 45 rfl (by rw [hsz]; simp)⟩)
      · rw [if_neg h]; exact .inr (.inr ⟨c, rfl, by simp, h, rfl⟩)
  have hnn : ∀ n : Int, n = (if (trimW s).length < s.length then -(fold15 0 (trimW s)) else fold15 0 (trimW s)) → ¬ (trimW s).length > 15 → AV.tup [.i n, .b ((⟨(it n).toArray⟩ : ByteArray).toList == (⟨s.toArray⟩ : ByteArray).toList)] = .tup [.i (rd1 s).1, .b (rd1 s).2] := fun n hn hL => by
    rw [str_beq]
    unfold rd1
    rw [if_neg hL, ← hn]
  have hbad : (trimW s).length > 15 → AV.tup [.i 0, .b false] = .tup [.i (rd1 s).1, .b (rd1 s).2] := fun hL => by unfold rd1; rw [if_pos hL]
  have hlt : (trimW s).length ≤ s.length := by
    rcases hsplit with ⟨_, h⟩ | ⟨c, _, _, _, h, _⟩ | ⟨c, _, _, _, h⟩
    · rw [h]; exact Nat.le_refl _
    · omega
    · rw [h]; exact Nat.le_refl _
  have htz : (⟨(trimW s).toArray⟩ : ByteArray).size = (trimW s).length := str_size (trimW s)
  generalize hrd : rd1 s = R at *
  rcases hsplit with ⟨hs0, ht⟩ | ⟨c, hc0, hc, hne, hl1, hx⟩ | ⟨c, hc0, hne, hc, ht⟩
  · have c0 : (!((⟨s.toArray⟩ : ByteArray).toList == (⟨#[]⟩ : ByteArray).toList)) = false := by rw [str_beq _ []]; simp [hs0]
    have hE : AV.d (D.str (⟨s.toArray⟩ : ByteArray)) = .d (str (trimW s)) := by rw [ht]
    have hw : (((⟨s.toArray⟩ : ByteArray).size : Int)) = ((trimW s).length : Int) := by rw [ht, hsz]
    repeat' ((conv => whnf); (first
      | (refine Br_false c0 ?_)
      | (refine Br_dec (fun hL => ?_) (fun hL => ?_))
      | (refine Br_true (by assumption) ?_)
      | (refine Br_false (by assumption) ?_)
      | (refine Br_true (beqT (by omega)) ?_)
      | (refine Br_false (beqF (by omega)) ?_)
      | (refine Br_beq (fun h => ?_) (fun h => ?_))
      | (refine Br_true (bneT (by omega)) ?_)
      | (refine Br_false (bneF (by omega)) ?_)
      | (refine Br_bne (fun h => ?_) (fun h => ?_))
      | (refine Br_true (decide_eq_true (by omega)) ?_)
      | (refine Br_false (decide_eq_false (by omega)) ?_)
      | (refine Br_dec (fun h => ?_) (fun h => ?_))
      | (refine Br_not ?_)
      | (refine Len_in (fun hlen => ?_))
      | (refine Br_split (fun h => ?_) (fun h => ?_))
      | (refine fin0 rfl ?_)
      | (refine ArK_in (wrap_i64 (by omega) (by omega)) ?_)
      | (refine force_in ?_)))
    · exact hbad (by omega)
    have hL15 : (trimW s).length ≤ 15 := by omega
    clear c0 hw
    rw [← hrd] at hnn
    have hfl : ∀ k : Nat, k ≤ (trimW s).length → -1000000000000000000 ≤ fold15 0 ((trimW s).take k) ∧ fold15 0 ((trimW s).take k) ≤ 1000000000000000000 := fun k hk => by
      have h1 := fold_le ((trimW s).take k)
      have h2 := p15 (n := ((trimW s).take k).length) (by simp; omega)
      omega
    have hf14 : ∀ k : Nat, k < (trimW s).length → -100000000000000000 ≤ fold15 0 ((trimW s).take k) ∧ fold15 0 ((trimW s).take k) ≤ 100000000000000000 := fun k hk => by
      have h1 := fold_le ((trimW s).take k)
      have h2 := p15 (n := ((trimW s).take k).length + 1) (by simp; omega)
      rw [Int.pow_succ] at h2
      omega
    rw [hrd] at hnn
    generalize trimW s = T at *
    refine W_loop (fun μ st => ∃ (k : Nat), k ≤ T.length ∧ μ = T.length - k ∧ st = ⟨[(0, .d (str s)), (4, .d (str T)), (5, .i (fold15 0 (T.take k))), (6, .i k)], 46, [], 0, []⟩) T.length
      ⟨_, ?_, 0, by omega, by omega, rfl⟩ ?_
    · exact Wk_env ⟨rfl, hE, rfl, rfl, trivial⟩
    clear hE
    rintro μ s1 ⟨k, hk, rfl, rfl⟩
    refine W_run tt_ok ?_
    refine Len_in (fun _ => ?_)
    refine Br_dec (fun h => ?_) (fun h => ?_)
    · have hlt2 : k < T.length := by rw [htz] at h; omega
      have hb2 : (⟨T.toArray⟩ : ByteArray).data.toList[(k : Int).toNat]? = some T[k] := by simp [hlt2]
      have hcb := (T[k]).toNat_lt
      have hf := hf14 k hlt2
      have hsn : fold15 0 (T.take (k + 1)) = 10 * fold15 0 (T.take k) + (T[k]).toNat - 48 := by rw [List.take_succ_eq_append_getElem hlt2, fold_snoc]
      have hF : AV.i (10 * fold15 0 (T.take k) + (T[k]).toNat - 48) = .i (fold15 0 (T.take (k + 1))) := by rw [hsn]
      generalize fold15 0 (T.take k) = F at *
      generalize T[k] = ch at *
      repeat' ((conv => whnf); (first
        | (refine Br_true (by assumption) ?_)
        | (refine Br_false (by assumption) ?_)
        | (refine Br_true (beqT (by omega)) ?_)
        | (refine Br_false (beqF (by omega)) ?_)
        | (refine Br_beq (fun h => ?_) (fun h => ?_))
        | (refine Br_true (bneT (by omega)) ?_)
        | (refine Br_false (bneF (by omega)) ?_)
        | (refine Br_bne (fun h => ?_) (fun h => ?_))
        | (refine Br_true (decide_eq_true (by omega)) ?_)
        | (refine Br_false (decide_eq_false (by omega)) ?_)
        | (refine Br_dec (fun h => ?_) (fun h => ?_))
        | (refine Br_not ?_)
        | (refine Len_in (fun hlen => ?_))
        | (refine Byte_in _ hb2 (by omega) ?_)
        | (refine ArK_in (wrap_i64 (by omega) (by omega)) ?_)
        | (refine Back_in _ _ ⟨k + 1, by omega, rfl, rfl⟩ (by omega) (Wk_env ⟨rfl, rfl, hF, rfl, trivial⟩))
        | (refine Br_split (fun h => ?_) (fun h => ?_))
        | (refine fin0 rfl ?_)
        | (refine ArK_in (wrap_i64 (by omega) (by omega)) ?_)
        | (refine force_in ?_)))
    · have hk2 : k = T.length := by rw [htz] at h; omega
      subst hk2
      rw [List.take_length]
      have hf := hfl T.length (Nat.le_refl _)
      rw [List.take_length] at hf
      by_cases hneg : T.length < s.length
      · have z : decide (((⟨T.toArray⟩ : ByteArray).size : Int) < ((⟨s.toArray⟩ : ByteArray).size : Int)) = true := decide_eq_true (by rw [htz, hsz]; omega)
        have hn := hnn (-(fold15 0 T)) (by rw [if_pos hneg]) (by omega)
        have w1 : IntKind.i64.wrap (0 - fold15 0 T) = 0 - fold15 0 T := wrap_i64 (by omega) (by omega)
        have e3 : 0 - fold15 0 T = -(fold15 0 T) := by omega
        have hnum := ref23_Number (-(fold15 0 T)) (by unfold i64B; omega)
        rw [← e3] at hnum hn
        repeat' ((conv => whnf); (first
          | (refine Br_true z ?_)
          | (refine Br_true (by assumption) ?_)
          | (refine Br_false (by assumption) ?_)
          | (refine Br_true (beqT (by omega)) ?_)
          | (refine Br_false (beqF (by omega)) ?_)
          | (refine Br_beq (fun h => ?_) (fun h => ?_))
          | (refine Br_true (bneT (by omega)) ?_)
          | (refine Br_false (bneF (by omega)) ?_)
          | (refine Br_bne (fun h => ?_) (fun h => ?_))
          | (refine Br_true (decide_eq_true (by omega)) ?_)
          | (refine Br_false (decide_eq_false (by omega)) ?_)
          | (refine Br_dec (fun h => ?_) (fun h => ?_))
          | (refine Br_not ?_)
          | (refine Len_in (fun hlen => ?_))
          | (refine ArK_in w1 ?_)
          | (refine Fn.use (hnum) rfl rfl ?_)
          | (refine CallF_in (hnum) rfl rfl ?_)
          | (refine Br_split (fun h => ?_) (fun h => ?_))
          | (refine fin0 rfl ?_)
          | (refine ArK_in (wrap_i64 (by omega) (by omega)) ?_)
          | (refine force_in ?_)))
        exact hn
      · have z : decide (((⟨T.toArray⟩ : ByteArray).size : Int) < ((⟨s.toArray⟩ : ByteArray).size : Int)) = false := decide_eq_false (by rw [htz, hsz]; omega)
        have hn := hnn (fold15 0 T) (by rw [if_neg hneg]) (by omega)
        have hnum := ref23_Number (fold15 0 T) (by unfold i64B; omega)
        repeat' ((conv => whnf); (first
          | (refine Br_false z ?_)
          | (refine Br_true (by assumption) ?_)
          | (refine Br_false (by assumption) ?_)
          | (refine Br_true (beqT (by omega)) ?_)
          | (refine Br_false (beqF (by omega)) ?_)
          | (refine Br_beq (fun h => ?_) (fun h => ?_))
          | (refine Br_true (bneT (by omega)) ?_)
          | (refine Br_false (bneF (by omega)) ?_)
          | (refine Br_bne (fun h => ?_) (fun h => ?_))
          | (refine Br_true (decide_eq_true (by omega)) ?_)
          | (refine Br_false (decide_eq_false (by omega)) ?_)
          | (refine Br_dec (fun h => ?_) (fun h => ?_))
          | (refine Br_not ?_)
          | (refine Len_in (fun hlen => ?_))
          | (refine Fn.use (hnum) rfl rfl ?_)
          | (refine CallF_in (hnum) rfl rfl ?_)
          | (refine Br_split (fun h => ?_) (fun h => ?_))
          | (refine fin0 rfl ?_)
          | (refine ArK_in (wrap_i64 (by omega) (by omega)) ?_)
          | (refine force_in ?_)))
        exact hn
  · have hby : (⟨s.toArray⟩ : ByteArray).data.toList[(0 : Int).toNat]? = some c := hc0
    have c0 : (!((⟨s.toArray⟩ : ByteArray).toList == (⟨#[]⟩ : ByteArray).toList)) = true := by rw [str_beq _ []]; simp [hne]
    have c1 : (((c.toNat : Nat) : Int) == 45) = true := by rw [hc]; rfl
    have hE : AV.d (D.str ((⟨s.toArray⟩ : ByteArray).extract (1 : Int).toNat (((⟨s.toArray⟩ : ByteArray).size : Int)).toNat)) = .d (str (trimW s)) := by rw [hx]
    have hw : ((((⟨s.toArray⟩ : ByteArray).extract (1 : Int).toNat (((⟨s.toArray⟩ : ByteArray).size : Int)).toNat).size : Int)) = ((trimW s).length : Int) := by rw [hx, htz]
    repeat' ((conv => whnf); (first
      | (refine Br_true c0 ?_)
      | (refine Br_true c1 ?_)
      | (refine Br_dec (fun hL => ?_) (fun hL => ?_))
      | (refine Br_true (by assumption) ?_)
      | (refine Br_false (by assumption) ?_)
      | (refine Br_true (beqT (by omega)) ?_)
      | (refine Br_false (beqF (by omega)) ?_)
      | (refine Br_beq (fun h => ?_) (fun h => ?_))
      | (refine Br_true (bneT (by omega)) ?_)
      | (refine Br_false (bneF (by omega)) ?_)
      | (refine Br_bne (fun h => ?_) (fun h => ?_))
      | (refine Br_true (decide_eq_true (by omega)) ?_)
      | (refine Br_false (decide_eq_false (by omega)) ?_)
      | (refine Br_dec (fun h => ?_) (fun h => ?_))
      | (refine Br_not ?_)
      | (refine Len_in (fun hlen => ?_))
      | (refine Byte_in c hby (by omega) ?_)
      | (refine Need_in ⟨by omega, by rw [hsz]; omega, Int.le_refl _⟩ ?_)
      | (refine Br_split (fun h => ?_) (fun h => ?_))
      | (refine fin0 rfl ?_)
      | (refine ArK_in (wrap_i64 (by omega) (by omega)) ?_)
      | (refine force_in ?_)))
    · exact hbad (by omega)
    have hL15 : (trimW s).length ≤ 15 := by omega
    clear c0 hw
    rw [← hrd] at hnn
    have hfl : ∀ k : Nat, k ≤ (trimW s).length → -1000000000000000000 ≤ fold15 0 ((trimW s).take k) ∧ fold15 0 ((trimW s).take k) ≤ 1000000000000000000 := fun k hk => by
      have h1 := fold_le ((trimW s).take k)
      have h2 := p15 (n := ((trimW s).take k).length) (by simp; omega)
      omega
    have hf14 : ∀ k : Nat, k < (trimW s).length → -100000000000000000 ≤ fold15 0 ((trimW s).take k) ∧ fold15 0 ((trimW s).take k) ≤ 100000000000000000 := fun k hk => by
      have h1 := fold_le ((trimW s).take k)
      have h2 := p15 (n := ((trimW s).take k).length + 1) (by simp; omega)
      rw [Int.pow_succ] at h2
      omega
    rw [hrd] at hnn
    generalize trimW s = T at *
    refine W_loop (fun μ st => ∃ (k : Nat), k ≤ T.length ∧ μ = T.length - k ∧ st = ⟨[(0, .d (str s)), (4, .d (str T)), (5, .i (fold15 0 (T.take k))), (6, .i k)], 46, [], 0, []⟩) T.length
      ⟨_, ?_, 0, by omega, by omega, rfl⟩ ?_
    · exact Wk_env ⟨rfl, hE, rfl, rfl, trivial⟩
    clear hE
    rintro μ s1 ⟨k, hk, rfl, rfl⟩
    refine W_run tt_ok ?_
    refine Len_in (fun _ => ?_)
    refine Br_dec (fun h => ?_) (fun h => ?_)
    · have hlt2 : k < T.length := by rw [htz] at h; omega
      have hb2 : (⟨T.toArray⟩ : ByteArray).data.toList[(k : Int).toNat]? = some T[k] := by simp [hlt2]
      have hcb := (T[k]).toNat_lt
      have hf := hf14 k hlt2
      have hsn : fold15 0 (T.take (k + 1)) = 10 * fold15 0 (T.take k) + (T[k]).toNat - 48 := by rw [List.take_succ_eq_append_getElem hlt2, fold_snoc]
      have hF : AV.i (10 * fold15 0 (T.take k) + (T[k]).toNat - 48) = .i (fold15 0 (T.take (k + 1))) := by rw [hsn]
      generalize fold15 0 (T.take k) = F at *
      generalize T[k] = ch at *
      repeat' ((conv => whnf); (first
        | (refine Br_true (by assumption) ?_)
        | (refine Br_false (by assumption) ?_)
        | (refine Br_true (beqT (by omega)) ?_)
        | (refine Br_false (beqF (by omega)) ?_)
        | (refine Br_beq (fun h => ?_) (fun h => ?_))
        | (refine Br_true (bneT (by omega)) ?_)
        | (refine Br_false (bneF (by omega)) ?_)
        | (refine Br_bne (fun h => ?_) (fun h => ?_))
        | (refine Br_true (decide_eq_true (by omega)) ?_)
        | (refine Br_false (decide_eq_false (by omega)) ?_)
        | (refine Br_dec (fun h => ?_) (fun h => ?_))
        | (refine Br_not ?_)
        | (refine Len_in (fun hlen => ?_))
        | (refine Byte_in _ hb2 (by omega) ?_)
        | (refine ArK_in (wrap_i64 (by omega) (by omega)) ?_)
        | (refine Back_in _ _ ⟨k + 1, by omega, rfl, rfl⟩ (by omega) (Wk_env ⟨rfl, rfl, hF, rfl, trivial⟩))
        | (refine Br_split (fun h => ?_) (fun h => ?_))
        | (refine fin0 rfl ?_)
        | (refine ArK_in (wrap_i64 (by omega) (by omega)) ?_)
        | (refine force_in ?_)))
    · have hk2 : k = T.length := by rw [htz] at h; omega
      subst hk2
      rw [List.take_length]
      have hf := hfl T.length (Nat.le_refl _)
      rw [List.take_length] at hf
      by_cases hneg : T.length < s.length
      · have z : decide (((⟨T.toArray⟩ : ByteArray).size : Int) < ((⟨s.toArray⟩ : ByteArray).size : Int)) = true := decide_eq_true (by rw [htz, hsz]; omega)
        have hn := hnn (-(fold15 0 T)) (by rw [if_pos hneg]) (by omega)
        have w1 : IntKind.i64.wrap (0 - fold15 0 T) = 0 - fold15 0 T := wrap_i64 (by omega) (by omega)
        have e3 : 0 - fold15 0 T = -(fold15 0 T) := by omega
        have hnum := ref23_Number (-(fold15 0 T)) (by unfold i64B; omega)
        rw [← e3] at hnum hn
        repeat' ((conv => whnf); (first
          | (refine Br_true z ?_)
          | (refine Br_true (by assumption) ?_)
          | (refine Br_false (by assumption) ?_)
          | (refine Br_true (beqT (by omega)) ?_)
          | (refine Br_false (beqF (by omega)) ?_)
          | (refine Br_beq (fun h => ?_) (fun h => ?_))
          | (refine Br_true (bneT (by omega)) ?_)
          | (refine Br_false (bneF (by omega)) ?_)
          | (refine Br_bne (fun h => ?_) (fun h => ?_))
          | (refine Br_true (decide_eq_true (by omega)) ?_)
          | (refine Br_false (decide_eq_false (by omega)) ?_)
          | (refine Br_dec (fun h => ?_) (fun h => ?_))
          | (refine Br_not ?_)
          | (refine Len_in (fun hlen => ?_))
          | (refine ArK_in w1 ?_)
          | (refine Fn.use (hnum) rfl rfl ?_)
          | (refine CallF_in (hnum) rfl rfl ?_)
          | (refine Br_split (fun h => ?_) (fun h => ?_))
          | (refine fin0 rfl ?_)
          | (refine ArK_in (wrap_i64 (by omega) (by omega)) ?_)
          | (refine force_in ?_)))
        exact hn
      · have z : decide (((⟨T.toArray⟩ : ByteArray).size : Int) < ((⟨s.toArray⟩ : ByteArray).size : Int)) = false := decide_eq_false (by rw [htz, hsz]; omega)
        have hn := hnn (fold15 0 T) (by rw [if_neg hneg]) (by omega)
        have hnum := ref23_Number (fold15 0 T) (by unfold i64B; omega)
        repeat' ((conv => whnf); (first
          | (refine Br_false z ?_)
          | (refine Br_true (by assumption) ?_)
          | (refine Br_false (by assumption) ?_)
          | (refine Br_true (beqT (by omega)) ?_)
          | (refine Br_false (beqF (by omega)) ?_)
          | (refine Br_beq (fun h => ?_) (fun h => ?_))
          | (refine Br_true (bneT (by omega)) ?_)
          | (refine Br_false (bneF (by omega)) ?_)
          | (refine Br_bne (fun h => ?_) (fun h => ?_))
          | (refine Br_true (decide_eq_true (by omega)) ?_)
          | (refine Br_false (decide_eq_false (by omega)) ?_)
          | (refine Br_dec (fun h => ?_) (fun h => ?_))
          | (refine Br_not ?_)
          | (refine Len_in (fun hlen => ?_))
          | (refine Fn.use (hnum) rfl rfl ?_)
          | (refine CallF_in (hnum) rfl rfl ?_)
          | (refine Br_split (fun h => ?_) (fun h => ?_))
          | (refine fin0 rfl ?_)
          | (refine ArK_in (wrap_i64 (by omega) (by omega)) ?_)
          | (refine force_in ?_)))
        exact hn
  · have hby : (⟨s.toArray⟩ : ByteArray).data.toList[(0 : Int).toNat]? = some c := hc0
    have c0 : (!((⟨s.toArray⟩ : ByteArray).toList == (⟨#[]⟩ : ByteArray).toList)) = true := by rw [str_beq _ []]; simp [hne]
    have c1 : (((c.toNat : Nat) : Int) == 45) = false := by
      rw [beq_eq_false_iff_ne]; intro e; exact hc (UInt8.toNat_inj.1 (show c.toNat = 45 by omega))
    have hE : AV.d (D.str (⟨s.toArray⟩ : ByteArray)) = .d (str (trimW s)) := by rw [ht]
    have hw : (((⟨s.toArray⟩ : ByteArray).size : Int)) = ((trimW s).length : Int) := by rw [ht, hsz]
    repeat' ((conv => whnf); (first
      | (refine Br_true c0 ?_)
      | (refine Br_false c1 ?_)
      | (refine Br_dec (fun hL => ?_) (fun hL => ?_))
      | (refine Br_true (by assumption) ?_)
      | (refine Br_false (by assumption) ?_)
      | (refine Br_true (beqT (by omega)) ?_)
      | (refine Br_false (beqF (by omega)) ?_)
      | (refine Br_beq (fun h => ?_) (fun h => ?_))
      | (refine Br_true (bneT (by omega)) ?_)
      | (refine Br_false (bneF (by omega)) ?_)
      | (refine Br_bne (fun h => ?_) (fun h => ?_))
      | (refine Br_true (decide_eq_true (by omega)) ?_)
      | (refine Br_false (decide_eq_false (by omega)) ?_)
      | (refine Br_dec (fun h => ?_) (fun h => ?_))
      | (refine Br_not ?_)
      | (refine Len_in (fun hlen => ?_))
      | (refine Byte_in c hby (by omega) ?_)
      | (refine Br_split (fun h => ?_) (fun h => ?_))
      | (refine fin0 rfl ?_)
      | (refine ArK_in (wrap_i64 (by omega) (by omega)) ?_)
      | (refine force_in ?_)))
    · exact hbad (by omega)
    have hL15 : (trimW s).length ≤ 15 := by omega
    clear c0 hw
    rw [← hrd] at hnn
    have hfl : ∀ k : Nat, k ≤ (trimW s).length → -1000000000000000000 ≤ fold15 0 ((trimW s).take k) ∧ fold15 0 ((trimW s).take k) ≤ 1000000000000000000 := fun k hk => by
      have h1 := fold_le ((trimW s).take k)
      have h2 := p15 (n := ((trimW s).take k).length) (by simp; omega)
      omega
    have hf14 : ∀ k : Nat, k < (trimW s).length → -100000000000000000 ≤ fold15 0 ((trimW s).take k) ∧ fold15 0 ((trimW s).take k) ≤ 100000000000000000 := fun k hk => by
      have h1 := fold_le ((trimW s).take k)
      have h2 := p15 (n := ((trimW s).take k).length + 1) (by simp; omega)
      rw [Int.pow_succ] at h2
      omega
    rw [hrd] at hnn
    generalize trimW s = T at *
    refine W_loop (fun μ st => ∃ (k : Nat), k ≤ T.length ∧ μ = T.length - k ∧ st = ⟨[(0, .d (str s)), (4, .d (str T)), (5, .i (fold15 0 (T.take k))), (6, .i k)], 46, [], 0, []⟩) T.length
      ⟨_, ?_, 0, by omega, by omega, rfl⟩ ?_
    · exact Wk_env ⟨rfl, hE, rfl, rfl, trivial⟩
    clear hE
    rintro μ s1 ⟨k, hk, rfl, rfl⟩
    refine W_run tt_ok ?_
    refine Len_in (fun _ => ?_)
    refine Br_dec (fun h => ?_) (fun h => ?_)
    · have hlt2 : k < T.length := by rw [htz] at h; omega
      have hb2 : (⟨T.toArray⟩ : ByteArray).data.toList[(k : Int).toNat]? = some T[k] := by simp [hlt2]
      have hcb := (T[k]).toNat_lt
      have hf := hf14 k hlt2
      have hsn : fold15 0 (T.take (k + 1)) = 10 * fold15 0 (T.take k) + (T[k]).toNat - 48 := by rw [List.take_succ_eq_append_getElem hlt2, fold_snoc]
      have hF : AV.i (10 * fold15 0 (T.take k) + (T[k]).toNat - 48) = .i (fold15 0 (T.take (k + 1))) := by rw [hsn]
      generalize fold15 0 (T.take k) = F at *
      generalize T[k] = ch at *
      repeat' ((conv => whnf); (first
        | (refine Br_true (by assumption) ?_)
        | (refine Br_false (by assumption) ?_)
        | (refine Br_true (beqT (by omega)) ?_)
        | (refine Br_false (beqF (by omega)) ?_)
        | (refine Br_beq (fun h => ?_) (fun h => ?_))
        | (refine Br_true (bneT (by omega)) ?_)
        | (refine Br_false (bneF (by omega)) ?_)
        | (refine Br_bne (fun h => ?_) (fun h => ?_))
        | (refine Br_true (decide_eq_true (by omega)) ?_)
        | (refine Br_false (decide_eq_false (by omega)) ?_)
        | (refine Br_dec (fun h => ?_) (fun h => ?_))
        | (refine Br_not ?_)
        | (refine Len_in (fun hlen => ?_))
        | (refine Byte_in _ hb2 (by omega) ?_)
        | (refine ArK_in (wrap_i64 (by omega) (by omega)) ?_)
        | (refine Back_in _ _ ⟨k + 1, by omega, rfl, rfl⟩ (by omega) (Wk_env ⟨rfl, rfl, hF, rfl, trivial⟩))
        | (refine Br_split (fun h => ?_) (fun h => ?_))
        | (refine fin0 rfl ?_)
        | (refine ArK_in (wrap_i64 (by omega) (by omega)) ?_)
        | (refine force_in ?_)))
    · have hk2 : k = T.length := by rw [htz] at h; omega
      subst hk2
      rw [List.take_length]
      have hf := hfl T.length (Nat.le_refl _)
      rw [List.take_length] at hf
      by_cases hneg : T.length < s.length
      · have z : decide (((⟨T.toArray⟩ : ByteArray).size : Int) < ((⟨s.toArray⟩ : ByteArray).size : Int)) = true := decide_eq_true (by rw [htz, hsz]; omega)
        have hn := hnn (-(fold15 0 T)) (by rw [if_pos hneg]) (by omega)
        have w1 : IntKind.i64.wrap (0 - fold15 0 T) = 0 - fold15 0 T := wrap_i64 (by omega) (by omega)
        have e3 : 0 - fold15 0 T = -(fold15 0 T) := by omega
        have hnum := ref23_Number (-(fold15 0 T)) (by unfold i64B; omega)
        rw [← e3] at hnum hn
        repeat' ((conv => whnf); (first
          | (refine Br_true z ?_)
          | (refine Br_true (by assumption) ?_)
          | (refine Br_false (by assumption) ?_)
          | (refine Br_true (beqT (by omega)) ?_)
          | (refine Br_false (beqF (by omega)) ?_)
          | (refine Br_beq (fun h => ?_) (fun h => ?_))
          | (refine Br_true (bneT (by omega)) ?_)
          | (refine Br_false (bneF (by omega)) ?_)
          | (refine Br_bne (fun h => ?_) (fun h => ?_))
          | (refine Br_true (decide_eq_true (by omega)) ?_)
          | (refine Br_false (decide_eq_false (by omega)) ?_)
          | (refine Br_dec (fun h => ?_) (fun h => ?_))
          | (refine Br_not ?_)
          | (refine Len_in (fun hlen => ?_))
          | (refine ArK_in w1 ?_)
          | (refine Fn.use (hnum) rfl rfl ?_)
          | (refine CallF_in (hnum) rfl rfl ?_)
          | (refine Br_split (fun h => ?_) (fun h => ?_))
          | (refine fin0 rfl ?_)
          | (refine ArK_in (wrap_i64 (by omega) (by omega)) ?_)
          | (refine force_in ?_)))
        exact hn
      · have z : decide (((⟨T.toArray⟩ : ByteArray).size : Int) < ((⟨s.toArray⟩ : ByteArray).size : Int)) = false := decide_eq_false (by rw [htz, hsz]; omega)
        have hn := hnn (fold15 0 T) (by rw [if_neg hneg]) (by omega)
        have hnum := ref23_Number (fold15 0 T) (by unfold i64B; omega)
        repeat' ((conv => whnf); (first
          | (refine Br_false z ?_)
          | (refine Br_true (by assumption) ?_)
          | (refine Br_false (by assumption) ?_)
          | (refine Br_true (beqT (by omega)) ?_)
          | (refine Br_false (beqF (by omega)) ?_)
          | (refine Br_beq (fun h => ?_) (fun h => ?_))
          | (refine Br_true (bneT (by omega)) ?_)
          | (refine Br_false (bneF (by omega)) ?_)
          | (refine Br_bne (fun h => ?_) (fun h => ?_))
          | (refine Br_true (decide_eq_true (by omega)) ?_)
          | (refine Br_false (decide_eq_false (by omega)) ?_)
          | (refine Br_dec (fun h => ?_) (fun h => ?_))
          | (refine Br_not ?_)
          | (refine Len_in (fun hlen => ?_))
          | (refine Fn.use (hnum) rfl rfl ?_)
          | (refine CallF_in (hnum) rfl rfl ?_)
          | (refine Br_split (fun h => ?_) (fun h => ?_))
          | (refine fin0 rfl ?_)
          | (refine ArK_in (wrap_i64 (by omega) (by omega)) ?_)
          | (refine force_in ?_)))
        exact hn
end Go.Eng
set_option maxRecDepth 100000
set_option linter.unusedVariables false
set_option linter.unusedSimpArgs false
namespace Go.Eng
open Go Go.Proofs
theorem evV_ne {n : Int} : evV n ≠ [] ↔ 0 ≤ n ∧ n ≤ 8 := by
  unfold evV
  by_cases h : 0 ≤ n ∧ n ≤ 8
  · rw [if_pos h]
    have := (ev_all ⟨n.toNat, by omega⟩).2.2.1
    exact ⟨fun _ => h, fun _ => this⟩
  · rw [if_neg h]; simp [h]
set_option maxHeartbeats 2000000 in
theorem tell_told (r : TRow) : Fn Tryd.prog 29 [aggD r.cs] (.b (toldB r)) := by
  refine Fn_of tt_ok Tryd.func29 rfl (by decide) Tryd.ntmps29 rfl ?_
  have hev := tell_Event r.type
  have hne := @evV_ne r.type
  have ht := @told_iff r
  generalize toldB r = q at *
  have hq : q = decide ((r.kind = 0 ∧ r.err = 0 ∧ 0 ≤ r.type ∧ r.type ≤ 8) ∨ ((r.kind = 1 ∨ r.kind = 2) ∧ r.type = 0 ∧ r.node = 0 ∧ r.target = 0 ∧ r.related = 0 ∧ r.phase = 0) ∨ (r.kind = 3 ∧ r.prog = 0 ∧ r.related = 0 ∧ r.phase = 0)) := by
    cases q
    · rw [eq_comm, decide_eq_false_iff_not]; intro h; have := ht.2 h; simp at this
    · rw [eq_comm, decide_eq_true_eq]; exact ht.1 rfl
  rw [hq]
  clear hq ht q
  generalize evV r.type = w at *
  have hw : ((⟨w.toArray⟩ : ByteArray).toList == (⟨#[]⟩ : ByteArray).toList) = decide (w = []) := by
    rw [str_toList, show (⟨#[]⟩ : ByteArray).toList = [] from str_toList []]
    cases w <;> rfl
  repeat' ((conv => whnf); (first
    | (refine Br_true (by assumption) ?_)
    | (refine Br_false (by assumption) ?_)
    | (refine Br_true (beqT (by omega)) ?_)
    | (refine Br_false (beqF (by omega)) ?_)
    | (refine Br_beq (fun h => ?_) (fun h => ?_))
    | (refine Br_true (bneT (by omega)) ?_)
    | (refine Br_false (bneF (by omega)) ?_)
    | (refine Br_bne (fun h => ?_) (fun h => ?_))
    | (refine Br_true (decide_eq_true (by omega)) ?_)
    | (refine Br_false (decide_eq_false (by omega)) ?_)
    | (refine Br_dec (fun h => ?_) (fun h => ?_))
    | (refine Br_not ?_)
    | (refine Len_in (fun hlen => ?_))
    | (refine Fn.use (hev) rfl rfl ?_)
    | (refine CallF_in (hev) rfl rfl ?_)
    | (refine Br_split (fun h => ?_) (fun h => ?_))
    | (refine fin0 rfl ?_)
    | (refine ArK_in (wrap_i64 (by omega) (by omega)) ?_)
    | (refine force_in ?_)))
  all_goals (clear hev; simp only [AV.d.injEq, D.bool.injEq, allB, hw]; rw [Bool.eq_iff_iff]; simp only [Bool.and_eq_true, Bool.not_eq_true', decide_eq_true_eq, decide_eq_false_iff_not, beq_iff_eq, Bool.false_eq_true, and_true, true_and, false_iff]; grind)
end Go.Eng
set_option maxRecDepth 100000
set_option linter.unusedVariables false
set_option linter.unusedSimpArgs false
namespace Go.Eng
open Go Go.Proofs
structure rngR (r : TRow) : Prop where
  h1 : i64B r.prog
  h2 : i64B r.type
  h3 : i64B r.node
  h4 : i64B r.target
  h5 : i64B r.related
  h6 : i64B r.phase
  h7 : i64B r.err
set_option maxHeartbeats 4000000 in
theorem tell_Row (r : TRow) (hr : rngR r) : Fn Tryd.prog 12 [aggD r.cs] (.d (str (rowV r))) := by
  refine Fn_of tt_ok Tryd.func12 rfl (by decide) Tryd.ntmps12 rfl ?_
  have htd := tell_told r
  cases ht : toldB r <;> rw [ht] at htd
  · have e : rowV r = [] := by unfold rowV; rw [ht]; rfl
    rw [e]
    repeat' ((conv => whnf); (first
      | (refine Br_true (by assumption) ?_)
      | (refine Br_false (by assumption) ?_)
      | (refine Br_true (beqT (by omega)) ?_)
      | (refine Br_false (beqF (by omega)) ?_)
      | (refine Br_beq (fun h => ?_) (fun h => ?_))
      | (refine Br_true (bneT (by omega)) ?_)
      | (refine Br_false (bneF (by omega)) ?_)
      | (refine Br_bne (fun h => ?_) (fun h => ?_))
      | (refine Br_true (decide_eq_true (by omega)) ?_)
      | (refine Br_false (decide_eq_false (by omega)) ?_)
      | (refine Br_dec (fun h => ?_) (fun h => ?_))
      | (refine Br_not ?_)
      | (refine Len_in (fun hlen => ?_))
      | (refine Fn.use (htd) rfl rfl ?_)
      | (refine CallF_in (htd) rfl rfl ?_)
      | (refine Br_split (fun h => ?_) (fun h => ?_))
      | (refine fin0 rfl ?_)
      | (refine ArK_in (wrap_i64 (by omega) (by omega)) ?_)
      | (refine force_in ?_)))
    all_goals rfl
  have hi := told_iff.1 ht
  have e : rowV r = joinL 32 (wordsR r) := by unfold rowV; rw [if_pos ht]
  rw [e]
  unfold wordsR
  by_cases k0 : r.kind = 0
  · rw [if_pos k0]
    have hty : 0 ≤ r.type ∧ r.type ≤ 8 := by rcases hi with h | h | h <;> omega
    have hel := (ev_all ⟨r.type.toNat, by omega⟩).2.2.2.1
    have hev := tell_Event r.type
    rw [show evV r.type = evL r.type.toNat by unfold evV; rw [if_pos hty]] at hev
    have hl1 := tell_line wCall [r.prog] (by decide) (by simp) (by intro n hn; simp at hn; subst hn; exact hr.h1)
    have hl2 := tell_line (evL r.type.toNat) [r.node, r.target, r.related, r.phase] (Nat.le_trans hel (by omega)) (by simp) (by intro n hn; simp at hn; rcases hn with rfl | rfl | rfl | rfl <;> first | exact hr.h3 | exact hr.h4 | exact hr.h5 | exact hr.h6)
    have hb1 := it_len hr.h1
    have hb3 := it_len hr.h3
    have hb4 := it_len hr.h4
    have hb5 := it_len hr.h5
    have hb6 := it_len hr.h6
    simp only [List.map_cons, List.map_nil] at hl1 hl2
    generalize evL r.type.toNat = ev at *
    generalize it r.prog = a1 at *
    generalize it r.node = a3 at *
    generalize it r.target = a4 at *
    generalize it r.related = a5 at *
    generalize it r.phase = a6 at *
    have hj1 : (joinL 32 [wCall, a1]).length ≤ 100 := by simp [joinL, wCall]; omega
    have hj2 : (joinL 32 [ev, a3, a4, a5, a6]).length ≤ 200 := by simp [joinL]; omega
    have hjj : joinL 32 [wCall, a1, ev, a3, a4, a5, a6] = joinL 32 [wCall, a1] ++ 32 :: joinL 32 [ev, a3, a4, a5, a6] := joinL_app 32 [wCall, a1] [ev, a3, a4, a5, a6] (by simp) (by simp)
    rw [hjj]
    generalize joinL 32 [wCall, a1] = x at *
    generalize joinL 32 [ev, a3, a4, a5, a6] = y at *
    have hres : AV.d (D.str (((⟨x.toArray⟩ : ByteArray) ++ ⟨[32].toArray⟩) ++ ⟨y.toArray⟩)) = .d (str (x ++ 32 :: y)) := by rw [str_app, str_app]; simp [str]
    have z : (r.kind == 0) = true := by rw [k0]; rfl
    repeat' ((conv => whnf); (first
      | (refine Br_true z ?_)
      | (refine Br_true (by assumption) ?_)
      | (refine Br_false (by assumption) ?_)
      | (refine Br_true (beqT (by omega)) ?_)
      | (refine Br_false (beqF (by omega)) ?_)
      | (refine Br_beq (fun h => ?_) (fun h => ?_))
      | (refine Br_true (bneT (by omega)) ?_)
      | (refine Br_false (bneF (by omega)) ?_)
      | (refine Br_bne (fun h => ?_) (fun h => ?_))
      | (refine Br_true (decide_eq_true (by omega)) ?_)
      | (refine Br_false (decide_eq_false (by omega)) ?_)
      | (refine Br_dec (fun h => ?_) (fun h => ?_))
      | (refine Br_not ?_)
      | (refine Len_in (fun hlen => ?_))
      | (refine W_draw 0 tt_ok mixed (by kernel_rfl) ?_)
      | (refine Fn.use (htd) rfl rfl ?_)
      | (refine CallF_in (htd) rfl rfl ?_)
      | (refine Fn.use (hl1) rfl rfl ?_)
      | (refine CallF_in (hl1) rfl rfl ?_)
      | (refine Fn.use (hev) rfl rfl ?_)
      | (refine CallF_in (hev) rfl rfl ?_)
      | (refine Fn.use (hl2) rfl rfl ?_)
      | (refine CallF_in (hl2) rfl rfl ?_)
      | (refine Need_in (by unfold LB; simp [ByteArray.size]; omega) ?_)
      | (refine fin0 rfl hres)
      | (refine Br_split (fun h => ?_) (fun h => ?_))
      | (refine fin0 rfl ?_)
      | (refine ArK_in (wrap_i64 (by omega) (by omega)) ?_)
      | (refine force_in ?_)))
  · rw [if_neg k0]
    have z0 : (r.kind == 0) = false := by simpa using k0
    by_cases k1 : r.kind = 1
    · rw [if_pos k1]
      have hl := tell_line wStep [r.prog, r.err] (by decide) (by simp) (by intro n hn; simp at hn; rcases hn with rfl | rfl <;> first | exact hr.h1 | exact hr.h7)
      have z1 : (r.kind == 1) = true := by rw [k1]; rfl
      repeat' ((conv => whnf); (first
        | (refine Br_false z0 ?_)
        | (refine Br_true z1 ?_)
        | (refine Ch_r ?_)
        | (refine Br_true (by assumption) ?_)
        | (refine Br_false (by assumption) ?_)
        | (refine Br_true (beqT (by omega)) ?_)
        | (refine Br_false (beqF (by omega)) ?_)
        | (refine Br_beq (fun h => ?_) (fun h => ?_))
        | (refine Br_true (bneT (by omega)) ?_)
        | (refine Br_false (bneF (by omega)) ?_)
        | (refine Br_bne (fun h => ?_) (fun h => ?_))
        | (refine Br_true (decide_eq_true (by omega)) ?_)
        | (refine Br_false (decide_eq_false (by omega)) ?_)
        | (refine Br_dec (fun h => ?_) (fun h => ?_))
        | (refine Br_not ?_)
        | (refine Len_in (fun hlen => ?_))
        | (refine Fn.use (htd) rfl rfl ?_)
        | (refine CallF_in (htd) rfl rfl ?_)
        | (refine Fn.use (hl) rfl rfl ?_)
        | (refine CallF_in (hl) rfl rfl ?_)
        | (refine Br_split (fun h => ?_) (fun h => ?_))
        | (refine fin0 rfl ?_)
        | (refine ArK_in (wrap_i64 (by omega) (by omega)) ?_)
        | (refine force_in ?_)))
      rfl
    · rw [if_neg k1]
      have z1 : (r.kind == 1) = false := by simpa using k1
      by_cases k2 : r.kind = 2
      · rw [if_pos k2]
        have hl := tell_line wDone [r.prog, r.err] (by decide) (by simp) (by intro n hn; simp at hn; rcases hn with rfl | rfl <;> first | exact hr.h1 | exact hr.h7)
        have z2 : (r.kind == 2) = true := by rw [k2]; rfl
        repeat' ((conv => whnf); (first
          | (refine Br_false z0 ?_)
          | (refine Br_false z1 ?_)
          | (refine Br_true z2 ?_)
          | (refine Ch_r ?_)
          | (refine Br_true (by assumption) ?_)
          | (refine Br_false (by assumption) ?_)
          | (refine Br_true (beqT (by omega)) ?_)
          | (refine Br_false (beqF (by omega)) ?_)
          | (refine Br_beq (fun h => ?_) (fun h => ?_))
          | (refine Br_true (bneT (by omega)) ?_)
          | (refine Br_false (bneF (by omega)) ?_)
          | (refine Br_bne (fun h => ?_) (fun h => ?_))
          | (refine Br_true (decide_eq_true (by omega)) ?_)
          | (refine Br_false (decide_eq_false (by omega)) ?_)
          | (refine Br_dec (fun h => ?_) (fun h => ?_))
          | (refine Br_not ?_)
          | (refine Len_in (fun hlen => ?_))
          | (refine Fn.use (htd) rfl rfl ?_)
          | (refine CallF_in (htd) rfl rfl ?_)
          | (refine Fn.use (hl) rfl rfl ?_)
          | (refine CallF_in (hl) rfl rfl ?_)
          | (refine Br_split (fun h => ?_) (fun h => ?_))
          | (refine fin0 rfl ?_)
          | (refine ArK_in (wrap_i64 (by omega) (by omega)) ?_)
          | (refine force_in ?_)))
        rfl
      · rw [if_neg k2]
        have z2 : (r.kind == 2) = false := by simpa using k2
        have hl := tell_line wResult [r.type, r.node, r.target, r.err] (by decide) (by simp) (by intro n hn; simp at hn; rcases hn with rfl | rfl | rfl | rfl <;> first | exact hr.h2 | exact hr.h3 | exact hr.h4 | exact hr.h7)
        repeat' ((conv => whnf); (first
          | (refine Br_false z0 ?_)
          | (refine Br_false z1 ?_)
          | (refine Br_false z2 ?_)
          | (refine Ch_r ?_)
          | (refine Br_true (by assumption) ?_)
          | (refine Br_false (by assumption) ?_)
          | (refine Br_true (beqT (by omega)) ?_)
          | (refine Br_false (beqF (by omega)) ?_)
          | (refine Br_beq (fun h => ?_) (fun h => ?_))
          | (refine Br_true (bneT (by omega)) ?_)
          | (refine Br_false (bneF (by omega)) ?_)
          | (refine Br_bne (fun h => ?_) (fun h => ?_))
          | (refine Br_true (decide_eq_true (by omega)) ?_)
          | (refine Br_false (decide_eq_false (by omega)) ?_)
          | (refine Br_dec (fun h => ?_) (fun h => ?_))
          | (refine Br_not ?_)
          | (refine Len_in (fun hlen => ?_))
          | (refine Fn.use (htd) rfl rfl ?_)
          | (refine CallF_in (htd) rfl rfl ?_)
          | (refine Fn.use (hl) rfl rfl ?_)
          | (refine CallF_in (hl) rfl rfl ?_)
          | (refine Br_split (fun h => ?_) (fun h => ?_))
          | (refine fin0 rfl ?_)
          | (refine ArK_in (wrap_i64 (by omega) (by omega)) ?_)
          | (refine force_in ?_)))
        rfl
end Go.Eng
set_option maxRecDepth 100000
set_option linter.unusedVariables false
set_option linter.unusedSimpArgs false
namespace Go.Eng
open Go Go.Proofs
@[irreducible] def arrK (W : List (List UInt8)) (k : Nat) : List AV := (List.range 7).map fun i => AV.i (if i < k then numA W i else 0)
theorem arr_len (W : List (List UInt8)) (k : Nat) : (arrK W k).length = 7 := by unfold arrK; simp
theorem arr_set {W : List (List UInt8)} {k : Nat} (h : k < 7) {v : AV} (hv : v = .i (numA W k)) : (arrK W k).set k v = arrK W (k + 1) := by
  subst hv
  unfold arrK
  apply List.ext_getElem?
  intro i
  rw [List.getElem?_set, List.getElem?_map, List.getElem?_map, List.length_map, List.length_range]
  by_cases hi : i < 7
  · rw [List.getElem?_range hi]
    by_cases hk : k = i
    · subst hk; simp [h]
    · rw [if_neg hk]
      have : (i < k + 1) = (i < k) := by apply propext; omega
      simp [this]
  · rw [if_neg (by omega), List.getElem?_eq_none (by simp; omega)]; rfl
theorem arr_big {W : List (List UInt8)} {k : Nat} (h : 7 ≤ k) : arrK W (k + 1) = arrK W k := by
  unfold arrK
  apply List.map_congr_left
  intro i hi
  have := List.mem_range.1 hi
  rw [if_pos (by omega), if_pos (by omega)]
theorem arr_at {W : List (List UInt8)} {i : Nat} (h : i < 7) : (arrK W W.length)[i]? = some (AV.i (numA W i)) := by
  unfold arrK
  rw [List.getElem?_map, List.getElem?_range h]
  simp only [Option.map_some]
  by_cases hi : i < W.length
  · rw [if_pos hi]
  · rw [if_neg hi]; unfold numA; rw [if_neg hi]
theorem index_ev (w0 : List UInt8) (r0 r1 r3 : List AV) :
    Tri Tryd.prog 41 [.msl 2 0 9 9 1, .d (str w0)] [some (.row r0), some (.row r1), some (.row evsL), some (.row r3)] fun v H' => v = .i (evIx w0) ∧ H' = [some (.row r0), some (.row r1), some (.row evsL), some (.row r3)] := by
  refine Tri_of (m := 4) tt_ok Tryd.func41 rfl (by decide) Tryd.ntmps41 (by rfl) rfl ?_
  unfold evIx
  repeat' ((conv => whnf); (first
    | (refine Br_true (by assumption) ?_)
    | (refine Br_false (by assumption) ?_)
    | (refine Br_true (beqT (by omega)) ?_)
    | (refine Br_false (beqF (by omega)) ?_)
    | (refine Br_beq (fun h => ?_) (fun h => ?_))
    | (refine Br_true (bneT (by omega)) ?_)
    | (refine Br_false (bneF (by omega)) ?_)
    | (refine Br_bne (fun h => ?_) (fun h => ?_))
    | (refine Br_true (decide_eq_true (by omega)) ?_)
    | (refine Br_false (decide_eq_false (by omega)) ?_)
    | (refine Br_dec (fun h => ?_) (fun h => ?_))
    | (refine Br_not ?_)
    | (refine Len_in (fun hlen => ?_))
    | (refine Br_split (fun h => ?_) (fun h => ?_))
    | (refine fin0 rfl ?_)
    | (refine ArK_in (wrap_i64 (by omega) (by omega)) ?_)
    | (refine force_in ?_)))
  refine W_loop (fun μ s => ∃ (k : Nat), k ≤ 9 ∧ μ = 9 - k ∧ (∀ j (h : j < (List.range 9).length), j < k → (fun k => evL k == w0) (List.range 9)[j] = false) ∧
      s = ⟨[(0, .msl 2 0 9 9 1), (1, .d (str w0)), (7, .i 9), (8, .i k)], 19, [some (.row r0), some (.row r1), some (.row evsL), some (.row r3)], 4, []⟩) 9
    ⟨_, ?_, 0, by simp, by simp, by simp, rfl⟩ ?_
  · exact Wk_env (by repeat (first | exact trivial | refine ⟨rfl, ?_⟩))
  rintro μ s1 ⟨k, hk, rfl, hno, rfl⟩
  refine W_run tt_ok ?_
  have hd := ix_drop (fun k => evL k == w0) (List.range 9) k hno (by rw [List.length_range]; exact hk)
  refine Br_dec (fun h => ?_) (fun h => ?_)
  · have h : k < 9 := by omega
    have hat : evsL[0 + (k : Int).toNat * 1]? = some (AV.d (str (evL k))) := by rw [Nat.zero_add, Nat.mul_one, Int.toNat_natCast]; exact evs_at h
    have hb : 0 ≤ (k : Int) ∧ (k : Int) < ((9 : Nat) : Int) := by omega
    rw [List.drop_eq_getElem_cons (by simpa using h)] at hd
    simp only [List.getElem_range, ix] at hd
    have hcase : ((⟨w0.toArray⟩ : ByteArray).toList == (⟨(evL k).toArray⟩ : ByteArray).toList) = (evL k == w0) := by rw [str_toList, str_toList, Bool.eq_iff_iff, beq_iff_eq, beq_iff_eq]; exact eq_comm
    cases hq : (evL k == w0)
    · rw [hq] at hcase
      repeat' ((conv => whnf); (first
        | (refine Br_true (decide_eq_true hb) ?_)
        | (refine Br_false hcase ?_)
        | (refine Br_true (by assumption) ?_)
        | (refine Br_false (by assumption) ?_)
        | (refine Br_true (beqT (by omega)) ?_)
        | (refine Br_false (beqF (by omega)) ?_)
        | (refine Br_beq (fun h => ?_) (fun h => ?_))
        | (refine Br_true (bneT (by omega)) ?_)
        | (refine Br_false (bneF (by omega)) ?_)
        | (refine Br_bne (fun h => ?_) (fun h => ?_))
        | (refine Br_true (decide_eq_true (by omega)) ?_)
        | (refine Br_false (decide_eq_false (by omega)) ?_)
        | (refine Br_dec (fun h => ?_) (fun h => ?_))
        | (refine Br_not ?_)
        | (refine Len_in (fun hlen => ?_))
        | (refine Cell_in _ hat (force_in ?_))
        | (refine Back_in _ _ ⟨k + 1, by omega, rfl, ?_, rfl⟩ (by omega) (Wk_env (by repeat (first | exact trivial | refine ⟨rfl, ?_⟩))))
        | (refine Br_split (fun h => ?_) (fun h => ?_))
        | (refine fin0 rfl ?_)
        | (refine ArK_in (wrap_i64 (by omega) (by omega)) ?_)
        | (refine force_in ?_)))
      intro j hj hjk
      rcases Nat.lt_succ_iff_lt_or_eq.1 hjk with h1 | h1
      · exact hno j hj h1
      · subst h1; simpa using hq
    · rw [hq] at hcase hd
      rw [hd]
      repeat' ((conv => whnf); (first
        | (refine Br_true (decide_eq_true hb) ?_)
        | (refine Br_true hcase ?_)
        | (refine Br_true (by assumption) ?_)
        | (refine Br_false (by assumption) ?_)
        | (refine Br_true (beqT (by omega)) ?_)
        | (refine Br_false (beqF (by omega)) ?_)
        | (refine Br_beq (fun h => ?_) (fun h => ?_))
        | (refine Br_true (bneT (by omega)) ?_)
        | (refine Br_false (bneF (by omega)) ?_)
        | (refine Br_bne (fun h => ?_) (fun h => ?_))
        | (refine Br_true (decide_eq_true (by omega)) ?_)
        | (refine Br_false (decide_eq_false (by omega)) ?_)
        | (refine Br_dec (fun h => ?_) (fun h => ?_))
        | (refine Br_not ?_)
        | (refine Len_in (fun hlen => ?_))
        | (refine Cell_in _ hat (force_in ?_))
        | (refine finR ?_)
        | (refine Br_split (fun h => ?_) (fun h => ?_))
        | (refine fin0 rfl ?_)
        | (refine ArK_in (wrap_i64 (by omega) (by omega)) ?_)
        | (refine force_in ?_)))
      simp
  · have h : k = 9 := by omega
    subst h
    rw [List.drop_eq_nil_of_le (by simp)] at hd
    rw [hd]
    repeat' ((conv => whnf); (first
      | (refine Br_true (by assumption) ?_)
      | (refine Br_false (by assumption) ?_)
      | (refine Br_true (beqT (by omega)) ?_)
      | (refine Br_false (beqF (by omega)) ?_)
      | (refine Br_beq (fun h => ?_) (fun h => ?_))
      | (refine Br_true (bneT (by omega)) ?_)
      | (refine Br_false (bneF (by omega)) ?_)
      | (refine Br_bne (fun h => ?_) (fun h => ?_))
      | (refine Br_true (decide_eq_true (by omega)) ?_)
      | (refine Br_false (decide_eq_false (by omega)) ?_)
      | (refine Br_dec (fun h => ?_) (fun h => ?_))
      | (refine Br_not ?_)
      | (refine Len_in (fun hlen => ?_))
      | (refine finR ?_)
      | (refine Br_split (fun h => ?_) (fun h => ?_))
      | (refine fin0 rfl ?_)
      | (refine ArK_in (wrap_i64 (by omega) (by omega)) ?_)
      | (refine force_in ?_)))
    rfl
set_option maxHeartbeats 400000 in
theorem tell_parse (W : List (List UInt8)) (hne : W ≠ []) : Fn Tryd.prog 25 [.d (texts W)] (aggD (parseR W).cs) := by
  refine Fn_of tt_ok Tryd.func25 rfl (by decide) Tryd.ntmps25 rfl ?_
  have hcl : (W.map fun l => [str l]).length = W.length := by simp
  refine Len_in (fun hlen => ?_)
  rw [hcl] at hlen
  refine W_loop (fun μ st => ∃ (k : Nat), k ≤ W.length ∧ μ = W.length - k ∧ st = ⟨[(0, .d (texts W)), (2, .ptr 0 0), (3, .ptr 1 0), (8, .d (texts W)), (9, .i (W.map fun l => [str l]).length), (10, .i k)], 78, [some (.row [.i 0, .i 0, .i 0, .i 0, .i 0, .i 0, .i 0, .i 0]), some (.row (arrK W k))], 0, []⟩) W.length
    ⟨⟨[(0, .d (texts W)), (2, .ptr 0 0), (3, .ptr 1 0), (8, .d (texts W)), (9, .i (W.map fun l => [str l]).length), (10, .i 0)], 78, [some (.row [.i 0, .i 0, .i 0, .i 0, .i 0, .i 0, .i 0, .i 0]), some (.row [.i 0, .i 0, .i 0, .i 0, .i 0, .i 0, .i 0])], 0, []⟩, ?_, 0, by omega, by omega, by rw [show arrK W 0 = [.i 0, .i 0, .i 0, .i 0, .i 0, .i 0, .i 0] by unfold arrK; rfl]; rfl⟩ ?_
  · exact Wk_env (by repeat (first | exact trivial | refine ⟨rfl, ?_⟩))
  rintro μ s1 ⟨k, hk, rfl, rfl⟩
  refine W_run tt_ok ?_
  refine Br_dec (fun h => ?_) (fun h => ?_)
  · have hlt : k < W.length := by rw [hcl] at h; omega
    have hi := texts_w (W := W) (n := k) hlt rfl
    have hat := atoi_any (wAt W k)
    by_cases h7 : k < 7
    · have z : decide ((k : Int) < 7) = true := decide_eq_true (by omega)
      have hb : 0 ≤ (k : Int) ∧ (k : Int) < ((7 : Nat) : Int) := by omega
      have hv : AV.i (atoiV (wAt W k)) = .i (numA W k) := by unfold numA; rw [if_pos hlt]
      have hset := arr_set (W := W) h7 hv
      have hbl : (0 + (k : Int).toNat * 1 + 1).ble (arrK W k).length = true := Nat.ble_eq_true_of_le (by rw [arr_len]; omega)
      have hk0 : 0 + (k : Int).toNat * 1 = k := by omega
      repeat' ((conv => whnf); (first
        | (refine Br_true z ?_)
        | (refine Br_true (decide_eq_true hb) ?_)
        | (refine Br_true hbl ?_)
        | (refine Br_true (by assumption) ?_)
        | (refine Br_false (by assumption) ?_)
        | (refine Br_true (beqT (by omega)) ?_)
        | (refine Br_false (beqF (by omega)) ?_)
        | (refine Br_beq (fun h => ?_) (fun h => ?_))
        | (refine Br_true (bneT (by omega)) ?_)
        | (refine Br_false (bneF (by omega)) ?_)
        | (refine Br_bne (fun h => ?_) (fun h => ?_))
        | (refine Br_true (decide_eq_true (by omega)) ?_)
        | (refine Br_false (decide_eq_false (by omega)) ?_)
        | (refine Br_dec (fun h => ?_) (fun h => ?_))
        | (refine Br_not ?_)
        | (refine Len_in (fun hlen => ?_))
        | (refine Idx_in _ hi (by omega) rfl ?_)
        | (refine Fn.use (hat) rfl rfl ?_)
        | (refine CallF_in (hat) rfl rfl ?_)
        | (refine Back_in ⟨[(0, .d (texts W)), (2, .ptr 0 0), (3, .ptr 1 0), (8, .d (texts W)), (9, .i (W.map fun l => [str l]).length), (10, .i (k + 1 : Nat))], 78, [some (.row [.i 0, .i 0, .i 0, .i 0, .i 0, .i 0, .i 0, .i 0]), some (.row ((arrK W k).set (0 + (k : Int).toNat * 1) (.i (atoiV (wAt W k)))))], 0, []⟩ _ ⟨k + 1, by omega, rfl, by rw [hk0, hset]⟩ (by omega) (Wk_env (by repeat (first | exact trivial | refine ⟨rfl, ?_⟩))))
        | (refine Br_split (fun h => ?_) (fun h => ?_))
        | (refine fin0 rfl ?_)
        | (refine ArK_in (wrap_i64 (by omega) (by omega)) ?_)
        | (refine force_in ?_)))
    · have z : decide ((k : Int) < 7) = false := decide_eq_false (by omega)
      repeat' ((conv => whnf); (first
        | (refine Br_false z ?_)
        | (refine Br_true (by assumption) ?_)
        | (refine Br_false (by assumption) ?_)
        | (refine Br_true (beqT (by omega)) ?_)
        | (refine Br_false (beqF (by omega)) ?_)
        | (refine Br_beq (fun h => ?_) (fun h => ?_))
        | (refine Br_true (bneT (by omega)) ?_)
        | (refine Br_false (bneF (by omega)) ?_)
        | (refine Br_bne (fun h => ?_) (fun h => ?_))
        | (refine Br_true (decide_eq_true (by omega)) ?_)
        | (refine Br_false (decide_eq_false (by omega)) ?_)
        | (refine Br_dec (fun h => ?_) (fun h => ?_))
        | (refine Br_not ?_)
        | (refine Len_in (fun hlen => ?_))
        | (refine Idx_in _ hi (by omega) rfl ?_)
        | (refine Back_in ⟨[(0, .d (texts W)), (2, .ptr 0 0), (3, .ptr 1 0), (8, .d (texts W)), (9, .i (W.map fun l => [str l]).length), (10, .i (k + 1 : Nat))], 78, [some (.row [.i 0, .i 0, .i 0, .i 0, .i 0, .i 0, .i 0, .i 0]), some (.row (arrK W k))], 0, []⟩ _ ⟨k + 1, by omega, rfl, by rw [arr_big (by omega)]⟩ (by omega) (Wk_env (by repeat (first | exact trivial | refine ⟨rfl, ?_⟩))))
        | (refine Br_split (fun h => ?_) (fun h => ?_))
        | (refine fin0 rfl ?_)
        | (refine ArK_in (wrap_i64 (by omega) (by omega)) ?_)
        | (refine force_in ?_)))
  · have hk2 : k = W.length := by rw [hcl] at h; omega
    subst hk2
    have hl0 : 0 < W.length := List.length_pos_iff.2 hne
    have h0 := texts_w (W := W) (n := 0) hl0 rfl
    have hR : arrK W W.length = [.i (numA W 0), .i (numA W 1), .i (numA W 2), .i (numA W 3), .i (numA W 4), .i (numA W 5), .i (numA W 6)] := by
      apply List.ext_getElem?
      intro i
      by_cases hi : i < 7
      · rw [arr_at hi]
        match i, hi with
        | 0, _ => rfl
        | 1, _ => rfl
        | 2, _ => rfl
        | 3, _ => rfl
        | 4, _ => rfl
        | 5, _ => rfl
        | 6, _ => rfl
      · rw [List.getElem?_eq_none (by rw [arr_len]; omega), List.getElem?_eq_none (by simp; omega)]
    rw [hR]
    clear hR
    have hc : ∀ x : List UInt8, ((⟨(wAt W 0).toArray⟩ : ByteArray).toList == (⟨x.toArray⟩ : ByteArray).toList) = (wAt W 0 == x) := fun x => by rw [str_toList, str_toList]
    have c1 := hc wCall
    have c2 := hc wStep
    have c3 := hc wDone
    have c4 := hc wResult
    unfold parseR
    have Zl : ((List.replicate 9 [AV.d (D.str ⟨#[]⟩)]).flatten).length = evsL.length := by rw [evs_len]; rfl
    have hk1 : evsL.length.beq 9 = true := by rw [evs_len]; rfl
    have hk2 : (0 + evsL.length).ble 9 = true := by rw [evs_len]; rfl
    have hk3 : (0 + 9 * 1).ble (splice ((List.replicate 9 [AV.d (D.str ⟨#[]⟩)]).flatten) 0 evsL).length = true := by rw [splice_full _ _ Zl, evs_len]; rfl
    have hgo : ∀ (x : List UInt8), (wAt W 0 == x) = decide (wAt W 0 = x) := fun x => by rw [Bool.eq_iff_iff]; simp
    rw [hgo] at c1 c2 c3 c4
    clear hc hgo
    by_cases e1 : wAt W 0 = wCall
    · rw [if_pos e1]
      rw [decide_eq_true e1] at c1
      generalize numA W 0 = n0 at *
      generalize numA W 1 = n1 at *
      generalize numA W 2 = n2 at *
      generalize numA W 3 = n3 at *
      generalize numA W 4 = n4 at *
      generalize numA W 5 = n5 at *
      generalize numA W 6 = n6 at *
      refine Idx_in _ h0 (by omega) rfl ?_
      conv => whnf
      refine Br_true c1 ?_
      clear c1 c2 c3 c4
      conv => whnf
      refine Fn.use tell_names rfl evs_low ?_
      refine Br_true hk1 ?_
      refine Br_true hk2 ?_
      conv => whnf
      refine Len_in (fun _ => ?_)
      by_cases h2 : 2 < W.length
      · rw [if_pos h2]
        have hw2 := texts_w (W := W) (n := 2) h2 rfl
        have z : decide (((W.map fun l => [str l]).length : Int) > 2) = true := decide_eq_true (by rw [hcl]; omega)
        refine Br_true z ?_
        generalize wAt W 2 = w2 at *
        clear hk hlen h0
        refine W_draw 2 tt_ok mixed (by kernel_rfl) ?_
        refine Br_true hk3 ?_
        refine Need_in (by unfold LB; decide) ?_
        refine Idx_in _ hw2 (by omega) rfl ?_
        have hc := index_ev w2 [.i 0, .i 0, .i 0, .i 0, .i 0, .i 0, .i 0, .i 0] [.i n0, .i n1, .i n2, .i n3, .i n4, .i n5, .i n6] [.i 0, .i n1, .i (-1), .i n3, .i n4, .i n5, .i n6, .i 0]
        refine CallH_in (r := .i (evIx w2)) [some (.row [.i 0, .i 0, .i 0, .i 0, .i 0, .i 0, .i 0, .i 0]), some (.row [.i n0, .i n1, .i n2, .i n3, .i n4, .i n5, .i n6]), some (.row evsL), some (.row [.i 0, .i n1, .i (-1), .i n3, .i n4, .i n5, .i n6, .i 0])] (by simp)
          (fun K' hK' => Tri.useE hc (congrArg (fun l => [some (Blk.row [.i 0, .i 0, .i 0, .i 0, .i 0, .i 0, .i 0, .i 0]), some (Blk.row [.i n0, .i n1, .i n2, .i n3, .i n4, .i n5, .i n6]), some (Blk.row l), some (Blk.row [.i 0, .i n1, .i (-1), .i n3, .i n4, .i n5, .i n6, .i 0])]) (splice_full evsL ((List.replicate 9 [AV.d (D.str ⟨#[]⟩)]).flatten) Zl)) hK') ?_
        repeat' ((conv => whnf); (first
          | (refine Br_true (by assumption) ?_)
          | (refine Br_false (by assumption) ?_)
          | (refine Br_true (beqT (by omega)) ?_)
          | (refine Br_false (beqF (by omega)) ?_)
          | (refine Br_beq (fun h => ?_) (fun h => ?_))
          | (refine Br_true (bneT (by omega)) ?_)
          | (refine Br_false (bneF (by omega)) ?_)
          | (refine Br_bne (fun h => ?_) (fun h => ?_))
          | (refine Br_true (decide_eq_true (by omega)) ?_)
          | (refine Br_false (decide_eq_false (by omega)) ?_)
          | (refine Br_dec (fun h => ?_) (fun h => ?_))
          | (refine Br_not ?_)
          | (refine Len_in (fun hlen => ?_))
          | (refine Br_split (fun h => ?_) (fun h => ?_))
          | (refine fin0 rfl ?_)
          | (refine ArK_in (wrap_i64 (by omega) (by omega)) ?_)
          | (refine force_in ?_)))
        rfl
      · rw [if_neg h2]
        have z : decide (((W.map fun l => [str l]).length : Int) > 2) = false := decide_eq_false (by rw [hcl]; omega)
        refine Br_false z ?_
        repeat' ((conv => whnf); (first
          | (refine Br_true (by assumption) ?_)
          | (refine Br_false (by assumption) ?_)
          | (refine Br_true (beqT (by omega)) ?_)
          | (refine Br_false (beqF (by omega)) ?_)
          | (refine Br_beq (fun h => ?_) (fun h => ?_))
          | (refine Br_true (bneT (by omega)) ?_)
          | (refine Br_false (bneF (by omega)) ?_)
          | (refine Br_bne (fun h => ?_) (fun h => ?_))
          | (refine Br_true (decide_eq_true (by omega)) ?_)
          | (refine Br_false (decide_eq_false (by omega)) ?_)
          | (refine Br_dec (fun h => ?_) (fun h => ?_))
          | (refine Br_not ?_)
          | (refine Len_in (fun hlen => ?_))
          | (refine Br_split (fun h => ?_) (fun h => ?_))
          | (refine fin0 rfl ?_)
          | (refine ArK_in (wrap_i64 (by omega) (by omega)) ?_)
          | (refine force_in ?_)))
        rfl
    · rw [if_neg e1]
      rw [decide_eq_false e1] at c1
      by_cases e2 : wAt W 0 = wStep
      · rw [if_pos e2]
        rw [decide_eq_true e2] at c2
        clear hk1 hk2 hk3 Zl
        repeat' ((conv => whnf); (first
          | (refine Br_false c1 ?_)
          | (refine Br_true c2 ?_)
          | (refine Br_true (by assumption) ?_)
          | (refine Br_false (by assumption) ?_)
          | (refine Br_true (beqT (by omega)) ?_)
          | (refine Br_false (beqF (by omega)) ?_)
          | (refine Br_beq (fun h => ?_) (fun h => ?_))
          | (refine Br_true (bneT (by omega)) ?_)
          | (refine Br_false (bneF (by omega)) ?_)
          | (refine Br_bne (fun h => ?_) (fun h => ?_))
          | (refine Br_true (decide_eq_true (by omega)) ?_)
          | (refine Br_false (decide_eq_false (by omega)) ?_)
          | (refine Br_dec (fun h => ?_) (fun h => ?_))
          | (refine Br_not ?_)
          | (refine Len_in (fun hlen => ?_))
          | (refine Idx_in _ h0 (by omega) rfl ?_)
          | (refine Br_split (fun h => ?_) (fun h => ?_))
          | (refine fin0 rfl ?_)
          | (refine ArK_in (wrap_i64 (by omega) (by omega)) ?_)
          | (refine force_in ?_)))
        rfl
      rw [if_neg e2]
      rw [decide_eq_false e2] at c2
      by_cases e3 : wAt W 0 = wDone
      · rw [if_pos e3]
        rw [decide_eq_true e3] at c3
        clear hk1 hk2 hk3 Zl
        repeat' ((conv => whnf); (first
          | (refine Br_false c1 ?_)
          | (refine Br_false c2 ?_)
          | (refine Br_true c3 ?_)
          | (refine Br_true (by assumption) ?_)
          | (refine Br_false (by assumption) ?_)
          | (refine Br_true (beqT (by omega)) ?_)
          | (refine Br_false (beqF (by omega)) ?_)
          | (refine Br_beq (fun h => ?_) (fun h => ?_))
          | (refine Br_true (bneT (by omega)) ?_)
          | (refine Br_false (bneF (by omega)) ?_)
          | (refine Br_bne (fun h => ?_) (fun h => ?_))
          | (refine Br_true (decide_eq_true (by omega)) ?_)
          | (refine Br_false (decide_eq_false (by omega)) ?_)
          | (refine Br_dec (fun h => ?_) (fun h => ?_))
          | (refine Br_not ?_)
          | (refine Len_in (fun hlen => ?_))
          | (refine Idx_in _ h0 (by omega) rfl ?_)
          | (refine Br_split (fun h => ?_) (fun h => ?_))
          | (refine fin0 rfl ?_)
          | (refine ArK_in (wrap_i64 (by omega) (by omega)) ?_)
          | (refine force_in ?_)))
        rfl
      rw [if_neg e3]
      rw [decide_eq_false e3] at c3
      by_cases e4 : wAt W 0 = wResult
      · rw [if_pos e4]
        rw [decide_eq_true e4] at c4
        clear hk1 hk2 hk3 Zl
        repeat' ((conv => whnf); (first
          | (refine Br_false c1 ?_)
          | (refine Br_false c2 ?_)
          | (refine Br_false c3 ?_)
          | (refine Br_true c4 ?_)
          | (refine Br_true (by assumption) ?_)
          | (refine Br_false (by assumption) ?_)
          | (refine Br_true (beqT (by omega)) ?_)
          | (refine Br_false (beqF (by omega)) ?_)
          | (refine Br_beq (fun h => ?_) (fun h => ?_))
          | (refine Br_true (bneT (by omega)) ?_)
          | (refine Br_false (bneF (by omega)) ?_)
          | (refine Br_bne (fun h => ?_) (fun h => ?_))
          | (refine Br_true (decide_eq_true (by omega)) ?_)
          | (refine Br_false (decide_eq_false (by omega)) ?_)
          | (refine Br_dec (fun h => ?_) (fun h => ?_))
          | (refine Br_not ?_)
          | (refine Len_in (fun hlen => ?_))
          | (refine Idx_in _ h0 (by omega) rfl ?_)
          | (refine Br_split (fun h => ?_) (fun h => ?_))
          | (refine fin0 rfl ?_)
          | (refine ArK_in (wrap_i64 (by omega) (by omega)) ?_)
          | (refine force_in ?_)))
        rfl
      rw [if_neg e4]
      rw [decide_eq_false e4] at c4
      clear hk1 hk2 hk3 Zl
      repeat' ((conv => whnf); (first
        | (refine Br_false c1 ?_)
        | (refine Br_false c2 ?_)
        | (refine Br_false c3 ?_)
        | (refine Br_false c4 ?_)
        | (refine Br_true (by assumption) ?_)
        | (refine Br_false (by assumption) ?_)
        | (refine Br_true (beqT (by omega)) ?_)
        | (refine Br_false (beqF (by omega)) ?_)
        | (refine Br_beq (fun h => ?_) (fun h => ?_))
        | (refine Br_true (bneT (by omega)) ?_)
        | (refine Br_false (bneF (by omega)) ?_)
        | (refine Br_bne (fun h => ?_) (fun h => ?_))
        | (refine Br_true (decide_eq_true (by omega)) ?_)
        | (refine Br_false (decide_eq_false (by omega)) ?_)
        | (refine Br_dec (fun h => ?_) (fun h => ?_))
        | (refine Br_not ?_)
        | (refine Len_in (fun hlen => ?_))
        | (refine Idx_in _ h0 (by omega) rfl ?_)
        | (refine Br_split (fun h => ?_) (fun h => ?_))
        | (refine fin0 rfl ?_)
        | (refine ArK_in (wrap_i64 (by omega) (by omega)) ?_)
        | (refine force_in ?_)))
      rfl
end Go.Eng
set_option maxRecDepth 100000
set_option linter.unusedVariables false
set_option linter.unusedSimpArgs false
namespace Go.Eng
open Go Go.Proofs
theorem atoi_bd (l : List UInt8) : i64B (atoiV l) := by
  unfold atoiV i64B
  cases h : Lib.atoiAll l with
  | ok v =>
    simp only
    unfold Lib.atoiAll at h
    split at h
    · simp at h
    · simp only at h
      split at h
      · simp at h
      · simp at h
      · split at h
        · simp at h
        · split at h
          · simp at h
          · injection h with h
            subst h
            split <;> omega
  | range => simp only; unfold Lib.atoiSat; split <;> omega
  | _ => simp only; omega
theorem numA_bd (W : List (List UInt8)) (i : Nat) : i64B (numA W i) := by
  unfold numA
  split
  · exact atoi_bd _
  · unfold i64B; omega
theorem evIx_bd (w : List UInt8) : -1 ≤ evIx w ∧ evIx w ≤ 8 := by
  have h := ix_lo (fun k => evL k == w) (List.range 9)
  by_cases h0 : 0 ≤ evIx w
  · exact ⟨by omega, (evIx_hit h0).1⟩
  · unfold evIx at *; omega
theorem parse_rng (W : List (List UInt8)) : rngR (parseR W) := by
  have n := numA_bd W
  have e := evIx_bd (wAt W 2)
  have z : i64B 0 := by unfold i64B; omega
  unfold parseR
  (repeat' split) <;> exact ⟨by first | exact n _ | exact z, by first | exact n _ | exact z | (unfold i64B; dsimp only; omega), by first | exact n _ | exact z, by first | exact n _ | exact z, by first | exact n _ | exact z, by first | exact n _ | exact z, by first | exact n _ | exact z⟩
theorem indexFunc_str (l : List (List UInt8)) (g : FuncId) (p : List UInt8 → Bool) (hp : ∀ w ∈ l, Fn Tryd.prog g [.d (str w)] (.b (p w))) :
    Fn Tryd.prog 42 [.d (texts l), .d (.fn g)] (.i (ix p l)) := by
  refine Fn_of tt_ok Tryd.func42 rfl (by decide) Tryd.ntmps42 rfl ?_
  refine Len_in (fun hlen => ?_)
  simp only [List.length_map] at hlen
  refine W_loop (fun μ s => ∃ (k : Nat), k ≤ l.length ∧ μ = l.length - k ∧ (∀ j (h : j < l.length), j < k → p l[j] = false) ∧
      s = ⟨[(0, .d (texts l)), (1, .d (.fn g)), (7, .i (l.map fun l => [str l]).length), (8, .i k)], 19, [], 0, []⟩) l.length
    ⟨_, ?_, 0, by simp, by simp, by simp, rfl⟩ ?_
  · exact Wk_env (by repeat (first | exact trivial | refine ⟨rfl, ?_⟩))
  rintro μ s1 ⟨k, hk, rfl, hno, rfl⟩
  refine W_run tt_ok ?_
  refine Br_dec (fun h => ?_) (fun h => ?_)
  · simp at h
    refine Idx_in [str l[k]] (by simp [h]) (by omega) rfl ?_
    have hd := ix_drop p l k hno hk
    rw [List.drop_eq_getElem_cons h] at hd
    refine Fn.use (hp l[k] (List.getElem_mem h)) rfl rfl ?_
    refine Br_split (fun hq => ?_) (fun hq => ?_)
    · repeat' ((conv => whnf); (first
      | (refine Br_true (by assumption) ?_)
      | (refine Br_false (by assumption) ?_)
      | (refine Br_true (beqT (by omega)) ?_)
      | (refine Br_false (beqF (by omega)) ?_)
      | (refine Br_beq (fun h => ?_) (fun h => ?_))
      | (refine Br_true (bneT (by omega)) ?_)
      | (refine Br_false (bneF (by omega)) ?_)
      | (refine Br_bne (fun h => ?_) (fun h => ?_))
      | (refine Br_true (decide_eq_true (by omega)) ?_)
      | (refine Br_false (decide_eq_false (by omega)) ?_)
      | (refine Br_dec (fun h => ?_) (fun h => ?_))
      | (refine Br_not ?_)
      | (refine Len_in (fun hlen => ?_))
      | (refine Br_split (fun h => ?_) (fun h => ?_))
      | (refine fin0 rfl ?_)
      | (refine ArK_in (wrap_i64 (by omega) (by omega)) ?_)
      | (refine force_in ?_)))
      simp only [AV.d.injEq, D.int.injEq, true_and, hd, ix]
      simp [hq]
    · repeat' ((conv => whnf); (first
      | (refine Br_true (by assumption) ?_)
      | (refine Br_false (by assumption) ?_)
      | (refine Br_true (beqT (by omega)) ?_)
      | (refine Br_false (beqF (by omega)) ?_)
      | (refine Br_beq (fun h => ?_) (fun h => ?_))
      | (refine Br_true (bneT (by omega)) ?_)
      | (refine Br_false (bneF (by omega)) ?_)
      | (refine Br_bne (fun h => ?_) (fun h => ?_))
      | (refine Br_true (decide_eq_true (by omega)) ?_)
      | (refine Br_false (decide_eq_false (by omega)) ?_)
      | (refine Br_dec (fun h => ?_) (fun h => ?_))
      | (refine Br_not ?_)
      | (refine Len_in (fun hlen => ?_))
      | (refine Back_in _ _ ⟨k + 1, by omega, rfl, ?_, rfl⟩ (by omega) (Wk_env (by repeat (first | exact trivial | refine ⟨rfl, ?_⟩))))
      | (refine Br_split (fun h => ?_) (fun h => ?_))
      | (refine fin0 rfl ?_)
      | (refine ArK_in (wrap_i64 (by omega) (by omega)) ?_)
      | (refine force_in ?_)))
      intro j hj hjk
      rcases Nat.lt_succ_iff_lt_or_eq.1 hjk with h1 | h1
      · exact hno j hj h1
      · subst h1; exact hq
  · simp at h
    have hd := ix_drop p l k hno hk
    rw [List.drop_eq_nil_of_le h] at hd
    repeat' ((conv => whnf); (first
      | (refine Br_true (by assumption) ?_)
      | (refine Br_false (by assumption) ?_)
      | (refine Br_true (beqT (by omega)) ?_)
      | (refine Br_false (beqF (by omega)) ?_)
      | (refine Br_beq (fun h => ?_) (fun h => ?_))
      | (refine Br_true (bneT (by omega)) ?_)
      | (refine Br_false (bneF (by omega)) ?_)
      | (refine Br_bne (fun h => ?_) (fun h => ?_))
      | (refine Br_true (decide_eq_true (by omega)) ?_)
      | (refine Br_false (decide_eq_false (by omega)) ?_)
      | (refine Br_dec (fun h => ?_) (fun h => ?_))
      | (refine Br_not ?_)
      | (refine Len_in (fun hlen => ?_))
      | (refine Br_split (fun h => ?_) (fun h => ?_))
      | (refine fin0 rfl ?_)
      | (refine ArK_in (wrap_i64 (by omega) (by omega)) ?_)
      | (refine force_in ?_)))
    simp [hd, ix]
theorem containsFunc_str (l : List (List UInt8)) (g : FuncId) (p : List UInt8 → Bool) (hp : ∀ w ∈ l, Fn Tryd.prog g [.d (str w)] (.b (p w))) :
    Fn Tryd.prog 26 [.d (texts l), .d (.fn g)] (.b (l.any p)) := by
  refine Fn_of tt_ok Tryd.func26 rfl (by decide) Tryd.ntmps26 rfl ?_
  refine Fn.use (indexFunc_str l g p hp) rfl rfl ?_
  repeat' ((conv => whnf); (first
    | (refine Br_true (by assumption) ?_)
    | (refine Br_false (by assumption) ?_)
    | (refine Br_true (beqT (by omega)) ?_)
    | (refine Br_false (beqF (by omega)) ?_)
    | (refine Br_beq (fun h => ?_) (fun h => ?_))
    | (refine Br_true (bneT (by omega)) ?_)
    | (refine Br_false (bneF (by omega)) ?_)
    | (refine Br_bne (fun h => ?_) (fun h => ?_))
    | (refine Br_true (decide_eq_true (by omega)) ?_)
    | (refine Br_false (decide_eq_false (by omega)) ?_)
    | (refine Br_dec (fun h => ?_) (fun h => ?_))
    | (refine Br_not ?_)
    | (refine Len_in (fun hlen => ?_))
    | (refine Br_split (fun h => ?_) (fun h => ?_))
    | (refine fin0 rfl ?_)
    | (refine ArK_in (wrap_i64 (by omega) (by omega)) ?_)
    | (refine force_in ?_)))
  rw [← ix_any]
theorem tell_long (w : List UInt8) : Fn Tryd.prog 23 [.d (str w)] (.b (longW w)) := by
  refine Fn_of tt_ok Tryd.func23 rfl (by decide) Tryd.ntmps23 rfl ?_
  have h := trim_prefix w [45]
  have hs : (⟨(Lib.trimPrefix w [45]).toArray⟩ : ByteArray).size = (Lib.trimPrefix w [45]).length := str_size _
  repeat' ((conv => whnf); (first
    | (refine Br_true (by assumption) ?_)
    | (refine Br_false (by assumption) ?_)
    | (refine Br_true (beqT (by omega)) ?_)
    | (refine Br_false (beqF (by omega)) ?_)
    | (refine Br_beq (fun h => ?_) (fun h => ?_))
    | (refine Br_true (bneT (by omega)) ?_)
    | (refine Br_false (bneF (by omega)) ?_)
    | (refine Br_bne (fun h => ?_) (fun h => ?_))
    | (refine Br_true (decide_eq_true (by omega)) ?_)
    | (refine Br_false (decide_eq_false (by omega)) ?_)
    | (refine Br_dec (fun h => ?_) (fun h => ?_))
    | (refine Br_not ?_)
    | (refine Len_in (fun hlen => ?_))
    | (refine Fn.use (h) rfl rfl ?_)
    | (refine CallF_in (h) rfl rfl ?_)
    | (refine fin0 rfl ?_)
    | (refine Br_split (fun h => ?_) (fun h => ?_))
    | (refine fin0 rfl ?_)
    | (refine ArK_in (wrap_i64 (by omega) (by omega)) ?_)
    | (refine force_in ?_)))
  unfold longW trimW
  simp only [AV.d.injEq, D.bool.injEq]
  rw [hs, Bool.eq_iff_iff]; simp; omega
set_option maxHeartbeats 1000000 in
theorem tell_Read (s : List UInt8) (hs : s.length ≤ 100000) : Fn Tryd.prog 10 [.d (str s)] (.tup [aggD (readR s).1.cs, .i (readR s).2]) := by
  refine Fn_of tt_ok Tryd.func10 rfl (by decide) Tryd.ntmps10 rfl ?_
  have hsp := split_c s 32 (by omega)
  have hne := splitL_ne 32 s
  have hpa := tell_parse (splitL 32 s) hne
  have hrow := tell_Row (parseR (splitL 32 s)) (parse_rng _)
  have hcf := containsFunc_str (splitL 32 s) 23 longW fun w _ => tell_long w
  have hz : aggD zeroR.cs = .agg [.i 0, .i 0, .i 0, .i 0, .i 0, .i 0, .i 0, .i 0] := rfl
  have c1 : ((⟨s.toArray⟩ : ByteArray).toList == (⟨#[]⟩ : ByteArray).toList) = decide (s = []) := by rw [str_toList, show (⟨#[]⟩ : ByteArray).toList = [] from str_toList [], Bool.eq_iff_iff]; simp
  have c2 : (!((⟨(rowV (parseR (splitL 32 s))).toArray⟩ : ByteArray).toList == (⟨s.toArray⟩ : ByteArray).toList)) = !decide (rowV (parseR (splitL 32 s)) = s) := by rw [str_toList, str_toList]; congr 1; rw [Bool.eq_iff_iff]; simp
  have hr : readR s = if s = [] ∨ rowV (parseR (splitL 32 s)) ≠ s ∨ (splitL 32 s).any longW = true then (zeroR, 13) else (parseR (splitL 32 s), 0) := by unfold readR; rfl
  generalize readR s = R at *
  generalize splitL 32 s = W at *
  generalize parseR W = r at *
  generalize rowV r = v at *
  generalize hb : W.any longW = b at *
  by_cases h1 : s = []
  · rw [decide_eq_true h1] at c1
    rw [if_pos (.inl h1)] at hr
    rw [hr]
    repeat' ((conv => whnf); (first
      | (refine Br_true c1 ?_)
      | (refine Br_true (by assumption) ?_)
      | (refine Br_false (by assumption) ?_)
      | (refine Br_true (beqT (by omega)) ?_)
      | (refine Br_false (beqF (by omega)) ?_)
      | (refine Br_beq (fun h => ?_) (fun h => ?_))
      | (refine Br_true (bneT (by omega)) ?_)
      | (refine Br_false (bneF (by omega)) ?_)
      | (refine Br_bne (fun h => ?_) (fun h => ?_))
      | (refine Br_true (decide_eq_true (by omega)) ?_)
      | (refine Br_false (decide_eq_false (by omega)) ?_)
      | (refine Br_dec (fun h => ?_) (fun h => ?_))
      | (refine Br_not ?_)
      | (refine Len_in (fun hlen => ?_))
      | (refine Fn.use (hsp) rfl rfl ?_)
      | (refine CallF_in (hsp) rfl rfl ?_)
      | (refine Fn.use (hpa) rfl rfl ?_)
      | (refine CallF_in (hpa) rfl rfl ?_)
      | (refine Br_split (fun h => ?_) (fun h => ?_))
      | (refine fin0 rfl ?_)
      | (refine ArK_in (wrap_i64 (by omega) (by omega)) ?_)
      | (refine force_in ?_)))
    rfl
  rw [decide_eq_false h1] at c1
  by_cases h2 : v = s
  · rw [decide_eq_true h2] at c2
    cases b
    · rw [if_neg (by simp [h1, h2])] at hr
      rw [hr]
      repeat' ((conv => whnf); (first
        | (refine Br_false c1 ?_)
        | (refine Br_false c2 ?_)
        | (refine Br_true (by assumption) ?_)
        | (refine Br_false (by assumption) ?_)
        | (refine Br_true (beqT (by omega)) ?_)
        | (refine Br_false (beqF (by omega)) ?_)
        | (refine Br_beq (fun h => ?_) (fun h => ?_))
        | (refine Br_true (bneT (by omega)) ?_)
        | (refine Br_false (bneF (by omega)) ?_)
        | (refine Br_bne (fun h => ?_) (fun h => ?_))
        | (refine Br_true (decide_eq_true (by omega)) ?_)
        | (refine Br_false (decide_eq_false (by omega)) ?_)
        | (refine Br_dec (fun h => ?_) (fun h => ?_))
        | (refine Br_not ?_)
        | (refine Len_in (fun hlen => ?_))
        | (refine Fn.use (hsp) rfl rfl ?_)
        | (refine CallF_in (hsp) rfl rfl ?_)
        | (refine Fn.use (hpa) rfl rfl ?_)
        | (refine CallF_in (hpa) rfl rfl ?_)
        | (refine Fn.use (hrow) rfl rfl ?_)
        | (refine CallF_in (hrow) rfl rfl ?_)
        | (refine Fn.use (hcf) rfl rfl ?_)
        | (refine CallF_in (hcf) rfl rfl ?_)
        | (refine Br_split (fun h => ?_) (fun h => ?_))
        | (refine fin0 rfl ?_)
        | (refine ArK_in (wrap_i64 (by omega) (by omega)) ?_)
        | (refine force_in ?_)))
      rfl
    · rw [if_pos (by simp)] at hr
      rw [hr]
      repeat' ((conv => whnf); (first
        | (refine Br_false c1 ?_)
        | (refine Br_false c2 ?_)
        | (refine Br_true (by assumption) ?_)
        | (refine Br_false (by assumption) ?_)
        | (refine Br_true (beqT (by omega)) ?_)
        | (refine Br_false (beqF (by omega)) ?_)
        | (refine Br_beq (fun h => ?_) (fun h => ?_))
        | (refine Br_true (bneT (by omega)) ?_)
        | (refine Br_false (bneF (by omega)) ?_)
        | (refine Br_bne (fun h => ?_) (fun h => ?_))
        | (refine Br_true (decide_eq_true (by omega)) ?_)
        | (refine Br_false (decide_eq_false (by omega)) ?_)
        | (refine Br_dec (fun h => ?_) (fun h => ?_))
        | (refine Br_not ?_)
        | (refine Len_in (fun hlen => ?_))
        | (refine Fn.use (hsp) rfl rfl ?_)
        | (refine CallF_in (hsp) rfl rfl ?_)
        | (refine Fn.use (hpa) rfl rfl ?_)
        | (refine CallF_in (hpa) rfl rfl ?_)
        | (refine Fn.use (hrow) rfl rfl ?_)
        | (refine CallF_in (hrow) rfl rfl ?_)
        | (refine Fn.use (hcf) rfl rfl ?_)
        | (refine CallF_in (hcf) rfl rfl ?_)
        | (refine Br_split (fun h => ?_) (fun h => ?_))
        | (refine fin0 rfl ?_)
        | (refine ArK_in (wrap_i64 (by omega) (by omega)) ?_)
        | (refine force_in ?_)))
      rfl
  · rw [decide_eq_false h2] at c2
    rw [if_pos (by simp [h2])] at hr
    rw [hr]
    repeat' ((conv => whnf); (first
      | (refine Br_false c1 ?_)
      | (refine Br_true c2 ?_)
      | (refine Br_true (by assumption) ?_)
      | (refine Br_false (by assumption) ?_)
      | (refine Br_true (beqT (by omega)) ?_)
      | (refine Br_false (beqF (by omega)) ?_)
      | (refine Br_beq (fun h => ?_) (fun h => ?_))
      | (refine Br_true (bneT (by omega)) ?_)
      | (refine Br_false (bneF (by omega)) ?_)
      | (refine Br_bne (fun h => ?_) (fun h => ?_))
      | (refine Br_true (decide_eq_true (by omega)) ?_)
      | (refine Br_false (decide_eq_false (by omega)) ?_)
      | (refine Br_dec (fun h => ?_) (fun h => ?_))
      | (refine Br_not ?_)
      | (refine Len_in (fun hlen => ?_))
      | (refine Fn.use (hsp) rfl rfl ?_)
      | (refine CallF_in (hsp) rfl rfl ?_)
      | (refine Fn.use (hpa) rfl rfl ?_)
      | (refine CallF_in (hpa) rfl rfl ?_)
      | (refine Fn.use (hrow) rfl rfl ?_)
      | (refine CallF_in (hrow) rfl rfl ?_)
      | (refine Br_split (fun h => ?_) (fun h => ?_))
      | (refine fin0 rfl ?_)
      | (refine ArK_in (wrap_i64 (by omega) (by omega)) ?_)
      | (refine force_in ?_)))
    rfl
end Go.Eng
set_option maxRecDepth 100000
set_option linter.unusedVariables false
set_option linter.unusedSimpArgs false
namespace Go.Eng
open Go Go.Proofs
theorem joinL_snoc (c : UInt8) (u : List (List UInt8)) (w : List UInt8) (h : u ≠ []) : joinL c (u ++ [w]) = joinL c u ++ c :: w := by
  rw [joinL_app c u [w] h (by simp)]; rfl
theorem str_add (a b : List UInt8) : (⟨a.toArray⟩ : ByteArray) ++ (⟨b.toArray⟩ : ByteArray) = ⟨(a ++ b).toArray⟩ := by
  rw [str_app]
set_option maxHeartbeats 1000000 in
theorem ref23_words (ws : List (List UInt8)) (hl : ws.length ≤ 1000) (hw : ∀ w ∈ ws, w.length ≤ 100000) : Fn Tryd.prog 31 [.d (texts ws)] (.d (str (joinL 32 ws))) := by
  refine Fn_of tt_ok Tryd.func31 rfl (by decide) Tryd.ntmps31 rfl ?_
  have hll : (ws.map fun l => [str l]).length = ws.length := by simp
  refine W_loop (fun μ s => ∃ (k : Nat), k ≤ ws.length ∧ μ = ws.length - k ∧ s = ⟨[(0, .d (texts ws)), (3, .d (str (joinL 32 (ws.take k)))), (4, .i k)], 22, [], 0, []⟩) ws.length
    ⟨_, ?_, 0, by omega, by omega, rfl⟩ ?_
  · exact Wk_env (by repeat (first | exact trivial | refine ⟨rfl, ?_⟩))
  rintro μ s1 ⟨k, hk, rfl, rfl⟩
  refine W_run tt_ok ?_
  refine Len_in (fun hlen => ?_)
  refine Br_dec (fun h => ?_) (fun h => ?_)
  · have hlt : k < ws.length := by rw [hll] at h; omega
    have hi := texts_w (W := ws) (n := k) hlt rfl
    have hwk : wAt ws k = ws[k] := by unfold wAt; simp [List.getD_eq_getElem?_getD, hlt]
    rw [hwk] at hi
    have htk : ws.take (k + 1) = ws.take k ++ [ws[k]] := List.take_succ_eq_append_getElem hlt
    have hjl : (joinL 32 (ws.take k)).length ≤ 1000 * 100001 := Nat.le_trans (joinL_len' 32 _ 100000 fun x hx => hw x (List.mem_of_mem_take hx)) (Nat.mul_le_mul_right _ (by rw [List.length_take]; omega))
    have hwl := hw _ (List.getElem_mem hlt)
    have hj0 : k = 0 → joinL 32 (ws.take (k + 1)) = joinL 32 (ws.take k) ++ ws[k] := fun h0 => by subst h0; rw [htk]; simp [joinL]
    have hj1 : 0 < k → joinL 32 (ws.take (k + 1)) = (joinL 32 (ws.take k) ++ [32]) ++ ws[k] := fun h0 => by
      rw [htk, joinL_snoc 32 _ _ (by intro e; have := congrArg List.length e; rw [List.length_take] at this; simp only [List.length_nil] at this; omega)]; simp
    generalize hN : joinL 32 (ws.take (k + 1)) = N at *
    generalize joinL 32 (ws.take k) = J at *
    generalize ws[k] = w at *
    by_cases h0 : k = 0
    · have z : decide ((k : Int) > 0) = false := decide_eq_false (by omega)
      have hres : AV.d (D.str ((⟨J.toArray⟩ : ByteArray) ++ (⟨w.toArray⟩ : ByteArray))) = .d (str (joinL 32 (ws.take (k + 1)))) := by rw [hN, hj0 h0, str_add]
      repeat' ((conv => whnf); (first
        | (refine Br_false z ?_)
        | (refine Br_true (by assumption) ?_)
        | (refine Br_false (by assumption) ?_)
        | (refine Br_true (beqT (by omega)) ?_)
        | (refine Br_false (beqF (by omega)) ?_)
        | (refine Br_beq (fun h => ?_) (fun h => ?_))
        | (refine Br_true (bneT (by omega)) ?_)
        | (refine Br_false (bneF (by omega)) ?_)
        | (refine Br_bne (fun h => ?_) (fun h => ?_))
        | (refine Br_true (decide_eq_true (by omega)) ?_)
        | (refine Br_false (decide_eq_false (by omega)) ?_)
        | (refine Br_dec (fun h => ?_) (fun h => ?_))
        | (refine Br_not ?_)
        | (refine Len_in (fun hlen => ?_))
        | (refine Idx_in _ hi (by omega) rfl ?_)
        | (refine Need_in (by rw [str_size, str_size]; unfold LB; omega) ?_)
        | (refine Back_in _ _ ⟨k + 1, by omega, rfl, rfl⟩ (by omega) (Wk_env ⟨rfl, hres, rfl, trivial⟩))
        | (refine Br_split (fun h => ?_) (fun h => ?_))
        | (refine fin0 rfl ?_)
        | (refine ArK_in (wrap_i64 (by omega) (by omega)) ?_)
        | (refine force_in ?_)))
    · have z : decide ((k : Int) > 0) = true := decide_eq_true (by omega)
      have hres : AV.d (D.str (((⟨J.toArray⟩ : ByteArray) ++ (⟨[32].toArray⟩ : ByteArray)) ++ (⟨w.toArray⟩ : ByteArray))) = .d (str (joinL 32 (ws.take (k + 1)))) := by rw [hN, hj1 (by omega), str_add, str_add]
      repeat' ((conv => whnf); (first
        | (refine Br_true z ?_)
        | (refine Br_true (by assumption) ?_)
        | (refine Br_false (by assumption) ?_)
        | (refine Br_true (beqT (by omega)) ?_)
        | (refine Br_false (beqF (by omega)) ?_)
        | (refine Br_beq (fun h => ?_) (fun h => ?_))
        | (refine Br_true (bneT (by omega)) ?_)
        | (refine Br_false (bneF (by omega)) ?_)
        | (refine Br_bne (fun h => ?_) (fun h => ?_))
        | (refine Br_true (decide_eq_true (by omega)) ?_)
        | (refine Br_false (decide_eq_false (by omega)) ?_)
        | (refine Br_dec (fun h => ?_) (fun h => ?_))
        | (refine Br_not ?_)
        | (refine Len_in (fun hlen => ?_))
        | (refine Idx_in _ hi (by omega) rfl ?_)
        | (refine Need_in (by simp only [str_add, str_size, List.length_append]; unfold LB; simp; omega) ?_)
        | (refine Back_in _ _ ⟨k + 1, by omega, rfl, rfl⟩ (by omega) (Wk_env ⟨rfl, hres, rfl, trivial⟩))
        | (refine Br_split (fun h => ?_) (fun h => ?_))
        | (refine fin0 rfl ?_)
        | (refine ArK_in (wrap_i64 (by omega) (by omega)) ?_)
        | (refine force_in ?_)))
  · have hkl : ws.length ≤ k := by rw [hll] at h; omega
    rw [List.take_of_length_le hkl]
    repeat' ((conv => whnf); (first
      | (refine Br_true (by assumption) ?_)
      | (refine Br_false (by assumption) ?_)
      | (refine Br_true (beqT (by omega)) ?_)
      | (refine Br_false (beqF (by omega)) ?_)
      | (refine Br_beq (fun h => ?_) (fun h => ?_))
      | (refine Br_true (bneT (by omega)) ?_)
      | (refine Br_false (bneF (by omega)) ?_)
      | (refine Br_bne (fun h => ?_) (fun h => ?_))
      | (refine Br_true (decide_eq_true (by omega)) ?_)
      | (refine Br_false (decide_eq_false (by omega)) ?_)
      | (refine Br_dec (fun h => ?_) (fun h => ?_))
      | (refine Br_not ?_)
      | (refine Len_in (fun hlen => ?_))
      | (refine Br_split (fun h => ?_) (fun h => ?_))
      | (refine fin0 rfl ?_)
      | (refine ArK_in (wrap_i64 (by omega) (by omega)) ?_)
      | (refine force_in ?_)))
    rfl
set_option maxHeartbeats 2000000 in
theorem ref23_Row (r : TRow) (hr : rngR r) : Fn Tryd.prog 13 [aggD r.cs] (.d (str (rowV r))) := by
  refine Fn_of tt_ok Tryd.func13 rfl (by decide) Tryd.ntmps13 rfl ?_
  have hev := ref23_Event r.type
  have hne := @evV_ne r.type
  have h1 := ref23_Number r.prog hr.h1
  have h2 := ref23_Number r.type hr.h2
  have h3 := ref23_Number r.node hr.h3
  have h4 := ref23_Number r.target hr.h4
  have h5 := ref23_Number r.related hr.h5
  have h6 := ref23_Number r.phase hr.h6
  have h7 := ref23_Number r.err hr.h7
  have l1 := it_len hr.h1
  have l2 := it_len hr.h2
  have l3 := it_len hr.h3
  have l4 := it_len hr.h4
  have l5 := it_len hr.h5
  have l6 := it_len hr.h6
  have l7 := it_len hr.h7
  have hv : rowV r = if toldB r = true then joinL 32 (wordsR r) else [] := by unfold rowV; rfl
  have ht := @told_iff r
  have c1 : (!((⟨(evV r.type).toArray⟩ : ByteArray).toList == (⟨#[]⟩ : ByteArray).toList)) = decide (0 ≤ r.type ∧ r.type ≤ 8) := by
    rw [str_beq _ [], Bool.eq_iff_iff]; simp only [Bool.not_eq_true', decide_eq_false_iff_not, decide_eq_true_eq]; exact hne
  by_cases k0 : r.kind = 0
  · have z0 : (r.kind == 0) = true := by rw [k0]; rfl
    by_cases he : r.err = 0
    · have ze : (r.err == 0) = true := by rw [he]; rfl
      by_cases hty : 0 ≤ r.type ∧ r.type ≤ 8
      · have hb : toldB r = true := ht.2 (.inl ⟨k0, he, hty⟩)
        rw [hv, if_pos hb]
        rw [decide_eq_true hty] at c1
        have hel := (ev_all ⟨r.type.toNat, by omega⟩).2.2.2.1
        have e : evV r.type = evL r.type.toNat := by unfold evV; rw [if_pos hty]
        rw [e] at hev c1
        have hw := ref23_words [wCall, it r.prog, evL r.type.toNat, it r.node, it r.target, it r.related, it r.phase] (by simp) (by
          intro w hw
          simp only [List.mem_cons, List.not_mem_nil, or_false] at hw
          rcases hw with rfl | rfl | rfl | rfl | rfl | rfl | rfl <;> first | (simp [wCall]; done) | omega | (simp only at hel; omega))
        have hwr : wordsR r = [wCall, it r.prog, evL r.type.toNat, it r.node, it r.target, it r.related, it r.phase] := by unfold wordsR; rw [if_pos k0]
        rw [hwr]
        clear ht hne hv hwr hel
        generalize evL r.type.toNat = ev at *
        generalize it r.prog = a1 at *
        generalize it r.node = a3 at *
        generalize it r.target = a4 at *
        generalize it r.related = a5 at *
        generalize it r.phase = a6 at *
        generalize joinL 32 [wCall, a1, ev, a3, a4, a5, a6] = J at *
        repeat' ((conv => whnf); (first
          | (refine Br_true z0 ?_)
          | (refine Br_true ze ?_)
          | (refine Br_true c1 ?_)
          | (refine Br_true (by assumption) ?_)
          | (refine Br_false (by assumption) ?_)
          | (refine Br_true (beqT (by omega)) ?_)
          | (refine Br_false (beqF (by omega)) ?_)
          | (refine Br_beq (fun h => ?_) (fun h => ?_))
          | (refine Br_true (bneT (by omega)) ?_)
          | (refine Br_false (bneF (by omega)) ?_)
          | (refine Br_bne (fun h => ?_) (fun h => ?_))
          | (refine Br_true (decide_eq_true (by omega)) ?_)
          | (refine Br_false (decide_eq_false (by omega)) ?_)
          | (refine Br_dec (fun h => ?_) (fun h => ?_))
          | (refine Br_not ?_)
          | (refine Len_in (fun hlen => ?_))
          | (refine W_draw 0 tt_ok mixed (by kernel_rfl) ?_)
          | (refine Fn.use (hev) rfl rfl ?_)
          | (refine CallF_in (hev) rfl rfl ?_)
          | (refine Fn.use (h1) rfl rfl ?_)
          | (refine CallF_in (h1) rfl rfl ?_)
          | (refine Fn.use (h3) rfl rfl ?_)
          | (refine CallF_in (h3) rfl rfl ?_)
          | (refine Fn.use (h4) rfl rfl ?_)
          | (refine CallF_in (h4) rfl rfl ?_)
          | (refine Fn.use (h5) rfl rfl ?_)
          | (refine CallF_in (h5) rfl rfl ?_)
          | (refine Fn.use (h6) rfl rfl ?_)
          | (refine CallF_in (h6) rfl rfl ?_)
          | (refine Fn.use (hw) rfl rfl ?_)
          | (refine CallF_in (hw) rfl rfl ?_)
          | (refine Br_split (fun h => ?_) (fun h => ?_))
          | (refine fin0 rfl ?_)
          | (refine ArK_in (wrap_i64 (by omega) (by omega)) ?_)
          | (refine force_in ?_)))
        rfl
      · have hb : toldB r = false := by
          cases hq : toldB r
          · rfl
          · have := ht.1 hq; omega
        rw [hv, hb]
        rw [decide_eq_false hty] at c1
        generalize evV r.type = ev at *
        repeat' ((conv => whnf); (first
          | (refine Br_true z0 ?_)
          | (refine Br_true ze ?_)
          | (refine Br_false c1 ?_)
          | (refine Br_true (by assumption) ?_)
          | (refine Br_false (by assumption) ?_)
          | (refine Br_true (beqT (by omega)) ?_)
          | (refine Br_false (beqF (by omega)) ?_)
          | (refine Br_beq (fun h => ?_) (fun h => ?_))
          | (refine Br_true (bneT (by omega)) ?_)
          | (refine Br_false (bneF (by omega)) ?_)
          | (refine Br_bne (fun h => ?_) (fun h => ?_))
          | (refine Br_true (decide_eq_true (by omega)) ?_)
          | (refine Br_false (decide_eq_false (by omega)) ?_)
          | (refine Br_dec (fun h => ?_) (fun h => ?_))
          | (refine Br_not ?_)
          | (refine Len_in (fun hlen => ?_))
          | (refine Fn.use (hev) rfl rfl ?_)
          | (refine CallF_in (hev) rfl rfl ?_)
          | (refine Br_split (fun h => ?_) (fun h => ?_))
          | (refine fin0 rfl ?_)
          | (refine ArK_in (wrap_i64 (by omega) (by omega)) ?_)
          | (refine force_in ?_)))
        rfl
    · have ze : (r.err == 0) = false := by simpa using he
      have hb : toldB r = false := by
        cases hq : toldB r
        · rfl
        · have := ht.1 hq; omega
      rw [hv, hb]
      repeat' ((conv => whnf); (first
        | (refine Br_true z0 ?_)
        | (refine Br_false ze ?_)
        | (refine Br_true (by assumption) ?_)
        | (refine Br_false (by assumption) ?_)
        | (refine Br_true (beqT (by omega)) ?_)
        | (refine Br_false (beqF (by omega)) ?_)
        | (refine Br_beq (fun h => ?_) (fun h => ?_))
        | (refine Br_true (bneT (by omega)) ?_)
        | (refine Br_false (bneF (by omega)) ?_)
        | (refine Br_bne (fun h => ?_) (fun h => ?_))
        | (refine Br_true (decide_eq_true (by omega)) ?_)
        | (refine Br_false (decide_eq_false (by omega)) ?_)
        | (refine Br_dec (fun h => ?_) (fun h => ?_))
        | (refine Br_not ?_)
        | (refine Len_in (fun hlen => ?_))
        | (refine Br_split (fun h => ?_) (fun h => ?_))
        | (refine fin0 rfl ?_)
        | (refine ArK_in (wrap_i64 (by omega) (by omega)) ?_)
        | (refine force_in ?_)))
      rfl
  have z0 : (r.kind == 0) = false := by simpa using k0
  clear c1 hne hev
  have plain : allB [r.kind == r.kind, r.prog == r.prog, r.type == 0, r.node == 0, r.target == 0, r.related == 0, r.phase == 0, r.err == r.err] = decide (r.type = 0 ∧ r.node = 0 ∧ r.target = 0 ∧ r.related = 0 ∧ r.phase = 0) := by
    rw [allB_eq, Bool.eq_iff_iff]; simp [and_assoc]
  by_cases k1 : r.kind = 1
  · have z1 : (r.kind == 1) = true := by rw [k1]; rfl
    by_cases hp : r.type = 0 ∧ r.node = 0 ∧ r.target = 0 ∧ r.related = 0 ∧ r.phase = 0
    · rw [decide_eq_true hp] at plain
      have hb : toldB r = true := ht.2 (.inr (.inl ⟨.inl k1, hp⟩))
      rw [hv, if_pos hb]
      have hwr : wordsR r = [wStep, it r.prog, it r.err] := by unfold wordsR; rw [if_neg k0, if_pos k1]
      have hw := ref23_words [wStep, it r.prog, it r.err] (by simp) (by
          intro w hw
          simp only [List.mem_cons, List.not_mem_nil, or_false] at hw
          rcases hw with rfl | rfl | rfl <;> first | (simp [wStep]; done) | omega)
      rw [hwr]
      clear ht hv hwr
      generalize it r.prog = a1 at *
      generalize it r.err = a2 at *
      generalize joinL 32 [wStep, a1, a2] = J at *
      repeat' ((conv => whnf); (first
        | (refine Br_false z0 ?_)
        | (refine Br_true z1 ?_)
        | (refine Br_true plain ?_)
        | (refine Br_true (by assumption) ?_)
        | (refine Br_false (by assumption) ?_)
        | (refine Br_true (beqT (by omega)) ?_)
        | (refine Br_false (beqF (by omega)) ?_)
        | (refine Br_beq (fun h => ?_) (fun h => ?_))
        | (refine Br_true (bneT (by omega)) ?_)
        | (refine Br_false (bneF (by omega)) ?_)
        | (refine Br_bne (fun h => ?_) (fun h => ?_))
        | (refine Br_true (decide_eq_true (by omega)) ?_)
        | (refine Br_false (decide_eq_false (by omega)) ?_)
        | (refine Br_dec (fun h => ?_) (fun h => ?_))
        | (refine Br_not ?_)
        | (refine Len_in (fun hlen => ?_))
        | (refine W_draw 0 tt_ok mixed (by kernel_rfl) ?_)
        | (refine Fn.use (h1) rfl rfl ?_)
        | (refine CallF_in (h1) rfl rfl ?_)
        | (refine Fn.use (h7) rfl rfl ?_)
        | (refine CallF_in (h7) rfl rfl ?_)
        | (refine Fn.use (hw) rfl rfl ?_)
        | (refine CallF_in (hw) rfl rfl ?_)
        | (refine Br_split (fun h => ?_) (fun h => ?_))
        | (refine fin0 rfl ?_)
        | (refine ArK_in (wrap_i64 (by omega) (by omega)) ?_)
        | (refine force_in ?_)))
      rfl
    · rw [decide_eq_false hp] at plain
      have hb : toldB r = false := by
        cases hq : toldB r
        · rfl
        · have := ht.1 hq; omega
      rw [hv, hb]
      repeat' ((conv => whnf); (first
        | (refine Br_false z0 ?_)
        | (refine Br_true z1 ?_)
        | (refine Br_false plain ?_)
        | (refine Br_true (by assumption) ?_)
        | (refine Br_false (by assumption) ?_)
        | (refine Br_true (beqT (by omega)) ?_)
        | (refine Br_false (beqF (by omega)) ?_)
        | (refine Br_beq (fun h => ?_) (fun h => ?_))
        | (refine Br_true (bneT (by omega)) ?_)
        | (refine Br_false (bneF (by omega)) ?_)
        | (refine Br_bne (fun h => ?_) (fun h => ?_))
        | (refine Br_true (decide_eq_true (by omega)) ?_)
        | (refine Br_false (decide_eq_false (by omega)) ?_)
        | (refine Br_dec (fun h => ?_) (fun h => ?_))
        | (refine Br_not ?_)
        | (refine Len_in (fun hlen => ?_))
        | (refine Br_split (fun h => ?_) (fun h => ?_))
        | (refine fin0 rfl ?_)
        | (refine ArK_in (wrap_i64 (by omega) (by omega)) ?_)
        | (refine force_in ?_)))
      rfl
  have z1 : (r.kind == 1) = false := by simpa using k1
  by_cases k2 : r.kind = 2
  · have z2 : (r.kind == 2) = true := by rw [k2]; rfl
    by_cases hp : r.type = 0 ∧ r.node = 0 ∧ r.target = 0 ∧ r.related = 0 ∧ r.phase = 0
    · rw [decide_eq_true hp] at plain
      have hb : toldB r = true := ht.2 (.inr (.inl ⟨.inr k2, hp⟩))
      rw [hv, if_pos hb]
      have hwr : wordsR r = [wDone, it r.prog, it r.err] := by unfold wordsR; rw [if_neg k0, if_neg k1, if_pos k2]
      have hw := ref23_words [wDone, it r.prog, it r.err] (by simp) (by
          intro w hw
          simp only [List.mem_cons, List.not_mem_nil, or_false] at hw
          rcases hw with rfl | rfl | rfl <;> first | (simp [wDone]; done) | omega)
      rw [hwr]
      clear ht hv hwr
      generalize it r.prog = a1 at *
      generalize it r.err = a2 at *
      generalize joinL 32 [wDone, a1, a2] = J at *
      repeat' ((conv => whnf); (first
        | (refine Br_false z0 ?_)
        | (refine Br_false z1 ?_)
        | (refine Br_true z2 ?_)
        | (refine Br_true plain ?_)
        | (refine Br_true (by assumption) ?_)
        | (refine Br_false (by assumption) ?_)
        | (refine Br_true (beqT (by omega)) ?_)
        | (refine Br_false (beqF (by omega)) ?_)
        | (refine Br_beq (fun h => ?_) (fun h => ?_))
        | (refine Br_true (bneT (by omega)) ?_)
        | (refine Br_false (bneF (by omega)) ?_)
        | (refine Br_bne (fun h => ?_) (fun h => ?_))
        | (refine Br_true (decide_eq_true (by omega)) ?_)
        | (refine Br_false (decide_eq_false (by omega)) ?_)
        | (refine Br_dec (fun h => ?_) (fun h => ?_))
        | (refine Br_not ?_)
        | (refine Len_in (fun hlen => ?_))
        | (refine W_draw 0 tt_ok mixed (by kernel_rfl) ?_)
        | (refine Fn.use (h1) rfl rfl ?_)
        | (refine CallF_in (h1) rfl rfl ?_)
        | (refine Fn.use (h7) rfl rfl ?_)
        | (refine CallF_in (h7) rfl rfl ?_)
        | (refine Fn.use (hw) rfl rfl ?_)
        | (refine CallF_in (hw) rfl rfl ?_)
        | (refine Br_split (fun h => ?_) (fun h => ?_))
        | (refine fin0 rfl ?_)
        | (refine ArK_in (wrap_i64 (by omega) (by omega)) ?_)
        | (refine force_in ?_)))
      rfl
    · rw [decide_eq_false hp] at plain
      have hb : toldB r = false := by
        cases hq : toldB r
        · rfl
        · have := ht.1 hq; omega
      rw [hv, hb]
      repeat' ((conv => whnf); (first
        | (refine Br_false z0 ?_)
        | (refine Br_false z1 ?_)
        | (refine Br_true z2 ?_)
        | (refine Br_false plain ?_)
        | (refine Br_true (by assumption) ?_)
        | (refine Br_false (by assumption) ?_)
        | (refine Br_true (beqT (by omega)) ?_)
        | (refine Br_false (beqF (by omega)) ?_)
        | (refine Br_beq (fun h => ?_) (fun h => ?_))
        | (refine Br_true (bneT (by omega)) ?_)
        | (refine Br_false (bneF (by omega)) ?_)
        | (refine Br_bne (fun h => ?_) (fun h => ?_))
        | (refine Br_true (decide_eq_true (by omega)) ?_)
        | (refine Br_false (decide_eq_false (by omega)) ?_)
        | (refine Br_dec (fun h => ?_) (fun h => ?_))
        | (refine Br_not ?_)
        | (refine Len_in (fun hlen => ?_))
        | (refine Br_split (fun h => ?_) (fun h => ?_))
        | (refine fin0 rfl ?_)
        | (refine ArK_in (wrap_i64 (by omega) (by omega)) ?_)
        | (refine force_in ?_)))
      rfl
  have z2 : (r.kind == 2) = false := by simpa using k2
  clear plain
  by_cases k3 : r.kind = 3
  · have z3 : (r.kind == 3) = true := by rw [k3]; rfl
    by_cases p1 : r.prog = 0
    · have y1 : (r.prog == 0) = true := by rw [p1]; rfl
      by_cases p2 : r.related = 0
      · have y2 : (r.related == 0) = true := by rw [p2]; rfl
        by_cases p3 : r.phase = 0
        · have y3 : (r.phase == 0) = true := by rw [p3]; rfl
          have hb : toldB r = true := ht.2 (.inr (.inr ⟨k3, p1, p2, p3⟩))
          rw [hv, if_pos hb]
          have hwr : wordsR r = [wResult, it r.type, it r.node, it r.target, it r.err] := by unfold wordsR; rw [if_neg k0, if_neg k1, if_neg k2]
          have hw := ref23_words [wResult, it r.type, it r.node, it r.target, it r.err] (by simp) (by
              intro w hw
              simp only [List.mem_cons, List.not_mem_nil, or_false] at hw
              rcases hw with rfl | rfl | rfl | rfl | rfl <;> first | (simp [wResult]; done) | omega)
          rw [hwr]
          clear ht hv hwr
          generalize it r.type = a1 at *
          generalize it r.node = a2 at *
          generalize it r.target = a3 at *
          generalize it r.err = a4 at *
          generalize joinL 32 [wResult, a1, a2, a3, a4] = J at *
          repeat' ((conv => whnf); (first
            | (refine Br_false z0 ?_)
            | (refine Br_false z1 ?_)
            | (refine Br_false z2 ?_)
            | (refine Br_true z3 ?_)
            | (refine Br_true y1 ?_)
            | (refine Br_true y2 ?_)
            | (refine Br_true y3 ?_)
            | (refine Br_true (by assumption) ?_)
            | (refine Br_false (by assumption) ?_)
            | (refine Br_true (beqT (by omega)) ?_)
            | (refine Br_false (beqF (by omega)) ?_)
            | (refine Br_beq (fun h => ?_) (fun h => ?_))
            | (refine Br_true (bneT (by omega)) ?_)
            | (refine Br_false (bneF (by omega)) ?_)
            | (refine Br_bne (fun h => ?_) (fun h => ?_))
            | (refine Br_true (decide_eq_true (by omega)) ?_)
            | (refine Br_false (decide_eq_false (by omega)) ?_)
            | (refine Br_dec (fun h => ?_) (fun h => ?_))
            | (refine Br_not ?_)
            | (refine Len_in (fun hlen => ?_))
            | (refine W_draw 0 tt_ok mixed (by kernel_rfl) ?_)
            | (refine Fn.use (h2) rfl rfl ?_)
            | (refine CallF_in (h2) rfl rfl ?_)
            | (refine Fn.use (h3) rfl rfl ?_)
            | (refine CallF_in (h3) rfl rfl ?_)
            | (refine Fn.use (h4) rfl rfl ?_)
            | (refine CallF_in (h4) rfl rfl ?_)
            | (refine Fn.use (h7) rfl rfl ?_)
            | (refine CallF_in (h7) rfl rfl ?_)
            | (refine Fn.use (hw) rfl rfl ?_)
            | (refine CallF_in (hw) rfl rfl ?_)
            | (refine Br_split (fun h => ?_) (fun h => ?_))
            | (refine fin0 rfl ?_)
            | (refine ArK_in (wrap_i64 (by omega) (by omega)) ?_)
            | (refine force_in ?_)))
          rfl
        · have y3 : (r.phase == 0) = false := by simpa using p3
          have hb : toldB r = false := by
            cases hq : toldB r
            · rfl
            · have := ht.1 hq; omega
          rw [hv, hb]
          repeat' ((conv => whnf); (first
            | (refine Br_false z0 ?_)
            | (refine Br_false z1 ?_)
            | (refine Br_false z2 ?_)
            | (refine Br_true z3 ?_)
            | (refine Br_true y1 ?_)
            | (refine Br_true y2 ?_)
            | (refine Br_false y3 ?_)
            | (refine Br_true (by assumption) ?_)
            | (refine Br_false (by assumption) ?_)
            | (refine Br_true (beqT (by omega)) ?_)
            | (refine Br_false (beqF (by omega)) ?_)
            | (refine Br_beq (fun h => ?_) (fun h => ?_))
            | (refine Br_true (bneT (by omega)) ?_)
            | (refine Br_false (bneF (by omega)) ?_)
            | (refine Br_bne (fun h => ?_) (fun h => ?_))
            | (refine Br_true (decide_eq_true (by omega)) ?_)
            | (refine Br_false (decide_eq_false (by omega)) ?_)
            | (refine Br_dec (fun h => ?_) (fun h => ?_))
            | (refine Br_not ?_)
            | (refine Len_in (fun hlen => ?_))
            | (refine Br_split (fun h => ?_) (fun h => ?_))
            | (refine fin0 rfl ?_)
            | (refine ArK_in (wrap_i64 (by omega) (by omega)) ?_)
            | (refine force_in ?_)))
          rfl
      · have y2 : (r.related == 0) = false := by simpa using p2
        have hb : toldB r = false := by
          cases hq : toldB r
          · rfl
          · have := ht.1 hq; omega
        rw [hv, hb]
        repeat' ((conv => whnf); (first
          | (refine Br_false z0 ?_)
          | (refine Br_false z1 ?_)
          | (refine Br_false z2 ?_)
          | (refine Br_true z3 ?_)
          | (refine Br_true y1 ?_)
          | (refine Br_false y2 ?_)
          | (refine Br_true (by assumption) ?_)
          | (refine Br_false (by assumption) ?_)
          | (refine Br_true (beqT (by omega)) ?_)
          | (refine Br_false (beqF (by omega)) ?_)
          | (refine Br_beq (fun h => ?_) (fun h => ?_))
          | (refine Br_true (bneT (by omega)) ?_)
          | (refine Br_false (bneF (by omega)) ?_)
          | (refine Br_bne (fun h => ?_) (fun h => ?_))
          | (refine Br_true (decide_eq_true (by omega)) ?_)
          | (refine Br_false (decide_eq_false (by omega)) ?_)
          | (refine Br_dec (fun h => ?_) (fun h => ?_))
          | (refine Br_not ?_)
          | (refine Len_in (fun hlen => ?_))
          | (refine Br_split (fun h => ?_) (fun h => ?_))
          | (refine fin0 rfl ?_)
          | (refine ArK_in (wrap_i64 (by omega) (by omega)) ?_)
          | (refine force_in ?_)))
        rfl
    · have y1 : (r.prog == 0) = false := by simpa using p1
      have hb : toldB r = false := by
        cases hq : toldB r
        · rfl
        · have := ht.1 hq; omega
      rw [hv, hb]
      repeat' ((conv => whnf); (first
        | (refine Br_false z0 ?_)
        | (refine Br_false z1 ?_)
        | (refine Br_false z2 ?_)
        | (refine Br_true z3 ?_)
        | (refine Br_false y1 ?_)
        | (refine Br_true (by assumption) ?_)
        | (refine Br_false (by assumption) ?_)
        | (refine Br_true (beqT (by omega)) ?_)
        | (refine Br_false (beqF (by omega)) ?_)
        | (refine Br_beq (fun h => ?_) (fun h => ?_))
        | (refine Br_true (bneT (by omega)) ?_)
        | (refine Br_false (bneF (by omega)) ?_)
        | (refine Br_bne (fun h => ?_) (fun h => ?_))
        | (refine Br_true (decide_eq_true (by omega)) ?_)
        | (refine Br_false (decide_eq_false (by omega)) ?_)
        | (refine Br_dec (fun h => ?_) (fun h => ?_))
        | (refine Br_not ?_)
        | (refine Len_in (fun hlen => ?_))
        | (refine Br_split (fun h => ?_) (fun h => ?_))
        | (refine fin0 rfl ?_)
        | (refine ArK_in (wrap_i64 (by omega) (by omega)) ?_)
        | (refine force_in ?_)))
      rfl
  have z3 : (r.kind == 3) = false := by simpa using k3
  have hb : toldB r = false := by
    cases hq : toldB r
    · rfl
    · have := ht.1 hq; omega
  rw [hv, hb]
  repeat' ((conv => whnf); (first
    | (refine Br_false z0 ?_)
    | (refine Br_false z1 ?_)
    | (refine Br_false z2 ?_)
    | (refine Br_false z3 ?_)
    | (refine Br_true (by assumption) ?_)
    | (refine Br_false (by assumption) ?_)
    | (refine Br_true (beqT (by omega)) ?_)
    | (refine Br_false (beqF (by omega)) ?_)
    | (refine Br_beq (fun h => ?_) (fun h => ?_))
    | (refine Br_true (bneT (by omega)) ?_)
    | (refine Br_false (bneF (by omega)) ?_)
    | (refine Br_bne (fun h => ?_) (fun h => ?_))
    | (refine Br_true (decide_eq_true (by omega)) ?_)
    | (refine Br_false (decide_eq_false (by omega)) ?_)
    | (refine Br_dec (fun h => ?_) (fun h => ?_))
    | (refine Br_not ?_)
    | (refine Len_in (fun hlen => ?_))
    | (refine Br_split (fun h => ?_) (fun h => ?_))
    | (refine fin0 rfl ?_)
    | (refine ArK_in (wrap_i64 (by omega) (by omega)) ?_)
    | (refine force_in ?_)))
  rfl
end Go.Eng
