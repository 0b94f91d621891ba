/- What the seat's proofs lean on, part 5: the executor over abstract values, its soundness, and what the program's functions answer (Sp20, Lib23, LibX, Eng31, Eng28, Eng29, Sp4, Sp5, Sh1, Spl1, Num1, Sp30, Tel1, Sp31). -/
import Derived.Test.YtdngkocecdikcaaDoorEng04
import Derived.Lib.SplitLaws
import Derived.Lib.Join
import Derived.Test.YtdngkocecdikcaaDoorEng00
import Derived.Lib.ItoaLen
import Derived.Lib.AppendIntMem
import Derived.Lib.AtoiErrMem
import Derived.ProofKit
import Derived.OpenShut
import Derived.Carry
import Derived.OpenVars
import Derived.Lay
import Derived.LaidMore
import Derived.SevenTiedAt
import Derived.Stop.Joined
import Derived.Test.YtdngkocecdikcaaDoorEng03
import Derived.Lib.AtoiAll
import Derived.Lib.ItoaNum
set_option linter.all false
set_option linter.unusedVariables false
set_option linter.unusedSimpArgs false
set_option linter.unusedVariables false
set_option linter.unusedSimpArgs false
namespace Go.Eng
open Go
def splitL (c : UInt8) : List UInt8 → List (List UInt8)
  | [] => [[]]
  | a :: r => if a = c then [] :: splitL c r else match splitL c r with
    | w :: ws => (a :: w) :: ws
    | [] => [[a]]
theorem splitL_ne (c : UInt8) (l : List UInt8) : splitL c l ≠ [] := by
  cases l with
  | nil => simp [splitL]
  | cons a r => simp only [splitL]; split <;> (try split) <;> simp
theorem splitL_miss {c : UInt8} {l : List UInt8} (h : Lib.indexByte l c = -1) : splitL c l = [l] := by
  induction l with
  | nil => rfl
  | cons a r ih =>
    have hr := Lib.indexByte_ge r c
    unfold Lib.indexByte at h
    split at h
    · omega
    · rename_i hne
      split at h
      · rename_i h1
        have h1 : Lib.indexByte r c = -1 := by simpa using h1
        have hac : a ≠ c := by intro e; subst e; simp at hne
        simp only [splitL, if_neg hac, ih h1]
      · rename_i h1
        have h1 : Lib.indexByte r c ≠ -1 := by simpa using h1
        omega
theorem splitL_hit {c : UInt8} {l : List UInt8} {i : Nat} (h : Lib.indexByte l c = i) : i < l.length ∧ splitL c l = l.take i :: splitL c (l.drop (i + 1)) := by
  induction l generalizing i with
  | nil => simp [Lib.indexByte] at h
  | cons a r ih =>
    have hr := Lib.indexByte_ge r c
    unfold Lib.indexByte at h
    split at h
    · rename_i he
      have he : a = c := by simpa using he
      have : i = 0 := by omega
      subst this
      simp [splitL, he]
    · rename_i hne
      have hac : a ≠ c := by intro e; subst e; simp at hne
      split at h
      · omega
      · rename_i h1
        have h1 : Lib.indexByte r c ≠ -1 := by simpa using h1
        obtain ⟨j, rfl⟩ : ∃ j, i = j + 1 := ⟨i - 1, by omega⟩
        obtain ⟨g1, g2⟩ := ih (i := j) (by omega)
        refine ⟨by simp; omega, ?_⟩
        simp only [splitL, if_neg hac, g2, List.take_succ_cons, List.drop_succ_cons]
def joinL (c : UInt8) : List (List UInt8) → List UInt8
  | [] => []
  | [w] => w
  | w :: ws => w ++ c :: joinL c ws
theorem joinL_cons (c : UInt8) (w : List UInt8) {ws : List (List UInt8)} (h : ws ≠ []) : joinL c (w :: ws) = w ++ c :: joinL c ws := by
  cases ws with
  | nil => exact absurd rfl h
  | cons a r => rfl
theorem join_joinL (c : UInt8) (ws : List (List UInt8)) : Lib.join ws [c] = joinL c ws := by
  induction ws with
  | nil => rfl
  | cons w ws ih =>
    cases ws with
    | nil => exact Lib.join_one w [c]
    | cons a r =>
      rw [joinL_cons c w (by simp), ← ih]
      simp [Lib.join, List.intercalate, List.intersperse]
theorem join_split (c : UInt8) (l : List UInt8) : joinL c (splitL c l) = l := by
  induction l with
  | nil => rfl
  | cons a r ih =>
    simp only [splitL]
    split
    · rename_i e
      rw [joinL_cons c [] (splitL_ne c r), ih, e]; rfl
    · have hne := splitL_ne c r
      split
      · rename_i w ws hw
        rw [hw] at ih
        cases ws with
        | nil => simp only [joinL] at ih ⊢; rw [ih]
        | cons x y => rw [joinL_cons c _ (by simp)] at ih ⊢; rw [← ih]; rfl
      · rename_i hw; exact absurd hw hne
theorem split_plain (c : UInt8) (w : List UInt8) (h : c ∉ w) : splitL c w = [w] := by
  induction w with
  | nil => rfl
  | cons a r ih =>
    simp only [List.mem_cons, not_or] at h
    simp only [splitL]
    rw [if_neg (Ne.symm h.1), ih h.2]
theorem split_app (c : UInt8) (w r : List UInt8) (h : c ∉ w) : splitL c (w ++ c :: r) = w :: splitL c r := by
  induction w with
  | nil => simp [splitL]
  | cons a t ih =>
    simp only [List.mem_cons, not_or] at h
    simp only [List.cons_append, splitL]
    rw [if_neg (Ne.symm h.1), ih h.2]
theorem split_join (c : UInt8) (ws : List (List UInt8)) (hne : ws ≠ []) (h : ∀ w ∈ ws, c ∉ w) : splitL c (joinL c ws) = ws := by
  induction ws with
  | nil => exact absurd rfl hne
  | cons w ws ih =>
    cases ws with
    | nil => exact split_plain c w (h w (by simp))
    | cons a r =>
      rw [joinL_cons c w (by simp), split_app c w _ (h w (by simp)), ih (by simp) (fun x hx => h x (by simp [hx]))]
theorem split_no (c : UInt8) (l : List UInt8) : ∀ w ∈ splitL c l, c ∉ w := by
  induction l with
  | nil => intro w h; simp [splitL] at h; subst h; simp
  | cons a r ih =>
    intro w h
    simp only [splitL] at h
    split at h
    · rcases List.mem_cons.1 h with rfl | h
      · simp
      · exact ih w h
    · rename_i hne
      split at h
      · rename_i x xs hx
        rcases List.mem_cons.1 h with rfl | h
        · have := ih x (by rw [hx]; simp)
          simp only [List.mem_cons, not_or]; exact ⟨Ne.symm hne, this⟩
        · exact ih w (by rw [hx]; simp [h])
      · simp at h; subst h; simp; exact Ne.symm hne
theorem split_len (c : UInt8) (l : List UInt8) : (splitL c l).length ≤ l.length + 1 := by
  induction l with
  | nil => simp [splitL]
  | cons a r ih => simp only [splitL]; split <;> (try split) <;> simp_all <;> omega
theorem split_mem_len (c : UInt8) (l : List UInt8) : ∀ w ∈ splitL c l, w.length ≤ l.length := by
  induction l with
  | nil => intro w h; simp [splitL] at h; subst h; simp
  | cons a r ih =>
    intro w h
    simp only [splitL] at h
    split at h
    · rcases List.mem_cons.1 h with rfl | h
      · simp
      · have := ih w h; simp; omega
    · split at h
      · rename_i x xs hx
        rcases List.mem_cons.1 h with rfl | h
        · have := ih x (by rw [hx]; simp); simp; omega
        · have := ih w (by rw [hx]; simp [h]); simp; omega
      · simp at h; subst h; simp
theorem indexB_c (l : List UInt8) (c : UInt8) : Lib.indexB ⟨l.toArray⟩ ⟨[c].toArray⟩ = Lib.indexByte l c := by
  have : Lib.indexB ⟨l.toArray⟩ ⟨[c].toArray⟩ = Lib.index l [c] := rfl
  rw [this, Lib.index_one]
theorem splitB_c (c : UInt8) : ∀ (k : Nat) (l : List UInt8), Lib.countB ⟨l.toArray⟩ ⟨[c].toArray⟩ = k →
    Lib.splitB ⟨[c].toArray⟩ 0 k ⟨l.toArray⟩ = (splitL c l).map fun x => ⟨x.toArray⟩ := by
  have hsz : (⟨[c].toArray⟩ : ByteArray).size = 1 := rfl
  have hge := fun l => Lib.indexByte_ge l c
  intro k
  induction k with
  | zero =>
    intro l hk
    by_cases h : Lib.indexByte l c = -1
    · rw [splitL_miss h]; rfl
    · obtain ⟨i, hi⟩ : ∃ i : Nat, Lib.indexByte l c = i := ⟨(Lib.indexByte l c).toNat, by have := hge l; omega⟩
      have := Lib.countB_hit ⟨l.toArray⟩ ⟨[c].toArray⟩ i (by rw [hsz]; omega) (by rw [indexB_c]; exact hi)
      omega
  | succ k ih =>
    intro l hk
    by_cases h : Lib.indexByte l c = -1
    · have := Lib.countB_miss ⟨l.toArray⟩ ⟨[c].toArray⟩ (by rw [indexB_c]; exact h)
      omega
    · obtain ⟨i, hi⟩ : ∃ i : Nat, Lib.indexByte l c = i := ⟨(Lib.indexByte l c).toNat, by have := hge l; omega⟩
      have hc := Lib.countB_hit ⟨l.toArray⟩ ⟨[c].toArray⟩ i (by rw [hsz]; omega) (by rw [indexB_c]; exact hi)
      rw [Lib.splitB_hit _ _ _ _ i (by rw [indexB_c]; exact hi)]
      obtain ⟨h1, h2⟩ := splitL_hit hi
      rw [h2, hsz, str_extract, str_size, str_drop]
      rw [hsz, str_size, str_drop] at hc
      rw [ih _ (by omega)]
      simp
theorem count_c (c : UInt8) (l : List UInt8) : Lib.countB ⟨l.toArray⟩ ⟨[c].toArray⟩ + 1 = (splitL c l).length := by
  have h := Lib.splitB_all ⟨[c].toArray⟩ (Nat.le_refl 1) 0 _ ⟨l.toArray⟩ rfl
  rw [splitB_c c _ l rfl] at h
  rw [← h, List.length_map]
end Go.Eng
set_option maxRecDepth 100000
set_option linter.unusedVariables false
set_option linter.unusedSimpArgs false
namespace Go.Eng
open Go Go.Proofs Go.RowKit
theorem dec_len : ∀ i : Nat, i < 100 → (Lib.decDigits i).length ≤ 3 := by
  intro i hi
  unfold Lib.decDigits
  split
  · simp
  · unfold Lib.decDigits
    rw [dif_pos (by omega)]; simp
theorem itoa_small (i : Nat) (hi : i < 100) : Fn Tryd.prog 34 [.i i] (.d (str (Lib.decDigits i))) :=
  Fn_below (Ent_of Tryd.func34 rfl (by decide)) str_any fun p w vs hg hlt hs hv => by
    obtain rfl := vs_1 hs (arg_int hs hv 0 rfl)
    refine (Tryd.strconv_Itoa_small i hi w).mono fun e w' ⟨he, hw⟩ => ⟨_, he, hw ▸ Below.refl _ _, .str _ ?_⟩
    have := dec_len i hi
    rw [str_size]; unfold LB; omega
def atoiV (l : List UInt8) : Int :=
  match Lib.atoiAll l with
  | .ok v => v
  | .range => Lib.atoiSat l
  | _ => 0
theorem tup_any {n : Int} : ∀ (p q : PQ) (w w' : World) (v : Value), VRel p [] w (.tup [.i n, .any]) v → VRel q [] w' (.tup [.i n, .any]) v := fun p q w w' v h => by
  cases h with
  | tup _ vs h hv =>
    refine .tup _ vs h fun i x v hx hv' => ?_
    have := hv i x v hx hv'
    match i with
    | 0 => simp at hx; subst hx; cases this; exact .int _ _
    | 1 => simp at hx; subst hx; exact .any _
    | i + 2 => simp at hx
theorem tup_of {p : PQ} {w : World} (n : Int) (v : Value) : VRel p [] w (.tup [.i n, .any]) (.tuple #[.int .i64 n, v]) :=
  .tup _ _ rfl fun i x u hx hu => by
    match i with
    | 0 => simp at hx hu; subst hx hu; exact .int _ _
    | 1 => simp at hx; subst hx; exact .any _
    | i + 2 => simp at hx
theorem below_bytes {w w' : World} {E : TypeId} (h : w' = w ∨ ∃ t, w' = Lib.bytesWorld w E t) : Below w.heap.size w w' := by
  rcases h with rfl | ⟨t, rfl⟩
  · exact Below.refl _ _
  · exact Lib.bytesWorld_below _ _ _
theorem atoi_any (l : List UInt8) : Fn Tryd.prog 40 [.d (str l)] (.tup [.i (atoiV l), .any]) :=
  Fn_below (Ent_of Tryd.func40 rfl (by decide)) tup_any fun p w vs hg hlt hs hv => by
    obtain ⟨h0, hB⟩ := arg_str hs hv 0 rfl
    obtain rfl := vs_1 hs h0
    obtain ⟨_, ⟨t1, v1, g1⟩, ⟨t2, v2, g2⟩, _⟩ := hg
    have hB' : (⟨l.toArray⟩ : ByteArray).size ≤ 281474976710656 := by unfold LB at hB; exact hB
    unfold atoiV
    cases h : Lib.atoiAll l with
    | ok v => exact (Tryd.strconv_Atoi_ok ⟨l.toArray⟩ (by omega) v h w).mono fun e w' ⟨he, hw⟩ => ⟨_, he, below_bytes hw, tup_of _ _⟩
    | range => exact (Tryd.strconv_Atoi_range ⟨l.toArray⟩ hB' h _ w g2 (.inr ⟨t2, v2, rfl⟩)).mono fun e w' ⟨N, he, _, _, hw⟩ => ⟨_, he, hw, tup_of _ _⟩
    | _ => exact (Tryd.strconv_Atoi_syntax ⟨l.toArray⟩ hB' h _ w g1 (.inr ⟨t1, v1, rfl⟩)).mono fun e w' ⟨N, he, _, _, hw⟩ => ⟨_, he, hw, tup_of _ _⟩
def texts (ls : List (List UInt8)) : D := .sl (ls.map fun l => [str l])
theorem split_c (l : List UInt8) (c : UInt8) (hl : l.length < 4294967281) : Fn Tryd.prog 22 [.d (str l), .d (str [c])] (.d (texts (splitL c l))) :=
  Fn_lift (Ent_of Tryd.func22 rfl (by decide)) fun p w vs hg hlt hs hv => by
    obtain rfl := vs_2 hs (arg_str hs hv 0 rfl).1 (arg_str hs hv 1 rfl).1
    obtain ⟨⟨m, hm⟩, _⟩ := hg
    have hsz : (⟨l.toArray⟩ : ByteArray).size = l.length := str_size l
    refine (Tryd.strings_Split ⟨l.toArray⟩ ⟨[c].toArray⟩ m w (by omega) hm (Nat.le_refl 1)).mono fun e w' ⟨he, hw⟩ => ?_
    rw [splitB_c c _ l rfl] at hw
    have hn := split_len c l
    have hc := count_c c l
    obtain ⟨p', h1, h2, h3⟩ := new_texts hlt ((splitL c l).map fun x => (⟨x.toArray⟩ : ByteArray)) 9 (by rw [List.length_map]; unfold LB; omega) (fun x hx => by
      obtain ⟨y, hy, rfl⟩ := List.mem_map.1 hx
      have := split_mem_len c l y hy
      rw [str_size]; unfold LB; omega) (cap := Lib.countB ⟨l.toArray⟩ ⟨[c].toArray⟩ + 1) (by rw [List.length_map]; omega)
    subst hw
    refine ⟨_, p', he, h1, h2, ?_⟩
    have e1 : (.d (texts (splitL c l)) : AV) = .d (.sl (((splitL c l).map fun x => (⟨x.toArray⟩ : ByteArray)).map fun x => [.str x])) := by unfold texts; rw [List.map_map]; rfl
    rw [e1]
    rw [List.length_map, ← hc] at h3
    exact h3
theorem arg_texts {p : PQ} {w : World} (hlt : ∀ b, p.u b → b < w.heap.size) {ls : List (List UInt8)} {v : Value} (h : VRel p [] w (.d (texts ls)) v) :
    ∃ a n cap, v = .slice a n cap ∧ n = ls.length ∧ n ≤ cap ∧ n ≤ LB ∧ (n ≠ 0 → ∃ r o, a = some ⟨r, o, none⟩ ∧ r < w.heap.size ∧ ∀ (i : Nat) (l : List UInt8), ls[i]? = some l → w.cell? ⟨r, o + i, none⟩ = some (.string ⟨l.toArray⟩)) := by
  unfold texts at h
  cases h with
  | sl _ a n cap sz vals hn hB hc hrow hcells hvs =>
    refine ⟨a, n, cap, rfl, by rw [← hn, List.length_map], hc, hB, fun h0 => ?_⟩
    obtain ⟨r, o, rfl, hp, hcs⟩ := hcells h0
    refine ⟨r, o, rfl, hlt r (p.sub r hp), fun i l hl => ?_⟩
    have hi : i < n := by rw [← hn, List.length_map]; exact (List.getElem?_eq_some_iff.1 hl).1
    have hr : (ls.map fun l => [str l])[i]? = some [str l] := by rw [List.getElem?_map, hl]; rfl
    have h1 : sz = 1 := (hrow i _ hr).symm
    subst h1
    have h2 := hvs i _ 0 _ hr rfl
    have h3 := hcs i 0 hi (by omega)
    generalize vals i 0 = u at h2 h3
    cases h2
    simpa using h3
theorem join_c (ls : List (List UInt8)) (c : UInt8) (hl : (joinL c ls).length ≤ 140737488355328) (hn : ls.length ≤ 140737488355328) : Fn Tryd.prog 35 [.d (texts ls), .d (str [c])] (.d (str (joinL c ls))) :=
  Fn_below (Ent_of Tryd.func35 rfl (by decide)) str_any fun p w vs hg hlt hs hv => by
    have hi : 0 < vs.size := by rw [hs]; simp
    obtain ⟨a, n, cap, hv0, hnl, hc, hB, hcs⟩ := arg_texts hlt (hv 0 _ vs[0] rfl (Array.getElem?_eq_getElem hi))
    obtain rfl := vs_2 hs (by rw [Array.getElem?_eq_getElem hi, hv0]) (arg_str hs hv 1 rfl).1
    by_cases h0 : n = 0
    · subst h0
      have : ls = [] := List.length_eq_zero_iff.1 hnl.symm
      subst this
      exact (Tryd.strings_Join_none a cap ⟨[c].toArray⟩ w).mono fun e w' ⟨he, hw⟩ => ⟨_, he, hw ▸ Below.refl _ _, .str _ (by show (0 : Nat) ≤ LB; exact Nat.zero_le _)⟩
    · obtain ⟨r, o, rfl, hr, hcell⟩ := hcs h0
      have e1 : ((ls.map fun l => (⟨l.toArray⟩ : ByteArray)).map (·.data.toList)) = ls := by rw [List.map_map]; exact List.map_id' ls
      have e2 : ((⟨[c].toArray⟩ : ByteArray).data.toList) = [c] := rfl
      have e3 : (ls.map fun l => (⟨l.toArray⟩ : ByteArray)).length = n := by rw [List.length_map, hnl]
      have h := Tryd.strings_Join r o cap (ls.map fun l => (⟨l.toArray⟩ : ByteArray)) ⟨[c].toArray⟩ w (fun j x hx => by
        rw [List.getElem?_map] at hx
        cases hj : ls[j]? with
        | none => rw [hj] at hx; simp at hx
        | some y => rw [hj] at hx; simp at hx; subst hx; exact hcell j y hj) hr (by rw [e3]; omega) (by rw [e3]; omega) (by rw [e1, e2, join_joinL]; exact hl)
      rw [e1, e2, join_joinL, e3] at h
      exact h.mono fun e w' ⟨he, hw⟩ => ⟨_, he, hw, .str _ (by rw [str_size]; unfold LB; omega)⟩
theorem itoa_any (n : Int) (h0 : -9223372036854775808 ≤ n) (h1 : n ≤ 9223372036854775807) : Fn Tryd.prog 34 [.i n] (.d (str (Lib.itoa n))) :=
  Fn_below (Ent_of Tryd.func34 rfl (by decide)) str_any fun p w vs hg hlt hs hv => by
    obtain rfl := vs_1 hs (arg_int hs hv 0 rfl)
    obtain ⟨_, _, _, ht⟩ := hg
    refine (Tryd.strconv_Itoa n h0 h1 w ht).mono fun e w' ⟨he, k, os, hw⟩ => ⟨_, he, ?_, .str _ ?_⟩
    · subst hw
      exact Lib.below_grow _ w (Nat.le_refl _) k os
    · have := Lib.itoa_length_le n h0 h1
      rw [str_size]; unfold LB; omega
theorem trim_prefix (s p : List UInt8) : Fn Tryd.prog 24 [.d (str s), .d (str p)] (.d (str (Lib.trimPrefix s p))) :=
  Fn_below (Ent_of Tryd.func24 rfl (by decide)) str_any fun q w vs hg hlt hs hv => by
    obtain ⟨h0, hB⟩ := arg_str hs hv 0 rfl
    obtain rfl := vs_2 hs h0 (arg_str hs hv 1 rfl).1
    refine (Tryd.strings_TrimPrefix ⟨s.toArray⟩ ⟨p.toArray⟩ w).mono fun e w' ⟨he, hw⟩ => ⟨_, he, hw ▸ Below.refl _ _, .str _ ?_⟩
    have : (Lib.trimPrefix s p).length ≤ s.length := by unfold Lib.trimPrefix; split <;> simp
    rw [str_size] at hB ⊢
    unfold LB at hB ⊢
    omega
end Go.Eng

set_option linter.unusedVariables false
set_option linter.unusedSimpArgs false
namespace Go.Eng
open Go
theorem FV_acc {g : List Nat} {H : Heap} {b sz : Nat} (rows : List (List D)) (hb : H[b]? = some (AccB rows)) (hs : ∀ r ∈ rows, r.length = sz) : FV g [b] H (AccV b sz rows) (.d (.sl rows)) := by
  by_cases hr : rows = []
  · subst hr; rw [AccV_nil]; exact .nsl
  · rw [AccV_cons hr]
    rw [AccB_cons hr] at hb
    exact FV_tab rows (by unfold rowOf; rw [hb]) rfl rfl hs
theorem FV_args2 {F : List Nat} {H : Heap} {x y x' y' : AV} (h1 : FV [] F H x x') (h2 : FV [] F H y y') : ∀ (i : Nat) (a b : AV), [x, y][i]? = some a → [x', y'][i]? = some b → FV [] F H a b := fun i a b ha hb => by
  match i with
  | 0 => simp at ha hb; subst ha hb; exact h1
  | 1 => simp at ha hb; subst ha hb; exact h2
  | i + 2 => simp at ha
theorem FV_args1 {F : List Nat} {H : Heap} {x x' : AV} (h1 : FV [] F H x x') : ∀ (i : Nat) (a b : AV), [x][i]? = some a → [x'][i]? = some b → FV [] F H a b := fun i a b ha hb => by
  match i with
  | 0 => simp at ha hb; subst ha hb; exact h1
  | i + 1 => simp at ha
end Go.Eng
namespace Go.Eng
open Go
theorem Tri.useE {P : Program} {f : FuncId} {args : List AV} {H H0 H1 : Heap} {r : AV} {K : AV → Heap → Prop} (h : Tri P f args H0 fun v H' => v = r ∧ H' = H1) (e : H = H0) (hK : K r H1) : Tri P f args H K := by
  subst e
  exact Tri.use h hK
theorem splice_rest (l : List AV) : ∀ (z : List AV) (o : Nat), z.length = o + l.length → splice z o l = z.take o ++ l := by
  induction l with
  | nil => intro z o h; simp only [splice, List.append_nil]; rw [List.take_of_length_le (by simp at h; omega)]
  | cons v t ih =>
    intro z o h
    simp only [List.length_cons] at h
    simp only [splice]
    rw [ih _ _ (by rw [List.length_set]; omega), List.take_succ_eq_append_getElem (by rw [List.length_set]; omega), List.getElem_set_self, List.take_set_of_le (Nat.le_refl _), List.append_assoc]
    rfl
theorem splice_full (l z : List AV) (h : z.length = l.length) : splice z 0 l = l := by
  rw [splice_rest l z 0 (by omega)]; rfl
def lenM (x : AV) (A : List (List D) → Prop) (B : Prop) (C : Nat → Nat → Nat → Nat → Nat → Prop) (E : Prop) : Prop :=
  match x with
  | .d (.sl rows) => A rows
  | .nsl => B
  | .msl b off len c s => C b off len c s
  | .esl => E
  | _ => False
theorem lenM_acc {b sz : Nat} {rows : List (List D)} {A : List (List D) → Prop} {B : Prop} {C : Nat → Nat → Nat → Nat → Nat → Prop} {E : Prop} (h0 : rows = [] → B) (h1 : rows ≠ [] → C b 0 rows.length rows.length sz) : lenM (AccV b sz rows) A B C E := by
  by_cases hr : rows = []
  · have h := h0 hr; subst hr; rw [AccV_nil]; exact h
  · rw [AccV_cons hr]; exact h1 hr
theorem W_padH {P : Program} {ro : Option Nat} {c : Code} {Q : AEx → St → Prop} {ρ : Env} {n m : Nat} {H H2 : Heap} {df : List Nat} (h : H = H2 ∨ H ++ [none] = H2) (hw : W P ro c Q ⟨ρ, n, H2, m, df⟩) : W P ro c Q ⟨ρ, n, H, m, df⟩ := by
  rcases h with rfl | rfl
  · exact hw
  · exact W_wk Wk_pad hw
theorem noY_accB {rows : List (List D)} {t : Heap} (h : noY t = true) : noY (AccB rows :: t) = true := by
  by_cases hr : rows = []
  · subst hr; rw [AccB_nil]; exact h
  · rw [AccB_cons hr]; exact h
theorem App_nsl {ei : TI} {H : Heap} {x : AV} {B : Prop} {K : AV → Heap → Prop} (new : List (List D)) (hx : newLen x = some new.length) (hc : newCells H ei.size x = some (new.flatten.map .d))
    (hn : new ≠ []) (hrn : ∀ r ∈ new, r.length = ei.size) (hlim : new.length ≤ 1000000) (hby : ei.bytes ≤ 1000)
    (hK : K (.msl H.length 0 new.length new.length ei.size) (H ++ [some (.row (new.flatten.map .d))])) : ChK (appK ei H .nsl x K) B := by
  have hlb : new.length ≤ LB := by unfold LB; omega
  have hB : (new.length + 200) * ei.bytes ≤ 2 ^ 46 := Nat.le_trans (Nat.mul_le_mul (by omega : new.length + 200 ≤ 1000200) hby) (by decide)
  have h0 : 0 < new.length := List.length_pos_iff.2 hn
  have hfn : (new.flatten.map AV.d).length = new.length * ei.size := by rw [List.length_map]; exact flatten_len new hrn
  refine Ch_l ?_
  unfold appK
  rw [hx]
  simp only
  rw [hc]
  simp only
  have hnn : x ≠ .nsl := by rintro rfl; simp [newLen] at hx; omega
  cases x <;> first
    | exact absurd rfl hnn
    | (simp only [NeedK_eq]; simp only [pushK_eq]; exact ⟨⟨h0, hB, hlb, hfn⟩, hK⟩)
theorem App_msr {ei : TI} {H : Heap} {b sz n : Nat} {x : AV} {B : Prop} {K : AV → Heap → Prop} (rows new : List (List D)) (hne : rows ≠ []) (hnl : n = rows.length) (hb : H[b]? = some (some (.row (rows.flatten.map .d)))) (hx : newLen x = some new.length)
    (hc : newCells H ei.size x = some (new.flatten.map .d)) (hsz : sz = ei.size)
    (hn : new ≠ []) (hrs : ∀ r ∈ rows, r.length = ei.size) (hrn : ∀ r ∈ new, r.length = ei.size) (hlim : rows.length + new.length ≤ 1000000) (hby : ei.bytes ≤ 1000)
    (hK : K (.msl H.length 0 (rows.length + new.length) (rows.length + new.length) ei.size) (H.set b none ++ [some (.row ((rows ++ new).flatten.map .d))])) : ChK (appK ei H (.msl b 0 n n sz) x K) B := by
  subst hnl
  have := App_acc (ei := ei) (H := H) (b := b) (sz := sz) (x := x) (B := B) (K := K) rows new (by rw [AccB_cons hne]; exact hb) hx hc hsz hn hrs hrn hlim hby hK
  rwa [AccV_cons hne] at this
end Go.Eng
set_option linter.unusedVariables false
set_option linter.unusedSimpArgs false
namespace Go.Eng
open Go Go.RowKit Go.ChangeShapes Go.WideShapes
inductive Sh where
  | int (k : IntKind) | bool | str | sl (row : List Sh)
inductive HasSh : Sh → D → Prop
  | int (k : IntKind) (n : Int) (h : (Lit.int k n).wf = true) : HasSh (.int k) (.int k n)
  | bool (b : Bool) : HasSh .bool (.bool b)
  | str (s : ByteArray) : HasSh .str (.str s)
  | sl (row : List Sh) (rows : List (List D)) (hl : ∀ r ∈ rows, r.length = row.length) (h : ∀ r ∈ rows, ∀ (j : Nat) (s : Sh) (d : D), row[j]? = some s → r[j]? = some d → HasSh s d) : HasSh (.sl row) (.sl rows)
def Row (shs : List Sh) (ds : List D) : Prop := ds.length = shs.length ∧ ∀ (j : Nat) (s : Sh) (d : D), shs[j]? = some s → ds[j]? = some d → HasSh s d
theorem Row.one {s : Sh} {d : D} (h : HasSh s d) : Row [s] [d] := ⟨rfl, fun j s' d' h1 h2 => by
  cases j with
  | zero => simp at h1 h2; subst h1 h2; exact h
  | succ j => simp at h1⟩
def places (P : Program) : List Field → List (List Sh) → Nat → Bool
  | [], [], _ => true
  | f :: fs, r :: rs, o => Nat.beq f.offset o && (Nat.beq (P.cellsOf f.type) r.length && places P fs rs (o + r.length))
  | _, _, _ => false
def flat (P : Program) : Nat → TypeId → Option (List Sh)
  | 0, _ => none
  | n + 1, t => match P.underlying t with
    | some (.int k) => some [.int k]
    | some .bool => some [.bool]
    | some .string => some [.str]
    | some (.slice e) => match flat P n e with
      | some r => if 0 < P.bytesOf e ∧ P.cellsOf e = r.length ∧ 0 < r.length then some [.sl r] else none
      | none => none
    | some (.struct fs) => match fs.toList.mapM fun f => flat P n f.type with
      | some rs => if places P fs.toList rs 0 = true ∧ P.cellsOf t = rs.flatten.length then some rs.flatten else none
      | none => none
    | _ => none
def pAll (w : World) : PQ := ⟨fun b => b < w.heap.size, fun b => b < w.heap.size, fun _ => False, fun _ h => h, fun _ h => h.elim, fun _ h => h.elim⟩
section
variable {H : Type} {enc : TypeId × Value → H} {P : Program} {w : World} {base : Nat} {spare : Nat → Bool} {held : Bool}
theorem ex_list {α : Type} (n : Nat) (Q : Nat → α → Prop) (h : ∀ i, i < n → ∃ x, Q i x) : ∃ l : List α, l.length = n ∧ ∀ i x, l[i]? = some x → Q i x := by
  induction n with
  | zero => exact ⟨[], rfl, fun i x hx => by simp at hx⟩
  | succ n ih =>
    obtain ⟨l, hl, hq⟩ := ih fun i hi => h i (by omega)
    obtain ⟨x, hx⟩ := h n (by omega)
    refine ⟨l ++ [x], by simp [hl], fun i y hy => ?_⟩
    by_cases hi : i < n
    · rw [List.getElem?_append_left (by omega)] at hy; exact hq i y hy
    · have : i = n := by
        have := (List.getElem?_eq_some_iff.1 hy).1
        simp at this; omega
      subst this
      rw [List.getElem?_append_right (by omega)] at hy
      simp [hl] at hy
      subst hy; exact hx
theorem weightsAll_mem {P : Program} {e : TypeId} : ∀ (l : List (DataW H)) (d : DataW H), d ∈ l → ∀ m ∈ d.weights P e, m ∈ DataW.weightsAll P e l := by
  intro l
  induction l with
  | nil => intro d h; simp at h
  | cons a r ih =>
    intro d h m hm
    simp only [DataW.weightsAll, List.mem_append]
    rcases List.mem_cons.1 h with rfl | h
    · exact .inl hm
    · exact .inr (ih d h m hm)
theorem reach_LB {m : Nat} (h : m ≤ reachBytes) : m ≤ LB := by
  unfold reachBytes at h; unfold LB; omega
theorem read_flat (n : Nat) : ∀ (t : TypeId) (shs : List Sh) (fuel : Nat) (cs : List Value) (x : DataW H × List MemPlace), flat P n t = some shs → DataW.trod enc P w base spare held fuel t cs = some x →
    (∀ m ∈ x.1.weights P t, m ≤ reachBytes) → ∃ ds : List D, Row shs ds ∧ cs.length = ds.length ∧ ∀ (j : Nat) (d : D) (v : Value), ds[j]? = some d → cs[j]? = some v → VRel (pAll w) [] w (.d d) v ∧ one v = true := by
  induction n with
  | zero => intro t shs fuel cs x h; simp [flat] at h
  | succ n ih =>
    intro t shs fuel cs x h ht hw
    unfold flat at h
    have single : ∀ (s : Sh) (d : D) (v : Value), shs = [s] → cs = [v] → HasSh s d → VRel (pAll w) [] w (.d d) v → one v = true → ∃ ds : List D, Row shs ds ∧ cs.length = ds.length ∧ ∀ (j : Nat) (d : D) (v : Value), ds[j]? = some d → cs[j]? = some v → VRel (pAll w) [] w (.d d) v ∧ one v = true := by
      rintro s d v rfl rfl h1 h2 h3
      refine ⟨[d], .one h1, rfl, fun j d' v' hd hv => ?_⟩
      cases j with
      | zero => simp at hd hv; subst hd hv; exact ⟨h2, h3⟩
      | succ j => simp at hd
    split at h
    · rename_i k hu
      obtain ⟨z, rfl, rfl, hwf⟩ := DataW.trod_int hu ht
      injection h with h
      exact single _ _ _ h.symm rfl (.int k z hwf) (.int k z) rfl
    · rename_i hu
      obtain ⟨z, rfl, rfl⟩ := DataW.trod_bool hu ht
      injection h with h
      exact single _ _ _ h.symm rfl (.bool z) (.bool z) rfl
    · rename_i hu
      obtain ⟨z, rfl, rfl, hsz⟩ := DataW.trod_string hu ht
      injection h with h
      refine single _ _ _ h.symm rfl (.str z) (.str z ?_) rfl
      have := hw z.size (by simp only [DataW.weights]; exact List.mem_singleton.2 (show z.data.size = z.data.toList.length from Array.length_toList.symm))
      exact reach_LB this
    · rename_i e hu
      split at h
      · rename_i r hr
        split at h
        · rename_i hc
          obtain ⟨hc1, hc2, hc3⟩ := hc
          injection h with h
          rcases DataW.trod_slice hu ht with ⟨rfl, rfl⟩ | ⟨a, len, cap, elems, rest, n', hfu, rfl, rfl, hb, hlc, hcm, hel, hget, _, _⟩
          · exact single _ _ _ h.symm rfl (.sl r [] (fun _ h => by simp at h) (fun _ h => by simp at h)) (.sl [] none 0 0 0 (fun _ _ => undef) rfl (Nat.zero_le _) (Nat.le_refl _) (fun i row h => by simp at h) (fun h => absurd rfl h) (fun i row j x h => by simp at h)) rfl
          · have hel2 : ∀ i, i < len → ∃ y csi, elems[i]? = some y ∧ w.cells? base (a.add (i * P.cellsOf e)) (P.cellsOf e) = some csi ∧ DataW.trod enc P w base spare held n' e csi = some y := by
              intro i hi
              have h1 := hget i hi
              have hy : elems[i]? = some (elems[i]'(by omega)) := List.getElem?_eq_getElem (by omega)
              rw [hy, Option.bind_eq_some_iff] at h1
              obtain ⟨csi, h2, h3⟩ := h1
              exact ⟨_, csi, hy, h2, h3⟩
            obtain ⟨rows, hrl, hrq⟩ := ex_list len (fun i (ds : List D) => Row r ds ∧ ∀ csi, w.cells? base (a.add (i * P.cellsOf e)) (P.cellsOf e) = some csi → csi.length = ds.length ∧ ∀ (j : Nat) (d : D) (v : Value), ds[j]? = some d → csi[j]? = some v → VRel (pAll w) [] w (.d d) v ∧ one v = true) (fun i hi => by
              obtain ⟨y, csi, h1, h2, h3⟩ := hel2 i hi
              obtain ⟨ds, g1, g2, g3⟩ := ih e r n' csi y hr h3 (fun m hm => hw m (by
                simp only [DataW.weights, hu, List.mem_cons, List.mem_append]
                exact .inr (.inl (weightsAll_mem _ y.1 (List.mem_map.2 ⟨y, List.mem_of_getElem? h1, rfl⟩) m hm))))
              exact ⟨ds, g1, fun csi' h' => by rw [h2] at h'; injection h' with h'; subst h'; exact ⟨g2, g3⟩⟩)
            have hlenB : len ≤ LB := by
              have h1 := hw ((elems.length + rest.length) * P.bytesOf e) (by simp [DataW.weights, hu])
              have h2 : elems.length * 1 ≤ (elems.length + rest.length) * P.bytesOf e := Nat.mul_le_mul (by omega) hc1
              exact reach_LB (by omega)
            have hcell : ∀ i j, i < len → j < r.length → ∃ v, w.cell? ((a.add (i * P.cellsOf e)).add j) = some v ∧ ∀ csi, w.cells? base (a.add (i * P.cellsOf e)) (P.cellsOf e) = some csi → csi[j]? = some v := by
              intro i j hi hj
              obtain ⟨y, csi, h1, h2, h3⟩ := hel2 i hi
              obtain ⟨_, k1, k2⟩ := World.cells?_some h2
              refine ⟨csi[j]'(by omega), ?_, fun csi' h' => ?_⟩
              · have := k2 j (by omega)
                rw [this, List.getElem?_eq_getElem (by omega)]
              · rw [h2] at h'; injection h' with h'; subst h'; exact List.getElem?_eq_getElem _
            refine single _ _ _ h.symm rfl (.sl r rows (fun q hq => ?_) (fun q hq => ?_)) ?_ rfl
            · obtain ⟨i, hi⟩ := List.mem_iff_getElem?.1 hq
              exact (hrq i q hi).1.1
            · obtain ⟨i, hi⟩ := List.mem_iff_getElem?.1 hq
              exact (hrq i q hi).1.2
            · by_cases h0 : len = 0
              · have : rows = [] := List.length_eq_zero_iff.1 (by omega)
                subst this
                exact .sl [] _ len cap r.length (fun _ _ => undef) (by omega) hlenB hlc (fun i row h => by simp at h) (fun h => absurd h0 h) (fun i row j x h => by simp at h)
              · have hspot : a.spot = none := by
                  obtain ⟨v, hv, _⟩ := hcell 0 0 (by omega) hc3
                  unfold World.cell? at hv
                  split at hv
                  · split at hv
                    · simp at hv
                    · rename_i hs
                      cases hsp : a.spot with
                      | none => rfl
                      | some z =>
                        exfalso; apply hs
                        unfold Addr.add
                        split <;> split <;> simp_all
                  · simp at hv
                have hadd : ∀ i j : Nat, (a.add (i * P.cellsOf e)).add j = ⟨a.block, a.off + i * r.length + j, none⟩ := by
                  intro i j
                  obtain ⟨ab, ao, sp⟩ := a
                  simp only at hspot
                  subst hspot
                  rw [addr_add, addr_add, hc2]
                have hbl : a.block < w.heap.size := by
                  obtain ⟨v, hv, _⟩ := hcell 0 0 (by omega) hc3
                  rw [hadd] at hv
                  unfold World.cell? at hv
                  split at hv
                  · rename_i hh; exact (Array.getElem?_eq_some_iff.1 hh).1
                  · simp at hv
                refine .sl rows (some a) len cap r.length (fun i j => (w.cell? ⟨a.block, a.off + i * r.length + j, none⟩).getD undef) hrl hlenB hlc (fun i row hi => (hrq i row hi).1.1) (fun _ => ⟨a.block, a.off, by
                  obtain ⟨ab, ao, sp⟩ := a
                  simp only at hspot
                  subst hspot; rfl, hbl, fun i j hi hj => ?_⟩) (fun i row j x hi hx => ?_)
                · obtain ⟨v, hv, _⟩ := hcell i j hi hj
                  rw [hadd] at hv
                  rw [hv]; rfl
                · have hil : i < len := by have := (List.getElem?_eq_some_iff.1 hi).1; omega
                  obtain ⟨g1, g2⟩ := hrq i row hi
                  have hj : j < r.length := by have := (List.getElem?_eq_some_iff.1 hx).1; rw [g1.1] at this; exact this
                  obtain ⟨v, hv, hv2⟩ := hcell i j hil hj
                  obtain ⟨y, csi, h1, h2, h3⟩ := hel2 i hil
                  rw [hadd] at hv
                  rw [hv]
                  exact ((g2 csi h2).2 j x v hx (hv2 csi h2)).1
        · simp at h
      · simp at h
    · rename_i fs hu
      split at h
      · rename_i rs hrs
        split at h
        · rename_i hc
          obtain ⟨hpl, hcells⟩ := hc
          injection h with h
          subst h
          obtain ⟨xs, n', hfu, rfl, hcl, hxl, hget⟩ := DataW.trod_struct hu ht
          simp only [DataW.weights, hu] at hw
          have key : ∀ (fs' : List Field) (rs' : List (List Sh)) (xs' : List (DataW H × List MemPlace)) (o : Nat), places P fs' rs' o = true → (fs'.mapM fun f => flat P n f.type) = some rs' → xs'.length = fs'.length →
              (∀ (i : Nat) (f : Field), fs'[i]? = some f → DataW.trod enc P w base spare held n' f.type ((cs.drop f.offset).take (P.cellsOf f.type)) = xs'[i]?) →
              (∀ m ∈ DataW.weightsEach P (fs'.map (·.type)) (xs'.map (·.1)), m ≤ reachBytes) →
              ∃ ds : List D, Row rs'.flatten ds ∧ ∀ (j : Nat) (d : D) (v : Value), ds[j]? = some d → cs[o + j]? = some v → VRel (pAll w) [] w (.d d) v ∧ one v = true := by
            intro fs'
            induction fs' with
            | nil =>
              intro rs' xs' o hp hm hx hg hw
              simp at hm
              subst hm
              exact ⟨[], ⟨rfl, fun j s d h => by simp at h⟩, fun j d v h => by simp at h⟩
            | cons f fs' ihf =>
              intro rs' xs' o hp hm hx hg hw
              cases xs' with
              | nil => simp at hx
              | cons x0 xs' =>
                cases rs' with
                | nil => simp [places] at hp
                | cons r0 rs' =>
                  simp only [places, Bool.and_eq_true] at hp
                  obtain ⟨p1, p2, p3⟩ := hp
                  have p1 := Nat.eq_of_beq_eq_true p1
                  have p2 := Nat.eq_of_beq_eq_true p2
                  simp only [List.mapM_cons, Option.bind_eq_bind, Option.bind_eq_some_iff, Option.pure_def, Option.some.injEq] at hm
                  obtain ⟨r1, m1, rs1, m2, m3⟩ := hm
                  injection m3 with m3 m4
                  subst m3 m4
                  have h0 := hg 0 f rfl
                  simp only [List.getElem?_cons_zero] at h0
                  simp only [List.map_cons, DataW.weightsEach, List.mem_append] at hw
                  obtain ⟨d0, a1, a2, a3⟩ := ih f.type r1 n' _ x0 m1 h0 (fun m hm => hw m (.inl hm))
                  obtain ⟨d1, b1, b2⟩ := ihf rs1 xs' (o + r1.length) p3 m2 (by simpa using hx) (fun i f' hf' => by have := hg (i + 1) f' (by simpa using hf'); simpa using this) (fun m hm => hw m (.inr hm))
                  have hd0 : d0.length = r1.length := a1.1
                  refine ⟨d0 ++ d1, ⟨by simp [a1.1, b1.1], fun j s d hs hd => ?_⟩, fun j d v hd hv => ?_⟩
                  · simp only [List.flatten_cons] at hs
                    by_cases hj : j < r1.length
                    · rw [List.getElem?_append_left hj] at hs
                      rw [List.getElem?_append_left (by omega)] at hd
                      exact a1.2 j s d hs hd
                    · rw [List.getElem?_append_right (by omega)] at hs
                      rw [List.getElem?_append_right (by omega), hd0] at hd
                      exact b1.2 _ s d hs hd
                  · by_cases hj : j < r1.length
                    · rw [List.getElem?_append_left (by omega)] at hd
                      refine a3 j d v hd ?_
                      rw [List.getElem?_take, if_pos (by omega), List.getElem?_drop, p1]
                      exact hv
                    · rw [List.getElem?_append_right (by omega), hd0] at hd
                      refine b2 _ d v hd ?_
                      rw [show o + r1.length + (j - r1.length) = o + j by omega]
                      exact hv
          obtain ⟨ds, k1, k2⟩ := key fs.toList rs xs 0 hpl hrs (by simpa using hxl) (fun i f hf => hget i f (by simpa using hf)) hw
          refine ⟨ds, k1, by rw [hcl, hcells, k1.1], fun j d v hd hv => k2 j d v hd (by rw [Nat.zero_add]; exact hv)⟩
        · simp at h
      · simp at h
    · simp at h
end
end Go.Eng
set_option linter.unusedVariables false
set_option linter.unusedSimpArgs false
namespace Go.Eng
open Go Go.RowKit Go.ChangeShapes Go.WideShapes
def hd1 : List D → AV
  | d :: _ => .d d
  | [] => .any
def topAV (P : Program) (t : TypeId) (ds : List D) : AV :=
  match P.underlying t with
  | some (.struct _) => .agg (ds.map .d)
  | _ => hd1 ds
def ArgOk (P : Program) (t : TypeId) (x : AV) : Prop := ∃ shs ds, flat P 8 t = some shs ∧ Row shs ds ∧ x = topAV P t ds
def ArgsOk (P : Program) : List TypeId → List AV → Prop
  | [], [] => True
  | t :: ts, x :: xs => ArgOk P t x ∧ ArgsOk P ts xs
  | _, _ => False
section
variable {H : Type} {enc : TypeId × Value → H} {P : Program} {w : World} {base b0 : Nat} {spare : Nat → Bool} {held : Bool}
theorem open_arg {t : TypeId} {v : Value} {d : DataW H} {ps : List MemPlace} (hf : (flat P 8 t).isSome = true) (hval : Value.okWide P w .any b0 t v) (h : DataW.Trod enc P w base spare held t v d ps)
    (hw : ∀ m ∈ d.weights P t, m ≤ reachBytes) : ∃ x, ArgOk P t x ∧ VRel (pAll w) [] w x v := by
  obtain ⟨shs, hshs⟩ := Option.isSome_iff_exists.1 hf
  obtain ⟨fuel, h⟩ := h
  obtain ⟨ds, h1, h2, h3⟩ := read_flat 8 t shs fuel _ _ hshs h hw
  refine ⟨topAV P t ds, ⟨shs, ds, hshs, h1, rfl⟩, ?_⟩
  have hf2 := hshs
  unfold flat at hf2
  unfold topAV
  have lone : ∀ s : Sh, shs = [s] → (∀ cs, v ≠ .agg cs) → VRel (pAll w) [] w (hd1 ds) v := by
    rintro s rfl hna
    have hcells : v.cells.toList = [v] := by cases v <;> first | rfl | exact absurd rfl (hna _)
    rw [hcells] at h2 h3
    match ds, h1.1, h3 with
    | [d0], _, h3 => exact (h3 0 d0 v rfl rfl).1
  unfold Value.okWide at hval
  split at hf2
  · rename_i k hu
    injection hf2 with hf2
    rw [hu] at hval ⊢
    exact lone _ hf2.symm (fun cs e => by subst e; simp [Cell.okWide, Cell.ok, hu] at hval)
  · rename_i hu
    injection hf2 with hf2
    rw [hu] at hval ⊢
    exact lone _ hf2.symm (fun cs e => by subst e; simp [Cell.okWide, Cell.ok, hu] at hval)
  · rename_i hu
    injection hf2 with hf2
    rw [hu] at hval ⊢
    exact lone _ hf2.symm (fun cs e => by subst e; simp [Cell.okWide, Cell.ok, hu] at hval)
  · rename_i e hu
    rw [hu] at hval ⊢
    split at hf2
    · split at hf2
      · injection hf2 with hf2
        exact lone _ hf2.symm (fun cs e => by subst e; simp [Cell.okWide, Cell.ok, hu] at hval)
      · simp at hf2
    · simp at hf2
  · rename_i fs hu
    rw [hu] at hval ⊢
    simp only at hval ⊢
    obtain ⟨cs, rfl, hsz, _⟩ := hval
    refine .agg _ cs (by simpa [Value.cells] using h2) (fun i v hv => ?_) (fun i x v hx hv => ?_)
    · have hi := (Array.getElem?_eq_some_iff.1 hv).1
      have hlt : i < ds.length := by rw [← h2]; simpa [Value.cells] using hi
      exact (h3 i ds[i] v (List.getElem?_eq_getElem hlt) (by simpa [Value.cells] using hv)).2
    · rw [List.getElem?_map] at hx
      cases hd : ds[i]? with
      | none => rw [hd] at hx; simp at hx
      | some d0 =>
        rw [hd] at hx
        simp at hx
        subst hx
        exact (h3 i d0 v hd (by simpa [Value.cells] using hv)).1
  · simp at hf2
theorem open_args : ∀ (ts : List TypeId) (vs : List Value) (ds : List (DataW H)) (ps : List MemPlace), (ts.all fun t => (flat P 8 t).isSome) = true → (∀ (j : Nat) (t : TypeId) (v : Value), ts[j]? = some t → vs[j]? = some v → Value.okWide P w .any b0 t v) →
    DataW.TrodAll enc P w base spare held ts vs ds ps → (∀ m ∈ DataW.weightsEach P ts ds, m ≤ reachBytes) →
    ∃ xs : List AV, ArgsOk P ts xs ∧ vs.length = xs.length ∧ ∀ (i : Nat) (x : AV) (v : Value), xs[i]? = some x → vs[i]? = some v → VRel (pAll w) [] w x v := by
  intro ts
  induction ts with
  | nil =>
    intro vs ds ps _ _ h _
    cases vs with
    | nil => exact ⟨[], trivial, rfl, fun i x v hx => by simp at hx⟩
    | cons v vs => cases ds <;> exact h.elim
  | cons t ts ih =>
    intro vs ds ps hf hval h hw
    cases vs with
    | nil => cases ds <;> exact h.elim
    | cons v vs =>
      cases ds with
      | nil => exact h.elim
      | cons d ds =>
        obtain ⟨p, q, h1, h2, _⟩ := h
        simp only [List.all_cons, Bool.and_eq_true] at hf
        simp only [DataW.weightsEach, List.mem_append] at hw
        obtain ⟨x, x1, x2⟩ := open_arg hf.1 (hval 0 t v rfl rfl) h1 (fun m hm => hw m (.inl hm))
        obtain ⟨xs, y1, y2, y3⟩ := ih vs ds q hf.2 (fun j t v h1 h2 => hval (j + 1) t v (by simpa using h1) (by simpa using h2)) h2 (fun m hm => hw m (.inr hm))
        refine ⟨x :: xs, ⟨x1, y1⟩, by simp [y2], fun i z u hz hu => ?_⟩
        cases i with
        | zero => simp at hz hu; subst hz hu; exact x2
        | succ i => exact y3 i z u (by simpa using hz) (by simpa using hu)
theorem trodAll_stays (hl : laidOutB P = true) {W W' : World} (hb : Below W.heap.size W W') : ∀ (ts : List TypeId) (vs : List Value) (ds : List (DataW H)) (ps : List MemPlace), (ts.all fun t => P.readableRec t && decide (t < P.types.size)) = true →
    DataW.TrodAll enc P W 0 (fun _ => true) true ts vs ds ps → (∀ x ∈ ps, x.block < W.heap.size) → DataW.TrodAll enc P W' 0 (fun b => decide (b < W.heap.size)) true ts vs ds ps := by
  intro ts
  induction ts with
  | nil =>
    intro vs ds ps _ h _
    cases vs with
    | nil => cases ds with
      | nil => exact h
      | cons d ds => exact h.elim
    | cons v vs => cases ds <;> exact h.elim
  | cons t ts ih =>
    intro vs ds ps ht h hlt
    cases vs with
    | nil => cases ds <;> exact h.elim
    | cons v vs =>
      cases ds with
      | nil => exact h.elim
      | cons d ds =>
        obtain ⟨p, q, h1, h2, rfl⟩ := h
        simp only [List.all_cons, Bool.and_eq_true, decide_eq_true_eq] at ht
        exact ⟨p, q, Below.trod hl ht.1.1 ht.1.2 h1 hb (fun x hx => hlt x (by simp [hx])), ih vs ds q ht.2 h2 (fun x hx => hlt x (by simp [hx])), rfl⟩
theorem weightsEach_left (us : List TypeId) (gs : List (DataW H)) : ∀ (ts : List TypeId) (ds : List (DataW H)), ts.length = ds.length → ∀ m ∈ DataW.weightsEach P ts ds, m ∈ DataW.weightsEach P (ts ++ us) (ds ++ gs) := by
  intro ts
  induction ts with
  | nil => intro ds hl m hm; cases ds <;> simp [DataW.weightsEach] at hm
  | cons t ts ih =>
    intro ds hl m hm
    cases ds with
    | nil => simp at hl
    | cons d ds =>
      simp only [List.cons_append, DataW.weightsEach, List.mem_append] at hm ⊢
      rcases hm with hm | hm
      · exact .inl hm
      · exact .inr (ih ds (by simpa using hl) m hm)
theorem Fn_calls {f : FuncId} {xs : List AV} (h : Fn P f xs (.d (.bool true))) {vs : Array Value} {W : World} (hs : vs.size = xs.length) (hv : ∀ (i : Nat) (x : AV) (v : Value), xs[i]? = some x → vs[i]? = some v → VRel (pAll W) [] W x v) (hG : GlobW W) :
    Calls P f vs W fun e W' => e = .returned (.bool true) ∧ Below W.heap.size W W' := by
  unfold Fn at h
  rw [Tri_eq] at h
  have hH : HRel (pAll W) [] [] W := ⟨rfl, fun b hb => hb, fun i k hk => by simp at hk, fun i j r k l hk => by simp at hk, fun w' hw _ => GlobW_st hG hw⟩
  refine (h.2 (pAll W) [] W vs hH hs hv).mono ?_
  rintro e W' ⟨v, x, p', σ', H', rfl, he, _, _, hx, rfl, _⟩
  cases hx
  obtain ⟨s1, s2, s3, s4, s5⟩ := he.shape
  exact ⟨rfl, s3, s4, s5, s1, fun k hk => he.same k hk (fun h => h)⟩
theorem trodAll_len : ∀ (ts : List TypeId) (vs : List Value) (ds : List (DataW H)) (ps : List MemPlace), DataW.TrodAll enc P w base spare held ts vs ds ps → ts.length = ds.length ∧ vs.length = ds.length := by
  intro ts
  induction ts with
  | nil =>
    intro vs ds ps h
    cases vs with
    | nil => cases ds with
      | nil => exact ⟨rfl, rfl⟩
      | cons d ds => exact h.elim
    | cons v vs => cases ds <;> exact h.elim
  | cons t ts ih =>
    intro vs ds ps h
    cases vs with
    | nil => cases ds <;> exact h.elim
    | cons v vs =>
      cases ds with
      | nil => exact h.elim
      | cons d ds =>
        obtain ⟨p, q, _, h2, _⟩ := h
        obtain ⟨a, b⟩ := ih vs ds q h2
        exact ⟨by simp [a], by simp [b]⟩
theorem law_contract {fn : Func} {f : FuncId} {s : ChangeSpec} (hl : laidOutB P = true) (hrd : (fn.params.toList.all fun t => P.readableRec t && decide (t < P.types.size)) = true) (hfl : (fn.params.toList.all fun t => (flat P 8 t).isSome) = true)
    {tb : TypeId} (hres : fn.resultTypes = #[tb]) (hb : P.underlying tb = some .bool) (hvars : s.vars = [])
    (hs : ∀ ds : List (DataW H), ds.length = fn.params.toList.length → s.fn H ds = { results := [.lit (.bool true)], args := ds })
    (law : ∀ xs : List AV, ArgsOk P fn.params.toList xs → Fn P f xs (.d (.bool true))) {W : World} {base : Nat} {args : Array Value} {ds gs : List (DataW H)} {before : List MemPlace} {us : List TypeId}
    (hval : ∀ (j : Nat) t v, fn.params[j]? = some t → args[j]? = some v → Value.okWide P W .any base t v)
    (hG : GlobW W) (hW : DataW.Whole enc P fn.params.toList s.vars false W args.toList ds gs before)
    (hw : (DataW.weightsEach P (fn.params.toList ++ us) (ds ++ gs)).all (· ≤ reachBytes) = true) :
    Calls P f args W fun e W' => ∃ v, e = .returned v ∧ s.post enc P fn false true false false W args v W' := by
  have hW' := hW
  obtain ⟨p, q, hA, hV, rfl, hfz, _⟩ := hW
  rw [hvars] at hV
  obtain ⟨rfl, rfl⟩ : gs = [] ∧ q = [] := by
    cases gs with
    | nil => exact ⟨rfl, hV⟩
    | cons g r => exact absurd hV (by intro h; cases h)
  obtain ⟨l1, l2⟩ := trodAll_len _ _ _ _ hA
  simp only [List.append_nil] at hw hW' hfz
  have hww : ∀ m ∈ DataW.weightsEach P fn.params.toList ds, m ≤ reachBytes := fun m hm => by
    have h1 := weightsEach_left (P := P) us ([] : List (DataW H)) fn.params.toList ds l1 m hm
    rw [List.append_nil] at h1
    simpa using List.all_eq_true.1 hw m h1
  obtain ⟨xs, x1, x2, x3⟩ := open_args fn.params.toList args.toList ds p hfl (fun j t v h1 h2 => hval j t v (by simpa using h1) (by simpa using h2)) hA hww
  refine (Fn_calls (law xs x1) (vs := args) (W := W) (by simpa using x2) (fun i x v hx hv => x3 i x v hx (by simpa using hv)) hG).mono ?_
  rintro e W' ⟨rfl, hbw⟩
  have hlt : ∀ x ∈ p, x.block < W.heap.size := fun x hx => hW'.lt x hx
  have hsp := hs ds (by rw [l1])
  refine ⟨_, rfl, ds, [], p, [], p, [], hW', ?_, ?_, ?_, hbw.frame _, fun h => by cases h⟩
  · rw [List.append_nil, hsp, hres]
    exact trodAll_mk1 (shut_bool hb true)
  · rw [List.append_nil, hsp]
    exact trodAll_stays hl hbw _ _ _ _ hrd hA hlt
  · rw [List.append_nil, hsp, hvars]
    rfl
end
end Go.Eng
namespace Go.Eng
open Go
def ltA (a b : Attr) : Bool := decide (IntKind.i64.wrap (a.name - b.name) < 0)
def swapA (m : List Attr) (j : Nat) : List Attr := (m.set j (m.getD (j - 1) default)).set (j - 1) (m.getD j default)
def downA : Nat → List Attr → List Attr
  | 0, m => m
  | j + 1, m => if ltA (m.getD (j + 1) default) (m.getD j default) then downA j (swapA m (j + 1)) else m
def insTo : Nat → List Attr → List Attr
  | 0, m => m
  | k + 1, m => downA (k + 1) (insTo k m)
def insA (m : List Attr) : List Attr := insTo (m.length - 1) m
theorem swapA_len (m : List Attr) (j : Nat) : (swapA m j).length = m.length := by simp [swapA]
theorem downA_len (j : Nat) : ∀ m, (downA j m).length = m.length := by
  induction j with
  | zero => intro m; rfl
  | succ j ih => intro m; simp only [downA]; split <;> simp [ih, swapA_len]
theorem insTo_len (k : Nat) (m : List Attr) : (insTo k m).length = m.length := by
  induction k with
  | zero => rfl
  | succ k ih => simp [insTo, downA_len, ih]
end Go.Eng
namespace Go.Eng
open Go
def lay (l : List Attr) (a : Attr) : List Attr :=
  if 0 ≤ ix (fun b : Attr => b.name == a.name) l then l.set (ix (fun b : Attr => b.name == a.name) l).toNat a else insA (l ++ [a])
def setG (t : Tree) (n : Int) (a : Attr) : Tree × Int :=
  if mayB t = false then ([], 1)
  else if isN t n = false then (t, 2)
  else if (nd t n).kind ≠ 1 ∧ (nd t n).kind ≠ 3 then (t, 3)
  else if mayB (putAttrs t n (lay (nd t n).attrs a)) = false then (t, 7)
  else (putAttrs t n (lay (nd t n).attrs a), 0)
def Rise (l : List Attr) : Prop := l.Pairwise fun a b => a.name < b.name
theorem attrB_name {k : Int} {a : Attr} (h : attrB k a = true) : 0 ≤ a.name ∧ a.name ≤ 9 := by
  unfold attrB at h; simp at h; exact h.1.1
theorem attrsFrom_iff (k : Int) (hk : k = 1 ∨ k = 3) (l : List Attr) : ∀ last : Int, -1 ≤ last → (attrsFrom (decide (k = 3)) last l = true ↔ (∀ a ∈ l, attrB k a = true) ∧ Rise l ∧ ∀ a ∈ l, last < a.name) := by
  induction l with
  | nil => intro last _; simp [attrsFrom, Rise]
  | cons a r ih =>
    intro last hl
    simp only [attrsFrom, Bool.and_eq_true, decide_eq_true_eq, beq_iff_eq]
    constructor
    · rintro ⟨⟨⟨⟨h1, h2⟩, h3⟩, h4⟩, h5⟩
      obtain ⟨g1, g2, g3⟩ := (ih a.name (by omega)).1 h5
      refine ⟨?_, ?_, ?_⟩
      · intro b hb
        rcases List.mem_cons.1 hb with rfl | hb
        · unfold attrB
          rcases hk with rfl | rfl
          · simp at h4 ⊢; exact ⟨⟨by omega, h3⟩, h4⟩
          · simp at h4 ⊢; exact ⟨⟨by omega, h3⟩, h4⟩
        · exact g1 b hb
      · exact List.pairwise_cons.2 ⟨g3, g2⟩
      · intro b hb
        rcases List.mem_cons.1 hb with rfl | hb
        · exact h1
        · have := g3 b hb; omega
    · rintro ⟨h1, h2, h3⟩
      obtain ⟨g1, g2⟩ := List.pairwise_cons.1 h2
      have ha := h1 a (by simp)
      have hn := attrB_name ha
      refine ⟨⟨⟨⟨h3 a (by simp), by omega⟩, ?_⟩, ?_⟩, (ih a.name (by omega)).2 ⟨fun b hb => h1 b (by simp [hb]), g2, g1⟩⟩
      · unfold attrB at ha; simp at ha; exact ha.1.2
      · unfold attrB at ha
        rcases hk with rfl | rfl
        · simp at ha ⊢; exact ha.2
        · simp at ha ⊢; exact ha.2
theorem attrsB_iff (x : Node) (hk : x.kind = 1 ∨ x.kind = 3) : attrsB x = true ↔ (∀ a ∈ x.attrs, attrB x.kind a = true) ∧ Rise x.attrs := by
  unfold attrsB
  rw [Bool.and_eq_true, attrsFrom_iff x.kind hk _ (-1) (by omega)]
  constructor
  · rintro ⟨⟨h1, h2, _⟩, _⟩; exact ⟨h1, h2⟩
  · rintro ⟨h1, h2⟩
    refine ⟨⟨h1, h2, fun a ha => ?_⟩, ?_⟩
    · have := attrB_name (h1 a ha); omega
    · rcases hk with h | h <;> simp [h]
theorem Rise_ext : ∀ {l m : List Attr}, Rise l → Rise m → (∀ a, a ∈ l ↔ a ∈ m) → l = m := by
  intro l
  induction l with
  | nil =>
    intro m _ _ h
    cases m with
    | nil => rfl
    | cons b m => have := (h b).2 (by simp); simp at this
  | cons a l ih =>
    intro m hl hm h
    cases m with
    | nil => have := (h a).1 (by simp); simp at this
    | cons b m =>
      obtain ⟨l1, l2⟩ := List.pairwise_cons.1 hl
      obtain ⟨m1, m2⟩ := List.pairwise_cons.1 hm
      have e : a = b := by
        rcases List.mem_cons.1 ((h a).1 (by simp)) with e | ha
        · exact e
        · rcases List.mem_cons.1 ((h b).2 (by simp)) with e | hb
          · exact e.symm
          · have := m1 a ha; have := l1 b hb; omega
      subst e
      congr 1
      refine ih l2 m2 fun x => ?_
      have hx := h x
      simp only [List.mem_cons] at hx
      constructor
      · intro hxl
        rcases hx.1 (.inr hxl) with rfl | h1
        · have := l1 x hxl; omega
        · exact h1
      · intro hxm
        rcases hx.2 (.inr hxm) with rfl | h1
        · have := m1 x hxm; omega
        · exact h1
theorem withTo_mem (l : List Attr) (a : Attr) (b : Bool) (hl : ∀ x ∈ l, 0 ≤ x.name) (k : Nat) : ∀ x, x ∈ withTo l a b k ↔ (x ∈ l ∧ x.name ≠ a.name ∧ x.name < k) ∨ (b = true ∧ x = a ∧ 0 ≤ a.name ∧ a.name < k) := by
  induction k with
  | zero =>
    intro x
    simp only [withTo, List.not_mem_nil, false_iff]
    rintro (⟨h1, h2, h3⟩ | ⟨h1, h2, h3, h4⟩)
    · have := hl x h1; omega
    · omega
  | succ k ih =>
    intro x
    simp only [withTo, List.mem_append, ih, withAt]
    by_cases hk : (k : Int) = a.name
    · rw [if_pos hk]
      cases b
      · simp
        intro h1 h2
        constructor <;> intro h3 <;> omega
      · simp
        constructor
        · rintro ((⟨h1, h2, h3⟩ | ⟨h1, h2, h3⟩) | h)
          · exact .inl ⟨h1, h2, by omega⟩
          · omega
          · exact .inr ⟨h, by omega, by omega⟩
        · rintro (⟨h1, h2, h3⟩ | ⟨h1, h2, h3⟩)
          · exact .inl (.inl ⟨h1, h2, by omega⟩)
          · exact .inr h1
    · rw [if_neg hk]
      simp
      constructor
      · rintro ((⟨h1, h2, h3⟩ | ⟨h1, h2, h3, h4⟩) | ⟨h1, h2⟩)
        · exact .inl ⟨h1, h2, by omega⟩
        · exact .inr ⟨h1, h2, h3, by omega⟩
        · exact .inl ⟨h1, by omega, by omega⟩
      · rintro (⟨h1, h2, h3⟩ | ⟨h1, h2, h3, h4⟩)
        · by_cases e : x.name = k
          · exact .inr ⟨h1, e⟩
          · exact .inl (.inl ⟨h1, h2, by omega⟩)
        · exact .inl (.inr ⟨h1, h2, h3, by omega⟩)
theorem withTo_rise (l : List Attr) (a : Attr) (b : Bool) (hl : ∀ x ∈ l, 0 ≤ x.name) (hr : Rise l) (k : Nat) : Rise (withTo l a b k) := by
  induction k with
  | zero => simp [withTo, Rise]
  | succ k ih =>
    simp only [withTo]
    refine List.pairwise_append.2 ⟨ih, ?_, ?_⟩
    · unfold withAt
      split
      · split <;> simp
      · exact hr.sublist List.filter_sublist
    · intro x hx y hy
      have h1 := (withTo_mem l a b hl k x).1 hx
      have hxk : x.name < k := by rcases h1 with h | h; exact h.2.2; rw [h.2.1]; exact h.2.2.2
      have hyk : y.name = k := by
        unfold withAt at hy
        split at hy
        · rename_i e
          split at hy
          · simp at hy; rw [hy]; exact e.symm
          · simp at hy
        · simp at hy; exact hy.2
      omega
theorem withL_mem (l : List Attr) (a : Attr) (b : Bool) (hl : ∀ x ∈ l, 0 ≤ x.name ∧ x.name ≤ 9) : ∀ x, x ∈ withL l a b ↔ (x ∈ l ∧ x.name ≠ a.name) ∨ (b = true ∧ x = a ∧ 0 ≤ a.name ∧ a.name ≤ 9) := by
  intro x
  unfold withL
  rw [withTo_mem l a b (fun x hx => (hl x hx).1) 10 x]
  constructor
  · rintro (⟨h1, h2, h3⟩ | ⟨h1, h2, h3, h4⟩)
    · exact .inl ⟨h1, h2⟩
    · exact .inr ⟨h1, h2, h3, by omega⟩
  · rintro (⟨h1, h2⟩ | ⟨h1, h2, h3, h4⟩)
    · exact .inl ⟨h1, h2, by have := (hl x h1).2; omega⟩
    · exact .inr ⟨h1, h2, h3, by omega⟩
theorem withL_rise (l : List Attr) (a : Attr) (b : Bool) (hl : ∀ x ∈ l, 0 ≤ x.name ∧ x.name ≤ 9) (hr : Rise l) : Rise (withL l a b) :=
  withTo_rise l a b (fun x hx => (hl x hx).1) hr 10
theorem swapA_perm (m : List Attr) (j : Nat) (h : j < m.length) : (swapA m j).Perm m := by
  unfold swapA
  have h1 : j - 1 < m.length := by omega
  have e1 : m.getD (j - 1) default = m[j - 1] := by simp [List.getD, h1]
  have e2 : m.getD j default = m[j] := by simp [List.getD, h]
  rw [e1, e2]
  exact List.set_set_perm h h1
theorem downA_perm (j : Nat) : ∀ m : List Attr, j < m.length → (downA j m).Perm m := by
  induction j with
  | zero => intro m _; exact .refl _
  | succ j ih =>
    intro m hj
    simp only [downA]
    split
    · exact (ih _ (by rw [swapA_len]; omega)).trans (swapA_perm m (j + 1) hj)
    · exact .refl _
theorem insTo_perm (k : Nat) (m : List Attr) (h : k < m.length ∨ k = 0) : (insTo k m).Perm m := by
  induction k with
  | zero => exact .refl _
  | succ k ih =>
    simp only [insTo]
    exact (downA_perm _ _ (by rw [insTo_len]; omega)).trans (ih (by omega))
theorem insA_perm (m : List Attr) : (insA m).Perm m := by
  unfold insA
  refine insTo_perm _ _ ?_
  by_cases h : m.length = 0
  · right; omega
  · left; omega
theorem ltA_eq {a b : Attr} (ha : 0 ≤ a.name ∧ a.name ≤ 9) (hb : 0 ≤ b.name ∧ b.name ≤ 9) : ltA a b = decide (a.name < b.name) := by
  unfold ltA
  rw [wrap_i64 (by omega) (by omega)]
  rw [Bool.eq_iff_iff]; simp; omega
def Sorted (l : List Attr) : Prop := l.Pairwise fun a b => a.name ≤ b.name
theorem getD_mid (p : List Attr) (x : Attr) (s : List Attr) (k : Nat) (h : p.length = k) : (p ++ x :: s).getD k default = x := by
  subst h; simp [List.getD]
theorem downA_ins (j : Nat) : ∀ (p : List Attr) (x : Attr) (s : List Attr), p.length = j → Sorted p → (∀ y ∈ x :: p, 0 ≤ y.name ∧ y.name ≤ 9) →
    ∃ q, downA j (p ++ x :: s) = q ++ s ∧ q.Perm (p ++ [x]) ∧ Sorted q := by
  induction j with
  | zero =>
    intro p x s hp hs hn
    have : p = [] := List.length_eq_zero_iff.1 hp
    subst this
    exact ⟨[x], rfl, .refl _, by simp [Sorted]⟩
  | succ j ih =>
    intro p x s hp hs hn
    obtain ⟨p', y, rfl⟩ : ∃ p' y, p = p' ++ [y] := ⟨p.dropLast, p.getLast (by rintro rfl; simp at hp), (List.dropLast_concat_getLast _).symm⟩
    have hp' : p'.length = j := by simpa using hp
    have g1 : ((p' ++ [y]) ++ x :: s).getD (j + 1) default = x := getD_mid _ _ _ _ hp
    have g0 : ((p' ++ [y]) ++ x :: s).getD j default = y := by rw [List.append_assoc]; exact getD_mid p' y _ j hp'
    simp only [downA, g1, g0]
    have hy := hn y (by simp)
    have hx := hn x (by simp)
    rw [ltA_eq hx hy]
    obtain ⟨s1, s2, s3⟩ := List.pairwise_append.1 hs
    by_cases h : x.name < y.name
    · rw [if_pos (by simpa using h)]
      have e : swapA ((p' ++ [y]) ++ x :: s) (j + 1) = p' ++ x :: (y :: s) := by
        unfold swapA
        have g0' : ((p' ++ [y]) ++ x :: s).getD (j + 1 - 1) default = y := g0
        rw [g1, g0']
        simp only [Nat.add_sub_cancel, List.append_assoc, List.singleton_append]
        rw [List.set_append_right _ _ (by omega), List.set_append_right _ _ (by omega)]
        simp only [hp', Nat.sub_self, show j + 1 - j = 1 by omega]
        rfl
      rw [e]
      obtain ⟨q, h1, h2, h3⟩ := ih p' x (y :: s) hp' s1 (fun z hz => hn z (by
        rcases List.mem_cons.1 hz with rfl | hz
        · simp
        · simp [hz]))
      refine ⟨q ++ [y], by rw [h1]; simp, ?_, ?_⟩
      · refine (h2.append_right [y]).trans ?_
        simp only [List.append_assoc]
        refine List.Perm.append_left p' ?_
        exact List.Perm.swap y x []
      · refine List.pairwise_append.2 ⟨h3, by simp, fun a ha b hb => ?_⟩
        simp at hb
        subst hb
        rcases List.mem_append.1 (h2.mem_iff.1 ha) with ha | ha
        · exact s3 a ha b (by simp)
        · simp at ha; subst ha; omega
    · rw [if_neg (by simpa using h)]
      refine ⟨(p' ++ [y]) ++ [x], by simp, .refl _, ?_⟩
      refine List.pairwise_append.2 ⟨hs, by simp, fun a ha b hb => ?_⟩
      simp at hb
      subst hb
      rcases List.mem_append.1 ha with ha | ha
      · have := s3 a ha y (by simp); omega
      · simp at ha; subst ha; omega
theorem insTo_sorted (m : List Attr) (hn : ∀ y ∈ m, 0 ≤ y.name ∧ y.name ≤ 9) (k : Nat) (hk : k < m.length) :
    ∃ q, insTo k m = q ++ m.drop (k + 1) ∧ q.Perm (m.take (k + 1)) ∧ Sorted q := by
  induction k with
  | zero =>
    cases m with
    | nil => simp at hk
    | cons a r => exact ⟨[a], rfl, .refl _, by simp [Sorted]⟩
  | succ k ih =>
    obtain ⟨q, h1, h2, h3⟩ := ih (by omega)
    simp only [insTo]
    rw [h1, List.drop_eq_getElem_cons hk]
    have hql : q.length = k + 1 := by rw [h2.length_eq, List.length_take]; omega
    obtain ⟨q', g1, g2, g3⟩ := downA_ins (k + 1) q m[k + 1] (m.drop (k + 1 + 1)) hql h3 (fun y hy => by
      rcases List.mem_cons.1 hy with rfl | hy
      · exact hn _ (List.getElem_mem _)
      · exact hn y (List.mem_of_mem_take (h2.mem_iff.1 hy)))
    refine ⟨q', g1, g2.trans ?_, g3⟩
    rw [List.take_succ_eq_append_getElem hk]
    exact h2.append_right _
theorem insA_sorted (m : List Attr) (hn : ∀ y ∈ m, 0 ≤ y.name ∧ y.name ≤ 9) : Sorted (insA m) := by
  cases m with
  | nil => simp [insA, insTo, Sorted]
  | cons a r =>
    obtain ⟨q, h1, h2, h3⟩ := insTo_sorted (a :: r) hn ((a :: r).length - 1) (by simp)
    unfold insA
    rw [h1, List.drop_eq_nil_of_le (by simp)]
    simpa using h3
theorem Sorted_rise {l : List Attr} (h : Sorted l) (hd : (l.map Attr.name).Nodup) : Rise l := by
  induction l with
  | nil => simp [Rise]
  | cons a r ih =>
    obtain ⟨h1, h2⟩ := List.pairwise_cons.1 h
    simp only [List.map_cons, List.nodup_cons] at hd
    refine List.pairwise_cons.2 ⟨fun b hb => ?_, ih h2 hd.2⟩
    have := h1 b hb
    have : a.name ≠ b.name := fun e => hd.1 (by rw [e]; exact List.mem_map_of_mem hb)
    omega
theorem Rise_nodup {l : List Attr} (h : Rise l) : (l.map Attr.name).Nodup := by
  induction l with
  | nil => simp
  | cons a r ih =>
    obtain ⟨h1, h2⟩ := List.pairwise_cons.1 h
    simp only [List.map_cons, List.nodup_cons]
    refine ⟨?_, ih h2⟩
    intro hm
    obtain ⟨b, hb, e⟩ := List.mem_map.1 hm
    have := h1 b hb
    omega
theorem ix_lt {l : List Attr} {n : Int} (h : ix (fun b : Attr => b.name == n) l < 0) : ∀ x ∈ l, x.name ≠ n := by
  have := ix_any (fun b : Attr => b.name == n) l
  rw [decide_eq_false (by omega)] at this
  intro x hx e
  have h2 : l.any (fun b : Attr => b.name == n) = true := List.any_eq_true.2 ⟨x, hx, by simp [e]⟩
  rw [← this] at h2
  simp at h2
theorem ix_ge {l : List Attr} {n : Int} (h : 0 ≤ ix (fun b : Attr => b.name == n) l) : ∃ b, l[(ix (fun b : Attr => b.name == n) l).toNat]? = some b ∧ b.name = n := by
  induction l with
  | nil => simp [ix] at h
  | cons a r ih =>
    simp only [ix] at h ⊢
    by_cases e : (a.name == n) = true
    · rw [if_pos e]
      exact ⟨a, rfl, by simpa using e⟩
    · rw [if_neg e] at h ⊢
      by_cases g : ix (fun b : Attr => b.name == n) r < 0
      · simp only [if_pos g] at h; omega
      · simp only [if_neg g] at h ⊢
        obtain ⟨b, h1, h2⟩ := ih (by omega)
        refine ⟨b, ?_, h2⟩
        rw [show (ix (fun b : Attr => b.name == n) r + 1).toNat = (ix (fun b : Attr => b.name == n) r).toNat + 1 by omega]
        exact h1
theorem lay_law (x : Node) (a : Attr) (hk : x.kind = 1 ∨ x.kind = 3) (h : attrsB x = true) :
    attrsB { x with attrs := lay x.attrs a } = attrB x.kind a ∧ (attrB x.kind a = true → lay x.attrs a = withL x.attrs a true) := by
  obtain ⟨h1, h2⟩ := (attrsB_iff x hk).1 h
  have hnm : ∀ y ∈ x.attrs, 0 ≤ y.name ∧ y.name ≤ 9 := fun y hy => attrB_name (h1 y hy)
  have iff2 := attrsB_iff { x with attrs := lay x.attrs a } hk
  simp only at iff2
  by_cases hi : 0 ≤ ix (fun b : Attr => b.name == a.name) x.attrs
  · have el : lay x.attrs a = x.attrs.set (ix (fun b : Attr => b.name == a.name) x.attrs).toNat a := by unfold lay; rw [if_pos hi]
    obtain ⟨b, hb, hbn⟩ := ix_ge hi
    generalize (ix (fun b : Attr => b.name == a.name) x.attrs).toNat = i at *
    have hil : i < x.attrs.length := (List.getElem?_eq_some_iff.1 hb).1
    have hmap : (lay x.attrs a).map Attr.name = x.attrs.map Attr.name := by
      rw [el, List.map_set]
      apply List.ext_getElem?
      intro j
      rw [List.getElem?_set]
      split
      · subst_vars
        rw [if_pos (by simpa using hil), List.getElem?_map, hb]
        simp [hbn]
      · rfl
    have hrise : Rise (lay x.attrs a) := by
      have : ((lay x.attrs a).map Attr.name).Pairwise (· < ·) := by
        rw [hmap]; exact List.pairwise_map.2 h2
      exact List.pairwise_map.1 this
    have hmem : ∀ y, y ∈ lay x.attrs a ↔ (y ∈ x.attrs ∧ y.name ≠ a.name) ∨ y = a := by
      intro y
      rw [el, List.mem_iff_getElem?]
      constructor
      · rintro ⟨j, hj⟩
        rw [List.getElem?_set] at hj
        split at hj
        · injection hj with hj; exact .inr hj.symm
        · rename_i hne
          left
          refine ⟨List.mem_of_getElem? hj, fun e => hne ?_⟩
          obtain ⟨hjl, hj'⟩ := List.getElem?_eq_some_iff.1 hj
          obtain ⟨_, hb'⟩ := List.getElem?_eq_some_iff.1 hb
          rcases Nat.lt_trichotomy i j with g | g | g
          · have := List.pairwise_iff_getElem.1 h2 i j hil hjl g
            rw [hj', hb'] at this; omega
          · exact g
          · have := List.pairwise_iff_getElem.1 h2 j i hjl hil g
            rw [hj', hb'] at this; omega
      · rintro (⟨hy, hne⟩ | rfl)
        · obtain ⟨j, hj⟩ := List.mem_iff_getElem?.1 hy
          refine ⟨j, ?_⟩
          rw [List.getElem?_set_ne, hj]
          rintro rfl
          rw [hb] at hj; injection hj with hj; subst hj; exact hne hbn
        · exact ⟨i, List.getElem?_set_self hil⟩
    refine ⟨?_, fun ha => Rise_ext hrise (withL_rise _ _ _ hnm h2) fun y => ?_⟩
    · rw [Bool.eq_iff_iff, iff2]
      constructor
      · rintro ⟨g, _⟩; exact g a ((hmem a).2 (.inr rfl))
      · intro g
        refine ⟨fun y hy => ?_, hrise⟩
        rcases (hmem y).1 hy with ⟨hy, _⟩ | rfl
        · exact h1 y hy
        · exact g
    · rw [hmem, withL_mem _ _ _ hnm]
      have := attrB_name ha
      simp [this.1, this.2]
  · have el : lay x.attrs a = insA (x.attrs ++ [a]) := by unfold lay; rw [if_neg hi]
    have hno := ix_lt (by omega : ix (fun b : Attr => b.name == a.name) x.attrs < 0)
    have hmem : ∀ y, y ∈ lay x.attrs a ↔ y ∈ x.attrs ∨ y = a := by
      intro y; rw [el, (insA_perm _).mem_iff]; simp
    have hrise : (0 ≤ a.name ∧ a.name ≤ 9) → Rise (lay x.attrs a) := by
      intro han
      rw [el]
      refine Sorted_rise (insA_sorted _ fun y hy => ?_) ?_
      · rcases List.mem_append.1 hy with hy | hy
        · exact hnm y hy
        · simp at hy; subst hy; exact han
      · have hp := (insA_perm (x.attrs ++ [a])).map Attr.name
        refine hp.nodup_iff.2 ?_
        rw [List.map_append, List.nodup_append]
        refine ⟨Rise_nodup h2, by simp, ?_⟩
        intro n hn m hm e
        simp at hm
        obtain ⟨y, hy, rfl⟩ := List.mem_map.1 hn
        exact hno y hy (e.trans hm)
    refine ⟨?_, fun ha => Rise_ext (hrise (attrB_name ha)) (withL_rise _ _ _ hnm h2) fun y => ?_⟩
    · rw [Bool.eq_iff_iff, iff2]
      constructor
      · rintro ⟨g, _⟩; exact g a ((hmem a).2 (.inr rfl))
      · intro g
        refine ⟨fun y hy => ?_, hrise (attrB_name g)⟩
        rcases (hmem y).1 hy with hy | rfl
        · exact h1 y hy
        · exact g
    · rw [hmem, withL_mem _ _ _ hnm]
      have := attrB_name ha
      simp
      constructor
      · rintro (g | g)
        · exact .inl ⟨g, hno y g⟩
        · exact .inr ⟨g, by omega, by omega⟩
      · rintro (g | g)
        · exact .inl g.1
        · exact .inr g.1
theorem put_len (t : Tree) (n : Int) (l : List Attr) : (putAttrs t n l).length = t.length := by unfold putAttrs; simp
theorem put_isN (t : Tree) (n m : Int) (l : List Attr) : isN (putAttrs t n l) m = isN t m := by unfold isN; rw [put_len]
theorem put_nd (t : Tree) (n m : Int) (l : List Attr) (h : isN t n = true) (hm : 0 ≤ m) : nd (putAttrs t n l) m = if m = n then { nd t n with attrs := l } else nd t m := by
  obtain ⟨h1, h2⟩ := nd_get h
  have h0 := nd_pos h
  unfold putAttrs
  show List.getD _ _ _ = _
  rw [List.getD_eq_getElem?_getD, List.getElem?_set]
  by_cases e : m = n
  · subst e; rw [if_pos rfl, if_pos rfl]; simp [h1]
  · rw [if_neg e, if_neg (by omega)]; rfl
structure SameBut (x y : Node) : Prop where
  kind : x.kind = y.kind
  tag : x.tag = y.tag
  parent : x.parent = y.parent
  kids : x.kids = y.kids
  host : x.host = y.host
  root : x.root = y.root
theorem put_same (t : Tree) (n : Int) (l : List Attr) (h : isN t n = true) (m : Int) : SameBut (nd (putAttrs t n l) m) (nd t m) := by
  by_cases hm : 0 ≤ m
  · rw [put_nd t n m l h hm]
    split
    · subst_vars; exact ⟨rfl, rfl, rfl, rfl, rfl, rfl⟩
    · exact ⟨rfl, rfl, rfl, rfl, rfl, rfl⟩
  · have e : nd (putAttrs t n l) m = nd (putAttrs t n l) 0 := by unfold nd; rw [show m.toNat = (0 : Int).toNat by omega]
    have e2 : nd t m = nd t 0 := by unfold nd; rw [show m.toNat = (0 : Int).toNat by omega]
    rw [e, e2, put_nd t n 0 l h (by omega)]
    split
    · subst_vars; exact ⟨rfl, rfl, rfl, rfl, rfl, rfl⟩
    · exact ⟨rfl, rfl, rfl, rfl, rfl, rfl⟩
theorem put_node (t : Tree) (n : Int) (l : List Attr) (h : isN t n = true) (m : Int) (hm : 0 ≤ m) (hB : nodeB t m = true) :
    nodeB (putAttrs t n l) m = if m = n then attrsB { nd t n with attrs := l } else true := by
  have hs := put_same t n l h
  have e1 : kindB (nd (putAttrs t n l) m) m = kindB (nd t m) m := by unfold kindB; rw [(hs m).kind, (hs m).tag]
  have e2 : parB (putAttrs t n l) (nd (putAttrs t n l) m) m = parB t (nd t m) m := by
    unfold parB; rw [(hs m).parent, put_isN, (hs _).kids]
  have e3 : shadowB (putAttrs t n l) m = shadowB t m := by
    unfold shadowB
    simp only [(hs m).kind, (hs m).root, (hs m).parent, (hs m).host, put_isN, (hs (nd t m).host).kind, (hs (nd t m).host).root, (hs (nd t m).root).kind, (hs (nd t m).root).host]
  have e4 : ∀ k, belowB (putAttrs t n l) m k = belowB t m k := by
    intro k; unfold belowB; rw [put_isN, (hs m).kids, (hs k).parent, (hs k).kind]
  have ek : (nd (putAttrs t n l) m).kids.all (belowB (putAttrs t n l) m) = (nd t m).kids.all (belowB t m) := by
    rw [(hs m).kids]; congr 1; funext k; exact e4 k
  unfold nodeB at hB ⊢
  rw [e1, e2, e3, ek, (hs m).kind, (hs m).kids]
  rw [put_nd t n m l h hm]
  simp only [Bool.and_eq_true] at hB
  obtain ⟨⟨⟨⟨⟨h1, h2⟩, h3⟩, h4⟩, h5⟩, h6⟩ := hB
  rw [h1, h2, h3, h5, h6]
  by_cases e : m = n
  · subst e; simp
  · simp [e, h4]
theorem put_may (t : Tree) (n : Int) (l : List Attr) (hB : mayB t = true) (h : isN t n = true) : mayB (putAttrs t n l) = attrsB { nd t n with attrs := l } := by
  have hs := put_same t n l h
  have h0 := nd_pos h
  obtain ⟨hl, _⟩ := nd_get h
  unfold mayB at hB ⊢
  rw [put_len]
  simp only [Bool.and_eq_true, List.all_eq_true, List.mem_range] at hB
  obtain ⟨⟨g1, g2⟩, g3⟩ := hB
  have ends : ∀ (f : Nat) (m : Int), endsF (putAttrs t n l) f m = endsF t f m := by
    intro f
    induction f with
    | zero => intro m; rfl
    | succ f ih => intro m; simp only [endsF]; rw [ih]; unfold upN; rw [(hs m).kind, (hs m).host, (hs m).parent]
  rw [g1]
  rw [Bool.eq_iff_iff]
  simp only [Bool.and_eq_true, Bool.true_and, List.all_eq_true, List.mem_range]
  constructor
  · rintro ⟨k1, _⟩
    have := k1 n.toNat hl
    rw [show ((n.toNat : Nat) : Int) = n by omega, put_node t n l h n h0 (by have := g2 n.toNat hl; rwa [show ((n.toNat : Nat) : Int) = n by omega] at this)] at this
    simpa using this
  · intro k
    refine ⟨fun m hm => ?_, fun m hm => ?_⟩
    · rw [put_node t n l h m (by omega) (g2 m hm)]
      split
      · exact k
      · rfl
    · have := g3 m hm
      unfold endsB at this ⊢
      rw [put_len, ends]
      exact this
theorem may_attrs {t : Tree} {n : Int} (hB : mayB t = true) (h : isN t n = true) : attrsB (nd t n) = true := by
  have h0 := nd_pos h
  obtain ⟨hl, _⟩ := nd_get h
  unfold mayB at hB
  simp only [Bool.and_eq_true, List.all_eq_true, List.mem_range] at hB
  have := hB.1.2 n.toNat hl
  rw [show ((n.toNat : Nat) : Int) = n by omega] at this
  unfold nodeB at this
  simp only [Bool.and_eq_true] at this
  exact this.1.1.2
theorem setG_R (t : Tree) (n : Int) (a : Attr) : setG t n a = setR t n a := by
  unfold setG setR
  by_cases h1 : mayB t = false
  · rw [if_pos h1, if_pos h1]
  · by_cases h2 : isN t n = false
    · rw [if_neg h1, if_neg h1, if_pos h2, if_pos h2]
    · by_cases h3 : (nd t n).kind ≠ 1 ∧ (nd t n).kind ≠ 3
      · rw [if_neg h1, if_neg h1, if_neg h2, if_neg h2, if_pos h3, if_pos h3]
      · rw [if_neg h1, if_neg h1, if_neg h2, if_neg h2, if_neg h3, if_neg h3]
        simp only [Bool.not_eq_false] at h1 h2
        have hk : (nd t n).kind = 1 ∨ (nd t n).kind = 3 := by omega
        obtain ⟨g1, g2⟩ := lay_law (nd t n) a hk (may_attrs h1 h2)
        rw [put_may t n _ h1 h2, g1]
        by_cases h4 : attrB (nd t n).kind a = false
        · rw [if_pos h4, if_pos h4]
        · rw [if_neg h4, if_neg h4, g2 (by simpa using h4)]
theorem may_len {t : Tree} {n : Int} (hB : mayB t = true) (h : isN t n = true) : (nd t n).attrs.length ≤ 10 := by
  have ha := may_attrs hB h
  by_cases hk : (nd t n).kind = 1 ∨ (nd t n).kind = 3
  · obtain ⟨h1, h2⟩ := (attrsB_iff _ hk).1 ha
    have key : ∀ (l : List Attr), Rise l → ∀ (lo : Nat), (∀ a ∈ l, (lo : Int) ≤ a.name ∧ a.name ≤ 9) → l.length + lo ≤ 10 ∨ l = [] := by
      intro l
      induction l with
      | nil => intro _ lo _; exact .inr rfl
      | cons a r ih =>
        intro hr lo hl
        obtain ⟨r1, r2⟩ := List.pairwise_cons.1 hr
        have h0 := hl a (by simp)
        left
        rcases ih r2 (a.name.toNat + 1) (fun b hb => by have := r1 b hb; have := hl b (by simp [hb]); omega) with g | g
        · simp only [List.length_cons]; omega
        · subst g; simp only [List.length_cons, List.length_nil]; omega
    rcases key _ h2 0 (fun a ha => attrB_name (h1 a ha)) with g | g
    · omega
    · rw [g]; simp
  · unfold attrsB at ha
    simp at ha
    rcases ha.2 with (g | g) | g
    · rw [g]; simp
    · exact absurd (.inl g) hk
    · exact absurd (.inr g) hk
end Go.Eng
set_option linter.unusedVariables false
set_option linter.unusedSimpArgs false
namespace Go.Eng
open Go
theorem ex_map {α : Type} (f : α → List D) : ∀ rows : List (List D), (∀ r ∈ rows, ∃ a, r = f a) → ∃ l : List α, rows = l.map f := by
  intro rows
  induction rows with
  | nil => intro _; exact ⟨[], rfl⟩
  | cons r t ih =>
    intro h
    obtain ⟨a, rfl⟩ := h r (by simp)
    obtain ⟨l, rfl⟩ := ih fun r hr => h r (by simp [hr])
    exact ⟨a :: l, rfl⟩
abbrev i64 : Sh := .int .i64
theorem has_int {d : D} (h : HasSh i64 d) : ∃ n : Int, d = .i n := by cases h with | int _ n h => exact ⟨n, rfl⟩
theorem has_int2 {d : D} (h : HasSh i64 d) : ∃ n : Int, d = .i n ∧ -9223372036854775808 ≤ n ∧ n ≤ 9223372036854775807 := by
  cases h with
  | int _ n h =>
    refine ⟨n, rfl, ?_⟩
    simpa [Lit.wf, IntKind.min, IntKind.max, IntKind.signed, IntKind.bits] using h
theorem has_str {d : D} (h : HasSh .str d) : ∃ l : List UInt8, d = str l := by
  cases h with
  | str s => exact ⟨s.data.toList, by show D.str s = .str _; rw [str_of]⟩
def intsSh : Sh := .sl [i64]
theorem has_ints {d : D} (h : HasSh intsSh d) : ∃ l : List Int, d = ints l := by
  cases h with
  | sl _ rows hl h =>
    obtain ⟨l, rfl⟩ := ex_map intCs rows fun r hr => by
      have h1 := hl r hr
      match r, h1 with
      | [x], _ =>
        obtain ⟨n, rfl⟩ := has_int (h [x] hr 0 i64 x rfl rfl)
        exact ⟨n, rfl⟩
    exact ⟨l, rfl⟩
def attrSh : List Sh := [i64, i64]
theorem row_attr {r : List D} (h : Row attrSh r) : ∃ a : Attr, r = a.cs := by
  obtain ⟨h1, h2⟩ := h
  match r, h1, h2 with
  | [x, y], _, h2 =>
    obtain ⟨n, rfl⟩ := has_int (h2 0 i64 x rfl rfl)
    obtain ⟨v, rfl⟩ := has_int (h2 1 i64 y rfl rfl)
    exact ⟨⟨n, v⟩, rfl⟩
def attrsSh : Sh := .sl attrSh
theorem has_attrs {d : D} (h : HasSh attrsSh d) : ∃ l : List Attr, d = attrsD l := by
  cases h with
  | sl _ rows hl h =>
    obtain ⟨l, rfl⟩ := ex_map Attr.cs rows fun r hr => row_attr ⟨hl r hr, h r hr⟩
    exact ⟨l, rfl⟩
def nodeSh : List Sh := [i64, i64, i64, intsSh, i64, i64, attrsSh]
theorem row_node {r : List D} (h : Row nodeSh r) : ∃ x : Node, r = x.cs := by
  obtain ⟨h1, h2⟩ := h
  match r, h1, h2 with
  | [x0, x1, x2, x3, x4, x5, x6], _, h2 =>
    obtain ⟨n0, rfl⟩ := has_int (h2 0 i64 x0 rfl rfl)
    obtain ⟨n1, rfl⟩ := has_int (h2 1 i64 x1 rfl rfl)
    obtain ⟨n2, rfl⟩ := has_int (h2 2 i64 x2 rfl rfl)
    obtain ⟨n3, rfl⟩ := has_ints (h2 3 intsSh x3 rfl rfl)
    obtain ⟨n4, rfl⟩ := has_int (h2 4 i64 x4 rfl rfl)
    obtain ⟨n5, rfl⟩ := has_int (h2 5 i64 x5 rfl rfl)
    obtain ⟨n6, rfl⟩ := has_attrs (h2 6 attrsSh x6 rfl rfl)
    exact ⟨⟨n0, n1, n2, n3, n4, n5, n6⟩, rfl⟩
def treeSh : Sh := .sl nodeSh
theorem has_tree {d : D} (h : HasSh treeSh d) : ∃ t : Tree, d = treeD t := by
  cases h with
  | sl _ rows hl h =>
    obtain ⟨l, rfl⟩ := ex_map Node.cs rows fun r hr => row_node ⟨hl r hr, h r hr⟩
    exact ⟨l, rfl⟩
theorem arg_one {P : Program} {t : TypeId} {s : Sh} {x : AV} (h : ArgOk P t x) (hf : flat P 8 t = some [s]) (hu : ∀ ds, topAV P t ds = hd1 ds) : ∃ d, HasSh s d ∧ x = .d d := by
  obtain ⟨shs, ds, h1, h2, h3⟩ := h
  rw [hf] at h1
  injection h1 with h1
  subst h1
  obtain ⟨g1, g2⟩ := h2
  match ds, g1, g2, h3 with
  | [d], _, g2, h3 => exact ⟨d, g2 0 s d rfl rfl, by rw [h3, hu]; rfl⟩
theorem arg_agg {P : Program} {t : TypeId} {shs : List Sh} {x : AV} (h : ArgOk P t x) (hf : flat P 8 t = some shs) (hu : ∀ ds, topAV P t ds = .agg (ds.map .d)) : ∃ ds, Row shs ds ∧ x = .agg (ds.map .d) := by
  obtain ⟨shs', ds, h1, h2, h3⟩ := h
  rw [hf] at h1
  injection h1 with h1
  subst h1
  exact ⟨ds, h2, by rw [h3, hu]⟩
theorem args_1 {P : Program} {t : TypeId} {xs : List AV} (h : ArgsOk P [t] xs) : ∃ x, xs = [x] ∧ ArgOk P t x := by
  match xs, h with
  | [x], h => exact ⟨x, rfl, h.1⟩
theorem args_2 {P : Program} {t u : TypeId} {xs : List AV} (h : ArgsOk P [t, u] xs) : ∃ x y, xs = [x, y] ∧ ArgOk P t x ∧ ArgOk P u y := by
  match xs, h with
  | [x, y], h => exact ⟨x, y, rfl, h.1, h.2.1⟩
theorem args_3 {P : Program} {t u v : TypeId} {xs : List AV} (h : ArgsOk P [t, u, v] xs) : ∃ x y z, xs = [x, y, z] ∧ ArgOk P t x ∧ ArgOk P u y ∧ ArgOk P v z := by
  match xs, h with
  | [x, y, z], h => exact ⟨x, y, z, rfl, h.1, h.2.1, h.2.2.1⟩
theorem args_4 {P : Program} {t u v w : TypeId} {xs : List AV} (h : ArgsOk P [t, u, v, w] xs) : ∃ x y z q, xs = [x, y, z, q] ∧ ArgOk P t x ∧ ArgOk P u y ∧ ArgOk P v z ∧ ArgOk P w q := by
  match xs, h with
  | [x, y, z, q], h => exact ⟨x, y, z, q, rfl, h.1, h.2.1, h.2.2.1, h.2.2.2.1⟩
end Go.Eng
set_option maxRecDepth 100000
set_option linter.unusedVariables false
set_option linter.unusedSimpArgs false
namespace Go.Eng
open Go Go.Proofs
def rowsW (ws : List (List UInt8)) : List (List D) := ws.map fun w => [str w]
theorem rowsW_sz {ws : List (List UInt8)} : ∀ r ∈ rowsW ws, r.length = 1 := by
  intro r hr; unfold rowsW at hr; obtain ⟨x, _, rfl⟩ := List.mem_map.1 hr; rfl
theorem rowsW_app (ws : List (List UInt8)) (w : List UInt8) : rowsW (ws ++ [w]) = rowsW ws ++ [[str w]] := by unfold rowsW; simp
theorem rowsW_len (ws : List (List UInt8)) : (rowsW ws).length = ws.length := by unfold rowsW; simp
set_option maxHeartbeats 1000000 in
theorem ref20_Split (s : List UInt8) (c : UInt8) (hs : s.length ≤ 100000) : Fn Tryd.prog 28 [.d (str s), .d (.int .u8 c.toNat)] (.d (texts (splitL c s))) := by
  refine Fn_of tt_ok Tryd.func28 rfl (by decide) Tryd.ntmps28 rfl ?_
  refine W_loop (fun μ st => ∃ (k fr : Nat) (out : List (List UInt8)), k ≤ s.length + 1 ∧ μ = s.length + 1 - k ∧ fr ≤ k ∧ out.length ≤ k ∧ (k ≤ s.length → splitL c s = out ++ splitL c (s.drop fr) ∧ c ∉ (s.drop fr).take (k - fr)) ∧ (k = s.length + 1 → out = splitL c s) ∧
      st = ⟨[(0, .d (str s)), (1, .d (.int .u8 c.toNat)), (5, AccV 0 1 (rowsW out)), (6, .i fr), (7, .i k)], 35, [AccB (rowsW out)], 0, []⟩) (s.length + 1)
    ⟨⟨[(0, .d (str s)), (1, .d (.int .u8 c.toNat)), (5, .nsl), (6, .i 0), (7, .i 0)], 35, [none], 0, []⟩, ?_, 0, 0, [], by omega, by omega, by omega, by simp, fun _ => by simp, fun h => by omega, by simp [rowsW, AccV_nil, AccB_nil]⟩ ?_
  · exact Wk.trans Wk_pad (Wk_env (by repeat (first | exact trivial | refine ⟨rfl, ?_⟩)))
  rintro μ s1 ⟨k, fr, out, hk, rfl, hfr, hol, hI, hE, rfl⟩
  have hsz : (⟨s.toArray⟩ : ByteArray).size = s.length := str_size s
  refine W_run tt_ok ?_
  by_cases hlt : k ≤ s.length
  · obtain ⟨h1, h2⟩ := hI hlt
    have hc1 : (k : Int) ≤ ((⟨s.toArray⟩ : ByteArray).size : Int) := by rw [hsz]; omega
    have e1 : D.str ((⟨s.toArray⟩ : ByteArray).extract (fr : Int).toNat (k : Int).toNat) = str ((s.drop fr).take (k - fr)) := by rw [str_extract]; rfl
    have hra := rowsW_app out ((s.drop fr).take (k - fr))
    have ha := Acc_app (b := 0) (sz := 1) (rows := rowsW out) (new := [[D.str ((⟨s.toArray⟩ : ByteArray).extract (fr : Int).toNat (k : Int).toNat)]]) (by simp)
    by_cases hend : k = s.length
    · have hc2 : (((k : Int)) == ((⟨s.toArray⟩ : ByteArray).size : Int)) = true := by rw [hsz, hend]; simp
      have hsp : splitL c (s.drop fr) = [(s.drop fr).take (k - fr)] := by
        rw [List.take_of_length_le (by simp; omega)] at h2 ⊢
        exact split_plain c _ h2
      have hI' : k + 1 ≤ s.length → splitL c s = (out ++ [(s.drop fr).take (k - fr)]) ++ splitL c (s.drop (k + 1)) ∧ c ∉ (s.drop (k + 1)).take (k + 1 - (k + 1)) := fun h => by omega
      have hE' : k + 1 = s.length + 1 → out ++ [(s.drop fr).take (k - fr)] = splitL c s := fun _ => by rw [h1, hsp]
      repeat' ((conv => whnf); (first
        | (refine Br_true (decide_eq_true hc1) ?_)
        | (refine Br_true hc2 ?_)
        | (refine Br_true (by assumption) ?_)
        | (refine Br_false (by assumption) ?_)
        | (refine Br_true (beqT (by omega)) ?_)
        | (refine Br_false (beqF (by omega)) ?_)
        | (refine Br_beq (fun h => ?_) (fun h => ?_))
        | (refine Br_true (bneT (by omega)) ?_)
        | (refine Br_false (bneF (by omega)) ?_)
        | (refine Br_bne (fun h => ?_) (fun h => ?_))
        | (refine Br_true (decide_eq_true (by omega)) ?_)
        | (refine Br_false (decide_eq_false (by omega)) ?_)
        | (refine Br_dec (fun h => ?_) (fun h => ?_))
        | (refine Br_not ?_)
        | (refine Len_in (fun hlen => ?_))
        | (refine Br_split (fun h => ?_) (fun h => ?_))
        | (refine fin0 rfl ?_)
        | (refine ArK_in (wrap_i64 (by omega) (by omega)) ?_)
        | (refine force_in ?_)))
      refine Need_in ⟨by omega, by omega, by rw [hsz]; omega⟩ ?_
      repeat' ((conv => whnf); (first
        | (refine Br_true (by assumption) ?_)
        | (refine Br_false (by assumption) ?_)
        | (refine Br_true (beqT (by omega)) ?_)
        | (refine Br_false (beqF (by omega)) ?_)
        | (refine Br_beq (fun h => ?_) (fun h => ?_))
        | (refine Br_true (bneT (by omega)) ?_)
        | (refine Br_false (bneF (by omega)) ?_)
        | (refine Br_bne (fun h => ?_) (fun h => ?_))
        | (refine Br_true (decide_eq_true (by omega)) ?_)
        | (refine Br_false (decide_eq_false (by omega)) ?_)
        | (refine Br_dec (fun h => ?_) (fun h => ?_))
        | (refine Br_not ?_)
        | (refine Len_in (fun hlen => ?_))
        | (refine Br_split (fun h => ?_) (fun h => ?_))
        | (refine fin0 rfl ?_)
        | (refine ArK_in (wrap_i64 (by omega) (by omega)) ?_)
        | (refine force_in ?_)))
      refine Ch_r ?_
      conv => whnf
      refine App_acc (rowsW out) [[D.str ((⟨s.toArray⟩ : ByteArray).extract (fr : Int).toNat (k : Int).toNat)]] rfl rfl rfl rfl (by simp) rowsW_sz (by intro r hr; simp at hr; subst hr; rfl) (by rw [rowsW_len]; simp only [List.length_cons, List.length_nil]; omega) (Nat.le_of_ble_eq_true rfl) ?_
      repeat' ((conv => whnf); (first
        | (refine Br_true (by assumption) ?_)
        | (refine Br_false (by assumption) ?_)
        | (refine Br_true (beqT (by omega)) ?_)
        | (refine Br_false (beqF (by omega)) ?_)
        | (refine Br_beq (fun h => ?_) (fun h => ?_))
        | (refine Br_true (bneT (by omega)) ?_)
        | (refine Br_false (bneF (by omega)) ?_)
        | (refine Br_bne (fun h => ?_) (fun h => ?_))
        | (refine Br_true (decide_eq_true (by omega)) ?_)
        | (refine Br_false (decide_eq_false (by omega)) ?_)
        | (refine Br_dec (fun h => ?_) (fun h => ?_))
        | (refine Br_not ?_)
        | (refine Len_in (fun hlen => ?_))
        | (refine Back_in ⟨[(0, .d (str s)), (1, .d (.int .u8 c.toNat)), (5, .msl 0 0 ((rowsW out).length + 1) ((rowsW out).length + 1) 1), (6, .i (k + 1 : Nat)), (7, .i (k + 1 : Nat))], 35, [some (.row ((rowsW out ++ [[D.str ((⟨s.toArray⟩ : ByteArray).extract (fr : Int).toNat (k : Int).toNat)]]).flatten.map .d))], 0, []⟩ _ ⟨k + 1, k + 1, out ++ [(s.drop fr).take (k - fr)], by omega, rfl, by omega, by simp; omega, hI', hE', ?_⟩ (by omega) (Wk_ren [1] rfl rfl ⟨⟨by rw [renB_row]; rfl, lowB_row _ _⟩, trivial⟩ (by repeat (first | exact trivial | refine ⟨⟨rfl, rfl⟩, ?_⟩)) (by decide) (by omega)))
        | (refine Br_split (fun h => ?_) (fun h => ?_))
        | (refine fin0 rfl ?_)
        | (refine ArK_in (wrap_i64 (by omega) (by omega)) ?_)
        | (refine force_in ?_)))
      rw [hra, ← e1, ha.1, ha.2]
      rfl
    · have hlt2 : k < s.length := by omega
      have hc2 : (((k : Int)) == ((⟨s.toArray⟩ : ByteArray).size : Int)) = false := by rw [hsz]; simp; omega
      have hby : (⟨s.toArray⟩ : ByteArray).data.toList[(k : Int).toNat]? = some s[k] := by simp [hlt2]
      have hdr : s.drop fr = (s.drop fr).take (k - fr) ++ s[k] :: s.drop (k + 1) := by
        have := List.take_append_drop (k - fr) (s.drop fr)
        rw [List.drop_drop, show fr + (k - fr) = k by omega, List.drop_eq_getElem_cons hlt2] at this
        exact this.symm
      by_cases hq : s[k] = c
      · have hc3 : (((s[k].toNat : Nat) : Int) == ((c.toNat : Nat) : Int)) = true := by rw [hq]; simp
        have hI' : k + 1 ≤ s.length → splitL c s = (out ++ [(s.drop fr).take (k - fr)]) ++ splitL c (s.drop (k + 1)) ∧ c ∉ (s.drop (k + 1)).take (k + 1 - (k + 1)) := fun h => by
          refine ⟨?_, by simp⟩
          rw [h1, hdr, hq, split_app c _ _ h2, List.append_assoc, ← hq, ← hdr]
          rfl
        have hE' : k + 1 = s.length + 1 → out ++ [(s.drop fr).take (k - fr)] = splitL c s := fun h => by omega
        repeat' ((conv => whnf); (first
          | (refine Br_true (decide_eq_true hc1) ?_)
          | (refine Br_false hc2 ?_)
          | (refine Br_true hc3 ?_)
          | (refine Br_true (by assumption) ?_)
          | (refine Br_false (by assumption) ?_)
          | (refine Br_true (beqT (by omega)) ?_)
          | (refine Br_false (beqF (by omega)) ?_)
          | (refine Br_beq (fun h => ?_) (fun h => ?_))
          | (refine Br_true (bneT (by omega)) ?_)
          | (refine Br_false (bneF (by omega)) ?_)
          | (refine Br_bne (fun h => ?_) (fun h => ?_))
          | (refine Br_true (decide_eq_true (by omega)) ?_)
          | (refine Br_false (decide_eq_false (by omega)) ?_)
          | (refine Br_dec (fun h => ?_) (fun h => ?_))
          | (refine Br_not ?_)
          | (refine Len_in (fun hlen => ?_))
          | (refine Byte_in _ hby (by omega) ?_)
          | (refine Br_split (fun h => ?_) (fun h => ?_))
          | (refine fin0 rfl ?_)
          | (refine ArK_in (wrap_i64 (by omega) (by omega)) ?_)
          | (refine force_in ?_)))
        refine Need_in ⟨by omega, by omega, by rw [hsz]; omega⟩ ?_
        repeat' ((conv => whnf); (first
          | (refine Br_true (by assumption) ?_)
          | (refine Br_false (by assumption) ?_)
          | (refine Br_true (beqT (by omega)) ?_)
          | (refine Br_false (beqF (by omega)) ?_)
          | (refine Br_beq (fun h => ?_) (fun h => ?_))
          | (refine Br_true (bneT (by omega)) ?_)
          | (refine Br_false (bneF (by omega)) ?_)
          | (refine Br_bne (fun h => ?_) (fun h => ?_))
          | (refine Br_true (decide_eq_true (by omega)) ?_)
          | (refine Br_false (decide_eq_false (by omega)) ?_)
          | (refine Br_dec (fun h => ?_) (fun h => ?_))
          | (refine Br_not ?_)
          | (refine Len_in (fun hlen => ?_))
          | (refine Br_split (fun h => ?_) (fun h => ?_))
          | (refine fin0 rfl ?_)
          | (refine ArK_in (wrap_i64 (by omega) (by omega)) ?_)
          | (refine force_in ?_)))
        refine Ch_r ?_
        conv => whnf
        refine App_acc (rowsW out) [[D.str ((⟨s.toArray⟩ : ByteArray).extract (fr : Int).toNat (k : Int).toNat)]] rfl rfl rfl rfl (by simp) rowsW_sz (by intro r hr; simp at hr; subst hr; rfl) (by rw [rowsW_len]; simp only [List.length_cons, List.length_nil]; omega) (Nat.le_of_ble_eq_true rfl) ?_
        repeat' ((conv => whnf); (first
          | (refine Br_true (by assumption) ?_)
          | (refine Br_false (by assumption) ?_)
          | (refine Br_true (beqT (by omega)) ?_)
          | (refine Br_false (beqF (by omega)) ?_)
          | (refine Br_beq (fun h => ?_) (fun h => ?_))
          | (refine Br_true (bneT (by omega)) ?_)
          | (refine Br_false (bneF (by omega)) ?_)
          | (refine Br_bne (fun h => ?_) (fun h => ?_))
          | (refine Br_true (decide_eq_true (by omega)) ?_)
          | (refine Br_false (decide_eq_false (by omega)) ?_)
          | (refine Br_dec (fun h => ?_) (fun h => ?_))
          | (refine Br_not ?_)
          | (refine Len_in (fun hlen => ?_))
          | (refine Back_in ⟨[(0, .d (str s)), (1, .d (.int .u8 c.toNat)), (5, .msl 0 0 ((rowsW out).length + 1) ((rowsW out).length + 1) 1), (6, .i (k + 1 : Nat)), (7, .i (k + 1 : Nat))], 35, [some (.row ((rowsW out ++ [[D.str ((⟨s.toArray⟩ : ByteArray).extract (fr : Int).toNat (k : Int).toNat)]]).flatten.map .d))], 0, []⟩ _ ⟨k + 1, k + 1, out ++ [(s.drop fr).take (k - fr)], by omega, rfl, by omega, by simp; omega, hI', hE', ?_⟩ (by omega) (Wk_ren [1] rfl rfl ⟨⟨by rw [renB_row]; rfl, lowB_row _ _⟩, trivial⟩ (by repeat (first | exact trivial | refine ⟨⟨rfl, rfl⟩, ?_⟩)) (by decide) (by omega)))
          | (refine Br_split (fun h => ?_) (fun h => ?_))
          | (refine fin0 rfl ?_)
          | (refine ArK_in (wrap_i64 (by omega) (by omega)) ?_)
          | (refine force_in ?_)))
        rw [hra, ← e1, ha.1, ha.2]
        rfl
      · have hc3 : (((s[k].toNat : Nat) : Int) == ((c.toNat : Nat) : Int)) = false := by
          rw [beq_eq_false_iff_ne]
          intro e
          exact hq (UInt8.toNat_inj.1 (by omega))
        have hI' : k + 1 ≤ s.length → splitL c s = out ++ splitL c (s.drop fr) ∧ c ∉ (s.drop fr).take (k + 1 - fr) := fun h => by
          refine ⟨h1, ?_⟩
          rw [hdr, List.take_append, List.take_of_length_le (by simp; omega)]
          simp only [List.mem_append, not_or]
          refine ⟨h2, ?_⟩
          have e2 : k + 1 - fr - ((s.drop fr).take (k - fr)).length = 1 := by simp; omega
          rw [e2, List.take_succ_cons, List.take_zero, List.mem_singleton]
          exact fun e => hq e.symm
        have hE' : k + 1 = s.length + 1 → out = splitL c s := fun h => by omega
        repeat' ((conv => whnf); (first
          | (refine Br_true (decide_eq_true hc1) ?_)
          | (refine Br_false hc2 ?_)
          | (refine Br_false hc3 ?_)
          | (refine Br_true (by assumption) ?_)
          | (refine Br_false (by assumption) ?_)
          | (refine Br_true (beqT (by omega)) ?_)
          | (refine Br_false (beqF (by omega)) ?_)
          | (refine Br_beq (fun h => ?_) (fun h => ?_))
          | (refine Br_true (bneT (by omega)) ?_)
          | (refine Br_false (bneF (by omega)) ?_)
          | (refine Br_bne (fun h => ?_) (fun h => ?_))
          | (refine Br_true (decide_eq_true (by omega)) ?_)
          | (refine Br_false (decide_eq_false (by omega)) ?_)
          | (refine Br_dec (fun h => ?_) (fun h => ?_))
          | (refine Br_not ?_)
          | (refine Len_in (fun hlen => ?_))
          | (refine Byte_in _ hby (by omega) ?_)
          | (refine Back_in _ _ ⟨k + 1, fr, out, by omega, rfl, by omega, by omega, hI', hE', rfl⟩ (by omega) (Wk_env (by repeat (first | exact trivial | refine ⟨rfl, ?_⟩))))
          | (refine Br_split (fun h => ?_) (fun h => ?_))
          | (refine fin0 rfl ?_)
          | (refine ArK_in (wrap_i64 (by omega) (by omega)) ?_)
          | (refine force_in ?_)))
  · have hk2 : k = s.length + 1 := by omega
    have hc1 : ¬ (k : Int) ≤ ((⟨s.toArray⟩ : ByteArray).size : Int) := by rw [hsz]; omega
    have ho := hE hk2
    subst ho
    repeat' ((conv => whnf); (first
      | (refine Br_false (decide_eq_false hc1) ?_)
      | (refine Br_true (by assumption) ?_)
      | (refine Br_false (by assumption) ?_)
      | (refine Br_true (beqT (by omega)) ?_)
      | (refine Br_false (beqF (by omega)) ?_)
      | (refine Br_beq (fun h => ?_) (fun h => ?_))
      | (refine Br_true (bneT (by omega)) ?_)
      | (refine Br_false (bneF (by omega)) ?_)
      | (refine Br_bne (fun h => ?_) (fun h => ?_))
      | (refine Br_true (decide_eq_true (by omega)) ?_)
      | (refine Br_false (decide_eq_false (by omega)) ?_)
      | (refine Br_dec (fun h => ?_) (fun h => ?_))
      | (refine Br_not ?_)
      | (refine Len_in (fun hlen => ?_))
      | (refine finW (Fin_acc (rowsW (splitL c s)) rfl rowsW_sz (Nat.zero_le _) rfl trivial) ⟨rfl, rfl⟩)
      | (refine Br_split (fun h => ?_) (fun h => ?_))
      | (refine fin0 rfl ?_)
      | (refine ArK_in (wrap_i64 (by omega) (by omega)) ?_)
      | (refine force_in ?_)))
theorem wrap_u8x {e : Int} (h1 : 0 ≤ e) (h2 : e ≤ 255) : IntKind.u8.wrap e = e := by
  simp only [IntKind.wrap, IntKind.signed, IntKind.bits]; simp; omega
theorem dec_lenx (f : Nat) : ∀ n : Nat, n < 10 ^ f → (Lib.decDigits n).length ≤ f + 1 := by
  induction f with
  | zero => intro n h; have : n = 0 := by simpa using h
            subst this; rw [Lib.decDigits.eq_def]; simp
  | succ f ih =>
    intro n h
    rw [Lib.decDigits.eq_def n]
    split
    · simp
    · have := ih (n / 10) (by rw [Nat.pow_succ] at h; omega)
      simp only [List.length_append, List.length_cons, List.length_nil]; omega
theorem ref_Digits (f : Nat) : ∀ n : Nat, n < 10 ^ f → 0 < f → f ≤ 20 → n ≤ 9223372036854775807 → Fn Tryd.prog 45 [.i n] (.d (str (Lib.decDigits n))) := by
  induction f with
  | zero => intro n _ h; omega
  | succ f ih =>
    intro n hn _ hf hm
    refine Fn_of tt_ok Tryd.func45 rfl (by decide) Tryd.ntmps45 rfl ?_
    have e1 : (n : Int).tmod 10 = ((n % 10 : Nat) : Int) := rfl
    have e2 : (n : Int).tdiv 10 = ((n / 10 : Nat) : Int) := rfl
    have w1 : IntKind.i64.wrap (48 + (n : Int).tmod 10) = 48 + (n : Int).tmod 10 := wrap_i64 (by rw [e1]; omega) (by rw [e1]; omega)
    have w2 : IntKind.u8.wrap (48 + (n : Int).tmod 10) = 48 + (n : Int).tmod 10 := wrap_u8x (by rw [e1]; omega) (by rw [e1]; omega)
    have w3 : IntKind.i64.wrap ((n : Int).tdiv 10) = (n : Int).tdiv 10 := wrap_i64 (by rw [e2]; omega) (by rw [e2]; omega)
    have hc : (UInt8.ofNat (48 + n % 10)).toNat = 48 + n % 10 := by rw [UInt8.toNat_ofNat']; omega
    have ht : [[D.int .u8 (48 + (n : Int).tmod 10)]] = [UInt8.ofNat (48 + n % 10)].map (fun c => [D.int .u8 c.toNat]) := by
      rw [e1]; simp only [List.map_cons, List.map_nil, hc]; rfl
    by_cases h10 : 10 ≤ n
    · have hd : Lib.decDigits n = Lib.decDigits (n / 10) ++ [UInt8.ofNat (48 + n % 10)] := by rw [Lib.decDigits.eq_def n, dif_neg (by omega)]
      have h1 : decide ((n : Int) ≥ 10) = true := decide_eq_true (by omega)
      have hf0 : 0 < f := by
        rcases Nat.eq_zero_or_pos f with h | h
        · subst h; omega
        · exact h
      have hi := ih (n / 10) (by rw [Nat.pow_succ] at hn; omega) hf0 (by omega) (by omega)
      rw [← e2] at hi
      have hl := dec_lenx f (n / 10) (by rw [Nat.pow_succ] at hn; omega)
      have hsz : (⟨(Lib.decDigits (n / 10)).toArray⟩ : ByteArray).size + (⟨[UInt8.ofNat (48 + n % 10)].toArray⟩ : ByteArray).size ≤ LB := by
        rw [str_size, str_size]; unfold LB; simp; omega
      have hres : (.d (.str ((⟨(Lib.decDigits (n / 10)).toArray⟩ : ByteArray) ++ ⟨[UInt8.ofNat (48 + n % 10)].toArray⟩)) : AV) = .d (str (Lib.decDigits n)) := by rw [str_app, hd]
      generalize Lib.decDigits (n / 10) = dl at *
      repeat' ((conv => whnf); (first
        | (refine Br_true h1 ?_)
        | (refine Ch_r ?_)
        | (refine Br_true (by assumption) ?_)
        | (refine Br_false (by assumption) ?_)
        | (refine Br_true (beqT (by omega)) ?_)
        | (refine Br_false (beqF (by omega)) ?_)
        | (refine Br_beq (fun h => ?_) (fun h => ?_))
        | (refine Br_true (bneT (by omega)) ?_)
        | (refine Br_false (bneF (by omega)) ?_)
        | (refine Br_bne (fun h => ?_) (fun h => ?_))
        | (refine Br_true (decide_eq_true (by omega)) ?_)
        | (refine Br_false (decide_eq_false (by omega)) ?_)
        | (refine Br_dec (fun h => ?_) (fun h => ?_))
        | (refine Br_not ?_)
        | (refine Len_in (fun hlen => ?_))
        | (refine Need_in (by omega) ?_)
        | (refine ArK_in w1 ?_)
        | (refine ArK_in w2 ?_)
        | (refine ArK_in w3 ?_)
        | (refine Text_in _ ht ?_)
        | (refine Fn.use (hi) rfl rfl ?_)
        | (refine CallF_in (hi) rfl rfl ?_)
        | (refine Need_in hsz ?_)
        | (refine fin0 rfl hres)
        | (refine Br_split (fun h => ?_) (fun h => ?_))
        | (refine fin0 rfl ?_)
        | (refine ArK_in (wrap_i64 (by omega) (by omega)) ?_)
        | (refine force_in ?_)))
    · have hd : Lib.decDigits n = [UInt8.ofNat (48 + n % 10)] := by rw [Lib.decDigits.eq_def n, dif_pos (by omega), Nat.mod_eq_of_lt (by omega)]
      have h1 : decide ((n : Int) ≥ 10) = false := decide_eq_false (by omega)
      rw [hd]
      repeat' ((conv => whnf); (first
        | (refine Br_false h1 ?_)
        | (refine Ch_r ?_)
        | (refine Br_true (by assumption) ?_)
        | (refine Br_false (by assumption) ?_)
        | (refine Br_true (beqT (by omega)) ?_)
        | (refine Br_false (beqF (by omega)) ?_)
        | (refine Br_beq (fun h => ?_) (fun h => ?_))
        | (refine Br_true (bneT (by omega)) ?_)
        | (refine Br_false (bneF (by omega)) ?_)
        | (refine Br_bne (fun h => ?_) (fun h => ?_))
        | (refine Br_true (decide_eq_true (by omega)) ?_)
        | (refine Br_false (decide_eq_false (by omega)) ?_)
        | (refine Br_dec (fun h => ?_) (fun h => ?_))
        | (refine Br_not ?_)
        | (refine Len_in (fun hlen => ?_))
        | (refine Need_in (by omega) ?_)
        | (refine ArK_in w1 ?_)
        | (refine ArK_in w2 ?_)
        | (refine Text_in _ ht ?_)
        | (refine Br_split (fun h => ?_) (fun h => ?_))
        | (refine fin0 rfl ?_)
        | (refine ArK_in (wrap_i64 (by omega) (by omega)) ?_)
        | (refine force_in ?_)))
      rfl
theorem ref_dig (n : Nat) (h : n ≤ 9223372036854775807) : Fn Tryd.prog 45 [.i n] (.d (str (Lib.decDigits n))) :=
  ref_Digits 20 n (Nat.lt_of_le_of_lt h (by decide)) (by omega) (by omega) h
end Go.Eng
set_option linter.unusedVariables false
set_option linter.unusedSimpArgs false
namespace Go.Eng
open Go
def spell (acc : Nat) (l : List UInt8) : Nat := l.foldl (fun a c => a * 10 + (c.toNat - 48)) acc
theorem spell_app (acc : Nat) (l m : List UInt8) : spell acc (l ++ m) = spell (spell acc l) m := by unfold spell; rw [List.foldl_append]
theorem spell_ge (l : List UInt8) : ∀ acc, acc ≤ spell acc l := by
  induction l with
  | nil => intro acc; exact Nat.le_refl _
  | cons c r ih =>
    intro acc
    have := ih (acc * 10 + (c.toNat - 48))
    show acc ≤ spell (acc * 10 + (c.toNat - 48)) r
    omega
def isDig (c : UInt8) : Prop := 48 ≤ c.toNat ∧ c.toNat ≤ 57
theorem dig_of {u : Nat} (h : u < 10) : (UInt8.ofNat (48 + u)).toNat = 48 + u := by rw [UInt8.toNat_ofNat']; omega
theorem dec_spec (u : Nat) : (∀ c ∈ Lib.decDigits u, isDig c) ∧ spell 0 (Lib.decDigits u) = u ∧ Lib.decDigits u ≠ [] := by
  induction u using Nat.strongRecOn with
  | _ u ih =>
    rw [Lib.decDigits.eq_def u]
    split
    · rename_i h
      refine ⟨fun c hc => ?_, ?_, by simp⟩
      · rw [List.mem_singleton] at hc; subst hc; unfold isDig; rw [dig_of h]; omega
      · simp only [spell, List.foldl_cons, List.foldl_nil]; rw [dig_of h]; omega
    · rename_i h
      obtain ⟨h1, h2, h3⟩ := ih (u / 10) (by omega)
      have hd := dig_of (u := u % 10) (by omega)
      refine ⟨fun c hc => ?_, ?_, by simp⟩
      · rcases List.mem_append.1 hc with hc | hc
        · exact h1 c hc
        · rw [List.mem_singleton] at hc; subst hc; unfold isDig; rw [hd]; omega
      · rw [spell_app, h2]
        simp only [spell, List.foldl_cons, List.foldl_nil]; rw [hd]; omega
theorem parse_spell (l : List UInt8) : ∀ acc, (∀ c ∈ l, isDig c) → spell acc l < 1844674407370955162 → Lib.parseUint10 acc l = .ok (spell acc l) := by
  induction l with
  | nil => intro acc _ _; rfl
  | cons c r ih =>
    intro acc h hb
    have hc := h c (by simp)
    unfold isDig at hc
    have hs : spell acc (c :: r) = spell (acc * 10 + (c.toNat - 48)) r := rfl
    rw [hs] at hb ⊢
    have h1 := spell_ge r (acc * 10 + (c.toNat - 48))
    unfold Lib.parseUint10
    rw [if_pos hc, if_neg (by omega), if_neg (by omega)]
    exact ih _ (fun x hx => h x (by simp [hx])) hb
theorem atoi_itoa {n : Int} (h1 : -1000000000000000000 < n) (h2 : n < 1000000000000000000) : Lib.atoiAll (Lib.itoa n) = .ok n := by
  unfold Lib.itoa
  split
  · rename_i h
    obtain ⟨d1, d2, d3⟩ := dec_spec n.natAbs
    unfold Lib.atoiAll
    have e : Lib.parseMag (if (45 : UInt8).toNat = 43 ∨ (45 : UInt8).toNat = 45 then Lib.decDigits n.natAbs else 45 :: Lib.decDigits n.natAbs) = .ok n.natAbs := by
      rw [if_pos (by decide)]
      unfold Lib.parseMag
      rw [if_neg d3, parse_spell _ 0 d1 (by rw [d2]; omega), d2]
    simp only [e]
    rw [if_neg (by simp), if_neg (by omega)]
    simp
    omega
  · rename_i h
    obtain ⟨d1, d2, d3⟩ := dec_spec n.toNat
    have e : Lib.parseMag (Lib.decDigits n.toNat) = .ok n.toNat := by
      unfold Lib.parseMag
      rw [if_neg d3, parse_spell _ 0 d1 (by rw [d2]; omega), d2]
    generalize Lib.decDigits n.toNat = l at *
    cases l with
    | nil => exact absurd rfl d3
    | cons c r =>
      have hc := d1 c (by simp)
      unfold isDig at hc
      unfold Lib.atoiAll
      simp only
      rw [if_neg (by omega), e]
      simp only
      have h45 : ¬ c.toNat = 45 := by omega
      rw [if_neg (by omega), if_neg (by simp [h45])]
      simp [h45]
      omega
theorem itoa_no {n : Int} {c : UInt8} (hc : ¬ isDig c) (h45 : c ≠ 45) : c ∉ Lib.itoa n := by
  unfold Lib.itoa
  split
  · simp only [List.mem_cons, not_or]
    exact ⟨h45, fun h => hc ((dec_spec _).1 c h)⟩
  · exact fun h => hc ((dec_spec _).1 c h)
theorem itoa_ne (n : Int) : Lib.itoa n ≠ [] := by
  unfold Lib.itoa
  split
  · simp
  · exact (dec_spec _).2.2
theorem dec_lt (k : Nat) : ∀ u : Nat, (Lib.decDigits u).length ≤ k + 1 ↔ u < 10 ^ (k + 1) := by
  induction k with
  | zero =>
    intro u
    rw [Lib.decDigits.eq_def u]
    split
    · simp; omega
    · obtain ⟨_, _, h3⟩ := dec_spec (u / 10)
      have := List.length_pos_iff.2 h3
      simp only [List.length_append, List.length_cons, List.length_nil]
      rw [show 10 ^ (0 + 1) = 10 from rfl]
      omega
  | succ k ih =>
    intro u
    rw [Lib.decDigits.eq_def u]
    have hp : 10 ^ (k + 1 + 1) = 10 ^ (k + 1) * 10 := Nat.pow_succ _ _
    have h1 : 0 < 10 ^ (k + 1) := Nat.pow_pos (by decide)
    split
    · simp; omega
    · have := ih (u / 10)
      simp only [List.length_append, List.length_cons, List.length_nil]
      rw [hp]
      omega
end Go.Eng
set_option linter.unusedVariables false
set_option linter.unusedSimpArgs false
set_option maxRecDepth 20000
namespace Go.Eng
open Go
structure TRow where
  kind : Int
  prog : Int
  type : Int
  node : Int
  target : Int
  related : Int
  phase : Int
  err : Int
  deriving DecidableEq, Repr
def TRow.cs (x : TRow) : List D := [.i x.kind, .i x.prog, .i x.type, .i x.node, .i x.target, .i x.related, .i x.phase, .i x.err]
def zeroR : TRow := ⟨0, 0, 0, 0, 0, 0, 0, 0⟩
def evL : Nat → List UInt8
  | 0 => [102, 111, 99, 117, 115]
  | 1 => [98, 108, 117, 114]
  | 2 => [102, 111, 99, 117, 115, 105, 110]
  | 3 => [102, 111, 99, 117, 115, 111, 117, 116]
  | 4 => [98, 101, 102, 111, 114, 101, 116, 111, 103, 103, 108, 101]
  | 5 => [116, 111, 103, 103, 108, 101]
  | 6 => [99, 97, 110, 99, 101, 108]
  | 7 => [99, 108, 111, 115, 101]
  | 8 => [99, 108, 105, 99, 107]
  | _ => []
@[irreducible] def evsL : List AV := (List.range 9).map fun k => AV.d (str (evL k))
theorem evs_len : evsL.length = 9 := by unfold evsL; rfl
theorem evs_low : low 0 (.agg evsL) = true := by unfold evsL; rfl
theorem evs_ren (g : Nat → Nat) : renB g (.row evsL) = .row evsL := by unfold evsL; rfl
theorem evs_lowB (k : Nat) : lowB k (.row evsL) = true := by unfold evsL; rfl
theorem evs_at {k : Nat} (h : k < 9) : evsL[k]? = some (AV.d (str (evL k))) := by
  unfold evsL
  rw [List.getElem?_map, List.getElem?_range h]
  rfl
@[irreducible] def evV (n : Int) : List UInt8 := if 0 ≤ n ∧ n ≤ 8 then evL n.toNat else []
abbrev it (n : Int) : List UInt8 := Lib.itoa n
def wCall : List UInt8 := [99, 97, 108, 108]
def wStep : List UInt8 := [115, 116, 101, 112]
def wDone : List UInt8 := [100, 111, 110, 101]
def wResult : List UInt8 := [114, 101, 115, 117, 108, 116]
@[irreducible] def toldB (r : TRow) : Bool :=
  (decide (r.kind = 0) && decide (r.err = 0) && decide (0 ≤ r.type ∧ r.type ≤ 8)) ||
  ((decide (r.kind = 1) || decide (r.kind = 2)) && decide (r.type = 0) && decide (r.node = 0) && decide (r.target = 0) && decide (r.related = 0) && decide (r.phase = 0)) ||
  (decide (r.kind = 3) && decide (r.prog = 0) && decide (r.related = 0) && decide (r.phase = 0))
def wordsR (r : TRow) : List (List UInt8) :=
  if r.kind = 0 then [wCall, it r.prog, evL r.type.toNat, it r.node, it r.target, it r.related, it r.phase]
  else if r.kind = 1 then [wStep, it r.prog, it r.err]
  else if r.kind = 2 then [wDone, it r.prog, it r.err]
  else [wResult, it r.type, it r.node, it r.target, it r.err]
@[irreducible] def rowV (r : TRow) : List UInt8 := if toldB r then joinL 32 (wordsR r) else []
def sh15 (n : Int) : Prop := -1000000000000000 < n ∧ n < 1000000000000000
instance (n : Int) : Decidable (sh15 n) := by unfold sh15; infer_instance
@[irreducible] def shortB (r : TRow) : Bool := decide (sh15 r.prog) && decide (sh15 r.type) && decide (sh15 r.node) && decide (sh15 r.target) && decide (sh15 r.related) && decide (sh15 r.phase) && decide (sh15 r.err)
theorem told_iff {r : TRow} : toldB r = true ↔ (r.kind = 0 ∧ r.err = 0 ∧ 0 ≤ r.type ∧ r.type ≤ 8) ∨ ((r.kind = 1 ∨ r.kind = 2) ∧ r.type = 0 ∧ r.node = 0 ∧ r.target = 0 ∧ r.related = 0 ∧ r.phase = 0) ∨ (r.kind = 3 ∧ r.prog = 0 ∧ r.related = 0 ∧ r.phase = 0) := by
  unfold toldB
  simp only [Bool.or_eq_true, Bool.and_eq_true, decide_eq_true_eq]
  grind
theorem short_iff {r : TRow} : shortB r = true ↔ sh15 r.prog ∧ sh15 r.type ∧ sh15 r.node ∧ sh15 r.target ∧ sh15 r.related ∧ sh15 r.phase ∧ sh15 r.err := by
  unfold shortB
  simp only [Bool.and_eq_true, decide_eq_true_eq, and_assoc]
theorem ev_all : ∀ k : _root_.Fin 9, (32 : UInt8) ∉ evL k.val ∧ (10 : UInt8) ∉ evL k.val ∧ evL k.val ≠ [] ∧ (evL k.val).length ≤ 15 ∧ ∀ j : _root_.Fin 9, evL k.val = evL j.val → k = j := by decide +kernel
theorem it_no (n : Int) : (32 : UInt8) ∉ it n ∧ (10 : UInt8) ∉ it n := ⟨itoa_no (by unfold isDig; decide) (by decide), itoa_no (by unfold isDig; decide) (by decide)⟩
theorem words_nb {r : TRow} (h : toldB r = true) : ∀ w ∈ wordsR r, (32 : UInt8) ∉ w ∧ (10 : UInt8) ∉ w := by
  have ht := told_iff.1 h
  intro w hw
  unfold wordsR at hw
  split at hw
  · have hk : 0 ≤ r.type ∧ r.type ≤ 8 := by rcases ht with h | h | h <;> omega
    have he := ev_all ⟨r.type.toNat, by omega⟩
    simp only [List.mem_cons, List.not_mem_nil, or_false] at hw
    rcases hw with rfl | rfl | rfl | rfl | rfl | rfl | rfl
    · decide
    · exact it_no _
    · exact ⟨he.1, he.2.1⟩
    · exact it_no _
    · exact it_no _
    · exact it_no _
    · exact it_no _
  · split at hw
    · simp only [List.mem_cons, List.not_mem_nil, or_false] at hw
      rcases hw with rfl | rfl | rfl
      · decide
      · exact it_no _
      · exact it_no _
    · split at hw
      · simp only [List.mem_cons, List.not_mem_nil, or_false] at hw
        rcases hw with rfl | rfl | rfl
        · decide
        · exact it_no _
        · exact it_no _
      · simp only [List.mem_cons, List.not_mem_nil, or_false] at hw
        rcases hw with rfl | rfl | rfl | rfl | rfl
        · decide
        · exact it_no _
        · exact it_no _
        · exact it_no _
        · exact it_no _
theorem wordsR_ne (r : TRow) : wordsR r ≠ [] := by unfold wordsR; (repeat' split) <;> simp
theorem split_row {r : TRow} (h : toldB r = true) : splitL 32 (rowV r) = wordsR r := by
  unfold rowV
  rw [if_pos h]
  exact split_join 32 _ (wordsR_ne r) fun w hw => (words_nb h w hw).1
theorem rowV_ne {r : TRow} (h : toldB r = true) : rowV r ≠ [] := by
  intro e
  have h1 := split_row h
  rw [e] at h1
  unfold wordsR at h1
  simp only [splitL] at h1
  (repeat' split at h1) <;> simp at h1
theorem it_inj {a b : Int} (ha : sh15 a) (h : it a = it b) (hb : -9223372036854775808 ≤ b ∧ b ≤ 9223372036854775807) : sh15 b → a = b := fun hb2 => by
  unfold sh15 at *
  have h1 := atoi_itoa (n := a) (by omega) (by omega)
  have h2 := atoi_itoa (n := b) (by omega) (by omega)
  unfold it at h
  rw [h, h2] at h1
  injection h1 with h1
  exact h1.symm
theorem joinL_len' (c : UInt8) (ws : List (List UInt8)) (m : Nat) (h : ∀ w ∈ ws, w.length ≤ m) : (joinL c ws).length ≤ ws.length * (m + 1) := by
  induction ws with
  | nil => simp [joinL]
  | cons w ws ih =>
    have hw := h w (by simp)
    cases ws with
    | nil => simp [joinL]; omega
    | cons a r =>
      have := ih (fun x hx => h x (by simp [hx]))
      rw [joinL_cons c w (by simp)]
      simp only [List.length_append, List.length_cons] at this ⊢
      rw [Nat.succ_mul]
      omega
end Go.Eng
set_option maxRecDepth 100000
set_option linter.unusedVariables false
set_option linter.unusedSimpArgs false
namespace Go.Eng
open Go Go.Proofs
theorem str_toList (l : List UInt8) : (⟨l.toArray⟩ : ByteArray).toList = l := by rw [ByteArray.toList_eq]
theorem tell_names : Fn Tryd.prog 33 [] (.agg evsL) := by
  refine Fn_of tt_ok Tryd.func33 rfl (by decide) Tryd.ntmps33 rfl ?_
  repeat' ((conv => whnf); (first
    | (refine Br_true (by assumption) ?_)
    | (refine Br_false (by assumption) ?_)
    | (refine Br_true (beqT (by omega)) ?_)
    | (refine Br_false (beqF (by omega)) ?_)
    | (refine Br_beq (fun h => ?_) (fun h => ?_))
    | (refine Br_true (bneT (by omega)) ?_)
    | (refine Br_false (bneF (by omega)) ?_)
    | (refine Br_bne (fun h => ?_) (fun h => ?_))
    | (refine Br_true (decide_eq_true (by omega)) ?_)
    | (refine Br_false (decide_eq_false (by omega)) ?_)
    | (refine Br_dec (fun h => ?_) (fun h => ?_))
    | (refine Br_not ?_)
    | (refine Len_in (fun hlen => ?_))
    | (refine Br_split (fun h => ?_) (fun h => ?_))
    | (refine fin0 rfl ?_)
    | (refine ArK_in (wrap_i64 (by omega) (by omega)) ?_)
    | (refine force_in ?_)))
  unfold evsL
  rfl
theorem tell_Event (n : Int) : Fn Tryd.prog 14 [.i n] (.d (str (evV n))) := by
  refine Fn_of tt_ok Tryd.func14 rfl (by decide) Tryd.ntmps14 rfl ?_
  by_cases h : 0 ≤ n ∧ n ≤ 8
  · have e : evV n = evL n.toNat := by unfold evV; rw [if_pos h]
    have hat : evsL[n.toNat * 1]? = some (AV.d (str (evL n.toNat))) := by rw [Nat.mul_one]; exact evs_at (by omega)
    have hb : 0 ≤ n ∧ n < ((9 : Nat) : Int) := by omega
    have h1 : ¬ n < 0 := by omega
    have h2 : ¬ n ≥ 9 := by omega
    rw [e]
    generalize evL n.toNat = w at *
    repeat' ((conv => whnf); (first
      | (refine Br_true (decide_eq_true hb) ?_)
      | (refine Br_false (decide_eq_false h1) ?_)
      | (refine Br_false (decide_eq_false h2) ?_)
      | (refine Br_true (by assumption) ?_)
      | (refine Br_false (by assumption) ?_)
      | (refine Br_true (beqT (by omega)) ?_)
      | (refine Br_false (beqF (by omega)) ?_)
      | (refine Br_beq (fun h => ?_) (fun h => ?_))
      | (refine Br_true (bneT (by omega)) ?_)
      | (refine Br_false (bneF (by omega)) ?_)
      | (refine Br_bne (fun h => ?_) (fun h => ?_))
      | (refine Br_true (decide_eq_true (by omega)) ?_)
      | (refine Br_false (decide_eq_false (by omega)) ?_)
      | (refine Br_dec (fun h => ?_) (fun h => ?_))
      | (refine Br_not ?_)
      | (refine Len_in (fun hlen => ?_))
      | (refine Fn.use tell_names rfl evs_low ?_)
      | (refine Cell_in _ hat (force_in ?_))
      | (refine Br_split (fun h => ?_) (fun h => ?_))
      | (refine fin0 rfl ?_)
      | (refine ArK_in (wrap_i64 (by omega) (by omega)) ?_)
      | (refine force_in ?_)))
    rfl
  · have e : evV n = [] := by unfold evV; rw [if_neg h]
    rw [e]
    repeat' ((conv => whnf); (first
      | (refine Br_true (by assumption) ?_)
      | (refine Br_false (by assumption) ?_)
      | (refine Br_true (beqT (by omega)) ?_)
      | (refine Br_false (beqF (by omega)) ?_)
      | (refine Br_beq (fun h => ?_) (fun h => ?_))
      | (refine Br_true (bneT (by omega)) ?_)
      | (refine Br_false (bneF (by omega)) ?_)
      | (refine Br_bne (fun h => ?_) (fun h => ?_))
      | (refine Br_true (decide_eq_true (by omega)) ?_)
      | (refine Br_false (decide_eq_false (by omega)) ?_)
      | (refine Br_dec (fun h => ?_) (fun h => ?_))
      | (refine Br_not ?_)
      | (refine Len_in (fun hlen => ?_))
      | (refine Br_split (fun h => ?_) (fun h => ?_))
      | (refine fin0 rfl ?_)
      | (refine ArK_in (wrap_i64 (by omega) (by omega)) ?_)
      | (refine force_in ?_)))
    all_goals first | rfl | (exfalso; omega)
def rowsI (l : List Int) : List (List D) := l.map fun n => [str (it n)]
theorem rowsI_sz {l : List Int} : ∀ r ∈ rowsI l, r.length = 1 := by
  intro r hr; unfold rowsI at hr; obtain ⟨x, _, rfl⟩ := List.mem_map.1 hr; rfl
def i64B (n : Int) : Prop := -9223372036854775808 ≤ n ∧ n ≤ 9223372036854775807
set_option maxHeartbeats 1000000 in
theorem tell_line (w : List UInt8) (l : List Int) (hw : w.length ≤ 100) (hl : l.length ≤ 10) (hb : ∀ n ∈ l, i64B n) : Fn Tryd.prog 30 [.d (str w), .d (ints l)] (.d (str (joinL 32 (w :: l.map it)))) := by
  refine Fn_of tt_ok Tryd.func30 rfl (by decide) Tryd.ntmps30 rfl ?_
  have hj : (joinL 32 (w :: l.map it)).length ≤ 10000 := by
    refine Nat.le_trans (joinL_len' 32 _ 100 fun x hx => ?_) (Nat.le_trans (Nat.mul_le_mul_right _ (by simp; omega : _ ≤ 11)) (by omega))
    rcases List.mem_cons.1 hx with rfl | hx
    · exact hw
    · obtain ⟨n, hn, rfl⟩ := List.mem_map.1 hx
      have := Lib.itoa_length_le n (hb n hn).1 (hb n hn).2
      unfold it; omega
  repeat' ((conv => whnf); (first
    | (refine Br_true (by assumption) ?_)
    | (refine Br_false (by assumption) ?_)
    | (refine Br_true (beqT (by omega)) ?_)
    | (refine Br_false (beqF (by omega)) ?_)
    | (refine Br_beq (fun h => ?_) (fun h => ?_))
    | (refine Br_true (bneT (by omega)) ?_)
    | (refine Br_false (bneF (by omega)) ?_)
    | (refine Br_bne (fun h => ?_) (fun h => ?_))
    | (refine Br_true (decide_eq_true (by omega)) ?_)
    | (refine Br_false (decide_eq_false (by omega)) ?_)
    | (refine Br_dec (fun h => ?_) (fun h => ?_))
    | (refine Br_not ?_)
    | (refine Len_in (fun hlen => ?_))
    | (refine Br_split (fun h => ?_) (fun h => ?_))
    | (refine fin0 rfl ?_)
    | (refine ArK_in (wrap_i64 (by omega) (by omega)) ?_)
    | (refine force_in ?_)))
  refine Ch_l ?_
  conv => whnf
  have hcl : (List.map intCs l).length = l.length := by simp
  refine Len_in (fun hlen => ?_)
  refine W_loop (fun μ s => ∃ (k : Nat) (ws : List (List UInt8)), k ≤ l.length ∧ μ = l.length - k ∧ ws = w :: (l.take k).map it ∧ s = ⟨[(5, AccV 0 1 (ws.map fun x => [str x])), (10, .d (ints l)), (11, .i (List.map intCs l).length), (12, .i k)], 24, [AccB (ws.map fun x => [str x])], 0, []⟩) l.length
    ⟨⟨[(5, .msl 0 0 1 1 1), (10, .d (ints l)), (11, .i (List.map intCs l).length), (12, .i 0)], 24, [some (.row [.d (str w)])], 0, []⟩, ?_, 0, [w], by omega, by omega, by simp, by rw [AccV_cons (by simp), AccB_cons (by simp)]; rfl⟩ ?_
  · exact Wk_env (by repeat (first | exact trivial | refine ⟨rfl, ?_⟩))
  rintro μ s1 ⟨k, ws, hk, rfl, hws, rfl⟩
  have hwl : ws.length = k + 1 := by rw [hws]; simp; omega
  have hsz : ∀ (v : List (List UInt8)), ∀ r ∈ v.map (fun x => [str x]), r.length = 1 := fun v r hr => by
    obtain ⟨x, _, rfl⟩ := List.mem_map.1 hr; rfl
  refine W_run tt_ok ?_
  refine Br_dec (fun h => ?_) (fun h => ?_)
  · have hlt : k < l.length := by rw [hcl] at h; omega
    have hi : (List.map intCs l)[(k : Int).toNat]? = some [D.i l[k]] := by simp [hlt, intCs]
    have htk : w :: (l.take (k + 1)).map it = ws ++ [it l[k]] := by rw [hws, List.take_succ_eq_append_getElem hlt, List.map_append]; rfl
    have hbn := hb _ (List.getElem_mem hlt)
    have hit := itoa_any l[k] hbn.1 hbn.2
    have ha := Acc_app (b := 0) (sz := 1) (rows := ws.map fun x => [str x]) (new := [[str (it l[k])]]) (by simp)
    have hmap : (ws ++ [it l[k]]).map (fun x => [str x]) = (ws.map fun x => [str x]) ++ [[str (it l[k])]] := by simp
    repeat' ((conv => whnf); (first
      | (refine Br_true (by assumption) ?_)
      | (refine Br_false (by assumption) ?_)
      | (refine Br_true (beqT (by omega)) ?_)
      | (refine Br_false (beqF (by omega)) ?_)
      | (refine Br_beq (fun h => ?_) (fun h => ?_))
      | (refine Br_true (bneT (by omega)) ?_)
      | (refine Br_false (bneF (by omega)) ?_)
      | (refine Br_bne (fun h => ?_) (fun h => ?_))
      | (refine Br_true (decide_eq_true (by omega)) ?_)
      | (refine Br_false (decide_eq_false (by omega)) ?_)
      | (refine Br_dec (fun h => ?_) (fun h => ?_))
      | (refine Br_not ?_)
      | (refine Len_in (fun hlen => ?_))
      | (refine Idx_in _ hi (by omega) rfl ?_)
      | (refine Fn.use (hit) rfl rfl ?_)
      | (refine CallF_in (hit) rfl rfl ?_)
      | (refine Br_split (fun h => ?_) (fun h => ?_))
      | (refine fin0 rfl ?_)
      | (refine ArK_in (wrap_i64 (by omega) (by omega)) ?_)
      | (refine force_in ?_)))
    refine Ch_r ?_
    conv => whnf
    refine App_acc (ws.map fun x => [str x]) [[str (it l[k])]] rfl rfl rfl rfl (by simp) (hsz _) (by intro r hr; simp at hr; subst hr; rfl) (by simp only [List.length_map, List.length_cons, List.length_nil]; omega) (Nat.le_of_ble_eq_true rfl) ?_
    repeat' ((conv => whnf); (first
      | (refine Br_true (by assumption) ?_)
      | (refine Br_false (by assumption) ?_)
      | (refine Br_true (beqT (by omega)) ?_)
      | (refine Br_false (beqF (by omega)) ?_)
      | (refine Br_beq (fun h => ?_) (fun h => ?_))
      | (refine Br_true (bneT (by omega)) ?_)
      | (refine Br_false (bneF (by omega)) ?_)
      | (refine Br_bne (fun h => ?_) (fun h => ?_))
      | (refine Br_true (decide_eq_true (by omega)) ?_)
      | (refine Br_false (decide_eq_false (by omega)) ?_)
      | (refine Br_dec (fun h => ?_) (fun h => ?_))
      | (refine Br_not ?_)
      | (refine Len_in (fun hlen => ?_))
      | (refine Back_in ⟨[(5, .msl 0 0 ((ws.map fun x => [str x]).length + 1) ((ws.map fun x => [str x]).length + 1) 1), (10, .d (ints l)), (11, .i (List.map intCs l).length), (12, .i (k + 1 : Nat))], 24, [some (.row (((ws.map fun x => [str x]) ++ [[str (it l[k])]]).flatten.map .d))], 0, []⟩ _ ⟨k + 1, ws ++ [it l[k]], by omega, rfl, htk.symm, ?_⟩ (by omega) (Wk_ren [1] rfl rfl ⟨⟨by rw [renB_row]; rfl, lowB_row _ _⟩, trivial⟩ (by repeat (first | exact trivial | refine ⟨⟨rfl, rfl⟩, ?_⟩)) (by decide) (by omega)))
      | (refine Br_split (fun h => ?_) (fun h => ?_))
      | (refine fin0 rfl ?_)
      | (refine ArK_in (wrap_i64 (by omega) (by omega)) ?_)
      | (refine force_in ?_)))
    rw [hmap, ha.1, ha.2]
    rfl
  · have hkl : l.length ≤ k := by rw [hcl] at h; omega
    rw [List.take_of_length_le hkl] at hws
    rw [← hws] at hj ⊢
    have hjn := join_c ws 32 (by omega) (by omega)
    unfold texts at hjn
    repeat' ((conv => whnf); (first
      | (refine Br_true (by assumption) ?_)
      | (refine Br_false (by assumption) ?_)
      | (refine Br_true (beqT (by omega)) ?_)
      | (refine Br_false (beqF (by omega)) ?_)
      | (refine Br_beq (fun h => ?_) (fun h => ?_))
      | (refine Br_true (bneT (by omega)) ?_)
      | (refine Br_false (bneF (by omega)) ?_)
      | (refine Br_bne (fun h => ?_) (fun h => ?_))
      | (refine Br_true (decide_eq_true (by omega)) ?_)
      | (refine Br_false (decide_eq_false (by omega)) ?_)
      | (refine Br_dec (fun h => ?_) (fun h => ?_))
      | (refine Br_not ?_)
      | (refine Len_in (fun hlen => ?_))
      | (refine Tri.peek hjn rfl [0] rfl (FV_args2 (FV_acc _ rfl (hsz _)) (.same _ rfl)) ?_)
      | (refine Br_split (fun h => ?_) (fun h => ?_))
      | (refine fin0 rfl ?_)
      | (refine ArK_in (wrap_i64 (by omega) (by omega)) ?_)
      | (refine force_in ?_)))
    rfl
end Go.Eng
set_option linter.unusedVariables false
set_option linter.unusedSimpArgs false
set_option maxRecDepth 20000
namespace Go.Eng
open Go
theorem it_len {n : Int} (h : -9223372036854775808 ≤ n ∧ n ≤ 9223372036854775807) : (it n).length ≤ 21 := Lib.itoa_length_le n h.1 h.2
theorem joinL_app (c : UInt8) (u v : List (List UInt8)) (hu : u ≠ []) (hv : v ≠ []) : joinL c (u ++ v) = joinL c u ++ c :: joinL c v := by
  induction u with
  | nil => exact absurd rfl hu
  | cons a r ih =>
    cases r with
    | nil => rw [List.singleton_append, joinL_cons c a hv]; rfl
    | cons b t =>
      rw [List.cons_append, joinL_cons c a (by simp), ih (by simp), joinL_cons c a (by simp), List.append_assoc]
      rfl
end Go.Eng
