/- What the seat's proofs lean on, part 6: the executor over abstract values, its soundness, and what the program's functions answer (Shd2, Slt1, Slt2, Slt3, Dlf1, Dlf2, Slt4, Flt1, Flt2, Flt3, Sp44, Aim1, Sp45, Aim2, Sp46, Lis1, Lis2, Cpy1, Cpy2, Sp4, Srt1, Srt2, Sp5, Set1, Lis3, Top1, Eng38, Top2, Sp47, Top3, Top4, Sp48, Vw1). -/
import Derived.Test.YtekooegnkifokaaGreatEng05
import Derived.Test.YtekooegnkifokaaGreatEng04
import Derived.Test.YtekooegnkifokaaGreatEng02
set_option linter.all false
set_option linter.unusedVariables false
set_option linter.unusedSimpArgs false
set_option maxRecDepth 100000
set_option linter.unusedVariables false
set_option linter.unusedSimpArgs false
namespace Go.Eng
open Go Go.Proofs
theorem retO_turn {t : Tree} {holds : List Int} : ∀ (f g : Nat) (a : Int), allOk t a = true → endsF t f a = true → f ≤ g → ∀ g', f ≤ g' → retO t holds g a = retO t holds g' a := by
  intro f
  induction f using Nat.strongRecOn with
  | _ f ih =>
    intro g a ha he hg g' hg'
    obtain ⟨f', h1, h2, _⟩ := climb_turn ha he
    obtain ⟨g0, rfl⟩ := Nat.exists_eq_succ_of_ne_zero (by omega : g ≠ 0)
    obtain ⟨g1, rfl⟩ := Nat.exists_eq_succ_of_ne_zero (by omega : g' ≠ 0)
    simp only [retO]
    by_cases hc : hostR t a ≠ -1 ∧ (holds.any (· == (nd t (hostR t a)).root)) = false
    · rw [if_pos hc, if_pos hc]
      exact ih f' h1 g0 _ ((hostR_ok ha).resolve_left hc.1) h2 (by omega) g1 (by omega)
    · rw [if_neg hc, if_neg hc]
theorem retO_step {t : Tree} {holds : List Int} {c : Int} {μ : Nat} (hc : allOk t c = true) (he : endsF t μ c = true) (hμ : μ ≤ t.length + 1) :
    ∃ μ', μ' < μ ∧ endsF t μ' (hostR t c) = true ∧ (hostR t c ≠ -1 → (holds.any (· == (nd t (hostR t c)).root)) = false → retO t holds (t.length + 1) c = retO t holds (t.length + 1) (hostR t c)) ∧
      (hostR t c = -1 ∨ (holds.any (· == (nd t (hostR t c)).root)) = true → retO t holds (t.length + 1) c = c) := by
  obtain ⟨μ', h1, h2, _⟩ := climb_turn hc he
  refine ⟨μ', h1, h2, fun h3 h4 => ?_, fun h3 => ?_⟩
  · have : retO t holds (t.length + 1) c = retO t holds t.length (hostR t c) := by simp only [retO]; rw [if_pos ⟨h3, h4⟩]
    rw [this]
    exact retO_turn μ' _ _ ((hostR_ok hc).resolve_left h3) h2 (by omega) _ (by omega)
  · simp only [retO]
    rw [if_neg]
    rintro ⟨g1, g2⟩
    rcases h3 with h3 | h3
    · exact g1 h3
    · rw [g2] at h3; simp at h3
theorem shade_Retarget (t : Tree) (a b : Int) : Fn Tryz.prog 86 [.d (treeD t), .i a, .i b] (.i (retR t a b)) := by
  refine Fn_of tt_ok Tryz.func86 rfl (by decide) Tryz.ntmps86 rfl ?_
  cases ha : allOk t a
  · have e : retR t a b = -1 := by unfold retR; rw [ha]; rfl
    have h1 := shade_is t a
    rw [ha] at h1
    rw [e]
    refine W_scope 0 (fun _ _ => False) rfl ?_ (fun _ _ h => h.elim)
    refine W_run tt_ok ?_
    repeat' ((conv => whnf); (first
     | (refine Fn.use (h1) rfl rfl ?_)
     | (refine fin0 rfl ?_)))
    rfl
  cases hb : allOk t b
  · have e : retR t a b = -1 := by unfold retR; rw [ha, hb]; rfl
    have h1 := shade_is t a
    have h2 := shade_is t b
    rw [ha] at h1
    rw [hb] at h2
    rw [e]
    refine W_scope 0 (fun _ _ => False) rfl ?_ (fun _ _ h => h.elim)
    refine W_run tt_ok ?_
    repeat' ((conv => whnf); (first
     | (refine Fn.use (h1) rfl rfl ?_)
     | (refine Fn.use (h2) rfl rfl ?_)
     | (refine fin0 rfl ?_)))
    rfl
  have h1 := shade_is t a
  have h2 := shade_is t b
  rw [ha] at h1
  rw [hb] at h2
  have hu := shade_Up t b
  have e : retR t a b = retO t (shUpR t b) (t.length + 1) a := by unfold retR; rw [ha, hb]; rfl
  rw [e]
  generalize shUpR t b = holds at *
  have hm : mayB t = true ∧ isN t a = true := by unfold allOk at ha; simpa using ha
  refine W_scope 0 (fun μ s => ∃ (c : Int), allOk t c = true ∧ endsF t μ c = true ∧ μ ≤ t.length + 1 ∧ retO t holds (t.length + 1) a = retO t holds (t.length + 1) c ∧
      s = ⟨[(0, .d (treeD t)), (1, .i c), (7, .d (ints holds))], 39, [], 0, []⟩) rfl ?_ ?_
  · refine W_run tt_ok ?_
    have hh := shade_Host t a
    obtain ⟨μ', k1, k2, k3, k4⟩ := retO_step (holds := holds) ha (may_ends hm.1 hm.2) (Nat.le_refl _)
    have hok := hostR_ok ha
    generalize hostR t a = c1 at *
    by_cases h0 : c1 = -1
    · rw [k4 (.inl h0)]
      subst h0
      repeat' ((conv => whnf); (first
       | (refine Fn.use (h1) rfl rfl ?_)
       | (refine Fn.use (h2) rfl rfl ?_)
       | (refine Fn.use (hu) rfl rfl ?_)
       | (refine Fn.use (hh) rfl rfl ?_)
       | (refine fin0 rfl ?_)))
      rfl
    have hok1 := hok.resolve_left h0
    have hn1 : isN t c1 = true := by unfold allOk at hok1; simp at hok1; exact hok1.2
    have hcn := contains_int holds (nd t c1).root
    cases hb1 : holds.any (· == (nd t c1).root)
    · rw [hb1] at hcn
      have e1 := k3 h0 hb1
      repeat' ((conv => whnf); (first
       | (refine Br_true (bneT (by omega)) ?_)
       | (refine Fn.use (h1) rfl rfl ?_)
       | (refine Fn.use (h2) rfl rfl ?_)
       | (refine Fn.use (hu) rfl rfl ?_)
       | (refine Fn.use (hh) rfl rfl ?_)
       | (refine Idx_nd hn1 rfl ?_)
       | (refine Fn.use (hcn) rfl rfl ?_)
       | (refine Jump_in _ μ' ⟨c1, hok1, k2, by omega, e1, rfl⟩ (Wk_env (by repeat (first | exact trivial | refine ⟨rfl, ?_⟩))))))
    · rw [hb1] at hcn
      rw [k4 (.inr hb1)]
      repeat' ((conv => whnf); (first
       | (refine Br_true (bneT (by omega)) ?_)
       | (refine Fn.use (h1) rfl rfl ?_)
       | (refine Fn.use (h2) rfl rfl ?_)
       | (refine Fn.use (hu) rfl rfl ?_)
       | (refine Fn.use (hh) rfl rfl ?_)
       | (refine Idx_nd hn1 rfl ?_)
       | (refine Fn.use (hcn) rfl rfl ?_)
       | (refine fin0 rfl ?_)))
      rfl
  · rintro μ s1 ⟨c, hc, he, hμ, hL, rfl⟩
    rw [hL]
    refine W_run tt_ok ?_
    have hh := shade_Host t c
    obtain ⟨μ', k1, k2, k3, k4⟩ := retO_step (holds := holds) hc he hμ
    have hok := hostR_ok hc
    generalize hostR t c = c1 at *
    by_cases h0 : c1 = -1
    · rw [k4 (.inl h0)]
      subst h0
      repeat' ((conv => whnf); (first
       | (refine Fn.use (hh) rfl rfl ?_)
       | (refine fin0 rfl ?_)))
      rfl
    have hok1 := hok.resolve_left h0
    have hn1 : isN t c1 = true := by unfold allOk at hok1; simp at hok1; exact hok1.2
    have hcn := contains_int holds (nd t c1).root
    cases hb1 : holds.any (· == (nd t c1).root)
    · rw [hb1] at hcn
      have e1 := k3 h0 hb1
      repeat' ((conv => whnf); (first
       | (refine Br_true (bneT (by omega)) ?_)
       | (refine Fn.use (hh) rfl rfl ?_)
       | (refine Idx_nd hn1 rfl ?_)
       | (refine Fn.use (hcn) rfl rfl ?_)
       | (refine Back_in _ _ ⟨c1, hok1, k2, by omega, e1, rfl⟩ k1 (Wk_env (by repeat (first | exact trivial | refine ⟨rfl, ?_⟩))))))
    · rw [hb1] at hcn
      rw [k4 (.inr hb1)]
      repeat' ((conv => whnf); (first
       | (refine Br_true (bneT (by omega)) ?_)
       | (refine Fn.use (hh) rfl rfl ?_)
       | (refine Idx_nd hn1 rfl ?_)
       | (refine Fn.use (hcn) rfl rfl ?_)
       | (refine fin0 rfl ?_)))
      rfl
end Go.Eng
set_option maxRecDepth 100000
set_option linter.unusedVariables false
set_option linter.unusedSimpArgs false
namespace Go.Eng
open Go Go.Proofs
theorem slots_is (t : Tree) (n : Int) : Fn Tryz.prog 378 [.d (treeD t), .i n] (.b (allOk t n)) := by
  refine Fn_of tt_ok Tryz.func378 rfl (by decide) Tryz.ntmps378 rfl ?_
  cases ha : allOk t n
  · have e1 := topR_none ha
    repeat' ((conv => whnf); (first
     | (refine Fn.use (order_Top t n) rfl rfl ?_)
     | (refine fin0 rfl ?_)))
    all_goals simp_all
  · have h1 := topR_isN ha
    have h2 := nd_pos h1
    repeat' ((conv => whnf); (first
     | (refine Fn.use (order_Top t n) rfl rfl ?_)
     | (refine fin0 rfl ?_)))
    all_goals (simp_all; try omega)
theorem slots_slot (t : Tree) (n : Int) (hn : isN t n = true) : Fn Tryz.prog 379 [.d (treeD t), .i n] (.b (slotB t n)) := by
  refine Fn_of tt_ok Tryz.func379 rfl (by decide) Tryz.ntmps379 rfl ?_
  repeat' ((conv => whnf); (first
   | (refine Br_beq (fun h => ?_) (fun h => ?_))
   | (refine Fn.use (shade_Host t n) rfl rfl ?_)
   | (refine Idx_nd hn rfl ?_)
   | (refine fin0 rfl ?_)))
  all_goals (simp only [slotB, AV.d.injEq, D.bool.injEq] at *; simp_all)
  all_goals (by_cases hh : hostR t n = -1 <;> simp [hh])
theorem slots_name (t : Tree) (n : Int) : Fn Tryz.prog 392 [.d (treeD t), .i n] (.i (getP t n 4).1) := by
  refine Fn_of tt_ok Tryz.func392 rfl (by decide) Tryz.ntmps392 rfl ?_
  repeat' ((conv => whnf); (first
   | (refine Fn.use (attr_Get t n 4) rfl rfl ?_)
   | (refine fin0 rfl ?_)))
  rfl
theorem slots_root (t : Tree) (n : Int) : Fn Tryz.prog 391 [.d (treeD t), .i n] (.i (rootR t n)) := by
  refine Fn_of tt_ok Tryz.func391 rfl (by decide) Tryz.ntmps391 rfl ?_
  have h1 := slots_is t n
  cases ha : allOk t n
  · have e : rootR t n = -1 := by unfold rootR; rw [if_pos (.inl ha)]
    rw [ha] at h1
    rw [e]
    repeat' ((conv => whnf); (first
     | (refine Fn.use (h1) rfl rfl ?_)
     | (refine fin0 rfl ?_)))
    rfl
  · rw [ha] at h1
    have ha' := ha
    unfold allOk at ha'
    simp only [Bool.and_eq_true] at ha'
    have hp := may_par ha'.1 ha'.2
    by_cases h0 : (nd t n).parent = -1
    · have e : rootR t n = -1 := by unfold rootR; rw [if_pos (.inr h0)]
      rw [e]
      repeat' ((conv => whnf); (first
       | (refine Br_true (beqT (by omega)) ?_)
       | (refine Fn.use (h1) rfl rfl ?_)
       | (refine Idx_nd ha'.2 rfl ?_)
       | (refine fin0 rfl ?_)))
      all_goals (first | rfl | (exfalso; omega))
    · have hpn := hp.resolve_left h0
      have e : rootR t n = (nd t (nd t n).parent).root := by unfold rootR; rw [if_neg]; rintro (h | h); rw [ha] at h; simp at h; exact h0 h
      rw [e]
      repeat' ((conv => whnf); (first
       | (refine Br_false (beqF (by omega)) ?_)
       | (refine Fn.use (h1) rfl rfl ?_)
       | (refine Idx_nd ha'.2 rfl ?_)
       | (refine Idx_nd hpn rfl ?_)
       | (refine fin0 rfl ?_)))
      all_goals (first | rfl | (exfalso; omega))
end Go.Eng
set_option maxRecDepth 100000
set_option linter.unusedVariables false
set_option linter.unusedSimpArgs false
namespace Go.Eng
open Go Go.Proofs
def withinR (t : Tree) (r : Int) : List Int := (listR t r).filter (slotB t)
theorem slots_within (t : Tree) (n : Int) : Tri Tryz.prog 393 [.d (treeD t), .i n] [] fun v H => v = .clos (.func 406) [] [.ptr 0 0, .ptr 1 0] ∧ H = [some (.row [.d (treeD t)]), some (.row [.i n])] := by
  refine Tri_of (m := 0) tt_ok Tryz.func393 rfl (by decide) Tryz.ntmps393 (by rfl) rfl ?_
  repeat' ((conv => whnf); (first
   | (refine finR ?_)))
  rfl
theorem slots_within1 (t : Tree) (r : Int) : Seq2 406 [.ptr 0 0, .ptr 1 0] (treeD t) (.int .i64 r) ((withinR t r).map AV.i) := by
  intro Y hx hY
  refine Tri_of (m := 3) tt_ok Tryz.func406 rfl (by decide) Tryz.ntmps406 (by rfl) rfl ?_
  have hl := order_List t r
  have hN := listR_isN (t := t) (n := r)
  unfold withinR at *
  generalize listR t r = L at *
  have hkl : (List.map intCs L).length = L.length := by simp
  repeat' ((conv => whnf); (first
   | (refine Len_in (fun hlen => ?_))
   | (refine Fn.use (hl) rfl rfl ?_)))
  refine W_loop (fun μ s => ∃ (j : Nat), j ≤ L.length ∧ μ = L.length - j ∧
      s = ⟨[(0, .clos (.yield Y.l) [] []), (1, .ptr 0 0), (2, .ptr 1 0), (8, .d (ints L)), (9, .i (List.map intCs L).length), (10, .i j)], 24, [some (.row [.d (treeD t)]), some (.row [.i r]), some (.yl Y ((L.take j).filter (slotB t)).length)], 3, []⟩) L.length
    ⟨_, ?_, 0, by omega, by omega, rfl⟩ ?_
  · exact Wk_env (by repeat (first | exact trivial | refine ⟨rfl, ?_⟩))
  rintro μ s1 ⟨j, hj, rfl, rfl⟩
  refine W_run tt_ok ?_
  refine Br_dec (fun h => ?_) (fun h => ?_)
  · rw [hkl] at h
    have hlt : j < L.length := by omega
    refine Idx_in (intCs L[j]) (by simp [hlt]) (by omega) rfl ?_
    have hc := hN L[j] (List.getElem_mem hlt)
    have htk : L.take (j + 1) = L.take j ++ [L[j]] := List.take_succ_eq_append_getElem hlt
    have hsl := slots_slot t L[j] hc
    cases hs : slotB t L[j]
    · rw [hs] at hsl
      have e : (L.take (j + 1)).filter (slotB t) = (L.take j).filter (slotB t) := by rw [htk, List.filter_append]; simp [hs]
      repeat' ((conv => whnf); (first
       | (refine Fn.use (hsl) rfl rfl ?_)
       | (refine Back_in _ _ ⟨j + 1, by omega, rfl, rfl⟩ (by omega) ?_)
       | (refine ArK_in (wrap_i64 (by omega) (by omega)) ?_)))
      rw [e]
      exact Wk_env (by repeat (first | exact trivial | refine ⟨rfl, ?_⟩))
    · rw [hs] at hsl
      have e : (L.take (j + 1)).filter (slotB t) = (L.take j).filter (slotB t) ++ [L[j]] := by rw [htk, List.filter_append]; simp [hs]
      have hxk : Y.xs[((L.take j).filter (slotB t)).length]? = some (.i L[j]) := by
        rw [hx, List.getElem?_map]
        have e2 : L.filter (slotB t) = (L.take j).filter (slotB t) ++ ([L[j]] ++ (L.drop (j + 1)).filter (slotB t)) := by
          conv => lhs; rw [← List.take_append_drop (j + 1) L, List.filter_append, e, List.append_assoc]
        rw [e2, List.getElem?_append_right (Nat.le_refl _), Nat.sub_self]
        rfl
      repeat' ((conv => whnf); (first
       | (refine Fn.use (hsl) rfl rfl ?_)
       | (refine Yield_in 2 Y _ (.i L[j]) rfl rfl hY rfl rfl hxk ?_ ?_)
       | (refine Back_in _ _ ⟨j + 1, by omega, rfl, rfl⟩ (by omega) ?_)
       | (refine finQ (.inr rfl))
       | (refine ArK_in (wrap_i64 (by omega) (by omega)) ?_)))
      rw [e, List.length_append]
      exact Wk_env (by repeat (first | exact trivial | refine ⟨rfl, ?_⟩))
  · rw [hkl] at h
    have hjl : j = L.length := by omega
    repeat' ((conv => whnf); (first
     | (refine finQ (.inl ?_))))
    rw [hjl, List.take_length]
    simp
end Go.Eng
set_option maxRecDepth 100000
set_option linter.unusedVariables false
set_option linter.unusedSimpArgs false
namespace Go.Eng
open Go Go.Proofs
def fitB (t : Tree) (a : Int) (chosen manual : Bool) (mine s : Int) : Bool := (manual && chosen && (s == a)) || (!manual && ((getP t s 4).1 == mine))
def ofR (t : Tree) (n : Int) : Int :=
  if rootR t n = -1 then -1 else ((withinR t (rootR t n)).find? (fitB t (getP t n 9).1 (getP t n 9).2 (getP t (rootR t n) 8).2 (getP t n 4).1)).getD (-1)
def ofH (t : Tree) (r a : Int) (c m : Bool) (q : Int) : Heap := [some (.row [.d (treeD t)]), some (.row [.i r]), some (.row [.i a]), some (.row [.b c]), some (.row [.b m]), some (.row [.i q]), none, none, some .dfr]
theorem find_take {α : Type} {p : α → Bool} : ∀ {l : List α} {k : Nat} (h : k < l.length), (∀ x ∈ l.take k, p x = false) → p l[k] = true → l.find? p = some l[k] := by
  intro l
  induction l with
  | nil => intro k h; simp at h
  | cons a r ih =>
    intro k h h1 h2
    cases k with
    | zero => simp at h2 ⊢; simp [h2]
    | succ k =>
      have ha := h1 a (by simp)
      simp only [List.getElem_cons_succ] at h2 ⊢
      rw [List.find?_cons, ha]
      exact ih (by simpa using h) (fun x hx => h1 x (by simp [hx])) h2
set_option maxHeartbeats 2000000 in
theorem slots_Of (t : Tree) (n : Int) : Fn Tryz.prog 371 [.d (treeD t), .i n] (.i (ofR t n)) := by
  refine Fn_of tt_ok Tryz.func371 rfl (by decide) Tryz.ntmps371 rfl ?_
  have hr := slots_root t n
  by_cases h0 : rootR t n = -1
  · have e : ofR t n = -1 := by unfold ofR; rw [if_pos h0]
    rw [h0] at hr
    rw [e]
    repeat' ((conv => whnf); (first
     | (refine Fn.use (hr) rfl rfl ?_)
     | (refine fin0 rfl ?_)))
    rfl
  have hg := attr_Get t n 9
  have hh := attr_Has t (rootR t n) 8
  have hnm := slots_name t n
  have hw := slots_within t (rootR t n)
  have hs := slots_within1 t (rootR t n)
  have e : ofR t n = ((withinR t (rootR t n)).find? (fitB t (getP t n 9).1 (getP t n 9).2 (getP t (rootR t n) 8).2 (getP t n 4).1)).getD (-1) := by unfold ofR; rw [if_neg h0]
  rw [e]
  generalize (getP t (rootR t n) 8).2 = manual at *
  generalize getP t n 9 = ac at *
  obtain ⟨a, chosen⟩ := ac
  generalize (getP t n 4).1 = mine at *
  dsimp only at *
  generalize withinR t (rootR t n) = L at *
  generalize rootR t n = r at *
  repeat' ((conv => whnf); (first
   | (refine Br_false (beqF (by omega)) ?_)
   | (refine Fn.use (hr) rfl rfl ?_)
   | (refine Fn.use (hg) rfl rfl ?_)
   | (refine Fn.use (hh) rfl rfl ?_)
   | (refine Fn.use (hnm) rfl rfl ?_)
   | (refine Tri.call hw [] rfl rfl trivial rfl rfl rfl rfl (r := .clos (.func 406) [] [.ptr 6 0, .ptr 7 0]) (H' := [some (.row [.d (treeD t)]), some (.row [.i 0]), some (.row [.i a]), some (.row [.b chosen]), some (.row [.b manual]), some (.row [.i mine]), some (.row [.d (treeD t)]), some (.row [.i r])]) rfl rfl ?_)))
  refine W_rangeA [6, 7] (fs0 := []) (cs0 := [.ptr 0 0, .ptr 1 0]) (H0 := [some (.row [.d (treeD t)]), some (.row [.i r])]) (L.map AV.i)
    (fun k H => H = ofH t 0 a chosen manual mine ∧ ∀ x ∈ L.take k, fitB t a chosen manual mine x = false)
    (fun e H => e = .ret ∧ ∃ s more, (L.find? (fitB t a chosen manual mine)).getD (-1) = s ∧ H = ofH t s a chosen manual mine ++ more) rfl rfl rfl
    (by repeat (first | exact trivial | refine ⟨⟨rfl, rfl⟩, ?_⟩)) rfl rfl rfl rfl (by decide) (by decide) AsgOk_in rfl plain_ints ?_ ⟨rfl, by simp⟩ ?_ ?_ ?_
  · intro Y hx hY
    exact hs Y hx hY
  · rintro lp k z H' hx ⟨rfl, hno⟩ hlen hY
    obtain ⟨c, hc, rfl⟩ : ∃ c, L[k]? = some c ∧ z = .i c := by
      rw [List.getElem?_map] at hx
      cases h : L[k]? with
      | none => rw [h] at hx; simp at hx
      | some c => rw [h] at hx; simp at hx; exact ⟨c, rfl, hx.symm⟩
    have hlt : k < L.length := (List.getElem?_eq_some_iff.1 hc).1
    have hce : L[k] = c := (List.getElem?_eq_some_iff.1 hc).2
    have htk : L.take (k + 1) = L.take k ++ [c] := by rw [List.take_succ_eq_append_getElem hlt, hce]
    have hnc := slots_name t c
    cases hf : fitB t a chosen manual mine c
    · have hno2 : ∀ x ∈ L.take (k + 1), fitB t a chosen manual mine x = false := fun x hx => by
        rw [htk] at hx
        rcases List.mem_append.1 hx with hx | hx
        · exact hno x hx
        · simp at hx; subst hx; exact hf
      unfold fitB at hf
      refine W_run tt_ok ?_
      generalize (getP t c 4).1 = nm at *
      cases manual <;> cases chosen <;> simp at hf
      all_goals repeat' ((conv => whnf); (first
       | (refine Br_false (beqF (by omega)) ?_)
       | (refine W_draw 0 tt_ok mixed (by kernel_rfl) ?_)
       | (refine CallF_in (hnc) rfl rfl ?_)
       | (refine Rd_next (ofH t 0 a _ _ mine) (Wk_env (by repeat (first | exact trivial | refine ⟨rfl, ?_⟩))) rfl (by simp [ofH]) ⟨rfl, hno2⟩)))
    · have hfd : (L.find? (fitB t a chosen manual mine)).getD (-1) = c := by
        have hfl : fitB t a chosen manual mine L[k] = true := by rw [hce]; exact hf
        rw [find_take hlt hno hfl, hce]; rfl
      unfold fitB at hf
      refine W_run tt_ok ?_
      generalize (getP t c 4).1 = nm at *
      cases manual <;> cases chosen <;> simp at hf
      all_goals repeat' ((conv => whnf); (first
       | (refine Br_true (beqT (by omega)) ?_)
       | (refine W_draw 0 tt_ok mixed (by kernel_rfl) ?_)
       | (refine CallF_in (hnc) rfl rfl ?_)
       | (refine Rd_ret (ofH t c a _ _ mine) (Wk_env (by repeat (first | exact trivial | refine ⟨rfl, ?_⟩))) rfl (by simp [ofH]) ⟨rfl, c, [], hfd, by simp⟩)))
  · rintro H' ⟨rfl, hno⟩ hlen hY
    rw [List.length_map, List.take_length] at hno
    have : L.find? (fitB t a chosen manual mine) = none := by
      rw [List.find?_eq_none]
      intro x hx; simp [hno x hx]
    rw [this]
    repeat' ((conv => whnf); (first
     | (refine fin0 rfl ?_)))
    rfl
  · rintro e' H' c _ ⟨rfl, s, more, hs, rfl⟩ hl hY
    rw [hs]
    repeat' ((conv => whnf); (first
     | (refine fin0 rfl ?_)))
    rfl
end Go.Eng
set_option maxRecDepth 100000
set_option linter.unusedVariables false
set_option linter.unusedSimpArgs false
namespace Go.Eng
open Go Go.Proofs
theorem rowI_get (l : List Int) (k : Nat) (h : k < l.length) : (l.map AV.i)[0 + (k : Int).toNat * 1]? = some (.i l[k]) := by simp [h]
theorem indexFunc_own (l : List Int) (g : FuncId) (fs cs : List AV) (rest : Heap) (p : Int → Bool) (hp : ∀ k ∈ l, Tri Tryz.prog g (fs ++ [.i k] ++ cs) (some (.row (l.map AV.i)) :: rest) fun v H' => v = .b (p k) ∧ H' = some (.row (l.map AV.i)) :: rest) :
    Tri Tryz.prog 148 [.msl 0 0 l.length l.length 1, .clos (.func g) fs cs] (some (.row (l.map AV.i)) :: rest) fun v H' => v = .i (ix p l) ∧ H' = some (.row (l.map AV.i)) :: rest := by
  refine Tri_of (m := rest.length + 1) tt_ok Tryz.func148 rfl (by decide) Tryz.ntmps148 (by rfl) rfl ?_
  refine Len_in (fun hlen => ?_)
  refine W_loop (fun μ s => ∃ (k : Nat), k ≤ l.length ∧ μ = l.length - k ∧ (∀ j (h : j < l.length), j < k → p l[j] = false) ∧
      s = ⟨[(0, .msl 0 0 l.length l.length 1), (1, .clos (.func g) fs cs), (7, .i l.length), (8, .i k)], 19, some (.row (l.map AV.i)) :: rest, rest.length + 1, []⟩) l.length
    ⟨_, ?_, 0, by simp, by simp, by simp, rfl⟩ ?_
  · exact Wk_env (by repeat (first | exact trivial | refine ⟨rfl, ?_⟩))
  rintro μ s1 ⟨k, hk, rfl, hno, rfl⟩
  refine W_run tt_ok ?_
  refine Br_dec (fun h => ?_) (fun h => ?_)
  · have hlt : k < l.length := by omega
    have hb : (0 : Int) ≤ (k : Int) ∧ (k : Int) < (l.length : Int) := by omega
    have hd := ix_drop p l k hno hk
    rw [List.drop_eq_getElem_cons hlt] at hd
    refine Br_true (decide_eq_true hb) ?_
    conv => whnf
    refine Cell_in _ (rowI_get l k hlt) ?_
    skip
    refine Tri.use (hp l[k] (List.getElem_mem hlt)) ?_
    conv => whnf
    refine Br_split (fun hq => ?_) (fun hq => ?_)
    · repeat' ((conv => whnf); (first
     | (refine finR ?_)))
      simp only [AV.d.injEq, D.int.injEq, true_and, hd, ix]
      simp [hq]
    · repeat' ((conv => whnf); (first
     | (refine Back_in _ _ ⟨k + 1, by omega, rfl, ?_, rfl⟩ (by omega) (Wk_env (by repeat (first | exact trivial | refine ⟨rfl, ?_⟩))))
     | (refine ArK_in (wrap_i64 (by omega) (by omega)) ?_)))
      intro j hj hjk
      rcases Nat.lt_succ_iff_lt_or_eq.1 hjk with h1 | h1
      · exact hno j hj h1
      · subst h1; exact hq
  · have hd := ix_drop p l k hno hk
    rw [List.drop_eq_nil_of_le (by omega)] at hd
    repeat' ((conv => whnf); (first
     | (refine finR ?_)))
    simp [hd, ix]
end Go.Eng
set_option maxRecDepth 100000
set_option linter.unusedVariables false
set_option linter.unusedSimpArgs false
namespace Go.Eng
open Go Go.Proofs
theorem ix_none {p : Int → Bool} {l : List Int} (h : ix p l = -1) : ∀ x ∈ l, p x = false := by
  intro x hx
  have := ix_any p l
  rw [h] at this
  simp at this
  exact this x hx
theorem ix_first {α : Type} {p : α → Bool} : ∀ {l : List α} (h : 0 ≤ ix p l), ∃ i : Nat, ix p l = i ∧ i < l.length ∧ (∀ x ∈ l.take i, p x = false) ∧ ∃ hi : i < l.length, p l[i] = true := by
  intro l
  induction l with
  | nil => intro h; simp [ix] at h
  | cons a r ih =>
    intro h
    simp only [ix] at h ⊢
    cases ha : p a with
    | true => exact ⟨0, by simp, by simp, by simp, by simp, by simpa using ha⟩
    | false =>
      rw [ha] at h
      simp only [Bool.false_eq_true, if_false] at h ⊢
      have h0 : ¬ ix p r < 0 := by intro h1; rw [if_pos h1] at h; omega
      obtain ⟨i, g1, g2, g3, g4, g5⟩ := ih (by omega)
      rw [if_neg h0]
      refine ⟨i + 1, by omega, by simp; omega, ?_, by simp; omega, by simpa using g5⟩
      intro x hx
      rw [List.take_succ_cons] at hx
      rcases List.mem_cons.1 hx with rfl | hx
      · exact ha
      · exact g3 x hx
theorem filter_all {p : Int → Bool} {l : List Int} (h : ∀ x ∈ l, p x = false) : l.filter (fun x => !p x) = l := by
  rw [List.filter_eq_self]; intro x hx; simp [h x hx]
def keep (p : Int → Bool) (l : List Int) : List Int := l.filter fun x => !p x
theorem keep_len (p : Int → Bool) (l : List Int) : (keep p l).length ≤ l.length := List.length_filter_le _ _
structure Half (p : Int → Bool) (l : List Int) (j : Nat) (R : List AV) : Prop where
  len : R.length = l.length
  fst : R.take (keep p (l.take j)).length = (keep p (l.take j)).map AV.i
  snd : ∀ m, j ≤ m → R[m]? = (l.map AV.i)[m]?
theorem Half.skip {p : Int → Bool} {l : List Int} {j : Nat} {R : List AV} (h : Half p l j R) (hj : j < l.length) (hp : p l[j] = true) : Half p l (j + 1) R := by
  have e : keep p (l.take (j + 1)) = keep p (l.take j) := by unfold keep; rw [List.take_succ_eq_append_getElem hj, List.filter_append]; simp [hp]
  exact ⟨h.len, by rw [e]; exact h.fst, fun m hm => h.snd m (by omega)⟩
theorem Half.put {p : Int → Bool} {l : List Int} {j : Nat} {R : List AV} (h : Half p l j R) (hj : j < l.length) (hp : p l[j] = false) :
    Half p l (j + 1) (R.set (keep p (l.take j)).length (.i l[j])) ∧ (keep p (l.take (j + 1))).length = (keep p (l.take j)).length + 1 := by
  have e : keep p (l.take (j + 1)) = keep p (l.take j) ++ [l[j]] := by unfold keep; rw [List.take_succ_eq_append_getElem hj, List.filter_append]; simp [hp]
  have hk := keep_len p (l.take j)
  rw [List.length_take] at hk
  refine ⟨⟨by simp [h.len], ?_, fun m hm => ?_⟩, by rw [e]; simp⟩
  · rw [e, List.length_append, List.length_singleton, List.map_append, ← h.fst]
    generalize (keep p (l.take j)).length = i at *
    have hi : i < R.length := by rw [h.len]; omega
    rw [List.take_succ_eq_append_getElem (by simpa using hi), List.take_set_of_le (Nat.le_refl _)]
    simp
  · rw [List.getElem?_set_ne (by omega)]
    exact h.snd m (by omega)
def keepR (p : Int → Bool) (l : List Int) : List AV := (keep p l).map AV.i ++ List.replicate (l.length - (keep p l).length) (.i 0)
theorem splice_end {R vs : List AV} {o : Nat} (h : o + vs.length = R.length) : splice R o vs = R.take o ++ vs := by
  apply List.ext_getElem?
  intro m
  rw [splice_get _ _ _ _ (by omega), List.getElem?_append, List.length_take, Nat.min_eq_left (by omega), List.getElem?_take]
  by_cases hm : m < o
  · rw [if_neg (by omega), if_pos hm, if_pos hm]
  · rw [if_neg hm]
    by_cases h2 : m < o + vs.length
    · rw [if_pos ⟨by omega, h2⟩]
    · rw [if_neg (by omega), List.getElem?_eq_none (by omega), List.getElem?_eq_none (by omega)]
theorem repRow_one (x : AV) : ∀ n, repRow [x] n = List.replicate n x := by
  intro n
  induction n with
  | zero => rfl
  | succ n ih => simp [repRow, ih, List.replicate_succ]
set_option maxHeartbeats 2000000 in
theorem deleteFunc_int (l : List Int) (hl : l.length ≤ 100000) (g : FuncId) (fs cs : List AV) (rest : Heap) (p : Int → Bool) (hp : ∀ k ∈ l, ∀ R, Tri Tryz.prog g (fs ++ [.i k] ++ cs) (some (.row R) :: rest) fun v H' => v = .b (p k) ∧ H' = some (.row R) :: rest) :
    Tri Tryz.prog 79 [.msl 0 0 l.length l.length 1, .clos (.func g) fs cs] (some (.row (l.map AV.i)) :: rest)
      fun v H' => v = .msl 0 0 (keep p l).length l.length 1 ∧ H' = some (.row (keepR p l)) :: rest := by
  refine Tri_of (m := rest.length + 1) tt_ok Tryz.func79 rfl (by decide) Tryz.ntmps79 (by rfl) rfl ?_
  have hi := indexFunc_own l g fs cs rest p fun k hk => hp k hk _
  have hlo := ix_lo p l
  refine Tri.use hi ?_
  by_cases h0 : ix p l = -1
  · have e : keep p l = l := filter_all (ix_none h0)
    rw [h0, e]
    conv => whnf
    refine finQ ⟨rfl, ?_⟩
    unfold keepR
    rw [e, Nat.sub_self]
    simp
  obtain ⟨i, g1, g2, g3, g4, g5⟩ := ix_first (p := p) (l := l) (by omega)
  rw [g1]
  have hk0 : keep p (l.take i) = l.take i := filter_all g3
  have hH0 : Half p l (i + 1) (l.map AV.i) := Half.skip ⟨by simp, by rw [hk0, List.length_take, Nat.min_eq_left (by omega), List.map_take], fun m _ => rfl⟩ g4 g5
  have hkl : (keep p (l.take (i + 1))).length = i := by
    have e : keep p (l.take (i + 1)) = keep p (l.take i) := by unfold keep; rw [List.take_succ_eq_append_getElem g4, List.filter_append]; simp [g5]
    rw [e, hk0, List.length_take, Nat.min_eq_left (by omega)]
  repeat' ((conv => whnf); (first
   | (refine ArK_in (wrap_i64 (by omega) (by omega)) ?_)))
  refine W_loop (fun μ s => ∃ (j : Nat) (R : List AV), j ≤ l.length ∧ μ = l.length - j ∧ Half p l j R ∧ (keep p (l.take j)).length < j ∧
      s = ⟨[(0, .msl 0 0 l.length l.length 1), (1, .clos (.func g) fs cs), (5, .i (keep p (l.take j)).length), (6, .i j)], 42, some (.row R) :: rest, rest.length + 1, []⟩) (l.length - (i + 1))
    ⟨_, ?_, i + 1, l.map AV.i, by omega, rfl, hH0, by omega, rfl⟩ ?_
  · rw [hkl]; exact Wk_env (by repeat (first | exact trivial | refine ⟨rfl, ?_⟩))
  rintro μ s1 ⟨j, R, hj, rfl, hR, hlt, rfl⟩
  refine W_run tt_ok ?_
  have hRl := hR.len
  by_cases hjl : j < l.length
  · have hc := hp l[j] (List.getElem_mem hjl)
    have hget : R[0 + (j : Int).toNat * 1]? = some (.i l[j]) := by
      rw [show 0 + (j : Int).toNat * 1 = j by omega, hR.snd j (Nat.le_refl _)]; simp [hjl]
    have hb1 : (0 : Int) ≤ (j : Int) ∧ (j : Int) < (l.length : Int) := by omega
    cases hpj : p l[j]
    · obtain ⟨q1, q2⟩ := hR.put hjl hpj
      generalize (keep p (l.take j)).length = i at *
      have hb2 : (0 : Int) ≤ (i : Int) ∧ (i : Int) < (l.length : Int) := by omega
      rw [hpj] at hc
      have esp : splice R (0 + (i : Int).toNat * 1) [.i l[j]] = R.set i (.i l[j]) := by rw [show 0 + (i : Int).toNat * 1 = i by omega]; rfl
      repeat' ((conv => whnf); (first
       | (refine Br_true (Nat.ble_eq_true_of_le (by rw [hRl]; simp; omega)) ?_)
       | (refine Br_true (decide_eq_true (by omega)) ?_)
       | (refine Len_in (fun hlen => ?_))
       | (refine Cell_in _ hget ?_)
       | (refine Tri.use (hc R) ?_)
       | (refine Back_in _ _ ⟨j + 1, _, by omega, rfl, q1, by omega, rfl⟩ (by omega) ?_)
       | (refine ArK_in (wrap_i64 (by omega) (by omega)) ?_)))
      rw [q2, ← esp]
      exact Wk_env (by repeat (first | exact trivial | refine ⟨rfl, ?_⟩))
    · have q1 := hR.skip hjl hpj
      have e : keep p (l.take (j + 1)) = keep p (l.take j) := by unfold keep; rw [List.take_succ_eq_append_getElem hjl, List.filter_append]; simp [hpj]
      rw [hpj] at hc
      repeat' ((conv => whnf); (first
       | (refine Br_true (decide_eq_true (by omega)) ?_)
       | (refine Len_in (fun hlen => ?_))
       | (refine Cell_in _ hget ?_)
       | (refine Tri.use (hc R) ?_)
       | (refine Back_in _ _ ⟨j + 1, _, by omega, rfl, q1, by rw [e]; omega, rfl⟩ (by omega) ?_)
       | (refine ArK_in (wrap_i64 (by omega) (by omega)) ?_)))
      rw [e]
      exact Wk_env (by repeat (first | exact trivial | refine ⟨rfl, ?_⟩))
  · have hjn : j = l.length := by omega
    subst hjn
    have hf := hR.fst
    rw [List.take_length] at hf hlt
    have htk : l.take l.length = l := List.take_length
    rw [htk]
    have hkl2 := keep_len p l
    unfold keepR
    generalize keep p l = kp at *
    have hrep : ∀ n, (repRow [AV.i 0] n).length = n := fun n => by rw [repRow_length]; simp
    have hsp : ∀ (o n : Nat), o = kp.length → n = l.length - kp.length → [some (Blk.row (splice R o (repRow [AV.i 0] n)))] ++ rest = some (.row (kp.map AV.i ++ List.replicate (l.length - kp.length) (.i 0))) :: rest := fun o n ho hn => by
      subst ho hn
      rw [splice_end (by rw [hrep, hRl]; omega), hf, repRow_one]
      rfl
    repeat' ((conv => whnf); (first
     | (refine Br_false (decide_eq_false (by omega)) ?_)
     | (refine Len_in (fun hlen => ?_))
     | (refine Ch_l (Need_in ⟨by omega, by omega, by omega, rfl, by omega⟩ ?_))
     | (refine Need_in (by rw [hRl]; omega) ?_)
     | (refine finQ ⟨?_, ?_⟩)))
    · show AV.msl 0 (0 + Int.toNat 0 * 1) ((kp.length : Int).toNat - Int.toNat 0) (l.length - Int.toNat 0) 1 = _
      congr 1
    · exact hsp _ _ (by omega) (by omega)
theorem intsA (l : List Int) : ((l.map intCs).flatten).map AV.d = l.map AV.i := by
  induction l with
  | nil => rfl
  | cons a r ih => simp only [List.map_cons, List.flatten_cons, List.map_append, ih]; rfl
theorem cloneOwn_ints (l : List Int) (hne : l ≠ []) (hl : l.length ≤ 1000) : Tri Tryz.prog 75 [.d (ints l)] [] fun v H => v = .msl 0 0 l.length l.length 1 ∧ H = [some (.row (l.map AV.i))] := by
  refine Tri_of (m := 0) tt_ok Tryz.func75 rfl (by decide) Tryz.ntmps75 (by rfl) rfl ?_
  have e : (List.map intCs l).length = l.length := by simp
  have hn : l.map intCs ≠ [] := by simpa using hne
  refine Nil_in fun b hb => ?_
  obtain rfl := hb hn
  skip
  refine Ch_r ?_
  skip
  refine App_esl (l.map intCs) rfl rfl hn cs1 (by omega) (Nat.le_of_ble_eq_true rfl) ?_
  rw [intsA]
  repeat' ((conv => whnf); (first
   | (refine finQ ⟨by rw [← e]; rfl, rfl⟩)))
end Go.Eng
set_option maxRecDepth 100000
set_option linter.unusedVariables false
set_option linter.unusedSimpArgs false
namespace Go.Eng
open Go Go.Proofs
theorem indexFunc_esl (g : FuncId) (fs cs : List AV) (H : Heap) : Tri Tryz.prog 148 [.esl, .clos (.func g) fs cs] H fun v H' => v = .i (-1) ∧ H' = H := by
  refine Tri_of (m := H.length) tt_ok Tryz.func148 rfl (by decide) Tryz.ntmps148 (by rfl) rfl ?_
  skip
  refine W_loop (fun μ s => s = ⟨[(0, .esl), (1, .clos (.func g) fs cs), (7, .i 0), (8, .i 0)], 19, H, H.length, []⟩) 0 ⟨_, ?_, rfl⟩ ?_
  · exact Wk_env (by repeat (first | exact trivial | refine ⟨rfl, ?_⟩))
  rintro μ s1 rfl
  refine W_run tt_ok ?_
  repeat' ((conv => whnf); (first
   | (refine finR rfl)))
theorem deleteFunc_esl (g : FuncId) (fs cs : List AV) (H : Heap) : Tri Tryz.prog 79 [.esl, .clos (.func g) fs cs] H fun v H' => v = .esl ∧ H' = H := by
  refine Tri_of (m := H.length) tt_ok Tryz.func79 rfl (by decide) Tryz.ntmps79 (by rfl) rfl ?_
  have h := indexFunc_esl g fs cs H
  refine Tri.use h ?_
  repeat' ((conv => whnf); (first
   | (refine finR rfl)))
theorem cloneOwn_nil : Tri Tryz.prog 75 [.d (ints [])] [] fun v H => v = .esl ∧ H = [] := by
  refine Tri_of (m := 0) tt_ok Tryz.func75 rfl (by decide) Tryz.ntmps75 (by rfl) rfl ?_
  refine Nil_in fun b hb => ?_
  cases b
  · skip
    refine Ch_r ?_
    skip
    refine Ch_l ?_
    repeat' ((conv => whnf); (first
     | (refine Need_in rfl ?_)
     | (refine finQ ⟨rfl, rfl⟩)))
  · repeat' ((conv => whnf); (first
   | (refine finW (Fin_all (F := []) .nesl) ⟨rfl, rfl⟩)))
theorem slots_Assigned1 (t : Tree) (s k : Int) (rest : Option Blk) : Tri Tryz.prog 380 ([] ++ [.i k] ++ [.ptr 1 0, .ptr 2 0]) [rest, some (.row [.d (treeD t)]), some (.row [.i s])] fun v H' => v = .b (ofR t k != s) ∧ H' = [rest, some (.row [.d (treeD t)]), some (.row [.i s])] := by
  refine Tri_of (m := 3) tt_ok Tryz.func380 rfl (by decide) Tryz.ntmps380 (by rfl) rfl ?_
  repeat' ((conv => whnf); (first
   | (refine W_draw 0 tt_ok mixed (by kernel_rfl) ?_)
   | (refine CallF_in (slots_Of t k) rfl rfl ?_)
   | (refine finR ?_)))
  rfl
def asgR (t : Tree) (s : Int) : List Int := if allOk t s && slotB t s then keep (fun k => ofR t k != s) (nd t (hostR t s)).kids else []
theorem kids_len {t : Tree} {n : Int} (hm : mayB t = true) (hn : isN t n = true) : (nd t n).kids.length ≤ 64 := by
  have h64 := may_len64 hm
  have : (nd t n).kids.length ≤ t.length := nodup_isN (List.nodup_iff_count.2 fun k => by
    by_cases hk : k ∈ (nd t n).kids
    · exact Nat.le_of_eq ((may_ok hm hn).kids k hk).2.2.2
    · rw [List.count_eq_zero.2 hk]; omega) (fun x hx => ((may_ok hm hn).kids x hx).1)
  omega
theorem FV_keep {g : List Nat} {H : Heap} {b : Nat} (p : Int → Bool) (l : List Int) (hb : H[b]? = some (some (.row (keepR p l)))) : FV g [b] H (.msl b 0 (keep p l).length l.length 1) (.d (ints (keep p l))) := by
  have hk := keep_len p l
  refine .frz b 0 _ _ 1 (keepR p l) ((keep p l).map intCs) (by simp) (by unfold rowOf; rw [hb]) (by simp) cs1 (by unfold keepR; simp) fun i x y hi hx hy => ?_
  unfold keepR at hx
  rw [Nat.zero_add, List.getElem?_append_left (by simp; omega), List.getElem?_map] at hx
  have : ((keep p l).map intCs).flatten = (keep p l).map (D.int .i64) := by
    generalize keep p l = q
    induction q with
    | nil => rfl
    | cons a r ih => simp only [List.map_cons, List.flatten_cons, ih]; rfl
  rw [this, List.getElem?_map] at hy
  cases hq : (keep p l)[i]? with
  | none => rw [hq] at hx; simp at hx
  | some a => rw [hq] at hx hy; simp at hx hy; subst hx hy; exact .same _ rfl
theorem renL_ints (g : Nat → Nat) (l : List Int) : renL g (l.map AV.i) = l.map AV.i := by
  induction l with
  | nil => rfl
  | cons a r ih => simp only [List.map_cons, renL, ih]; rfl
theorem lowL_ints (k : Nat) (l : List Int) : lowL k (l.map AV.i) = true := by
  induction l with
  | nil => rfl
  | cons a r ih => simp only [List.map_cons, lowL, ih]; rfl
theorem renL_app (g : Nat → Nat) (a b : List AV) : renL g (a ++ b) = renL g a ++ renL g b := by
  induction a with
  | nil => rfl
  | cons x t ih => simp only [List.cons_append, renL, ih]
theorem renL_keep (g : Nat → Nat) (p : Int → Bool) (l : List Int) : renL g (keepR p l) = keepR p l := by
  unfold keepR
  rw [renL_app, renL_ints]
  congr 1
  rw [show List.replicate (l.length - (keep p l).length) (AV.i 0) = (List.replicate (l.length - (keep p l).length) (0 : Int)).map AV.i by simp, renL_ints]
theorem slots_Assigned (t : Tree) (s : Int) : Fn Tryz.prog 356 [.d (treeD t), .i s] (.d (ints (asgR t s))) := by
  refine Fn_of tt_ok Tryz.func356 rfl (by decide) Tryz.ntmps356 rfl ?_
  have h1 := slots_is t s
  cases ha : allOk t s
  · rw [ha] at h1
    have e : asgR t s = [] := by unfold asgR; rw [ha]; rfl
    rw [e]
    repeat' ((conv => whnf); (first
     | (refine Fn.use (h1) rfl rfl ?_)
     | (refine finD (F := []) .nsl)))
  rw [ha] at h1
  have ha' := ha
  unfold allOk at ha'
  simp only [Bool.and_eq_true] at ha'
  have h2 := slots_slot t s ha'.2
  cases hs : slotB t s
  · rw [hs] at h2
    have e : asgR t s = [] := by unfold asgR; rw [ha, hs]; rfl
    rw [e]
    repeat' ((conv => whnf); (first
     | (refine Fn.use (h1) rfl rfl ?_)
     | (refine Fn.use (h2) rfl rfl ?_)
     | (refine finD (F := []) .nsl)))
  rw [hs] at h2
  have hh : hostR t s ≠ -1 := by unfold slotB at hs; simp at hs; exact hs.2
  have hok := (hostR_ok ha).resolve_left hh
  unfold allOk at hok
  simp only [Bool.and_eq_true] at hok
  have hH := shade_Host t s
  have hkl := kids_len ha'.1 hok.2
  have e : asgR t s = keep (fun k => ofR t k != s) (nd t (hostR t s)).kids := by unfold asgR; rw [ha, hs]; rfl
  rw [e]
  have hidx := fun (K : List D → Prop) (hK : K (nd t (hostR t s)).cs) => Idx_nd (K := K) hok.2 (sz := 7) rfl hK
  generalize hostR t s = h at *
  generalize nd t h = X at *
  obtain ⟨kd, tg, pa, ks, ho, ro, ats⟩ := X
  dsimp only at hkl hidx ⊢
  cases hks : ks with
  | nil =>
    subst hks
    repeat' ((conv => whnf); (first
     | (refine Fn.use (h1) rfl rfl ?_)
     | (refine Fn.use (h2) rfl rfl ?_)
     | (refine W_draw (152 + 4) tt_ok mixed (by kernel_rfl) ?_)
     | (refine CallF_in hH rfl rfl ?_)
     | (refine hidx _ ?_)))
    conv => whnf
    refine CallH_in (r := .esl) [some (.row [.d (treeD t)]), some (.row [.i s])] (Nat.le_refl _) (fun K' hK => Tri.call cloneOwn_nil [] rfl rfl trivial rfl rfl rfl rfl rfl rfl hK) ?_
    conv => whnf
    refine CallH_in (r := .esl) [some (.row [.d (treeD t)]), some (.row [.i s])] (Nat.le_refl _) (fun K' hK => Tri.use (deleteFunc_esl _ _ _ _) hK) ?_
    conv => whnf
    exact finD (F := []) .esl
  | cons k0 kr =>
    rw [← hks]
    have hne : ks ≠ [] := by rw [hks]; simp
    clear hks
    have hcl := cloneOwn_ints ks hne (by omega)
    have hdl := deleteFunc_int ks (by omega) 380 [] [.ptr 1 0, .ptr 2 0] [some (.row [.d (treeD t)]), some (.row [.i s])] (fun k => ofR t k != s) fun k _ R => slots_Assigned1 t s k _
    have hrk := fun f => renL_keep f (fun k => ofR t k != s) ks
    have hfv : ∀ {H : Heap}, H[2]? = some (some (.row (keepR (fun k => ofR t k != s) ks))) → FV [] [2] H (.msl 2 0 (keep (fun k => ofR t k != s) ks).length ks.length 1) (.d (ints (keep (fun k => ofR t k != s) ks))) := fun h => FV_keep _ _ h
    generalize keepR (fun k => ofR t k != s) ks = KR at *
    generalize keep (fun k => ofR t k != s) ks = KP at *
    repeat' ((conv => whnf); (first
     | (refine Fn.use (h1) rfl rfl ?_)
     | (refine Fn.use (h2) rfl rfl ?_)
     | (refine W_draw (152 + 4) tt_ok mixed (by kernel_rfl) ?_)
     | (refine CallF_in hH rfl rfl ?_)
     | (refine hidx _ ?_)))
    conv => whnf
    refine CallH_in (r := .msl 2 0 ks.length ks.length 1) [some (.row [.d (treeD t)]), some (.row [.i s]), some (.row (ks.map AV.i))] (Nat.le_succ _) (fun K' hK => Tri.call hcl [] rfl rfl trivial rfl rfl rfl rfl rfl (by rw [patch_nil]; simp only [renH, renB, renL_ints]; rfl) hK) ?_
    conv => whnf
    refine CallH_in (r := .msl 2 0 KP.length ks.length 1) [some (.row [.d (treeD t)]), some (.row [.i s]), some (.row KR)] (Nat.le_refl _) (fun K' hK => Tri.call hdl [2, 0, 1] rfl rfl ⟨⟨by simp only [renB, renL_ints]; rfl, lowL_ints _ _⟩, ⟨rfl, rfl⟩, ⟨rfl, rfl⟩, trivial⟩ rfl rfl rfl rfl rfl (by show [some (Blk.row [AV.d (treeD t)]), some (Blk.row [AV.i s]), some (Blk.row (renL (hmap [2, 0, 1] 3) KR))] = _; rw [hrk]) hK) ?_
    conv => whnf
    exact finD (F := [2]) (hfv rfl)
end Go.Eng
set_option maxRecDepth 100000
set_option linter.unusedVariables false
set_option linter.unusedSimpArgs false
namespace Go.Eng
open Go Go.Proofs
theorem flat_is (t : Tree) (n : Int) : Fn Tryz.prog 255 [.d (treeD t), .i n] (.b (allOk t n)) := by
  refine Fn_of tt_ok Tryz.func255 rfl (by decide) Tryz.ntmps255 rfl ?_
  cases ha : allOk t n
  · have e1 := topR_none ha
    repeat' ((conv => whnf); (first
     | (refine Fn.use (order_Top t n) rfl rfl ?_)
     | (refine fin0 rfl ?_)))
    all_goals simp_all
  · have h1 := topR_isN ha
    have h2 := nd_pos h1
    repeat' ((conv => whnf); (first
     | (refine Fn.use (order_Top t n) rfl rfl ?_)
     | (refine fin0 rfl ?_)))
    all_goals (simp_all; try omega)
def fkR (t : Tree) (n : Int) : List Int :=
  if (nd t n).kind = 3 then [] else if (nd t n).root ≠ -1 then (nd t (nd t n).root).kids else if asgR t n ≠ [] then asgR t n else (nd t n).kids
theorem flat_kids (t : Tree) (n : Int) (ha : allOk t n = true) : Fn Tryz.prog 319 [.d (treeD t), .i n] (.d (ints (fkR t n))) := by
  refine Fn_of tt_ok Tryz.func319 rfl (by decide) Tryz.ntmps319 rfl ?_
  have ha' := ha
  unfold allOk at ha'
  simp only [Bool.and_eq_true] at ha'
  have hA := slots_Assigned t n
  have hrt := (may_ok ha'.1 ha'.2).rt
  have hal : (List.map intCs (asgR t n)).length = (asgR t n).length := by simp
  by_cases h3 : (nd t n).kind = 3
  · have e : fkR t n = [] := by unfold fkR; rw [if_pos h3]
    rw [e]
    repeat' ((conv => whnf); (first
     | (refine Br_true (beqT (by omega)) ?_)
     | (refine Idx_nd ha'.2 rfl ?_)
     | (refine finD (F := []) .nsl)))
  by_cases hr : (nd t n).root = -1
  · by_cases has : asgR t n = []
    · have e : fkR t n = (nd t n).kids := by unfold fkR; rw [if_neg h3, if_neg (by simpa using hr), if_neg (by simpa using has)]
      rw [e]
      rw [has] at hA
      repeat' ((conv => whnf); (first
       | (refine Br_false (beqF (by omega)) ?_)
       | (refine Br_false (bneF (by omega)) ?_)
       | (refine Len_in (fun hlen => ?_))
       | (refine Idx_nd ha'.2 rfl ?_)
       | (refine Fn.use (hA) rfl rfl ?_)
       | (refine fin0 rfl ?_)))
      all_goals (first | rfl | (exfalso; simp_all))
    · have e : fkR t n = asgR t n := by unfold fkR; rw [if_neg h3, if_neg (by simpa using hr), if_pos has]
      have hpos : 0 < (asgR t n).length := List.length_pos_iff.2 has
      rw [e]
      generalize asgR t n = A at *
      repeat' ((conv => whnf); (first
       | (refine Br_false (beqF (by omega)) ?_)
       | (refine Br_false (bneF (by omega)) ?_)
       | (refine Br_true (decide_eq_true (by omega)) ?_)
       | (refine Len_in (fun hlen => ?_))
       | (refine Idx_nd ha'.2 rfl ?_)
       | (refine Fn.use (hA) rfl rfl ?_)
       | (refine fin0 rfl ?_)))
      all_goals (first | rfl | (exfalso; omega))
  · obtain ⟨_, g2, _, _⟩ := hrt hr
    have e : fkR t n = (nd t (nd t n).root).kids := by unfold fkR; rw [if_neg h3, if_pos hr]
    rw [e]
    repeat' ((conv => whnf); (first
     | (refine Br_false (beqF (by omega)) ?_)
     | (refine Br_true (bneT (by omega)) ?_)
     | (refine Idx_nd ha'.2 rfl ?_)
     | (refine Idx_nd g2 rfl ?_)
     | (refine fin0 rfl ?_)))
    all_goals (first | rfl | (exfalso; omega))
def foR (t : Tree) (n : Int) : Int :=
  if (nd t n).parent = -1 then -1 else if (nd t (nd t n).parent).kind = 3 then hostR t n else if (nd t (nd t n).parent).root ≠ -1 then ofR t n else (nd t n).parent
theorem flat_over (t : Tree) (n : Int) (ha : allOk t n = true) : Fn Tryz.prog 347 [.d (treeD t), .i n] (.i (foR t n)) := by
  refine Fn_of tt_ok Tryz.func347 rfl (by decide) Tryz.ntmps347 rfl ?_
  have ha' := ha
  unfold allOk at ha'
  simp only [Bool.and_eq_true] at ha'
  have hp := may_par ha'.1 ha'.2
  have hH := shade_Host t n
  have hO := slots_Of t n
  by_cases h0 : (nd t n).parent = -1
  · have e : foR t n = -1 := by unfold foR; rw [if_pos h0]
    rw [e]
    repeat' ((conv => whnf); (first
     | (refine Br_true (beqT (by omega)) ?_)
     | (refine Idx_nd ha'.2 rfl ?_)
     | (refine fin0 rfl ?_)))
    all_goals (first | rfl | (exfalso; omega))
  have hpn := hp.resolve_left h0
  by_cases h3 : (nd t (nd t n).parent).kind = 3
  · have e : foR t n = hostR t n := by unfold foR; rw [if_neg h0, if_pos h3]
    rw [e]
    repeat' ((conv => whnf); (first
     | (refine Br_true (beqT (by omega)) ?_)
     | (refine Br_false (beqF (by omega)) ?_)
     | (refine Idx_nd ha'.2 rfl ?_)
     | (refine Idx_nd hpn rfl ?_)
     | (refine Fn.use (hH) rfl rfl ?_)
     | (refine fin0 rfl ?_)))
    all_goals (first | rfl | (exfalso; omega))
  by_cases hr : (nd t (nd t n).parent).root = -1
  · have e : foR t n = (nd t n).parent := by unfold foR; rw [if_neg h0, if_neg h3, if_neg (by simpa using hr)]
    rw [e]
    repeat' ((conv => whnf); (first
     | (refine Br_false (beqF (by omega)) ?_)
     | (refine Br_false (bneF (by omega)) ?_)
     | (refine Idx_nd ha'.2 rfl ?_)
     | (refine Idx_nd hpn rfl ?_)
     | (refine fin0 rfl ?_)))
    all_goals (first | rfl | (exfalso; omega))
  · have e : foR t n = ofR t n := by unfold foR; rw [if_neg h0, if_neg h3, if_pos hr]
    rw [e]
    repeat' ((conv => whnf); (first
     | (refine Br_false (beqF (by omega)) ?_)
     | (refine Br_true (bneT (by omega)) ?_)
     | (refine Idx_nd ha'.2 rfl ?_)
     | (refine Idx_nd hpn rfl ?_)
     | (refine Fn.use (hO) rfl rfl ?_)
     | (refine fin0 rfl ?_)))
    all_goals (first | rfl | (exfalso; omega))
end Go.Eng
set_option maxRecDepth 100000
set_option linter.unusedVariables false
set_option linter.unusedSimpArgs false
namespace Go.Eng
open Go Go.Proofs
theorem ofR_ok (t : Tree) (n : Int) (hm : mayB t = true) : ofR t n = -1 ∨ allOk t (ofR t n) = true := by
  unfold ofR
  split
  · exact .inl rfl
  · cases h : (withinR t (rootR t n)).find? (fitB t (getP t n 9).1 (getP t n 9).2 (getP t (rootR t n) 8).2 (getP t n 4).1) with
    | none => exact .inl rfl
    | some s =>
      right
      have h1 := List.mem_of_find?_eq_some h
      unfold withinR at h1
      have h2 := listR_isN s (List.mem_filter.1 h1).1
      show allOk t s = true
      unfold allOk
      rw [hm, h2]; rfl
theorem foR_ok (t : Tree) (n : Int) (ha : allOk t n = true) : foR t n = -1 ∨ allOk t (foR t n) = true := by
  have ha' := ha
  unfold allOk at ha'
  simp only [Bool.and_eq_true] at ha'
  unfold foR
  split
  · exact .inl rfl
  · rename_i h0
    have hpn := (may_par ha'.1 ha'.2).resolve_left h0
    split
    · exact hostR_ok ha
    · split
      · exact ofR_ok t n ha'.1
      · right; unfold allOk; rw [ha'.1, hpn]; rfl
def fpR (t : Tree) (n : Int) : Int := if allOk t n = false then -1 else if foR t n ≠ -1 ∧ (fkR t (foR t n)).any (· == n) = true then foR t n else -1
theorem flat_Parent (t : Tree) (n : Int) : Fn Tryz.prog 315 [.d (treeD t), .i n] (.i (fpR t n)) := by
  refine Fn_of tt_ok Tryz.func315 rfl (by decide) Tryz.ntmps315 rfl ?_
  have h1 := flat_is t n
  cases ha : allOk t n
  · have e : fpR t n = -1 := by unfold fpR; rw [if_pos ha]
    rw [ha] at h1
    rw [e]
    repeat' ((conv => whnf); (first
     | (refine Fn.use (h1) rfl rfl ?_)
     | (refine fin0 rfl ?_)))
    rfl
  rw [ha] at h1
  have ho := flat_over t n ha
  have hok := foR_ok t n ha
  have e : fpR t n = if foR t n ≠ -1 ∧ (fkR t (foR t n)).any (· == n) = true then foR t n else -1 := by unfold fpR; rw [if_neg (by rw [ha]; simp)]
  rw [e]
  generalize foR t n = p at *
  by_cases h0 : p = -1
  · subst h0
    rw [if_neg (by simp)]
    repeat' ((conv => whnf); (first
     | (refine Fn.use (h1) rfl rfl ?_)
     | (refine Fn.use (ho) rfl rfl ?_)
     | (refine fin0 rfl ?_)))
    rfl
  have hk := flat_kids t p (hok.resolve_left h0)
  have hc := contains_int (fkR t p) n
  generalize fkR t p = ks at *
  cases hb : ks.any (· == n)
  · rw [hb] at hc
    rw [if_neg (by simp)]
    repeat' ((conv => whnf); (first
     | (refine Br_true (bneT (by omega)) ?_)
     | (refine Fn.use (h1) rfl rfl ?_)
     | (refine Fn.use (ho) rfl rfl ?_)
     | (refine Fn.use (hk) rfl rfl ?_)
     | (refine Fn.use (hc) rfl rfl ?_)
     | (refine fin0 rfl ?_)))
    rfl
  · rw [hb] at hc
    rw [if_pos ⟨h0, rfl⟩]
    repeat' ((conv => whnf); (first
     | (refine Br_true (bneT (by omega)) ?_)
     | (refine Fn.use (h1) rfl rfl ?_)
     | (refine Fn.use (ho) rfl rfl ?_)
     | (refine Fn.use (hk) rfl rfl ?_)
     | (refine Fn.use (hc) rfl rfl ?_)
     | (refine fin0 rfl ?_)))
    rfl
def fupO (t : Tree) : Nat → Int → Option (List Int)
  | 0, _ => none
  | f + 1, n => if n = -1 then some [] else (fupO t f (fpR t n)).map (n :: ·)
theorem flat_up (t : Tree) (n : Int) : Tri Tryz.prog 257 [.d (treeD t), .i n] [] fun v H => v = .clos (.func 314) [] [.ptr 1 0, .ptr 0 0] ∧ H = [some (.row [.d (treeD t)]), some (.row [.i n])] := by
  refine Tri_of (m := 0) tt_ok Tryz.func257 rfl (by decide) Tryz.ntmps257 (by rfl) rfl ?_
  repeat' ((conv => whnf); (first
   | (refine finR ?_)))
  rfl
theorem flat_up1 (t : Tree) (n : Int) (f : Nat) (L : List Int) (hL : fupO t f n = some L) : Seq2 314 [.ptr 1 0, .ptr 0 0] (treeD t) (.int .i64 n) (L.map AV.i) := by
  intro Y hx hY
  rw [← hx]
  refine Tri_of (m := 3) tt_ok Tryz.func314 rfl (by decide) Tryz.ntmps314 (by rfl) rfl ?_
  refine W_loop (fun μ s => ∃ (k : Nat) (c : Int) (r : List Int), fupO t μ c = some r ∧ L.drop k = r ∧ L.length = k + r.length ∧
      s = ⟨[(0, .clos (.yield Y.l) [] []), (1, .ptr 1 0), (2, .ptr 0 0)], 14, [some (.row [.d (treeD t)]), some (.row [.i c]), some (.yl Y k)], 3, []⟩) f
    ⟨_, ?_, 0, n, L, hL, by simp, by simp, rfl⟩ ?_
  · exact Wk_env (by repeat (first | exact trivial | refine ⟨rfl, ?_⟩))
  rintro μ s1 ⟨k, c, r, he, hd, hl, rfl⟩
  have hxl : Y.xs.length = k + r.length := by rw [hx]; simpa using hl
  refine W_run tt_ok ?_
  cases μ with
  | zero => simp [fupO] at he
  | succ f' =>
  simp only [fupO] at he
  refine Br_bne (fun h1 => ?_) (fun h1 => ?_)
  · rw [if_neg h1] at he
    cases hr : fupO t f' (fpR t c) with
    | none => rw [hr] at he; simp at he
    | some r' =>
    rw [hr] at he
    simp at he
    subst he
    have hxk : Y.xs[k]? = some (.i c) := by
      rw [hx, List.getElem?_map]
      have : L[k]? = some c := by
        have := congrArg (·[0]?) hd
        simpa using this
      rw [this]; rfl
    have hd' : L.drop (k + 1) = r' := by
      have := congrArg List.tail hd
      rw [List.tail_drop] at this
      simpa using this
    have hl' : L.length = (k + 1) + r'.length := by rw [hl, List.length_cons]; omega
    have hp := flat_Parent t c
    refine Yield_in 2 Y k (.i c) rfl rfl hY rfl rfl hxk ?_ ?_
    · repeat' ((conv => whnf); (first
     | (refine Fn.use (hp) rfl rfl ?_)
     | (refine Back_in _ _ ⟨k + 1, _, r', hr, hd', hl', rfl⟩ (by omega) (Wk_env (by repeat (first | exact trivial | refine ⟨rfl, ?_⟩))))))
    · repeat' ((conv => whnf); (first
     | (refine finQ (.inr rfl))))
  · rw [if_pos h1] at he
    simp at he
    subst he
    repeat' ((conv => whnf); (first
     | (refine finQ (.inl ?_))))
    rw [hxl]; rfl
end Go.Eng
set_option maxRecDepth 100000
set_option linter.unusedVariables false
set_option linter.unusedSimpArgs false
namespace Go.Eng
open Go Go.Proofs
def FUp (t : Tree) (n : Int) (L : List Int) : Prop := (allOk t n = false ∧ L = []) ∨ (allOk t n = true ∧ L.length ≤ 10000 ∧ ∃ f, fupO t f n = some L)
theorem flat_Up (t : Tree) (n : Int) (L : List Int) (h : FUp t n L) : Fn Tryz.prog 189 [.d (treeD t), .i n] (.d (ints L)) := by
  refine Fn_of tt_ok Tryz.func189 rfl (by decide) Tryz.ntmps189 rfl ?_
  have h1 := flat_is t n
  rcases h with ⟨ha, rfl⟩ | ⟨ha, hlen, f, hf⟩
  · rw [ha] at h1
    repeat' ((conv => whnf); (first
     | (refine Fn.use (h1) rfl rfl ?_)
     | (refine finD (F := []) .nsl)))
  · rw [ha] at h1
    have hc := collect_int 314 [.ptr 1 0, .ptr 0 0] (treeD t) (.int .i64 n) _ (.inr rfl) (flat_up1 t n f L hf) hlen
    repeat' ((conv => whnf); (first
     | (refine Fn.use (h1) rfl rfl ?_)
     | (refine Tri.call (flat_up t n) [] rfl rfl trivial rfl rfl rfl rfl (r := .clos (.func 314) [] [.ptr 1 0, .ptr 0 0]) (H' := [some (.row [.d (treeD t)]), some (.row [.i n])]) rfl rfl ?_)
     | (refine Tri.use hc ?_)
     | (refine fin0 rfl ?_)))
    rfl
theorem flat_Above (t : Tree) (a b : Int) (L : List Int) (h : FUp t b L) : Fn Tryz.prog 198 [.d (treeD t), .i a, .i b] (.b (L.any (· == a))) := by
  refine Fn_of tt_ok Tryz.func198 rfl (by decide) Tryz.ntmps198 rfl ?_
  have h1 := flat_Up t b L h
  have h2 := contains_int L a
  repeat' ((conv => whnf); (first
   | (refine Fn.use (h1) rfl rfl ?_)
   | (refine Fn.use (h2) rfl rfl ?_)
   | (refine fin0 rfl ?_)))
  rfl
theorem flat_Has (t : Tree) (n : Int) (L : List Int) (h : FUp t n L) : Fn Tryz.prog 383 [.d (treeD t), .i n] (.b (L.any (· == 0))) := by
  refine Fn_of tt_ok Tryz.func383 rfl (by decide) Tryz.ntmps383 rfl ?_
  have h1 := flat_Above t 0 n L h
  repeat' ((conv => whnf); (first
   | (refine Fn.use (h1) rfl rfl ?_)
   | (refine fin0 rfl ?_)))
  rfl
end Go.Eng
namespace Go.Eng
open Go
structure Ev where
  type : Int
  target : Int
  related : Int
  bubbles : Bool
  cancel : Bool
  composed : Bool
def Ev.cs (e : Ev) : List D := [.int .i64 e.type, .int .i64 e.target, .int .i64 e.related, .bool e.bubbles, .bool e.cancel, .bool e.composed]
end Go.Eng
set_option maxRecDepth 100000
set_option linter.unusedVariables false
set_option linter.unusedSimpArgs false
namespace Go.Eng
open Go Go.Proofs
theorem aim_is (t : Tree) (n : Int) : Fn Tryz.prog 368 [.d (treeD t), .i n] (.b (allOk t n)) := by
  refine Fn_of tt_ok Tryz.func368 rfl (by decide) Tryz.ntmps368 rfl ?_
  cases ha : allOk t n
  · have e1 := topR_none ha
    repeat' ((conv => whnf); (first
     | (refine Fn.use (order_Top t n) rfl rfl ?_)
     | (refine fin0 rfl ?_)))
    all_goals simp_all
  · have h1 := topR_isN ha
    have h2 := nd_pos h1
    repeat' ((conv => whnf); (first
     | (refine Fn.use (order_Top t n) rfl rfl ?_)
     | (refine fin0 rfl ?_)))
    all_goals (simp_all; try omega)
def apR (t : Tree) (n : Int) (e : Ev) : Int :=
  if allOk t n = false ∨ allOk t e.target = false then -1
  else if ofR t n ≠ -1 then ofR t n
  else if (nd t n).kind = 3 ∧ e.composed = false ∧ topR t e.target = n then -1
  else hi (nd t n)
theorem aim_Parent (t : Tree) (n : Int) (e : Ev) : Fn Tryz.prog 369 [.d (treeD t), .i n, aggD e.cs] (.i (apR t n e)) := by
  refine Fn_of tt_ok Tryz.func369 rfl (by decide) Tryz.ntmps369 rfl ?_
  have h1 := aim_is t n
  have h2 := aim_is t e.target
  cases ha : allOk t n
  · have e1 : apR t n e = -1 := by unfold apR; rw [if_pos (.inl ha)]
    rw [ha] at h1
    rw [e1]
    repeat' ((conv => whnf); (first
     | (refine Fn.use (h1) rfl rfl ?_)
     | (refine fin0 rfl ?_)))
    rfl
  cases hb : allOk t e.target
  · have e1 : apR t n e = -1 := by unfold apR; rw [if_pos (.inr hb)]
    rw [ha] at h1
    rw [hb] at h2
    rw [e1]
    repeat' ((conv => whnf); (first
     | (refine Fn.use (h1) rfl rfl ?_)
     | (refine Fn.use (h2) rfl rfl ?_)
     | (refine fin0 rfl ?_)))
    rfl
  rw [ha] at h1
  rw [hb] at h2
  have hO := slots_Of t n
  have hT := order_Top t e.target
  have hn : isN t n = true := by unfold allOk at ha; simp at ha; exact ha.2
  have eS : apR t n e = if ofR t n ≠ -1 then ofR t n else if (nd t n).kind = 3 ∧ e.composed = false ∧ topR t e.target = n then -1 else hi (nd t n) := by
    unfold apR; rw [if_neg]; rintro (h | h); rw [ha] at h; simp at h; rw [hb] at h; simp at h
  rw [eS]
  generalize ofR t n = s at *
  generalize topR t e.target = T at *
  by_cases h0 : s = -1
  · subst h0
    rw [if_neg (by simp)]
    obtain ⟨ety, etg, ere, ebu, eca, eco⟩ := e
    dsimp only [Ev.cs] at *
    cases eco
    all_goals repeat' ((conv => whnf); (first
     | (refine Br_beq (fun h => ?_) (fun h => ?_))
     | (refine Fn.use (h1) rfl rfl ?_)
     | (refine Fn.use (h2) rfl rfl ?_)
     | (refine Fn.use (hO) rfl rfl ?_)
     | (refine Fn.use (hT) rfl rfl ?_)
     | (refine Idx_nd hn rfl ?_)
     | (refine W_draw 0 tt_ok mixed (by kernel_rfl) ?_)
     | (refine fin0 rfl ?_)))
    all_goals (simp_all <;> (unfold hi; rfl))
  · rw [if_pos h0]
    repeat' ((conv => whnf); (first
     | (refine Br_true (bneT (by omega)) ?_)
     | (refine Fn.use (h1) rfl rfl ?_)
     | (refine Fn.use (h2) rfl rfl ?_)
     | (refine Fn.use (hO) rfl rfl ?_)
     | (refine fin0 rfl ?_)))
    rfl
end Go.Eng
namespace Go.Eng
open Go
structure Stp where
  node : Int
  target : Int
  related : Int
def Stp.cs (s : Stp) : List D := [.int .i64 s.node, .int .i64 s.target, .int .i64 s.related]
theorem cs3s {l : List Stp} : ∀ r ∈ l.map Stp.cs, r.length = 3 := by
  intro r hr; obtain ⟨x, _, rfl⟩ := List.mem_map.1 hr; rfl
def visC (s : Stp) (phase : Int) : List D := [.int .i64 s.node, .int .i64 s.target, .int .i64 s.related, .int .i64 (if s.node = s.target then 2 else phase), .bool (phase == 1)]
end Go.Eng
set_option maxRecDepth 100000
set_option linter.unusedVariables false
set_option linter.unusedSimpArgs false
namespace Go.Eng
open Go Go.Proofs
theorem aim_visit (s : Stp) (ph : Int) : Fn Tryz.prog 343 [aggD s.cs, .i ph] (aggD (visC s ph)) := by
  refine Fn_of tt_ok Tryz.func343 rfl (by decide) Tryz.ntmps343 rfl ?_
  unfold visC
  obtain ⟨n, tg, rl⟩ := s
  dsimp only [Stp.cs] at *
  by_cases h : n = tg
  · rw [if_pos h]
    subst h
    repeat' ((conv => whnf); (first
     | (refine Br_true (beqT (by omega)) ?_)
     | (refine fin0 rfl ?_)))
    all_goals rfl
  · rw [if_neg h]
    repeat' ((conv => whnf); (first
     | (refine Br_false (beqF (by omega)) ?_)
     | (refine fin0 rfl ?_)))
    all_goals (first | rfl | (exfalso; simp_all))
def stopR (t : Tree) (e : Ev) (n : Int) : Stp := ⟨n, retR t e.target n, retR t e.related n⟩
def pathO (t : Tree) (e : Ev) : Nat → Int → Option (List Stp)
  | 0, _ => none
  | f + 1, n => if n = -1 then some [] else if (stopR t e n).target = (stopR t e n).related ∧ e.target ≠ e.related then some [] else (pathO t e f (apR t n e)).map (stopR t e n :: ·)
theorem aim_Path (t : Tree) (e : Ev) (f : Nat) (L : List Stp) (hlen : L.length ≤ 1000) (h : (allOk t e.target = false ∧ L = []) ∨ (allOk t e.target = true ∧ pathO t e f e.target = some L)) :
    Fn Tryz.prog 341 [.d (treeD t), aggD e.cs] (.d (.sl (L.map Stp.cs))) := by
  refine Fn_of tt_ok Tryz.func341 rfl (by decide) Tryz.ntmps341 rfl ?_
  have h1 := aim_is t e.target
  rcases h with ⟨ha, rfl⟩ | ⟨ha, hL⟩
  · rw [ha] at h1
    repeat' ((conv => whnf); (first
     | (refine Fn.use (h1) rfl rfl ?_)
     | (refine finD (F := []) .nsl)))
  rw [ha] at h1
  repeat' ((conv => whnf); (first
   | (refine Fn.use (h1) rfl rfl ?_)))
  refine W_loop (fun μ s => ∃ (c : Int) (acc r : List Stp), pathO t e μ c = some r ∧ acc ++ r = L ∧
      s = ⟨[(0, .d (treeD t)), (3, .ptr 0 0), (5, AccV 1 3 (acc.map Stp.cs)), (6, .i c)], 50, [some (.row (e.cs.map .d)), AccB (acc.map Stp.cs)], 0, []⟩) f ⟨_, ?_, e.target, [], L, hL, rfl, rfl⟩ ?_
  · rw [List.map_nil, AccV_nil, AccB_nil]
    exact Wk.trans Wk_pad (Wk_env (by repeat (first | exact trivial | refine ⟨rfl, ?_⟩)))
  rintro μ s1 ⟨c, acc, r, hr, hacc, rfl⟩
  refine W_run tt_ok ?_
  cases μ with
  | zero => simp [pathO] at hr
  | succ f' =>
  rw [pathO] at hr
  have hal : acc.length ≤ 1000 := by have := congrArg List.length hacc; rw [List.length_append] at this; omega
  have hml : (acc.map Stp.cs).length = acc.length := by simp
  by_cases hc : c = -1
  · rw [if_pos hc] at hr
    injection hr with hr
    subst hr
    rw [List.append_nil] at hacc
    subst hacc
    subst hc
    repeat' ((conv => whnf); (first
     | (refine finD (F := [1]) (FV_acc _ rfl cs3s))
     | (refine force_in ?_)))
  rw [if_neg hc] at hr
  have hR1 := shade_Retarget t e.target c
  have hR2 := shade_Retarget t e.related c
  have hP := aim_Parent t c e
  have hcs : (stopR t e c).cs = [.int .i64 c, .int .i64 (retR t e.target c), .int .i64 (retR t e.related c)] := rfl
  have hst : (stopR t e c).target = retR t e.target c ∧ (stopR t e c).related = retR t e.related c := ⟨rfl, rfl⟩
  rw [hst.1, hst.2] at hr
  generalize stopR t e c = sc at *
  generalize retR t e.target c = tg at *
  generalize retR t e.related c = rl at *
  obtain ⟨ety, etg, ere, ebu, eca, eco⟩ := e
  dsimp only [Ev.cs] at *
  by_cases hx : tg = rl ∧ etg ≠ ere
  · rw [if_pos hx] at hr
    injection hr with hr
    subst hr
    rw [List.append_nil] at hacc
    subst hacc
    obtain ⟨rfl, hne⟩ := hx
    repeat' ((conv => whnf); (first
     | (refine Br_true (beqT (by omega)) ?_)
     | (refine Br_true (bneT (by omega)) ?_)
     | (refine W_draw 0 tt_ok mixed (by kernel_rfl) ?_)
     | (refine CallF_in (hR1) rfl rfl ?_)
     | (refine CallF_in (hR2) rfl rfl ?_)
     | (refine finD (F := [1]) (FV_acc _ rfl cs3s))
     | (refine force_in ?_)))
  · rw [if_neg hx] at hr
    generalize apR t c _ = c2 at *
    cases hr2 : pathO t _ f' c2 with
    | none => rw [hr2] at hr; simp at hr
    | some r' =>
    rw [hr2] at hr
    simp at hr
    subst hr
    have ha := Acc_app (b := 1) (sz := 3) (rows := acc.map Stp.cs) (new := [[.int .i64 c, .int .i64 tg, .int .i64 rl]]) (by simp)
    have hnext : acc ++ [sc] ++ r' = L := by rw [List.append_assoc]; exact hacc
    have hmap : (acc ++ [sc]).map Stp.cs = acc.map Stp.cs ++ [[.int .i64 c, .int .i64 tg, .int .i64 rl]] := by rw [List.map_append]; simp [hcs]
    have hr3 : ∀ r ∈ acc.map Stp.cs, r.length = 3 := cs3s
    by_cases htr : tg = rl
    · have heq : etg = ere := by
        by_cases h : etg = ere
        · exact h
        · exact absurd ⟨htr, h⟩ hx
      subst htr
      subst heq
      repeat' ((conv => whnf); (first
       | (refine Br_true (beqT (by omega)) ?_)
       | (refine Br_true (bneT (by omega)) ?_)
       | (refine Br_false (bneF (by omega)) ?_)
       | (refine W_draw 0 tt_ok mixed (by kernel_rfl) ?_)
       | (refine CallF_in (hR1) rfl rfl ?_)
       | (refine force_in ?_)))
      refine Ch_r ?_
      conv => whnf
      refine App_acc (acc.map Stp.cs) [[.int .i64 c, .int .i64 tg, .int .i64 tg]] rfl rfl rfl rfl (by simp) hr3 (by intro r hr; simp at hr; subst hr; rfl) (by rw [hml]; simp only [List.length_cons, List.length_nil]; omega) (Nat.le_of_ble_eq_true rfl) ?_
      repeat' ((conv => whnf); (first
       | (refine Fn.use (hP) rfl rfl ?_)
       | (refine Back_in _ f' ⟨c2, acc ++ [sc], r', hr2, hnext, rfl⟩ (by omega) ?_)))
      rw [hmap, ha.1, ha.2]
      exact Wk_ren [0, 3] rfl rfl ⟨⟨rfl, rfl⟩, ⟨by rw [renB_row]; rfl, lowB_row _ _⟩, trivial⟩ (by repeat (first | exact trivial | refine ⟨⟨rfl, rfl⟩, ?_⟩)) (by decide) (by omega)
    · repeat' ((conv => whnf); (first
     | (refine Br_false (beqF (by omega)) ?_)
     | (refine Br_true (bneT (by omega)) ?_)
     | (refine W_draw 0 tt_ok mixed (by kernel_rfl) ?_)
     | (refine CallF_in (hR1) rfl rfl ?_)
     | (refine CallF_in (hR2) rfl rfl ?_)
     | (refine force_in ?_)))
      refine Ch_r ?_
      conv => whnf
      refine App_acc (acc.map Stp.cs) [[.int .i64 c, .int .i64 tg, .int .i64 rl]] rfl rfl rfl rfl (by simp) hr3 (by intro r hr; simp at hr; subst hr; rfl) (by rw [hml]; simp only [List.length_cons, List.length_nil]; omega) (Nat.le_of_ble_eq_true rfl) ?_
      repeat' ((conv => whnf); (first
       | (refine Fn.use (hP) rfl rfl ?_)
       | (refine Back_in _ f' ⟨c2, acc ++ [sc], r', hr2, hnext, rfl⟩ (by omega) ?_)))
      rw [hmap, ha.1, ha.2]
      exact Wk_ren [0, 3] rfl rfl ⟨⟨rfl, rfl⟩, ⟨by rw [renB_row]; rfl, lowB_row _ _⟩, trivial⟩ (by repeat (first | exact trivial | refine ⟨⟨rfl, rfl⟩, ?_⟩)) (by decide) (by omega)
end Go.Eng
namespace Go.Eng
open Go
structure Hear where
  node : Int
  type : Int
  capture : Bool
  once : Bool
  prog : Int
instance : Inhabited Hear := ⟨⟨0, 0, false, false, 0⟩⟩
def Hear.cs (h : Hear) : List D := [.int .i64 h.node, .int .i64 h.type, .bool h.capture, .bool h.once, .int .i64 h.prog]
abbrev hearsD (l : List Hear) : D := .sl (l.map Hear.cs)
theorem cs5h {l : List Hear} : ∀ r ∈ l.map Hear.cs, r.length = 5 := by
  intro r hr; obtain ⟨x, _, rfl⟩ := List.mem_map.1 hr; rfl
def hearB (h : Hear) : Bool := decide (0 ≤ h.node ∧ h.node ≤ 63) && decide (0 ≤ h.type ∧ h.type ≤ 8) && decide (0 ≤ h.prog ∧ h.prog ≤ 63)
def withB (h x : Hear) : Bool := x.node == h.node && (x.type == h.type && (x.capture == h.capture && (h.once == h.once && x.prog == h.prog)))
def forB (node kind : Int) (cap : Bool) (h : Hear) : Bool := h.node == node && (h.type == kind && (h.capture == cap))
end Go.Eng
set_option maxRecDepth 100000
set_option linter.unusedVariables false
set_option linter.unusedSimpArgs false
namespace Go.Eng
open Go Go.Proofs
theorem listen_in (n m : Int) : Fn Tryz.prog 239 [.i n, .i m] (.b (decide (0 ≤ n ∧ n ≤ m))) := by
  refine Fn_of tt_ok Tryz.func239 rfl (by decide) Tryz.ntmps239 rfl ?_
  repeat' ((conv => whnf); (first
   | (refine Br_dec (fun h => ?_) (fun h => ?_))
   | (refine fin0 rfl ?_)))
  all_goals (simp only [AV.d.injEq, D.bool.injEq]; grind)
theorem listen_may (h : Hear) : Fn Tryz.prog 181 [aggD h.cs] (.b (hearB h)) := by
  refine Fn_of tt_ok Tryz.func181 rfl (by decide) Tryz.ntmps181 rfl ?_
  repeat' ((conv => whnf); (first
   | (refine Br_dec (fun h => ?_) (fun h => ?_))
   | (refine Fn.use (listen_in _ _) rfl rfl ?_)
   | (refine fin0 rfl ?_)))
  all_goals (simp only [AV.d.injEq, D.bool.injEq, hearB] at *; simp_all)
  all_goals (intros; omega)
theorem listen_at1 (h x : Hear) : Tri Tryz.prog 241 ([] ++ [aggD x.cs] ++ [.ptr 0 0]) [some (.row (h.cs.map .d))] fun v H' => v = .b (withB h x) ∧ H' = [some (.row (h.cs.map .d))] := by
  refine Tri_of (m := 1) tt_ok Tryz.func241 rfl (by decide) Tryz.ntmps241 (by rfl) rfl ?_
  repeat' ((conv => whnf); (first
   | (refine finT rfl rfl (by repeat (first | exact trivial | refine ⟨⟨rfl, rfl⟩, ?_⟩)) ?_)))
  rfl
theorem indexFunc_hear (l : List Hear) (g : FuncId) (fs cs : List AV) (H : Heap) (p : Hear → Bool) (hp : ∀ a ∈ l, Tri Tryz.prog g (fs ++ [aggD a.cs] ++ cs) H fun v H' => v = .b (p a) ∧ H' = H) :
    Tri Tryz.prog 240 [.d (hearsD l), .clos (.func g) fs cs] H fun v H' => v = .i (ix p l) ∧ H' = H := by
  refine Tri_of (m := H.length) tt_ok Tryz.func240 rfl (by decide) Tryz.ntmps240 (by rfl) rfl ?_
  refine Len_in (fun hlen => ?_)
  simp only [List.length_map] at hlen
  refine W_loop (fun μ s => ∃ (k : Nat), k ≤ l.length ∧ μ = l.length - k ∧ (∀ j (h : j < l.length), j < k → p l[j] = false) ∧
      s = ⟨[(0, .d (hearsD l)), (1, .clos (.func g) fs cs), (7, .i (List.map Hear.cs l).length), (8, .i k)], 19, H, H.length, []⟩) l.length
    ⟨_, ?_, 0, by simp, by simp, by simp, rfl⟩ ?_
  · exact Wk_env (by repeat (first | exact trivial | refine ⟨rfl, ?_⟩))
  rintro μ s1 ⟨k, hk, rfl, hno, rfl⟩
  refine W_run tt_ok ?_
  refine Br_dec (fun h => ?_) (fun h => ?_)
  · simp at h
    refine Idx_in (l[k]).cs (by simp [h]) (by omega) rfl ?_
    have hd := ix_drop p l k hno hk
    rw [List.drop_eq_getElem_cons h] at hd
    refine Tri.use (hp l[k] (List.getElem_mem h)) ?_
    refine Br_split (fun hq => ?_) (fun hq => ?_)
    · repeat' ((conv => whnf); (first
     | (refine finR ?_)))
      simp only [AV.d.injEq, D.int.injEq, true_and, hd, ix]
      simp [hq]
    · repeat' ((conv => whnf); (first
     | (refine Back_in _ _ ⟨k + 1, by omega, rfl, ?_, rfl⟩ (by omega) (Wk_env (by repeat (first | exact trivial | refine ⟨rfl, ?_⟩))))
     | (refine ArK_in (wrap_i64 (by omega) (by omega)) ?_)))
      intro j hj hjk
      rcases Nat.lt_succ_iff_lt_or_eq.1 hjk with h1 | h1
      · exact hno j hj h1
      · subst h1; exact hq
  · simp at h
    have hd := ix_drop p l k hno hk
    rw [List.drop_eq_nil_of_le h] at hd
    repeat' ((conv => whnf); (first
     | (refine finR ?_)))
    simp [hd, ix]
def hearIx (l : List Hear) (h : Hear) : Int := ix (withB h) l
theorem listen_at (l : List Hear) (h : Hear) : Fn Tryz.prog 182 [.d (hearsD l), aggD h.cs] (.i (hearIx l h)) := by
  refine Fn_of tt_ok Tryz.func182 rfl (by decide) Tryz.ntmps182 rfl ?_
  refine Tri.use (indexFunc_hear l _ [] [.ptr 0 0] _ (withB h) fun a _ => listen_at1 h a) ?_
  repeat' ((conv => whnf); (first
   | (refine fin0 rfl ?_)))
  rfl
end Go.Eng
set_option maxRecDepth 100000
set_option linter.unusedVariables false
set_option linter.unusedSimpArgs false
namespace Go.Eng
open Go Go.Proofs
theorem listen_For (l : List Hear) (node kind : Int) (cap : Bool) (hl : l.length ≤ 1000) : Fn Tryz.prog 309 [.d (hearsD l), .i node, .i kind, .b cap] (.d (hearsD (l.filter (forB node kind cap)))) := by
  refine Fn_of tt_ok Tryz.func309 rfl (by decide) Tryz.ntmps309 rfl ?_
  have hml : (l.map Hear.cs).length = l.length := by simp
  repeat' ((conv => whnf); (first
   | (refine Len_in (fun hlen => ?_))))
  refine W_loop (fun μ s => ∃ (k : Nat), k ≤ l.length ∧ μ = l.length - k ∧
      s = ⟨[(0, .d (hearsD l)), (1, .i node), (2, .i kind), (3, .b cap), (9, AccV 0 5 (((l.take k).filter (forB node kind cap)).map Hear.cs)), (12, .d (hearsD l)), (13, .i (List.map Hear.cs l).length), (14, .i k)], 40, [AccB (((l.take k).filter (forB node kind cap)).map Hear.cs)], 0, []⟩) l.length ⟨_, ?_, 0, by omega, by omega, rfl⟩ ?_
  · rw [List.take_zero, List.filter_nil, List.map_nil, AccV_nil, AccB_nil]
    exact Wk.trans Wk_pad (Wk_env (by repeat (first | exact trivial | refine ⟨rfl, ?_⟩)))
  rintro μ s1 ⟨k, hk, rfl, rfl⟩
  refine W_run tt_ok ?_
  by_cases hlt : k < l.length
  · have htk : l.take (k + 1) = l.take k ++ [l[k]] := List.take_succ_eq_append_getElem hlt
    have hfl : ((l.take k).filter (forB node kind cap)).length ≤ l.length := Nat.le_trans (List.length_filter_le _ _) (by simp; omega)
    generalize hx : l[k] = x at *
    have hidx : (l.map Hear.cs)[(k : Int).toNat]? = some x.cs := by simp [hlt, hx]
    have hf1 : forB node kind cap x = true → ((l.take (k + 1)).filter (forB node kind cap)) = (l.take k).filter (forB node kind cap) ++ [x] := fun h => by rw [htk, List.filter_append]; simp [h]
    have hf0 : forB node kind cap x = false → ((l.take (k + 1)).filter (forB node kind cap)) = (l.take k).filter (forB node kind cap) := fun h => by rw [htk, List.filter_append]; simp [h]
    generalize hacc : (l.take k).filter (forB node kind cap) = acc at *
    have hml2 : (acc.map Hear.cs).length = acc.length := by simp
    have hr5 : ∀ r ∈ acc.map Hear.cs, r.length = 5 := cs5h
    have ha := Acc_app (b := 0) (sz := 5) (rows := acc.map Hear.cs) (new := [x.cs]) (by simp)
    obtain ⟨xn, xt, xc, xo, xp⟩ := x
    dsimp only [Hear.cs] at *
    cases hf : forB node kind cap ⟨xn, xt, xc, xo, xp⟩
    · have e := hf0 hf
      have keep0 : ∀ (ρ : Env) (y : List AV), EnvIn ρ [(0, .d (hearsD l)), (1, .i node), (2, .i kind), (3, .b cap), (9, AccV 0 5 (acc.map Hear.cs)), (12, .d (hearsD l)), (13, .i (List.map Hear.cs l).length), (14, .i (k + 1 : Nat))] →
          Wk ⟨ρ, 40, [AccB (acc.map Hear.cs), some (.row y)], 0, []⟩ ⟨[(0, .d (hearsD l)), (1, .i node), (2, .i kind), (3, .b cap), (9, AccV 0 5 (acc.map Hear.cs)), (12, .d (hearsD l)), (13, .i (List.map Hear.cs l).length), (14, .i (k + 1 : Nat))], 40, [AccB (acc.map Hear.cs)], 0, []⟩ := fun ρ y h => by
        refine Wk.trans (Wk_env h) ?_
        by_cases h0 : acc.map Hear.cs = []
        · rw [h0, AccV_nil, AccB_nil]
          exact Wk_ren [0] rfl rfl trivial (by repeat (first | exact trivial | refine ⟨⟨rfl, rfl⟩, ?_⟩)) (by omega) (by omega)
        · rw [AccV_cons h0, AccB_cons h0]
          exact Wk_ren [0] rfl rfl ⟨⟨by rw [renB_row]; rfl, lowB_row _ _⟩, trivial⟩ (by repeat (first | exact trivial | refine ⟨⟨rfl, rfl⟩, ?_⟩)) (by omega) (by omega)
      unfold forB at hf
      dsimp only at hf
      by_cases h1 : xn = node
      · by_cases h2 : xt = kind
        · subst h1 h2
          have h3 : (xc == cap) = false := by simpa using hf
          repeat' ((conv => whnf); (first
           | (refine Br_false h3 ?_)
           | (refine Br_true (beqT (by omega)) ?_)
           | (refine Br_true (decide_eq_true (by omega)) ?_)
           | (refine Idx_in _ hidx (by omega) rfl ?_)
           | (refine Back_in _ _ ⟨k + 1, by omega, rfl, rfl⟩ (by omega) ?_)
           | (refine ArK_in (wrap_i64 (by omega) (by omega)) ?_)))
          rw [e]
          exact keep0 _ _ (by repeat (first | exact trivial | refine ⟨rfl, ?_⟩))
        · subst h1
          repeat' ((conv => whnf); (first
           | (refine Br_true (beqT (by omega)) ?_)
           | (refine Br_false (beqF (by omega)) ?_)
           | (refine Br_true (decide_eq_true (by omega)) ?_)
           | (refine Idx_in _ hidx (by omega) rfl ?_)
           | (refine Back_in _ _ ⟨k + 1, by omega, rfl, rfl⟩ (by omega) ?_)
           | (refine ArK_in (wrap_i64 (by omega) (by omega)) ?_)))
          rw [e]
          exact keep0 _ _ (by repeat (first | exact trivial | refine ⟨rfl, ?_⟩))
      · repeat' ((conv => whnf); (first
       | (refine Br_false (beqF (by omega)) ?_)
       | (refine Br_true (decide_eq_true (by omega)) ?_)
       | (refine Idx_in _ hidx (by omega) rfl ?_)
       | (refine Back_in _ _ ⟨k + 1, by omega, rfl, rfl⟩ (by omega) ?_)
       | (refine ArK_in (wrap_i64 (by omega) (by omega)) ?_)))
        rw [e]
        exact keep0 _ _ (by repeat (first | exact trivial | refine ⟨rfl, ?_⟩))
    · have e := hf1 hf
      unfold forB at hf
      dsimp only at hf
      simp only [Bool.and_eq_true, beq_iff_eq] at hf
      obtain ⟨rfl, rfl, rfl⟩ := hf
      have h3 : (xc == xc) = true := by simp
      repeat' ((conv => whnf); (first
       | (refine Br_true h3 ?_)
       | (refine Br_true (beqT (by omega)) ?_)
       | (refine Br_true (decide_eq_true (by omega)) ?_)
       | (refine Idx_in _ hidx (by omega) rfl ?_)
       | (refine force_in ?_)))
      refine Ch_r ?_
      conv => whnf
      refine App_acc (acc.map Hear.cs) [[.int .i64 xn, .int .i64 xt, .bool xc, .bool xo, .int .i64 xp]] rfl rfl rfl rfl (by simp) hr5 (by intro r hr; simp at hr; subst hr; rfl) (by rw [hml2]; simp only [List.length_cons, List.length_nil]; omega) (Nat.le_of_ble_eq_true rfl) ?_
      repeat' ((conv => whnf); (first
       | (refine Back_in _ _ ⟨k + 1, by omega, rfl, rfl⟩ (by omega) ?_)
       | (refine ArK_in (wrap_i64 (by omega) (by omega)) ?_)))
      rw [e, List.map_append]
      show Wk _ ⟨[(0, .d (hearsD l)), (1, .i xn), (2, .i xt), (3, .b xc), (9, AccV 0 5 (acc.map Hear.cs ++ [[.int .i64 xn, .int .i64 xt, .bool xc, .bool xo, .int .i64 xp]])), _, _, _], 40, [AccB (acc.map Hear.cs ++ [[.int .i64 xn, .int .i64 xt, .bool xc, .bool xo, .int .i64 xp]])], 0, []⟩
      rw [ha.1, ha.2]
      exact Wk_ren [2] rfl rfl ⟨⟨by rw [renB_row]; rfl, lowB_row _ _⟩, trivial⟩ (by repeat (first | exact trivial | refine ⟨⟨rfl, rfl⟩, ?_⟩)) (by omega) (by omega)
  · have hkl : k = l.length := by omega
    subst hkl
    rw [List.take_length]
    repeat' ((conv => whnf); (first
     | (refine Br_false (decide_eq_false (by omega)) ?_)
     | (refine finD (F := [0]) (FV_acc _ rfl cs5h))
     | (refine force_in ?_)))
end Go.Eng
set_option maxRecDepth 100000
set_option linter.unusedVariables false
namespace Go.Eng
open Go Go.Proofs
theorem clone_ints (l : List Int) (hl : l.length ≤ 1000) : Fn Tryz.prog 75 [.d (ints l)] (.d (ints l)) := by
  refine Fn_of tt_ok Tryz.func75 rfl (by decide) Tryz.ntmps75 rfl ?_
  have e : (List.map intCs l).length = l.length := by simp
  refine Nil_in fun b hb => ?_
  cases b
  · skip
    refine Ch_r ?_
    skip
    refine Ch_r (Need_in ⟨Nat.le_trans (Nat.mul_le_mul_right _ (by omega : _ ≤ 1200)) (Nat.le_of_ble_eq_true rfl), by unfold LB; omega, cs1⟩ ?_)
    repeat' ((conv => whnf); (first
     | (refine fin0 rfl ?_)))
    rfl
  · have h0 : l = [] := by
      cases l with
      | nil => rfl
      | cons a r => have := hb (by simp); simp at this
    subst h0
    repeat' ((conv => whnf); (first
     | (refine finD (F := []) .nsl)))
theorem clone_attrs (l : List Attr) (hl : l.length ≤ 1000) : Fn Tryz.prog 146 [.d (attrsD l)] (.d (attrsD l)) := by
  refine Fn_of tt_ok Tryz.func146 rfl (by decide) Tryz.ntmps146 rfl ?_
  have e : (List.map Attr.cs l).length = l.length := by simp
  refine Nil_in fun b hb => ?_
  cases b
  · skip
    refine Ch_r ?_
    skip
    refine Ch_r (Need_in ⟨Nat.le_trans (Nat.mul_le_mul_right _ (by omega : _ ≤ 1200)) (Nat.le_of_ble_eq_true rfl), by unfold LB; omega, csl⟩ ?_)
    repeat' ((conv => whnf); (first
     | (refine fin0 rfl ?_)))
    rfl
  · have h0 : l = [] := by
      cases l with
      | nil => rfl
      | cons a r => have := hb (by simp); simp at this
    subst h0
    repeat' ((conv => whnf); (first
     | (refine finD (F := []) .nsl)))
def atC (l : List Attr) (b : Nat) : AV := if l = [] then .esl else .msl b 0 l.length l.length 2
def atH (l : List Attr) : Heap := if l = [] then [] else [some (.row ((l.map Attr.cs).flatten.map .d))]
theorem clone_tree (t : Tree) (hne : t ≠ []) (hl : t.length ≤ 1000) : Tri Tryz.prog 145 [.d (treeD t)] [] fun v H => v = .msl 0 0 t.length t.length 7 ∧ H = [some (.row ((t.map Node.cs).flatten.map .d))] := by
  refine Tri_of (m := 0) tt_ok Tryz.func145 rfl (by decide) Tryz.ntmps145 (by rfl) rfl ?_
  have e : (List.map Node.cs t).length = t.length := by simp
  have hn : t.map Node.cs ≠ [] := by simpa using hne
  refine Nil_in fun b hb => ?_
  obtain rfl := hb hn
  skip
  refine Ch_r ?_
  skip
  refine App_esl (t.map Node.cs) rfl rfl hn cs7 (by omega) (Nat.le_of_ble_eq_true rfl) ?_
  repeat' ((conv => whnf); (first
   | (refine finQ ⟨by rw [← e]; rfl, rfl⟩)))
end Go.Eng
set_option maxRecDepth 100000
set_option linter.unusedVariables false
namespace Go.Eng
open Go Go.Proofs
theorem splice_same {cs : List AV} {o : Nat} {v : AV} (h : cs[o]? = some v) : splice cs o [v] = cs := by
  simp only [splice]
  apply List.ext_getElem?
  intro i
  rw [List.getElem?_set]
  split
  · subst_vars
    rw [if_pos (List.getElem?_eq_some_iff.1 h).1, h]
  · rfl
def tabT (t : Tree) : List AV := (t.map Node.cs).flatten.map .d
theorem tabT_len (t : Tree) : (tabT t).length = t.length * 7 := by
  unfold tabT; rw [List.length_map, flatten_len _ cs7, List.length_map]
theorem tabT_get (t : Tree) (k j : Nat) (hk : k < t.length) (x : D) (hx : (t[k]).cs[j]? = some x) (hj : j < 7) : (tabT t)[k * 7 + j]? = some (.d x) := by
  unfold tabT
  exact cell_flat (t.map Node.cs) k j _ x cs7 (by simp [hk]) hx hj
def tabO (t : Tree) (n : Nat) (c : AV) : List AV := (tabT t).set (n * 7 + 6) c
end Go.Eng
namespace Go.Eng
open Go
def ltA (a b : Attr) : Bool := decide (IntKind.i64.wrap (a.name - b.name) < 0)
def swapA (m : List Attr) (j : Nat) : List Attr := (m.set j (m.getD (j - 1) default)).set (j - 1) (m.getD j default)
def downA : Nat → List Attr → List Attr
  | 0, m => m
  | j + 1, m => if ltA (m.getD (j + 1) default) (m.getD j default) then downA j (swapA m (j + 1)) else m
def insTo : Nat → List Attr → List Attr
  | 0, m => m
  | k + 1, m => downA (k + 1) (insTo k m)
def insA (m : List Attr) : List Attr := insTo (m.length - 1) m
end Go.Eng
set_option maxRecDepth 100000
set_option linter.unusedVariables false
namespace Go.Eng
open Go Go.Proofs
def tabA (l : List Attr) : List AV := (l.map Attr.cs).flatten.map .d
end Go.Eng
set_option maxRecDepth 100000
set_option linter.unusedVariables false
namespace Go.Eng
open Go Go.Proofs
theorem Fn_any_of {P : Program} {f : FuncId} {args : List AV} (h : Tri P f args [] fun _ H => H = []) : Fn P f args .any := by
  (unfold Fn; simp only [Tri_eq] at *)
  refine ⟨h.1, fun p σ w vs hH hs hv => (h.2 p σ w vs hH hs hv).mono ?_⟩
  rintro e w' ⟨v, x, p', σ', H', a, b, c, d, e', g'⟩
  exact ⟨v, .any, p', σ', H', a, b, c, d, .any v, rfl, g'⟩
theorem byte_ok {s : ByteArray} {n : Int} {K : UInt8 → Prop} {m : Nat} (hm : s.data.toList.length = m) (h0 : 0 ≤ n) (h1 : n < m) (hK : ∀ c, K c) : ByteK s n K :=
  Byte_in (s.data.toList[n.toNat]'(by omega)) (List.getElem?_eq_getElem (by omega)) h0 (hK _)
theorem u8_in (e : Int) : 0 ≤ IntKind.u8.wrap e ∧ IntKind.u8.wrap e < (256 : Nat) := by
  simp only [IntKind.wrap, IntKind.signed, IntKind.bits]; simp; omega
theorem Len64 (n : Int) : Fn Tryz.prog 301 [.d (.int .u64 n)] .any := by
  refine Fn_any_of ?_
  refine Tri_of (m := 0) tt_ok Tryz.func301 rfl (by decide) Tryz.ntmps301 (by rfl) rfl ?_
  repeat' ((conv => whnf); (first
    | (refine Br_dec (fun h => ?_) (fun h => ?_))
    | (refine Need_in (by omega) ?_)
    | (refine byte_ok (m := 256) (by kernel_rfl) (u8_in _).1 (u8_in _).2 (fun c => ?_))
    | (refine ArK_any ?_)
    | (refine finQ rfl)))
theorem bitsLen (n : Int) : Fn Tryz.prog 235 [.d (.int .u64 n)] .any := by
  refine Fn_any_of ?_
  refine Tri_of (m := 0) tt_ok Tryz.func235 rfl (by decide) Tryz.ntmps235 (by rfl) rfl ?_
  repeat' ((conv => whnf); (first
   | (refine Fn.use (Len64 _) rfl rfl ?_)
   | (refine finQ rfl)))
end Go.Eng
namespace Go.Eng
open Go
def lay (l : List Attr) (a : Attr) : List Attr :=
  if 0 ≤ ix (fun b : Attr => b.name == a.name) l then l.set (ix (fun b : Attr => b.name == a.name) l).toNat a else insA (l ++ [a])
def setG (t : Tree) (n : Int) (a : Attr) : Tree × Int :=
  if mayB t = false then ([], 1)
  else if isN t n = false then (t, 2)
  else if (nd t n).kind ≠ 1 ∧ (nd t n).kind ≠ 3 then (t, 3)
  else if mayB (putAttrs t n (lay (nd t n).attrs a)) = false then (t, 7)
  else (putAttrs t n (lay (nd t n).attrs a), 0)
def Rise (l : List Attr) : Prop := l.Pairwise fun a b => a.name < b.name
def Sorted (l : List Attr) : Prop := l.Pairwise fun a b => a.name ≤ b.name
structure SameBut (x y : Node) : Prop where
  kind : x.kind = y.kind
  tag : x.tag = y.tag
  parent : x.parent = y.parent
  kids : x.kids = y.kids
  host : x.host = y.host
  root : x.root = y.root
end Go.Eng
set_option maxRecDepth 100000
set_option linter.unusedVariables false
set_option linter.unusedSimpArgs false
namespace Go.Eng
open Go Go.Proofs
theorem App_msl {ei : TI} {H : Heap} {b sz n : Nat} {x : AV} {B : Prop} {K : AV → Heap → Prop} (rows new : List (List D)) (hne : rows ≠ []) (hnl : n = rows.length) (hb : H[b]? = some (some (.row (rows.flatten.map .d)))) (hx : newLen x = some new.length)
    (hc : newCells H ei.size x = some (new.flatten.map .d)) (hsz : sz = ei.size)
    (hn : new ≠ []) (hrs : ∀ r ∈ rows, r.length = ei.size) (hrn : ∀ r ∈ new, r.length = ei.size) (hlim : rows.length + new.length ≤ 1000000) (hby : ei.bytes ≤ 1000)
    (hK : K (.msl H.length 0 (rows.length + new.length) (rows.length + new.length) ei.size) (H.set b none ++ [some (.row ((rows ++ new).flatten.map .d))])) : ChK (appK ei H (.msl b 0 n n sz) x K) B := by
  subst hnl
  have := App_acc (ei := ei) (H := H) (b := b) (sz := sz) (x := x) (B := B) (K := K) rows new (by rw [AccB_cons hne]; exact hb) hx hc hsz hn hrs hrn hlim hby hK
  rwa [AccV_cons hne] at this
theorem map_d_inj : ∀ {a b : List D}, a.map AV.d = b.map AV.d → a = b := by
  intro a
  induction a with
  | nil => intro b h; cases b with
    | nil => rfl
    | cons x y => simp at h
  | cons x r ih => intro b h; cases b with
    | nil => simp at h
    | cons y q =>
      simp only [List.map_cons, List.cons.injEq, AV.d.injEq] at h
      rw [h.1, ih h.2]
theorem renL_set (g : Nat → Nat) : ∀ (l : List AV) (i : Nat) (x : AV), renL g (l.set i x) = (renL g l).set i (ren g x) := by
  intro l
  induction l with
  | nil => intro i x; rfl
  | cons a r ih => intro i x; cases i with
    | zero => rfl
    | succ i => simp [renL, ih]
theorem hmap_nil (n i : Nat) : hmap [] n i = n + i := by show i - 0 + n = n + i; omega
end Go.Eng
set_option maxRecDepth 100000
set_option linter.unusedVariables false
set_option linter.unusedSimpArgs false
namespace Go.Eng
open Go Go.Proofs
theorem cloneOwn_hears (l : List Hear) (hne : l ≠ []) (hl : l.length ≤ 1000) : Tri Tryz.prog 53 [.d (hearsD l)] [] fun v H => v = .msl 0 0 l.length l.length 5 ∧ H = [some (.row ((l.map Hear.cs).flatten.map .d))] := by
  refine Tri_of (m := 0) tt_ok Tryz.func53 rfl (by decide) Tryz.ntmps53 (by rfl) rfl ?_
  have e : (List.map Hear.cs l).length = l.length := by simp
  have hn : l.map Hear.cs ≠ [] := by simpa using hne
  refine Nil_in fun b hb => ?_
  obtain rfl := hb hn
  skip
  refine Ch_r ?_
  skip
  refine App_esl (l.map Hear.cs) rfl rfl hn cs5h (by omega) (Nat.le_of_ble_eq_true rfl) ?_
  repeat' ((conv => whnf); (first
   | (refine finQ ⟨by rw [← e]; rfl, rfl⟩)))
theorem cloneOwn_hnil : Tri Tryz.prog 53 [.d (hearsD [])] [] fun v H => v = .esl ∧ H = [] := by
  refine Tri_of (m := 0) tt_ok Tryz.func53 rfl (by decide) Tryz.ntmps53 (by rfl) rfl ?_
  refine Nil_in fun b hb => ?_
  cases b
  · skip
    refine Ch_r ?_
    skip
    refine Ch_l ?_
    repeat' ((conv => whnf); (first
     | (refine Need_in rfl ?_)
     | (refine finQ ⟨rfl, rfl⟩)))
  · repeat' ((conv => whnf); (first
   | (refine finW (Fin_all (F := []) .nesl) ⟨rfl, rfl⟩)))
def addR (l : List Hear) (h : Hear) : List Hear × Int :=
  if hearB h = false then (l, 1) else if 0 ≤ hearIx l h then (l, 0) else if 64 ≤ l.length then (l, 4) else (l ++ [h], 0)
theorem listen_Add (l : List Hear) (h : Hear) (hl : l.length ≤ 1000) : Fn Tryz.prog 117 [.d (hearsD l), aggD h.cs] (.tup [.d (hearsD (addR l h).1), .i (addR l h).2]) := by
  refine Fn_of tt_ok Tryz.func117 rfl (by decide) Tryz.ntmps117 rfl ?_
  have h1 := listen_may h
  have h2 := listen_at l h
  have hml : (l.map Hear.cs).length = l.length := by simp
  cases hb : hearB h
  · have e : addR l h = (l, 1) := by unfold addR; rw [if_pos hb]
    rw [hb] at h1
    rw [e]
    repeat' ((conv => whnf); (first
     | (refine Fn.use (h1) rfl rfl ?_)
     | (refine fin0 rfl ?_)))
    rfl
  rw [hb] at h1
  have eS : addR l h = if 0 ≤ hearIx l h then (l, 0) else if 64 ≤ l.length then (l, 4) else (l ++ [h], 0) := by unfold addR; rw [if_neg (by rw [hb]; simp)]
  rw [eS]
  generalize hearIx l h = i at *
  by_cases hi : 0 ≤ i
  · rw [if_pos hi]
    repeat' ((conv => whnf); (first
     | (refine Br_true (decide_eq_true (by omega)) ?_)
     | (refine Fn.use (h1) rfl rfl ?_)
     | (refine Fn.use (h2) rfl rfl ?_)
     | (refine fin0 rfl ?_)))
    rfl
  rw [if_neg hi]
  by_cases h64 : 64 ≤ l.length
  · rw [if_pos h64]
    repeat' ((conv => whnf); (first
     | (refine Br_true (decide_eq_true (by omega)) ?_)
     | (refine Br_false (decide_eq_false (by omega)) ?_)
     | (refine Len_in (fun hlen => ?_))
     | (refine Fn.use (h1) rfl rfl ?_)
     | (refine Fn.use (h2) rfl rfl ?_)
     | (refine fin0 rfl ?_)))
    rfl
  rw [if_neg h64]
  by_cases hn : l = []
  · subst hn
    repeat' ((conv => whnf); (first
     | (refine Br_false (decide_eq_false (by omega)) ?_)
     | (refine Len_in (fun hlen => ?_))
     | (refine Fn.use (h1) rfl rfl ?_)
     | (refine Fn.use (h2) rfl rfl ?_)
     | (refine W_draw 1 tt_ok mixed (by kernel_rfl) ?_)
     | (refine CallP_in (r := .esl) [] (fun K' hK => Tri.call cloneOwn_hnil [] rfl rfl trivial rfl rfl rfl rfl rfl rfl hK) ?_)))
    refine App_esl [h.cs] rfl rfl (by simp) (by intro r hr; simp at hr; subst hr; rfl) (by simp) (Nat.le_of_ble_eq_true rfl) ?_
    conv => whnf
    exact finD (F := [1]) (FV_tup2 (FV_tab [h.cs] rfl rfl rfl (by intro r hr; simp at hr; subst hr; rfl)) (.same _ rfl))
  · have hne : l.map Hear.cs ≠ [] := by simpa using hn
    have hcl := cloneOwn_hears l hn hl
    have hlen : (l.map Hear.cs ++ [h.cs]).length = l.length + 1 := by simp
    repeat' ((conv => whnf); (first
     | (refine Br_false (decide_eq_false (by omega)) ?_)
     | (refine Len_in (fun hlen => ?_))
     | (refine Fn.use (h1) rfl rfl ?_)
     | (refine Fn.use (h2) rfl rfl ?_)
     | (refine W_draw 1 tt_ok mixed (by kernel_rfl) ?_)
     | (refine CallP_in (r := .msl 1 0 l.length l.length 5) [some (.row ((l.map Hear.cs).flatten.map .d))] (fun K' hK => Tri.tab hcl rfl hK) ?_)))
    refine App_msl (l.map Hear.cs) [h.cs] hne hml.symm rfl rfl rfl rfl (by simp) cs5h (by intro r hr; simp at hr; subst hr; rfl) (by simp; omega) (Nat.le_of_ble_eq_true rfl) ?_
    conv => whnf
    have e2 : hearsD (l ++ [h]) = .sl (l.map Hear.cs ++ [h.cs]) := by simp [hearsD]
    rw [e2]
    exact finD (F := [2]) (FV_tup2 (FV_tab _ rfl rfl (by simp) (by intro r hr; rcases List.mem_append.1 hr with hr | hr; exact cs5h r hr; simp at hr; subst hr; rfl)) (.same _ rfl))
end Go.Eng
set_option maxRecDepth 100000
set_option linter.unusedVariables false
set_option linter.unusedSimpArgs false
namespace Go.Eng
open Go Go.Proofs
def elemB (t : Tree) (n : Int) : Bool := aboveR t 0 n && decide ((nd t n).kind = 1)
def dlgB (t : Tree) (n : Int) : Bool := elemB t n && decide ((nd t n).tag = 2)
def popB (t : Tree) (n : Int) : Bool := elemB t n && (getP t n 6).2
end Go.Eng
set_option linter.unusedVariables false
set_option linter.unusedSimpArgs false
namespace Go.Eng
open Go
theorem HLe_acc {g : List Nat} {k : Nat} {H H' : Heap} {g' : List Nat} {j : Nat} {rows : List (List D)} (hj : H[j]? = some (AccB rows)) (h : HLe g k H H' g') : HLe g k H (AccB rows :: H') (j :: g') := by
  by_cases hr : rows = []
  · subst hr; rw [AccB_nil]; exact h
  · rw [AccB_cons hr] at hj ⊢; exact ⟨⟨by rw [hj, renB_row], lowB_row _ _⟩, h⟩
theorem ren_acc {g : Nat → Nat} {b b' sz : Nat} {rows : List (List D)} (h : g b' = b) : AccV b sz rows = Eng.ren g (AccV b' sz rows) := by
  by_cases hr : rows = []
  · subst hr; rw [AccV_nil, AccV_nil]; rfl
  · rw [AccV_cons hr, AccV_cons hr]; simp [Eng.ren, h]
theorem low_acc {k b' sz : Nat} {rows : List (List D)} (h : b' < k) : low k (AccV b' sz rows) = true := by
  by_cases hr : rows = []
  · subst hr; rw [AccV_nil]; rfl
  · rw [AccV_cons hr]; simpa [low, Nat.blt_eq] using h
theorem HFz_acc {g F : List Nat} {H H' : Heap} {g' : List Nat} {j : Nat} {rows : List (List D)} (hj : H[j]? = some (AccB rows)) (h : HFz g F H H' g') : HFz g F H (AccB rows :: H') (j :: g') := by
  by_cases hr : rows = []
  · subst hr; rw [AccB_nil]; exact h
  · rw [AccB_cons hr] at hj ⊢
    exact ⟨⟨_, hj, .row _ _ (Nat.le_refl _) fun i x y hx hy => by rw [hx] at hy; injection hy with hy; subst hy; rw [List.getElem?_map] at hx; cases hd : (rows.flatten)[i]? with
      | none => rw [hd] at hx; simp at hx
      | some d => rw [hd] at hx; simp at hx; subst hx; exact .same _ rfl⟩, h⟩
end Go.Eng
set_option maxRecDepth 100000
set_option linter.unusedVariables false
set_option linter.unusedSimpArgs false
namespace Go.Eng
open Go Go.Proofs
theorem only_int (l : List Int) (x : D) (g : FuncId) (p : Int → Bool) (hl : l.length ≤ 1000) (hp : ∀ k ∈ l, Tri Tryz.prog g ([] ++ [.i k] ++ [.ptr 0 0]) [some (.row [.d x])] fun v H' => v = .b (p k) ∧ H' = [some (.row [.d x])]) :
    Tri Tryz.prog 217 [.d (ints l), .clos (.func g) [] [.ptr 0 0]] [some (.row [.d x])] fun v H' => v = .tup [.d (ints (l.filter p)), .d (ints (l.filter fun k => !p k))] ∧ H' = [some (.row [.d x])] := by
  refine Tri_of (m := 1) tt_ok Tryz.func217 rfl (by decide) Tryz.ntmps217 (by rfl) rfl ?_
  have hml : (l.map intCs).length = l.length := by simp
  repeat' ((conv => whnf); (first
   | (refine Len_in (fun hlen => ?_))))
  refine W_loop (fun μ s => ∃ (k : Nat), k ≤ l.length ∧ μ = l.length - k ∧
      s = ⟨[(1, .clos (.func g) [] [.ptr 0 0]), (4, AccV 1 1 (((l.take k).filter p).map intCs)), (5, AccV 2 1 (((l.take k).filter fun k => !p k).map intCs)), (8, .d (ints l)), (9, .i (List.map intCs l).length), (10, .i k)], 28, [some (.row [.d x]), AccB (((l.take k).filter p).map intCs), AccB (((l.take k).filter fun k => !p k).map intCs)], 1, []⟩) l.length ⟨_, ?_, 0, by omega, by omega, rfl⟩ ?_
  · rw [List.take_zero, List.filter_nil, List.filter_nil, List.map_nil, AccV_nil, AccV_nil, AccB_nil]
    exact Wk.trans Wk_pad (Wk.trans Wk_pad (Wk_env (by repeat (first | exact trivial | refine ⟨rfl, ?_⟩))))
  rintro μ s1 ⟨k, hk, rfl, rfl⟩
  refine W_run tt_ok ?_
  by_cases hlt : k < l.length
  · have htk : l.take (k + 1) = l.take k ++ [l[k]] := List.take_succ_eq_append_getElem hlt
    have hc := hp l[k] (List.getElem_mem hlt)
    have hidx : (l.map intCs)[(k : Int).toNat]? = some (intCs l[k]) := by simp [hlt]
    have l1 : ((l.take k).filter p).length ≤ l.length := Nat.le_trans (List.length_filter_le _ _) (by simp; omega)
    have l2 : ((l.take k).filter fun k => !p k).length ≤ l.length := Nat.le_trans (List.length_filter_le _ _) (by simp; omega)
    have y1 : p l[k] = true → (l.take (k + 1)).filter p = (l.take k).filter p ++ [l[k]] ∧ ((l.take (k + 1)).filter fun k => !p k) = (l.take k).filter fun k => !p k := fun h => by rw [htk, List.filter_append, List.filter_append]; simp [h]
    have y0 : p l[k] = false → (l.take (k + 1)).filter p = (l.take k).filter p ∧ ((l.take (k + 1)).filter fun k => !p k) = ((l.take k).filter fun k => !p k) ++ [l[k]] := fun h => by rw [htk, List.filter_append, List.filter_append]; simp [h]
    generalize (l.take k).filter p = A at *
    generalize ((l.take k).filter fun k => !p k) = B at *
    have mA : (A.map intCs).length = A.length := by simp
    have mB : (B.map intCs).length = B.length := by simp
    have hA := Acc_app (b := 1) (sz := 1) (rows := A.map intCs) (new := [intCs l[k]]) (by simp)
    have hB := Acc_app (b := 2) (sz := 1) (rows := B.map intCs) (new := [intCs l[k]]) (by simp)
    cases hq : p l[k]
    · rw [hq] at hc
      obtain ⟨e1, e2⟩ := y0 hq
      repeat' ((conv => whnf); (first
       | (refine Br_true (decide_eq_true (by omega)) ?_)
       | (refine Idx_in _ hidx (by omega) rfl ?_)
       | (refine Tri.call hc [0] rfl rfl ⟨⟨rfl, rfl⟩, trivial⟩ rfl rfl rfl rfl rfl rfl ?_)
       | (refine force_in ?_)))
      refine Ch_r ?_
      conv => whnf
      refine App_acc (B.map intCs) [intCs l[k]] rfl rfl rfl rfl (by simp) cs1 (by intro r hr; simp at hr; subst hr; rfl) (by rw [mB]; simp only [List.length_cons, List.length_nil]; omega) (Nat.le_of_ble_eq_true rfl) ?_
      repeat' ((conv => whnf); (first
       | (refine Back_in _ _ ⟨k + 1, by omega, rfl, rfl⟩ (by omega) ?_)
       | (refine ArK_in (wrap_i64 (by omega) (by omega)) ?_)))
      rw [e1, e2, List.map_append]
      show Wk _ ⟨[_, (4, AccV 1 1 (A.map intCs)), (5, AccV 2 1 (B.map intCs ++ [intCs l[k]])), _, _, _], 28, [_, AccB (A.map intCs), AccB (B.map intCs ++ [intCs l[k]])], 1, []⟩
      rw [hB.1, hB.2]
      exact Wk_ren [0, 1, 3] rfl rfl ⟨⟨rfl, rfl⟩, HLe_acc rfl ⟨⟨by rw [renB_row]; rfl, lowB_row _ _⟩, trivial⟩⟩ ⟨⟨rfl, rfl⟩, ⟨ren_acc rfl, low_acc (by decide)⟩, ⟨rfl, rfl⟩, ⟨rfl, rfl⟩, ⟨rfl, rfl⟩, ⟨rfl, rfl⟩, trivial⟩ (by decide) (by intro i hi; match i, hi with | 0, _ => rfl)
    · rw [hq] at hc
      obtain ⟨e1, e2⟩ := y1 hq
      repeat' ((conv => whnf); (first
       | (refine Br_true (decide_eq_true (by omega)) ?_)
       | (refine Idx_in _ hidx (by omega) rfl ?_)
       | (refine Tri.call hc [0] rfl rfl ⟨⟨rfl, rfl⟩, trivial⟩ rfl rfl rfl rfl rfl rfl ?_)
       | (refine force_in ?_)))
      refine Ch_r ?_
      conv => whnf
      refine App_acc (A.map intCs) [intCs l[k]] rfl rfl rfl rfl (by simp) cs1 (by intro r hr; simp at hr; subst hr; rfl) (by rw [mA]; simp only [List.length_cons, List.length_nil]; omega) (Nat.le_of_ble_eq_true rfl) ?_
      repeat' ((conv => whnf); (first
       | (refine Back_in _ _ ⟨k + 1, by omega, rfl, rfl⟩ (by omega) ?_)
       | (refine ArK_in (wrap_i64 (by omega) (by omega)) ?_)))
      rw [e1, e2, List.map_append]
      show Wk _ ⟨[_, (4, AccV 1 1 (A.map intCs ++ [intCs l[k]])), (5, AccV 2 1 (B.map intCs)), _, _, _], 28, [_, AccB (A.map intCs ++ [intCs l[k]]), AccB (B.map intCs)], 1, []⟩
      rw [hA.1, hA.2]
      exact Wk_ren [0, 3, 2] rfl rfl ⟨⟨rfl, rfl⟩, ⟨by rw [renB_row]; rfl, lowB_row _ _⟩, HLe_acc rfl trivial⟩ ⟨⟨rfl, rfl⟩, ⟨rfl, rfl⟩, ⟨ren_acc rfl, low_acc (by decide)⟩, ⟨rfl, rfl⟩, ⟨rfl, rfl⟩, ⟨rfl, rfl⟩, trivial⟩ (by decide) (by intro i hi; match i, hi with | 0, _ => rfl)
  · have hkl : k = l.length := by omega
    subst hkl
    rw [List.take_length]
    repeat' ((conv => whnf); (first
     | (refine Br_false (decide_eq_false (by omega)) ?_)
     | (refine finW (v' := .tup [.d (ints (l.filter p)), .d (ints (l.filter fun k => !p k))]) (H' := [some (.row [.d x])]) (Fin_fz [0] [1, 2] rfl rfl rfl ⟨⟨_, rfl, .row _ _ (Nat.le_refl _) fun i a b ha hb => by rw [ha] at hb; injection hb with hb; subst hb; match i with | 0 => (simp at ha; subst ha; exact .same _ rfl) | i + 1 => simp at ha⟩, trivial⟩ (FV_tup2 (FV_accF _ (by simp) rfl cs1) (FV_accF _ (by simp) rfl cs1)) (by decide) (by intro i hi; match i, hi with | 0, _ => rfl)) ⟨rfl, rfl⟩)
     | (refine force_in ?_)))
end Go.Eng
namespace Go.Eng
open Go
structure Shn where
  node : Int
  inv : Int
def Shn.cs (s : Shn) : List D := [.int .i64 s.node, .int .i64 s.inv]
abbrev shnD (l : List Shn) : D := .sl (l.map Shn.cs)
theorem cs2s {l : List Shn} : ∀ r ∈ l.map Shn.cs, r.length = 2 := by
  intro r hr; obtain ⟨x, _, rfl⟩ := List.mem_map.1 hr; rfl
structure View where
  tree : Tree
  opn : List Int
  modal : List Int
  pops : List Shn
  top : List Int
end Go.Eng
set_option maxRecDepth 100000
set_option linter.unusedVariables false
set_option linter.unusedSimpArgs false
namespace Go.Eng
open Go Go.Proofs
theorem only_shn (l : List Shn) (x : D) (g : FuncId) (p : Shn → Bool) (hl : l.length ≤ 1000) (hp : ∀ k ∈ l, Tri Tryz.prog g ([] ++ [aggD k.cs] ++ [.ptr 0 0]) [some (.row [.d x])] fun v H' => v = .b (p k) ∧ H' = [some (.row [.d x])]) :
    Tri Tryz.prog 218 [.d (shnD l), .clos (.func g) [] [.ptr 0 0]] [some (.row [.d x])] fun v H' => v = .tup [.d (shnD (l.filter p)), .d (shnD (l.filter fun k => !p k))] ∧ H' = [some (.row [.d x])] := by
  refine Tri_of (m := 1) tt_ok Tryz.func218 rfl (by decide) Tryz.ntmps218 (by rfl) rfl ?_
  have hml : (l.map Shn.cs).length = l.length := by simp
  repeat' ((conv => whnf); (first
   | (refine Len_in (fun hlen => ?_))))
  refine W_loop (fun μ s => ∃ (k : Nat), k ≤ l.length ∧ μ = l.length - k ∧
      s = ⟨[(1, .clos (.func g) [] [.ptr 0 0]), (4, AccV 1 2 (((l.take k).filter p).map Shn.cs)), (5, AccV 2 2 (((l.take k).filter fun k => !p k).map Shn.cs)), (8, .d (shnD l)), (9, .i (List.map Shn.cs l).length), (10, .i k)], 28, [some (.row [.d x]), AccB (((l.take k).filter p).map Shn.cs), AccB (((l.take k).filter fun k => !p k).map Shn.cs)], 1, []⟩) l.length ⟨_, ?_, 0, by omega, by omega, rfl⟩ ?_
  · rw [List.take_zero, List.filter_nil, List.filter_nil, List.map_nil, AccV_nil, AccV_nil, AccB_nil]
    exact Wk.trans Wk_pad (Wk.trans Wk_pad (Wk_env (by repeat (first | exact trivial | refine ⟨rfl, ?_⟩))))
  rintro μ s1 ⟨k, hk, rfl, rfl⟩
  refine W_run tt_ok ?_
  by_cases hlt : k < l.length
  · have htk : l.take (k + 1) = l.take k ++ [l[k]] := List.take_succ_eq_append_getElem hlt
    have hc := hp l[k] (List.getElem_mem hlt)
    have hidx : (l.map Shn.cs)[(k : Int).toNat]? = some ((l[k]).cs) := by simp [hlt]
    have l1 : ((l.take k).filter p).length ≤ l.length := Nat.le_trans (List.length_filter_le _ _) (by simp; omega)
    have l2 : ((l.take k).filter fun k => !p k).length ≤ l.length := Nat.le_trans (List.length_filter_le _ _) (by simp; omega)
    have y1 : p l[k] = true → (l.take (k + 1)).filter p = (l.take k).filter p ++ [l[k]] ∧ ((l.take (k + 1)).filter fun k => !p k) = (l.take k).filter fun k => !p k := fun h => by rw [htk, List.filter_append, List.filter_append]; simp [h]
    have y0 : p l[k] = false → (l.take (k + 1)).filter p = (l.take k).filter p ∧ ((l.take (k + 1)).filter fun k => !p k) = ((l.take k).filter fun k => !p k) ++ [l[k]] := fun h => by rw [htk, List.filter_append, List.filter_append]; simp [h]
    generalize (l.take k).filter p = A at *
    generalize ((l.take k).filter fun k => !p k) = B at *
    have mA : (A.map Shn.cs).length = A.length := by simp
    have mB : (B.map Shn.cs).length = B.length := by simp
    have hA := Acc_app (b := 1) (sz := 2) (rows := A.map Shn.cs) (new := [(l[k]).cs]) (by simp)
    have hB := Acc_app (b := 2) (sz := 2) (rows := B.map Shn.cs) (new := [(l[k]).cs]) (by simp)
    cases hq : p l[k]
    · rw [hq] at hc
      obtain ⟨e1, e2⟩ := y0 hq
      repeat' ((conv => whnf); (first
       | (refine Br_true (decide_eq_true (by omega)) ?_)
       | (refine Idx_in _ hidx (by omega) rfl ?_)
       | (refine Tri.call hc [0] rfl rfl ⟨⟨rfl, rfl⟩, trivial⟩ rfl rfl rfl rfl rfl rfl ?_)
       | (refine force_in ?_)))
      refine Ch_r ?_
      conv => whnf
      refine App_acc (B.map Shn.cs) [(l[k]).cs] rfl rfl rfl rfl (by simp) cs2s (by intro r hr; simp at hr; subst hr; rfl) (by rw [mB]; simp only [List.length_cons, List.length_nil]; omega) (Nat.le_of_ble_eq_true rfl) ?_
      repeat' ((conv => whnf); (first
       | (refine Back_in _ _ ⟨k + 1, by omega, rfl, rfl⟩ (by omega) ?_)
       | (refine ArK_in (wrap_i64 (by omega) (by omega)) ?_)))
      rw [e1, e2, List.map_append]
      show Wk _ ⟨[_, (4, AccV 1 2 (A.map Shn.cs)), (5, AccV 2 2 (B.map Shn.cs ++ [(l[k]).cs])), _, _, _], 28, [_, AccB (A.map Shn.cs), AccB (B.map Shn.cs ++ [(l[k]).cs])], 1, []⟩
      rw [hB.1, hB.2]
      exact Wk_ren [0, 1, 4] rfl rfl ⟨⟨rfl, rfl⟩, HLe_acc rfl ⟨⟨by rw [renB_row]; rfl, lowB_row _ _⟩, trivial⟩⟩ ⟨⟨rfl, rfl⟩, ⟨ren_acc rfl, low_acc (by decide)⟩, ⟨rfl, rfl⟩, ⟨rfl, rfl⟩, ⟨rfl, rfl⟩, ⟨rfl, rfl⟩, trivial⟩ (by decide) (by intro i hi; match i, hi with | 0, _ => rfl)
    · rw [hq] at hc
      obtain ⟨e1, e2⟩ := y1 hq
      repeat' ((conv => whnf); (first
       | (refine Br_true (decide_eq_true (by omega)) ?_)
       | (refine Idx_in _ hidx (by omega) rfl ?_)
       | (refine Tri.call hc [0] rfl rfl ⟨⟨rfl, rfl⟩, trivial⟩ rfl rfl rfl rfl rfl rfl ?_)
       | (refine force_in ?_)))
      refine Ch_r ?_
      conv => whnf
      refine App_acc (A.map Shn.cs) [(l[k]).cs] rfl rfl rfl rfl (by simp) cs2s (by intro r hr; simp at hr; subst hr; rfl) (by rw [mA]; simp only [List.length_cons, List.length_nil]; omega) (Nat.le_of_ble_eq_true rfl) ?_
      repeat' ((conv => whnf); (first
       | (refine Back_in _ _ ⟨k + 1, by omega, rfl, rfl⟩ (by omega) ?_)
       | (refine ArK_in (wrap_i64 (by omega) (by omega)) ?_)))
      rw [e1, e2, List.map_append]
      show Wk _ ⟨[_, (4, AccV 1 2 (A.map Shn.cs ++ [(l[k]).cs])), (5, AccV 2 2 (B.map Shn.cs)), _, _, _], 28, [_, AccB (A.map Shn.cs ++ [(l[k]).cs]), AccB (B.map Shn.cs)], 1, []⟩
      rw [hA.1, hA.2]
      exact Wk_ren [0, 4, 2] rfl rfl ⟨⟨rfl, rfl⟩, ⟨by rw [renB_row]; rfl, lowB_row _ _⟩, HLe_acc rfl trivial⟩ ⟨⟨rfl, rfl⟩, ⟨rfl, rfl⟩, ⟨ren_acc rfl, low_acc (by decide)⟩, ⟨rfl, rfl⟩, ⟨rfl, rfl⟩, ⟨rfl, rfl⟩, trivial⟩ (by decide) (by intro i hi; match i, hi with | 0, _ => rfl)
  · have hkl : k = l.length := by omega
    subst hkl
    rw [List.take_length]
    repeat' ((conv => whnf); (first
     | (refine Br_false (decide_eq_false (by omega)) ?_)
     | (refine finW (v' := .tup [.d (shnD (l.filter p)), .d (shnD (l.filter fun k => !p k))]) (H' := [some (.row [.d x])]) (Fin_fz [0] [1, 2] rfl rfl rfl ⟨⟨_, rfl, .row _ _ (Nat.le_refl _) fun i a b ha hb => by rw [ha] at hb; injection hb with hb; subst hb; match i with | 0 => (simp at ha; subst ha; exact .same _ rfl) | i + 1 => simp at ha⟩, trivial⟩ (FV_tup2 (FV_accF _ (by simp) rfl cs2s) (FV_accF _ (by simp) rfl cs2s)) (by decide) (by intro i hi; match i, hi with | 0, _ => rfl)) ⟨rfl, rfl⟩)
     | (refine force_in ?_)))
end Go.Eng
set_option maxRecDepth 100000
set_option linter.unusedVariables false
set_option linter.unusedSimpArgs false
namespace Go.Eng
open Go Go.Proofs
theorem top_node (s : Shn) : Fn Tryz.prog 226 [aggD s.cs] (.i s.node) := by
  refine Fn_of tt_ok Tryz.func226 rfl (by decide) Tryz.ntmps226 rfl ?_
  repeat' ((conv => whnf); (first
   | (refine fin0 rfl ?_)))
  rfl
theorem top_each (l : List Shn) (hl : l.length ≤ 1000) : Fn Tryz.prog 225 [.d (shnD l), .d (.fn 226)] (.d (ints (l.map Shn.node))) := by
  refine Fn_of tt_ok Tryz.func225 rfl (by decide) Tryz.ntmps225 rfl ?_
  have hml : (l.map Shn.cs).length = l.length := by simp
  repeat' ((conv => whnf); (first
   | (refine Len_in (fun hlen => ?_))))
  refine W_loop (fun μ s => ∃ (k : Nat), k ≤ l.length ∧ μ = l.length - k ∧
      s = ⟨[(1, .d (.fn 226)), (5, AccV 0 1 (((l.take k).map Shn.node).map intCs)), (8, .d (shnD l)), (9, .i (List.map Shn.cs l).length), (10, .i k)], 22, [AccB (((l.take k).map Shn.node).map intCs)], 0, []⟩) l.length ⟨_, ?_, 0, by omega, by omega, rfl⟩ ?_
  · rw [List.take_zero, List.map_nil, List.map_nil, AccV_nil, AccB_nil]
    exact Wk.trans Wk_pad (Wk_env (by repeat (first | exact trivial | refine ⟨rfl, ?_⟩)))
  rintro μ s1 ⟨k, hk, rfl, rfl⟩
  refine W_run tt_ok ?_
  by_cases hlt : k < l.length
  · have htk : l.take (k + 1) = l.take k ++ [l[k]] := List.take_succ_eq_append_getElem hlt
    have e : ((l.take (k + 1)).map Shn.node).map intCs = ((l.take k).map Shn.node).map intCs ++ [intCs (l[k]).node] := by rw [htk, List.map_append, List.map_append]; rfl
    have hidx : (l.map Shn.cs)[(k : Int).toNat]? = some (l[k]).cs := by simp [hlt]
    have hn := top_node l[k]
    have mA : (((l.take k).map Shn.node).map intCs).length = k := by simp; omega
    have hA := Acc_app (b := 0) (sz := 1) (rows := ((l.take k).map Shn.node).map intCs) (new := [intCs (l[k]).node]) (by simp)
    have hr1 : ∀ r ∈ ((l.take k).map Shn.node).map intCs, r.length = 1 := cs1
    generalize ((l.take k).map Shn.node).map intCs = A at *
    repeat' ((conv => whnf); (first
     | (refine Br_true (decide_eq_true (by omega)) ?_)
     | (refine Idx_in _ hidx (by omega) rfl ?_)
     | (refine Fn.use (hn) rfl rfl ?_)
     | (refine force_in ?_)))
    refine Ch_r ?_
    conv => whnf
    refine App_acc A [intCs (l[k]).node] rfl rfl rfl rfl (by simp) hr1 (by intro r hr; simp at hr; subst hr; rfl) (by rw [mA]; simp only [List.length_cons, List.length_nil]; omega) (Nat.le_of_ble_eq_true rfl) ?_
    repeat' ((conv => whnf); (first
     | (refine Back_in _ _ ⟨k + 1, by omega, rfl, rfl⟩ (by omega) ?_)
     | (refine ArK_in (wrap_i64 (by omega) (by omega)) ?_)))
    rw [e, hA.1, hA.2]
    exact Wk_ren [2] rfl rfl ⟨⟨by rw [renB_row]; rfl, lowB_row _ _⟩, trivial⟩ (by repeat (first | exact trivial | refine ⟨⟨rfl, rfl⟩, ?_⟩)) (by omega) (by omega)
  · have hkl : k = l.length := by omega
    subst hkl
    rw [List.take_length]
    repeat' ((conv => whnf); (first
     | (refine Br_false (decide_eq_false (by omega)) ?_)
     | (refine finD (F := [0]) (FV_acc _ rfl cs1))
     | (refine force_in ?_)))
end Go.Eng
namespace Go.Eng
open Go
def pv (t : Tree) : List D := [treeD t, ints [], ints [], shnD [], ints []]
end Go.Eng
set_option maxRecDepth 100000
set_option linter.unusedVariables false
set_option linter.unusedSimpArgs false
namespace Go.Eng
open Go Go.Proofs
def Seq1 (f : FuncId) (x : D) (xs : List AV) : Prop := ∀ Y : Ysp, Y.xs = xs → YLaw Tryz.prog Y →
  Tri Tryz.prog f ([] ++ [.clos (.yield Y.l) [] []] ++ [.ptr 0 0]) ([some (.row [.d x])] ++ [some (.yl Y 0)]) fun v H1 => H1[1]? = some (some (.yl Y xs.length)) ∨ H1[1]? = some (some (.yz Y))
def seqH1 (v : AV) : Heap := [none, some (.row [v]), some .dfr]
theorem appendSeq1_int (f : FuncId) (x : D) (l : List Int) (hs : Seq1 f x (l.map AV.i)) (hl : l.length ≤ 10000) :
    Tri Tryz.prog 313 [.nsl, .clos (.func f) [] [.ptr 0 0]] [some (.row [.d x])] fun v H => v = .d (ints l) ∧ H = [none] := by
  refine Tri_of (m := 1) tt_ok Tryz.func313 rfl (by decide) Tryz.ntmps313 (by rfl) rfl ?_
  conv => whnf
  refine W_rangeA [0] (fs0 := []) (cs0 := [.ptr 0 0]) (H0 := [some (.row [.d x])]) (l.map AV.i)
    (fun k H => (k = 0 ∧ H = seqH1 .nsl) ∨ (0 < k ∧ H = seqH1 (AccV 3 1 ((l.take k).map intCs)) ++ [AccB ((l.take k).map intCs)]))
    (fun _ _ => False) rfl rfl rfl
    (by repeat (first | exact trivial | refine ⟨⟨rfl, rfl⟩, ?_⟩)) rfl rfl rfl rfl (by decide) (by decide) AsgOk_in rfl plain_ints ?_ (.inl ⟨rfl, rfl⟩) ?_ ?_ ?_
  · intro Y hx hY
    exact hs Y hx hY
  · rintro lp k z H' hx hH hlen hY
    obtain ⟨c, hc, rfl⟩ : ∃ c, l[k]? = some c ∧ z = .i c := by
      rw [List.getElem?_map] at hx
      cases h : l[k]? with
      | none => rw [h] at hx; simp at hx
      | some c => rw [h] at hx; simp at hx; exact ⟨c, rfl, hx.symm⟩
    have hlt : k < l.length := (List.getElem?_eq_some_iff.1 hc).1
    have hce : l[k] = c := (List.getElem?_eq_some_iff.1 hc).2
    have htk : (l.take (k + 1)).map intCs = (l.take k).map intCs ++ [intCs c] := by rw [List.take_succ_eq_append_getElem hlt, hce]; simp
    have hrl : ((l.take k).map intCs).length = k := by simp; omega
    refine W_padH (H2 := seqH1 (AccV 3 1 ((l.take k).map intCs)) ++ [AccB ((l.take k).map intCs)]) ?_ ?_
    · rcases hH with ⟨rfl, rfl⟩ | ⟨_, rfl⟩
      · exact .inr (by rw [List.take_zero, List.map_nil, AccV_nil, AccB_nil])
      · exact .inl rfl
    have hr1 : ∀ r ∈ (l.take k).map intCs, r.length = 1 := cs1
    generalize hrw : (l.take k).map intCs = rows at *
    refine W_run tt_ok ?_
    have ha := Acc_app (b := 3) (sz := 1) (rows := rows) (new := [intCs c]) (by simp)
    repeat' ((conv => whnf); (first
     | (refine force_in ?_)))
    refine Ch_r ?_
    conv => whnf
    refine App_acc rows [intCs c] rfl rfl rfl rfl (by simp) hr1 (by intro r hr; simp at hr; subst hr; rfl) (by rw [hrl]; simp only [List.length_cons, List.length_nil]; omega) (Nat.le_of_ble_eq_true rfl) ?_
    skip
    conv => whnf
    refine Rd_next (seqH1 (.msl 3 0 (rows.length + 1) (rows.length + 1) 1) ++ [some (.row ((rows ++ [intCs c]).flatten.map .d))]) (Wk_ren [0, 1, 2, 4] rfl rfl (by refine ⟨⟨rfl, rfl⟩, ⟨rfl, rfl⟩, ⟨by rw [renB_row]; rfl, lowB_row _ _⟩, trivial⟩) (by repeat (first | exact trivial | refine ⟨⟨rfl, rfl⟩, ?_⟩)) (by show 3 ≤ 4; decide) (by show ∀ i, i < 3 → gOf [0, 1, 2, 4] i = i; decide)) rfl (by simp [seqH1]) (.inr ⟨by omega, ?_⟩)
    rw [htk, ha.1, ha.2]
    rfl
  · rintro H' hH hlen hY
    rw [List.length_map] at hH
    rw [List.take_length] at hH
    rcases hH with ⟨h0, rfl⟩ | ⟨h0, rfl⟩
    · have hnl : l = [] := List.eq_nil_of_length_eq_zero h0
      subst hnl
      repeat' ((conv => whnf); (first
       | (refine finW (v' := .d (ints [])) (H' := [none]) (Fin_fz [0] [] rfl rfl rfl trivial .nsl (by decide) (by decide)) ⟨rfl, rfl⟩)))
    · have hne : l.map intCs ≠ [] := by intro e; have := congrArg List.length e; rw [List.length_map] at this; simp at this; subst this; simp at h0
      rw [AccV_cons hne, AccB_cons hne]
      repeat' ((conv => whnf); (first
       | (refine finW (v' := .d (ints l)) (H' := [none]) (Fin_fz [0] [3] rfl rfl rfl trivial (FV_tab _ rfl rfl rfl cs1) (by decide) (by decide)) ⟨rfl, rfl⟩)))
  · intro e H' c _ h
    exact h.elim
theorem collect1_int (f : FuncId) (x : D) (l : List Int) (hs : Seq1 f x (l.map AV.i)) (hl : l.length ≤ 10000) :
    Tri Tryz.prog 256 [.clos (.func f) [] [.ptr 0 0]] [some (.row [.d x])] fun v H => v = .d (ints l) ∧ H = [none] := by
  refine Tri_of (m := 1) tt_ok Tryz.func256 rfl (by decide) Tryz.ntmps256 (by rfl) rfl ?_
  have h := appendSeq1_int f x l hs hl
  repeat' ((conv => whnf); (first
   | (refine Tri.use h ?_)
   | (refine finQ ⟨rfl, rfl⟩)))
theorem values_int (l : List Int) : Tri Tryz.prog 351 [.d (ints l)] [] fun v H => v = .clos (.func 373) [] [.ptr 0 0] ∧ H = [some (.row [.d (ints l)])] := by
  refine Tri_of (m := 0) tt_ok Tryz.func351 rfl (by decide) Tryz.ntmps351 (by rfl) rfl ?_
  repeat' ((conv => whnf); (first
   | (refine finR ?_)))
  rfl
theorem values_seq (l : List Int) : Seq1 373 (ints l) (l.map AV.i) := by
  intro Y hx hY
  refine Tri_of (m := 2) tt_ok Tryz.func373 rfl (by decide) Tryz.ntmps373 (by rfl) rfl ?_
  have hkl : (List.map intCs l).length = l.length := by simp
  repeat' ((conv => whnf); (first
   | (refine Len_in (fun hlen => ?_))))
  refine W_loop (fun μ s => ∃ (j : Nat), j ≤ l.length ∧ μ = l.length - j ∧
      s = ⟨[(0, .clos (.yield Y.l) [] []), (1, .ptr 0 0), (5, .d (ints l)), (6, .i (List.map intCs l).length), (7, .i j)], 16, [some (.row [.d (ints l)]), some (.yl Y j)], 2, []⟩) l.length
    ⟨_, ?_, 0, by omega, by omega, rfl⟩ ?_
  · exact Wk_env (by repeat (first | exact trivial | refine ⟨rfl, ?_⟩))
  rintro μ s1 ⟨j, hj, rfl, rfl⟩
  refine W_run tt_ok ?_
  refine Br_dec (fun h => ?_) (fun h => ?_)
  · rw [hkl] at h
    have hlt : j < l.length := by omega
    have hidx : (l.map intCs)[(j : Int).toNat]? = some (intCs l[j]) := by simp [hlt]
    have hxk : Y.xs[j]? = some (.i l[j]) := by rw [hx, List.getElem?_map, List.getElem?_eq_getElem hlt]; rfl
    repeat' ((conv => whnf); (first
     | (refine Idx_in _ hidx (by omega) rfl ?_)
     | (refine Yield_in 1 Y _ (.i l[j]) rfl rfl hY rfl rfl hxk ?_ ?_)
     | (refine Back_in _ _ ⟨j + 1, by omega, rfl, rfl⟩ (by omega) (Wk_env (by repeat (first | exact trivial | refine ⟨rfl, ?_⟩))))
     | (refine finQ (.inr rfl))
     | (refine ArK_in (wrap_i64 (by omega) (by omega)) ?_)))
  · rw [hkl] at h
    have hjl : j = l.length := by omega
    repeat' ((conv => whnf); (first
     | (refine finQ (.inl ?_))))
    rw [hjl]
    simp
theorem grow_nil : Fn Tryz.prog 289 [.nsl, .i 0] .nsl := by
  refine Fn_of tt_ok Tryz.func289 rfl (by decide) Tryz.ntmps289 rfl ?_
  repeat' ((conv => whnf); (first
   | (refine fin0 rfl ?_)
   | (refine ArK_in (wrap_i64 (by omega) (by omega)) ?_)))
  rfl
theorem concat_nil (R : List (List D)) (hR : ∀ r ∈ R, r = [ints []]) (hl : R.length ≤ 1000) : Fn Tryz.prog 224 [.d (.sl R)] (.d (ints [])) := by
  refine Fn_of tt_ok Tryz.func224 rfl (by decide) Tryz.ntmps224 rfl ?_
  have hat : ∀ k : Nat, k < R.length → R[(k : Int).toNat]? = some [ints []] := fun k hk => by
    have : R[k]? = some R[k] := List.getElem?_eq_getElem hk
    rw [show ((k : Int).toNat) = k by omega, this, hR _ (List.getElem_mem hk)]
  repeat' ((conv => whnf); (first
   | (refine Len_in (fun hlen => ?_))))
  refine W_loop (fun μ s => ∃ (k : Nat), k ≤ R.length ∧ μ = R.length - k ∧
      s = ⟨[(0, .d (.sl R)), (3, .i 0), (9, .d (.sl R)), (10, .i R.length), (11, .i k)], 36, [], 0, []⟩) R.length ⟨_, ?_, 0, by omega, by omega, rfl⟩ ?_
  · exact Wk_env (by repeat (first | exact trivial | refine ⟨rfl, ?_⟩))
  rintro μ s1 ⟨k, hk, rfl, rfl⟩
  refine W_run tt_ok ?_
  by_cases hlt : k < R.length
  · have hidx := hat k hlt
    repeat' ((conv => whnf); (first
     | (refine Br_true (decide_eq_true (by omega)) ?_)
     | (refine Len_in (fun hlen => ?_))
     | (refine Idx_in _ hidx (by omega) rfl ?_)
     | (refine Back_in _ _ ⟨k + 1, by omega, rfl, rfl⟩ (by omega) (Wk_env (by repeat (first | exact trivial | refine ⟨rfl, ?_⟩))))
     | (refine ArK_in (wrap_i64 (by omega) (by omega)) ?_)))
  repeat' ((conv => whnf); (first
   | (refine Br_false (decide_eq_false (by omega)) ?_)
   | (refine Len_in (fun hlen => ?_))
   | (refine Fn.use (grow_nil) rfl rfl ?_)))
  refine W_loop (fun μ s => ∃ (k : Nat), k ≤ R.length ∧ μ = R.length - k ∧
      s = ⟨[(6, .d (ints [])), (25, .d (.sl R)), (26, .i R.length), (27, .i k)], 36, [], 0, []⟩) R.length ⟨_, ?_, 0, by omega, by omega, rfl⟩ ?_
  · exact Wk_fz [] [] rfl rfl rfl trivial ⟨.nsl, .same _ rfl, .same _ rfl, .same _ rfl, trivial⟩ (by omega) (by omega)
  rintro μ s1 ⟨k, hk, rfl, rfl⟩
  refine W_run tt_ok ?_
  by_cases hlt : k < R.length
  · have hidx := hat k hlt
    repeat' ((conv => whnf); (first
     | (refine Br_true (decide_eq_true (by omega)) ?_)
     | (refine Idx_in _ hidx (by omega) rfl ?_)
     | (refine Ch_r (Need_in rfl ?_))
     | (refine Back_in _ _ ⟨k + 1, by omega, rfl, rfl⟩ (by omega) (Wk_env (by repeat (first | exact trivial | refine ⟨rfl, ?_⟩))))
     | (refine ArK_in (wrap_i64 (by omega) (by omega)) ?_)))
  repeat' ((conv => whnf); (first
   | (refine Br_false (decide_eq_false (by omega)) ?_)
   | (refine fin0 rfl ?_)))
  rfl
theorem insSort_nil : Fn Tryz.prog 407 [.d (ints []), .i 0, .i 0] (.tup []) := by
  refine Fn_of tt_ok Tryz.func407 rfl (by decide) Tryz.ntmps407 rfl ?_
  repeat' ((conv => whnf); (first
   | (refine ArK_in (wrap_i64 (by omega) (by omega)) ?_)))
  refine W_loop (fun μ s => s = ⟨[(6, .i 1), (2, .i 0)], 49, [], 0, []⟩) 0 ⟨_, ?_, rfl⟩ ?_
  · exact Wk_env (by repeat (first | exact trivial | refine ⟨rfl, ?_⟩))
  rintro μ s1 rfl
  refine W_run tt_ok ?_
  repeat' ((conv => whnf); (first
   | (refine fin0 rfl ?_)))
  rfl
end Go.Eng
