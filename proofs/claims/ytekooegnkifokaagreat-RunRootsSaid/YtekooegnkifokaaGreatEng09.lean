/- What the seat's proofs lean on, part 9: the executor over abstract values, its soundness, and what the program's functions answer (Sp49, Run1, Ref4, Ref5, Run2, Pag3, Pag4, Pag5, Pag6, Pag7, Ins2, Ins3, Ins4, Pag8, Pag9, RunO). -/
import Derived.Test.YtekooegnkifokaaGreatEng05
import Derived.Test.YtekooegnkifokaaGreatEng07
import Derived.Test.YtekooegnkifokaaGreatEng08
import Derived.Test.YtekooegnkifokaaGreatEng06
set_option linter.all false
set_option linter.unusedVariables false
set_option linter.unusedSimpArgs false
set_option linter.unusedVariables false
set_option linter.unusedSimpArgs false
namespace Go.Eng
theorem allOk_m {t : Tree} {n : Int} (h : allOk t n = true) : mayB t = true := by unfold allOk at h; simp only [Bool.and_eq_true] at h; exact h.1
theorem allOk_n {t : Tree} {n : Int} (h : allOk t n = true) : isN t n = true := by unfold allOk at h; simp only [Bool.and_eq_true] at h; exact h.2
theorem retO_ok {t : Tree} {holds : List Int} : ∀ (f : Nat) (a : Int), allOk t a = true → allOk t (retO t holds f a) = true
  | 0, a, h => h
  | f + 1, a, h => by
    simp only [retO]
    split
    · rename_i hc
      exact retO_ok f _ ((hostR_ok h).resolve_left hc.1)
    · exact h
theorem retR_ok {t : Tree} {a b : Int} (ha : allOk t a = true) (hb : allOk t b = true) : allOk t (retR t a b) = true := by
  unfold retR
  rw [ha, hb]
  exact retO_ok _ _ ha
def actR (t : Tree) (f r : Int) : Int :=
  if (allOk t f && allOk t r) = true then (if (nd t r).kind = 1 ∨ (nd t r).kind = 2 then -1 else if retR t f r ≠ r ∧ topR t (retR t f r) = r then retR t f r else if (nd t r).kind = 0 then 0 else -1) else -1
def rootB (t : Tree) (n : Int) : Bool := decide ((nd t n).kind = 0) || decide ((nd t n).kind = 3)
def rootsF (t : Tree) : Nat → List Int
  | 0 => []
  | k + 1 => rootsF t k ++ (if rootB t k then [(k : Int)] else [])
def rootsR (t : Tree) : List Int := rootsF t t.length
theorem rootsF_pre (t : Tree) (j : Nat) : ∀ k, j ≤ k → ∃ r, rootsF t k = rootsF t j ++ r := by
  intro k h
  induction k with
  | zero => have : j = 0 := by omega
            subst this; exact ⟨[], by simp⟩
  | succ k ih =>
    by_cases e : j = k + 1
    · subst e; exact ⟨[], by simp⟩
    · obtain ⟨r, hr⟩ := ih (by omega)
      exact ⟨r ++ (if rootB t k then [(k : Int)] else []), by simp [rootsF, hr]⟩
theorem rootsF_len (t : Tree) : ∀ k, (rootsF t k).length ≤ k := by
  intro k
  induction k with
  | zero => simp [rootsF]
  | succ k ih => simp only [rootsF, List.length_append]; split <;> simp <;> omega
theorem rootsF_mem {t : Tree} {r : Int} : ∀ k, r ∈ rootsF t k → 0 ≤ r ∧ r < k ∧ rootB t r = true := by
  intro k
  induction k with
  | zero => simp [rootsF]
  | succ k ih =>
    intro h
    simp only [rootsF, List.mem_append] at h
    rcases h with h | h
    · obtain ⟨h1, h2, h3⟩ := ih h
      exact ⟨h1, by omega, h3⟩
    · split at h
      · rename_i hb
        simp at h
        subst h
        exact ⟨by omega, by omega, hb⟩
      · simp at h
theorem rootsF_up (t : Tree) : ∀ k, (rootsF t k).Pairwise (· < ·) := by
  intro k
  induction k with
  | zero => simp [rootsF]
  | succ k ih =>
    simp only [rootsF]
    rw [List.pairwise_append]
    refine ⟨ih, by split <;> simp, ?_⟩
    intro a ha b hb
    have := (rootsF_mem k ha).2.1
    split at hb
    · simp at hb; omega
    · simp at hb
def actsR (t : Tree) (f : Int) : List (Int × Int) := if allOk t f = true then (rootsR t).map fun r => (r, actR t f r) else []
def actCs (a : Int × Int) : List D := [.int .i64 a.1, .int .i64 a.2]
theorem cs2a {l : List (Int × Int)} : ∀ r ∈ l.map actCs, r.length = 2 := by
  intro r hr; obtain ⟨x, _, rfl⟩ := List.mem_map.1 hr; rfl
def shF (t : Tree) : Nat → Nat
  | 0 => 0
  | k + 1 => shF t k + (if (nd t k).kind = 3 then 1 else 0)
theorem shF_len (t : Tree) : ∀ k, shF t k ≤ k := by
  intro k
  induction k with
  | zero => simp [shF]
  | succ k ih => simp only [shF]; split <;> omega
theorem roots_count {t : Tree} (hm : mayB t = true) : ∀ k, k ≤ t.length → 0 < k → (rootsF t k).length = shF t k + 1 := by
  intro k
  induction k with
  | zero => intro _ h; omega
  | succ k ih =>
    intro hk _
    have hn : isN t (k : Int) = true := by unfold isN; simp; omega
    have hd := (may_ok hm hn).doc
    by_cases h0 : k = 0
    · subst h0
      have e : (nd t 0).kind = 0 := hd.2 rfl
      simp [rootsF, shF, rootB, e]
    · have hne : (nd t (k : Int)).kind ≠ 0 := fun h => by have := hd.1 h; omega
      have := ih (by omega) (by omega)
      simp only [rootsF, shF, List.length_append, this]
      by_cases h3 : (nd t (k : Int)).kind = 3
      · simp [rootB, h3]
      · simp [rootB, h3, hne]
theorem roots_first {t : Tree} (hm : mayB t = true) : (rootsR t)[0]? = some 0 := by
  have h1 := (may_len64 hm).1
  obtain ⟨r, hr⟩ := rootsF_pre t 1 t.length h1
  have hn : isN t ((0 : Nat) : Int) = true := by unfold isN; simp; omega
  have e : (nd t 0).kind = 0 := (may_ok hm hn).doc.2 rfl
  unfold rootsR
  rw [hr]
  have : rootsF t 1 = [0] := by simp [rootsF, rootB, e]
  rw [this]
  rfl
theorem actR_top {t : Tree} {f r : Int} (h : 0 < actR t f r) : topR t (actR t f r) = r ∧ allOk t (actR t f r) = true := by
  unfold actR at *
  split at h
  · rename_i hb
    rw [if_pos hb]
    simp only [Bool.and_eq_true] at hb
    split at h
    · omega
    · rename_i hk
      rw [if_neg hk]
      split at h
      · rename_i hc
        rw [if_pos hc]
        exact ⟨hc.2, retR_ok hb.1 hb.2⟩
      · split at h <;> omega
  · omega
end Go.Eng
set_option maxRecDepth 100000
set_option linter.unusedVariables false
set_option linter.unusedSimpArgs false
namespace Go.Eng
open Go Go.Proofs
theorem chain_Active (t : Tree) (f r : Int) : Fn Tryz.prog 63 [.d (treeD t), .i f, .i r] (.i (actR t f r)) := by
  refine Fn_of tt_ok Tryz.func63 rfl (by decide) Tryz.ntmps63 rfl ?_
  have h1 := chain_is t f r
  unfold actR
  cases hb : allOk t f && allOk t r
  · rw [hb] at h1
    rw [if_neg (by simp)]
    repeat' ((conv => whnf); (first
     | (refine Fn.use (h1) rfl rfl ?_)
     | (refine fin0 rfl ?_)))
    all_goals rfl
  rw [hb] at h1
  rw [if_pos rfl]
  simp only [Bool.and_eq_true] at hb
  obtain ⟨hf, hr⟩ := hb
  have hn := allOk_n hr
  have h2 := shade_Retarget t f r
  have h3 := order_Top t (retR t f r)
  generalize retR t f r = a at *
  generalize topR t a = tp at *
  by_cases k1 : (nd t r).kind = 1 ∨ (nd t r).kind = 2
  · rw [if_pos k1]
    rcases k1 with k1 | k1
    all_goals
      repeat' ((conv => whnf); (first
       | (refine Br_true (beqT (by omega)) ?_)
       | (refine Br_false (beqF (by omega)) ?_)
       | (refine Fn.use (h1) rfl rfl ?_)
       | (refine Idx_nd hn rfl ?_)
       | (refine fin0 rfl ?_)))
      all_goals (first | rfl | (exfalso; omega))
  rw [if_neg k1]
  have k2 : (nd t r).kind ≠ 1 := fun h => k1 (.inl h)
  have k3 : (nd t r).kind ≠ 2 := fun h => k1 (.inr h)
  by_cases k0 : (nd t r).kind = 0
  · rw [if_pos k0]
    by_cases e1 : a = r
    · rw [if_neg (by simp [e1])]
      repeat' ((conv => whnf); (first
       | (refine Br_true (beqT (by omega)) ?_)
       | (refine Br_false (bneF (by omega)) ?_)
       | (refine Fn.use (h1) rfl rfl ?_)
       | (refine Idx_nd hn rfl ?_)
       | (refine Fn.use (h2) rfl rfl ?_)
       | (refine fin0 rfl ?_)))
      rfl
    · by_cases e2 : tp = r
      · rw [if_pos ⟨e1, e2⟩]
        repeat' ((conv => whnf); (first
         | (refine Br_true (beqT (by omega)) ?_)
         | (refine Br_true (bneT (by omega)) ?_)
         | (refine Fn.use (h1) rfl rfl ?_)
         | (refine Idx_nd hn rfl ?_)
         | (refine Fn.use (h2) rfl rfl ?_)
         | (refine Fn.use (h3) rfl rfl ?_)
         | (refine fin0 rfl ?_)))
        rfl
      · rw [if_neg (by simp [e2])]
        repeat' ((conv => whnf); (first
         | (refine Br_true (beqT (by omega)) ?_)
         | (refine Br_false (beqF (by omega)) ?_)
         | (refine Br_true (bneT (by omega)) ?_)
         | (refine Fn.use (h1) rfl rfl ?_)
         | (refine Idx_nd hn rfl ?_)
         | (refine Fn.use (h2) rfl rfl ?_)
         | (refine Fn.use (h3) rfl rfl ?_)
         | (refine fin0 rfl ?_)))
        rfl
  · rw [if_neg k0]
    by_cases e1 : a = r
    · rw [if_neg (by simp [e1])]
      repeat' ((conv => whnf); (first
       | (refine Br_false (beqF (by omega)) ?_)
       | (refine Br_false (bneF (by omega)) ?_)
       | (refine Fn.use (h1) rfl rfl ?_)
       | (refine Idx_nd hn rfl ?_)
       | (refine Fn.use (h2) rfl rfl ?_)
       | (refine fin0 rfl ?_)))
      rfl
    · by_cases e2 : tp = r
      · rw [if_pos ⟨e1, e2⟩]
        repeat' ((conv => whnf); (first
         | (refine Br_true (beqT (by omega)) ?_)
         | (refine Br_false (beqF (by omega)) ?_)
         | (refine Br_true (bneT (by omega)) ?_)
         | (refine Fn.use (h1) rfl rfl ?_)
         | (refine Idx_nd hn rfl ?_)
         | (refine Fn.use (h2) rfl rfl ?_)
         | (refine Fn.use (h3) rfl rfl ?_)
         | (refine fin0 rfl ?_)))
        rfl
      · rw [if_neg (by simp [e2])]
        repeat' ((conv => whnf); (first
         | (refine Br_false (beqF (by omega)) ?_)
         | (refine Br_true (bneT (by omega)) ?_)
         | (refine Fn.use (h1) rfl rfl ?_)
         | (refine Idx_nd hn rfl ?_)
         | (refine Fn.use (h2) rfl rfl ?_)
         | (refine Fn.use (h3) rfl rfl ?_)
         | (refine fin0 rfl ?_)))
        rfl
theorem ref3_Up (t : Tree) (n : Int) (ha : allOk t n = true) : Fn Tryz.prog 69 [.d (treeD t), .i n] (.d (ints (upR t n))) := by
  refine Fn_of tt_ok Tryz.func69 rfl (by decide) Tryz.ntmps69 rfl ?_
  have hm := allOk_m ha
  have e : upR t n = parUp t (t.length + 1) n := by unfold upR; rw [if_pos ha]
  have hlen := upR_len t n
  rw [e] at hlen ⊢
  skip
  refine W_loop (fun μ s => ∃ (c : Int) (acc : List Int), okN t c ∧ endsF t μ c = true ∧ acc ++ parUp t μ c = parUp t (t.length + 1) n ∧
      s = ⟨[(0, .d (treeD t)), (1, .i c), (5, AccV 0 1 (acc.map intCs))], 18, [AccB (acc.map intCs)], 0, []⟩) (t.length + 1) ⟨_, ?_, n, [], .inr (allOk_n ha), may_ends hm (allOk_n ha), rfl, rfl⟩ ?_
  · rw [List.map_nil, AccV_nil, AccB_nil]
    exact Wk.trans Wk_pad (Wk_env (by repeat (first | exact trivial | refine ⟨rfl, ?_⟩)))
  rintro μ s1 ⟨c, acc, hc, he, hL, rfl⟩
  refine W_run tt_ok ?_
  obtain ⟨f, rfl⟩ := ends_neg he
  generalize parUp t (t.length + 1) n = L at *
  simp only [parUp] at hL
  have hal := congrArg List.length hL
  rw [List.length_append] at hal
  refine Br_bne (fun h1 => ?_) (fun h1 => ?_)
  · rw [if_neg h1] at hL
    have hc' : isN t c = true := hc.resolve_left h1
    have ha2 := Acc_app (b := 0) (sz := 1) (rows := acc.map intCs) (new := [intCs c]) (by simp)
    have hmap : (acc ++ [c]).map intCs = acc.map intCs ++ [intCs c] := by simp
    repeat' ((conv => whnf); (first
     | (refine force_in ?_)))
    refine Ch_r ?_
    conv => whnf
    refine App_acc (acc.map intCs) [intCs c] rfl rfl rfl rfl (by simp) cs1 (by intro r hr; simp at hr; subst hr; rfl) (by simp only [List.length_map, List.length_cons, List.length_nil]; omega) (Nat.le_of_ble_eq_true rfl) ?_
    repeat' ((conv => whnf); (first
     | (refine Idx_nd hc' rfl ?_)
     | (refine Back_in _ f ⟨(nd t c).parent, acc ++ [c], may_par hm hc', ends_par hm he hc', by rw [List.append_assoc]; exact hL, rfl⟩ (by omega) ?_)))
    rw [hmap, ha2.1, ha2.2]
    exact Wk_ren [1] rfl rfl ⟨⟨by rw [renB_row]; rfl, lowB_row _ _⟩, trivial⟩ (by repeat (first | exact trivial | refine ⟨⟨rfl, rfl⟩, ?_⟩)) (by omega) (by omega)
  · rw [if_pos h1, List.append_nil] at hL
    subst hL
    repeat' ((conv => whnf); (first
     | (refine finD (F := [0]) (FV_acc _ rfl cs1))
     | (refine force_in ?_)))
theorem ref3_Place (l : List Int) (n : Int) : Fn Tryz.prog 281 [.d (ints l), .i n] (.i (ix (· == n) l)) := by
  refine Fn_of tt_ok Tryz.func281 rfl (by decide) Tryz.ntmps281 rfl ?_
  have hkl : (List.map intCs l).length = l.length := by simp
  skip
  refine W_loop (fun μ s => ∃ (j : Nat), j ≤ l.length ∧ μ = l.length - j ∧ (∀ i (h : i < l.length), i < j → (l[i] == n) = false) ∧ s = ⟨[(0, .d (ints l)), (1, .i n), (5, .i j)], 19, [], 0, []⟩) l.length ⟨_, ?_, 0, by omega, by omega, by intro i _ h; omega, rfl⟩ ?_
  · exact Wk_env (by repeat (first | exact trivial | refine ⟨rfl, ?_⟩))
  rintro μ s1 ⟨j, hj, rfl, hno, rfl⟩
  refine W_run tt_ok ?_
  have hix := ix_drop (· == n) l j hno hj
  by_cases hlt : j < l.length
  · have hidx : (l.map intCs)[(j : Int).toNat]? = some (intCs l[j]) := by simp [hlt]
    have hd : l.drop j = l[j] :: l.drop (j + 1) := List.drop_eq_getElem_cons hlt
    by_cases he : l[j] = n
    · have hx : ix (· == n) l = j := by rw [hix, hd]; simp [ix, he]
      rw [hx]
      repeat' ((conv => whnf); (first
       | (refine Br_true (beqT (by omega)) ?_)
       | (refine Br_true (decide_eq_true (by omega)) ?_)
       | (refine Len_in (fun hlen => ?_))
       | (refine Idx_in _ hidx (by omega) rfl ?_)
       | (refine fin0 rfl ?_)))
      rfl
    · have hno2 : ∀ i (h : i < l.length), i < j + 1 → (l[i] == n) = false := by
        intro i h1 h2
        by_cases e : i = j
        · subst e; simpa using he
        · exact hno i h1 (by omega)
      repeat' ((conv => whnf); (first
       | (refine Br_false (beqF (by omega)) ?_)
       | (refine Br_true (decide_eq_true (by omega)) ?_)
       | (refine Len_in (fun hlen => ?_))
       | (refine Idx_in _ hidx (by omega) rfl ?_)
       | (refine Back_in _ _ ⟨j + 1, by omega, rfl, hno2, rfl⟩ (by omega) (Wk_env (by repeat (first | exact trivial | refine ⟨rfl, ?_⟩))))
       | (refine ArK_in (wrap_i64 (by omega) (by omega)) ?_)))
  · have hx : ix (· == n) l = -1 := by
      rw [hix, List.drop_of_length_le (by omega)]; rfl
    rw [hx]
    repeat' ((conv => whnf); (first
     | (refine Br_false (decide_eq_false (by omega)) ?_)
     | (refine Len_in (fun hlen => ?_))
     | (refine fin0 rfl ?_)))
    rfl
theorem ref3_In (l : List Int) (n : Int) : Fn Tryz.prog 211 [.d (ints l), .i n] (.b (l.any (· == n))) := by
  have h := ref3_Place l n
  rw [← ix_any]
  generalize ix (· == n) l = i at *
  refine Fn_of tt_ok Tryz.func211 rfl (by decide) Tryz.ntmps211 rfl ?_
  repeat' ((conv => whnf); (first
   | (refine Fn.use (h) rfl rfl ?_)
   | (refine fin0 rfl ?_)))
  rfl
theorem ref3_Top (t : Tree) (n : Int) (ha : allOk t n = true) : Fn Tryz.prog 47 [.d (treeD t), .i n] (.i (topR t n)) := by
  have h := ref3_Up t n ha
  have hne := upR_ne ha
  unfold topR
  obtain ⟨L, x, hL⟩ : ∃ L x, upR t n = L ++ [x] := ⟨_, _, (List.dropLast_concat_getLast hne).symm⟩
  rw [hL] at h ⊢
  have e1 : (L ++ [x]).getLast?.getD (-1) = x := by simp
  rw [e1]
  have hkl : (List.map intCs (L ++ [x])).length = L.length + 1 := by simp
  have hidx : ∀ i : Int, i = ((List.map intCs (L ++ [x])).length : Int) - 1 → (List.map intCs (L ++ [x]))[i.toNat]? = some (intCs x) := by
    intro i hi
    have : i.toNat = L.length := by omega
    rw [this]; simp
  refine Fn_of tt_ok Tryz.func47 rfl (by decide) Tryz.ntmps47 rfl ?_
  repeat' ((conv => whnf); (first
   | (refine Len_in (fun hlen => ?_))
   | (refine Fn.use (h) rfl rfl ?_)
   | (refine Idx_in _ (hidx _ rfl) (by omega) rfl ?_)
   | (refine fin0 rfl ?_)
   | (refine ArK_in (wrap_i64 (by omega) (by omega)) ?_)))
  rfl
theorem ref4_Up (t : Tree) (n : Int) (ha : allOk t n = true) : Fn Tryz.prog 212 [.d (treeD t), .i n] (.d (ints (shUpR t n))) := by
  refine Fn_of tt_ok Tryz.func212 rfl (by decide) Tryz.ntmps212 rfl ?_
  have hm := allOk_m ha
  have hu := ups_may hm
  have e : shUpR t n = climb t (t.length + 1) n := by unfold shUpR; rw [if_pos ha]
  have hlen := climb_len t (t.length + 1) n
  have h64 := may_len64 hm
  rw [e]
  skip
  refine W_loop (fun μ s => ∃ (c : Int) (acc : List Int), okN t c ∧ endsF t μ c = true ∧ acc ++ climb t μ c = climb t (t.length + 1) n ∧
      s = ⟨[(0, .d (treeD t)), (1, .i c), (5, AccV 0 1 (acc.map intCs))], 16, [AccB (acc.map intCs)], 0, []⟩) (t.length + 1) ⟨_, ?_, n, [], .inr (allOk_n ha), may_ends hm (allOk_n ha), rfl, rfl⟩ ?_
  · rw [List.map_nil, AccV_nil, AccB_nil]
    exact Wk.trans Wk_pad (Wk_env (by repeat (first | exact trivial | refine ⟨rfl, ?_⟩)))
  rintro μ s1 ⟨c, acc, hc, he, hL, rfl⟩
  refine W_run tt_ok ?_
  obtain ⟨f, rfl⟩ := ends_neg he
  generalize climb t (t.length + 1) n = L at *
  simp only [climb] at hL
  have hal := congrArg List.length hL
  rw [List.length_append] at hal
  refine Br_bne (fun h1 => ?_) (fun h1 => ?_)
  · rw [if_neg h1] at hL
    have hc' : isN t c = true := hc.resolve_left h1
    obtain ⟨q1, q2⟩ := hu c hc'
    have q3 := ends_up he h1
    have hup := ref_Up t c hc'
    rw [q2] at hL q1
    have ha2 := Acc_app (b := 0) (sz := 1) (rows := acc.map intCs) (new := [intCs c]) (by simp)
    have hmap : (acc ++ [c]).map intCs = acc.map intCs ++ [intCs c] := by simp
    repeat' ((conv => whnf); (first
     | (refine force_in ?_)))
    refine Ch_r ?_
    conv => whnf
    refine App_acc (acc.map intCs) [intCs c] rfl rfl rfl rfl (by simp) cs1 (by intro r hr; simp at hr; subst hr; rfl) (by simp only [List.length_map, List.length_cons, List.length_nil]; omega) (Nat.le_of_ble_eq_true rfl) ?_
    repeat' ((conv => whnf); (first
     | (refine Fn.use (hup) rfl rfl ?_)
     | (refine Back_in _ f ⟨upN (nd t c), acc ++ [c], q1, q3, by rw [List.append_assoc]; exact hL, rfl⟩ (by omega) ?_)))
    rw [hmap, ha2.1, ha2.2]
    exact Wk_ren [1] rfl rfl ⟨⟨by rw [renB_row]; rfl, lowB_row _ _⟩, trivial⟩ (by repeat (first | exact trivial | refine ⟨⟨rfl, rfl⟩, ?_⟩)) (by omega) (by omega)
  · rw [if_pos h1, List.append_nil] at hL
    subst hL
    repeat' ((conv => whnf); (first
     | (refine finD (F := [0]) (FV_acc _ rfl cs1))
     | (refine force_in ?_)))
theorem ref4_Above (t : Tree) (a b : Int) (hb : allOk t b = true) : Fn Tryz.prog 159 [.d (treeD t), .i a, .i b] (.b (aboveR t a b)) := by
  have h1 := ref4_Up t b hb
  have h2 := ref3_In (shUpR t b) a
  unfold aboveR
  generalize shUpR t b = L at *
  refine Fn_of tt_ok Tryz.func159 rfl (by decide) Tryz.ntmps159 rfl ?_
  repeat' ((conv => whnf); (first
   | (refine Fn.use (h1) rfl rfl ?_)
   | (refine Fn.use (h2) rfl rfl ?_)
   | (refine fin0 rfl ?_)))
  rfl
theorem ref4_Retarget (t : Tree) (b : Int) (hb : allOk t b = true) : ∀ (μ : Nat) (a : Int), allOk t a = true → endsF t μ a = true → μ ≤ t.length + 1 →
    Fn Tryz.prog 93 [.d (treeD t), .i a, .i b] (.i (retO t (shUpR t b) (t.length + 1) a)) := by
  intro μ
  induction μ using Nat.strongRecOn with
  | _ μ ih =>
  intro a ha he hμ
  have hT := ref3_Top t a ha
  have hTn := topR_isN ha
  have hA := ref4_Above t (topR t a) b hb
  obtain ⟨μ', k1, k2, k3, k4⟩ := retO_step (holds := shUpR t b) ha he hμ
  have hok := hostR_ok ha
  have eh : hostR t a = (nd t (topR t a)).host := by unfold hostR; rw [if_pos ha]
  have hno := may_ok (allOk_m ha) hTn
  unfold aboveR at hA
  refine Fn_of tt_ok Tryz.func93 rfl (by decide) Tryz.ntmps93 rfl ?_
  by_cases k : (nd t (topR t a)).kind = 3
  · obtain ⟨_, _, q3, _, q5⟩ := hno.sh k
    rw [← eh] at q3 q5
    have h0 : hostR t a ≠ -1 := by have := nd_pos q3; omega
    have hok1 := hok.resolve_left h0
    have hrec := ih μ' k1 (hostR t a) hok1 k2 (by omega)
    rw [q5] at k3 k4
    cases hb1 : (shUpR t b).any (· == topR t a)
    · rw [hb1] at hA
      rw [k3 h0 hb1]
      rw [eh] at hrec ⊢
      generalize retO t (shUpR t b) (t.length + 1) _ = z at *
      repeat' ((conv => whnf); (first
       | (refine Br_false (bneF (by omega)) ?_)
       | (refine Fn.use (hT) rfl rfl ?_)
       | (refine Idx_nd hTn rfl ?_)
       | (refine Fn.use (hA) rfl rfl ?_)
       | (refine Fn.use (hrec) rfl rfl ?_)
       | (refine fin0 rfl ?_)))
      rfl
    · rw [hb1] at hA
      rw [k4 (.inr hb1)]
      repeat' ((conv => whnf); (first
       | (refine Br_false (bneF (by omega)) ?_)
       | (refine Fn.use (hT) rfl rfl ?_)
       | (refine Idx_nd hTn rfl ?_)
       | (refine Fn.use (hA) rfl rfl ?_)
       | (refine fin0 rfl ?_)))
      rfl
  · have h0 : hostR t a = -1 := by rw [eh]; exact hno.nh k
    rw [k4 (.inl h0)]
    repeat' ((conv => whnf); (first
     | (refine Br_true (bneT (by omega)) ?_)
     | (refine Fn.use (hT) rfl rfl ?_)
     | (refine Idx_nd hTn rfl ?_)
     | (refine fin0 rfl ?_)))
    rfl
theorem ref15_Active (t : Tree) (f r : Int) (hf : allOk t f = true) (hr : allOk t r = true) : Fn Tryz.prog 66 [.d (treeD t), .i f, .i r] (.i (actR t f r)) := by
  have hn := allOk_n hr
  have hk := (may_ok (allOk_m hr) hn).kind
  have e : retR t f r = retO t (shUpR t r) (t.length + 1) f := by unfold retR; rw [hf, hr]; rfl
  have h2 := ref4_Retarget t r hr (t.length + 1) f hf (may_ends (allOk_m hf) (allOk_n hf)) (Nat.le_refl _)
  rw [← e] at h2
  have h3 := ref3_Top t (retR t f r) (retR_ok hf hr)
  unfold actR
  rw [if_pos (by rw [hf, hr]; rfl)]
  clear e
  generalize retR t f r = a at *
  generalize topR t a = tp at *
  refine Fn_of tt_ok Tryz.func66 rfl (by decide) Tryz.ntmps66 rfl ?_
  by_cases k1 : (nd t r).kind = 1 ∨ (nd t r).kind = 2
  · rw [if_pos k1]
    rcases k1 with k1 | k1
    all_goals
      repeat' ((conv => whnf); (first
       | (refine Br_true (bneT (by omega)) ?_)
       | (refine Idx_nd hn rfl ?_)
       | (refine fin0 rfl ?_)))
      all_goals (first | rfl | (exfalso; omega))
  rw [if_neg k1]
  have k2 : (nd t r).kind ≠ 1 := fun h => k1 (.inl h)
  have k3 : (nd t r).kind ≠ 2 := fun h => k1 (.inr h)
  by_cases k0 : (nd t r).kind = 0
  · rw [if_pos k0]
    by_cases e1 : a = r
    · rw [if_neg (by simp [e1])]
      repeat' ((conv => whnf); (first
       | (refine Br_true (beqT (by omega)) ?_)
       | (refine Br_beq (fun h => ?_) (fun h => ?_))
       | (refine Br_false (bneF (by omega)) ?_)
       | (refine Idx_nd hn rfl ?_)
       | (refine Fn.use (h2) rfl rfl ?_)
       | (refine Fn.use (h3) rfl rfl ?_)
       | (refine fin0 rfl ?_)))
      all_goals rfl
    · by_cases e2 : tp = r
      · rw [if_pos ⟨e1, e2⟩]
        repeat' ((conv => whnf); (first
         | (refine Br_true (beqT (by omega)) ?_)
         | (refine Br_true (bneT (by omega)) ?_)
         | (refine Br_false (bneF (by omega)) ?_)
         | (refine Idx_nd hn rfl ?_)
         | (refine Fn.use (h2) rfl rfl ?_)
         | (refine Fn.use (h3) rfl rfl ?_)
         | (refine fin0 rfl ?_)))
        rfl
      · rw [if_neg (by simp [e2])]
        repeat' ((conv => whnf); (first
         | (refine Br_true (beqT (by omega)) ?_)
         | (refine Br_false (beqF (by omega)) ?_)
         | (refine Br_false (bneF (by omega)) ?_)
         | (refine Idx_nd hn rfl ?_)
         | (refine Fn.use (h2) rfl rfl ?_)
         | (refine Fn.use (h3) rfl rfl ?_)
         | (refine fin0 rfl ?_)))
        rfl
  · rw [if_neg k0]
    have k4 : (nd t r).kind = 3 := by omega
    by_cases e1 : a = r
    · rw [if_neg (by simp [e1])]
      repeat' ((conv => whnf); (first
       | (refine Br_false (beqF (by omega)) ?_)
       | (refine Br_beq (fun h => ?_) (fun h => ?_))
       | (refine Br_true (bneT (by omega)) ?_)
       | (refine Br_false (bneF (by omega)) ?_)
       | (refine Idx_nd hn rfl ?_)
       | (refine Fn.use (h2) rfl rfl ?_)
       | (refine Fn.use (h3) rfl rfl ?_)
       | (refine fin0 rfl ?_)))
      all_goals rfl
    · by_cases e2 : tp = r
      · rw [if_pos ⟨e1, e2⟩]
        repeat' ((conv => whnf); (first
         | (refine Br_true (beqT (by omega)) ?_)
         | (refine Br_true (bneT (by omega)) ?_)
         | (refine Br_false (bneF (by omega)) ?_)
         | (refine Idx_nd hn rfl ?_)
         | (refine Fn.use (h2) rfl rfl ?_)
         | (refine Fn.use (h3) rfl rfl ?_)
         | (refine fin0 rfl ?_)))
        rfl
      · rw [if_neg (by simp [e2])]
        repeat' ((conv => whnf); (first
         | (refine Br_false (beqF (by omega)) ?_)
         | (refine Br_true (bneT (by omega)) ?_)
         | (refine Br_false (bneF (by omega)) ?_)
         | (refine Idx_nd hn rfl ?_)
         | (refine Fn.use (h2) rfl rfl ?_)
         | (refine Fn.use (h3) rfl rfl ?_)
         | (refine fin0 rfl ?_)))
        rfl
end Go.Eng
set_option maxRecDepth 100000
set_option linter.unusedVariables false
namespace Go.Eng
open Go Go.Proofs
end Go.Eng
set_option maxRecDepth 100000
set_option linter.unusedVariables false
namespace Go.Eng
open Go Go.Proofs
def smallB (t : Tree) : Bool := decide (t.length ≤ 70) && t.all fun x => decide (x.kids.length ≤ 80) && decide (x.attrs.length ≤ 20)
theorem ref_Small (t : Tree) : Fn Tryz.prog 60 [.d (treeD t)] (.b (smallB t)) := by
  refine Fn_of tt_ok Tryz.func60 rfl (by decide) Tryz.ntmps60 rfl ?_
  have et : (List.map Node.cs t).length = t.length := by simp
  refine W_loop (fun μ s => ∃ (k : Nat), k ≤ t.length ∧ μ = t.length - k ∧ (∀ j (h : j < t.length), j < k → (decide ((t[j]).kids.length ≤ 80) && decide ((t[j]).attrs.length ≤ 20)) = true) ∧ s = ⟨[(0, .d (treeD t)), (3, .i k)], 34, [], 0, []⟩) (t.length) ⟨_, ?_, 0, by simp, by simp, ?_, rfl⟩ ?_
  · exact Wk_env (by repeat (first | exact trivial | refine ⟨rfl, ?_⟩))
  · intro j h hj; omega
  rintro μ s1 ⟨k, hk, rfl, hinv, rfl⟩
  refine W_run tt_ok ?_
  refine Len_in (fun hlen => ?_)
  refine Br_dec (fun h => ?_) (fun h => ?_)
  · simp at h
    have hlt := h
    have ha : (List.map Node.cs t)[(k : Int).toNat]? = some (t[k]).cs := by simp [hlt]
    have e1 : (List.map intCs (t[k]).kids).length = (t[k]).kids.length := by simp
    have e2 : (List.map Attr.cs (t[k]).attrs).length = (t[k]).attrs.length := by simp
    have hb : (decide ((t[k]).kids.length ≤ 80) && decide ((t[k]).attrs.length ≤ 20)) = false → smallB t = false := fun hb => by
      unfold smallB
      rw [Bool.and_eq_false_iff]; right
      rw [List.all_eq_false]
      exact ⟨_, List.getElem_mem hlt, by simpa using hb⟩
    have hx : (decide ((t[k]).kids.length ≤ 80) && decide ((t[k]).attrs.length ≤ 20)) = true → ∀ j (h : j < t.length), j < k + 1 → (decide ((t[j]).kids.length ≤ 80) && decide ((t[j]).attrs.length ≤ 20)) = true := by
      intro hb j hj hjk
      rcases Nat.lt_succ_iff_lt_or_eq.1 hjk with h1 | h1
      · exact hinv j hj h1
      · subst h1; exact hb
    repeat' ((conv => whnf); (first
     | (refine Br_dec (fun h => ?_) (fun h => ?_))
     | (refine Len_in (fun hlen => ?_))
     | (refine Idx_in _ ha (by omega) rfl ?_)
     | (refine Back_in _ _ ⟨k + 1, by omega, rfl, ?_, rfl⟩ (by omega) (Wk_env (by repeat (first | exact trivial | refine ⟨rfl, ?_⟩))))
     | (refine fin0 rfl ?_)
     | (refine ArK_in (wrap_i64 (by omega) (by omega)) ?_)))
    all_goals first
      | (refine hx ?_; simp; omega)
      | (rw [hb (by simp; omega)]; done)
      | (have : smallB t = false := by
           unfold smallB
           rw [Bool.and_eq_false_iff]; left
           simp; omega
         simp [this]; omega)
  · simp at h
    repeat' ((conv => whnf); (first
     | (refine Len_in (fun hlen => ?_))
     | (refine fin0 rfl ?_)))
    all_goals
      have ha : (t.all fun x => decide (x.kids.length ≤ 80) && decide (x.attrs.length ≤ 20)) = true := by
        rw [List.all_eq_true]
        intro y hy
        obtain ⟨j, hj, rfl⟩ := List.getElem_of_mem hy
        exact hinv j hj (by omega)
      unfold smallB
      rw [ha, Bool.and_true]
      simp only [AV.d.injEq, D.bool.injEq]
      rw [Bool.eq_iff_iff]
      simp
      try omega
end Go.Eng
set_option maxRecDepth 100000
set_option linter.unusedVariables false
set_option linter.unusedSimpArgs false
namespace Go.Eng
open Go Go.Proofs
theorem run_roots (t : Tree) : Tri Tryz.prog 62 [.d (treeD t)] [] fun v H => v = .clos (.func 85) [] [.ptr 0 0] ∧ H = [some (.row [.d (treeD t)])] := by
  refine Tri_of (m := 0) tt_ok Tryz.func62 rfl (by decide) Tryz.ntmps62 (by rfl) rfl ?_
  repeat' ((conv => whnf); (first
   | (refine finR ?_)))
  rfl
theorem run_roots1 (t : Tree) : Seq1 85 (treeD t) ((rootsR t).map AV.i) := by
  intro Y hx hY
  refine Tri_of (m := 2) tt_ok Tryz.func85 rfl (by decide) Tryz.ntmps85 (by rfl) rfl ?_
  have hkl : (List.map Node.cs t).length = t.length := by simp
  repeat' ((conv => whnf); (first
   | (refine Len_in (fun hlen => ?_))))
  refine W_loop (fun μ s => ∃ (j : Nat), j ≤ t.length ∧ μ = t.length - j ∧
      s = ⟨[(0, .clos (.yield Y.l) [] []), (1, .ptr 0 0), (5, .d (treeD t)), (6, .i (List.map Node.cs t).length), (7, .i j)], 27, [some (.row [.d (treeD t)]), some (.yl Y (rootsF t j).length)], 2, []⟩) t.length
    ⟨_, ?_, 0, by omega, by omega, rfl⟩ ?_
  · exact Wk_env (by repeat (first | exact trivial | refine ⟨rfl, ?_⟩))
  rintro μ s1 ⟨j, hj, rfl, rfl⟩
  refine W_run tt_ok ?_
  refine Br_dec (fun h => ?_) (fun h => ?_)
  · rw [hkl] at h
    have hlt : j < t.length := by omega
    have hn : isN t (j : Int) = true := by unfold isN; simp; omega
    by_cases hb : rootB t j = true
    · have e : rootsF t (j + 1) = rootsF t j ++ [(j : Int)] := by simp [rootsF, hb]
      have hxk : Y.xs[(rootsF t j).length]? = some (.i j) := by
        obtain ⟨r, hr⟩ := rootsF_pre t (j + 1) t.length (by omega)
        rw [hx, List.getElem?_map]
        unfold rootsR
        rw [hr, e, List.append_assoc, List.getElem?_append_right (Nat.le_refl _), Nat.sub_self]
        rfl
      have hb2 := hb
      unfold rootB at hb2
      simp only [Bool.or_eq_true, decide_eq_true_eq] at hb2
      rcases hb2 with hb2 | hb2
      all_goals
        repeat' ((conv => whnf); (first
         | (refine Br_true (beqT (by omega)) ?_)
         | (refine Br_false (beqF (by omega)) ?_)
         | (refine Idx_nd hn rfl ?_)
         | (refine Yield_in 1 Y _ (.i j) rfl rfl hY rfl rfl hxk ?_ ?_)
         | (refine Back_in _ _ ⟨j + 1, by omega, rfl, rfl⟩ (by omega) ?_)
         | (refine finQ (.inr rfl))
         | (refine ArK_in (wrap_i64 (by omega) (by omega)) ?_)))
        rw [e, List.length_append]
        exact Wk_ren [0, 1] rfl rfl ⟨⟨rfl, rfl⟩, ⟨rfl, rfl⟩, trivial⟩ (by repeat (first | exact trivial | refine ⟨⟨rfl, rfl⟩, ?_⟩)) (by decide) (by intro i hi; match i, hi with | 0, _ => rfl | 1, _ => rfl)
    · have e : rootsF t (j + 1) = rootsF t j := by simp [rootsF, hb]
      unfold rootB at hb
      simp only [Bool.or_eq_true, decide_eq_true_eq, not_or] at hb
      obtain ⟨hb1, hb2⟩ := hb
      repeat' ((conv => whnf); (first
       | (refine Br_false (beqF (by omega)) ?_)
       | (refine Idx_nd hn rfl ?_)
       | (refine Back_in _ _ ⟨j + 1, by omega, rfl, rfl⟩ (by omega) ?_)
       | (refine ArK_in (wrap_i64 (by omega) (by omega)) ?_)))
      rw [e]
      exact Wk_ren [0, 1] rfl rfl ⟨⟨rfl, rfl⟩, ⟨rfl, rfl⟩, trivial⟩ (by repeat (first | exact trivial | refine ⟨⟨rfl, rfl⟩, ?_⟩)) (by decide) (by intro i hi; match i, hi with | 0, _ => rfl | 1, _ => rfl)
  · rw [hkl] at h
    have hjl : j = t.length := by omega
    repeat' ((conv => whnf); (first
     | (refine finQ (.inl ?_))))
    rw [hjl]
    simp [rootsR]
theorem chain_Chain_no (t : Tree) (n : Int) (ha : allOk t n = false) : Fn Tryz.prog 61 [.d (treeD t), .i n] .nsl := by
  refine Fn_of tt_ok Tryz.func61 rfl (by decide) Tryz.ntmps61 rfl ?_
  have h1 := chain_is t n n
  rw [ha] at h1
  repeat' ((conv => whnf); (first
   | (refine Fn.use (h1) rfl rfl ?_)
   | (refine fin0 rfl ?_)))
  all_goals rfl
def rooH (t : Tree) (f : Int) (v : AV) : Heap := [some (.row [.d (treeD t)]), some (.row [.i f]), some (.row [v]), none, some .dfr]
theorem run_Actives (t : Tree) (f : Int) : Fn Tryz.prog 36 [.d (treeD t), .i f] (.d (.sl ((actsR t f).map actCs))) := by
  refine Fn_of tt_ok Tryz.func36 rfl (by decide) Tryz.ntmps36 rfl ?_
  cases ha : allOk t f
  · have h1 := chain_Chain_no t f ha
    have e : actsR t f = [] := by unfold actsR; rw [if_neg (by simp [ha])]
    rw [e]
    repeat' ((conv => whnf); (first
     | (refine Fn.use (h1) rfl rfl ?_)
     | (refine finD (F := []) .nsl)))
  have h1 := chain_Chain t f
  have hne : (chainR t f).map intCs ≠ [] := by unfold chainR; rw [ha, if_neg (by simp)]; split <;> simp
  have e : (actsR t f).map actCs = (rootsR t).map fun r => actCs (r, actR t f r) := by unfold actsR; rw [if_pos ha, List.map_map]; rfl
  rw [e]
  clear e
  have hm := allOk_m ha
  have h64 := may_len64 hm
  have hlen : (rootsR t).length ≤ 64 := by have := rootsF_len t t.length; unfold rootsR; omega
  have hs := run_roots1 t
  have hA := fun r => chain_Active t f r
  generalize rootsR t = L at *
  generalize actR t f = A at *
  generalize chainR t f = C at *
  repeat' ((conv => whnf); (first
   | (refine Fn.use (h1) rfl rfl ?_)
   | (refine NilK.mk (fun b hb => ?_))
   | (refine Br_false (hb hne) ?_)
   | (refine Tri.call (run_roots t) [] rfl rfl trivial rfl rfl rfl rfl (r := .clos (.func 85) [] [.ptr 3 0]) (H' := [some (.row [.d (treeD t)]), some (.row [.i f]), some (.row [.nsl]), some (.row [.d (treeD t)])]) rfl rfl ?_)))
  conv => whnf
  refine W_rangeA [3] (fs0 := []) (cs0 := [.ptr 0 0]) (H0 := [some (.row [.d (treeD t)])]) (L.map AV.i)
    (fun k H => (k = 0 ∧ H = rooH t f .nsl) ∨ (0 < k ∧ H = rooH t f (AccV 5 2 ((L.take k).map fun r => actCs (r, A r))) ++ [AccB ((L.take k).map fun r => actCs (r, A r))]))
    (fun _ _ => False) rfl rfl rfl
    (by repeat (first | exact trivial | refine ⟨⟨rfl, rfl⟩, ?_⟩)) rfl rfl rfl rfl (by decide) (by decide) AsgOk_in rfl plain_ints ?_ (.inl ⟨rfl, rfl⟩) ?_ ?_ ?_
  · intro Y hx hY
    exact hs Y hx hY
  · rintro lp k z H' hx hH hln hY
    obtain ⟨c, hc, rfl⟩ : ∃ c, L[k]? = some c ∧ z = .i c := by
      rw [List.getElem?_map] at hx
      cases h : L[k]? with
      | none => rw [h] at hx; simp at hx
      | some c => rw [h] at hx; simp at hx; exact ⟨c, rfl, hx.symm⟩
    have hlt : k < L.length := (List.getElem?_eq_some_iff.1 hc).1
    have hce : L[k] = c := (List.getElem?_eq_some_iff.1 hc).2
    have htk : (L.take (k + 1)).map (fun r => actCs (r, A r)) = (L.take k).map (fun r => actCs (r, A r)) ++ [actCs (c, A c)] := by rw [List.take_succ_eq_append_getElem hlt, hce, List.map_append]; rfl
    have hrl : ((L.take k).map fun r => actCs (r, A r)).length = k := by simp; omega
    refine W_padH (H2 := rooH t f (AccV 5 2 ((L.take k).map fun r => actCs (r, A r))) ++ [AccB ((L.take k).map fun r => actCs (r, A r))]) ?_ ?_
    · rcases hH with ⟨rfl, rfl⟩ | ⟨_, rfl⟩
      · exact .inr (by rw [List.take_zero, List.map_nil, AccV_nil, AccB_nil])
      · exact .inl rfl
    have hr1 : ∀ r ∈ (L.take k).map (fun r => actCs (r, A r)), r.length = 2 := by intro r hr; obtain ⟨x, _, rfl⟩ := List.mem_map.1 hr; rfl
    generalize hrw : (L.take k).map (fun r => actCs (r, A r)) = rows at *
    have hAc := hA c
    generalize A c = ac at *
    refine W_run tt_ok ?_
    have ha := Acc_app (b := 5) (sz := 2) (rows := rows) (new := [actCs (c, ac)]) (by simp)
    repeat' ((conv => whnf); (first
     | (refine App_acc rows [actCs (c, ac)] rfl rfl rfl rfl (by simp) hr1 (by intro r hr; simp at hr; subst hr; rfl) (by rw [hrl]; simp only [List.length_cons, List.length_nil]; omega) (Nat.le_of_ble_eq_true rfl) ?_)
     | (refine W_draw 0 tt_ok mixed (by kernel_rfl) ?_)
     | (refine CallF_in (hAc) rfl rfl ?_)
     | (refine force_in ?_)))
    conv => whnf
    refine Rd_next (rooH t f (.msl 5 0 (rows.length + 1) (rows.length + 1) 2) ++ [some (.row ((rows ++ [actCs (c, ac)]).flatten.map .d))]) (Wk_ren [0, 1, 2, 3, 4, 6] rfl rfl (by refine ⟨⟨rfl, rfl⟩, ⟨rfl, rfl⟩, ⟨rfl, rfl⟩, ⟨rfl, rfl⟩, ⟨by rw [renB_row]; rfl, lowB_row _ _⟩, trivial⟩) (by repeat (first | exact trivial | refine ⟨⟨rfl, rfl⟩, ?_⟩)) (by show 5 ≤ 6; decide) (by show ∀ i, i < 5 → gOf [0, 1, 2, 3, 4, 6] i = i; decide)) rfl (by simp [rooH]) (.inr ⟨by omega, ?_⟩)
    rw [htk, ha.1, ha.2]
    rfl
  · rintro H' hH hln hY
    rw [List.length_map] at hH
    rw [List.take_length] at hH
    have hcs : ∀ r ∈ L.map (fun r => actCs (r, A r)), r.length = 2 := by intro r hr; obtain ⟨x, _, rfl⟩ := List.mem_map.1 hr; rfl
    rcases hH with ⟨h0, rfl⟩ | ⟨h0, rfl⟩
    · have hnl : L = [] := List.eq_nil_of_length_eq_zero h0
      subst hnl
      repeat' ((conv => whnf); (first
       | (refine finD (F := []) .nsl)))
    · have hnn : L.map (fun r => actCs (r, A r)) ≠ [] := by intro e; have := congrArg List.length e; rw [List.length_map] at this; simp at this; subst this; simp at h0
      rw [AccV_cons hnn, AccB_cons hnn]
      repeat' ((conv => whnf); (first
       | (refine finD (F := [5]) (FV_tab _ rfl rfl rfl hcs))))
  · intro e H' c _ h
    exact h.elim
theorem ref22_Actives (t : Tree) (f : Int) : Fn Tryz.prog 37 [.d (treeD t), .i f] (.d (.sl ((actsR t f).map actCs))) := by
  have hM := ref_May t
  have hI := ref_Is t f
  have hab : allOk t f = (mayB t && isN t f) := rfl
  cases hm : mayB t
  · have e : actsR t f = [] := by unfold actsR; rw [if_neg (by simp [hab, hm])]
    rw [hm] at hM
    rw [e]
    refine Fn_of tt_ok Tryz.func37 rfl (by decide) Tryz.ntmps37 rfl ?_
    repeat' ((conv => whnf); (first
     | (refine Fn.use (hM) rfl rfl ?_)
     | (refine finD (F := []) .nsl)))
  cases hi : isN t f
  · have e : actsR t f = [] := by unfold actsR; rw [if_neg (by simp [hab, hm, hi])]
    rw [hm] at hM
    rw [hi] at hI
    rw [e]
    refine Fn_of tt_ok Tryz.func37 rfl (by decide) Tryz.ntmps37 rfl ?_
    repeat' ((conv => whnf); (first
     | (refine Fn.use (hM) rfl rfl ?_)
     | (refine Fn.use (hI) rfl rfl ?_)
     | (refine finD (F := []) .nsl)))
  rw [hm] at hM
  rw [hi] at hI
  have ha : allOk t f = true := by rw [hab, hm, hi]; rfl
  have e : (actsR t f).map actCs = (rootsF t t.length).map fun r => actCs (r, actR t f r) := by unfold actsR; rw [if_pos ha, List.map_map]; rfl
  rw [e]
  clear e
  have h64 := may_len64 hm
  have hkl : (List.map Node.cs t).length = t.length := by simp
  refine Fn_of tt_ok Tryz.func37 rfl (by decide) Tryz.ntmps37 rfl ?_
  repeat' ((conv => whnf); (first
   | (refine Fn.use (hM) rfl rfl ?_)
   | (refine Fn.use (hI) rfl rfl ?_)))
  refine W_loop (fun μ s => ∃ (j : Nat), j ≤ t.length ∧ μ = t.length - j ∧
      s = ⟨[(0, .d (treeD t)), (1, .i f), (5, AccV 0 2 ((rootsF t j).map fun r => actCs (r, actR t f r))), (6, .i j)], 47, [AccB ((rootsF t j).map fun r => actCs (r, actR t f r))], 0, []⟩) t.length ⟨_, ?_, 0, by omega, by omega, rfl⟩ ?_
  · show Wk _ ⟨[(0, .d (treeD t)), (1, .i f), (5, AccV 0 2 []), (6, .i 0)], 47, [AccB []], 0, []⟩
    rw [AccV_nil, AccB_nil]
    exact Wk.trans Wk_pad (Wk_env (by repeat (first | exact trivial | refine ⟨rfl, ?_⟩)))
  rintro μ s1 ⟨j, hj, rfl, rfl⟩
  refine W_run tt_ok ?_
  have hrl := rootsF_len t j
  by_cases hlt : j < t.length
  · have hn : isN t (j : Int) = true := by unfold isN; simp; omega
    have hr : allOk t (j : Int) = true := by unfold allOk; rw [hm, hn]; rfl
    have hA := ref15_Active t f j ha hr
    have hr1 : ∀ r ∈ (rootsF t j).map (fun r => actCs (r, actR t f r)), r.length = 2 := by intro r hr; obtain ⟨x, _, rfl⟩ := List.mem_map.1 hr; rfl
    by_cases hb : rootB t j = true
    · have e : (rootsF t (j + 1)).map (fun r => actCs (r, actR t f r)) = (rootsF t j).map (fun r => actCs (r, actR t f r)) ++ [actCs ((j : Int), actR t f j)] := by simp [rootsF, hb]
      have hrl2 : ((rootsF t j).map fun r => actCs (r, actR t f r)).length ≤ j := by rw [List.length_map]; exact hrl
      have ha2 := Acc_app (b := 0) (sz := 2) (rows := (rootsF t j).map fun r => actCs (r, actR t f r)) (new := [actCs ((j : Int), actR t f j)]) (by simp)
      generalize hrw : (rootsF t j).map (fun r => actCs (r, actR t f r)) = rows at *
      generalize actR t f j = ac at *
      unfold rootB at hb
      simp only [Bool.or_eq_true, decide_eq_true_eq] at hb
      rcases hb with hb | hb
      all_goals
        repeat' ((conv => whnf); (first
         | (refine Br_true (beqT (by omega)) ?_)
         | (refine Br_false (beqF (by omega)) ?_)
         | (refine Br_true (decide_eq_true (by omega)) ?_)
         | (refine Len_in (fun hlen => ?_))
         | (refine Idx_nd hn rfl ?_)
         | (refine Fn.use (hA) rfl rfl ?_)
         | (refine force_in ?_)))
        refine Ch_r ?_
        conv => whnf
        refine App_acc rows [actCs ((j : Int), ac)] rfl rfl rfl rfl (by simp) hr1 (by intro r hr; simp at hr; subst hr; rfl) (by simp only [List.length_cons, List.length_nil]; omega) (Nat.le_of_ble_eq_true rfl) ?_
        repeat' ((conv => whnf); (first
         | (refine Back_in _ _ ⟨j + 1, by omega, rfl, rfl⟩ (by omega) ?_)
         | (refine ArK_in (wrap_i64 (by omega) (by omega)) ?_)))
        rw [e, ha2.1, ha2.2]
        exact Wk_ren [1] rfl rfl ⟨⟨by rw [renB_row]; rfl, lowB_row _ _⟩, trivial⟩ (by repeat (first | exact trivial | refine ⟨⟨rfl, rfl⟩, ?_⟩)) (by omega) (by omega)
    · have e : rootsF t (j + 1) = rootsF t j := by simp [rootsF, hb]
      unfold rootB at hb
      simp only [Bool.or_eq_true, decide_eq_true_eq, not_or] at hb
      obtain ⟨hb1, hb2⟩ := hb
      repeat' ((conv => whnf); (first
       | (refine Br_false (beqF (by omega)) ?_)
       | (refine Br_true (decide_eq_true (by omega)) ?_)
       | (refine Len_in (fun hlen => ?_))
       | (refine Idx_nd hn rfl ?_)
       | (refine Back_in _ _ ⟨j + 1, by omega, rfl, rfl⟩ (by omega) ?_)
       | (refine ArK_in (wrap_i64 (by omega) (by omega)) ?_)))
      rw [e]
      exact Wk_env (by repeat (first | exact trivial | refine ⟨rfl, ?_⟩))
  · have hjl : j = t.length := by omega
    subst hjl
    have hcs : ∀ r ∈ (rootsF t t.length).map (fun r => actCs (r, actR t f r)), r.length = 2 := by intro r hr; obtain ⟨x, _, rfl⟩ := List.mem_map.1 hr; rfl
    repeat' ((conv => whnf); (first
     | (refine Br_false (decide_eq_false (by omega)) ?_)
     | (refine Len_in (fun hlen => ?_))
     | (refine finD (F := [0]) (FV_acc _ rfl hcs))
     | (refine force_in ?_)))
theorem law22_actives (l : List (Int × Int)) (hl : l.length ≤ 1000) : Fn Tryz.prog 35 [.d (.sl (l.map actCs))] (.d (.sl (l.map actCs))) := by
  refine Fn_of tt_ok Tryz.func35 rfl (by decide) Tryz.ntmps35 rfl ?_
  have hkl : (l.map actCs).length = l.length := by simp
  skip
  refine W_loop (fun μ s => ∃ (j : Nat), j ≤ l.length ∧ μ = l.length - j ∧
      s = ⟨[(0, .d (.sl (l.map actCs))), (3, AccV 0 2 ((l.take j).map actCs)), (4, .i j)], 19, [AccB ((l.take j).map actCs)], 0, []⟩) l.length ⟨_, ?_, 0, by omega, by omega, rfl⟩ ?_
  · rw [List.take_zero, List.map_nil, AccV_nil, AccB_nil]
    exact Wk.trans Wk_pad (Wk_env (by repeat (first | exact trivial | refine ⟨rfl, ?_⟩)))
  rintro μ s1 ⟨j, hj, rfl, rfl⟩
  refine W_run tt_ok ?_
  by_cases hlt : j < l.length
  · have hidx : (l.map actCs)[(j : Int).toNat]? = some (actCs l[j]) := by simp [hlt]
    have e : (l.take (j + 1)).map actCs = (l.take j).map actCs ++ [actCs l[j]] := by rw [List.take_succ_eq_append_getElem hlt, List.map_append]; rfl
    have hr1 : ∀ r ∈ (l.take j).map actCs, r.length = 2 := cs2a
    have hrl : ((l.take j).map actCs).length ≤ j := by simp; omega
    generalize l[j] = x at *
    have ha2 := Acc_app (b := 0) (sz := 2) (rows := (l.take j).map actCs) (new := [actCs x]) (by simp)
    generalize (l.take j).map actCs = rows at *
    obtain ⟨x1, x2⟩ := x
    repeat' ((conv => whnf); (first
     | (refine Br_true (decide_eq_true (by omega)) ?_)
     | (refine Len_in (fun hlen => ?_))
     | (refine Idx_in _ hidx (by omega) rfl ?_)
     | (refine force_in ?_)))
    refine Ch_r ?_
    conv => whnf
    refine App_acc rows [actCs (x1, x2)] rfl rfl rfl rfl (by simp) hr1 (by intro r hr; simp at hr; subst hr; rfl) (by simp only [List.length_cons, List.length_nil]; omega) (Nat.le_of_ble_eq_true rfl) ?_
    repeat' ((conv => whnf); (first
     | (refine Back_in _ _ ⟨j + 1, by omega, rfl, rfl⟩ (by omega) ?_)
     | (refine ArK_in (wrap_i64 (by omega) (by omega)) ?_)))
    rw [e, ha2.1, ha2.2]
    exact Wk_ren [1] rfl rfl ⟨⟨by rw [renB_row]; rfl, lowB_row _ _⟩, trivial⟩ (by repeat (first | exact trivial | refine ⟨⟨rfl, rfl⟩, ?_⟩)) (by omega) (by omega)
  · have hjl : j = l.length := by omega
    subst hjl
    rw [List.take_length]
    repeat' ((conv => whnf); (first
     | (refine Br_false (decide_eq_false (by omega)) ?_)
     | (refine Len_in (fun hlen => ?_))
     | (refine finD (F := [0]) (FV_acc _ rfl cs2a))
     | (refine force_in ?_)))
theorem ref22_One (n e f : Int) (l : List (Int × Int)) : Fn Tryz.prog 38 [aggD [.int .i64 n, .int .i64 e, .int .i64 f, .sl (l.map actCs)], aggD [.int .i64 n, .int .i64 e, .int .i64 f, .sl (l.map actCs)]] (.b true) := by
  refine Fn_of tt_ok Tryz.func38 rfl (by decide) Tryz.ntmps38 rfl ?_
  have hkl : (l.map actCs).length = l.length := by simp
  repeat' ((conv => whnf); (first
   | (refine Br_false (bneF (by omega)) ?_)
   | (refine Len_in (fun hlen => ?_))))
  refine W_loop (fun μ s => ∃ (j : Nat), j ≤ l.length ∧ μ = l.length - j ∧
      s = ⟨[(2, .ptr 0 0), (3, .ptr 1 0), (5, .i j)], 52, [some (.row [.i n, .i e, .i f, .d (.sl (l.map actCs))]), some (.row [.i n, .i e, .i f, .d (.sl (l.map actCs))])], 0, []⟩) l.length ⟨_, ?_, 0, by omega, by omega, rfl⟩ ?_
  · exact Wk_env (by repeat (first | exact trivial | refine ⟨rfl, ?_⟩))
  rintro μ s1 ⟨j, hj, rfl, rfl⟩
  refine W_run tt_ok ?_
  by_cases hlt : j < l.length
  · have hidx : (l.map actCs)[(j : Int).toNat]? = some (actCs l[j]) := by simp [hlt]
    generalize l[j] = x at *
    obtain ⟨x1, x2⟩ := x
    have hcmp : (!(allB [x1 == x1, x2 == x2])) = false := by simp [allB]
    repeat' ((conv => whnf); (first
     | (refine Br_false hcmp ?_)
     | (refine Br_true (decide_eq_true (by omega)) ?_)
     | (refine Len_in (fun hlen => ?_))
     | (refine W_draw 0 tt_ok mixed (by kernel_rfl) ?_)
     | (refine Idx_in _ hidx (by omega) rfl ?_)
     | (refine Back_in _ _ ⟨j + 1, by omega, rfl, rfl⟩ (by omega) (Wk_env (by repeat (first | exact trivial | refine ⟨rfl, ?_⟩))))
     | (refine ArK_in (wrap_i64 (by omega) (by omega)) ?_)))
  · repeat' ((conv => whnf); (first
   | (refine Br_false (decide_eq_false (by omega)) ?_)
   | (refine Len_in (fun hlen => ?_))
   | (refine fin0 rfl ?_)))
    rfl
def fewB (t : Tree) : Bool := smallB t && decide (t.length ≤ 30)
theorem ref_Few (t : Tree) : Fn Tryz.prog 33 [.d (treeD t)] (.b (fewB t)) := by
  refine Fn_of tt_ok Tryz.func33 rfl (by decide) Tryz.ntmps33 rfl ?_
  have h := ref_Small t
  have hkl : (List.map Node.cs t).length = t.length := by simp
  unfold fewB
  cases hs : smallB t
  · rw [hs] at h
    repeat' ((conv => whnf); (first
     | (refine Fn.use (h) rfl rfl ?_)
     | (refine fin0 rfl ?_)))
    all_goals rfl
  · rw [hs] at h
    by_cases hl : t.length ≤ 30
    · repeat' ((conv => whnf); (first
     | (refine Len_in (fun hlen => ?_))
     | (refine Fn.use (h) rfl rfl ?_)
     | (refine fin0 rfl ?_)))
      all_goals (simp_all; try omega)
    · repeat' ((conv => whnf); (first
     | (refine Len_in (fun hlen => ?_))
     | (refine Fn.use (h) rfl rfl ?_)
     | (refine fin0 rfl ?_)))
      all_goals (simp_all; try omega)
end Go.Eng
set_option maxRecDepth 100000
set_option linter.unusedVariables false
set_option linter.unusedSimpArgs false
namespace Go.Eng
open Go Go.Proofs
def turnR (s : PS) (t : Tree) (e : Int) : PS × Int := if e ≠ 0 then (s, e) else ({ s with tree := t }, 0)
theorem page_turn (s : PS) (t : Tree) (e : Int) (hm : e = 0 → mayB t = true) (hs : e = 0 → SmallT t) : Tri Tryz.prog 105 [.ptr 0 0, .d (treeD t), .i e] (pgI s) fun v H => v = .i (turnR s t e).2 ∧ H = pgI (turnR s t e).1 := by
  refine Tri_of (m := 3) tt_ok Tryz.func105 rfl (by decide) Tryz.ntmps105 (by rfl) rfl ?_
  unfold turnR
  by_cases he : e = 0
  · subst he
    rw [if_neg (by simp)]
    have h := top_Fix t (hm rfl) (hs rfl)
    repeat' ((conv => whnf); (first
     | (refine Len_in (fun hlen => ?_))
     | (refine Fn.use (h) rfl rfl ?_)))
    refine W_loop (fun μ s1 => s1 = ⟨[(0, .ptr 0 0), (31, .i 0), (32, .i 0)], 40, pgI { s with tree := t }, 3, []⟩) 0 ⟨_, ?_, rfl⟩ ?_
    · exact Wk_env (by repeat (first | exact trivial | refine ⟨rfl, ?_⟩))
    rintro μ s1 rfl
    refine W_run tt_ok ?_
    repeat' ((conv => whnf); (first
     | (refine finPI [] rfl rfl rfl rfl (.same _ rfl))))
  · rw [if_pos he]
    repeat' ((conv => whnf); (first
     | (refine finPI [] rfl rfl rfl rfl (.same _ rfl))
     | (refine Br_true (bneT (by omega)) ?_)))
theorem clone_steps (l : List Step) (hl : l.length ≤ 1000) : Fn Tryz.prog 179 [.d (stepsD l)] (.d (stepsD l)) := by
  refine Fn_of tt_ok Tryz.func179 rfl (by decide) Tryz.ntmps179 rfl ?_
  have e : (List.map Step.cs l).length = l.length := by simp
  have c3 : ∀ r ∈ l.map Step.cs, r.length = 3 := by intro r hr; obtain ⟨x, _, rfl⟩ := List.mem_map.1 hr; rfl
  refine Nil_in fun b hb => ?_
  cases b
  · skip
    refine Ch_r ?_
    skip
    refine Ch_r (Need_in ⟨Nat.le_trans (Nat.mul_le_mul_right _ (by omega : _ ≤ 1200)) (Nat.le_of_ble_eq_true rfl), by unfold LB; omega, c3⟩ ?_)
    repeat' ((conv => whnf); (first
     | (refine fin0 rfl ?_)))
    rfl
  · have h0 : l = [] := by
      cases l with
      | nil => rfl
      | cons a r => have := hb (by simp); simp at this
    subst h0
    repeat' ((conv => whnf); (first
     | (refine finD (F := []) .nsl)))
def progR (s : PS) (l : List Step) : PS × Int × Int := if checkB l = false then (s, 0, 1) else ({ s with progs := [l] }, 0, 0)
theorem page_program (s : PS) (l : List Step) (hp : s.progs = []) : Tri Tryz.prog 114 [.ptr 0 0, .d (stepsD l)] (pgI s) fun v H => v = .tup [.i (progR s l).2.1, .i (progR s l).2.2] ∧ H = pgI (progR s l).1 := by
  refine Tri_of (m := 3) tt_ok Tryz.func114 rfl (by decide) Tryz.ntmps114 (by rfl) rfl ?_
  have h1 := prog_Check l
  obtain ⟨cap, fm, dp, tr, hr, pr, fo, fu, un, ro⟩ := s
  dsimp only at hp
  subst hp
  unfold progR
  cases hb : checkB l
  · rw [hb] at h1
    rw [if_pos rfl]
    repeat' ((conv => whnf); (first
     | (refine finPI [] rfl rfl rfl rfl (FV_tups ⟨.same _ rfl, .same _ rfl, trivial⟩))
     | (refine Fn.use (h1) rfl rfl ?_)))
  · rw [hb] at h1
    rw [if_neg (by simp)]
    have hl : l.length ≤ 16 := by unfold checkB at hb; simp at hb; exact hb.1
    have h2 := clone_steps l (by omega)
    repeat' ((conv => whnf); (first
     | (refine Ch_r (Need_in ⟨Nat.le_of_ble_eq_true rfl, Nat.le_of_ble_eq_true rfl, by intro r hr; simp [chunkD] at hr; subst hr; rfl⟩ ?_))
     | (refine finPI [] rfl rfl rfl rfl (FV_tups ⟨.same _ rfl, .same _ rfl, trivial⟩))
     | (refine Len_in (fun hlen => ?_))
     | (refine Fn.use (h1) rfl rfl ?_)
     | (refine W_draw 0 tt_ok mixed (by kernel_rfl) ?_)
     | (refine CallF_in (h2) rfl rfl ?_)
     | (refine ArK_in (wrap_i64 (by omega) (by omega)) ?_)))
def hearR (s : PS) (a b c : Int) (fl : Bool) : PS × Int :=
  if isN s.tree a = false then (s, 2) else if inB c 0 ((s.progs.length : Int) - 1) = false then (s, 1) else
    ({ s with hears := (addR s.hears ⟨a, b, fl, false, c⟩).1 }, (addR s.hears ⟨a, b, fl, false, c⟩).2)
theorem page_hear (s : PS) (d a b c : Int) (fl : Bool) (p : List Step) (hl : s.hears.length ≤ 1000) (hp : s.progs.length ≤ 64) : Tri Tryz.prog 116 [.ptr 0 0, aggD (opC d a b c fl p), .b false, .d (.fn 117)] (pgI s) fun v H => v = .i (hearR s a b c fl).2 ∧ H = pgI (hearR s a b c fl).1 := by
  refine Tri_of (m := 3) tt_ok Tryz.func116 rfl (by decide) Tryz.ntmps116 (by rfl) rfl ?_
  have h1 := page_is s a
  have h2 := page_in c 0 ((s.progs.length : Int) - 1)
  have h3 := listen_Add s.hears ⟨a, b, fl, false, c⟩ hl
  unfold hearR
  generalize hA : addR s.hears ⟨a, b, fl, false, c⟩ = A at *
  cases hb : isN s.tree a
  · rw [hb] at h1
    rw [if_pos rfl]
    repeat' ((conv => whnf); (first
     | (refine finPI [] rfl rfl rfl rfl (.same _ rfl))
     | (refine Tri.pgS 0 1 2 h1 rfl rfl rfl rfl (by decide) (by decide) (by decide) rfl rfl rfl ?_)))
  rw [hb] at h1
  rw [if_neg (by simp)]
  obtain ⟨cap, fm, dp, tr, hr, pr, fo, fu, un, ro⟩ := s
  dsimp only at *
  cases pr with
  | nil =>
    cases hi : inB c 0 ((([] : List (List Step)).length : Int) - 1)
    · rw [hi] at h2
      rw [if_pos rfl]
      repeat' ((conv => whnf); (first
       | (refine finPI [] rfl rfl rfl rfl (.same _ rfl))
       | (refine Tri.pgS 0 1 2 h1 rfl rfl rfl rfl (by decide) (by decide) (by decide) rfl rfl rfl ?_)
       | (refine W_draw 0 tt_ok mixed (by kernel_rfl) ?_)
       | (refine CallF_in (h2) rfl rfl ?_)
       | (refine ArK_in (wrap_i64 (by omega) (by omega)) ?_)))
    · unfold inB at hi
      simp at hi
      omega
  | cons x r =>
    have e : (List.map (fun p => [stepsD p]) (x :: r)).length = (x :: r).length := by simp
    rw [← e] at h2
    cases hi : inB c 0 (((x :: r).length : Int) - 1)
    · rw [e, hi] at h2
      rw [← e] at h2
      rw [if_pos rfl]
      repeat' ((conv => whnf); (first
       | (refine finPI [] rfl rfl rfl rfl (.same _ rfl))
       | (refine Tri.pgS 0 1 2 h1 rfl rfl rfl rfl (by decide) (by decide) (by decide) rfl rfl rfl ?_)
       | (refine W_draw 0 tt_ok mixed (by kernel_rfl) ?_)
       | (refine CallF_in (h2) rfl rfl ?_)
       | (refine ArK_in (wrap_i64 (by dsimp only; omega) (by dsimp only; omega)) ?_)))
    · rw [e, hi] at h2
      rw [← e] at h2
      rw [if_neg (by simp)]
      repeat' ((conv => whnf); (first
       | (refine finPI [] rfl rfl rfl rfl (.same _ rfl))
       | (refine Tri.pgS 0 1 2 h1 rfl rfl rfl rfl (by decide) (by decide) (by decide) rfl rfl rfl ?_)
       | (refine W_draw 0 tt_ok mixed (by kernel_rfl) ?_)
       | (refine CallF_in (h2) rfl rfl ?_)
       | (refine ArK_in (wrap_i64 (by dsimp only; omega) (by dsimp only; omega)) ?_)
       | (refine CallF_in (h3) rfl rfl ?_)))
end Go.Eng
set_option maxRecDepth 100000
set_option linter.unusedVariables false
set_option linter.unusedSimpArgs false
namespace Go.Eng
open Go Go.Proofs
def addRow (s : PS) (r : PRow) : PS := { s with rows := s.rows ++ [r] }
theorem rows_add (s : PS) (r : PRow) : rowsP (addRow s r) = rowsP s ++ [r.cs] := by unfold rowsP addRow; simp
theorem accB_add (s : PS) (r : PRow) : AccB (rowsP (addRow s r)) = some (.row ((rowsP s ++ [r.cs]).flatten.map .d)) := by rw [rows_add]; exact (Acc_app (b := 0) (sz := 0) (by simp)).2
theorem pgC_add (s : PS) (r : PRow) (k' k c : Nat) : splice (pgC s k' c) (0 + 17) [.msl k 0 ((rowsP s).length + 1) ((rowsP s).length + 1) 8] = pgC (addRow s r) k c := by
  have h := (Acc_app (b := k) (sz := 8) (rows := rowsP s) (new := [r.cs]) (by simp)).1
  rw [← rows_add] at h
  unfold pgC
  rw [h]
  rfl
abbrev Ans := PS × Bool × Bool × Bool
def calledRow (e : Ev) (at_ : Vst) (h : Hear) : PRow := ⟨0, h.prog, e.type, at_.node, at_.target, at_.related, at_.phase, 0⟩
def fireL (call : PS → Hear → Option Ans) (e : Ev) : Nat → PS → Option Hear × List Vst × Vst × List Hear → Bool → Bool → Option (PS × Bool)
  | _, s, (none, _), _, ca => some (s, ca)
  | 0, _, (some _, _), _, _ => none
  | m + 1, s, (some h, vs, at_, tk), st, ca =>
    if h.once || !(Nat.ble s.rows.length 900000) then none else
      match call (addRow s (calledRow e at_ h)) h with
      | none => none
      | some (s2, a1, a2, a3) => if Nat.ble s2.hears.length 1000 then fireL call e m s2 (nextR s2.hears e.type (st || (a1 || a2)) vs at_ (if a2 then [] else tk)) (st || (a1 || a2)) (ca || (a3 && e.cancel)) else none
def fireG (call : PS → Hear → Option Ans) (s : PS) (e : Ev) : Option (PS × Bool) :=
  if mayB s.tree && isN s.tree e.target && Nat.ble s.hears.length 1000 then
    match pathO s.tree e 1000 e.target with
    | none => none
    | some L => if Nat.ble L.length 1000 then fireL call e 1000 s (nextR s.hears e.type false (visL e L) vst0 []) false false else none
  else none
def CallC (call : PS → Hear → Option Ans) : Prop := ∀ (s : PS) (h : Hear) (s' : PS) (a1 a2 a3 : Bool), call s h = some (s', a1, a2, a3) → Tri Tryz.prog 249 [.ptr 0 0, aggD h.cs] (pgI s) fun v H => v = aggD [.bool a1, .bool a2, .bool a3] ∧ H = pgO s'
def FireC (fire : PS → Ev → Option (PS × Bool)) : Prop := ∀ (s : PS) (e : Ev) (s' : PS) (b : Bool), fire s e = some (s', b) → Tri Tryz.prog 186 [.ptr 0 0, aggD e.cs] (pgI s) fun v H => v = .b b ∧ H = pgO s'
theorem FB_dat {g F : List Nat} {H : Heap} (l : List D) : FB g F H (.row (l.map .d)) (.row (l.map .d)) := .row _ _ (Nat.le_refl _) fun i x y hx hy => by
  rw [hx] at hy
  injection hy with hy
  subst hy
  rw [List.getElem?_map] at hx
  cases hd : l[i]? with
  | none => rw [hd] at hx; simp at hx
  | some d => rw [hd] at hx; simp at hx; subst hx; exact .same _ rfl
theorem Wk_H {ρ : Env} {n m : Nat} {H : Heap} {df : List DF} {s2 : St} (H2 : Heap) (h : H = H2) (hw : Wk ⟨ρ, n, H2, m, df⟩ s2) : Wk ⟨ρ, n, H, m, df⟩ s2 := by subst h; exact hw
theorem FB_datE {g F : List Nat} {H : Heap} {xs : List AV} (l : List D) (h : xs = l.map .d) : FB g F H (.row xs) (.row (l.map .d)) := by subst h; exact FB_dat l
def firH (s : PS) (e : Ev) (r : Option Hear × List Vst × Vst × List Hear) (st ca : Bool) : Heap :=
  [some (.row (pgC s 6 2)), none, some (.mp [] []), some (.row (e.cs.map .d)), some (.row ((runC e r.2.1 r.2.2.1 r.2.2.2 st ca).map .d)), some (.row ((callC r.2.2.1 r.1).map .d)), AccB (rowsP s)]
set_option maxHeartbeats 400000 in
theorem page_fire (call : PS → Hear → Option Ans) (hcall : CallC call) : FireC (fireG call) := by
  intro s e s' b hf
  unfold fireG at hf
  split at hf
  rotate_left
  · simp at hf
  rename_i hg
  simp only [Bool.and_eq_true] at hg
  obtain ⟨⟨hm, hn⟩, hh⟩ := hg
  have hh := Nat.le_of_ble_eq_true hh
  split at hf
  · simp at hf
  rename_i L hL
  split at hf
  rotate_left
  · simp at hf
  rename_i hLl
  have hLl := Nat.le_of_ble_eq_true hLl
  have hNew := fire_New s.tree e hm hn 1000 L hLl hL
  have hNx := fire_Next e (visL e L) vst0 [] false false s.hears hh _ rfl
  generalize nextR s.hears e.type false (visL e L) vst0 [] = r0 at *
  refine Tri_of (m := 3) tt_ok Tryz.func186 rfl (by decide) Tryz.ntmps186 (by rfl) rfl ?_
  repeat' ((conv => whnf); (first
   | (refine W_draw 1 tt_ok mixed (by kernel_rfl) ?_)
   | (refine CallP_in (r := .ptr 4 0) [some (.row ((runC e (visL e L) vst0 [] false false).map .d))] (fun K' hK => Tri.call hNew [] rfl rfl trivial rfl rfl rfl rfl rfl rfl hK) ?_)
   | (refine Tri.on (q := 4) hNx rfl rfl rfl rfl ?_)))
  refine W_loop (fun μ s1 => ∃ (s2 : PS) (r : Option Hear × List Vst × Vst × List Hear) (st ca : Bool), fireL call e μ s2 r st ca = some (s', b) ∧
      s1 = ⟨[(0, .ptr 0 0), (3, .ptr 3 0), (5, .ptr 4 0), (6, .ptr 5 0), (7, .b r.1.isSome)], 89, firH s2 e r st ca, 3, []⟩) 1000 ⟨_, ?_, s, r0, false, false, hf, rfl⟩ ?_
  · exact Wk_fzI [0, 1, 2, 3, 4, 5, 1] [0, 10, 2, 3, 4, 5, 1] [] rfl rfl ⟨.inr rfl, .inl rfl, .inr rfl, .inr rfl, .inr rfl, .inr rfl, .inr rfl, trivial⟩ rfl
      ⟨⟨_, rfl, FB_pg rfl rfl⟩, ⟨_, rfl, .mp _ _ _ rfl fun i x y h => by simp at h⟩, ⟨_, rfl, FB_datE _ rfl⟩, ⟨_, rfl, FB_datE _ rfl⟩, ⟨_, rfl, FB_datE _ rfl⟩, HFz_acc rfl trivial⟩
      ⟨.ptr _ _ _ rfl, .ptr _ _ _ rfl, .ptr _ _ _ rfl, .ptr _ _ _ rfl, .same _ rfl, trivial⟩ (by show 3 ≤ 7; decide) (by intro i hi; match i, hi with | 0, _ => rfl | 1, _ => rfl | 2, _ => rfl) rfl
  rintro μ s1 ⟨s2, r, st, ca, hL, rfl⟩
  obtain ⟨ro, vs, at_, tk⟩ := r
  refine W_run tt_ok ?_
  cases ro with
  | none =>
    simp only [fireL] at hL
    injection hL with hL
    injection hL with e1 e2
    subst e1 e2
    have hC := fire_Cancelled e vs at_ tk st ca
    repeat' ((conv => whnf); (first
     | (refine finPO 6 [] (by decide) (by decide) rfl rfl rfl rfl (.same _ rfl))
     | (refine Tri.on (q := 4) hC rfl rfl rfl rfl ?_)))
  | some h =>
    cases μ with
    | zero => simp [fireL] at hL
    | succ m =>
    simp only [fireL] at hL
    split at hL
    · simp at hL
    rename_i hck
    simp only [Bool.not_eq_true, Bool.or_eq_false_iff, Bool.not_eq_false'] at hck
    obtain ⟨hon, hrb⟩ := hck
    have hrb := Nat.le_of_ble_eq_true hrb
    cases hc : call (addRow s2 (calledRow e at_ h)) h with
    | none => rw [hc] at hL; simp at hL
    | some a =>
    obtain ⟨s3, a1, a2, a3⟩ := a
    rw [hc] at hL
    simp only at hL
    split at hL
    rotate_left
    · simp at hL
    rename_i hh3
    have hh3 := Nat.le_of_ble_eq_true hh3
    have hcl := hcall _ _ _ _ _ _ hc
    have hT := fire_Tell e vs at_ tk st ca a1 a2 a3
    have hN2 := fire_Next e vs at_ (if a2 then [] else tk) (st || (a1 || a2)) (ca || (a3 && e.cancel)) s3.hears hh3 _ rfl
    generalize (if a2 then [] else tk) = tk2 at *
    generalize (st || (a1 || a2)) = st2 at *
    generalize (ca || (a3 && e.cancel)) = ca2 at *
    generalize nextR s3.hears e.type st2 vs at_ tk2 = r2 at *
    have hlim : (rowsP s2).length + [(calledRow e at_ h).cs].length ≤ 1000000 := by simp only [rowsP, List.length_map, List.length_cons, List.length_nil]; omega
    repeat' ((conv => whnf); (first
     | (refine Br_false hon ?_)
     | (refine App_acc (rowsP s2) [(calledRow e at_ h).cs] rfl rfl rfl rfl (by simp) cs8p (by intro r hr; simp at hr; subst hr; rfl) hlim (Nat.le_of_ble_eq_true rfl) ?_)
     | (refine W_draw 0 tt_ok mixed (by kernel_rfl) ?_)
     | (refine Tri.pg 0 7 2 8 rfl hcl (congrArg (fun x => some (some (Blk.row x))) (pgC_add s2 (calledRow e at_ h) 6 7 2)) (by rw [accB_add]; rfl) rfl (by decide) (by decide) (by decide) rfl rfl rfl ?_)
     | (refine Tri.on (q := 4) hT rfl rfl rfl rfl ?_)
     | (refine Tri.on (q := 4) hN2 rfl rfl rfl rfl ?_)
     | (refine Back_in _ m ⟨s3, r2, st2, ca2, hL, rfl⟩ (by omega) ?_)
     | (refine force_in ?_)))
    unfold firH
    refine Wk_H [some (.row (pgC s3 8 2)), none, some (.mp [] []), some (.row (e.cs.map .d)), some (.row ((runC e r2.2.1 r2.2.2.1 r2.2.2.2 st2 ca2).map .d)), some (.row ((callC at_ (some h)).map .d)), none, none, AccB (rowsP s3), some (.row ((callC r2.2.2.1 r2.1).map .d))] (by kernel_rfl) ?_
    exact Wk_fzI [0, 1, 2, 3, 4, 9, 8] [0, 1, 2, 3, 4, 9, 8] [] rfl rfl ⟨.inr rfl, .inl rfl, .inr rfl, .inr rfl, .inr rfl, .inr rfl, .inr rfl, trivial⟩ rfl
      ⟨⟨_, rfl, FB_pg rfl rfl⟩, ⟨_, rfl, .mp _ _ _ rfl fun i x y h => by simp at h⟩, ⟨_, rfl, FB_dat e.cs⟩, ⟨_, rfl, FB_dat (runC e r2.2.1 r2.2.2.1 r2.2.2.2 st2 ca2)⟩, ⟨_, rfl, FB_dat (callC r2.2.2.1 r2.1)⟩, HFz_acc rfl trivial⟩
      ⟨.ptr _ _ _ rfl, .ptr _ _ _ rfl, .ptr _ _ _ rfl, .ptr _ _ _ rfl, .same _ rfl, trivial⟩ (by show 3 ≤ 7; decide) (by intro i hi; match i, hi with | 0, _ => rfl | 1, _ => rfl | 2, _ => rfl) rfl
end Go.Eng
set_option maxRecDepth 100000
set_option linter.unusedVariables false
set_option linter.unusedSimpArgs false
namespace Go.Eng
open Go Go.Proofs
def toL (fire : PS → Ev → Option (PS × Bool)) : List Ev → PS → Option PS
  | [], s => some s
  | e :: r, s => match fire s e with
    | none => none
    | some (s', _) => toL fire r s'
def toG (fire : PS → Ev → Option (PS × Bool)) (s : PS) (k : Int) : Option PS := toL fire (evtsR s.tree s.focus k) { s with focus := k }
def ToC (to : PS → Int → Option PS) : Prop := ∀ (s : PS) (k : Int) (s' : PS), to s k = some s' → Tri Tryz.prog 124 [.ptr 0 0, .i k] (pgI s) fun v H => v = .tup [] ∧ H = pgO s'
theorem page_to (fire : PS → Ev → Option (PS × Bool)) (hfire : FireC fire) : ToC (toG fire) := by
  intro s k s' ht
  unfold toG at ht
  have hE := chain_Events s.tree s.focus k
  generalize evtsR s.tree s.focus k = L at *
  have hkl : (List.map Ev.cs L).length = L.length := by simp
  refine Tri_of (m := 3) tt_ok Tryz.func124 rfl (by decide) Tryz.ntmps124 (by rfl) rfl ?_
  repeat' ((conv => whnf); (first
   | (refine Len_in (fun hlen => ?_))
   | (refine Fn.use (hE) rfl rfl ?_)))
  refine W_loop (fun μ s1 => ∃ (j : Nat) (s2 : PS), j ≤ L.length ∧ μ = L.length - j ∧ toL fire (L.drop j) s2 = some s' ∧
      s1 = ⟨[(0, .ptr 0 0), (22, .d (evsD L)), (23, .i (List.map Ev.cs L).length), (24, .i j)], 32, [some (.row (pgC s2 3 2)), none, some (.mp [] []), AccB (rowsP s2)], 3, []⟩) L.length ⟨_, ?_, 0, { s with focus := k }, by omega, by omega, by rw [List.drop_zero]; exact ht, rfl⟩ ?_
  · refine Wk_H (pgI { s with focus := k }) (by kernel_rfl) ?_
    exact Wk_fzI [0, 1, 2, 1] [0, 4, 2, 1] [] rfl rfl ⟨.inr rfl, .inl rfl, .inr rfl, .inr rfl, trivial⟩ rfl
      ⟨⟨_, rfl, FB_pg rfl rfl⟩, ⟨_, rfl, .mp _ _ _ rfl fun i x y h => by simp at h⟩, HFz_acc rfl trivial⟩
      ⟨.ptr _ _ _ rfl, .same _ rfl, .same _ rfl, .same _ rfl, trivial⟩ (by show 3 ≤ 4; decide) (by intro i hi; match i, hi with | 0, _ => rfl | 1, _ => rfl | 2, _ => rfl) rfl
  rintro μ s1 ⟨j, s2, hj, rfl, hL, rfl⟩
  refine W_run tt_ok ?_
  by_cases hlt : j < L.length
  · have hidx : (L.map Ev.cs)[(j : Int).toNat]? = some (L[j]).cs := by simp [hlt]
    rw [List.drop_eq_getElem_cons hlt] at hL
    generalize L[j] = e at *
    simp only [toL] at hL
    cases hf : fire s2 e with
    | none => rw [hf] at hL; simp at hL
    | some a =>
    obtain ⟨s3, b⟩ := a
    rw [hf] at hL
    simp only at hL
    have hF := hfire _ _ _ _ hf
    repeat' ((conv => whnf); (first
     | (refine Br_true (decide_eq_true (by omega)) ?_)
     | (refine Idx_in _ hidx (by omega) rfl ?_)
     | (refine Tri.pg 0 3 2 5 rfl hF rfl rfl rfl (by decide) (by decide) (by decide) rfl rfl rfl ?_)
     | (refine Back_in _ _ ⟨j + 1, s3, by omega, rfl, hL, rfl⟩ (by omega) ?_)
     | (refine ArK_in (wrap_i64 (by omega) (by omega)) ?_)))
    refine Wk_H [some (.row (pgC s3 5 2)), none, some (.mp [] []), none, some (.row (e.cs.map .d)), AccB (rowsP s3)] (by kernel_rfl) ?_
    exact Wk_fzI [0, 1, 2, 5] [0, 1, 2, 5] [] rfl rfl ⟨.inr rfl, .inl rfl, .inr rfl, .inr rfl, trivial⟩ rfl
      ⟨⟨_, rfl, FB_pg rfl rfl⟩, ⟨_, rfl, .mp _ _ _ rfl fun i x y h => by simp at h⟩, HFz_acc rfl trivial⟩
      ⟨.ptr _ _ _ rfl, .same _ rfl, .same _ rfl, .same _ rfl, trivial⟩ (by show 3 ≤ 4; decide) (by intro i hi; match i, hi with | 0, _ => rfl | 1, _ => rfl | 2, _ => rfl) rfl
  · rw [List.drop_eq_nil_of_le (by omega)] at hL
    simp only [toL] at hL
    injection hL with hL
    subst hL
    repeat' ((conv => whnf); (first
     | (refine finPO 3 [] (by decide) (by decide) rfl rfl rfl rfl (.same _ rfl))
     | (refine Br_false (decide_eq_false (by omega)) ?_)))
def giveG (to : PS → Int → Option PS) (s : PS) (k : Int) : Option (PS × Int) :=
  if isN s.tree k = false then some (s, 2) else
    match fupO s.tree 1000 k with
    | none => none
    | some L => if mayB s.tree && (Nat.ble L.length 1000 && L.all (isN s.tree)) && (areaB s.tree k L || !(allOk s.tree k && delB s.tree k)) then
        if giveR s.tree k L = -1 then some (s, 8) else (to s (giveR s.tree k L)).map fun s' => (s', 0)
      else none
def GiveC (give : PS → Int → Option (PS × Int)) : Prop := ∀ (s : PS) (k : Int) (s' : PS) (e : Int), give s k = some (s', e) → Tri Tryz.prog 122 [.ptr 0 0, .i k] (pgI s) fun v H => v = .i e ∧ H = pgO s'
theorem page_give (to : PS → Int → Option PS) (hto : ToC to) : GiveC (giveG to) := by
  intro s k s' e hg
  unfold giveG at hg
  have h1 := page_is s k
  refine Tri_of (m := 3) tt_ok Tryz.func122 rfl (by decide) Tryz.ntmps122 (by rfl) rfl ?_
  cases hb : isN s.tree k
  · rw [hb] at h1 hg
    rw [if_pos rfl] at hg
    injection hg with hg
    injection hg with e1 e2
    subst e1 e2
    repeat' ((conv => whnf); (first
     | (refine finPO 1 [] (by decide) (by decide) rfl rfl rfl rfl (.same _ rfl))
     | (refine Tri.pgS 0 1 2 h1 rfl rfl rfl rfl (by decide) (by decide) (by decide) rfl rfl rfl ?_)))
  rw [hb] at h1 hg
  rw [if_neg (by simp)] at hg
  split at hg
  · simp at hg
  rename_i L hL
  split at hg
  rotate_left
  · simp at hg
  rename_i hck
  simp only [Bool.and_eq_true, Bool.or_eq_true, Bool.not_eq_true', List.all_eq_true] at hck
  obtain ⟨⟨hm, hl, hN⟩, hd⟩ := hck
  have hl := Nat.le_of_ble_eq_true hl
  have ha : allOk s.tree k = true := by unfold allOk; rw [hm, hb]; rfl
  have hA := give_Area s.tree k L (.inr ⟨ha, by omega, 1000, hL⟩) hl hN hd
  generalize giveR s.tree k L = a at *
  by_cases h8 : a = -1
  · rw [if_pos h8] at hg
    injection hg with hg
    injection hg with e1 e2
    subst e1 e2 h8
    repeat' ((conv => whnf); (first
     | (refine finPO 1 [] (by decide) (by decide) rfl rfl rfl rfl (.same _ rfl))
     | (refine Tri.pgS 0 1 2 h1 rfl rfl rfl rfl (by decide) (by decide) (by decide) rfl rfl rfl ?_)
     | (refine Fn.use (hA) rfl rfl ?_)))
  · rw [if_neg h8] at hg
    cases ht : to s a with
    | none => rw [ht] at hg; simp at hg
    | some s2 =>
    rw [ht] at hg
    simp at hg
    obtain ⟨rfl, rfl⟩ := hg
    have hT := hto _ _ _ ht
    repeat' ((conv => whnf); (first
     | (refine finPO 3 [] (by decide) (by decide) rfl rfl rfl rfl (.same _ rfl))
     | (refine Br_false (beqF (by omega)) ?_)
     | (refine Tri.pgS 0 1 2 h1 rfl rfl rfl rfl (by decide) (by decide) (by decide) rfl rfl rfl ?_)
     | (refine Fn.use (hA) rfl rfl ?_)
     | (refine Tri.pg 0 1 2 3 rfl hT rfl rfl rfl (by decide) (by decide) (by decide) rfl rfl rfl ?_)))
end Go.Eng
set_option maxRecDepth 100000
set_option linter.unusedVariables false
set_option linter.unusedSimpArgs false
namespace Go.Eng
open Go Go.Proofs
def stepG (give : PS → Int → Option (PS × Int)) (s : PS) (x : Step) (_h : Hear) : Option (PS × Int) :=
  if x.f = 0 then give s x.a else if x.f = 11 ∨ x.f = 12 ∨ x.f = 13 then some (s, 0) else none
def StepC (step : PS → Step → Hear → Option (PS × Int)) : Prop := ∀ (s : PS) (x : Step) (h : Hear) (s' : PS) (e : Int), step s x h = some (s', e) → Tri Tryz.prog 312 [.ptr 0 0, aggD x.cs, aggD h.cs] (pgI s) fun v H => v = .i e ∧ H = pgO s'
theorem page_step (give : PS → Int → Option (PS × Int)) (hgive : GiveC give) : StepC (stepG give) := by
  intro s x h s' e hs
  unfold stepG at hs
  refine Tri_of (m := 3) tt_ok Tryz.func312 rfl (by decide) Tryz.ntmps312 (by rfl) rfl ?_
  obtain ⟨xf, xa, xb⟩ := x
  dsimp only at hs
  by_cases h0 : xf = 0
  · rw [if_pos h0] at hs
    subst h0
    have hG := hgive _ _ _ _ hs
    repeat' ((conv => whnf); (first
     | (refine finPO 6 [] (by decide) (by decide) rfl rfl rfl rfl (.same _ rfl))
     | (refine Lk_some _ rfl ?_)
     | (refine Tri.pg 0 1 2 6 rfl hG rfl rfl rfl (by decide) (by decide) (by decide) rfl rfl rfl ?_)))
  · rw [if_neg h0] at hs
    split at hs
    rotate_left
    · simp at hs
    rename_i hx
    injection hs with hs
    injection hs with e1 e2
    subst e1 e2
    rcases hx with rfl | rfl | rfl
    all_goals repeat' ((conv => whnf); (first
     | (refine finPO 1 [] (by decide) (by decide) rfl rfl rfl rfl (.same _ rfl))
     | (refine Lk_none rfl ?_)))
end Go.Eng
set_option maxRecDepth 100000
set_option linter.unusedVariables false
set_option linter.unusedSimpArgs false
namespace Go.Eng
open Go Go.Proofs
abbrev B3 := Bool × Bool × Bool
def callL (step : PS → Step → Hear → Option (PS × Int)) (h : Hear) : List Step → PS → B3 → Option (PS × B3 × Int)
  | [], s, a => some (s, a, 0)
  | x :: r, s, a =>
    if !(Nat.ble s.rows.length 900000) || !(decide (0 ≤ s.fuel ∧ s.fuel ≤ 100000)) then none else
    if s.fuel = 0 then some (s, a, 10) else
      match step { s with fuel := s.fuel - 1 } x h with
      | none => none
      | some (s2, e) => if Nat.ble s2.rows.length 900000 then callL step h r (addRow s2 ⟨1, h.prog, 0, 0, 0, 0, 0, e⟩) (a.1 || x.f == 11, a.2.1 || x.f == 12, a.2.2 || x.f == 13) else none
def doneRow (h : Hear) (e : Int) : PRow := ⟨2, h.prog, 0, 0, 0, 0, 0, e⟩
def callG (step : PS → Step → Hear → Option (PS × Int)) (s : PS) (h : Hear) : Option Ans :=
  if !(Nat.ble s.rows.length 900000) || !(decide (0 ≤ s.under ∧ s.under ≤ 1000)) then none else
  if s.under ≥ s.depth then some (addRow s (doneRow h 11), false, false, false) else
    match s.progs with
    | [] => none
    | p0 :: pr => if ¬ (0 ≤ h.prog ∧ h.prog < ((p0 :: pr).length : Int)) then none else
      match (p0 :: pr)[h.prog.toNat]? with
      | none => none
      | some p => if !(Nat.ble p.length 1000) then none else match callL step h p { s with under := s.under + 1 } (false, false, false) with
        | none => none
        | some (s2, a, e) => if !(Nat.ble s2.rows.length 900000) || !(decide (0 ≤ s2.under ∧ s2.under ≤ 1000)) then none else
          some (addRow { s2 with under := s2.under - 1 } (doneRow h e), a.1, a.2.1, a.2.2)
def calH (s : PS) (h : Hear) (a : B3) : Heap := [some (.row (pgC s 7 2)), none, some (.mp [] []), some (.row [.ptr 0 0]), some (.row (h.cs.map .d)), some (.row [.b a.1, .b a.2.1, .b a.2.2]), some (.row [.i 0]), AccB (rowsP s)]
def calDf : List DF := [.fn 311 [(3, 0)], .fn 310 [(3, 0), (4, 0), (6, 0)]]
theorem TriD_of {P : Program} {tt : TT} (hT : TTok P tt) {f : FuncId} {fn : Func} {c : Code} (hf : P.funcs[f]? = some fn) (hb : fn.body = some c) (hnm : (fn.name == "runtime.NumGoroutine") = false) {n : Nat} (hn : fn.ntmps = n)
    {args : List AV} {H : Heap} {Q : AV → Heap → Prop} (hargs : Nat.ble args.length n = true) (h : awp P tt none c (RetD tt fn H.length Q) ⟨argEnv args 0, n, H, H.length, []⟩) : TriD P f args H Q := by
  subst hn
  exact TriD_of_awp hT hf hb hnm hargs (W_run hT h)
set_option maxHeartbeats 1000000 in
theorem page_call (step : PS → Step → Hear → Option (PS × Int)) (hstep : StepC step) : CallC (callG step) := by
  intro s h s' b1 b2 b3 hs
  unfold callG at hs
  split at hs
  · simp at hs
  rename_i hck
  simp only [Bool.not_eq_true, Bool.or_eq_false_iff, Bool.not_eq_false', decide_eq_true_eq] at hck
  obtain ⟨hrb, hun⟩ := hck
  have hrb := Nat.le_of_ble_eq_true hrb
  refine Tri_of (m := 3) tt_ok Tryz.func249 rfl (by decide) Tryz.ntmps249 (by rfl) rfl ?_
  by_cases hd : s.under ≥ s.depth
  · rw [if_pos hd] at hs
    simp only [Option.some.injEq, Prod.mk.injEq] at hs
    obtain ⟨rfl, rfl, rfl, rfl⟩ := hs
    have hlim : (rowsP s).length + [(doneRow h 11).cs].length ≤ 1000000 := by simp only [rowsP, List.length_map, List.length_cons, List.length_nil]; omega
    repeat' ((conv => whnf); (first
     | (refine W_float 0 3 29 tt_ok mixed (by kernel_rfl) ?_)
     | (refine And.intro (fun _ => rfl) ?_)
     | (refine App_acc (rowsP s) [(doneRow h 11).cs] rfl rfl rfl rfl (by simp) cs8p (by intro r hr; simp at hr; subst hr; rfl) hlim (Nat.le_of_ble_eq_true rfl) ?_)
     | (refine finPO 7 [] (by decide) (by decide) (congrArg (fun x => some (some (Blk.row x))) (pgC_add s (doneRow h 11) 1 7 2)) (by rw [accB_add]; rfl) rfl rfl (.same _ rfl))
     | (refine Br_true (decide_eq_true (by omega)) ?_)
     | (refine W_dfr tt_ok ?_)
     | (refine TriD_of tt_ok Tryz.func310 rfl (by decide) Tryz.ntmps310 rfl ?_)
     | (refine finQ ?_)
     | (refine force_in ?_)))
  · rw [if_neg hd] at hs
    split at hs
    · simp at hs
    rename_i p0 pr hpr
    split at hs
    · simp at hs
    rename_i hpi
    have hpi : 0 ≤ h.prog ∧ h.prog < ((p0 :: pr).length : Int) := by simpa using hpi
    split at hs
    · simp at hs
    rename_i p hp
    split at hs
    · simp at hs
    rename_i hpl
    have hpl : p.length ≤ 1000 := Nat.le_of_ble_eq_true (by simpa using hpl)
    split at hs
    · simp at hs
    rename_i s2 a e hcL
    split at hs
    · simp at hs
    rename_i hck2
    simp only [Bool.not_eq_true, Bool.or_eq_false_iff, Bool.not_eq_false', decide_eq_true_eq] at hck2
    obtain ⟨hrb2, hun2⟩ := hck2
    have hrb2 := Nat.le_of_ble_eq_true hrb2
    simp only [Option.some.injEq, Prod.mk.injEq] at hs
    obtain ⟨rfl, rfl, rfl, rfl⟩ := hs
    obtain ⟨cap, fm, dp, tr, hr, prs, fo, fu, un, ro⟩ := s
    dsimp only at *
    subst hpr
    have hidx : ((p0 :: pr).map fun p => [stepsD p])[h.prog.toNat]? = some [stepsD p] := by rw [List.getElem?_map, hp]; rfl
    have hkl : (List.map Step.cs p).length = p.length := by simp
    repeat' ((conv => whnf); (first
     | (refine W_float 0 3 29 tt_ok mixed (by kernel_rfl) ?_)
     | (refine Br_false (decide_eq_false (by omega)) ?_)
     | (refine W_dfr tt_ok ?_)
     | (refine Idx_in _ hidx (by omega) rfl ?_)
     | (refine ArK_in (wrap_i64 (by dsimp only; omega) (by dsimp only; omega)) ?_)))
    refine W_loop (fun μ s1 => ∃ (j : Nat) (s3 : PS) (a3 : B3), j ≤ p.length ∧ μ = p.length - j ∧ callL step h (p.drop j) s3 a3 = some (s2, a, e) ∧
      s1 = ⟨[(2, .ptr 3 0), (3, .ptr 4 0), (4, .ptr 5 0), (5, .ptr 6 0), (36, .d (stepsD p)), (37, .i (List.map Step.cs p).length), (38, .i j)], 98, calH s3 h a3, 3, [.fn 311 [(3, 0)], .fn 310 [(3, 0), (4, 0), (6, 0)]]⟩) p.length ⟨_, ?_, 0, ⟨cap, fm, dp, tr, hr, p0 :: pr, fo, fu, un + 1, ro⟩, (false, false, false), by omega, by omega, by rw [List.drop_zero]; exact hcL, rfl⟩ ?_
    · refine Wk_H [some (.row (pgC ⟨cap, fm, dp, tr, hr, p0 :: pr, fo, fu, un + 1, ro⟩ 1 2)), AccB (rowsP ⟨cap, fm, dp, tr, hr, p0 :: pr, fo, fu, un + 1, ro⟩), some (.mp [] []), some (.row [.ptr 0 0]), some (.row (h.cs.map .d)), some (.row [.b false, .b false, .b false]), some (.row [.i 0])] (by kernel_rfl) ?_
      unfold calH
      exact Wk_fzI [0, 1, 2, 3, 4, 5, 6, 1] [0, 8, 2, 3, 4, 5, 6, 1] [] rfl rfl ⟨.inr rfl, .inl rfl, .inr rfl, .inr rfl, .inr rfl, .inr rfl, .inr rfl, .inr rfl, trivial⟩ rfl
        ⟨⟨_, rfl, FB_pg rfl rfl⟩, ⟨_, rfl, .mp _ _ _ rfl fun i x y h => by simp at h⟩, ⟨_, rfl, FB_rows ⟨.ptr _ _ _ rfl, trivial⟩⟩, ⟨_, rfl, FB_dat h.cs⟩, ⟨_, rfl, FB_rows ⟨.same _ rfl, .same _ rfl, .same _ rfl, trivial⟩⟩, ⟨_, rfl, FB_rows ⟨.same _ rfl, trivial⟩⟩, HFz_acc rfl trivial⟩
        ⟨.ptr _ _ _ rfl, .ptr _ _ _ rfl, .ptr _ _ _ rfl, .ptr _ _ _ rfl, .same _ rfl, .same _ rfl, .same _ rfl, trivial⟩ (by show 3 ≤ 8; decide) (by intro i hi; match i, hi with | 0, _ => rfl | 1, _ => rfl | 2, _ => rfl) rfl
    rintro μ s1 ⟨j, s3, a3, hj, rfl, hL, rfl⟩
    refine W_run tt_ok ?_
    by_cases hlt : j < p.length
    rotate_left
    · rw [List.drop_eq_nil_of_le (by omega)] at hL
      simp only [callL, Option.some.injEq, Prod.mk.injEq] at hL
      obtain ⟨rfl, rfl, rfl⟩ := hL
      obtain ⟨a1, a2, a3⟩ := a3
      have hlim : (rowsP s3).length + [(doneRow h 0).cs].length ≤ 1000000 := by simp only [rowsP, List.length_map, List.length_cons, List.length_nil]; omega
      repeat' ((conv => whnf); (first
       | (refine W_float 0 3 29 tt_ok mixed (by kernel_rfl) ?_)
       | (refine And.intro (fun _ => rfl) ?_)
       | (refine App_acc (rowsP (s3)) [(doneRow h 0).cs] rfl rfl rfl rfl (by simp) cs8p (by intro r hr; simp at hr; subst hr; rfl) hlim (Nat.le_of_ble_eq_true rfl) ?_)
       | (refine finPO 8 [] (by decide) (by decide) (congrArg (fun x => some (some (Blk.row x))) (pgC_add ({ s3 with under := s3.under - 1 }) (doneRow h 0) 7 8 2)) (by rw [accB_add]; rfl) rfl rfl (.same _ rfl))
       | (refine Br_false (decide_eq_false (by omega)) ?_)
       | (refine TriD_of tt_ok Tryz.func310 rfl (by decide) Tryz.ntmps310 rfl ?_)
       | (refine TriD_of tt_ok Tryz.func311 rfl (by decide) Tryz.ntmps311 rfl ?_)
       | (refine finQ ?_)
       | (refine ArK_in (wrap_i64 (by omega) (by omega)) ?_)
       | (refine force_in ?_)))
    · have hidx2 : (p.map Step.cs)[(j : Int).toNat]? = some (p[j]).cs := by simp [hlt]
      rw [List.drop_eq_getElem_cons hlt] at hL
      generalize p[j] = x at *
      simp only [callL] at hL
      split at hL
      · simp at hL
      rename_i hck3
      simp only [Bool.not_eq_true, Bool.or_eq_false_iff, Bool.not_eq_false', decide_eq_true_eq] at hck3
      obtain ⟨hrb3, hfu⟩ := hck3
      have hrb3 := Nat.le_of_ble_eq_true hrb3
      obtain ⟨xf, xa, xb⟩ := x
      obtain ⟨a1, a2, a4⟩ := a3
      dsimp only [Step.cs] at *
      by_cases hf0 : s3.fuel = 0
      · rw [if_pos hf0] at hL
        simp only [Option.some.injEq, Prod.mk.injEq] at hL
        obtain ⟨rfl, rfl, rfl⟩ := hL
        have hlim : (rowsP s3).length + [(doneRow h 10).cs].length ≤ 1000000 := by simp only [rowsP, List.length_map, List.length_cons, List.length_nil]; omega
        repeat' ((conv => whnf); (first
         | (refine W_float 0 3 29 tt_ok mixed (by kernel_rfl) ?_)
         | (refine And.intro (fun _ => rfl) ?_)
         | (refine App_acc (rowsP (s3)) [(doneRow h 10).cs] rfl rfl rfl rfl (by simp) cs8p (by intro r hr; simp at hr; subst hr; rfl) hlim (Nat.le_of_ble_eq_true rfl) ?_)
         | (refine finPO 9 [] (by decide) (by decide) (congrArg (fun x => some (some (Blk.row x))) (pgC_add ({ s3 with under := s3.under - 1 }) (doneRow h 10) 7 9 2)) (by rw [accB_add]; rfl) rfl rfl (.same _ rfl))
         | (refine Br_true (beqT (by omega)) ?_)
         | (refine Br_true (decide_eq_true (by omega)) ?_)
         | (refine Idx_in _ hidx2 (by omega) rfl ?_)
         | (refine TriD_of tt_ok Tryz.func310 rfl (by decide) Tryz.ntmps310 rfl ?_)
         | (refine TriD_of tt_ok Tryz.func311 rfl (by decide) Tryz.ntmps311 rfl ?_)
         | (refine finQ ?_)
         | (refine ArK_in (wrap_i64 (by omega) (by omega)) ?_)
         | (refine force_in ?_)))
      · rw [if_neg hf0] at hL
        cases hst : step { s3 with fuel := s3.fuel - 1 } ⟨xf, xa, xb⟩ h with
        | none => rw [hst] at hL; simp at hL
        | some q =>
        obtain ⟨s4, e4⟩ := q
        rw [hst] at hL
        simp only at hL
        split at hL
        rotate_left
        · simp at hL
        rename_i hrb4
        have hrb4 := Nat.le_of_ble_eq_true hrb4
        have hstp := hstep _ _ _ _ _ hst
        have hlim : (rowsP s4).length + [(⟨1, h.prog, 0, 0, 0, 0, 0, e4⟩ : PRow).cs].length ≤ 1000000 := by simp only [rowsP, List.length_map, List.length_cons, List.length_nil]; omega
        have hone : ∀ B1 B2 B3 : Bool, callL step h (p.drop (j + 1)) (addRow s4 ⟨1, h.prog, 0, 0, 0, 0, 0, e4⟩) (B1, B2, B3) = some (s2, a, e) → ∀ (ρ : Env) (n m : Nat) (df : List DF) (z : St), Wk ⟨ρ, n, [some (.row (pgC (addRow s4 ⟨1, h.prog, 0, 0, 0, 0, 0, e4⟩) 10 2)), none, some (.mp [] []), some (.row [.ptr 0 0]), some (.row (h.cs.map .d)), some (.row [.b B1, .b B2, .b B3]), some (.row [.i 0]), none, some (.row [.i xf, .i xa, .i xb]), none, AccB (rowsP (addRow s4 ⟨1, h.prog, 0, 0, 0, 0, 0, e4⟩))], m, df⟩ z →
            Wk ⟨ρ, n, [some (.row (splice (pgC s4 9 2) (0 + 17) [.msl 10 0 ((rowsP s4).length + 1) ((rowsP s4).length + 1) 8])), none, some (.mp [] []), some (.row [.ptr 0 0]), some (.row (h.cs.map .d)), some (.row [.b B1, .b B2, .b B3]), some (.row [.i 0]), none, some (.row [.i xf, .i xa, .i xb]), none, some (.row ((rowsP s4 ++ [(⟨1, h.prog, 0, 0, 0, 0, 0, e4⟩ : PRow).cs]).flatten.map .d))], m, df⟩ z := by
          intro B1 B2 B3 _ ρ n m df z hz
          rw [accB_add, ← pgC_add s4 ⟨1, h.prog, 0, 0, 0, 0, 0, e4⟩ 9] at hz
          exact hz
        cases a1 <;> cases a2 <;> cases a4
        repeat' ((conv => whnf); (first
         | (refine W_float (id := 17) 0 8 3 tt_ok mixed (by kernel_rfl) ?_)
         | (refine W_float 0 3 29 tt_ok mixed (by kernel_rfl) ?_)
         | (refine And.intro (fun _ => rfl) ?_)
         | (refine App_acc (rowsP s4) [(⟨1, h.prog, 0, 0, 0, 0, 0, e4⟩ : PRow).cs] rfl rfl rfl rfl (by simp) cs8p (by intro r hr; simp at hr; subst hr; rfl) hlim (Nat.le_of_ble_eq_true rfl) ?_)
         | (refine Br_false (beqF (by omega)) ?_)
         | (refine Br_true (decide_eq_true (by omega)) ?_)
         | (refine Idx_in _ hidx2 (by omega) rfl ?_)
         | (refine Tri.pg 0 7 2 9 rfl hstp rfl rfl rfl (by decide) (by decide) (by decide) rfl rfl rfl ?_)
         | (refine Back_in _ (p.length - (j + 1)) ⟨j + 1, addRow s4 ⟨1, h.prog, 0, 0, 0, 0, 0, e4⟩, (_, _, _), by omega, rfl, hL, rfl⟩ (by omega) ?_)
         | (refine ArK_in (wrap_i64 (by omega) (by omega)) ?_)
         | (refine force_in ?_)))
        all_goals refine Wk_H _ (by kernel_rfl) (hone _ _ _ hL _ _ _ _ _ ?_)
        all_goals unfold calH
        all_goals refine Wk_fzI [0, 1, 2, 3, 4, 5, 6, 10] [0, 1, 2, 3, 4, 5, 6, 10] [] ?_ ?_ ?_ ?_ ?_ ?_ ?_ ?_ ?_
        all_goals first
          | exact ⟨.inr rfl, .inl rfl, .inr rfl, .inr rfl, .inr rfl, .inr rfl, .inr rfl, .inr rfl, trivial⟩
          | exact ⟨⟨_, rfl, FB_pg rfl rfl⟩, ⟨_, rfl, .mp _ _ _ rfl fun i x y h => by simp at h⟩, ⟨_, rfl, FB_rows ⟨.ptr _ _ _ rfl, trivial⟩⟩, ⟨_, rfl, FB_dat h.cs⟩, ⟨_, rfl, FB_rows ⟨.same _ rfl, .same _ rfl, .same _ rfl, trivial⟩⟩, ⟨_, rfl, FB_rows ⟨.same _ rfl, trivial⟩⟩, HFz_acc rfl trivial⟩
          | exact ⟨.ptr _ _ _ rfl, .ptr _ _ _ rfl, .ptr _ _ _ rfl, .ptr _ _ _ rfl, .same _ rfl, .same _ rfl, .same _ rfl, trivial⟩
          | (show 3 ≤ 8; decide)
          | (intro i hi; match i, hi with | 0, _ => rfl | 1, _ => rfl | 2, _ => rfl)
          | rfl
end Go.Eng
set_option maxRecDepth 100000
set_option linter.unusedVariables false
set_option linter.unusedSimpArgs false
namespace Go.Eng
open Go Go.Proofs
theorem renL_i (g : Nat → Nat) (l : List Int) : renL g (l.map AV.i) = l.map AV.i := by
  induction l with
  | nil => rfl
  | cons a r ih => simp only [List.map_cons, renL, ih]; rfl
def kiC (l : List Int) (b : Nat) : AV := if l = [] then .esl else .msl b 0 l.length l.length 1
def kiH (l : List Int) : Heap := if l = [] then [] else [some (.row (l.map AV.i))]
theorem cloneK (l : List Int) (hl : l.length ≤ 1000) : Tri Tryz.prog 75 [.d (ints l)] [] fun v H => v = kiC l 0 ∧ H = kiH l := by
  by_cases h0 : l = []
  rotate_left
  · unfold kiC kiH
    rw [if_neg h0, if_neg h0]
    exact cloneOwn_ints l h0 hl
  subst h0
  refine Tri_of (m := 0) tt_ok Tryz.func75 rfl (by decide) Tryz.ntmps75 (by rfl) rfl ?_
  refine Nil_in fun b hb => ?_
  cases b
  · skip
    refine Ch_r ?_
    skip
    refine Ch_l ?_
    repeat' ((conv => whnf); (first
     | (refine Need_in rfl ?_)
     | (refine finQ ⟨rfl, rfl⟩)))
  · repeat' ((conv => whnf); (first
   | (refine finW (Fin_all (F := []) .nesl) ⟨rfl, rfl⟩)))
theorem ownK_call (l : List Int) (hl : l.length ≤ 1000) (H : Heap) (K : AV → Heap → Prop) (hK : K (kiC l H.length) (H ++ kiH l)) : Tri Tryz.prog 75 [.d (ints l)] H K := by
  have h := cloneK l hl
  unfold kiC kiH at *
  by_cases h0 : l = []
  · simp only [h0, if_true, List.append_nil] at hK
    subst h0
    simp only [if_true] at h
    exact Tri.call h [] rfl rfl trivial rfl rfl rfl rfl rfl (by rw [patch_nil]; simp [renH]) hK
  · simp only [h0, if_false] at hK h
    exact Tri.call h [] rfl rfl trivial rfl rfl rfl rfl (r := .msl H.length 0 l.length l.length 1) (by simp [ren, hmap_nil]) (by rw [patch_nil]; simp only [renH, List.map_cons, List.map_nil, Option.map, renB, renL_i]) hK
def tabK (t : Tree) (n : Nat) (c : AV) : List AV := (tabT t).set (n * 7 + 3) c
theorem tabK_len (t : Tree) (n : Nat) (c : AV) : (tabK t n c).length = t.length * 7 := by unfold tabK; rw [List.length_set, tabT_len]
theorem copy_ownK (t : Tree) (n : Nat) (hn : n < t.length) (hs : SmallT t) :
    Tri Tryz.prog 74 [.d (treeD t)] [] fun v H => v = .msl 0 0 t.length t.length 7 ∧ H = some (.row (tabK t n (kiC (t[n]).kids 1))) :: kiH (t[n]).kids := by
  refine Tri_of (m := 0) tt_ok Tryz.func74 rfl (by decide) Tryz.ntmps74 (by rfl) rfl ?_
  have hne : t ≠ [] := by rintro rfl; simp at hn
  refine Tri.tab (clone_tree t hne hs.1) rfl ?_
  have hpush : (List.map Node.cs t).flatten.map AV.d = tabT t := rfl
  rw [hpush]
  repeat' ((conv => whnf); (first
   | (refine Len_in (fun hlen => ?_))))
  have hal := (hs.2 _ (List.getElem_mem hn)).1
  refine W_loop (fun μ s => ∃ (k : Nat) (T : List AV) (rest : Heap), k ≤ t.length ∧ μ = t.length - k ∧ (k ≤ n → T = tabT t ∧ rest = []) ∧ (n < k → T = tabK t n (kiC (t[n]).kids 1) ∧ rest = kiH (t[n]).kids) ∧
      s = ⟨[(3, .msl 0 0 t.length t.length 7), (8, .i t.length), (9, .i k)], 34, some (.row T) :: rest, 0, []⟩) t.length
    ⟨_, ?_, 0, tabT t, [], by omega, by omega, fun _ => ⟨rfl, rfl⟩, fun h => absurd h (Nat.not_lt_zero _), rfl⟩ ?_
  · exact Wk_env (by repeat (first | exact trivial | refine ⟨rfl, ?_⟩))
  rintro μ s1 ⟨k, T, rest, hk, rfl, h1, h2, rfl⟩
  refine W_run tt_ok ?_
  by_cases hlt : k < t.length
  rotate_left
  · obtain ⟨rfl, rfl⟩ := h2 (by omega)
    repeat' ((conv => whnf); (first
     | (refine Br_false (decide_eq_false (by omega)) ?_)
     | (refine finQ ⟨rfl, rfl⟩)))
  have hmk := hs.2 _ (List.getElem_mem hlt)
  have hTl : T.length = t.length * 7 := by
    by_cases h : k ≤ n
    · rw [(h1 h).1, tabT_len]
    · rw [(h2 (by omega)).1, tabK_len]
  have g6 : T[0 + (k : Int).toNat * 7 + 6]? = some (.d (attrsD (t[k]).attrs)) := by
    rw [show 0 + (k : Int).toNat * 7 + 6 = k * 7 + 6 by omega]
    have h0 := tabT_get t k 6 hlt _ rfl (by omega)
    by_cases h : k ≤ n
    · rw [(h1 h).1]; exact h0
    · rw [(h2 (by omega)).1]; unfold tabK; rw [List.getElem?_set_ne (by omega)]; exact h0
  by_cases hkn : k = n
  rotate_left
  · have g3 : T[0 + (k : Int).toNat * 7 + 3]? = some (.d (ints (t[k]).kids)) := by
      rw [show 0 + (k : Int).toNat * 7 + 3 = k * 7 + 3 by omega]
      have h0 := tabT_get t k 3 hlt _ rfl (by omega)
      by_cases h : k ≤ n
      · rw [(h1 h).1]; exact h0
      · rw [(h2 (by omega)).1]; unfold tabK; rw [List.getElem?_set_ne (by omega)]; exact h0
    have e : splice (splice T (0 + (k : Int).toNat * 7 + 3) [.d (ints (t[k]).kids)]) (0 + (k : Int).toNat * 7 + 6) [.d (attrsD (t[k]).attrs)] = T := by
      rw [splice_same g3, splice_same g6]
    repeat' ((conv => whnf); (first
     | (refine Br_true (Nat.ble_eq_true_of_le (by rw [hTl]; simp; omega)) ?_)
     | (refine Br_true (Nat.ble_eq_true_of_le (by rw [splice_length, hTl]; simp; omega)) ?_)
     | (refine Br_true (decide_eq_true (by omega)) ?_)
     | (refine W_draw 0 tt_ok mixed (by kernel_rfl) ?_)
     | (refine Cell_in _ g3 ?_)
     | (refine Cell_in _ g6 ?_)
     | (refine CallF_in (clone_ints _ hmk.1) rfl rfl ?_)
     | (refine CallF_in (clone_attrs _ hmk.2) rfl rfl ?_)
     | (refine Back_in _ _ ⟨k + 1, _, rest, by omega, rfl, fun h => ⟨e.trans (h1 (by omega)).1, (h1 (by omega)).2⟩, fun h => ⟨e.trans (h2 (by omega)).1, (h2 (by omega)).2⟩, rfl⟩ (by omega) (Wk_env (by repeat (first | exact trivial | refine ⟨rfl, ?_⟩))))
     | (refine ArK_in (wrap_i64 (by omega) (by omega)) ?_)))
  · obtain ⟨rfl, rfl⟩ := h1 (by omega)
    subst hkn
    have g3 : (tabT t)[0 + (k : Int).toNat * 7 + 3]? = some (.d (ints (t[k]).kids)) := by
      rw [show 0 + (k : Int).toNat * 7 + 3 = k * 7 + 3 by omega]
      exact tabT_get t k 3 hlt _ rfl (by omega)
    have e : ∀ c : AV, splice (splice (tabT t) (0 + (k : Int).toNat * 7 + 3) [c]) (0 + (k : Int).toNat * 7 + 6) [.d (attrsD (t[k]).attrs)] = tabK t k c := fun c => by
      rw [splice_same (by rw [show 0 + (k : Int).toNat * 7 + 6 = k * 7 + 6 by omega] at g6 ⊢; simp only [splice]; rw [List.getElem?_set_ne (by omega)]; exact g6)]
      unfold tabK
      simp only [splice]
      rw [show 0 + (k : Int).toNat * 7 + 3 = k * 7 + 3 by omega]
    have oc := ownK_call (t[k]).kids hal
    by_cases h0 : (t[k]).kids = []
    · have ec : ∀ b, kiC (t[k]).kids b = .esl := fun b => by unfold kiC; rw [if_pos h0]
      have eh : kiH (t[k]).kids = [] := by unfold kiH; rw [if_pos h0]
      simp only [ec, eh] at oc ⊢
      repeat' ((conv => whnf); (first
       | (refine Br_true (Nat.ble_eq_true_of_le (by rw [hTl]; simp; omega)) ?_)
       | (refine Br_true (Nat.ble_eq_true_of_le (by rw [splice_length, hTl]; simp; omega)) ?_)
       | (refine Br_true (decide_eq_true (by omega)) ?_)
       | (refine W_draw 1 tt_ok mixed (by kernel_rfl) ?_)
       | (refine Cell_in _ g3 ?_)
       | (refine Cell_in _ g6 ?_)
       | (refine CallP_in [] (fun K' hK' => oc _ K' hK') ?_)
       | (refine CallP_in [] (fun K' hK' => Fn.use (clone_attrs _ hmk.2) rfl rfl hK') ?_)
       | (refine Back_in _ _ ⟨k + 1, _, [], by omega, rfl, fun h => by omega, fun h => ⟨e _, rfl⟩, rfl⟩ (by omega) (Wk_env (by repeat (first | exact trivial | refine ⟨rfl, ?_⟩))))
       | (refine ArK_in (wrap_i64 (by omega) (by omega)) ?_)))
    · have ec : ∀ b, kiC (t[k]).kids b = .msl b 0 (t[k]).kids.length (t[k]).kids.length 1 := fun b => by unfold kiC; rw [if_neg h0]
      have eh : kiH (t[k]).kids = [some (.row ((t[k]).kids.map AV.i))] := by unfold kiH; rw [if_neg h0]
      simp only [ec, eh] at oc ⊢
      repeat' ((conv => whnf); (first
       | (refine Br_true (Nat.ble_eq_true_of_le (by rw [hTl]; simp; omega)) ?_)
       | (refine Br_true (Nat.ble_eq_true_of_le (by rw [splice_length, hTl]; simp; omega)) ?_)
       | (refine Br_true (decide_eq_true (by omega)) ?_)
       | (refine W_draw 1 tt_ok mixed (by kernel_rfl) ?_)
       | (refine Cell_in _ g3 ?_)
       | (refine Cell_in _ g6 ?_)
       | (refine CallP_in _ (fun K' hK' => oc _ K' hK') ?_)
       | (refine CallP_in [] (fun K' hK' => Fn.use (clone_attrs _ hmk.2) rfl rfl hK') ?_)
       | (refine Back_in _ _ ⟨k + 1, _, _, by omega, rfl, fun h => by omega, fun h => ⟨e _, rfl⟩, rfl⟩ (by omega) (Wk_env (by repeat (first | exact trivial | refine ⟨rfl, ?_⟩))))
       | (refine ArK_in (wrap_i64 (by omega) (by omega)) ?_)))
theorem ren_tabK (g : Nat → Nat) (t : Tree) (n : Nat) (c : AV) : renL g (tabK t n c) = tabK t n (ren g c) := by
  unfold tabK tabT; rw [renL_set, renL_d]
theorem copyK_call (t : Tree) (n : Int) (h : isN t n = true) (hs : SmallT t) {H : Heap} {K : AV → Heap → Prop}
    (hK : K (.msl H.length 0 t.length t.length 7) (H ++ (some (.row (tabK t n.toNat (kiC (nd t n).kids (H.length + 1)))) :: kiH (nd t n).kids))) : Tri Tryz.prog 74 [.d (treeD t)] H K := by
  obtain ⟨hl, hn⟩ := nd_get h
  have hcopy := copy_ownK t n.toNat hl hs
  have en : t[n.toNat] = nd t n := by
    obtain ⟨_, e⟩ := List.getElem?_eq_some_iff.1 hn; exact e
  rw [en] at hcopy
  by_cases hnil : (nd t n).kids = []
  · have ec : ∀ b, kiC (nd t n).kids b = .esl := fun b => by unfold kiC; rw [if_pos hnil]
    have eh : kiH (nd t n).kids = [] := by unfold kiH; rw [if_pos hnil]
    rw [ec, eh] at hcopy hK
    refine Tri.call hcopy [] rfl rfl trivial rfl rfl rfl rfl (r := .msl H.length 0 t.length t.length 7) (by simp [ren, hmap_nil]) (by rw [patch_nil]; simp only [renH, List.map_cons, List.map_nil, Option.map, renB, ren_tabK, ren]) hK
  · have ec : ∀ b, kiC (nd t n).kids b = .msl b 0 (nd t n).kids.length (nd t n).kids.length 1 := fun b => by unfold kiC; rw [if_neg hnil]
    have eh : kiH (nd t n).kids = [some (.row ((nd t n).kids.map AV.i))] := by unfold kiH; rw [if_neg hnil]
    rw [ec, eh] at hcopy hK
    refine Tri.call hcopy [] rfl rfl trivial rfl rfl rfl rfl (r := .msl H.length 0 t.length t.length 7) (by simp [ren, hmap_nil]) (by rw [patch_nil]; simp only [renH, List.map_cons, List.map_nil, Option.map, renB, ren_tabK, ren, hmap_nil, renL_i]) hK
end Go.Eng
set_option maxRecDepth 100000
set_option linter.unusedVariables false
set_option linter.unusedSimpArgs false
namespace Go.Eng
open Go Go.Proofs
theorem ins_esl (x : Int) (a b d : Option Blk) (K : AV → Heap → Prop) (hK : K (.msl 3 0 1 1 1) [a, b, d, some (.row ([x].map AV.i))]) :
    Tri Tryz.prog 169 [.esl, .i 0, .d (ints [x])] [a, b, d] K := by
  refine Tri_of (m := 3) tt_ok Tryz.func169 rfl (by decide) Tryz.ntmps169 (by rfl) rfl ?_
  repeat' ((conv => whnf); (first
   | (refine Len_in (fun hlen => ?_))
   | (refine Need_in ⟨rfl, rfl⟩ ?_)
   | (refine App_esl [[.int .i64 x]] rfl rfl (by simp) (by simp) (by simp) (Nat.le_of_ble_eq_true rfl) ?_)
   | (refine finQ ?_)))
  exact hK
theorem ins_own (l : List Int) (x : Int) (hne : l ≠ []) (hl : l.length ≤ 1000) (a b d : Option Blk) (K : AV → Heap → Prop) (hK : K (.msl 4 0 (l.length + 1) (l.length + 1) 1) [a, b, none, d, some (.row ((l ++ [x]).map AV.i))]) :
    Tri Tryz.prog 169 [.msl 2 0 l.length l.length 1, .i l.length, .d (ints [x])] [a, b, some (.row (l.map AV.i)), d] K := by
  refine Tri_of (m := 4) tt_ok Tryz.func169 rfl (by decide) Tryz.ntmps169 (by rfl) rfl ?_
  have e : (l.map intCs).length = l.length := by simp
  have hb : some (some (Blk.row (l.map AV.i))) = some (some (.row ((l.map intCs).flatten.map .d))) := by rw [intsA]
  have hr : ((l.map intCs ++ [[D.int .i64 x]]).flatten).map AV.d = (l ++ [x]).map AV.i := by rw [← intsA]; simp [intCs]
  rw [← hr, ← e] at hK
  repeat' ((conv => whnf); (first
   | (refine App_msl (l.map intCs) [[.int .i64 x]] (by simpa using hne) (by simp) hb rfl rfl rfl (by simp) cs1 (by simp) (by simp; omega) (Nat.le_of_ble_eq_true rfl) ?_)
   | (refine Br_true (beqT (by omega)) ?_)
   | (refine Len_in (fun hlen => ?_))
   | (refine Ch_r (Need_in ⟨by omega, rfl, by omega⟩ ?_))
   | (refine finQ ?_)))
  exact hK
def putKid (t : Tree) (a b : Int) : Tree := (t.set a.toNat { nd t a with kids := (nd t a).kids ++ [b] }).set b.toNat { nd t b with parent := a }
theorem flat_put {t : Tree} {n : Int} (h : isN t n = true) (x : Node) (j : Nat) (d : D) (hj : j < 7) (hx : x.cs = (nd t n).cs.set j d) : ((t.set n.toNat x).map Node.cs).flatten = ((t.map Node.cs).flatten).set (n.toNat * 7 + j) d := by
  have := splice_flat (t.map Node.cs) n.toNat j (nd t n).cs d cs7 (nd_row h) hj
  simp only [splice] at this
  rw [← List.map_set] at this
  rw [List.map_set, hx]
  exact (map_d_inj this).symm
theorem nd_set {t : Tree} {a b : Int} (x : Node) (h : a.toNat ≠ b.toNat) : nd (t.set a.toNat x) b = nd t b := by
  unfold nd
  rw [List.getD_eq_getElem?_getD, List.getD_eq_getElem?_getD, List.getElem?_set_ne h]
theorem isN_set {t : Tree} {a b : Int} (x : Node) : isN (t.set a.toNat x) b = isN t b := by
  unfold isN; rw [List.length_set]
theorem flat_putKid {t : Tree} {a b : Int} (ha : isN t a = true) (hb : isN t b = true) (hab : a ≠ b) :
    ((putKid t a b).map Node.cs).flatten = (((t.map Node.cs).flatten).set (a.toNat * 7 + 3) (ints ((nd t a).kids ++ [b]))).set (b.toNat * 7 + 2) (.int .i64 a) := by
  have h1 := nd_pos ha
  have h2 := nd_pos hb
  unfold putKid
  rw [flat_put (t := t.set a.toNat _) (n := b) (by rw [isN_set]; exact hb) _ 2 (.int .i64 a) (by omega) (by rw [nd_set _ (by omega)]; rfl), flat_put ha _ 3 (ints ((nd t a).kids ++ [b])) (by omega) rfl]
def tabP (t : Tree) (a b : Int) (c : AV) : List AV := splice (tabK t a.toNat c) (0 + b.toNat * 7 + 2) [.i a]
theorem FV_tabP {t : Tree} {a b : Int} (ha : isN t a = true) (hb : isN t b = true) (hab : a ≠ b) {H : Heap} {p q : Nat} (h0 : H[p]? = some (some (.row (tabP t a b (.msl q 0 ((nd t a).kids.length + 1) ((nd t a).kids.length + 1) 1)))))
    (hq : H[q]? = some (some (.row (((nd t a).kids ++ [b]).map AV.i)))) : FV [] [p, q] H (.msl p 0 t.length t.length 7) (.d (treeD (putKid t a b))) := by
  have hlp : (putKid t a b).length = t.length := by unfold putKid; simp
  refine .frz p 0 _ _ 7 (tabP t a b (.msl q 0 ((nd t a).kids.length + 1) ((nd t a).kids.length + 1) 1)) ((putKid t a b).map Node.cs) (by simp) (by unfold rowOf; rw [h0]) (by rw [List.length_map, hlp]) cs7 (by unfold tabP; rw [splice_length, tabK_len]; omega) fun i x y hi hx hy => ?_
  rw [flat_putKid ha hb hab] at hy
  unfold tabP tabK tabT at hx
  simp only [splice] at hx
  simp only [Nat.zero_add] at hx
  rw [List.getElem?_set] at hx hy
  have hll : (((t.map Node.cs).flatten.map AV.d).set (a.toNat * 7 + 3) (.msl q 0 ((nd t a).kids.length + 1) ((nd t a).kids.length + 1) 1)).length = (((t.map Node.cs).flatten).set (a.toNat * 7 + 3) (ints ((nd t a).kids ++ [b]))).length := by rw [List.length_set, List.length_set, List.length_map]
  rw [hll] at hx
  by_cases e2 : b.toNat * 7 + 2 = i
  · rw [if_pos e2] at hx hy
    split at hx
    · rename_i hlt
      rw [if_pos hlt] at hy
      injection hx with hx
      injection hy with hy
      subst hx hy
      exact .same _ rfl
    · simp at hx
  rw [if_neg e2] at hx hy
  rw [List.getElem?_set] at hx hy
  rw [List.length_map] at hx
  by_cases e3 : a.toNat * 7 + 3 = i
  · rw [if_pos e3] at hx hy
    split at hx
    · rename_i hlt
      rw [if_pos hlt] at hy
      injection hx with hx
      injection hy with hy
      subst hx hy
      refine .frz q 0 _ _ 1 (((nd t a).kids ++ [b]).map AV.i) (((nd t a).kids ++ [b]).map intCs) (by simp) (by unfold rowOf; rw [hq]) (by simp) cs1 (by simp) fun i x y hi hx hy => ?_
      rw [Nat.zero_add, ← intsA, List.getElem?_map, hy] at hx
      simp at hx
      subst hx
      exact .same _ rfl
    · simp at hx
  rw [if_neg e3] at hx hy
  rw [List.getElem?_map, hy] at hx
  simp at hx
  subst hx
  exact .same _ rfl
end Go.Eng
set_option maxRecDepth 100000
set_option linter.unusedVariables false
set_option linter.unusedSimpArgs false
namespace Go.Eng
open Go Go.Proofs
def insOk (t : Tree) (a b : Int) : Bool :=
  mayB t && isN t a && isN t b && decide ((nd t a).kind ≠ 2) && decide ((nd t b).kind ≠ 0) && decide ((nd t b).kind ≠ 3) && ((climb t (t.length + 1) a).all fun x => decide (x ≠ b)) && decide ((nd t b).parent = -1) && decide (a ≠ b) && ((nd t a).kids.all fun x => decide (0 ≤ x))
theorem kids_none {l : List Int} (h : ∀ x ∈ l, 0 ≤ x) : ix (· == -1) l = -1 := by
  induction l with
  | nil => rfl
  | cons a r ih =>
    have h1 := h a (by simp)
    have h2 := ih fun x hx => h x (by simp [hx])
    simp only [ix]
    rw [if_neg (by simp; omega), h2]
    rfl
theorem FV_kidsO {l : List Int} {H : Heap} {q : Nat} (hq : H[q]? = some (some (.row (l.map AV.i)))) : FV [] [q] H (.msl q 0 l.length l.length 1) (.d (ints l)) :=
  FV_tab (cs := l.map AV.i) (l.map intCs) (by unfold rowOf; rw [hq]) (intsA l).symm (by simp) cs1
theorem tabK_get3 (t : Tree) (n : Nat) (c : AV) (h : n < t.length) : (tabK t n c)[0 + n * 7 + 3]? = some c := by
  rw [show 0 + n * 7 + 3 = n * 7 + 3 by omega]
  unfold tabK
  exact List.getElem?_set_self (by rw [tabT_len]; omega)
theorem tabK_set (t : Tree) (n : Nat) (c d : AV) : splice (tabK t n c) (0 + n * 7 + 3) [d] = tabK t n d := by
  unfold tabK
  simp only [splice]
  rw [show 0 + n * 7 + 3 = n * 7 + 3 by omega, List.set_set]
theorem tabK_par {t : Tree} {a b : Int} (hb : isN t b = true) (c : AV) : (tabK t a.toNat c)[0 + b.toNat * 7 + 2]? = some (.i (nd t b).parent) := by
  obtain ⟨hl, hn⟩ := nd_get hb
  obtain ⟨_, en⟩ := List.getElem?_eq_some_iff.1 hn
  unfold tabK
  rw [show 0 + b.toNat * 7 + 2 = b.toNat * 7 + 2 by omega, List.getElem?_set_ne (by omega)]
  exact tabT_get t b.toNat 2 hl (.int .i64 (nd t b).parent) (by rw [en]; rfl) (by omega)
theorem tree_Insert (t : Tree) (a b : Int) (hs : SmallT t) (ho : insOk t a b = true) : Fn Tryz.prog 106 [.d (treeD t), aggD [.int .i64 a, .int .i64 b, .int .i64 (-1)]] (.tup [.d (treeD (putKid t a b)), .i 0]) := by
  unfold insOk at ho
  simp only [Bool.and_eq_true, decide_eq_true_eq, List.all_eq_true] at ho
  obtain ⟨⟨⟨⟨⟨⟨⟨⟨⟨hm, ha⟩, hb⟩, k1⟩, k2⟩, k3⟩, hcl⟩, hpar⟩, hab⟩, hkid⟩ := ho
  have hM := tree_may t
  rw [hm] at hM
  have hw := tree_wrong t a b hm ha hb k1 k2 k3 hcl
  obtain ⟨hla, hna⟩ := nd_get ha
  obtain ⟨hlb, hnb⟩ := nd_get hb
  have pa := nd_pos ha
  have pb := nd_pos hb
  have hk1000 := (hs.2 _ (nd_mem ha)).1
  have hix := kids_none hkid
  have hIx := index_int (nd t a).kids (-1)
  rw [hix] at hIx
  have hcp := fun {H : Heap} {K : AV → Heap → Prop} hK => copyK_call t a ha hs (H := H) (K := K) hK
  have ba : 0 ≤ a ∧ a < (t.length : Int) := ⟨pa, by omega⟩
  have bb : 0 ≤ b ∧ b < (t.length : Int) := ⟨pb, by omega⟩
  refine Fn_of tt_ok Tryz.func106 rfl (by decide) Tryz.ntmps106 rfl ?_
  by_cases hnil : (nd t a).kids = []
  · have ec : ∀ x, kiC (nd t a).kids x = .esl := fun x => by unfold kiC; rw [if_pos hnil]
    have eh : kiH (nd t a).kids = [] := by unfold kiH; rw [if_pos hnil]
    rw [eh] at hcp
    simp only [ec] at hcp
    have gp := tabK_par (a := a) hb .esl
    rw [hpar] at gp
    have g3 := tabK_get3 t a.toNat .esl hla
    have hpeek : ∀ (H : Heap) (K : AV → Heap → Prop), K (.i (-1)) H → Tri Tryz.prog 168 [.esl, .i (-1)] H K := fun H K hK =>
      Tri.peek hIx rfl [] rfl (fun i x y hx hy => by
        match i with
        | 0 => simp at hx hy; subst hx hy; rw [hnil]; exact .esl
        | 1 => simp at hx hy; subst hx hy; exact .same _ rfl
        | i + 2 => simp at hx) hK
    have hb1 : some (some (Blk.row (splice (splice (tabK t a.toNat .esl) (0 + a.toNat * 7 + 3) [.msl 3 0 1 1 1]) (0 + b.toNat * 7 + 2) [.i a]))) = some (some (.row (tabP t a b (.msl 3 0 ((nd t a).kids.length + 1) ((nd t a).kids.length + 1) 1)))) := by
      unfold tabP; rw [tabK_set, hnil]; rfl
    have hb2 : some (some (Blk.row ([b].map AV.i))) = some (some (.row (((nd t a).kids ++ [b]).map AV.i))) := by rw [hnil]; rfl
    repeat' ((conv => whnf); (first
     | (refine finD (F := [1, 3]) (FV_tup2 (FV_tabP ha hb hab (p := 1) (q := 3) hb1 hb2) (.same _ rfl)))
     | (refine Br_false (beqF (by omega : (-1 : Int) ≠ b)) ?_)
     | (refine W_float (id := 13) 2 0 3 tt_ok mixed (by kernel_rfl) ?_)
     | (refine And.intro (fun _ => rfl) ?_)
     | (refine Br_true (Nat.ble_eq_true_of_le (by rw [tabK_len]; simp; omega)) ?_)
     | (refine Br_true (Nat.ble_eq_true_of_le (by rw [splice_length, tabK_len]; simp; omega)) ?_)
     | (refine Br_true (decide_eq_true (by omega)) ?_)
     | (refine Fn.use (hM) rfl rfl ?_)
     | (refine Fn.use (hw) rfl rfl ?_)
     | (refine hcp ?_)
     | (refine Cell_in _ gp ?_)
     | (refine Cell_in _ g3 ?_)
     | (refine Tri_of tt_ok Tryz.func167 rfl (by decide) Tryz.ntmps167 rfl rfl ?_)
     | (refine finQ ?_)
     | (refine W_draw 2 tt_ok mixed (by kernel_rfl) ?_)
     | (refine CallH_in _ (Nat.le_refl _) (fun K' hK' => hpeek _ K' hK') ?_)
     | (refine CallH_in _ (Nat.le_of_ble_eq_true rfl) (fun K' hK' => ins_esl b _ _ _ K' hK') ?_)))
  · have ec : ∀ x, kiC (nd t a).kids x = .msl x 0 (nd t a).kids.length (nd t a).kids.length 1 := fun x => by unfold kiC; rw [if_neg hnil]
    have eh : kiH (nd t a).kids = [some (.row ((nd t a).kids.map AV.i))] := by unfold kiH; rw [if_neg hnil]
    rw [eh] at hcp
    simp only [ec] at hcp
    have gp := tabK_par (a := a) hb (.msl 2 0 (nd t a).kids.length (nd t a).kids.length 1)
    rw [hpar] at gp
    have g3 := tabK_get3 t a.toNat (.msl 2 0 (nd t a).kids.length (nd t a).kids.length 1) hla
    have hpeek : ∀ (H : Heap) (K : AV → Heap → Prop), H[2]? = some (some (.row ((nd t a).kids.map AV.i))) → K (.i (-1)) H → Tri Tryz.prog 168 [.msl 2 0 (nd t a).kids.length (nd t a).kids.length 1, .i (-1)] H K := fun H K hH hK =>
      Tri.peek hIx rfl [2] rfl (fun i x y hx hy => by
        match i with
        | 0 => simp at hx hy; subst hx hy; exact FV_kidsO hH
        | 1 => simp at hx hy; subst hx hy; exact .same _ rfl
        | i + 2 => simp at hx) hK
    have hb1 : some (some (Blk.row (splice (splice (tabK t a.toNat (.msl 2 0 (nd t a).kids.length (nd t a).kids.length 1)) (0 + a.toNat * 7 + 3) [.msl 4 0 ((nd t a).kids.length + 1) ((nd t a).kids.length + 1) 1]) (0 + b.toNat * 7 + 2) [.i a]))) = some (some (.row (tabP t a b (.msl 4 0 ((nd t a).kids.length + 1) ((nd t a).kids.length + 1) 1)))) := by
      unfold tabP; rw [tabK_set]
    repeat' ((conv => whnf); (first
     | (refine finD (F := [1, 4]) (FV_tup2 (FV_tabP ha hb hab (p := 1) (q := 4) hb1 rfl) (.same _ rfl)))
     | (refine Br_false (beqF (by omega : (-1 : Int) ≠ b)) ?_)
     | (refine W_float (id := 13) 2 0 3 tt_ok mixed (by kernel_rfl) ?_)
     | (refine And.intro (fun _ => rfl) ?_)
     | (refine Br_true (Nat.ble_eq_true_of_le (by rw [tabK_len]; simp; omega)) ?_)
     | (refine Br_true (Nat.ble_eq_true_of_le (by rw [splice_length, tabK_len]; simp; omega)) ?_)
     | (refine Br_true (decide_eq_true (by omega)) ?_)
     | (refine Len_in (fun hlen => ?_))
     | (refine Fn.use (hM) rfl rfl ?_)
     | (refine Fn.use (hw) rfl rfl ?_)
     | (refine hcp ?_)
     | (refine Cell_in _ gp ?_)
     | (refine Cell_in _ g3 ?_)
     | (refine Tri_of tt_ok Tryz.func167 rfl (by decide) Tryz.ntmps167 rfl rfl ?_)
     | (refine finQ ?_)
     | (refine W_draw 2 tt_ok mixed (by kernel_rfl) ?_)
     | (refine CallH_in _ (Nat.le_refl _) (fun K' hK' => hpeek _ K' rfl hK') ?_)
     | (refine CallH_in _ (Nat.le_of_ble_eq_true rfl) (fun K' hK' => ins_own (nd t a).kids b hnil hk1000 _ _ _ K' hK') ?_)))
end Go.Eng
set_option maxRecDepth 100000
set_option linter.unusedVariables false
set_option linter.unusedSimpArgs false
namespace Go.Eng
open Go Go.Proofs
def lev : Nat → PS → Hear → Option Ans
  | 0 => fun _ _ => none
  | n + 1 => callG (stepG (giveG (toG (fireG (lev n)))))
theorem lev_C : ∀ n, CallC (lev n)
  | 0 => by intro s h s' b1 b2 b3 hs; simp [lev] at hs
  | n + 1 => page_call _ (page_step _ (page_give _ (page_to _ (page_fire _ (lev_C n)))))
def giveN (n : Nat) : PS → Int → Option (PS × Int) := giveG (toG (fireG (lev n)))
theorem giveN_C (n : Nat) : GiveC (giveN n) := page_give _ (page_to _ (page_fire _ (lev_C n)))
theorem page_Rows (s : PS) (hl : s.rows.length ≤ 90000) : Tri Tryz.prog 19 [.ptr 0 0] (pgI s) fun v H => v = .d (.sl (rowsP s)) ∧ H = pgI s := by
  refine Tri_of (m := 3) tt_ok Tryz.func19 rfl (by decide) Tryz.ntmps19 (by rfl) rfl ?_
  have hrl : (rowsP s).length ≤ 90000 := by simpa using hl
  by_cases h0 : rowsP s = []
  · have e1 : AccV 1 8 (rowsP s) = .nsl := by rw [h0, AccV_nil]
    repeat' ((conv => whnf); (first
     | (refine Tri_of tt_ok Tryz.func51 rfl (by decide) Tryz.ntmps51 rfl rfl ?_)
     | (refine force_in ?_)))
    rw [e1]
    repeat' ((conv => whnf); (first
     | (refine finPI [] rfl rfl rfl rfl (by rw [h0]; exact .nsl))
     | (refine finQ ?_)))
  · have e1 : AccV 1 8 (rowsP s) = .msl 1 0 (rowsP s).length (rowsP s).length 8 := AccV_cons h0
    have e2 : AccB (rowsP s) = some (.row ((rowsP s).flatten.map .d)) := AccB_cons h0
    have hfv : ∀ H : Heap, H[3]? = some (some (.row ((rowsP s).flatten.map .d))) → FV [0, 1, 2] [3] H (.msl 3 0 (rowsP s).length (rowsP s).length 8) (.d (.sl (rowsP s))) := fun H hH =>
      .frz 3 0 _ _ 8 ((rowsP s).flatten.map .d) (rowsP s) (by simp) (by unfold rowOf; rw [hH]) rfl cs8p (by have e := flatten_len (rowsP s) cs8p; have e2 : ((rowsP s).flatten.map AV.d).length = (rowsP s).flatten.length := List.length_map _; show 0 + (rowsP s).length * 8 ≤ _; omega) fun i x y hi hx hy => by
        rw [Nat.zero_add, List.getElem?_map, hy] at hx
        simp at hx
        subst hx
        exact .same _ rfl
    repeat' ((conv => whnf); (first
     | (refine Tri_of tt_ok Tryz.func51 rfl (by decide) Tryz.ntmps51 rfl rfl ?_)
     | (refine force_in ?_)))
    rw [e1]
    skip
    refine Ch_r ?_
    skip
    refine App_esl (rowsP s) rfl ?_ h0 cs8p (by omega) (Nat.le_of_ble_eq_true rfl) ?_
    · have hfl : ((rowsP s).flatten.map AV.d).length = (rowsP s).length * 8 := by rw [List.length_map, flatten_len (rowsP s) cs8p]
      refine (newCells_msl (cs := (rowsP s).flatten.map .d) (congrArg some e2) (by rw [hfl]; show 0 + (rowsP s).length * 8 ≤ (rowsP s).length * 8; omega)).trans ?_
      congr 1
      unfold sub
      rw [List.drop_zero]
      exact List.take_of_length_le (by rw [hfl]; exact Nat.le_refl _)
    repeat' ((conv => whnf); (first
     | (refine finPI [3] rfl rfl rfl rfl (hfv _ rfl))
     | (refine finQ ?_)))
theorem op_make (s : PS) (d a b c : Int) (fl : Bool) (p : List Step) (hs : SmallT s.tree) : Tri Tryz.prog 98 [.ptr 0 0, aggD (opC d a b c fl p)] (pgI s) fun v H =>
    v = .tup [.i (madeR s (makeR s.tree a b).1 (makeR s.tree a b).2.1 (makeR s.tree a b).2.2).2.1, .i (madeR s (makeR s.tree a b).1 (makeR s.tree a b).2.1 (makeR s.tree a b).2.2).2.2] ∧ H = pgO (madeR s (makeR s.tree a b).1 (makeR s.tree a b).2.1 (makeR s.tree a b).2.2).1 := by
  refine Tri_of (m := 3) tt_ok Tryz.func98 rfl (by decide) Tryz.ntmps98 (by rfl) rfl ?_
  have h1 := tree_Make s.tree a b hs
  generalize makeR s.tree a b = q at *
  have h2 := page_made s q.1 q.2.1 q.2.2
  have hr : (madeR s q.1 q.2.1 q.2.2).1.rows = s.rows := by unfold madeR; split <;> (try split) <;> rfl
  generalize madeR s q.1 q.2.1 q.2.2 = r at *
  have hA : AccB (rowsP s) = AccB (rowsP r.1) := by unfold rowsP; rw [hr]
  repeat' ((conv => whnf); (first
   | (refine finPO 1 [] (by decide) (by decide) rfl (congrArg some hA) rfl rfl (FV_tups ⟨.same _ rfl, .same _ rfl, trivial⟩))
   | (refine W_draw (100 + 4) tt_ok mixed (by kernel_rfl) ?_)
   | (refine CallF_in h1 rfl rfl ?_)
   | (refine CallH_in [some (.row (pgC r.1 1 2)), AccB (rowsP s), some (.mp [] []), some (.row ((opC d a b c fl p).map .d))] (Nat.le_of_ble_eq_true rfl) (fun K' hK' => Tri.pgS 0 1 2 h2 hr rfl rfl rfl (by decide) (by decide) (by decide) rfl rfl rfl hK') ?_)))
theorem op_insert (s : PS) (d a b : Int) (fl : Bool) (p : List Step) (hs : SmallT s.tree) (ho : insOk s.tree a b = true) (hm : mayB (putKid s.tree a b) = true) (hs2 : SmallT (putKid s.tree a b)) :
    Tri Tryz.prog 104 [.ptr 0 0, aggD (opC d a b (-1) fl p)] (pgI s) fun v H => v = .i 0 ∧ H = pgO { s with tree := putKid s.tree a b } := by
  refine Tri_of (m := 3) tt_ok Tryz.func104 rfl (by decide) Tryz.ntmps104 (by rfl) rfl ?_
  have h1 := tree_Insert s.tree a b hs ho
  have h2 := page_turn s (putKid s.tree a b) 0 (fun _ => hm) (fun _ => hs2)
  have e : turnR s (putKid s.tree a b) 0 = ({ s with tree := putKid s.tree a b }, 0) := rfl
  rw [e] at h2
  generalize putKid s.tree a b = t2 at *
  repeat' ((conv => whnf); (first
   | (refine finPO (s := { s with tree := t2 }) 1 [] (by decide) (by decide) rfl rfl rfl rfl (.same _ rfl))
   | (refine W_draw (106 + 4) tt_ok mixed (by kernel_rfl) ?_)
   | (refine CallF_in h1 rfl rfl ?_)
   | (refine CallH_in [some (.row (pgC { s with tree := t2 } 1 2)), AccB (rowsP s), some (.mp [] []), some (.row ((opC d a b (-1) fl p).map .d))] (Nat.le_of_ble_eq_true rfl) (fun K' hK' => Tri.pgS 0 1 2 h2 rfl rfl rfl rfl (by decide) (by decide) (by decide) rfl rfl rfl hK') ?_)))
theorem op_prog (s : PS) (d a b c : Int) (fl : Bool) (p : List Step) (hp : s.progs = []) : Tri Tryz.prog 113 [.ptr 0 0, aggD (opC d a b c fl p)] (pgI s) fun v H =>
    v = .tup [.i (progR s p).2.1, .i (progR s p).2.2] ∧ H = pgO (progR s p).1 := by
  refine Tri_of (m := 3) tt_ok Tryz.func113 rfl (by decide) Tryz.ntmps113 (by rfl) rfl ?_
  have h2 := page_program s p hp
  have hr : (progR s p).1.rows = s.rows := by unfold progR; split <;> rfl
  generalize progR s p = r at *
  have hA : AccB (rowsP s) = AccB (rowsP r.1) := by unfold rowsP; rw [hr]
  repeat' ((conv => whnf); (first
   | (refine finPO 1 [] (by decide) (by decide) rfl (congrArg some hA) rfl rfl (FV_tups ⟨.same _ rfl, .same _ rfl, trivial⟩))
   | (refine Tri.pgS 0 1 2 h2 hr rfl rfl rfl (by decide) (by decide) (by decide) rfl rfl rfl ?_)))
theorem op_hear (s : PS) (d a b c : Int) (fl : Bool) (p : List Step) (hl : s.hears.length ≤ 1000) (hp : s.progs.length ≤ 64) : Tri Tryz.prog 115 [.ptr 0 0, aggD (opC d a b c fl p)] (pgI s) fun v H =>
    v = .i (hearR s a b c fl).2 ∧ H = pgO (hearR s a b c fl).1 := by
  refine Tri_of (m := 3) tt_ok Tryz.func115 rfl (by decide) Tryz.ntmps115 (by rfl) rfl ?_
  have h2 := page_hear s d a b c fl p hl hp
  have hr : (hearR s a b c fl).1.rows = s.rows := by unfold hearR; split <;> (try split) <;> rfl
  generalize hearR s a b c fl = r at *
  have hA : AccB (rowsP s) = AccB (rowsP r.1) := by unfold rowsP; rw [hr]
  repeat' ((conv => whnf); (first
   | (refine finPO 1 [] (by decide) (by decide) rfl (congrArg some hA) rfl rfl (.same _ rfl))
   | (refine Tri.pgS 0 1 2 h2 hr rfl rfl rfl (by decide) (by decide) (by decide) rfl rfl rfl ?_)))
theorem op_give (n : Nat) (s s' : PS) (d a b c e : Int) (fl : Bool) (p : List Step) (hg : giveN n s a = some (s', e)) : Tri Tryz.prog 121 [.ptr 0 0, aggD (opC d a b c fl p)] (pgI s) fun v H => v = .i e ∧ H = pgO s' := by
  refine Tri_of (m := 3) tt_ok Tryz.func121 rfl (by decide) Tryz.ntmps121 (by rfl) rfl ?_
  have h2 := giveN_C n _ _ _ _ hg
  repeat' ((conv => whnf); (first
   | (refine finPO 4 [] (by decide) (by decide) rfl rfl rfl rfl (.same _ rfl))
   | (refine Tri.pg 0 1 2 4 rfl h2 rfl rfl rfl (by decide) (by decide) (by decide) rfl rfl rfl ?_)))
end Go.Eng
set_option maxRecDepth 100000
set_option linter.unusedVariables false
set_option linter.unusedSimpArgs false
namespace Go.Eng
open Go Go.Proofs
def opsH : Heap := [some (.mp [0, 1, 2, 3, 4, 5, 6, 7, 8, 9, 10, 11, 12, 13, 14, 15, 16, 17, 18, 19, 20, 21] [.d (.fn 98), .d (.fn 101), .clos (.func 163) [] [.ptr 5 0], .clos (.func 163) [] [.ptr 6 0], .clos (.func 163) [] [.ptr 7 0], .clos (.func 163) [] [.ptr 8 0], .d (.fn 113), .clos (.func 163) [] [.ptr 9 0], .clos (.func 163) [] [.ptr 10 0], .clos (.func 163) [] [.ptr 11 0], .clos (.func 163) [] [.ptr 12 0], .clos (.func 163) [] [.ptr 13 0], .clos (.func 163) [] [.ptr 14 0], .d (.fn 127), .clos (.func 163) [] [.ptr 15 0], .clos (.func 163) [] [.ptr 16 0], .clos (.func 163) [] [.ptr 17 0], .clos (.func 163) [] [.ptr 18 0], .clos (.func 163) [] [.ptr 19 0], .clos (.func 163) [] [.ptr 20 0], .d (.fn 141), .clos (.func 163) [] [.ptr 21 0]]), some (.row [.d (.fn 104)]), some (.row [.d (.fn 107)]), some (.row [.d (.fn 109)]), some (.row [.d (.fn 111)]), some (.row [.d (.fn 115)]), some (.row [.d (.fn 118)]), some (.row [.d (.fn 120)]), some (.row [.d (.fn 121)]), some (.row [.d (.fn 123)]), some (.row [.d (.fn 125)]), some (.row [.d (.fn 129)]), some (.row [.d (.fn 131)]), some (.row [.d (.fn 133)]), some (.row [.d (.fn 135)]), some (.row [.d (.fn 137)]), some (.row [.d (.fn 139)]), some (.row [.d (.fn 143)])]
set_option maxHeartbeats 1000000 in
theorem ops_run (A B C D : Option Blk) (K : AV → Heap → Prop) (hK : K (.mp 4) ([A, B, C, D] ++ opsH)) : Tri Tryz.prog 73 [] [A, B, C, D] K := by
  refine Tri_of (m := 4) tt_ok Tryz.func73 rfl (by decide) Tryz.ntmps73 (by rfl) rfl ?_
  repeat' ((conv => whnf); (first
   | (refine Tri_of tt_ok Tryz.func103 rfl (by decide) Tryz.ntmps103 rfl rfl ?_)
   | (refine finQ ?_)))
  refine Eq.mp (?_ : K (.mp 4) ([A, B, C, D] ++ opsH) = _) hK
  kernel_rfl
def smB (t : Tree) : Bool := Nat.ble t.length 1000 && t.all fun x => Nat.ble x.kids.length 1000 && Nat.ble x.attrs.length 1000
theorem smB_of {t : Tree} (h : smB t = true) : SmallT t := by
  unfold smB at h
  simp only [Bool.and_eq_true, List.all_eq_true] at h
  exact ⟨Nat.le_of_ble_eq_true h.1, fun x hx => ⟨Nat.le_of_ble_eq_true (h.2 x hx).1, Nat.le_of_ble_eq_true (h.2 x hx).2⟩⟩
def opG (n : Nat) (s : PS) (d a b c : Int) (fl : Bool) (p : List Step) : Option (PS × Int × Int) :=
  if d = 0 then (if smB s.tree then some (madeR s (makeR s.tree a b).1 (makeR s.tree a b).2.1 (makeR s.tree a b).2.2) else none)
  else if d = 2 then (if decide (c = -1) && smB s.tree && insOk s.tree a b && mayB (putKid s.tree a b) && smB (putKid s.tree a b) then some ({ s with tree := putKid s.tree a b }, 0, 0) else none)
  else if d = 6 then (if s.progs.isEmpty then some (progR s p) else none)
  else if d = 7 then (if Nat.ble s.hears.length 1000 && Nat.ble s.progs.length 64 then some ((hearR s a b c fl).1, 0, (hearR s a b c fl).2) else none)
  else if d = 10 then (giveN n s a).map fun r => (r.1, 0, r.2)
  else if 0 ≤ d ∧ d ≤ 21 then none else some (s, 0, 12)
def resRow (s : PS) (d k e : Int) : PRow := ⟨3, 0, d, k, s.focus, 0, 0, e⟩
def doG (n : Nat) (s : PS) (d a b c : Int) (fl : Bool) (p : List Step) : Option (PS × Int × Int) :=
  match opG n { s with fuel := s.fuelM } d a b c fl p with
  | none => none
  | some (s', k, e) => if Nat.ble s'.rows.length 900000 then some (addRow s' (resRow s' d k e), k, e) else none
theorem lkV_none : ∀ (ks : List Int) (vs : List AV) (d : Int), (∀ k ∈ ks, d ≠ k) → lkV ks vs d = none
  | [], _, _, _ => rfl
  | _ :: _, [], _, _ => rfl
  | k :: t, x :: xs, d, h => by
    simp only [lkV, decide_eq_false (h k (by simp))]
    exact lkV_none t xs d fun k hk => h k (by simp [hk])
theorem ops_no (d : Int) (h : ¬ (0 ≤ d ∧ d ≤ 21)) (vs : List AV) (hv : vs.length = 22) : lkV [0, 1, 2, 3, 4, 5, 6, 7, 8, 9, 10, 11, 12, 13, 14, 15, 16, 17, 18, 19, 20, 21] vs d = none :=
  lkV_none _ _ _ fun k hk e => by
    subst e
    simp only [List.mem_cons, List.not_mem_nil, or_false] at hk
    omega
set_option maxHeartbeats 1000000 in
theorem page_Do (n : Nat) (s s' : PS) (d a b c k e : Int) (fl : Bool) (p : List Step) (hd : doG n s d a b c fl p = some (s', k, e)) :
    Tri Tryz.prog 52 [.ptr 0 0, aggD (opC d a b c fl p)] (pgI s) fun v H => v = .tup [.i k, .i e] ∧ H = pgO s' := by
  unfold doG at hd
  cases ho : opG n { s with fuel := s.fuelM } d a b c fl p with
  | none => rw [ho] at hd; simp at hd
  | some q =>
  obtain ⟨s1, k1, e1⟩ := q
  rw [ho] at hd
  simp only at hd
  split at hd
  rotate_left
  · simp at hd
  rename_i hrb
  have hrb := Nat.le_of_ble_eq_true hrb
  simp only [Option.some.injEq, Prod.mk.injEq] at hd
  obtain ⟨rfl, rfl, rfl⟩ := hd
  have hlim : (rowsP s1).length + [(resRow s1 d k1 e1).cs].length ≤ 1000000 := by simp only [rowsP, List.length_map, List.length_cons, List.length_nil]; omega
  have hops := fun (A B C D : Option Blk) (K : AV → Heap → Prop) hK => ops_run A B C D K hK
  unfold opG at ho
  refine Tri_of (m := 3) tt_ok Tryz.func52 rfl (by decide) Tryz.ntmps52 (by rfl) rfl ?_
  split at ho
  · rename_i hd0
    subst hd0
    split at ho
    rotate_left
    · simp at ho
    rename_i hsm
    injection ho with ho
    have h1 := op_make { s with fuel := s.fuelM } 0 a b c fl p (smB_of hsm)
    rw [ho] at h1
    repeat' ((conv => whnf); (first
     | (refine finPO 23 [] (by decide) (by decide) (congrArg (fun x => some (some (Blk.row x))) (pgC_add s1 (resRow s1 _ k1 e1) 22 23 2)) (by rw [accB_add]; rfl) rfl rfl (FV_tups ⟨.same _ rfl, .same _ rfl, trivial⟩))
     | (refine App_acc (rowsP s1) [(resRow s1 _ k1 e1).cs] rfl rfl rfl rfl (by simp) cs8p (by intro r hr; simp at hr; subst hr; rfl) hlim (Nat.le_of_ble_eq_true rfl) ?_)
     | (refine W_draw 1 tt_ok mixed (by kernel_rfl) ?_)
     | (refine CallP_in opsH (fun K' hK' => hops _ _ _ _ K' hK') ?_)
     | (refine Lk_some _ rfl ?_)
     | (refine Tri.pg 0 1 2 22 rfl h1 rfl rfl rfl (by decide) (by decide) (by decide) rfl rfl rfl ?_)
     | (refine force_in ?_)))
  split at ho
  · rename_i hd2
    subst hd2
    split at ho
    rotate_left
    · simp at ho
    rename_i hsm
    simp only [Bool.and_eq_true, decide_eq_true_eq] at hsm
    obtain ⟨⟨⟨⟨rfl, q1⟩, q2⟩, q3⟩, q4⟩ := hsm
    injection ho with ho
    have h1 := op_insert { s with fuel := s.fuelM } 2 a b fl p (smB_of q1) q2 q3 (smB_of q4)
    simp only [Prod.mk.injEq] at ho
    obtain ⟨rfl, rfl, rfl⟩ := ho
    generalize putKid s.tree a b = t2 at *
    repeat' ((conv => whnf); (first
     | (refine finPO 24 [] (by decide) (by decide) (congrArg (fun x => some (some (Blk.row x))) (pgC_add { s with fuel := s.fuelM, tree := t2 } (resRow { s with fuel := s.fuelM, tree := t2 } _ 0 0) 23 24 2)) (by rw [accB_add]; rfl) rfl rfl (FV_tups ⟨.same _ rfl, .same _ rfl, trivial⟩))
     | (refine App_acc (rowsP { s with fuel := s.fuelM, tree := t2 }) [(resRow { s with fuel := s.fuelM, tree := t2 } _ 0 0).cs] rfl rfl rfl rfl (by simp) cs8p (by intro r hr; simp at hr; subst hr; rfl) hlim (Nat.le_of_ble_eq_true rfl) ?_)
     | (refine W_draw 1 tt_ok mixed (by kernel_rfl) ?_)
     | (refine CallP_in opsH (fun K' hK' => hops _ _ _ _ K' hK') ?_)
     | (refine Lk_some _ rfl ?_)
     | (refine Tri_of tt_ok Tryz.func163 rfl (by decide) Tryz.ntmps163 rfl rfl ?_)
     | (refine Tri.pg 0 1 2 23 rfl h1 rfl rfl rfl (by decide) (by decide) (by decide) rfl rfl rfl ?_)
     | (refine finQ ?_)
     | (refine force_in ?_)))
  split at ho
  · rename_i hd6
    subst hd6
    split at ho
    rotate_left
    · simp at ho
    rename_i hsm
    injection ho with ho
    have h1 := op_prog { s with fuel := s.fuelM } 6 a b c fl p (List.isEmpty_iff.1 hsm)
    rw [ho] at h1
    repeat' ((conv => whnf); (first
     | (refine finPO 23 [] (by decide) (by decide) (congrArg (fun x => some (some (Blk.row x))) (pgC_add s1 (resRow s1 _ k1 e1) 22 23 2)) (by rw [accB_add]; rfl) rfl rfl (FV_tups ⟨.same _ rfl, .same _ rfl, trivial⟩))
     | (refine App_acc (rowsP s1) [(resRow s1 _ k1 e1).cs] rfl rfl rfl rfl (by simp) cs8p (by intro r hr; simp at hr; subst hr; rfl) hlim (Nat.le_of_ble_eq_true rfl) ?_)
     | (refine W_draw 1 tt_ok mixed (by kernel_rfl) ?_)
     | (refine CallP_in opsH (fun K' hK' => hops _ _ _ _ K' hK') ?_)
     | (refine Lk_some _ rfl ?_)
     | (refine Tri.pg 0 1 2 22 rfl h1 rfl rfl rfl (by decide) (by decide) (by decide) rfl rfl rfl ?_)
     | (refine force_in ?_)))
  split at ho
  · rename_i hd7
    subst hd7
    split at ho
    rotate_left
    · simp at ho
    rename_i hsm
    simp only [Bool.and_eq_true] at hsm
    injection ho with ho
    have h1 := op_hear { s with fuel := s.fuelM } 7 a b c fl p (Nat.le_of_ble_eq_true hsm.1) (Nat.le_of_ble_eq_true hsm.2)
    simp only [Prod.mk.injEq] at ho
    obtain ⟨z1, rfl, z3⟩ := ho
    rw [z1, z3] at h1
    repeat' ((conv => whnf); (first
     | (refine finPO 24 [] (by decide) (by decide) (congrArg (fun x => some (some (Blk.row x))) (pgC_add s1 (resRow s1 _ 0 e1) 23 24 2)) (by rw [accB_add]; rfl) rfl rfl (FV_tups ⟨.same _ rfl, .same _ rfl, trivial⟩))
     | (refine App_acc (rowsP s1) [(resRow s1 _ 0 e1).cs] rfl rfl rfl rfl (by simp) cs8p (by intro r hr; simp at hr; subst hr; rfl) hlim (Nat.le_of_ble_eq_true rfl) ?_)
     | (refine W_draw 1 tt_ok mixed (by kernel_rfl) ?_)
     | (refine CallP_in opsH (fun K' hK' => hops _ _ _ _ K' hK') ?_)
     | (refine Lk_some _ rfl ?_)
     | (refine Tri_of tt_ok Tryz.func163 rfl (by decide) Tryz.ntmps163 rfl rfl ?_)
     | (refine Tri.pg 0 1 2 23 rfl h1 rfl rfl rfl (by decide) (by decide) (by decide) rfl rfl rfl ?_)
     | (refine finQ ?_)
     | (refine force_in ?_)))
  split at ho
  · rename_i hd10
    subst hd10
    cases hg : giveN n { s with fuel := s.fuelM } a with
    | none => rw [hg] at ho; simp at ho
    | some q =>
    obtain ⟨z1, z2⟩ := q
    rw [hg] at ho
    simp only [Option.map_some, Option.some.injEq, Prod.mk.injEq] at ho
    obtain ⟨rfl, rfl, rfl⟩ := ho
    have h1 := op_give n _ _ 10 a b c _ fl p hg
    repeat' ((conv => whnf); (first
     | (refine finPO 24 [] (by decide) (by decide) (congrArg (fun x => some (some (Blk.row x))) (pgC_add z1 (resRow z1 _ 0 z2) 23 24 2)) (by rw [accB_add]; rfl) rfl rfl (FV_tups ⟨.same _ rfl, .same _ rfl, trivial⟩))
     | (refine App_acc (rowsP z1) [(resRow z1 _ 0 z2).cs] rfl rfl rfl rfl (by simp) cs8p (by intro r hr; simp at hr; subst hr; rfl) hlim (Nat.le_of_ble_eq_true rfl) ?_)
     | (refine W_draw 1 tt_ok mixed (by kernel_rfl) ?_)
     | (refine CallP_in opsH (fun K' hK' => hops _ _ _ _ K' hK') ?_)
     | (refine Lk_some _ rfl ?_)
     | (refine Tri_of tt_ok Tryz.func163 rfl (by decide) Tryz.ntmps163 rfl rfl ?_)
     | (refine Tri.pg 0 1 2 23 rfl h1 rfl rfl rfl (by decide) (by decide) (by decide) rfl rfl rfl ?_)
     | (refine finQ ?_)
     | (refine force_in ?_)))
  split at ho
  · simp at ho
  rename_i hno
  simp only [Option.some.injEq, Prod.mk.injEq] at ho
  obtain ⟨rfl, rfl, rfl⟩ := ho
  have hlk := ops_no d hno
  repeat' ((conv => whnf); (first
   | (refine finPO 22 [] (by decide) (by decide) (congrArg (fun x => some (some (Blk.row x))) (pgC_add { s with fuel := s.fuelM } (resRow { s with fuel := s.fuelM } _ 0 12) 1 22 2)) (by rw [accB_add]; rfl) rfl rfl (FV_tups ⟨.same _ rfl, .same _ rfl, trivial⟩))
   | (refine App_acc (rowsP { s with fuel := s.fuelM }) [(resRow { s with fuel := s.fuelM } _ 0 12).cs] rfl rfl rfl rfl (by simp) cs8p (by intro r hr; simp at hr; subst hr; rfl) hlim (Nat.le_of_ble_eq_true rfl) ?_)
   | (refine W_draw 1 tt_ok mixed (by kernel_rfl) ?_)
   | (refine CallP_in opsH (fun K' hK' => hops _ _ _ _ K' hK') ?_)
   | (refine Lk_none (hlk _ rfl) ?_)
   | (refine force_in ?_)))
end Go.Eng
set_option maxRecDepth 100000
set_option linter.unusedVariables false
set_option linter.unusedSimpArgs false
namespace Go.Eng
open Go Go.Proofs
structure OpR where
  d : Int
  a : Int
  b : Int
  c : Int
  fl : Bool
  p : List Step
def OpR.cs (o : OpR) : List D := opC o.d o.a o.b o.c o.fl o.p
structure OutR where
  num : Int
  err : Int
  foc : Int
  acts : List (Int × Int)
def OutR.cs (x : OutR) : List D := [.int .i64 x.num, .int .i64 x.err, .int .i64 x.foc, .sl (x.acts.map actCs)]
abbrev outA (x : OutR) : AV := .agg (x.cs.map .d)
theorem cs4o {l : List OutR} : ∀ r ∈ l.map OutR.cs, r.length = 4 := by intro r hr; obtain ⟨x, _, rfl⟩ := List.mem_map.1 hr; rfl
def outG (n : Nat) (s : PS) (o : OpR) : Option (PS × OutR) :=
  match doG n s o.d o.a o.b o.c o.fl o.p with
  | none => none
  | some (s', k, e) => if smB s'.tree && !s'.tree.isEmpty then some (s', ⟨k, e, s'.focus, actsR s'.tree s'.focus⟩) else none
def outsG (n : Nat) : PS → List OpR → Option (PS × List OutR)
  | s, [] => some (s, [])
  | s, o :: r => match outG n s o with
    | none => none
    | some (s1, x) => match outsG n s1 r with
      | none => none
      | some (s2, l) => some (s2, x :: l)
abbrev opsD (l : List OpR) : D := .sl (l.map OpR.cs)
def outH (s : PS) (l : List OpR) : Heap := [some (.row (pgC s 1 2)), AccB (rowsP s), some (.mp [] []), some (.row [.ptr 0 0]), some (.row [.d (opsD l)]), some (.row [.clos (.func 95) [] [.ptr 3 0]])]
def outW (s : PS) (l : List OpR) (y : Option Blk) : Heap := [some (.row (pgC s 7 2)), none, some (.mp [] []), some (.row [.ptr 0 0]), some (.row [.d (opsD l)]), some (.row [.clos (.func 95) [] [.ptr 3 0]]), y, AccB (rowsP s)]
theorem FV_clos1 {g F : List Nat} {H : Heap} {fn : Go.Fn} {a b : Nat} (h : g[b]? = some a) : FV g F H (.clos fn [] [.ptr a 0]) (.clos fn [] [.ptr b 0]) :=
  .clos fn [] [.ptr a 0] [] [.ptr b 0] rfl rfl (fun i x y hx => by simp at hx) (fun i x y hx hy => by
    match i with
    | 0 => simp at hx hy; subst hx hy; exact .ptr _ _ _ h
    | i + 1 => simp at hx)
theorem noYx_accB {g : List Nat} {j : Nat} {rows : List (List D)} : noYx g [AccB rows] j = true := by
  by_cases h : rows = []
  · rw [h, AccB_nil]; rfl
  · rw [AccB_cons h]; rfl
theorem noY_outW (s : PS) (l : List OpR) : noY (outW s l none) = true := by
  show noY [AccB (rowsP s)] = true
  exact noY_accB rfl
def outF (s : PS) (l : List OpR) (Y : Ysp) (j : Nat) (c : List D) (z : List AV) : Heap := [some (.row (pgC s 11 2)), none, some (.mp [] []), some (.row [.ptr 0 0]), some (.row [.d (opsD l)]), some (.row [.clos (.func 95) [] [.ptr 3 0]]), some (.yl Y j), none, some (.row (c.map .d)), some (.row (c.map .d)), some (.row z), AccB (rowsP s)]
theorem run_outs2 (n : Nat) (l : List OpR) (s s' : PS) (xs : List OutR) (hg : outsG n s l = some (s', xs)) (Y : Ysp) (hx : Y.xs = xs.map outA) (hY : YLaw Tryz.prog Y) :
    Tri Tryz.prog 96 ([] ++ [.clos (.yield Y.l) [] []] ++ [.ptr 4 0, .ptr 5 0]) (outH s l ++ [some (.yl Y 0)]) fun v H1 => noY (H1.set 6 none) = true ∧
      ((H1[6]? = some (some (.yl Y (xs.map outA).length)) ∧ (true = true → H1.set 6 none = outW s' l none)) ∨ (H1[6]? = some (some (.yz Y)) ∧ (false = true → H1.set 6 none = outW s' l none))) := by
  refine Tri_of (m := 7) tt_ok Tryz.func96 rfl (by decide) Tryz.ntmps96 (by rfl) rfl ?_
  have hkl : (l.map OpR.cs).length = l.length := by simp
  repeat' ((conv => whnf); (first
   | (refine Len_in (fun hlen => ?_))))
  refine W_loop (fun μ st => ∃ (j : Nat) (sj : PS) (dn rest : List OutR), j ≤ l.length ∧ μ = l.length - j ∧ outsG n sj (l.drop j) = some (s', rest) ∧ dn ++ rest = xs ∧ dn.length = j ∧
      st = ⟨[(0, .clos (.yield Y.l) [] []), (1, .ptr 4 0), (2, .ptr 5 0), (6, .d (opsD l)), (7, .i (List.map OpR.cs l).length), (8, .i j)], 19, outW sj l (some (.yl Y j)), 7, []⟩) l.length ⟨_, ?_, 0, s, [], xs, by omega, by omega, by rw [List.drop_zero]; exact hg, rfl, rfl, rfl⟩ ?_
  · refine Wk_H (outH s l ++ [some (.yl Y 0)]) (by kernel_rfl) ?_
    refine Wk_fzI [0, 1, 2, 3, 4, 5, 6, 1] [0, 8, 2, 3, 4, 5, 6, 1] [] ?_ ?_ ?_ ?_ ?_ ?_ ?_ ?_ ?_
    all_goals first
      | exact ⟨.inr rfl, .inl rfl, .inr rfl, .inr rfl, .inr rfl, .inr rfl, .inr rfl, .inr rfl, trivial⟩
      | exact ⟨⟨_, rfl, FB_pg rfl rfl⟩, ⟨_, rfl, .mp _ _ _ rfl fun i x y h => by simp at h⟩, ⟨_, rfl, FB_rows ⟨.ptr _ _ _ rfl, trivial⟩⟩, ⟨_, rfl, FB_rows ⟨.same _ rfl, trivial⟩⟩, ⟨_, rfl, FB_rows ⟨FV_clos1 rfl, trivial⟩⟩, ⟨_, rfl, .yl _ _⟩, HFz_acc rfl trivial⟩
      | exact ⟨.same _ rfl, .ptr _ _ _ rfl, .ptr _ _ _ rfl, .same _ rfl, .same _ rfl, .same _ rfl, trivial⟩
      | (show 7 ≤ 8; decide)
      | (intro i hi; match i, hi with | 0, _ => rfl | 1, _ => rfl | 2, _ => rfl | 3, _ => rfl | 4, _ => rfl | 5, _ => rfl | 6, _ => rfl)
      | rfl
  rintro μ s1 ⟨j, sj, dn, rest, hj, rfl, hG, hX, hD, rfl⟩
  refine W_run tt_ok ?_
  by_cases hlt : j < l.length
  · have hidx : (l.map OpR.cs)[(j : Int).toNat]? = some (l[j]).cs := by simp [hlt]
    rw [List.drop_eq_getElem_cons hlt] at hG
    generalize l[j] = o at *
    simp only [outsG] at hG
    cases hO : outG n sj o with
    | none => rw [hO] at hG; simp at hG
    | some q =>
    obtain ⟨s2, x⟩ := q
    rw [hO] at hG
    simp only at hG
    cases hR : outsG n s2 (l.drop (j + 1)) with
    | none => rw [hR] at hG; simp at hG
    | some q =>
    obtain ⟨s3, r⟩ := q
    rw [hR] at hG
    simp only [Option.some.injEq, Prod.mk.injEq] at hG
    obtain ⟨rfl, rfl⟩ := hG
    obtain ⟨od, oa, ob, oc, ofl, op⟩ := o
    unfold outG at hO
    dsimp only at hO
    cases hd : doG n sj od oa ob oc ofl op with
    | none => rw [hd] at hO; simp at hO
    | some q =>
    obtain ⟨s4, k, e⟩ := q
    rw [hd] at hO
    simp only at hO
    split at hO
    rotate_left
    · simp at hO
    rename_i hsm
    simp only [Option.some.injEq, Prod.mk.injEq] at hO
    obtain ⟨rfl, rfl⟩ := hO
    simp only [Bool.and_eq_true] at hsm
    have hne : s4.tree ≠ [] := by intro h; rw [h] at hsm; simp at hsm
    have h1 := page_Do n sj s4 od oa ob oc k e ofl op hd
    have h2 := page_Focus s4
    have h3 := page_View s4 hne (smB_of hsm.1)
    have h4 := run_Actives s4.tree s4.focus
    have hxk : Y.xs[j]? = some (outA ⟨k, e, s4.focus, actsR s4.tree s4.focus⟩) := by
      rw [hx, ← hX, List.getElem?_map, List.getElem?_append_right (by omega), hD, Nat.sub_self]
      rfl
    have hX2 : (dn ++ [⟨k, e, s4.focus, actsR s4.tree s4.focus⟩]) ++ r = xs := by rw [List.append_assoc]; exact hX
    have hD2 : (dn ++ [(⟨k, e, s4.focus, actsR s4.tree s4.focus⟩ : OutR)]).length = j + 1 := by rw [List.length_append, hD]; rfl
    generalize actsR s4.tree s4.focus = ac at *
    generalize s4.focus = fo at *
    repeat' ((conv => whnf); (first
     | (refine W_float (36 + 4) 3 29 tt_ok mixed (by kernel_rfl) ?_)
     | (refine And.intro (fun _ => rfl) ?_)
     | (refine Br_true (decide_eq_true (by omega)) ?_)
     | (refine Idx_in _ hidx (by omega) rfl ?_)
     | (refine Tri_of tt_ok Tryz.func95 rfl (by decide) Tryz.ntmps95 rfl rfl ?_)
     | (refine Tri.pg 0 7 2 11 rfl h1 rfl rfl rfl (by decide) (by decide) (by decide) rfl rfl rfl ?_)
     | (refine CallH_in (outF s4 l Y j (opC od oa ob oc ofl op) [.i 0, .i 0, .i 0, .nsl]) (Nat.le_of_ble_eq_true rfl) (fun K' hK' => Tri.pgS 0 11 2 h2 rfl rfl rfl rfl (by decide) (by decide) (by decide) rfl rfl rfl hK') ?_)
     | (refine CallH_in (outF s4 l Y j (opC od oa ob oc ofl op) [.i 0, .i 0, .i 0, .nsl]) (Nat.le_of_ble_eq_true rfl) (fun K' hK' => Tri.pgS 0 11 2 h3 rfl rfl rfl rfl (by decide) (by decide) (by decide) rfl rfl rfl hK') ?_)
     | (refine CallF_in h4 rfl rfl ?_)
     | (refine finQ ⟨?_, .inr ⟨rfl, fun h => by cases h⟩⟩)
     | (refine finQ ?_)
     | (refine Yield_in 6 Y j (outA ⟨k, e, fo, ac⟩) rfl rfl hY noYx_accB rfl hxk ?_ ?_)
     | (refine Back_in _ _ ⟨j + 1, s4, _, r, by omega, rfl, hR, hX2, hD2, rfl⟩ (by omega) ?_)
     | (refine ArK_in (wrap_i64 (by omega) (by omega)) ?_)))
    · refine Wk_H (outF s4 l Y (j + 1) (opC od oa ob oc ofl op) [.i k, .i e, .i fo, .d (.sl (ac.map actCs))]) (by kernel_rfl) ?_
      refine Wk_fzI [0, 1, 2, 3, 4, 5, 6, 11] [0, 1, 2, 3, 4, 5, 6, 11] [] ?_ ?_ ?_ ?_ ?_ ?_ ?_ ?_ ?_
      all_goals first
        | exact ⟨.inr rfl, .inl rfl, .inr rfl, .inr rfl, .inr rfl, .inr rfl, .inr rfl, .inr rfl, trivial⟩
        | exact ⟨⟨_, rfl, FB_pg rfl rfl⟩, ⟨_, rfl, .mp _ _ _ rfl fun i x y h => by simp at h⟩, ⟨_, rfl, FB_rows ⟨.ptr _ _ _ rfl, trivial⟩⟩, ⟨_, rfl, FB_rows ⟨.same _ rfl, trivial⟩⟩, ⟨_, rfl, FB_rows ⟨FV_clos1 rfl, trivial⟩⟩, ⟨_, rfl, .yl _ _⟩, HFz_acc rfl trivial⟩
        | exact ⟨.same _ rfl, .ptr _ _ _ rfl, .ptr _ _ _ rfl, .same _ rfl, .same _ rfl, .same _ rfl, trivial⟩
        | (show 7 ≤ 8; decide)
        | (intro i hi; match i, hi with | 0, _ => rfl | 1, _ => rfl | 2, _ => rfl | 3, _ => rfl | 4, _ => rfl | 5, _ => rfl | 6, _ => rfl)
        | rfl
    · show noY [AccB (rowsP s4)] = true
      exact noY_accB rfl
  · have hjl : j = l.length := by omega
    subst hjl
    rw [List.drop_length] at hG
    simp only [outsG, Option.some.injEq, Prod.mk.injEq] at hG
    obtain ⟨rfl, rfl⟩ := hG
    rw [List.append_nil] at hX
    subst hX
    have hDl : (dn.map outA).length = l.length := by rw [List.length_map, hD]
    repeat' ((conv => whnf); (first
     | (refine Br_false (decide_eq_false (by omega)) ?_)
     | (refine finQ ?_)))
    refine ⟨noY_outW sj l, .inl ⟨?_, fun _ => rfl⟩⟩
    rw [hDl]
    rfl
end Go.Eng
