/- What the seat's proofs lean on, part 4: the executor over abstract values, its soundness, and what the program's functions answer (Tree4, Sp2, Ref1, Ref2, Ref3, Ref4, Ref5, Rat1, Rat2, Sp3). -/
import Derived.Test.YtjanagmofpdmnaaDoorEng03
set_option linter.all false
set_option linter.unusedVariables false
set_option linter.unusedSimpArgs false
set_option maxRecDepth 100000
set_option linter.unusedVariables false
namespace Go.Eng
open Go Go.Proofs
theorem tree_up (t : Tree) (n : Int) : Tri Tryd.prog 91 [.d (treeD t), .i n] [] fun v H => v = .clos (.func 99) [] [.ptr 0 0, .ptr 1 0] ∧ H = [some (.row [.d (treeD t)]), some (.row [.i n])] := by
  refine Tri_of (m := 0) tt_ok Tryd.func91 rfl (by decide) Tryd.ntmps91 (by rfl) rfl ?_
  repeat' ((conv => whnf); (first
    | (refine Br_true (by assumption) ?_)
    | (refine Br_false (by assumption) ?_)
    | (refine Br_true (beqT (by omega)) ?_)
    | (refine Br_false (beqF (by omega)) ?_)
    | (refine Br_beq (fun h => ?_) (fun h => ?_))
    | (refine Br_true (bneT (by omega)) ?_)
    | (refine Br_false (bneF (by omega)) ?_)
    | (refine Br_bne (fun h => ?_) (fun h => ?_))
    | (refine Br_true (decide_eq_true (by omega)) ?_)
    | (refine Br_false (decide_eq_false (by omega)) ?_)
    | (refine Br_dec (fun h => ?_) (fun h => ?_))
    | (refine Br_not ?_)
    | (refine Len_in (fun hlen => ?_))
    | (refine finR ?_)
    | (refine Br_split (fun h => ?_) (fun h => ?_))
    | (refine fin0 rfl ?_)
    | (refine ArK_in (wrap_i64 (by omega) (by omega)) ?_)
    | (refine force_in ?_)))
  rfl
theorem tree_up1 (t : Tree) (n : Int) (hu : Ups t) (hn : okN t n) (Y : Ysp) (hx : Y.xs = (climb t (t.length + 1) n).map AV.i) (hY : YLaw Tryd.prog Y) :
    Tri Tryd.prog 99 ([] ++ [.clos (.yield Y.l) [] []] ++ [.ptr 0 0, .ptr 1 0]) ([some (.row [.d (treeD t)]), some (.row [.i n])] ++ [some (.yl Y 0)])
      fun v H1 => H1[2]? = some (some (.yl Y Y.xs.length)) ∨ H1[2]? = some (some (.yz Y)) := by
  refine Tri_of (m := 3) tt_ok Tryd.func99 rfl (by decide) Tryd.ntmps99 (by rfl) rfl ?_
  refine Len_in (fun hlen => ?_)
  simp only [List.length_map] at hlen
  refine ArK_in (wrap_i64 (by simp; omega) (by simp; omega)) ?_
  refine W_loop (fun μ s => ∃ (k : Nat) (c : Int), k ≤ t.length + 1 ∧ μ = t.length + 1 - k ∧ okN t c ∧ (climb t (t.length + 1) n).drop k = climb t (t.length + 1 - k) c ∧ (climb t (t.length + 1) n).length = k + (climb t (t.length + 1 - k) c).length ∧
      s = ⟨[(0, .clos (.yield Y.l) [] []), (1, .ptr 0 0), (2, .ptr 1 0), (6, .i ((List.map Node.cs t).length + 1)), (7, .i k)], 29, [some (.row [.d (treeD t)]), some (.row [.i c]), some (.yl Y k)], 3, []⟩) (t.length + 1)
    ⟨_, ?_, 0, n, by simp, by simp, hn, by simp, by simp, rfl⟩ ?_
  · exact Wk_env (by repeat (first | exact trivial | refine ⟨rfl, ?_⟩))
  rintro μ s1 ⟨k, c, hk, rfl, hc, hd, hl, rfl⟩
  have hxl : Y.xs.length = k + (climb t (t.length + 1 - k) c).length := by rw [hx]; simpa using hl
  refine W_run tt_ok ?_
  refine Br_dec (fun h => ?_) (fun h => ?_)
  · simp at h
    have e : t.length + 1 - k = (t.length - k) + 1 := by omega
    rw [e] at hd hxl hl
    generalize climb t (t.length + 1) n = L at *
    simp only [climb] at hd hxl hl
    refine Br_beq (fun h1 => ?_) (fun h1 => ?_)
    · rw [if_pos h1] at hxl
      repeat' ((conv => whnf); (first
        | (refine Br_true (by assumption) ?_)
        | (refine Br_false (by assumption) ?_)
        | (refine Br_true (beqT (by omega)) ?_)
        | (refine Br_false (beqF (by omega)) ?_)
        | (refine Br_beq (fun h => ?_) (fun h => ?_))
        | (refine Br_true (bneT (by omega)) ?_)
        | (refine Br_false (bneF (by omega)) ?_)
        | (refine Br_bne (fun h => ?_) (fun h => ?_))
        | (refine Br_true (decide_eq_true (by omega)) ?_)
        | (refine Br_false (decide_eq_false (by omega)) ?_)
        | (refine Br_dec (fun h => ?_) (fun h => ?_))
        | (refine Br_not ?_)
        | (refine Len_in (fun hlen => ?_))
        | (refine finQ (.inl ?_))
        | (refine Br_split (fun h => ?_) (fun h => ?_))
        | (refine fin0 rfl ?_)
        | (refine ArK_in (wrap_i64 (by omega) (by omega)) ?_)
        | (refine force_in ?_)))
      rw [hxl]; rfl
    · rw [if_neg h1] at hxl hd hl
      have hc' : isN t c = true := hc.resolve_left h1
      obtain ⟨hu1, hu2⟩ := hu c hc'
      have hxk : Y.xs[k]? = some (.i c) := by
        rw [hx, List.getElem?_map]
        have : L[k]? = some c := by
          have := congrArg (·[0]?) hd
          simpa using this
        rw [this]; rfl
      have hd' : L.drop (k + 1) = climb t (t.length + 1 - (k + 1)) (hi (nd t c)) := by
        have := congrArg List.tail hd
        rw [List.tail_drop] at this
        rw [this, List.tail_cons]
        congr 1
        omega
      have hl' : L.length = (k + 1) + (climb t (t.length + 1 - (k + 1)) (hi (nd t c))).length := by
        rw [hl, List.length_cons]
        have : t.length + 1 - (k + 1) = t.length - k := by omega
        rw [this]; omega
      refine Yield_in 2 Y k (.i c) rfl rfl hY rfl rfl hxk ?_ ?_
      · repeat' ((conv => whnf); (first
        | (refine Br_true (by assumption) ?_)
        | (refine Br_false (by assumption) ?_)
        | (refine Br_true (beqT (by omega)) ?_)
        | (refine Br_false (beqF (by omega)) ?_)
        | (refine Br_beq (fun h => ?_) (fun h => ?_))
        | (refine Br_true (bneT (by omega)) ?_)
        | (refine Br_false (bneF (by omega)) ?_)
        | (refine Br_bne (fun h => ?_) (fun h => ?_))
        | (refine Br_true (decide_eq_true (by omega)) ?_)
        | (refine Br_false (decide_eq_false (by omega)) ?_)
        | (refine Br_dec (fun h => ?_) (fun h => ?_))
        | (refine Br_not ?_)
        | (refine Len_in (fun hlen => ?_))
        | (refine W_draw 0 tt_ok mixed (by kernel_rfl) ?_)
        | (refine Idx_nd hc' rfl ?_)
        | (refine Back_in _ _ ⟨k + 1, _, by omega, rfl, hu1, hd', hl', rfl⟩ (by omega) (Wk_env (by repeat (first | exact trivial | refine ⟨rfl, ?_⟩))))
        | (refine Br_split (fun h => ?_) (fun h => ?_))
        | (refine fin0 rfl ?_)
        | (refine ArK_in (wrap_i64 (by omega) (by omega)) ?_)
        | (refine force_in ?_)))
      · repeat' ((conv => whnf); (first
        | (refine Br_true (by assumption) ?_)
        | (refine Br_false (by assumption) ?_)
        | (refine Br_true (beqT (by omega)) ?_)
        | (refine Br_false (beqF (by omega)) ?_)
        | (refine Br_beq (fun h => ?_) (fun h => ?_))
        | (refine Br_true (bneT (by omega)) ?_)
        | (refine Br_false (bneF (by omega)) ?_)
        | (refine Br_bne (fun h => ?_) (fun h => ?_))
        | (refine Br_true (decide_eq_true (by omega)) ?_)
        | (refine Br_false (decide_eq_false (by omega)) ?_)
        | (refine Br_dec (fun h => ?_) (fun h => ?_))
        | (refine Br_not ?_)
        | (refine Len_in (fun hlen => ?_))
        | (refine finQ (.inr rfl))
        | (refine Br_split (fun h => ?_) (fun h => ?_))
        | (refine fin0 rfl ?_)
        | (refine ArK_in (wrap_i64 (by omega) (by omega)) ?_)
        | (refine force_in ?_)))
  · simp at h
    have e : t.length + 1 - k = 0 := by omega
    rw [e] at hxl
    simp only [climb, List.length_nil, Nat.add_zero] at hxl
    repeat' ((conv => whnf); (first
      | (refine Br_true (by assumption) ?_)
      | (refine Br_false (by assumption) ?_)
      | (refine Br_true (beqT (by omega)) ?_)
      | (refine Br_false (beqF (by omega)) ?_)
      | (refine Br_beq (fun h => ?_) (fun h => ?_))
      | (refine Br_true (bneT (by omega)) ?_)
      | (refine Br_false (bneF (by omega)) ?_)
      | (refine Br_bne (fun h => ?_) (fun h => ?_))
      | (refine Br_true (decide_eq_true (by omega)) ?_)
      | (refine Br_false (decide_eq_false (by omega)) ?_)
      | (refine Br_dec (fun h => ?_) (fun h => ?_))
      | (refine Br_not ?_)
      | (refine Len_in (fun hlen => ?_))
      | (refine finQ (.inl ?_))
      | (refine Br_split (fun h => ?_) (fun h => ?_))
      | (refine fin0 rfl ?_)
      | (refine ArK_in (wrap_i64 (by omega) (by omega)) ?_)
      | (refine force_in ?_)))
    rw [hxl]; rfl
theorem tree_turns (t : Tree) (n : Int) (hu : Ups t) (hn : okN t n) : Fn Tryd.prog 75 [.d (treeD t), .i n] (.b (decide ((climb t (t.length + 1) n).length > t.length))) := by
  refine Fn_ofB tt_ok Tryd.func75 rfl (by decide) Tryd.ntmps75 rfl (fun hok => ?_)
  have hB := Ok_len (hok (.d (treeD t)) (by simp))
  simp only [List.length_map] at hB
  have hcl := climb_len t (t.length + 1) n
  refine Tri.call (tree_up t n) [] rfl rfl trivial rfl rfl rfl rfl (r := .clos (.func 99) [] [.ptr 1 0, .ptr 2 0]) (H' := [some (.row [.i 0]), some (.row [.d (treeD t)]), some (.row [.i n])]) rfl rfl ?_
  conv => whnf
  refine W_range [1, 2] (fs0 := []) (cs0 := [.ptr 0 0, .ptr 1 0]) (H0 := [some (.row [.d (treeD t)]), some (.row [.i n])]) ((climb t (t.length + 1) n).map AV.i) (fun k H => H = [some (.row [.i k]), none, none, some .dfr]) (fun _ _ => False) rfl rfl rfl
    (by repeat (first | exact trivial | refine ⟨⟨rfl, rfl⟩, ?_⟩)) rfl rfl rfl rfl (by decide) rfl ?_ ?_ rfl ?_ ?_ ?_
  · intro k x hx
    rw [List.getElem?_map] at hx
    cases h : (climb t (t.length + 1) n)[k]? with
    | none => rw [h] at hx; simp at hx
    | some c => rw [h] at hx; simp at hx; subst hx; rfl
  · intro Y hx hY
    have := tree_up1 t n hu hn Y hx hY
    rw [hx] at this
    exact this
  · rintro l k x H' hx rfl hl hY
    have hk : k < t.length + 1 := by
      have := (List.getElem?_eq_some_iff.1 hx).1
      simp at this
      omega
    refine W_run tt_ok ?_
    repeat' ((conv => whnf); (first
      | (refine Br_true (by assumption) ?_)
      | (refine Br_false (by assumption) ?_)
      | (refine Br_true (beqT (by omega)) ?_)
      | (refine Br_false (beqF (by omega)) ?_)
      | (refine Br_beq (fun h => ?_) (fun h => ?_))
      | (refine Br_true (bneT (by omega)) ?_)
      | (refine Br_false (bneF (by omega)) ?_)
      | (refine Br_bne (fun h => ?_) (fun h => ?_))
      | (refine Br_true (decide_eq_true (by omega)) ?_)
      | (refine Br_false (decide_eq_false (by omega)) ?_)
      | (refine Br_dec (fun h => ?_) (fun h => ?_))
      | (refine Br_not ?_)
      | (refine Len_in (fun hlen => ?_))
      | (refine Rd_next [some (.row [.i (k + 1 : Nat)]), none, none, some .dfr] (Wk_env (by repeat (first | exact trivial | refine ⟨rfl, ?_⟩))) rfl (Nat.le_of_ble_eq_true rfl) rfl)
      | (refine Br_split (fun h => ?_) (fun h => ?_))
      | (refine fin0 rfl ?_)
      | (refine ArK_in (wrap_i64 (by omega) (by omega)) ?_)
      | (refine force_in ?_)))
  · rintro H' rfl hl hY
    repeat' ((conv => whnf); (first
      | (refine Br_true (by assumption) ?_)
      | (refine Br_false (by assumption) ?_)
      | (refine Br_true (beqT (by omega)) ?_)
      | (refine Br_false (beqF (by omega)) ?_)
      | (refine Br_beq (fun h => ?_) (fun h => ?_))
      | (refine Br_true (bneT (by omega)) ?_)
      | (refine Br_false (bneF (by omega)) ?_)
      | (refine Br_bne (fun h => ?_) (fun h => ?_))
      | (refine Br_true (decide_eq_true (by omega)) ?_)
      | (refine Br_false (decide_eq_false (by omega)) ?_)
      | (refine Br_dec (fun h => ?_) (fun h => ?_))
      | (refine Br_not ?_)
      | (refine Len_in (fun hlen => ?_))
      | (refine Br_split (fun h => ?_) (fun h => ?_))
      | (refine fin0 rfl ?_)
      | (refine ArK_in (wrap_i64 (by omega) (by omega)) ?_)
      | (refine force_in ?_)))
    simp
  · intro e H' c _ h
    exact h.elim
theorem ups_of (t : Tree) (h : ∀ k : Nat, k < t.length → nodeB t k = true) : Ups t := by
  intro n hn
  have h0 := nd_pos hn
  have hlt : n.toNat < t.length := by unfold isN at hn; have := of_decide_eq_true hn; omega
  have hk := h n.toNat hlt
  have e : ((n.toNat : Nat) : Int) = n := by omega
  rw [e] at hk
  unfold nodeB parB shadowB at hk
  simp only [Bool.and_eq_true, Bool.or_eq_true, decide_eq_true_eq] at hk
  obtain ⟨⟨⟨⟨⟨h1, h2⟩, h3⟩, h4⟩, h5⟩, h6⟩ := hk
  unfold okN hi upN
  generalize nd t n = x at *
  split at h5
  · rename_i hs
    simp only [Bool.and_eq_true, decide_eq_true_eq] at h5
    obtain ⟨⟨⟨⟨g1, g2⟩, g3⟩, g4⟩, g5⟩ := h5
    have := nd_pos g3
    rw [if_pos (by omega), if_pos hs]
    exact ⟨.inr g3, rfl⟩
  · rename_i hs
    rw [if_neg hs]
    have hh : x.host = -1 := by
      split at h5
      · simp at h5
      · omega
    rcases h3 with h3 | ⟨h3, _⟩
    · rw [hh, h3]; simp
    · have := nd_pos h3
      rw [if_neg (by omega)]
      exact ⟨.inr h3, rfl⟩
theorem tree_may (t : Tree) : Fn Tryd.prog 55 [.d (treeD t)] (.b (mayB t)) := by
  refine Fn_of tt_ok Tryd.func55 rfl (by decide) Tryd.ntmps55 rfl ?_
  refine Len_in (fun hlen => ?_)
  simp only [List.length_map] at hlen
  refine Fn.use (tree_in _ _ _) rfl rfl ?_
  refine Br_not ?_
  refine Br_split (fun hin => ?_) (fun hin => ?_)
  rotate_left
  · repeat' ((conv => whnf); (first
    | (refine Br_true (by assumption) ?_)
    | (refine Br_false (by assumption) ?_)
    | (refine Br_true (beqT (by omega)) ?_)
    | (refine Br_false (beqF (by omega)) ?_)
    | (refine Br_beq (fun h => ?_) (fun h => ?_))
    | (refine Br_true (bneT (by omega)) ?_)
    | (refine Br_false (bneF (by omega)) ?_)
    | (refine Br_bne (fun h => ?_) (fun h => ?_))
    | (refine Br_true (decide_eq_true (by omega)) ?_)
    | (refine Br_false (decide_eq_false (by omega)) ?_)
    | (refine Br_dec (fun h => ?_) (fun h => ?_))
    | (refine Br_not ?_)
    | (refine Len_in (fun hlen => ?_))
    | (refine Br_split (fun h => ?_) (fun h => ?_))
    | (refine fin0 rfl ?_)
    | (refine ArK_in (wrap_i64 (by omega) (by omega)) ?_)
    | (refine force_in ?_)))
    unfold mayB inB at *
    simp only [List.length_map] at hin
    simp_all
    intro h1 h2
    omega
  refine Len_in (fun _ => ?_)
  refine W_loop (fun μ s => ∃ (k : Nat), k ≤ t.length ∧ μ = t.length - k ∧ (∀ j : Nat, j < k → nodeB t j = true) ∧
      s = ⟨[(0, .d (treeD t)), (10, .i (List.map Node.cs t).length), (11, .i k)], 28, [], 0, []⟩) t.length
    ⟨_, ?_, 0, by simp, by simp, by simp, rfl⟩ ?_
  · exact Wk_env (by repeat (first | exact trivial | refine ⟨rfl, ?_⟩))
  rintro μ s1 ⟨k, hk, rfl, hno, rfl⟩
  refine W_run tt_ok ?_
  refine Br_dec (fun h => ?_) (fun h => ?_)
  · simp at h
    refine Fn.use (tree_node t k (isN_nat h)) rfl rfl ?_
    refine Br_not (Br_split (fun hq => ?_) (fun hq => ?_))
    · repeat' ((conv => whnf); (first
      | (refine Br_true (by assumption) ?_)
      | (refine Br_false (by assumption) ?_)
      | (refine Br_true (beqT (by omega)) ?_)
      | (refine Br_false (beqF (by omega)) ?_)
      | (refine Br_beq (fun h => ?_) (fun h => ?_))
      | (refine Br_true (bneT (by omega)) ?_)
      | (refine Br_false (bneF (by omega)) ?_)
      | (refine Br_bne (fun h => ?_) (fun h => ?_))
      | (refine Br_true (decide_eq_true (by omega)) ?_)
      | (refine Br_false (decide_eq_false (by omega)) ?_)
      | (refine Br_dec (fun h => ?_) (fun h => ?_))
      | (refine Br_not ?_)
      | (refine Len_in (fun hlen => ?_))
      | (refine Back_in _ _ ⟨k + 1, by omega, rfl, ?_, rfl⟩ (by omega) (Wk_env (by repeat (first | exact trivial | refine ⟨rfl, ?_⟩))))
      | (refine Br_split (fun h => ?_) (fun h => ?_))
      | (refine fin0 rfl ?_)
      | (refine ArK_in (wrap_i64 (by omega) (by omega)) ?_)
      | (refine force_in ?_)))
      intro j hj
      rcases Nat.lt_succ_iff_lt_or_eq.1 hj with h1 | h1
      · exact hno j h1
      · subst h1; exact hq
    · repeat' ((conv => whnf); (first
      | (refine Br_true (by assumption) ?_)
      | (refine Br_false (by assumption) ?_)
      | (refine Br_true (beqT (by omega)) ?_)
      | (refine Br_false (beqF (by omega)) ?_)
      | (refine Br_beq (fun h => ?_) (fun h => ?_))
      | (refine Br_true (bneT (by omega)) ?_)
      | (refine Br_false (bneF (by omega)) ?_)
      | (refine Br_bne (fun h => ?_) (fun h => ?_))
      | (refine Br_true (decide_eq_true (by omega)) ?_)
      | (refine Br_false (decide_eq_false (by omega)) ?_)
      | (refine Br_dec (fun h => ?_) (fun h => ?_))
      | (refine Br_not ?_)
      | (refine Len_in (fun hlen => ?_))
      | (refine Br_split (fun h => ?_) (fun h => ?_))
      | (refine fin0 rfl ?_)
      | (refine ArK_in (wrap_i64 (by omega) (by omega)) ?_)
      | (refine force_in ?_)))
      simp only [AV.d.injEq, D.bool.injEq]
      unfold mayB
      symm
      rw [Bool.and_eq_false_iff]; left
      rw [Bool.and_eq_false_iff]; right
      rw [List.all_eq_false]
      exact ⟨k, by simpa using h, by simp [hq]⟩
  · simp at h
    have hk' : k = t.length := by omega
    subst hk'
    have hu := ups_of t hno
    refine Len_in (fun _ => ?_)
    refine W_loop (fun μ s => ∃ (k : Nat), k ≤ t.length ∧ μ = t.length - k ∧ (∀ j : Nat, j < k → endsB t j = true) ∧
        s = ⟨[(0, .d (treeD t)), (20, .i (List.map Node.cs t).length), (21, .i k)], 28, [], 0, []⟩) t.length
      ⟨_, ?_, 0, by simp, by simp, by simp, rfl⟩ ?_
    · exact Wk_env (by repeat (first | exact trivial | refine ⟨rfl, ?_⟩))
    rintro μ s1 ⟨k, hk, rfl, hen, rfl⟩
    refine W_run tt_ok ?_
    refine Br_dec (fun h => ?_) (fun h => ?_)
    · simp at h
      have hce := (climb_ends t hu (t.length + 1) k (.inr (isN_nat h))).resolve_right (by omega)
      have hce' : decide ((climb t (t.length + 1) (k : Int)).length > t.length) = !endsB t k := by
        unfold endsB; simpa using hce
      refine Fn.use (tree_turns t k hu (.inr (isN_nat h))) rfl rfl ?_
      refine Br_split (fun hq => ?_) (fun hq => ?_)
      · repeat' ((conv => whnf); (first
        | (refine Br_true (by assumption) ?_)
        | (refine Br_false (by assumption) ?_)
        | (refine Br_true (beqT (by omega)) ?_)
        | (refine Br_false (beqF (by omega)) ?_)
        | (refine Br_beq (fun h => ?_) (fun h => ?_))
        | (refine Br_true (bneT (by omega)) ?_)
        | (refine Br_false (bneF (by omega)) ?_)
        | (refine Br_bne (fun h => ?_) (fun h => ?_))
        | (refine Br_true (decide_eq_true (by omega)) ?_)
        | (refine Br_false (decide_eq_false (by omega)) ?_)
        | (refine Br_dec (fun h => ?_) (fun h => ?_))
        | (refine Br_not ?_)
        | (refine Len_in (fun hlen => ?_))
        | (refine Br_split (fun h => ?_) (fun h => ?_))
        | (refine fin0 rfl ?_)
        | (refine ArK_in (wrap_i64 (by omega) (by omega)) ?_)
        | (refine force_in ?_)))
        rw [hce'] at hq
        simp only [AV.d.injEq, D.bool.injEq]
        unfold mayB
        symm
        rw [Bool.and_eq_false_iff]; right
        rw [List.all_eq_false]
        exact ⟨k, by simpa using h, by simpa using hq⟩
      · rw [hce'] at hq
        repeat' ((conv => whnf); (first
          | (refine Br_true (by assumption) ?_)
          | (refine Br_false (by assumption) ?_)
          | (refine Br_true (beqT (by omega)) ?_)
          | (refine Br_false (beqF (by omega)) ?_)
          | (refine Br_beq (fun h => ?_) (fun h => ?_))
          | (refine Br_true (bneT (by omega)) ?_)
          | (refine Br_false (bneF (by omega)) ?_)
          | (refine Br_bne (fun h => ?_) (fun h => ?_))
          | (refine Br_true (decide_eq_true (by omega)) ?_)
          | (refine Br_false (decide_eq_false (by omega)) ?_)
          | (refine Br_dec (fun h => ?_) (fun h => ?_))
          | (refine Br_not ?_)
          | (refine Len_in (fun hlen => ?_))
          | (refine Back_in _ _ ⟨k + 1, by omega, rfl, ?_, rfl⟩ (by omega) (Wk_env (by repeat (first | exact trivial | refine ⟨rfl, ?_⟩))))
          | (refine Br_split (fun h => ?_) (fun h => ?_))
          | (refine fin0 rfl ?_)
          | (refine ArK_in (wrap_i64 (by omega) (by omega)) ?_)
          | (refine force_in ?_)))
        intro j hj
        rcases Nat.lt_succ_iff_lt_or_eq.1 hj with h1 | h1
        · exact hen j h1
        · subst h1; simpa using hq
    · simp at h
      repeat' ((conv => whnf); (first
        | (refine Br_true (by assumption) ?_)
        | (refine Br_false (by assumption) ?_)
        | (refine Br_true (beqT (by omega)) ?_)
        | (refine Br_false (beqF (by omega)) ?_)
        | (refine Br_beq (fun h => ?_) (fun h => ?_))
        | (refine Br_true (bneT (by omega)) ?_)
        | (refine Br_false (bneF (by omega)) ?_)
        | (refine Br_bne (fun h => ?_) (fun h => ?_))
        | (refine Br_true (decide_eq_true (by omega)) ?_)
        | (refine Br_false (decide_eq_false (by omega)) ?_)
        | (refine Br_dec (fun h => ?_) (fun h => ?_))
        | (refine Br_not ?_)
        | (refine Len_in (fun hlen => ?_))
        | (refine Br_split (fun h => ?_) (fun h => ?_))
        | (refine fin0 rfl ?_)
        | (refine ArK_in (wrap_i64 (by omega) (by omega)) ?_)
        | (refine force_in ?_)))
      unfold mayB inB at *
      simp only [AV.d.injEq, D.bool.injEq]
      simp only [List.length_map, decide_eq_true_eq] at hin
      symm
      simp only [Bool.and_eq_true, List.all_eq_true, List.mem_range, decide_eq_true_eq]
      exact ⟨⟨⟨by omega, by omega⟩, hno⟩, fun j hj => hen j (by omega)⟩
theorem tree_Check (t : Tree) : Fn Tryd.prog 36 [.d (treeD t)] (.i (if mayB t then 0 else 1)) := by
  refine Fn_of tt_ok Tryd.func36 rfl (by decide) Tryd.ntmps36 rfl ?_
  repeat' ((conv => whnf); (first
    | (refine Br_true (by assumption) ?_)
    | (refine Br_false (by assumption) ?_)
    | (refine Br_true (beqT (by omega)) ?_)
    | (refine Br_false (beqF (by omega)) ?_)
    | (refine Br_beq (fun h => ?_) (fun h => ?_))
    | (refine Br_true (bneT (by omega)) ?_)
    | (refine Br_false (bneF (by omega)) ?_)
    | (refine Br_bne (fun h => ?_) (fun h => ?_))
    | (refine Br_true (decide_eq_true (by omega)) ?_)
    | (refine Br_false (decide_eq_false (by omega)) ?_)
    | (refine Br_dec (fun h => ?_) (fun h => ?_))
    | (refine Br_not ?_)
    | (refine Len_in (fun hlen => ?_))
    | (refine Fn.use (tree_may t) rfl rfl ?_)
    | (refine CallF_in (tree_may t) rfl rfl ?_)
    | (refine Br_split (fun h => ?_) (fun h => ?_))
    | (refine fin0 rfl ?_)
    | (refine ArK_in (wrap_i64 (by omega) (by omega)) ?_)
    | (refine force_in ?_)))
  all_goals simp [*]
end Go.Eng
namespace Go.Eng
def getV (l : List Attr) (name : Int) : Int × Bool :=
  match l.find? (fun a => a.name == name) with
  | some a => (a.value, true)
  | none => (0, false)
def getR (t : Tree) (n name : Int) : Int × Bool := if isN t n then getV (nd t n).attrs name else (0, false)
def withAt (l : List Attr) (a : Attr) (lay : Bool) (m : Int) : List Attr := if m = a.name then (if lay then [a] else []) else l.filter fun x => x.name == m
def withTo (l : List Attr) (a : Attr) (lay : Bool) : Nat → List Attr
  | 0 => []
  | k + 1 => withTo l a lay k ++ withAt l a lay k
def withL (l : List Attr) (a : Attr) (lay : Bool) : List Attr := withTo l a lay 10
theorem withAt_len (l : List Attr) (a : Attr) (lay : Bool) (m : Int) : (withAt l a lay m).length ≤ l.length + 1 := by
  unfold withAt
  split
  · split <;> simp
  · have := List.length_filter_le (fun x : Attr => x.name == m) l; omega
theorem withTo_len (l : List Attr) (a : Attr) (lay : Bool) (k : Nat) : (withTo l a lay k).length ≤ k * (l.length + 1) := by
  induction k with
  | zero => simp [withTo]
  | succ k ih =>
    simp only [withTo, List.length_append]
    have := withAt_len l a lay k
    rw [Nat.add_mul]; omega
end Go.Eng
namespace Go.Eng
def attrB (kind : Int) (a : Attr) : Bool := decide (0 ≤ a.name ∧ a.name ≤ 9) && valueB a.name a.value && (if kind = 3 then ofSh a.name else decide (kind = 1) && !ofSh a.name)
def putAttrs (t : Tree) (n : Int) (l : List Attr) : Tree := t.set n.toNat { nd t n with attrs := l }
def setR (t : Tree) (n : Int) (a : Attr) : Tree × Int :=
  if mayB t = false then ([], 1)
  else if isN t n = false then (t, 2)
  else if (nd t n).kind ≠ 1 ∧ (nd t n).kind ≠ 3 then (t, 3)
  else if attrB (nd t n).kind a = false then (t, 7)
  else (putAttrs t n (withL (nd t n).attrs a true), 0)
def dropR (t : Tree) (n : Int) (name : Int) : Tree × Int :=
  if mayB t = false then ([], 1)
  else if isN t n = false then (t, 2)
  else if (getV (nd t n).attrs name).2 = false then (t, 7)
  else (putAttrs t n (withL (nd t n).attrs ⟨name, 0⟩ false), 0)
def SmallT (t : Tree) : Prop := t.length ≤ 1000 ∧ ∀ x ∈ t, x.kids.length ≤ 1000 ∧ x.attrs.length ≤ 1000
theorem nd_get {t : Tree} {n : Int} (h : isN t n = true) : n.toNat < t.length ∧ t[n.toNat]? = some (nd t n) := by
  unfold isN at h; have := of_decide_eq_true h
  have hl : n.toNat < t.length := by omega
  exact ⟨hl, by simp [nd, hl]⟩
theorem nd_mem {t : Tree} {n : Int} (h : isN t n = true) : nd t n ∈ t := List.mem_of_getElem? (nd_get h).2
theorem may_ne {t : Tree} (h : mayB t = true) : t ≠ [] := by
  rintro rfl
  unfold mayB at h
  simp at h
theorem put_cells {t : Tree} {n : Int} {l : List Attr} (h : isN t n = true) : (t.map Node.cs).set n.toNat ((nd t n).cs.set 6 (attrsD l)) = (putAttrs t n l).map Node.cs := by
  unfold putAttrs
  rw [List.map_set]
  rfl
end Go.Eng
set_option maxRecDepth 100000
set_option linter.unusedVariables false
namespace Go.Eng
open Go Go.Proofs
theorem ref_Is (t : Tree) (n : Int) : Fn Tryd.prog 30 [.d (treeD t), .i n] (.b (isN t n)) := by
  refine Fn_of tt_ok Tryd.func30 rfl (by decide) Tryd.ntmps30 rfl ?_
  repeat' ((conv => whnf); (first
    | (refine Br_true (by assumption) ?_)
    | (refine Br_false (by assumption) ?_)
    | (refine Br_true (beqT (by omega)) ?_)
    | (refine Br_false (beqF (by omega)) ?_)
    | (refine Br_beq (fun h => ?_) (fun h => ?_))
    | (refine Br_true (bneT (by omega)) ?_)
    | (refine Br_false (bneF (by omega)) ?_)
    | (refine Br_bne (fun h => ?_) (fun h => ?_))
    | (refine Br_true (decide_eq_true (by omega)) ?_)
    | (refine Br_false (decide_eq_false (by omega)) ?_)
    | (refine Br_dec (fun h => ?_) (fun h => ?_))
    | (refine Br_not ?_)
    | (refine Len_in (fun hlen => ?_))
    | (refine Br_split (fun h => ?_) (fun h => ?_))
    | (refine fin0 rfl ?_)
    | (refine ArK_in (wrap_i64 (by omega) (by omega)) ?_)
    | (refine force_in ?_)))
  all_goals (simp only [AV.d.injEq, D.bool.injEq, isN, List.length_map] at *; grind)
theorem ref_value (n v : Int) : Fn Tryd.prog 56 [.i n, .i v] (.b (valueB n v)) := by
  refine Fn_of tt_ok Tryd.func56 rfl (by decide) Tryd.ntmps56 rfl ?_
  repeat' ((conv => whnf); (first
    | (refine Br_true (by assumption) ?_)
    | (refine Br_false (by assumption) ?_)
    | (refine Br_true (beqT (by omega)) ?_)
    | (refine Br_false (beqF (by omega)) ?_)
    | (refine Br_beq (fun h => ?_) (fun h => ?_))
    | (refine Br_true (bneT (by omega)) ?_)
    | (refine Br_false (bneF (by omega)) ?_)
    | (refine Br_bne (fun h => ?_) (fun h => ?_))
    | (refine Br_true (decide_eq_true (by omega)) ?_)
    | (refine Br_false (decide_eq_false (by omega)) ?_)
    | (refine Br_dec (fun h => ?_) (fun h => ?_))
    | (refine Br_not ?_)
    | (refine Len_in (fun hlen => ?_))
    | (refine Br_split (fun h => ?_) (fun h => ?_))
    | (refine fin0 rfl ?_)
    | (refine ArK_in (wrap_i64 (by omega) (by omega)) ?_)
    | (refine force_in ?_)))
  all_goals simp only [AV.d.injEq, D.bool.injEq, valueB]
  all_goals grind
theorem ref_Attr (kind : Int) (a : Attr) : Fn Tryd.prog 37 [.i kind, aggD a.cs] (.b (attrB kind a)) := by
  refine Fn_of tt_ok Tryd.func37 rfl (by decide) Tryd.ntmps37 rfl ?_
  repeat' ((conv => whnf); (first
    | (refine Br_true (by assumption) ?_)
    | (refine Br_false (by assumption) ?_)
    | (refine Br_true (beqT (by omega)) ?_)
    | (refine Br_false (beqF (by omega)) ?_)
    | (refine Br_beq (fun h => ?_) (fun h => ?_))
    | (refine Br_true (bneT (by omega)) ?_)
    | (refine Br_false (bneF (by omega)) ?_)
    | (refine Br_bne (fun h => ?_) (fun h => ?_))
    | (refine Br_true (decide_eq_true (by omega)) ?_)
    | (refine Br_false (decide_eq_false (by omega)) ?_)
    | (refine Br_dec (fun h => ?_) (fun h => ?_))
    | (refine Br_not ?_)
    | (refine Len_in (fun hlen => ?_))
    | (refine Fn.use (ref_value _ _) rfl rfl ?_)
    | (refine CallF_in (ref_value _ _) rfl rfl ?_)
    | (refine Br_split (fun h => ?_) (fun h => ?_))
    | (refine fin0 rfl ?_)
    | (refine ArK_in (wrap_i64 (by omega) (by omega)) ?_)
    | (refine force_in ?_)))
  all_goals simp only [AV.d.injEq, D.bool.injEq, attrB, ofSh]
  all_goals grind
def refFrom (kind : Int) : Int → List Attr → Bool
  | _, [] => true
  | last, a :: r => attrB kind a && decide (last < a.name) && refFrom kind a.name r
theorem refFrom_eq (kind : Int) (l : List Attr) : ∀ last : Int, -1 ≤ last → refFrom kind last l = (attrsFrom (decide (kind = 3)) last l && (decide (l = []) || decide (kind = 1) || decide (kind = 3))) := by
  induction l with
  | nil => intro last _; simp [refFrom, attrsFrom]
  | cons a r ih =>
    intro last hl
    simp only [refFrom, attrsFrom]
    by_cases h0 : last < a.name
    · rw [ih a.name (by omega)]
      unfold attrB
      by_cases h1 : kind = 1
      · subst h1; simp; grind
      · by_cases h3 : kind = 3
        · subst h3; simp; grind
        · simp [h1, h3]
    · simp [h0]
theorem refFrom_attrs (x : Node) : refFrom x.kind (-1) x.attrs = attrsB x := by
  unfold attrsB
  exact refFrom_eq x.kind x.attrs (-1) (by omega)
def prevN (l : List Attr) (k : Nat) : Int := if k = 0 then -1 else (l.getD (k - 1) default).name
theorem ref_attrs (x : Node) : Fn Tryd.prog 26 [aggD x.cs] (.b (attrsB x)) := by
  rw [← refFrom_attrs]
  refine Fn_of tt_ok Tryd.func26 rfl (by decide) Tryd.ntmps26 rfl ?_
  refine W_loop (fun μ s => ∃ (k : Nat), k ≤ x.attrs.length ∧ μ = x.attrs.length - k ∧ (refFrom x.kind (-1) x.attrs = refFrom x.kind (prevN x.attrs k) (x.attrs.drop k)) ∧ s = ⟨[(1, .ptr 0 0), (3, .i k)], 40, [some (.row (x.cs.map .d))], 0, []⟩) (x.attrs.length) ⟨_, ?_, 0, by simp, by simp, ?_, rfl⟩ ?_
  · exact Wk_ren [0] rfl rfl (by repeat (first | exact trivial | refine ⟨⟨rfl, rfl⟩, ?_⟩)) (by repeat (first | exact trivial | refine ⟨⟨rfl, rfl⟩, ?_⟩)) (by decide) (by omega)
  · rfl
  rintro μ s1 ⟨k, hk, rfl, hinv, rfl⟩
  refine W_run tt_ok ?_
  refine Len_in (fun hlen => ?_)
  simp only [List.length_map] at hlen
  refine Br_dec (fun h => ?_) (fun h => ?_)
  · simp at h
    conv => whnf
    rw [List.drop_eq_getElem_cons h] at hinv
    simp only [refFrom] at hinv
    have hp : (x.attrs[k]).name = prevN x.attrs (k + 1) := by simp [prevN, h]
    have hi : (List.map Attr.cs x.attrs)[(k : Int).toNat]? = some (x.attrs[k]).cs := by simp [h]
    refine W_draw 0 tt_ok mixed (by kernel_rfl) ?_
    refine Idx_in _ hi (by omega) rfl ?_
    refine CallF_in (ref_Attr _ _) rfl rfl ?_
    refine Br_not (Br_split (fun ha => ?_) (fun ha => ?_))
    rotate_left
    · repeat' ((conv => whnf); (first
      | (refine Br_true (by assumption) ?_)
      | (refine Br_false (by assumption) ?_)
      | (refine Br_true (beqT (by omega)) ?_)
      | (refine Br_false (beqF (by omega)) ?_)
      | (refine Br_beq (fun h => ?_) (fun h => ?_))
      | (refine Br_true (bneT (by omega)) ?_)
      | (refine Br_false (bneF (by omega)) ?_)
      | (refine Br_bne (fun h => ?_) (fun h => ?_))
      | (refine Br_true (decide_eq_true (by omega)) ?_)
      | (refine Br_false (decide_eq_false (by omega)) ?_)
      | (refine Br_dec (fun h => ?_) (fun h => ?_))
      | (refine Br_not ?_)
      | (refine Len_in (fun hlen => ?_))
      | (refine Br_split (fun h => ?_) (fun h => ?_))
      | (refine fin0 rfl ?_)
      | (refine ArK_in (wrap_i64 (by omega) (by omega)) ?_)
      | (refine force_in ?_)))
      rw [hinv, ha]; rfl
    rw [ha, Bool.true_and] at hinv
    refine Br_dec (fun h0 => ?_) (fun h0 => ?_)
    · have hk1 : k - 1 < x.attrs.length := by omega
      have hi1 : (List.map Attr.cs x.attrs)[((k : Int) - 1).toNat]? = some (x.attrs[k - 1]).cs := by
        rw [show ((k : Int) - 1).toNat = k - 1 by omega]; simp [hk1]
      have hp1 : prevN x.attrs k = (x.attrs[k - 1]).name := by
        unfold prevN
        rw [if_neg (by omega)]
        simp [hk1]
      rw [hp1, hp] at hinv
      refine Idx_in _ hi (by omega) rfl ?_
      refine ArK_in (wrap_i64 (by omega) (by omega)) ?_
      refine Idx_in _ hi1 (by omega) rfl ?_
      refine Br_dec (fun h1 => ?_) (fun h1 => ?_)
      · repeat' ((conv => whnf); (first
        | (refine Br_true (by assumption) ?_)
        | (refine Br_false (by assumption) ?_)
        | (refine Br_true (beqT (by omega)) ?_)
        | (refine Br_false (beqF (by omega)) ?_)
        | (refine Br_beq (fun h => ?_) (fun h => ?_))
        | (refine Br_true (bneT (by omega)) ?_)
        | (refine Br_false (bneF (by omega)) ?_)
        | (refine Br_bne (fun h => ?_) (fun h => ?_))
        | (refine Br_true (decide_eq_true (by omega)) ?_)
        | (refine Br_false (decide_eq_false (by omega)) ?_)
        | (refine Br_dec (fun h => ?_) (fun h => ?_))
        | (refine Br_not ?_)
        | (refine Len_in (fun hlen => ?_))
        | (refine Br_split (fun h => ?_) (fun h => ?_))
        | (refine fin0 rfl ?_)
        | (refine ArK_in (wrap_i64 (by omega) (by omega)) ?_)
        | (refine force_in ?_)))
        rw [hinv, decide_eq_false (by omega)]; rfl
      · rw [decide_eq_true (by omega), Bool.true_and] at hinv
        repeat' ((conv => whnf); (first
          | (refine Br_true (by assumption) ?_)
          | (refine Br_false (by assumption) ?_)
          | (refine Br_true (beqT (by omega)) ?_)
          | (refine Br_false (beqF (by omega)) ?_)
          | (refine Br_beq (fun h => ?_) (fun h => ?_))
          | (refine Br_true (bneT (by omega)) ?_)
          | (refine Br_false (bneF (by omega)) ?_)
          | (refine Br_bne (fun h => ?_) (fun h => ?_))
          | (refine Br_true (decide_eq_true (by omega)) ?_)
          | (refine Br_false (decide_eq_false (by omega)) ?_)
          | (refine Br_dec (fun h => ?_) (fun h => ?_))
          | (refine Br_not ?_)
          | (refine Len_in (fun hlen => ?_))
          | (refine Back_in _ _ ⟨k + 1, by omega, rfl, ?_, rfl⟩ (by omega) (Wk_ren [0] rfl rfl (by repeat (first | exact trivial | refine ⟨⟨rfl, rfl⟩, ?_⟩)) (by repeat (first | exact trivial | refine ⟨⟨rfl, rfl⟩, ?_⟩)) (by decide) (by omega)))
          | (refine Br_split (fun h => ?_) (fun h => ?_))
          | (refine fin0 rfl ?_)
          | (refine ArK_in (wrap_i64 (by omega) (by omega)) ?_)
          | (refine force_in ?_)))
        exact hinv
    · have hp1 : prevN x.attrs k = -1 := by
        unfold prevN
        rw [if_pos (by omega)]
      have hn : -1 < (x.attrs[k]).name := by
        unfold attrB at ha
        simp at ha
        omega
      rw [hp1, decide_eq_true hn, Bool.true_and, hp] at hinv
      repeat' ((conv => whnf); (first
        | (refine Br_true (by assumption) ?_)
        | (refine Br_false (by assumption) ?_)
        | (refine Br_true (beqT (by omega)) ?_)
        | (refine Br_false (beqF (by omega)) ?_)
        | (refine Br_beq (fun h => ?_) (fun h => ?_))
        | (refine Br_true (bneT (by omega)) ?_)
        | (refine Br_false (bneF (by omega)) ?_)
        | (refine Br_bne (fun h => ?_) (fun h => ?_))
        | (refine Br_true (decide_eq_true (by omega)) ?_)
        | (refine Br_false (decide_eq_false (by omega)) ?_)
        | (refine Br_dec (fun h => ?_) (fun h => ?_))
        | (refine Br_not ?_)
        | (refine Len_in (fun hlen => ?_))
        | (refine Back_in _ _ ⟨k + 1, by omega, rfl, ?_, rfl⟩ (by omega) (Wk_ren [0] rfl rfl (by repeat (first | exact trivial | refine ⟨⟨rfl, rfl⟩, ?_⟩)) (by repeat (first | exact trivial | refine ⟨⟨rfl, rfl⟩, ?_⟩)) (by decide) (by omega)))
        | (refine Br_split (fun h => ?_) (fun h => ?_))
        | (refine fin0 rfl ?_)
        | (refine ArK_in (wrap_i64 (by omega) (by omega)) ?_)
        | (refine force_in ?_)))
      exact hinv
  · simp at h
    repeat' ((conv => whnf); (first
      | (refine Br_true (by assumption) ?_)
      | (refine Br_false (by assumption) ?_)
      | (refine Br_true (beqT (by omega)) ?_)
      | (refine Br_false (beqF (by omega)) ?_)
      | (refine Br_beq (fun h => ?_) (fun h => ?_))
      | (refine Br_true (bneT (by omega)) ?_)
      | (refine Br_false (bneF (by omega)) ?_)
      | (refine Br_bne (fun h => ?_) (fun h => ?_))
      | (refine Br_true (decide_eq_true (by omega)) ?_)
      | (refine Br_false (decide_eq_false (by omega)) ?_)
      | (refine Br_dec (fun h => ?_) (fun h => ?_))
      | (refine Br_not ?_)
      | (refine Len_in (fun hlen => ?_))
      | (refine Br_split (fun h => ?_) (fun h => ?_))
      | (refine fin0 rfl ?_)
      | (refine ArK_in (wrap_i64 (by omega) (by omega)) ?_)
      | (refine force_in ?_)))
    rw [hinv, List.drop_eq_nil_of_le h]
    rfl
theorem ref_count (l : List Int) (n : Int) : Fn Tryd.prog 48 [.d (ints l), .i n] (.i (l.count n)) := by
  refine Fn_ofB tt_ok Tryd.func48 rfl (by decide) Tryd.ntmps48 rfl (fun hok => ?_)
  have hB := Ok_len (hok (.d (ints l)) (by simp))
  simp only [List.length_map] at hB
  refine W_loop (fun μ s => ∃ (k : Nat), k ≤ l.length ∧ μ = l.length - k ∧ (True) ∧ s = ⟨[(0, .d (ints l)), (1, .i n), (5, .i ((l.take k).count n)), (6, .i k)], 22, [], 0, []⟩) (l.length) ⟨_, ?_, 0, by simp, by simp, ?_, rfl⟩ ?_
  · exact Wk_env (by repeat (first | exact trivial | refine ⟨rfl, ?_⟩))
  · trivial
  rintro μ s1 ⟨k, hk, rfl, hinv, rfl⟩
  refine W_run tt_ok ?_
  refine Len_in (fun _ => ?_)
  refine Br_dec (fun h => ?_) (fun h => ?_)
  · simp at h
    have hct := List.count_le_length (a := n) (l := l.take k)
    simp only [List.length_take] at hct
    have htk : l.take (k + 1) = l.take k ++ [l[k]] := List.take_succ_eq_append_getElem h
    refine Idx_in (intCs l[k]) (by simp [h]) (by omega) rfl ?_
    refine Br_beq (fun h1 => ?_) (fun h1 => ?_)
    · have hc : (l.take (k + 1)).count n = (l.take k).count n + 1 := by rw [htk, List.count_append]; simp [h1]
      have hc' : (((l.take (k + 1)).count n : Nat) : Int) = ((l.take k).count n : Nat) + 1 := by rw [hc]; rfl
      repeat' ((conv => whnf); (first
        | (refine Br_true (by assumption) ?_)
        | (refine Br_false (by assumption) ?_)
        | (refine Br_true (beqT (by omega)) ?_)
        | (refine Br_false (beqF (by omega)) ?_)
        | (refine Br_beq (fun h => ?_) (fun h => ?_))
        | (refine Br_true (bneT (by omega)) ?_)
        | (refine Br_false (bneF (by omega)) ?_)
        | (refine Br_bne (fun h => ?_) (fun h => ?_))
        | (refine Br_true (decide_eq_true (by omega)) ?_)
        | (refine Br_false (decide_eq_false (by omega)) ?_)
        | (refine Br_dec (fun h => ?_) (fun h => ?_))
        | (refine Br_not ?_)
        | (refine Len_in (fun hlen => ?_))
        | (refine Back_in _ _ ⟨k + 1, by omega, rfl, ?_, rfl⟩ (by omega) (Wk_env (by rw [hc']; repeat (first | exact trivial | refine ⟨rfl, ?_⟩))))
        | (refine Br_split (fun h => ?_) (fun h => ?_))
        | (refine fin0 rfl ?_)
        | (refine ArK_in (wrap_i64 (by omega) (by omega)) ?_)
        | (refine force_in ?_)))
      trivial
    · have hc : (l.take (k + 1)).count n = (l.take k).count n := by rw [htk, List.count_append]; simp [h1]
      repeat' ((conv => whnf); (first
        | (refine Br_true (by assumption) ?_)
        | (refine Br_false (by assumption) ?_)
        | (refine Br_true (beqT (by omega)) ?_)
        | (refine Br_false (beqF (by omega)) ?_)
        | (refine Br_beq (fun h => ?_) (fun h => ?_))
        | (refine Br_true (bneT (by omega)) ?_)
        | (refine Br_false (bneF (by omega)) ?_)
        | (refine Br_bne (fun h => ?_) (fun h => ?_))
        | (refine Br_true (decide_eq_true (by omega)) ?_)
        | (refine Br_false (decide_eq_false (by omega)) ?_)
        | (refine Br_dec (fun h => ?_) (fun h => ?_))
        | (refine Br_not ?_)
        | (refine Len_in (fun hlen => ?_))
        | (refine Back_in _ _ ⟨k + 1, by omega, rfl, ?_, rfl⟩ (by omega) (Wk_env (by rw [hc]; repeat (first | exact trivial | refine ⟨rfl, ?_⟩))))
        | (refine Br_split (fun h => ?_) (fun h => ?_))
        | (refine fin0 rfl ?_)
        | (refine ArK_in (wrap_i64 (by omega) (by omega)) ?_)
        | (refine force_in ?_)))
      trivial
  · simp at h
    repeat' ((conv => whnf); (first
      | (refine Br_true (by assumption) ?_)
      | (refine Br_false (by assumption) ?_)
      | (refine Br_true (beqT (by omega)) ?_)
      | (refine Br_false (beqF (by omega)) ?_)
      | (refine Br_beq (fun h => ?_) (fun h => ?_))
      | (refine Br_true (bneT (by omega)) ?_)
      | (refine Br_false (bneF (by omega)) ?_)
      | (refine Br_bne (fun h => ?_) (fun h => ?_))
      | (refine Br_true (decide_eq_true (by omega)) ?_)
      | (refine Br_false (decide_eq_false (by omega)) ?_)
      | (refine Br_dec (fun h => ?_) (fun h => ?_))
      | (refine Br_not ?_)
      | (refine Len_in (fun hlen => ?_))
      | (refine Br_split (fun h => ?_) (fun h => ?_))
      | (refine fin0 rfl ?_)
      | (refine ArK_in (wrap_i64 (by omega) (by omega)) ?_)
      | (refine force_in ?_)))
    rw [List.take_of_length_le h]
end Go.Eng
set_option maxRecDepth 100000
set_option linter.unusedVariables false
namespace Go.Eng
open Go Go.Proofs
theorem ref_kind (x : Node) (n : Int) : Fn Tryd.prog 25 [aggD x.cs, .i n] (.b (kindB x n)) := by
  refine Fn_of tt_ok Tryd.func25 rfl (by decide) Tryd.ntmps25 rfl ?_
  repeat' ((conv => whnf); (first
    | (refine Br_true (by assumption) ?_)
    | (refine Br_false (by assumption) ?_)
    | (refine Br_true (beqT (by omega)) ?_)
    | (refine Br_false (beqF (by omega)) ?_)
    | (refine Br_beq (fun h => ?_) (fun h => ?_))
    | (refine Br_true (bneT (by omega)) ?_)
    | (refine Br_false (bneF (by omega)) ?_)
    | (refine Br_bne (fun h => ?_) (fun h => ?_))
    | (refine Br_true (decide_eq_true (by omega)) ?_)
    | (refine Br_false (decide_eq_false (by omega)) ?_)
    | (refine Br_dec (fun h => ?_) (fun h => ?_))
    | (refine Br_not ?_)
    | (refine Len_in (fun hlen => ?_))
    | (refine Br_split (fun h => ?_) (fun h => ?_))
    | (refine fin0 rfl ?_)
    | (refine ArK_in (wrap_i64 (by omega) (by omega)) ?_)
    | (refine force_in ?_)))
  all_goals simp only [AV.d.injEq, D.bool.injEq, kindB]
  all_goals grind
def kidsB (t : Tree) (n : Int) : Bool := (nd t n).kids.all (belowB t n) && !(decide ((nd t n).kind = 2) && !decide ((nd t n).kids = [])) && parB t (nd t n) n
theorem ref_kids (t : Tree) (n : Int) (hn : isN t n = true) : Fn Tryd.prog 27 [.d (treeD t), .i n] (.b (kidsB t n)) := by
  refine Fn_of tt_ok Tryd.func27 rfl (by decide) Tryd.ntmps27 rfl ?_
  refine Idx_nd hn rfl ?_
  refine W_loop (fun μ s => ∃ (k : Nat), k ≤ (nd t n).kids.length ∧ μ = (nd t n).kids.length - k ∧ (∀ j (h : j < (nd t n).kids.length), j < k → belowB t n (nd t n).kids[j] = true) ∧ s = ⟨[(0, .d (treeD t)), (1, .i n), (5, .ptr 0 0), (6, .i k)], 85, [some (.row ((nd t n).cs.map .d))], 0, []⟩) ((nd t n).kids.length) ⟨_, ?_, 0, by simp, by simp, ?_, rfl⟩ ?_
  · exact Wk_env (by repeat (first | exact trivial | refine ⟨rfl, ?_⟩))
  · intro j h hj; omega
  rintro μ s1 ⟨k, hk, rfl, hinv, rfl⟩
  refine W_run tt_ok ?_
  refine Len_in (fun hlen => ?_)
  simp only [List.length_map] at hlen
  have hz : (nd t n).kids = [] ↔ (nd t n).kids.length = 0 := by simp
  refine Br_dec (fun h => ?_) (fun h => ?_)
  · simp at h
    have hi : (List.map intCs (nd t n).kids)[(k : Int).toNat]? = some (intCs (nd t n).kids[k]) := by simp [h]
    refine Idx_in _ hi (by omega) rfl ?_
    have hb : belowB t n (nd t n).kids[k] = false → kidsB t n = false := by
      intro hb
      unfold kidsB
      rw [Bool.and_eq_false_iff]; left
      rw [Bool.and_eq_false_iff]; left
      rw [List.all_eq_false]
      exact ⟨_, List.getElem_mem h, by simp [hb]⟩
    have hx : belowB t n (nd t n).kids[k] = true → ∀ j (h : j < (nd t n).kids.length), j < k + 1 → belowB t n (nd t n).kids[j] = true := by
      intro hb j hj hjk
      rcases Nat.lt_succ_iff_lt_or_eq.1 hjk with h1 | h1
      · exact hinv j hj h1
      · subst h1; exact hb
    generalize (nd t n).kids[k] = q at hb hx
    repeat' ((conv => whnf); (first
      | (refine Br_true (by assumption) ?_)
      | (refine Br_false (by assumption) ?_)
      | (refine Br_true (beqT (by omega)) ?_)
      | (refine Br_false (beqF (by omega)) ?_)
      | (refine Br_beq (fun h => ?_) (fun h => ?_))
      | (refine Br_true (bneT (by omega)) ?_)
      | (refine Br_false (bneF (by omega)) ?_)
      | (refine Br_bne (fun h => ?_) (fun h => ?_))
      | (refine Br_true (decide_eq_true (by omega)) ?_)
      | (refine Br_false (decide_eq_false (by omega)) ?_)
      | (refine Br_dec (fun h => ?_) (fun h => ?_))
      | (refine Br_not ?_)
      | (refine Len_in (fun hlen => ?_))
      | (refine Fn.use (ref_Is _ _) rfl rfl ?_)
      | (refine CallF_in (ref_Is _ _) rfl rfl ?_)
      | (refine Fn.use (ref_count _ _) rfl rfl ?_)
      | (refine CallF_in (ref_count _ _) rfl rfl ?_)
      | (refine Idx_nd (by assumption) rfl ?_)
      | (refine Back_in _ _ ⟨k + 1, by omega, rfl, ?_, rfl⟩ (by omega) (Wk_env (by repeat (first | exact trivial | refine ⟨rfl, ?_⟩))))
      | (refine Br_split (fun h => ?_) (fun h => ?_))
      | (refine fin0 rfl ?_)
      | (refine ArK_in (wrap_i64 (by omega) (by omega)) ?_)
      | (refine force_in ?_)))
    all_goals first
      | (refine hx ?_; unfold belowB onceB; simp only [Bool.and_eq_true, Bool.or_eq_true, decide_eq_true_eq, beq_iff_eq]; grind)
      | (rw [hb]; unfold belowB onceB; rw [Bool.eq_false_iff]; simp only [ne_eq, Bool.and_eq_true, Bool.or_eq_true, decide_eq_true_eq, beq_iff_eq]; grind)
  · simp at h
    have ha : (nd t n).kids.all (belowB t n) = true := by
      rw [List.all_eq_true]
      intro y hy
      obtain ⟨j, hj, rfl⟩ := List.getElem_of_mem hy
      exact hinv j hj (by omega)
    repeat' ((conv => whnf); (first
      | (refine Br_true (by assumption) ?_)
      | (refine Br_false (by assumption) ?_)
      | (refine Br_true (beqT (by omega)) ?_)
      | (refine Br_false (beqF (by omega)) ?_)
      | (refine Br_beq (fun h => ?_) (fun h => ?_))
      | (refine Br_true (bneT (by omega)) ?_)
      | (refine Br_false (bneF (by omega)) ?_)
      | (refine Br_bne (fun h => ?_) (fun h => ?_))
      | (refine Br_true (decide_eq_true (by omega)) ?_)
      | (refine Br_false (decide_eq_false (by omega)) ?_)
      | (refine Br_dec (fun h => ?_) (fun h => ?_))
      | (refine Br_not ?_)
      | (refine Len_in (fun hlen => ?_))
      | (refine Fn.use (ref_Is _ _) rfl rfl ?_)
      | (refine CallF_in (ref_Is _ _) rfl rfl ?_)
      | (refine Fn.use (ref_count _ _) rfl rfl ?_)
      | (refine CallF_in (ref_count _ _) rfl rfl ?_)
      | (refine Idx_nd (by assumption) rfl ?_)
      | (refine Br_split (fun h => ?_) (fun h => ?_))
      | (refine fin0 rfl ?_)
      | (refine ArK_in (wrap_i64 (by omega) (by omega)) ?_)
      | (refine force_in ?_)))
    all_goals simp only [AV.d.injEq, D.bool.injEq, kidsB, ha, parB, onceB, List.length_map, hz] at *
    all_goals grind
theorem ref_shadow (t : Tree) (n : Int) (hn : isN t n = true) : Fn Tryd.prog 28 [.d (treeD t), .i n] (.b (shadowB t n)) := by
  refine Fn_of tt_ok Tryd.func28 rfl (by decide) Tryd.ntmps28 rfl ?_
  repeat' ((conv => whnf); (first
    | (refine Br_true (by assumption) ?_)
    | (refine Br_false (by assumption) ?_)
    | (refine Br_true (beqT (by omega)) ?_)
    | (refine Br_false (beqF (by omega)) ?_)
    | (refine Br_beq (fun h => ?_) (fun h => ?_))
    | (refine Br_true (bneT (by omega)) ?_)
    | (refine Br_false (bneF (by omega)) ?_)
    | (refine Br_bne (fun h => ?_) (fun h => ?_))
    | (refine Br_true (decide_eq_true (by omega)) ?_)
    | (refine Br_false (decide_eq_false (by omega)) ?_)
    | (refine Br_dec (fun h => ?_) (fun h => ?_))
    | (refine Br_not ?_)
    | (refine Len_in (fun hlen => ?_))
    | (refine Fn.use (ref_Is _ _) rfl rfl ?_)
    | (refine CallF_in (ref_Is _ _) rfl rfl ?_)
    | (refine Idx_nd hn rfl ?_)
    | (refine Idx_nd (by assumption) rfl ?_)
    | (refine Br_split (fun h => ?_) (fun h => ?_))
    | (refine fin0 rfl ?_)
    | (refine ArK_in (wrap_i64 (by omega) (by omega)) ?_)
    | (refine force_in ?_)))
  all_goals (simp only [shadowB, AV.d.injEq, D.bool.injEq]; simp_all <;> (rw [Bool.eq_iff_iff]; simp_all))
theorem ref_Up (t : Tree) (n : Int) (hn : isN t n = true) : Fn Tryd.prog 49 [.d (treeD t), .i n] (.i (upN (nd t n))) := by
  refine Fn_of tt_ok Tryd.func49 rfl (by decide) Tryd.ntmps49 rfl ?_
  repeat' ((conv => whnf); (first
    | (refine Br_true (by assumption) ?_)
    | (refine Br_false (by assumption) ?_)
    | (refine Br_true (beqT (by omega)) ?_)
    | (refine Br_false (beqF (by omega)) ?_)
    | (refine Br_beq (fun h => ?_) (fun h => ?_))
    | (refine Br_true (bneT (by omega)) ?_)
    | (refine Br_false (bneF (by omega)) ?_)
    | (refine Br_bne (fun h => ?_) (fun h => ?_))
    | (refine Br_true (decide_eq_true (by omega)) ?_)
    | (refine Br_false (decide_eq_false (by omega)) ?_)
    | (refine Br_dec (fun h => ?_) (fun h => ?_))
    | (refine Br_not ?_)
    | (refine Len_in (fun hlen => ?_))
    | (refine Idx_nd hn rfl ?_)
    | (refine Br_split (fun h => ?_) (fun h => ?_))
    | (refine fin0 rfl ?_)
    | (refine ArK_in (wrap_i64 (by omega) (by omega)) ?_)
    | (refine force_in ?_)))
  all_goals simp [upN, *]
end Go.Eng
set_option maxRecDepth 100000
set_option linter.unusedVariables false
namespace Go.Eng
open Go Go.Proofs
theorem endsF_step (t : Tree) (f : Nat) (c : Int) : endsF t (f + 1) c = (decide (c = -1) || endsF t f (upN (nd t c))) := rfl
theorem ref_ends (t : Tree) (n : Int) (hu : Ups t) (hn : okN t n) : Fn Tryd.prog 29 [.d (treeD t), .i n] (.b (endsB t n)) := by
  refine Fn_of tt_ok Tryd.func29 rfl (by decide) Tryd.ntmps29 rfl ?_
  refine W_loop (fun μ s => ∃ (k : Nat) (c : Int), k ≤ t.length + 1 ∧ μ = t.length + 1 - k ∧ okN t c ∧ endsB t n = endsF t (t.length + 1 - k) c ∧ s = ⟨[(0, .d (treeD t)), (1, .i c), (5, .i k)], 17, [], 0, []⟩) (t.length + 1) ⟨_, ?_, 0, n, by simp, by simp, hn, by unfold endsB; rfl, rfl⟩ ?_
  · exact Wk_env (by repeat (first | exact trivial | refine ⟨rfl, ?_⟩))
  rintro μ s1 ⟨k, c, hk, rfl, hc, he, rfl⟩
  refine W_run tt_ok ?_
  refine Len_in (fun hlen => ?_)
  simp only [List.length_map] at hlen
  refine Br_dec (fun h => ?_) (fun h => ?_)
  · simp at h
    rw [show t.length + 1 - k = (t.length + 1 - (k + 1)) + 1 by omega, endsF_step] at he
    refine Br_beq (fun h1 => ?_) (fun h1 => ?_)
    · repeat' ((conv => whnf); (first
      | (refine Br_true (by assumption) ?_)
      | (refine Br_false (by assumption) ?_)
      | (refine Br_true (beqT (by omega)) ?_)
      | (refine Br_false (beqF (by omega)) ?_)
      | (refine Br_beq (fun h => ?_) (fun h => ?_))
      | (refine Br_true (bneT (by omega)) ?_)
      | (refine Br_false (bneF (by omega)) ?_)
      | (refine Br_bne (fun h => ?_) (fun h => ?_))
      | (refine Br_true (decide_eq_true (by omega)) ?_)
      | (refine Br_false (decide_eq_false (by omega)) ?_)
      | (refine Br_dec (fun h => ?_) (fun h => ?_))
      | (refine Br_not ?_)
      | (refine Len_in (fun hlen => ?_))
      | (refine Br_split (fun h => ?_) (fun h => ?_))
      | (refine fin0 rfl ?_)
      | (refine ArK_in (wrap_i64 (by omega) (by omega)) ?_)
      | (refine force_in ?_)))
      rw [he, decide_eq_true h1]; rfl
    · have hc' : isN t c = true := hc.resolve_left h1
      obtain ⟨hu1, hu2⟩ := hu c hc'
      rw [hu2] at hu1
      rw [decide_eq_false h1, Bool.false_or] at he
      repeat' ((conv => whnf); (first
        | (refine Br_true (by assumption) ?_)
        | (refine Br_false (by assumption) ?_)
        | (refine Br_true (beqT (by omega)) ?_)
        | (refine Br_false (beqF (by omega)) ?_)
        | (refine Br_beq (fun h => ?_) (fun h => ?_))
        | (refine Br_true (bneT (by omega)) ?_)
        | (refine Br_false (bneF (by omega)) ?_)
        | (refine Br_bne (fun h => ?_) (fun h => ?_))
        | (refine Br_true (decide_eq_true (by omega)) ?_)
        | (refine Br_false (decide_eq_false (by omega)) ?_)
        | (refine Br_dec (fun h => ?_) (fun h => ?_))
        | (refine Br_not ?_)
        | (refine Len_in (fun hlen => ?_))
        | (refine Fn.use (ref_Up t c hc') rfl rfl ?_)
        | (refine CallF_in (ref_Up t c hc') rfl rfl ?_)
        | (refine Back_in _ _ ⟨k + 1, _, by omega, rfl, hu1, he, rfl⟩ (by omega) (Wk_env (by repeat (first | exact trivial | refine ⟨rfl, ?_⟩))))
        | (refine Br_split (fun h => ?_) (fun h => ?_))
        | (refine fin0 rfl ?_)
        | (refine ArK_in (wrap_i64 (by omega) (by omega)) ?_)
        | (refine force_in ?_)))
  · simp at h
    rw [show t.length + 1 - k = 0 by omega] at he
    repeat' ((conv => whnf); (first
      | (refine Br_true (by assumption) ?_)
      | (refine Br_false (by assumption) ?_)
      | (refine Br_true (beqT (by omega)) ?_)
      | (refine Br_false (beqF (by omega)) ?_)
      | (refine Br_beq (fun h => ?_) (fun h => ?_))
      | (refine Br_true (bneT (by omega)) ?_)
      | (refine Br_false (bneF (by omega)) ?_)
      | (refine Br_bne (fun h => ?_) (fun h => ?_))
      | (refine Br_true (decide_eq_true (by omega)) ?_)
      | (refine Br_false (decide_eq_false (by omega)) ?_)
      | (refine Br_dec (fun h => ?_) (fun h => ?_))
      | (refine Br_not ?_)
      | (refine Len_in (fun hlen => ?_))
      | (refine Br_split (fun h => ?_) (fun h => ?_))
      | (refine fin0 rfl ?_)
      | (refine ArK_in (wrap_i64 (by omega) (by omega)) ?_)
      | (refine force_in ?_)))
    rw [he]; rfl
theorem nodeB_ref (t : Tree) (n : Int) : nodeB t n = (kindB (nd t n) n && attrsB (nd t n) && kidsB t n && shadowB t n) := by
  unfold nodeB kidsB
  grind
theorem ref_May (t : Tree) : Fn Tryd.prog 12 [.d (treeD t)] (.b (mayB t)) := by
  refine Fn_of tt_ok Tryd.func12 rfl (by decide) Tryd.ntmps12 rfl ?_
  refine Len_in (fun hlen => ?_)
  simp only [List.length_map] at hlen
  have hout : ¬ (1 ≤ t.length ∧ t.length ≤ 64) → mayB t = false := fun h => by unfold mayB; simp; intro h1 h2; omega
  have hbad : ∀ k : Nat, k < t.length → nodeB t k = false → mayB t = false := fun k h hq => by
    unfold mayB
    rw [Bool.and_eq_false_iff]; left
    rw [Bool.and_eq_false_iff]; right
    rw [List.all_eq_false]
    exact ⟨k, by simpa using h, by simp [hq]⟩
  have hend : ∀ k : Nat, k < t.length → endsB t k = false → mayB t = false := fun k h hq => by
    unfold mayB
    rw [Bool.and_eq_false_iff]; right
    rw [List.all_eq_false]
    exact ⟨k, by simpa using h, by simp [hq]⟩
  have hin : ∀ Q : Prop, (¬ (1 ≤ t.length ∧ t.length ≤ 64) → Q) → (1 ≤ t.length ∧ t.length ≤ 64 → Q) → Q := fun Q a b => (Classical.em _).elim b a
  refine hin _ (fun hx => ?_) (fun hok => ?_)
  · have e : (List.map Node.cs t).length = t.length := by simp
    repeat' ((conv => whnf); (first
      | (refine Br_true (by assumption) ?_)
      | (refine Br_false (by assumption) ?_)
      | (refine Br_true (beqT (by omega)) ?_)
      | (refine Br_false (beqF (by omega)) ?_)
      | (refine Br_beq (fun h => ?_) (fun h => ?_))
      | (refine Br_true (bneT (by omega)) ?_)
      | (refine Br_false (bneF (by omega)) ?_)
      | (refine Br_bne (fun h => ?_) (fun h => ?_))
      | (refine Br_true (decide_eq_true (by omega)) ?_)
      | (refine Br_false (decide_eq_false (by omega)) ?_)
      | (refine Br_dec (fun h => ?_) (fun h => ?_))
      | (refine Br_not ?_)
      | (refine Len_in (fun hlen => ?_))
      | (refine Br_split (fun h => ?_) (fun h => ?_))
      | (refine fin0 rfl ?_)
      | (refine ArK_in (wrap_i64 (by omega) (by omega)) ?_)
      | (refine force_in ?_)))
    all_goals rw [hout hx]
  refine Br_false (decide_eq_false (by simp; omega)) ?_
  refine Len_in (fun _ => ?_)
  refine Br_false (decide_eq_false (by simp; omega)) ?_
  refine W_loop (fun μ s => ∃ (k : Nat), k ≤ t.length ∧ μ = t.length - k ∧ (∀ j : Nat, j < k → nodeB t j = true) ∧ s = ⟨[(0, .d (treeD t)), (3, .i k)], 56, [], 0, []⟩) (t.length) ⟨_, ?_, 0, by simp, by simp, ?_, rfl⟩ ?_
  · exact Wk_env (by repeat (first | exact trivial | refine ⟨rfl, ?_⟩))
  · intro j hj; omega
  rintro μ s1 ⟨k, hk, rfl, hinv, rfl⟩
  refine W_run tt_ok ?_
  refine Len_in (fun _ => ?_)
  refine Br_dec (fun h => ?_) (fun h => ?_)
  · simp at h
    have hk := isN_nat h
    have hb := hbad k h
    rw [nodeB_ref] at hb
    repeat' ((conv => whnf); (first
      | (refine Br_true (by assumption) ?_)
      | (refine Br_false (by assumption) ?_)
      | (refine Br_true (beqT (by omega)) ?_)
      | (refine Br_false (beqF (by omega)) ?_)
      | (refine Br_beq (fun h => ?_) (fun h => ?_))
      | (refine Br_true (bneT (by omega)) ?_)
      | (refine Br_false (bneF (by omega)) ?_)
      | (refine Br_bne (fun h => ?_) (fun h => ?_))
      | (refine Br_true (decide_eq_true (by omega)) ?_)
      | (refine Br_false (decide_eq_false (by omega)) ?_)
      | (refine Br_dec (fun h => ?_) (fun h => ?_))
      | (refine Br_not ?_)
      | (refine Len_in (fun hlen => ?_))
      | (refine Fn.use (ref_kind _ _) rfl rfl ?_)
      | (refine CallF_in (ref_kind _ _) rfl rfl ?_)
      | (refine Fn.use (ref_attrs _) rfl rfl ?_)
      | (refine CallF_in (ref_attrs _) rfl rfl ?_)
      | (refine Fn.use (ref_kids _ _ hk) rfl rfl ?_)
      | (refine CallF_in (ref_kids _ _ hk) rfl rfl ?_)
      | (refine Fn.use (ref_shadow _ _ hk) rfl rfl ?_)
      | (refine CallF_in (ref_shadow _ _ hk) rfl rfl ?_)
      | (refine Idx_nd hk rfl ?_)
      | (refine Back_in _ _ ⟨k + 1, by omega, rfl, ?_, rfl⟩ (by omega) (Wk_env (by repeat (first | exact trivial | refine ⟨rfl, ?_⟩))))
      | (refine Br_split (fun h => ?_) (fun h => ?_))
      | (refine fin0 rfl ?_)
      | (refine ArK_in (wrap_i64 (by omega) (by omega)) ?_)
      | (refine force_in ?_)))
    all_goals first
      | (intro j hj
         rcases Nat.lt_succ_iff_lt_or_eq.1 hj with h1 | h1
         · exact hinv j h1
         · subst h1; rw [nodeB_ref]; simp only [*]; rfl)
      | (rw [hb]; simp only [*]; simp)
  · simp at h
    have hk' : k = t.length := by omega
    subst hk'
    have hu := ups_of t hinv
    refine W_loop (fun μ s => ∃ (k : Nat), k ≤ t.length ∧ μ = t.length - k ∧ (∀ j : Nat, j < k → endsB t j = true) ∧ s = ⟨[(0, .d (treeD t)), (4, .i k)], 56, [], 0, []⟩) t.length ⟨_, ?_, 0, by simp, by simp, by simp, rfl⟩ ?_
    · exact Wk_env (by repeat (first | exact trivial | refine ⟨rfl, ?_⟩))
    rintro μ s1 ⟨k, hk, rfl, hen, rfl⟩
    refine W_run tt_ok ?_
    refine Len_in (fun _ => ?_)
    refine Br_dec (fun h => ?_) (fun h => ?_)
    · simp at h
      have hlt := h
      repeat' ((conv => whnf); (first
        | (refine Br_true (by assumption) ?_)
        | (refine Br_false (by assumption) ?_)
        | (refine Br_true (beqT (by omega)) ?_)
        | (refine Br_false (beqF (by omega)) ?_)
        | (refine Br_beq (fun h => ?_) (fun h => ?_))
        | (refine Br_true (bneT (by omega)) ?_)
        | (refine Br_false (bneF (by omega)) ?_)
        | (refine Br_bne (fun h => ?_) (fun h => ?_))
        | (refine Br_true (decide_eq_true (by omega)) ?_)
        | (refine Br_false (decide_eq_false (by omega)) ?_)
        | (refine Br_dec (fun h => ?_) (fun h => ?_))
        | (refine Br_not ?_)
        | (refine Len_in (fun hlen => ?_))
        | (refine Fn.use (ref_ends _ _ hu (.inr (isN_nat hlt))) rfl rfl ?_)
        | (refine CallF_in (ref_ends _ _ hu (.inr (isN_nat hlt))) rfl rfl ?_)
        | (refine Back_in _ _ ⟨k + 1, by omega, rfl, ?_, rfl⟩ (by omega) (Wk_env (by repeat (first | exact trivial | refine ⟨rfl, ?_⟩))))
        | (refine Br_split (fun h => ?_) (fun h => ?_))
        | (refine fin0 rfl ?_)
        | (refine ArK_in (wrap_i64 (by omega) (by omega)) ?_)
        | (refine force_in ?_)))
      · intro j hj
        rcases Nat.lt_succ_iff_lt_or_eq.1 hj with h1 | h1
        · exact hen j h1
        · subst h1; assumption
      · rw [hend k hlt (by assumption)]
    · simp at h
      repeat' ((conv => whnf); (first
        | (refine Br_true (by assumption) ?_)
        | (refine Br_false (by assumption) ?_)
        | (refine Br_true (beqT (by omega)) ?_)
        | (refine Br_false (beqF (by omega)) ?_)
        | (refine Br_beq (fun h => ?_) (fun h => ?_))
        | (refine Br_true (bneT (by omega)) ?_)
        | (refine Br_false (bneF (by omega)) ?_)
        | (refine Br_bne (fun h => ?_) (fun h => ?_))
        | (refine Br_true (decide_eq_true (by omega)) ?_)
        | (refine Br_false (decide_eq_false (by omega)) ?_)
        | (refine Br_dec (fun h => ?_) (fun h => ?_))
        | (refine Br_not ?_)
        | (refine Len_in (fun hlen => ?_))
        | (refine Br_split (fun h => ?_) (fun h => ?_))
        | (refine fin0 rfl ?_)
        | (refine ArK_in (wrap_i64 (by omega) (by omega)) ?_)
        | (refine force_in ?_)))
      unfold mayB
      simp only [AV.d.injEq, D.bool.injEq]
      symm
      simp only [Bool.and_eq_true, List.all_eq_true, List.mem_range, decide_eq_true_eq]
      exact ⟨⟨hok, hinv⟩, fun j hj => hen j (by omega)⟩
theorem eq_step {α : Type} [DecidableEq α] {a b : List α} (hl : a.length = b.length) {k : Nat} (h : k < a.length) (hp : a.take k = b.take k) (he : a[k] = b[k]'(hl ▸ h)) : a.take (k + 1) = b.take (k + 1) := by
  rw [List.take_succ_eq_append_getElem h, List.take_succ_eq_append_getElem (hl ▸ h), hp, he]
theorem ref_Ints (a b : List Int) : Fn Tryd.prog 57 [.d (ints a), .d (ints b)] (.b (decide (a = b))) := by
  refine Fn_of tt_ok Tryd.func57 rfl (by decide) Tryd.ntmps57 rfl ?_
  refine Len_in (fun hla => ?_)
  refine Len_in (fun hlb => ?_)
  simp only [List.length_map] at hla hlb
  refine Br_bne (fun h => ?_) (fun hl => ?_)
  · repeat' ((conv => whnf); (first
    | (refine Br_true (by assumption) ?_)
    | (refine Br_false (by assumption) ?_)
    | (refine Br_true (beqT (by omega)) ?_)
    | (refine Br_false (beqF (by omega)) ?_)
    | (refine Br_beq (fun h => ?_) (fun h => ?_))
    | (refine Br_true (bneT (by omega)) ?_)
    | (refine Br_false (bneF (by omega)) ?_)
    | (refine Br_bne (fun h => ?_) (fun h => ?_))
    | (refine Br_true (decide_eq_true (by omega)) ?_)
    | (refine Br_false (decide_eq_false (by omega)) ?_)
    | (refine Br_dec (fun h => ?_) (fun h => ?_))
    | (refine Br_not ?_)
    | (refine Len_in (fun hlen => ?_))
    | (refine Br_split (fun h => ?_) (fun h => ?_))
    | (refine fin0 rfl ?_)
    | (refine ArK_in (wrap_i64 (by omega) (by omega)) ?_)
    | (refine force_in ?_)))
    simp only [AV.d.injEq, D.bool.injEq]
    symm
    rw [decide_eq_false_iff_not]
    rintro rfl
    exact h rfl
  have hl : a.length = b.length := by have := hl; simp at this; omega
  refine W_loop (fun μ s => ∃ (k : Nat), k ≤ a.length ∧ μ = a.length - k ∧ (a.take k = b.take k) ∧ s = ⟨[(0, .d (ints a)), (1, .d (ints b)), (5, .i k)], 26, [], 0, []⟩) (a.length) ⟨_, ?_, 0, by simp, by simp, ?_, rfl⟩ ?_
  · exact Wk_env (by repeat (first | exact trivial | refine ⟨rfl, ?_⟩))
  · rfl
  rintro μ s1 ⟨k, hk, rfl, hinv, rfl⟩
  refine W_run tt_ok ?_
  refine Len_in (fun _ => ?_)
  refine Br_dec (fun h => ?_) (fun h => ?_)
  · simp at h
    have hlt := h
    have ha : (List.map intCs a)[(k : Int).toNat]? = some (intCs a[k]) := by simp [hlt]
    have hb : (List.map intCs b)[(k : Int).toNat]? = some (intCs (b[k]'(hl ▸ hlt))) := by simp [hl ▸ hlt]
    repeat' ((conv => whnf); (first
      | (refine Br_true (by assumption) ?_)
      | (refine Br_false (by assumption) ?_)
      | (refine Br_true (beqT (by omega)) ?_)
      | (refine Br_false (beqF (by omega)) ?_)
      | (refine Br_beq (fun h => ?_) (fun h => ?_))
      | (refine Br_true (bneT (by omega)) ?_)
      | (refine Br_false (bneF (by omega)) ?_)
      | (refine Br_bne (fun h => ?_) (fun h => ?_))
      | (refine Br_true (decide_eq_true (by omega)) ?_)
      | (refine Br_false (decide_eq_false (by omega)) ?_)
      | (refine Br_dec (fun h => ?_) (fun h => ?_))
      | (refine Br_not ?_)
      | (refine Len_in (fun hlen => ?_))
      | (refine W_draw 0 tt_ok mixed (by kernel_rfl) ?_)
      | (refine Idx_in _ ha (by omega) rfl ?_)
      | (refine Idx_in _ hb (by omega) rfl ?_)
      | (refine Back_in _ _ ⟨k + 1, by omega, rfl, ?_, rfl⟩ (by omega) (Wk_env (by repeat (first | exact trivial | refine ⟨rfl, ?_⟩))))
      | (refine Br_split (fun h => ?_) (fun h => ?_))
      | (refine fin0 rfl ?_)
      | (refine ArK_in (wrap_i64 (by omega) (by omega)) ?_)
      | (refine force_in ?_)))
    · simp only [AV.d.injEq, D.bool.injEq]
      symm
      rw [decide_eq_false_iff_not]
      intro e
      subst e
      exact h rfl
    · exact eq_step hl hlt hinv (by assumption)
  · simp at h
    repeat' ((conv => whnf); (first
      | (refine Br_true (by assumption) ?_)
      | (refine Br_false (by assumption) ?_)
      | (refine Br_true (beqT (by omega)) ?_)
      | (refine Br_false (beqF (by omega)) ?_)
      | (refine Br_beq (fun h => ?_) (fun h => ?_))
      | (refine Br_true (bneT (by omega)) ?_)
      | (refine Br_false (bneF (by omega)) ?_)
      | (refine Br_bne (fun h => ?_) (fun h => ?_))
      | (refine Br_true (decide_eq_true (by omega)) ?_)
      | (refine Br_false (decide_eq_false (by omega)) ?_)
      | (refine Br_dec (fun h => ?_) (fun h => ?_))
      | (refine Br_not ?_)
      | (refine Len_in (fun hlen => ?_))
      | (refine Br_split (fun h => ?_) (fun h => ?_))
      | (refine fin0 rfl ?_)
      | (refine ArK_in (wrap_i64 (by omega) (by omega)) ?_)
      | (refine force_in ?_)))
    rw [List.take_of_length_le h, List.take_of_length_le (by omega)] at hinv
    simp [hinv]
end Go.Eng
set_option maxRecDepth 100000
set_option linter.unusedVariables false
namespace Go.Eng
open Go Go.Proofs
theorem node_eq (a b : Node) : a = b ↔ (a.kind = b.kind ∧ a.tag = b.tag ∧ a.parent = b.parent ∧ a.host = b.host ∧ a.root = b.root ∧ a.attrs = b.attrs ∧ a.kids = b.kids) := by
  cases a; cases b; simp only [Node.mk.injEq]; grind
theorem ref_One (a b : Node) : Fn Tryd.prog 42 [aggD a.cs, aggD b.cs] (.b (decide (a = b))) := by
  refine Fn_of tt_ok Tryd.func42 rfl (by decide) Tryd.ntmps42 rfl ?_
  have hno : a ≠ b → AV.d (.bool false) = AV.b (decide (a = b)) := fun h => by rw [decide_eq_false h]
  have ea : (List.map Attr.cs a.attrs).length = a.attrs.length := by simp
  have eb : (List.map Attr.cs b.attrs).length = b.attrs.length := by simp
  by_cases hk : a.kind = b.kind ∧ a.tag = b.tag ∧ a.parent = b.parent ∧ a.host = b.host ∧ a.root = b.root ∧ a.attrs.length = b.attrs.length
  rotate_left
  · have hne : a ≠ b := fun e => hk (by subst e; exact ⟨rfl, rfl, rfl, rfl, rfl, rfl⟩)
    repeat' ((conv => whnf); (first
      | (refine Br_true (by assumption) ?_)
      | (refine Br_false (by assumption) ?_)
      | (refine Br_true (beqT (by omega)) ?_)
      | (refine Br_false (beqF (by omega)) ?_)
      | (refine Br_beq (fun h => ?_) (fun h => ?_))
      | (refine Br_true (bneT (by omega)) ?_)
      | (refine Br_false (bneF (by omega)) ?_)
      | (refine Br_bne (fun h => ?_) (fun h => ?_))
      | (refine Br_true (decide_eq_true (by omega)) ?_)
      | (refine Br_false (decide_eq_false (by omega)) ?_)
      | (refine Br_dec (fun h => ?_) (fun h => ?_))
      | (refine Br_not ?_)
      | (refine Len_in (fun hlen => ?_))
      | (refine finQ ⟨hno hne, rfl⟩)
      | (refine Br_split (fun h => ?_) (fun h => ?_))
      | (refine fin0 rfl ?_)
      | (refine ArK_in (wrap_i64 (by omega) (by omega)) ?_)
      | (refine force_in ?_)))
    all_goals first
      | exact hno hne
      | (exfalso; exact hk (by refine ⟨?_, ?_, ?_, ?_, ?_, ?_⟩ <;> omega))
  obtain ⟨e1, e2, e3, e4, e5, hl⟩ := hk
  conv => whnf
  refine Br_false (bneF e1) ?_
  conv => whnf
  refine Br_false (bneF e2) ?_
  conv => whnf
  refine Br_false (bneF e3) ?_
  conv => whnf
  refine Br_false (bneF e4) ?_
  conv => whnf
  refine Br_false (bneF e5) ?_
  conv => whnf
  refine Len_in (fun hla => ?_)
  conv => whnf
  refine Len_in (fun hlb => ?_)
  conv => whnf
  refine Br_false (bneF (by omega)) ?_
  have hlim : a.attrs.length ≤ 281474976710656 := by rw [← ea]; exact hla
  clear hla hlb
  refine W_loop (fun μ s => ∃ (k : Nat), k ≤ a.attrs.length ∧ μ = a.attrs.length - k ∧ (a.attrs.take k = b.attrs.take k) ∧ s = ⟨[(2, .ptr 0 0), (3, .ptr 1 0), (5, .i k)], 71, [some (.row (a.cs.map .d)), some (.row (b.cs.map .d))], 0, []⟩) (a.attrs.length) ⟨_, ?_, 0, by simp, by simp, ?_, rfl⟩ ?_
  · exact Wk_env (by repeat (first | exact trivial | refine ⟨rfl, ?_⟩))
  · rfl
  rintro μ s1 ⟨k, hk, rfl, hinv, rfl⟩
  refine W_run tt_ok ?_
  refine Len_in (fun _ => ?_)
  refine Br_dec (fun h => ?_) (fun h => ?_)
  · simp at h
    have hlt := h
    have ha : (List.map Attr.cs a.attrs)[(k : Int).toNat]? = some (a.attrs[k]).cs := by simp [hlt]
    have hb : (List.map Attr.cs b.attrs)[(k : Int).toNat]? = some (b.attrs[k]'(hl ▸ hlt)).cs := by simp [hl ▸ hlt]
    have hin : a.attrs[k] = b.attrs[k]'(hl ▸ hlt) → a.attrs.take (k + 1) = b.attrs.take (k + 1) := eq_step hl hlt hinv
    have hne : a.attrs[k] ≠ b.attrs[k]'(hl ▸ hlt) → a ≠ b := fun h e => by subst e; exact h rfl
    have exy : ∀ x y : Attr, x = y ↔ (x.name == y.name && x.value == y.value) = true := fun x y => by
      cases x; cases y; simp
    repeat' ((conv => whnf); (first
      | (refine Br_true (by assumption) ?_)
      | (refine Br_false (by assumption) ?_)
      | (refine Br_true (beqT (by omega)) ?_)
      | (refine Br_false (beqF (by omega)) ?_)
      | (refine Br_beq (fun h => ?_) (fun h => ?_))
      | (refine Br_true (bneT (by omega)) ?_)
      | (refine Br_false (bneF (by omega)) ?_)
      | (refine Br_bne (fun h => ?_) (fun h => ?_))
      | (refine Br_true (decide_eq_true (by omega)) ?_)
      | (refine Br_false (decide_eq_false (by omega)) ?_)
      | (refine Br_dec (fun h => ?_) (fun h => ?_))
      | (refine Br_not ?_)
      | (refine Len_in (fun hlen => ?_))
      | (refine W_draw 0 tt_ok mixed (by kernel_rfl) ?_)
      | (refine Idx_in _ ha (by omega) rfl ?_)
      | (refine Idx_in _ hb (by omega) rfl ?_)
      | (refine Back_in _ _ ⟨k + 1, by omega, rfl, ?_, rfl⟩ (by omega) (Wk_env (by repeat (first | exact trivial | refine ⟨rfl, ?_⟩))))
      | (refine Br_split (fun h => ?_) (fun h => ?_))
      | (refine fin0 rfl ?_)
      | (refine ArK_in (wrap_i64 (by omega) (by omega)) ?_)
      | (refine force_in ?_)))
    · exact hin ((exy _ _).2 (by assumption))
    · refine hno (hne fun e => ?_)
      have h2 := (exy _ _).1 e
      have h1 : ((a.attrs[k]).name == (b.attrs[k]'(hl ▸ hlt)).name && (a.attrs[k]).value == (b.attrs[k]'(hl ▸ hlt)).value) = false := by assumption
      rw [h1] at h2
      exact Bool.noConfusion h2
  · simp at h
    rw [List.take_of_length_le h, List.take_of_length_le (by omega)] at hinv
    repeat' ((conv => whnf); (first
      | (refine Br_true (by assumption) ?_)
      | (refine Br_false (by assumption) ?_)
      | (refine Br_true (beqT (by omega)) ?_)
      | (refine Br_false (beqF (by omega)) ?_)
      | (refine Br_beq (fun h => ?_) (fun h => ?_))
      | (refine Br_true (bneT (by omega)) ?_)
      | (refine Br_false (bneF (by omega)) ?_)
      | (refine Br_bne (fun h => ?_) (fun h => ?_))
      | (refine Br_true (decide_eq_true (by omega)) ?_)
      | (refine Br_false (decide_eq_false (by omega)) ?_)
      | (refine Br_dec (fun h => ?_) (fun h => ?_))
      | (refine Br_not ?_)
      | (refine Len_in (fun hlen => ?_))
      | (refine Fn.use (ref_Ints _ _) rfl rfl ?_)
      | (refine CallF_in (ref_Ints _ _) rfl rfl ?_)
      | (refine Br_split (fun h => ?_) (fun h => ?_))
      | (refine fin0 rfl ?_)
      | (refine ArK_in (wrap_i64 (by omega) (by omega)) ?_)
      | (refine force_in ?_)))
    simp only [AV.d.injEq, D.bool.injEq, node_eq, e1, e2, e3, e4, e5, hinv, true_and]
end Go.Eng
set_option maxRecDepth 100000
set_option linter.unusedVariables false
namespace Go.Eng
open Go Go.Proofs
theorem ref_Same (a b : Tree) : Fn Tryd.prog 19 [.d (treeD a), .d (treeD b)] (.b (decide (a = b))) := by
  refine Fn_of tt_ok Tryd.func19 rfl (by decide) Tryd.ntmps19 rfl ?_
  refine Len_in (fun hla => ?_)
  refine Len_in (fun hlb => ?_)
  simp only [List.length_map] at hla hlb
  have hno : a ≠ b → AV.d (.bool false) = AV.b (decide (a = b)) := fun h => by rw [decide_eq_false h]
  refine Br_bne (fun h => ?_) (fun hl => ?_)
  · repeat' ((conv => whnf); (first
    | (refine Br_true (by assumption) ?_)
    | (refine Br_false (by assumption) ?_)
    | (refine Br_true (beqT (by omega)) ?_)
    | (refine Br_false (beqF (by omega)) ?_)
    | (refine Br_beq (fun h => ?_) (fun h => ?_))
    | (refine Br_true (bneT (by omega)) ?_)
    | (refine Br_false (bneF (by omega)) ?_)
    | (refine Br_bne (fun h => ?_) (fun h => ?_))
    | (refine Br_true (decide_eq_true (by omega)) ?_)
    | (refine Br_false (decide_eq_false (by omega)) ?_)
    | (refine Br_dec (fun h => ?_) (fun h => ?_))
    | (refine Br_not ?_)
    | (refine Len_in (fun hlen => ?_))
    | (refine Br_split (fun h => ?_) (fun h => ?_))
    | (refine fin0 rfl ?_)
    | (refine ArK_in (wrap_i64 (by omega) (by omega)) ?_)
    | (refine force_in ?_)))
    refine hno fun e => ?_
    subst e
    exact h rfl
  have hl : a.length = b.length := by have := hl; simp at this; omega
  refine W_loop (fun μ s => ∃ (k : Nat), k ≤ a.length ∧ μ = a.length - k ∧ (a.take k = b.take k) ∧ s = ⟨[(0, .d (treeD a)), (1, .d (treeD b)), (5, .i k)], 27, [], 0, []⟩) (a.length) ⟨_, ?_, 0, by simp, by simp, ?_, rfl⟩ ?_
  · exact Wk_env (by repeat (first | exact trivial | refine ⟨rfl, ?_⟩))
  · rfl
  rintro μ s1 ⟨k, hk, rfl, hinv, rfl⟩
  refine W_run tt_ok ?_
  refine Len_in (fun _ => ?_)
  refine Br_dec (fun h => ?_) (fun h => ?_)
  · simp at h
    have hlt := h
    have ha : (List.map Node.cs a)[(k : Int).toNat]? = some (a[k]).cs := by simp [hlt]
    have hb : (List.map Node.cs b)[(k : Int).toNat]? = some (b[k]'(hl ▸ hlt)).cs := by simp [hl ▸ hlt]
    repeat' ((conv => whnf); (first
      | (refine Br_true (by assumption) ?_)
      | (refine Br_false (by assumption) ?_)
      | (refine Br_true (beqT (by omega)) ?_)
      | (refine Br_false (beqF (by omega)) ?_)
      | (refine Br_beq (fun h => ?_) (fun h => ?_))
      | (refine Br_true (bneT (by omega)) ?_)
      | (refine Br_false (bneF (by omega)) ?_)
      | (refine Br_bne (fun h => ?_) (fun h => ?_))
      | (refine Br_true (decide_eq_true (by omega)) ?_)
      | (refine Br_false (decide_eq_false (by omega)) ?_)
      | (refine Br_dec (fun h => ?_) (fun h => ?_))
      | (refine Br_not ?_)
      | (refine Len_in (fun hlen => ?_))
      | (refine W_draw 0 tt_ok mixed (by kernel_rfl) ?_)
      | (refine Idx_in _ ha (by omega) rfl ?_)
      | (refine Idx_in _ hb (by omega) rfl ?_)
      | (refine Fn.use (ref_One _ _) rfl rfl ?_)
      | (refine CallF_in (ref_One _ _) rfl rfl ?_)
      | (refine Back_in _ _ ⟨k + 1, by omega, rfl, ?_, rfl⟩ (by omega) (Wk_env (by repeat (first | exact trivial | refine ⟨rfl, ?_⟩))))
      | (refine Br_split (fun h => ?_) (fun h => ?_))
      | (refine fin0 rfl ?_)
      | (refine ArK_in (wrap_i64 (by omega) (by omega)) ?_)
      | (refine force_in ?_)))
    · exact eq_step hl hlt hinv (by assumption)
    · refine hno fun e => ?_
      have h1 : ¬ a[k] = b[k]'(hl ▸ hlt) := by assumption
      subst e
      exact h1 rfl
  · simp at h
    repeat' ((conv => whnf); (first
      | (refine Br_true (by assumption) ?_)
      | (refine Br_false (by assumption) ?_)
      | (refine Br_true (beqT (by omega)) ?_)
      | (refine Br_false (beqF (by omega)) ?_)
      | (refine Br_beq (fun h => ?_) (fun h => ?_))
      | (refine Br_true (bneT (by omega)) ?_)
      | (refine Br_false (bneF (by omega)) ?_)
      | (refine Br_bne (fun h => ?_) (fun h => ?_))
      | (refine Br_true (decide_eq_true (by omega)) ?_)
      | (refine Br_false (decide_eq_false (by omega)) ?_)
      | (refine Br_dec (fun h => ?_) (fun h => ?_))
      | (refine Br_not ?_)
      | (refine Len_in (fun hlen => ?_))
      | (refine Br_split (fun h => ?_) (fun h => ?_))
      | (refine fin0 rfl ?_)
      | (refine ArK_in (wrap_i64 (by omega) (by omega)) ?_)
      | (refine force_in ?_)))
    rw [List.take_of_length_le h, List.take_of_length_le (by omega)] at hinv
    simp [hinv]
def smallB (t : Tree) : Bool := decide (t.length ≤ 70) && t.all fun x => decide (x.kids.length ≤ 80) && decide (x.attrs.length ≤ 20)
theorem ref_Small (t : Tree) : Fn Tryd.prog 9 [.d (treeD t)] (.b (smallB t)) := by
  refine Fn_of tt_ok Tryd.func9 rfl (by decide) Tryd.ntmps9 rfl ?_
  have et : (List.map Node.cs t).length = t.length := by simp
  refine W_loop (fun μ s => ∃ (k : Nat), k ≤ t.length ∧ μ = t.length - k ∧ (∀ j (h : j < t.length), j < k → (decide ((t[j]).kids.length ≤ 80) && decide ((t[j]).attrs.length ≤ 20)) = true) ∧ s = ⟨[(0, .d (treeD t)), (3, .i k)], 34, [], 0, []⟩) (t.length) ⟨_, ?_, 0, by simp, by simp, ?_, rfl⟩ ?_
  · exact Wk_env (by repeat (first | exact trivial | refine ⟨rfl, ?_⟩))
  · intro j h hj; omega
  rintro μ s1 ⟨k, hk, rfl, hinv, rfl⟩
  refine W_run tt_ok ?_
  refine Len_in (fun hlen => ?_)
  refine Br_dec (fun h => ?_) (fun h => ?_)
  · simp at h
    have hlt := h
    have ha : (List.map Node.cs t)[(k : Int).toNat]? = some (t[k]).cs := by simp [hlt]
    have e1 : (List.map intCs (t[k]).kids).length = (t[k]).kids.length := by simp
    have e2 : (List.map Attr.cs (t[k]).attrs).length = (t[k]).attrs.length := by simp
    have hb : (decide ((t[k]).kids.length ≤ 80) && decide ((t[k]).attrs.length ≤ 20)) = false → smallB t = false := fun hb => by
      unfold smallB
      rw [Bool.and_eq_false_iff]; right
      rw [List.all_eq_false]
      exact ⟨_, List.getElem_mem hlt, by simpa using hb⟩
    have hx : (decide ((t[k]).kids.length ≤ 80) && decide ((t[k]).attrs.length ≤ 20)) = true → ∀ j (h : j < t.length), j < k + 1 → (decide ((t[j]).kids.length ≤ 80) && decide ((t[j]).attrs.length ≤ 20)) = true := by
      intro hb j hj hjk
      rcases Nat.lt_succ_iff_lt_or_eq.1 hjk with h1 | h1
      · exact hinv j hj h1
      · subst h1; exact hb
    repeat' ((conv => whnf); (first
      | (refine Br_true (by assumption) ?_)
      | (refine Br_false (by assumption) ?_)
      | (refine Br_true (beqT (by omega)) ?_)
      | (refine Br_false (beqF (by omega)) ?_)
      | (refine Br_beq (fun h => ?_) (fun h => ?_))
      | (refine Br_true (bneT (by omega)) ?_)
      | (refine Br_false (bneF (by omega)) ?_)
      | (refine Br_bne (fun h => ?_) (fun h => ?_))
      | (refine Br_true (decide_eq_true (by omega)) ?_)
      | (refine Br_false (decide_eq_false (by omega)) ?_)
      | (refine Br_dec (fun h => ?_) (fun h => ?_))
      | (refine Br_not ?_)
      | (refine Len_in (fun hlen => ?_))
      | (refine Idx_in _ ha (by omega) rfl ?_)
      | (refine Back_in _ _ ⟨k + 1, by omega, rfl, ?_, rfl⟩ (by omega) (Wk_env (by repeat (first | exact trivial | refine ⟨rfl, ?_⟩))))
      | (refine Br_split (fun h => ?_) (fun h => ?_))
      | (refine fin0 rfl ?_)
      | (refine ArK_in (wrap_i64 (by omega) (by omega)) ?_)
      | (refine force_in ?_)))
    all_goals first
      | (refine hx ?_; simp; omega)
      | (rw [hb (by simp; omega)]; done)
      | (have : smallB t = false := by
           unfold smallB
           rw [Bool.and_eq_false_iff]; left
           simp; omega
         simp [this]; omega)
  · simp at h
    repeat' ((conv => whnf); (first
      | (refine Br_true (by assumption) ?_)
      | (refine Br_false (by assumption) ?_)
      | (refine Br_true (beqT (by omega)) ?_)
      | (refine Br_false (beqF (by omega)) ?_)
      | (refine Br_beq (fun h => ?_) (fun h => ?_))
      | (refine Br_true (bneT (by omega)) ?_)
      | (refine Br_false (bneF (by omega)) ?_)
      | (refine Br_bne (fun h => ?_) (fun h => ?_))
      | (refine Br_true (decide_eq_true (by omega)) ?_)
      | (refine Br_false (decide_eq_false (by omega)) ?_)
      | (refine Br_dec (fun h => ?_) (fun h => ?_))
      | (refine Br_not ?_)
      | (refine Len_in (fun hlen => ?_))
      | (refine Br_split (fun h => ?_) (fun h => ?_))
      | (refine fin0 rfl ?_)
      | (refine ArK_in (wrap_i64 (by omega) (by omega)) ?_)
      | (refine force_in ?_)))
    all_goals
      have ha : (t.all fun x => decide (x.kids.length ≤ 80) && decide (x.attrs.length ≤ 20)) = true := by
        rw [List.all_eq_true]
        intro y hy
        obtain ⟨j, hj, rfl⟩ := List.getElem_of_mem hy
        exact hinv j hj (by omega)
      unfold smallB
      rw [ha, Bool.and_true]
      simp only [AV.d.injEq, D.bool.injEq]
      rw [Bool.eq_iff_iff]
      simp
      try omega
end Go.Eng
set_option maxRecDepth 100000
set_option linter.unusedVariables false
namespace Go.Eng
open Go Go.Proofs
theorem find_take {l : List Attr} {p : Attr → Bool} {k : Nat} (hk : ∀ j (h : j < l.length), j < k → p l[j] = false) : l.find? p = (l.drop k).find? p := by
  induction k generalizing l with
  | zero => rfl
  | succ k ih =>
    cases l with
    | nil => rfl
    | cons a r =>
      have h0 : p a = false := hk 0 (by simp) (by omega)
      rw [List.drop_succ_cons, List.find?_cons, h0]
      exact ih fun j h hj => hk (j + 1) (by simp; omega) (by omega)
theorem ref_Get (t : Tree) (n name : Int) : Fn Tryd.prog 13 [.d (treeD t), .i n, .i name] (.tup [.i (getR t n name).1, .b (getR t n name).2]) := by
  refine Fn_of tt_ok Tryd.func13 rfl (by decide) Tryd.ntmps13 rfl ?_
  refine Fn.use (ref_Is _ _) rfl rfl ?_
  refine Br_not (Br_split (fun hn => ?_) (fun hn => ?_))
  rotate_left
  · repeat' ((conv => whnf); (first
    | (refine Br_true (by assumption) ?_)
    | (refine Br_false (by assumption) ?_)
    | (refine Br_true (beqT (by omega)) ?_)
    | (refine Br_false (beqF (by omega)) ?_)
    | (refine Br_beq (fun h => ?_) (fun h => ?_))
    | (refine Br_true (bneT (by omega)) ?_)
    | (refine Br_false (bneF (by omega)) ?_)
    | (refine Br_bne (fun h => ?_) (fun h => ?_))
    | (refine Br_true (decide_eq_true (by omega)) ?_)
    | (refine Br_false (decide_eq_false (by omega)) ?_)
    | (refine Br_dec (fun h => ?_) (fun h => ?_))
    | (refine Br_not ?_)
    | (refine Len_in (fun hlen => ?_))
    | (refine Br_split (fun h => ?_) (fun h => ?_))
    | (refine fin0 rfl ?_)
    | (refine ArK_in (wrap_i64 (by omega) (by omega)) ?_)
    | (refine force_in ?_)))
    simp [getR, hn]
  have hg : getR t n name = getV (nd t n).attrs name := by simp [getR, hn]
  rw [hg]
  refine W_loop (fun μ s => ∃ (k : Nat), k ≤ (nd t n).attrs.length ∧ μ = (nd t n).attrs.length - k ∧ (∀ j (h : j < (nd t n).attrs.length), j < k → ((nd t n).attrs[j].name == name) = false) ∧ s = ⟨[(0, .d (treeD t)), (1, .i n), (2, .i name), (8, .i k)], 43, [], 0, []⟩) ((nd t n).attrs.length) ⟨_, ?_, 0, by simp, by simp, ?_, rfl⟩ ?_
  · exact Wk_env (by repeat (first | exact trivial | refine ⟨rfl, ?_⟩))
  · intro j h hj; omega
  rintro μ s1 ⟨k, hk, rfl, hinv, rfl⟩
  refine W_run tt_ok ?_
  refine Idx_nd hn rfl ?_
  refine Len_in (fun hlen => ?_)
  simp only [List.length_map] at hlen
  have hf := find_take (l := (nd t n).attrs) (p := fun a => a.name == name) hinv
  refine Br_dec (fun h => ?_) (fun h => ?_)
  · simp at h
    have hlt := h
    have hi : (List.map Attr.cs (nd t n).attrs)[(k : Int).toNat]? = some ((nd t n).attrs[k]).cs := by simp [hlt]
    rw [List.drop_eq_getElem_cons hlt, List.find?_cons] at hf
    repeat' ((conv => whnf); (first
      | (refine Br_true (by assumption) ?_)
      | (refine Br_false (by assumption) ?_)
      | (refine Br_true (beqT (by omega)) ?_)
      | (refine Br_false (beqF (by omega)) ?_)
      | (refine Br_beq (fun h => ?_) (fun h => ?_))
      | (refine Br_true (bneT (by omega)) ?_)
      | (refine Br_false (bneF (by omega)) ?_)
      | (refine Br_bne (fun h => ?_) (fun h => ?_))
      | (refine Br_true (decide_eq_true (by omega)) ?_)
      | (refine Br_false (decide_eq_false (by omega)) ?_)
      | (refine Br_dec (fun h => ?_) (fun h => ?_))
      | (refine Br_not ?_)
      | (refine Len_in (fun hlen => ?_))
      | (refine Idx_nd hn rfl ?_)
      | (refine Idx_in _ hi (by omega) rfl ?_)
      | (refine Back_in _ _ ⟨k + 1, by omega, rfl, ?_, rfl⟩ (by omega) (Wk_env (by repeat (first | exact trivial | refine ⟨rfl, ?_⟩))))
      | (refine Br_split (fun h => ?_) (fun h => ?_))
      | (refine fin0 rfl ?_)
      | (refine ArK_in (wrap_i64 (by omega) (by omega)) ?_)
      | (refine force_in ?_)))
    · have h1 : (nd t n).attrs[k].name = name := by assumption
      have hv : getV (nd t n).attrs name = ((nd t n).attrs[k].value, true) := by
        unfold getV; rw [hf]; simp [h1]
      rw [hv]
    · intro j hj hjk
      rcases Nat.lt_succ_iff_lt_or_eq.1 hjk with h1 | h1
      · exact hinv j hj h1
      · subst h1; exact beq_false_of_ne (by assumption)
  · simp at h
    rw [List.drop_eq_nil_of_le h] at hf
    have hv : getV (nd t n).attrs name = (0, false) := by unfold getV; rw [hf]; rfl
    rw [hv]
    repeat' ((conv => whnf); (first
      | (refine Br_true (by assumption) ?_)
      | (refine Br_false (by assumption) ?_)
      | (refine Br_true (beqT (by omega)) ?_)
      | (refine Br_false (beqF (by omega)) ?_)
      | (refine Br_beq (fun h => ?_) (fun h => ?_))
      | (refine Br_true (bneT (by omega)) ?_)
      | (refine Br_false (bneF (by omega)) ?_)
      | (refine Br_bne (fun h => ?_) (fun h => ?_))
      | (refine Br_true (decide_eq_true (by omega)) ?_)
      | (refine Br_false (decide_eq_false (by omega)) ?_)
      | (refine Br_dec (fun h => ?_) (fun h => ?_))
      | (refine Br_not ?_)
      | (refine Len_in (fun hlen => ?_))
      | (refine Br_split (fun h => ?_) (fun h => ?_))
      | (refine fin0 rfl ?_)
      | (refine ArK_in (wrap_i64 (by omega) (by omega)) ?_)
      | (refine force_in ?_)))
    rfl
theorem ref_Has (t : Tree) (n name : Int) : Fn Tryd.prog 41 [.d (treeD t), .i n, .i name] (.b (getR t n name).2) := by
  refine Fn_of tt_ok Tryd.func41 rfl (by decide) Tryd.ntmps41 rfl ?_
  repeat' ((conv => whnf); (first
    | (refine Br_true (by assumption) ?_)
    | (refine Br_false (by assumption) ?_)
    | (refine Br_true (beqT (by omega)) ?_)
    | (refine Br_false (beqF (by omega)) ?_)
    | (refine Br_beq (fun h => ?_) (fun h => ?_))
    | (refine Br_true (bneT (by omega)) ?_)
    | (refine Br_false (bneF (by omega)) ?_)
    | (refine Br_bne (fun h => ?_) (fun h => ?_))
    | (refine Br_true (decide_eq_true (by omega)) ?_)
    | (refine Br_false (decide_eq_false (by omega)) ?_)
    | (refine Br_dec (fun h => ?_) (fun h => ?_))
    | (refine Br_not ?_)
    | (refine Len_in (fun hlen => ?_))
    | (refine Fn.use (ref_Get _ _ _) rfl rfl ?_)
    | (refine CallF_in (ref_Get _ _ _) rfl rfl ?_)
    | (refine Br_split (fun h => ?_) (fun h => ?_))
    | (refine fin0 rfl ?_)
    | (refine ArK_in (wrap_i64 (by omega) (by omega)) ?_)
    | (refine force_in ?_)))
  rfl
theorem withTo_succ (l : List Attr) (a : Attr) (lay : Bool) (k : Nat) : withTo l a lay (k + 1) = withTo l a lay k ++ withAt l a lay k := rfl
theorem csl {l : List Attr} : ∀ r ∈ l.map Attr.cs, r.length = 2 := by
  intro r hr
  obtain ⟨a, _, rfl⟩ := List.mem_map.1 hr
  rfl
theorem ref_with (l : List Attr) (a : Attr) (lay : Bool) (hl : l.length ≤ 1000) : Fn Tryd.prog 39 [.d (attrsD l), aggD a.cs, .b lay] (.d (attrsD (withL l a lay))) := by
  refine Fn_of tt_ok Tryd.func39 rfl (by decide) Tryd.ntmps39 rfl ?_
  refine W_loop (fun μ s => ∃ (k : Nat) (w : List Attr), k ≤ 10 ∧ μ = 10 - k ∧ w = withTo l a lay k ∧ s = ⟨[(0, .d (attrsD l)), (2, .b lay), (4, .ptr 0 0), (7, AccV 1 2 (w.map Attr.cs)), (8, .i k)], 44, [some (.row (a.cs.map .d)), AccB (w.map Attr.cs)], 0, []⟩) 10
    ⟨⟨[(0, .d (attrsD l)), (2, .b lay), (4, .ptr 0 0), (7, .nsl), (8, .i 0)], 44, [some (.row (a.cs.map .d)), none], 0, []⟩, ?_, 0, [], by omega, by omega, rfl, by simp [AccV_nil, AccB_nil]⟩ ?_
  · exact Wk.trans Wk_pad (Wk_env (by repeat (first | exact trivial | refine ⟨rfl, ?_⟩)))
  rintro μ s1 ⟨k, w, hk, rfl, hW, rfl⟩
  have hwl := withTo_len l a lay k
  have hwl2 : k * (l.length + 1) ≤ 10 * (l.length + 1) := Nat.mul_le_mul_right _ hk
  rw [← hW] at hwl
  refine W_run tt_ok ?_
  refine Br_dec (fun h => ?_) (fun h => ?_)
  · have hlt : k < 10 := by omega
    have hnx : withTo l a lay (k + 1) = w ++ withAt l a lay k := by rw [withTo_succ, ← hW]
    refine Br_beq (fun h1 => ?_) (fun h1 => ?_)
    · have hat : withAt l a lay k = if lay then [a] else [] := by unfold withAt; rw [if_pos h1]
      cases lay
      · have hat : withTo l a false (k + 1) = w := by rw [hnx, hat]; simp
        repeat' ((conv => whnf); (first
          | (refine Br_true (by assumption) ?_)
          | (refine Br_false (by assumption) ?_)
          | (refine Br_true (beqT (by omega)) ?_)
          | (refine Br_false (beqF (by omega)) ?_)
          | (refine Br_beq (fun h => ?_) (fun h => ?_))
          | (refine Br_true (bneT (by omega)) ?_)
          | (refine Br_false (bneF (by omega)) ?_)
          | (refine Br_bne (fun h => ?_) (fun h => ?_))
          | (refine Br_true (decide_eq_true (by omega)) ?_)
          | (refine Br_false (decide_eq_false (by omega)) ?_)
          | (refine Br_dec (fun h => ?_) (fun h => ?_))
          | (refine Br_not ?_)
          | (refine Len_in (fun hlen => ?_))
          | (refine Back_in _ _ ⟨k + 1, w, by omega, rfl, hat.symm, rfl⟩ (by omega) (Wk_env (by repeat (first | exact trivial | refine ⟨rfl, ?_⟩))))
          | (refine Br_split (fun h => ?_) (fun h => ?_))
          | (refine fin0 rfl ?_)
          | (refine ArK_in (wrap_i64 (by omega) (by omega)) ?_)
          | (refine force_in ?_)))
      · have hat : withTo l a true (k + 1) = w ++ [a] := by rw [hnx, hat]; rfl
        repeat' ((conv => whnf); (first
          | (refine Br_true (by assumption) ?_)
          | (refine Br_false (by assumption) ?_)
          | (refine Br_true (beqT (by omega)) ?_)
          | (refine Br_false (beqF (by omega)) ?_)
          | (refine Br_beq (fun h => ?_) (fun h => ?_))
          | (refine Br_true (bneT (by omega)) ?_)
          | (refine Br_false (bneF (by omega)) ?_)
          | (refine Br_bne (fun h => ?_) (fun h => ?_))
          | (refine Br_true (decide_eq_true (by omega)) ?_)
          | (refine Br_false (decide_eq_false (by omega)) ?_)
          | (refine Br_dec (fun h => ?_) (fun h => ?_))
          | (refine Br_not ?_)
          | (refine Len_in (fun hlen => ?_))
          | (refine Br_split (fun h => ?_) (fun h => ?_))
          | (refine fin0 rfl ?_)
          | (refine ArK_in (wrap_i64 (by omega) (by omega)) ?_)
          | (refine force_in ?_)))
        refine Ch_r ?_
        conv => whnf
        refine App_acc (w.map Attr.cs) [a.cs] rfl rfl rfl rfl (by simp) csl (by intro r hr; simp at hr; subst hr; rfl) (by simp only [List.length_map, List.length_cons, List.length_nil]; omega) (Nat.le_of_ble_eq_true rfl) ?_
        have ha := Acc_app (b := 1) (sz := 2) (rows := w.map Attr.cs) (new := [a.cs]) (by simp)
        repeat' ((conv => whnf); (first
          | (refine Br_true (by assumption) ?_)
          | (refine Br_false (by assumption) ?_)
          | (refine Br_true (beqT (by omega)) ?_)
          | (refine Br_false (beqF (by omega)) ?_)
          | (refine Br_beq (fun h => ?_) (fun h => ?_))
          | (refine Br_true (bneT (by omega)) ?_)
          | (refine Br_false (bneF (by omega)) ?_)
          | (refine Br_bne (fun h => ?_) (fun h => ?_))
          | (refine Br_true (decide_eq_true (by omega)) ?_)
          | (refine Br_false (decide_eq_false (by omega)) ?_)
          | (refine Br_dec (fun h => ?_) (fun h => ?_))
          | (refine Br_not ?_)
          | (refine Len_in (fun hlen => ?_))
          | (refine Back_in ⟨[(0, .d (attrsD l)), (2, .b true), (4, .ptr 0 0), (7, .msl 1 0 ((w.map Attr.cs).length + 1) ((w.map Attr.cs).length + 1) 2), (8, .i (k + 1 : Nat))], 44, [some (.row (a.cs.map .d)), some (.row ((w.map Attr.cs ++ [a.cs]).flatten.map .d))], 0, []⟩ _ ⟨k + 1, w ++ [a], by omega, rfl, hat.symm, ?_⟩ (by omega) (Wk_ren [0, 2] rfl rfl ⟨⟨rfl, rfl⟩, ⟨by rw [renB_row]; rfl, lowB_row _ _⟩, trivial⟩ (by repeat (first | exact trivial | refine ⟨⟨rfl, rfl⟩, ?_⟩)) (by decide) (by omega)))
          | (refine Br_split (fun h => ?_) (fun h => ?_))
          | (refine fin0 rfl ?_)
          | (refine ArK_in (wrap_i64 (by omega) (by omega)) ?_)
          | (refine force_in ?_)))
        rw [List.map_append]
        rw [show List.map Attr.cs [a] = [a.cs] from rfl, ha.1, ha.2]
        rfl
    · have hat : withAt l a lay k = l.filter fun x => x.name == (k : Int) := by unfold withAt; rw [if_neg h1]
      refine W_loop (fun μ s => ∃ (j : Nat) (fl : List Attr), j ≤ l.length ∧ μ = l.length - j ∧ fl = (l.take j).filter (fun x => x.name == (k : Int)) ∧
        s = ⟨[(0, .d (attrsD l)), (2, .b lay), (4, .ptr 0 0), (7, AccV 1 2 (w.map Attr.cs ++ fl.map Attr.cs)), (8, .i k), (9, .i j)], 44, [some (.row (a.cs.map .d)), AccB (w.map Attr.cs ++ fl.map Attr.cs)], 0, []⟩) l.length
        ⟨_, ?_, 0, [], by omega, by omega, by simp, by rw [List.map_nil, List.append_nil]⟩ ?_
      · exact Wk_env (by repeat (first | exact trivial | refine ⟨rfl, ?_⟩))
      rintro μ s1 ⟨j, fl, hj, rfl, hfl, rfl⟩
      have hfll : fl.length ≤ l.length := by rw [hfl]; exact Nat.le_trans (List.length_filter_le _ _) (by simp; omega)
      refine W_run tt_ok ?_
      refine Len_in (fun hlen => ?_)
      refine Br_dec (fun h => ?_) (fun h => ?_)
      · simp at h
        have hjl := h
        have hi : (List.map Attr.cs l)[(j : Int).toNat]? = some (l[j]).cs := by simp [hjl]
        have htk : l.take (j + 1) = l.take j ++ [l[j]] := List.take_succ_eq_append_getElem hjl
        refine Idx_in _ hi (by omega) rfl ?_
        refine Br_beq (fun h2 => ?_) (fun h2 => ?_)
        · have hfl2 : (l.take (j + 1)).filter (fun x => x.name == (k : Int)) = fl ++ [l[j]] := by
            rw [htk, List.filter_append, ← hfl]; simp [h2]
          repeat' ((conv => whnf); (first
            | (refine Br_true (by assumption) ?_)
            | (refine Br_false (by assumption) ?_)
            | (refine Br_true (beqT (by omega)) ?_)
            | (refine Br_false (beqF (by omega)) ?_)
            | (refine Br_beq (fun h => ?_) (fun h => ?_))
            | (refine Br_true (bneT (by omega)) ?_)
            | (refine Br_false (bneF (by omega)) ?_)
            | (refine Br_bne (fun h => ?_) (fun h => ?_))
            | (refine Br_true (decide_eq_true (by omega)) ?_)
            | (refine Br_false (decide_eq_false (by omega)) ?_)
            | (refine Br_dec (fun h => ?_) (fun h => ?_))
            | (refine Br_not ?_)
            | (refine Len_in (fun hlen => ?_))
            | (refine Idx_in _ hi (by omega) rfl ?_)
            | (refine Br_split (fun h => ?_) (fun h => ?_))
            | (refine fin0 rfl ?_)
            | (refine ArK_in (wrap_i64 (by omega) (by omega)) ?_)
            | (refine force_in ?_)))
          refine Ch_r ?_
          conv => whnf
          refine App_acc (w.map Attr.cs ++ fl.map Attr.cs) [(l[j]).cs] rfl rfl rfl rfl (by simp) (by rw [← List.map_append]; exact csl) (by intro r hr; simp at hr; subst hr; rfl) (by simp only [List.length_append, List.length_map, List.length_cons, List.length_nil]; omega) (Nat.le_of_ble_eq_true rfl) ?_
          have ha := Acc_app (b := 1) (sz := 2) (rows := w.map Attr.cs ++ fl.map Attr.cs) (new := [(l[j]).cs]) (by simp)
          repeat' ((conv => whnf); (first
            | (refine Br_true (by assumption) ?_)
            | (refine Br_false (by assumption) ?_)
            | (refine Br_true (beqT (by omega)) ?_)
            | (refine Br_false (beqF (by omega)) ?_)
            | (refine Br_beq (fun h => ?_) (fun h => ?_))
            | (refine Br_true (bneT (by omega)) ?_)
            | (refine Br_false (bneF (by omega)) ?_)
            | (refine Br_bne (fun h => ?_) (fun h => ?_))
            | (refine Br_true (decide_eq_true (by omega)) ?_)
            | (refine Br_false (decide_eq_false (by omega)) ?_)
            | (refine Br_dec (fun h => ?_) (fun h => ?_))
            | (refine Br_not ?_)
            | (refine Len_in (fun hlen => ?_))
            | (refine Back_in ⟨[(0, .d (attrsD l)), (2, .b lay), (4, .ptr 0 0), (7, .msl 1 0 ((w.map Attr.cs ++ fl.map Attr.cs).length + 1) ((w.map Attr.cs ++ fl.map Attr.cs).length + 1) 2), (8, .i k), (9, .i (j + 1 : Nat))], 44, [some (.row (a.cs.map .d)), some (.row ((w.map Attr.cs ++ fl.map Attr.cs ++ [(l[j]).cs]).flatten.map .d))], 0, []⟩ _ ⟨j + 1, fl ++ [l[j]], by omega, rfl, hfl2.symm, ?_⟩ (by omega) (Wk_ren [0, 2] rfl rfl ⟨⟨rfl, rfl⟩, ⟨by rw [renB_row]; rfl, lowB_row _ _⟩, trivial⟩ (by repeat (first | exact trivial | refine ⟨⟨rfl, rfl⟩, ?_⟩)) (by decide) (by omega)))
            | (refine Br_split (fun h => ?_) (fun h => ?_))
            | (refine fin0 rfl ?_)
            | (refine ArK_in (wrap_i64 (by omega) (by omega)) ?_)
            | (refine force_in ?_)))
          rw [List.map_append, show List.map Attr.cs [l[j]] = [(l[j]).cs] from rfl, ← List.append_assoc, ha.1, ha.2]
          rfl
        · have hfl2 : (l.take (j + 1)).filter (fun x => x.name == (k : Int)) = fl := by
            rw [htk, List.filter_append, ← hfl]; simp [h2]
          repeat' ((conv => whnf); (first
            | (refine Br_true (by assumption) ?_)
            | (refine Br_false (by assumption) ?_)
            | (refine Br_true (beqT (by omega)) ?_)
            | (refine Br_false (beqF (by omega)) ?_)
            | (refine Br_beq (fun h => ?_) (fun h => ?_))
            | (refine Br_true (bneT (by omega)) ?_)
            | (refine Br_false (bneF (by omega)) ?_)
            | (refine Br_bne (fun h => ?_) (fun h => ?_))
            | (refine Br_true (decide_eq_true (by omega)) ?_)
            | (refine Br_false (decide_eq_false (by omega)) ?_)
            | (refine Br_dec (fun h => ?_) (fun h => ?_))
            | (refine Br_not ?_)
            | (refine Len_in (fun hlen => ?_))
            | (refine Back_in _ _ ⟨j + 1, fl, by omega, rfl, hfl2.symm, rfl⟩ (by omega) (Wk_env (by repeat (first | exact trivial | refine ⟨rfl, ?_⟩))))
            | (refine Br_split (fun h => ?_) (fun h => ?_))
            | (refine fin0 rfl ?_)
            | (refine ArK_in (wrap_i64 (by omega) (by omega)) ?_)
            | (refine force_in ?_)))
      · simp at h
        rw [List.take_of_length_le h] at hfl
        have hw : withTo l a lay (k + 1) = w ++ fl := by rw [hnx, hat, hfl]
        repeat' ((conv => whnf); (first
          | (refine Br_true (by assumption) ?_)
          | (refine Br_false (by assumption) ?_)
          | (refine Br_true (beqT (by omega)) ?_)
          | (refine Br_false (beqF (by omega)) ?_)
          | (refine Br_beq (fun h => ?_) (fun h => ?_))
          | (refine Br_true (bneT (by omega)) ?_)
          | (refine Br_false (bneF (by omega)) ?_)
          | (refine Br_bne (fun h => ?_) (fun h => ?_))
          | (refine Br_true (decide_eq_true (by omega)) ?_)
          | (refine Br_false (decide_eq_false (by omega)) ?_)
          | (refine Br_dec (fun h => ?_) (fun h => ?_))
          | (refine Br_not ?_)
          | (refine Len_in (fun hlen => ?_))
          | (refine Back_in _ _ ⟨k + 1, w ++ fl, by omega, rfl, hw.symm, by rw [List.map_append]⟩ (by omega) (Wk_env (by repeat (first | exact trivial | refine ⟨rfl, ?_⟩))))
          | (refine Br_split (fun h => ?_) (fun h => ?_))
          | (refine fin0 rfl ?_)
          | (refine ArK_in (wrap_i64 (by omega) (by omega)) ?_)
          | (refine force_in ?_)))
  · have hk10 : k = 10 := by omega
    subst hk10
    have e : withL l a lay = w := hW.symm
    rw [e]
    repeat' ((conv => whnf); (first
      | (refine Br_true (by assumption) ?_)
      | (refine Br_false (by assumption) ?_)
      | (refine Br_true (beqT (by omega)) ?_)
      | (refine Br_false (beqF (by omega)) ?_)
      | (refine Br_beq (fun h => ?_) (fun h => ?_))
      | (refine Br_true (bneT (by omega)) ?_)
      | (refine Br_false (bneF (by omega)) ?_)
      | (refine Br_bne (fun h => ?_) (fun h => ?_))
      | (refine Br_true (decide_eq_true (by omega)) ?_)
      | (refine Br_false (decide_eq_false (by omega)) ?_)
      | (refine Br_dec (fun h => ?_) (fun h => ?_))
      | (refine Br_not ?_)
      | (refine Len_in (fun hlen => ?_))
      | (refine finW (Fin_acc (w.map Attr.cs) rfl csl (Nat.zero_le _) rfl trivial) ⟨rfl, rfl⟩)
      | (refine Br_split (fun h => ?_) (fun h => ?_))
      | (refine fin0 rfl ?_)
      | (refine ArK_in (wrap_i64 (by omega) (by omega)) ?_)
      | (refine force_in ?_)))
end Go.Eng
set_option maxRecDepth 100000
set_option linter.unusedVariables false
namespace Go.Eng
open Go Go.Proofs
theorem cs7 {t : Tree} : ∀ r ∈ t.map Node.cs, r.length = 7 := by
  intro r hr
  obtain ⟨a, _, rfl⟩ := List.mem_map.1 hr
  rfl
theorem cs1 {l : List Int} : ∀ r ∈ l.map intCs, r.length = 1 := by
  intro r hr
  obtain ⟨a, _, rfl⟩ := List.mem_map.1 hr
  rfl
theorem ref_Copy (t : Tree) (hs : SmallT t) : Tri Tryd.prog 38 [.d (treeD t)] [] fun v H => v = AccV 0 7 (t.map Node.cs) ∧ H = [AccB (t.map Node.cs)] := by
  refine Tri_of (m := 0) tt_ok Tryd.func38 rfl (by decide) Tryd.ntmps38 (by rfl) rfl ?_
  refine W_loop (fun μ s => ∃ (k : Nat) (w : Tree), k ≤ t.length ∧ μ = t.length - k ∧ w = t.take k ∧ s = ⟨[(0, .d (treeD t)), (3, AccV 0 7 (w.map Node.cs)), (4, .i k)], 31, [AccB (w.map Node.cs)], 0, []⟩) t.length
    ⟨⟨[(0, .d (treeD t)), (3, .nsl), (4, .i 0)], 31, [none], 0, []⟩, ?_, 0, [], by omega, by omega, by simp, by simp [AccV_nil, AccB_nil]⟩ ?_
  · exact Wk.trans Wk_pad (Wk_env (by repeat (first | exact trivial | refine ⟨rfl, ?_⟩)))
  rintro μ s1 ⟨k, w, hk, rfl, hw, rfl⟩
  have hwl : w.length = k := by rw [hw]; simp; omega
  refine W_run tt_ok ?_
  refine Len_in (fun hlen => ?_)
  refine Br_dec (fun h => ?_) (fun h => ?_)
  · simp at h
    have hlt := h
    have hi : (List.map Node.cs t)[(k : Int).toNat]? = some (t[k]).cs := by simp [hlt]
    have hm := hs.2 _ (List.getElem_mem hlt)
    have htk : t.take (k + 1) = w ++ [t[k]] := by rw [hw]; exact List.take_succ_eq_append_getElem hlt
    have hkl := hs.1
    have ha := Acc_app (b := 0) (sz := 7) (rows := w.map Node.cs) (new := [(t[k]).cs]) (by simp)
    have ek : (List.map intCs (t[k]).kids).length = (t[k]).kids.length := by simp
    have ea : (List.map Attr.cs (t[k]).attrs).length = (t[k]).attrs.length := by simp
    repeat' ((conv => whnf); (first
      | (refine Br_true (by assumption) ?_)
      | (refine Br_false (by assumption) ?_)
      | (refine Br_true (beqT (by omega)) ?_)
      | (refine Br_false (beqF (by omega)) ?_)
      | (refine Br_beq (fun h => ?_) (fun h => ?_))
      | (refine Br_true (bneT (by omega)) ?_)
      | (refine Br_false (bneF (by omega)) ?_)
      | (refine Br_bne (fun h => ?_) (fun h => ?_))
      | (refine Br_true (decide_eq_true (by omega)) ?_)
      | (refine Br_false (decide_eq_false (by omega)) ?_)
      | (refine Br_dec (fun h => ?_) (fun h => ?_))
      | (refine Br_not ?_)
      | (refine Len_in (fun hlen => ?_))
      | (refine Idx_in _ hi (by omega) rfl ?_)
      | (refine Br_split (fun h => ?_) (fun h => ?_))
      | (refine fin0 rfl ?_)
      | (refine ArK_in (wrap_i64 (by omega) (by omega)) ?_)
      | (refine force_in ?_)))
    refine Ch_r ?_
    repeat' ((conv => whnf); (first
      | (refine Br_true (by assumption) ?_)
      | (refine Br_false (by assumption) ?_)
      | (refine Br_true (beqT (by omega)) ?_)
      | (refine Br_false (beqF (by omega)) ?_)
      | (refine Br_beq (fun h => ?_) (fun h => ?_))
      | (refine Br_true (bneT (by omega)) ?_)
      | (refine Br_false (bneF (by omega)) ?_)
      | (refine Br_bne (fun h => ?_) (fun h => ?_))
      | (refine Br_true (decide_eq_true (by omega)) ?_)
      | (refine Br_false (decide_eq_false (by omega)) ?_)
      | (refine Br_dec (fun h => ?_) (fun h => ?_))
      | (refine Br_not ?_)
      | (refine Len_in (fun hlen => ?_))
      | (refine Br_split (fun h => ?_) (fun h => ?_))
      | (refine fin0 rfl ?_)
      | (refine ArK_in (wrap_i64 (by omega) (by omega)) ?_)
      | (refine force_in ?_)))
    refine Ch_r (Need_in ⟨Nat.le_trans (Nat.mul_le_mul_right _ (by omega : _ ≤ 1200)) (Nat.le_of_ble_eq_true rfl), by unfold LB; omega, cs1⟩ ?_)
    repeat' ((conv => whnf); (first
      | (refine Br_true (by assumption) ?_)
      | (refine Br_false (by assumption) ?_)
      | (refine Br_true (beqT (by omega)) ?_)
      | (refine Br_false (beqF (by omega)) ?_)
      | (refine Br_beq (fun h => ?_) (fun h => ?_))
      | (refine Br_true (bneT (by omega)) ?_)
      | (refine Br_false (bneF (by omega)) ?_)
      | (refine Br_bne (fun h => ?_) (fun h => ?_))
      | (refine Br_true (decide_eq_true (by omega)) ?_)
      | (refine Br_false (decide_eq_false (by omega)) ?_)
      | (refine Br_dec (fun h => ?_) (fun h => ?_))
      | (refine Br_not ?_)
      | (refine Len_in (fun hlen => ?_))
      | (refine Br_split (fun h => ?_) (fun h => ?_))
      | (refine fin0 rfl ?_)
      | (refine ArK_in (wrap_i64 (by omega) (by omega)) ?_)
      | (refine force_in ?_)))
    refine Ch_r ?_
    repeat' ((conv => whnf); (first
      | (refine Br_true (by assumption) ?_)
      | (refine Br_false (by assumption) ?_)
      | (refine Br_true (beqT (by omega)) ?_)
      | (refine Br_false (beqF (by omega)) ?_)
      | (refine Br_beq (fun h => ?_) (fun h => ?_))
      | (refine Br_true (bneT (by omega)) ?_)
      | (refine Br_false (bneF (by omega)) ?_)
      | (refine Br_bne (fun h => ?_) (fun h => ?_))
      | (refine Br_true (decide_eq_true (by omega)) ?_)
      | (refine Br_false (decide_eq_false (by omega)) ?_)
      | (refine Br_dec (fun h => ?_) (fun h => ?_))
      | (refine Br_not ?_)
      | (refine Len_in (fun hlen => ?_))
      | (refine Br_split (fun h => ?_) (fun h => ?_))
      | (refine fin0 rfl ?_)
      | (refine ArK_in (wrap_i64 (by omega) (by omega)) ?_)
      | (refine force_in ?_)))
    refine Ch_r (Need_in ⟨Nat.le_trans (Nat.mul_le_mul_right _ (by omega : _ ≤ 1200)) (Nat.le_of_ble_eq_true rfl), by unfold LB; omega, csl⟩ ?_)
    repeat' ((conv => whnf); (first
      | (refine Br_true (by assumption) ?_)
      | (refine Br_false (by assumption) ?_)
      | (refine Br_true (beqT (by omega)) ?_)
      | (refine Br_false (beqF (by omega)) ?_)
      | (refine Br_beq (fun h => ?_) (fun h => ?_))
      | (refine Br_true (bneT (by omega)) ?_)
      | (refine Br_false (bneF (by omega)) ?_)
      | (refine Br_bne (fun h => ?_) (fun h => ?_))
      | (refine Br_true (decide_eq_true (by omega)) ?_)
      | (refine Br_false (decide_eq_false (by omega)) ?_)
      | (refine Br_dec (fun h => ?_) (fun h => ?_))
      | (refine Br_not ?_)
      | (refine Len_in (fun hlen => ?_))
      | (refine Br_split (fun h => ?_) (fun h => ?_))
      | (refine fin0 rfl ?_)
      | (refine ArK_in (wrap_i64 (by omega) (by omega)) ?_)
      | (refine force_in ?_)))
    refine Ch_r ?_
    conv => whnf
    refine App_acc (w.map Node.cs) [(t[k]).cs] rfl rfl rfl rfl (by simp) cs7 (by intro r hr; simp at hr; subst hr; rfl) (by simp only [List.length_map, List.length_cons, List.length_nil]; omega) (Nat.le_of_ble_eq_true rfl) ?_
    repeat' ((conv => whnf); (first
      | (refine Br_true (by assumption) ?_)
      | (refine Br_false (by assumption) ?_)
      | (refine Br_true (beqT (by omega)) ?_)
      | (refine Br_false (beqF (by omega)) ?_)
      | (refine Br_beq (fun h => ?_) (fun h => ?_))
      | (refine Br_true (bneT (by omega)) ?_)
      | (refine Br_false (bneF (by omega)) ?_)
      | (refine Br_bne (fun h => ?_) (fun h => ?_))
      | (refine Br_true (decide_eq_true (by omega)) ?_)
      | (refine Br_false (decide_eq_false (by omega)) ?_)
      | (refine Br_dec (fun h => ?_) (fun h => ?_))
      | (refine Br_not ?_)
      | (refine Len_in (fun hlen => ?_))
      | (refine Back_in ⟨[(0, .d (treeD t)), (3, .msl 0 0 ((w.map Node.cs).length + 1) ((w.map Node.cs).length + 1) 7), (4, .i (k + 1 : Nat))], 31, [some (.row ((w.map Node.cs ++ [(t[k]).cs]).flatten.map .d))], 0, []⟩ _ ⟨k + 1, w ++ [t[k]], by omega, rfl, htk.symm, ?_⟩ (by omega) (Wk_ren [2] rfl rfl ⟨⟨by rw [renB_row]; rfl, lowB_row _ _⟩, trivial⟩ (by repeat (first | exact trivial | refine ⟨⟨rfl, rfl⟩, ?_⟩)) (by decide) (by omega)))
      | (refine Br_split (fun h => ?_) (fun h => ?_))
      | (refine fin0 rfl ?_)
      | (refine ArK_in (wrap_i64 (by omega) (by omega)) ?_)
      | (refine force_in ?_)))
    rw [List.map_append, show List.map Node.cs [t[k]] = [(t[k]).cs] from rfl, ha.1, ha.2]
    rfl
  · simp at h
    have hw' : w = t := by rw [hw]; exact List.take_of_length_le h
    rw [hw']
    repeat' ((conv => whnf); (first
      | (refine Br_true (by assumption) ?_)
      | (refine Br_false (by assumption) ?_)
      | (refine Br_true (beqT (by omega)) ?_)
      | (refine Br_false (beqF (by omega)) ?_)
      | (refine Br_beq (fun h => ?_) (fun h => ?_))
      | (refine Br_true (bneT (by omega)) ?_)
      | (refine Br_false (bneF (by omega)) ?_)
      | (refine Br_bne (fun h => ?_) (fun h => ?_))
      | (refine Br_true (decide_eq_true (by omega)) ?_)
      | (refine Br_false (decide_eq_false (by omega)) ?_)
      | (refine Br_dec (fun h => ?_) (fun h => ?_))
      | (refine Br_not ?_)
      | (refine Len_in (fun hlen => ?_))
      | (refine finQ ⟨rfl, rfl⟩)
      | (refine Br_split (fun h => ?_) (fun h => ?_))
      | (refine fin0 rfl ?_)
      | (refine ArK_in (wrap_i64 (by omega) (by omega)) ?_)
      | (refine force_in ?_)))
theorem ref_Copy1 (t : Tree) (hs : SmallT t) (hne : t ≠ []) : Tri Tryd.prog 38 [.d (treeD t)] [] fun v H => v = .msl 0 0 t.length t.length 7 ∧ H = [some (.row ((t.map Node.cs).flatten.map .d))] := by
  refine (ref_Copy t hs).mono fun v H h => ?_
  have hm : t.map Node.cs ≠ [] := by simpa using hne
  rw [AccV_cons hm, AccB_cons hm, List.length_map] at h
  exact h
theorem ref_Set (t : Tree) (n : Int) (a : Attr) (hs : SmallT t) : Fn Tryd.prog 15 [.d (treeD t), .i n, aggD a.cs] (.tup [.d (treeD (setR t n a).1), .i (setR t n a).2]) := by
  refine Fn_of tt_ok Tryd.func15 rfl (by decide) Tryd.ntmps15 rfl ?_
  have fz : ∀ (e : Int) (H : Heap) (T : Tree) (e' : Int), (T, e') = (t, e) → FinK 0 (.tup [.d (treeD t), .i e]) H (fun v H => v = .tup [.d (treeD T), .i e'] ∧ H = []) := fun e H T e' h => by
    injection h with h1 h2; subst h1 h2
    exact finD (F := []) (.same _ rfl)
  by_cases hm : mayB t = true
  rotate_left
  · have hm : mayB t = false := by simpa using hm
    have e : setR t n a = ([], 1) := by simp [setR, hm]
    rw [e]
    repeat' ((conv => whnf); (first
      | (refine Br_true (by assumption) ?_)
      | (refine Br_false (by assumption) ?_)
      | (refine Br_true (beqT (by omega)) ?_)
      | (refine Br_false (beqF (by omega)) ?_)
      | (refine Br_beq (fun h => ?_) (fun h => ?_))
      | (refine Br_true (bneT (by omega)) ?_)
      | (refine Br_false (bneF (by omega)) ?_)
      | (refine Br_bne (fun h => ?_) (fun h => ?_))
      | (refine Br_true (decide_eq_true (by omega)) ?_)
      | (refine Br_false (decide_eq_false (by omega)) ?_)
      | (refine Br_dec (fun h => ?_) (fun h => ?_))
      | (refine Br_not ?_)
      | (refine Len_in (fun hlen => ?_))
      | (refine Fn.use (ref_May t) rfl rfl ?_)
      | (refine CallF_in (ref_May t) rfl rfl ?_)
      | (refine finD (F := []) (FV_tup2 .nsl (.same _ rfl)))
      | (refine Br_split (fun h => ?_) (fun h => ?_))
      | (refine fin0 rfl ?_)
      | (refine ArK_in (wrap_i64 (by omega) (by omega)) ?_)
      | (refine force_in ?_)))
  have hne := may_ne hm
  by_cases hn : isN t n = true
  rotate_left
  · have hn : isN t n = false := by simpa using hn
    have e : setR t n a = (t, 2) := by simp [setR, hm, hn]
    repeat' ((conv => whnf); (first
      | (refine Br_true (by assumption) ?_)
      | (refine Br_false (by assumption) ?_)
      | (refine Br_true (beqT (by omega)) ?_)
      | (refine Br_false (beqF (by omega)) ?_)
      | (refine Br_beq (fun h => ?_) (fun h => ?_))
      | (refine Br_true (bneT (by omega)) ?_)
      | (refine Br_false (bneF (by omega)) ?_)
      | (refine Br_bne (fun h => ?_) (fun h => ?_))
      | (refine Br_true (decide_eq_true (by omega)) ?_)
      | (refine Br_false (decide_eq_false (by omega)) ?_)
      | (refine Br_dec (fun h => ?_) (fun h => ?_))
      | (refine Br_not ?_)
      | (refine Len_in (fun hlen => ?_))
      | (refine Fn.use (ref_May t) rfl rfl ?_)
      | (refine CallF_in (ref_May t) rfl rfl ?_)
      | (refine Fn.use (ref_Is t n) rfl rfl ?_)
      | (refine CallF_in (ref_Is t n) rfl rfl ?_)
      | (refine fz 2 _ _ _ e)
      | (refine Br_split (fun h => ?_) (fun h => ?_))
      | (refine fin0 rfl ?_)
      | (refine ArK_in (wrap_i64 (by omega) (by omega)) ?_)
      | (refine force_in ?_)))
  obtain ⟨hlt, hget⟩ := nd_get hn
  have hin := nd_mem hn
  have hrg : 0 ≤ n ∧ n < (t.length : Int) := by unfold isN at hn; exact of_decide_eq_true hn
  by_cases hk : (nd t n).kind ≠ 1 ∧ (nd t n).kind ≠ 3
  · have e : setR t n a = (t, 3) := by simp [setR, hm, hn, hk]
    repeat' ((conv => whnf); (first
      | (refine Br_true (by assumption) ?_)
      | (refine Br_false (by assumption) ?_)
      | (refine Br_true (beqT (by omega)) ?_)
      | (refine Br_false (beqF (by omega)) ?_)
      | (refine Br_beq (fun h => ?_) (fun h => ?_))
      | (refine Br_true (bneT (by omega)) ?_)
      | (refine Br_false (bneF (by omega)) ?_)
      | (refine Br_bne (fun h => ?_) (fun h => ?_))
      | (refine Br_true (decide_eq_true (by omega)) ?_)
      | (refine Br_false (decide_eq_false (by omega)) ?_)
      | (refine Br_dec (fun h => ?_) (fun h => ?_))
      | (refine Br_not ?_)
      | (refine Len_in (fun hlen => ?_))
      | (refine Fn.use (ref_May t) rfl rfl ?_)
      | (refine CallF_in (ref_May t) rfl rfl ?_)
      | (refine Fn.use (ref_Is t n) rfl rfl ?_)
      | (refine CallF_in (ref_Is t n) rfl rfl ?_)
      | (refine Idx_nd hn rfl ?_)
      | (refine fz 3 _ _ _ e)
      | (refine Br_split (fun h => ?_) (fun h => ?_))
      | (refine fin0 rfl ?_)
      | (refine ArK_in (wrap_i64 (by omega) (by omega)) ?_)
      | (refine force_in ?_)))
  have hk : (nd t n).kind = 1 ∨ (nd t n).kind = 3 := by omega
  have hk' : ¬ ((nd t n).kind ≠ 1 ∧ (nd t n).kind ≠ 3) := by omega
  by_cases ha : attrB (nd t n).kind a = true
  rotate_left
  · have ha : attrB (nd t n).kind a = false := by simpa using ha
    have e : setR t n a = (t, 7) := by simp only [setR]; rw [if_neg (by simp [hm]), if_neg (by simp [hn]), if_neg hk', if_pos ha]
    repeat' ((conv => whnf); (first
      | (refine Br_true (by assumption) ?_)
      | (refine Br_false (by assumption) ?_)
      | (refine Br_true (beqT (by omega)) ?_)
      | (refine Br_false (beqF (by omega)) ?_)
      | (refine Br_beq (fun h => ?_) (fun h => ?_))
      | (refine Br_true (bneT (by omega)) ?_)
      | (refine Br_false (bneF (by omega)) ?_)
      | (refine Br_bne (fun h => ?_) (fun h => ?_))
      | (refine Br_true (decide_eq_true (by omega)) ?_)
      | (refine Br_false (decide_eq_false (by omega)) ?_)
      | (refine Br_dec (fun h => ?_) (fun h => ?_))
      | (refine Br_not ?_)
      | (refine Len_in (fun hlen => ?_))
      | (refine W_draw 0 tt_ok mixed (by kernel_rfl) ?_)
      | (refine Fn.use (ref_May t) rfl rfl ?_)
      | (refine CallF_in (ref_May t) rfl rfl ?_)
      | (refine Fn.use (ref_Is t n) rfl rfl ?_)
      | (refine CallF_in (ref_Is t n) rfl rfl ?_)
      | (refine Idx_nd hn rfl ?_)
      | (refine Fn.use (ref_Attr _ _) rfl rfl ?_)
      | (refine CallF_in (ref_Attr _ _) rfl rfl ?_)
      | (refine fz 7 _ _ _ e)
      | (refine Br_split (fun h => ?_) (fun h => ?_))
      | (refine fin0 rfl ?_)
      | (refine ArK_in (wrap_i64 (by omega) (by omega)) ?_)
      | (refine force_in ?_)))
  have e : setR t n a = (putAttrs t n (withL (nd t n).attrs a true), 0) := by simp only [setR]; rw [if_neg (by simp [hm]), if_neg (by simp [hn]), if_neg hk', if_neg (by simp [ha])]
  rw [e]
  have hal := (hs.2 _ hin).2
  have hfl : ((t.map Node.cs).flatten.map AV.d).length = t.length * 7 := by rw [List.length_map, flatten_len _ cs7, List.length_map]
  have hsp : ∀ L : List Attr, splice ((t.map Node.cs).flatten.map AV.d) (0 + n.toNat * 7 + 6) [.d (attrsD L)] = ((putAttrs t n L).map Node.cs).flatten.map .d := fun L => by
    rw [Nat.zero_add, splice_flat (t.map Node.cs) n.toNat 6 (nd t n).cs (attrsD L) cs7 (nd_row hn) (by omega), put_cells hn]
  have hpl : ∀ L : List Attr, t.length = ((putAttrs t n L).map Node.cs).length := fun L => by simp [putAttrs]
  repeat' ((conv => whnf); (first
    | (refine Br_true (by assumption) ?_)
    | (refine Br_false (by assumption) ?_)
    | (refine Br_true (beqT (by omega)) ?_)
    | (refine Br_false (beqF (by omega)) ?_)
    | (refine Br_beq (fun h => ?_) (fun h => ?_))
    | (refine Br_true (bneT (by omega)) ?_)
    | (refine Br_false (bneF (by omega)) ?_)
    | (refine Br_bne (fun h => ?_) (fun h => ?_))
    | (refine Br_true (decide_eq_true (by omega)) ?_)
    | (refine Br_false (decide_eq_false (by omega)) ?_)
    | (refine Br_dec (fun h => ?_) (fun h => ?_))
    | (refine Br_not ?_)
    | (refine Len_in (fun hlen => ?_))
    | (refine W_draw 0 tt_ok mixed (by kernel_rfl) ?_)
    | (refine Fn.use (ref_May t) rfl rfl ?_)
    | (refine CallF_in (ref_May t) rfl rfl ?_)
    | (refine Fn.use (ref_Is t n) rfl rfl ?_)
    | (refine CallF_in (ref_Is t n) rfl rfl ?_)
    | (refine Idx_nd hn rfl ?_)
    | (refine Fn.use (ref_Attr _ _) rfl rfl ?_)
    | (refine CallF_in (ref_Attr _ _) rfl rfl ?_)
    | (refine Tri.tab (ref_Copy1 t hs hne) rfl ?_)
    | (refine Fn.use (ref_with _ _ _ hal) rfl rfl ?_)
    | (refine CallF_in (ref_with _ _ _ hal) rfl rfl ?_)
    | (refine Br_true (Nat.ble_eq_true_of_le (by rw [hfl]; simp; omega)) ?_)
    | (refine finD (F := [1]) (FV_tup2 (FV_tab ((putAttrs t n _).map Node.cs) rfl (hsp _) (hpl _) cs7) (.same _ rfl)))
    | (refine Br_split (fun h => ?_) (fun h => ?_))
    | (refine fin0 rfl ?_)
    | (refine ArK_in (wrap_i64 (by omega) (by omega)) ?_)
    | (refine force_in ?_)))
theorem ref_Drop (t : Tree) (n : Int) (name : Int) (hs : SmallT t) : Fn Tryd.prog 17 [.d (treeD t), .i n, .i name] (.tup [.d (treeD (dropR t n name).1), .i (dropR t n name).2]) := by
  refine Fn_of tt_ok Tryd.func17 rfl (by decide) Tryd.ntmps17 rfl ?_
  have fz : ∀ (e : Int) (H : Heap) (T : Tree) (e' : Int), (T, e') = (t, e) → FinK 0 (.tup [.d (treeD t), .i e]) H (fun v H => v = .tup [.d (treeD T), .i e'] ∧ H = []) := fun e H T e' h => by
    injection h with h1 h2; subst h1 h2
    exact finD (F := []) (.same _ rfl)
  by_cases hm : mayB t = true
  rotate_left
  · have hm : mayB t = false := by simpa using hm
    have e : dropR t n name = ([], 1) := by simp [dropR, hm]
    rw [e]
    repeat' ((conv => whnf); (first
      | (refine Br_true (by assumption) ?_)
      | (refine Br_false (by assumption) ?_)
      | (refine Br_true (beqT (by omega)) ?_)
      | (refine Br_false (beqF (by omega)) ?_)
      | (refine Br_beq (fun h => ?_) (fun h => ?_))
      | (refine Br_true (bneT (by omega)) ?_)
      | (refine Br_false (bneF (by omega)) ?_)
      | (refine Br_bne (fun h => ?_) (fun h => ?_))
      | (refine Br_true (decide_eq_true (by omega)) ?_)
      | (refine Br_false (decide_eq_false (by omega)) ?_)
      | (refine Br_dec (fun h => ?_) (fun h => ?_))
      | (refine Br_not ?_)
      | (refine Len_in (fun hlen => ?_))
      | (refine Fn.use (ref_May t) rfl rfl ?_)
      | (refine CallF_in (ref_May t) rfl rfl ?_)
      | (refine finD (F := []) (FV_tup2 .nsl (.same _ rfl)))
      | (refine Br_split (fun h => ?_) (fun h => ?_))
      | (refine fin0 rfl ?_)
      | (refine ArK_in (wrap_i64 (by omega) (by omega)) ?_)
      | (refine force_in ?_)))
  have hne := may_ne hm
  by_cases hn : isN t n = true
  rotate_left
  · have hn : isN t n = false := by simpa using hn
    have e : dropR t n name = (t, 2) := by simp [dropR, hm, hn]
    repeat' ((conv => whnf); (first
      | (refine Br_true (by assumption) ?_)
      | (refine Br_false (by assumption) ?_)
      | (refine Br_true (beqT (by omega)) ?_)
      | (refine Br_false (beqF (by omega)) ?_)
      | (refine Br_beq (fun h => ?_) (fun h => ?_))
      | (refine Br_true (bneT (by omega)) ?_)
      | (refine Br_false (bneF (by omega)) ?_)
      | (refine Br_bne (fun h => ?_) (fun h => ?_))
      | (refine Br_true (decide_eq_true (by omega)) ?_)
      | (refine Br_false (decide_eq_false (by omega)) ?_)
      | (refine Br_dec (fun h => ?_) (fun h => ?_))
      | (refine Br_not ?_)
      | (refine Len_in (fun hlen => ?_))
      | (refine Fn.use (ref_May t) rfl rfl ?_)
      | (refine CallF_in (ref_May t) rfl rfl ?_)
      | (refine Fn.use (ref_Is t n) rfl rfl ?_)
      | (refine CallF_in (ref_Is t n) rfl rfl ?_)
      | (refine fz 2 _ _ _ e)
      | (refine Br_split (fun h => ?_) (fun h => ?_))
      | (refine fin0 rfl ?_)
      | (refine ArK_in (wrap_i64 (by omega) (by omega)) ?_)
      | (refine force_in ?_)))
  obtain ⟨hlt, hget⟩ := nd_get hn
  have hin := nd_mem hn
  have hrg : 0 ≤ n ∧ n < (t.length : Int) := by unfold isN at hn; exact of_decide_eq_true hn
  have hgr : getR t n name = getV (nd t n).attrs name := by simp [getR, hn]
  by_cases ha : (getV (nd t n).attrs name).2 = true
  rotate_left
  · have ha : (getV (nd t n).attrs name).2 = false := by simpa using ha
    have e : dropR t n name = (t, 7) := by simp [dropR, hm, hn, ha]
    have hgr2 : (getR t n name).2 = false := by rw [hgr, ha]
    repeat' ((conv => whnf); (first
      | (refine Br_true (by assumption) ?_)
      | (refine Br_false (by assumption) ?_)
      | (refine Br_true (beqT (by omega)) ?_)
      | (refine Br_false (beqF (by omega)) ?_)
      | (refine Br_beq (fun h => ?_) (fun h => ?_))
      | (refine Br_true (bneT (by omega)) ?_)
      | (refine Br_false (bneF (by omega)) ?_)
      | (refine Br_bne (fun h => ?_) (fun h => ?_))
      | (refine Br_true (decide_eq_true (by omega)) ?_)
      | (refine Br_false (decide_eq_false (by omega)) ?_)
      | (refine Br_dec (fun h => ?_) (fun h => ?_))
      | (refine Br_not ?_)
      | (refine Len_in (fun hlen => ?_))
      | (refine W_draw 0 tt_ok mixed (by kernel_rfl) ?_)
      | (refine Fn.use (ref_May t) rfl rfl ?_)
      | (refine CallF_in (ref_May t) rfl rfl ?_)
      | (refine Fn.use (ref_Is t n) rfl rfl ?_)
      | (refine CallF_in (ref_Is t n) rfl rfl ?_)
      | (refine Idx_nd hn rfl ?_)
      | (refine Fn.use (ref_Has _ _ _) rfl rfl ?_)
      | (refine CallF_in (ref_Has _ _ _) rfl rfl ?_)
      | (refine fz 7 _ _ _ e)
      | (refine Br_split (fun h => ?_) (fun h => ?_))
      | (refine fin0 rfl ?_)
      | (refine ArK_in (wrap_i64 (by omega) (by omega)) ?_)
      | (refine force_in ?_)))
  have e : dropR t n name = (putAttrs t n (withL (nd t n).attrs ⟨name, 0⟩ false), 0) := by simp [dropR, hm, hn, ha]
  have hgr2 : (getR t n name).2 = true := by rw [hgr, ha]
  rw [e]
  have hal := (hs.2 _ hin).2
  have hfl : ((t.map Node.cs).flatten.map AV.d).length = t.length * 7 := by rw [List.length_map, flatten_len _ cs7, List.length_map]
  have hsp : ∀ L : List Attr, splice ((t.map Node.cs).flatten.map AV.d) (0 + n.toNat * 7 + 6) [.d (attrsD L)] = ((putAttrs t n L).map Node.cs).flatten.map .d := fun L => by
    rw [Nat.zero_add, splice_flat (t.map Node.cs) n.toNat 6 (nd t n).cs (attrsD L) cs7 (nd_row hn) (by omega), put_cells hn]
  have hpl : ∀ L : List Attr, t.length = ((putAttrs t n L).map Node.cs).length := fun L => by simp [putAttrs]
  repeat' ((conv => whnf); (first
    | (refine Br_true (by assumption) ?_)
    | (refine Br_false (by assumption) ?_)
    | (refine Br_true (beqT (by omega)) ?_)
    | (refine Br_false (beqF (by omega)) ?_)
    | (refine Br_beq (fun h => ?_) (fun h => ?_))
    | (refine Br_true (bneT (by omega)) ?_)
    | (refine Br_false (bneF (by omega)) ?_)
    | (refine Br_bne (fun h => ?_) (fun h => ?_))
    | (refine Br_true (decide_eq_true (by omega)) ?_)
    | (refine Br_false (decide_eq_false (by omega)) ?_)
    | (refine Br_dec (fun h => ?_) (fun h => ?_))
    | (refine Br_not ?_)
    | (refine Len_in (fun hlen => ?_))
    | (refine W_draw 0 tt_ok mixed (by kernel_rfl) ?_)
    | (refine Fn.use (ref_May t) rfl rfl ?_)
    | (refine CallF_in (ref_May t) rfl rfl ?_)
    | (refine Fn.use (ref_Is t n) rfl rfl ?_)
    | (refine CallF_in (ref_Is t n) rfl rfl ?_)
    | (refine Idx_nd hn rfl ?_)
    | (refine Fn.use (ref_Has _ _ _) rfl rfl ?_)
    | (refine CallF_in (ref_Has _ _ _) rfl rfl ?_)
    | (refine Tri.tab (ref_Copy1 t hs hne) rfl ?_)
    | (refine Fn.use (ref_with _ ⟨name, 0⟩ _ hal) rfl rfl ?_)
    | (refine CallF_in (ref_with _ ⟨name, 0⟩ _ hal) rfl rfl ?_)
    | (refine Br_true (Nat.ble_eq_true_of_le (by rw [hfl]; simp; omega)) ?_)
    | (refine finD (F := [0]) (FV_tup2 (FV_tab ((putAttrs t n _).map Node.cs) rfl (hsp _) (hpl _) cs7) (.same _ rfl)))
    | (refine Br_split (fun h => ?_) (fun h => ?_))
    | (refine fin0 rfl ?_)
    | (refine ArK_in (wrap_i64 (by omega) (by omega)) ?_)
    | (refine force_in ?_)))
end Go.Eng
namespace Go.Eng
open Go
abbrev str (l : List UInt8) : D := .str ⟨l.toArray⟩
theorem str_size (l : List UInt8) : (⟨l.toArray⟩ : ByteArray).size = l.length := by simp [ByteArray.size]
theorem str_of (s : ByteArray) : (⟨(s.data.toList).toArray⟩ : ByteArray) = s := by cases s; simp
theorem str_extract (l : List UInt8) (a b : Nat) : (⟨l.toArray⟩ : ByteArray).extract a b = ⟨((l.drop a).take (b - a)).toArray⟩ := by
  apply ByteArray.ext
  simp
theorem str_drop (l : List UInt8) (a : Nat) : (⟨l.toArray⟩ : ByteArray).extract a l.length = ⟨(l.drop a).toArray⟩ := by
  rw [str_extract]; congr 2; rw [List.take_of_length_le (by simp)]
theorem dec_lo (l : List UInt8) (i : Nat) (h : i < l.length) (hc : (l[i]).toNat < 128) : Utf8.decode ⟨l.toArray⟩ i = ((l[i]).toNat, 1) := by
  have e : ((⟨l.toArray⟩ : ByteArray).get! (i + 0)).toNat = (l[i]).toNat := by
    show (l.toArray[i]!).toNat = _
    rw [getElem!_pos l.toArray i (by simpa using h)]; simp
  unfold Utf8.decode
  simp only [e]
  rw [if_pos hc]
theorem dec_hi (l : List UInt8) (i : Nat) (h : i < l.length) (hc : 128 ≤ (l[i]).toNat) : 128 ≤ (Utf8.decode ⟨l.toArray⟩ i).1 := by
  have e : ((⟨l.toArray⟩ : ByteArray).get! (i + 0)).toNat = (l[i]).toNat := by
    show (l.toArray[i]!).toNat = _
    rw [getElem!_pos l.toArray i (by simpa using h)]; simp
  unfold Utf8.decode
  simp only [e]
  rw [if_neg (by omega)]
  repeat' split
  all_goals (first | (simp only [Utf8.runeError]; omega) | (simp_all; omega) | skip)
  all_goals simp_all
  all_goals omega
@[irreducible] def blankB (c : UInt8) : Bool := decide (c.toNat = 32 ∨ c.toNat = 9 ∨ c.toNat = 10 ∨ c.toNat = 12 ∨ c.toNat = 13)
@[irreducible] def digitB (c : UInt8) : Bool := decide (48 ≤ c.toNat ∧ c.toNat ≤ 57)
def mnI (a b : Int) : Int := if b < a then b else a
def valS (n : Int) (c : UInt8) : Int := mnI (10 * n + ((c.toNat : Int) - 48)) 2147483648
def valD (ds : List UInt8) : Int := ds.foldl valS 0
theorem valD_snoc (ds : List UInt8) (c : UInt8) : valD (ds ++ [c]) = valS (valD ds) c := by simp [valD]
theorem valD_bd (ds : List UInt8) (h : ∀ c ∈ ds, digitB c = true) : 0 ≤ valD ds ∧ valD ds ≤ 2147483648 := by
  unfold valD
  have key : ∀ (ds : List UInt8) (n : Int), (∀ c ∈ ds, digitB c = true) → 0 ≤ n → n ≤ 2147483648 → 0 ≤ ds.foldl valS n ∧ ds.foldl valS n ≤ 2147483648 := by
    intro ds
    induction ds with
    | nil => intro n _ h1 h2; exact ⟨h1, h2⟩
    | cons c t ih =>
      intro n h h1 h2
      have hc := h c (by simp)
      unfold digitB at hc
      have hc := of_decide_eq_true hc
      refine ih _ (fun x hx => h x (by simp [hx])) ?_ ?_ <;> (unfold valS mnI; split <;> omega)
  exact key ds 0 h (by omega) (by omega)
def signOf (r : List UInt8) : Int := if r.head? = some 45 then -1 else 1
def afterSign (r : List UInt8) : List UInt8 := if r.head? = some 45 ∨ r.head? = some 43 then r.tail else r
def idxOf (l : List UInt8) : Int × Bool :=
  let r := l.dropWhile blankB
  let ds := (afterSign r).takeWhile digitB
  if ds = [] then (0, false) else (mnI (signOf r * valD ds) 2147483647, true)
theorem dropWhile_step {p : UInt8 → Bool} {l : List UInt8} {i : Nat} (h : l.dropWhile p = (l.drop i).dropWhile p) (hi : i < l.length) : (p l[i] = true → l.dropWhile p = (l.drop (i + 1)).dropWhile p) ∧ (p l[i] = false → l.dropWhile p = l.drop i) := by
  rw [List.drop_eq_getElem_cons hi] at h ⊢
  constructor
  · intro hp; rw [h, List.dropWhile_cons, if_pos hp]
  · intro hp; rw [h, List.dropWhile_cons, if_neg (by simp [hp])]
theorem takeWhile_step {p : UInt8 → Bool} {q : List UInt8} {j : Nat} (h : q.takeWhile p = q.take j ++ (q.drop j).takeWhile p) (hj : j < q.length) : (p q[j] = true → q.takeWhile p = q.take (j + 1) ++ (q.drop (j + 1)).takeWhile p) ∧ (p q[j] = false → q.takeWhile p = q.take j) := by
  rw [List.drop_eq_getElem_cons hj] at h
  constructor
  · intro hp; rw [h, List.takeWhile_cons, if_pos hp, List.take_succ_eq_append_getElem hj, List.append_assoc]; rfl
  · intro hp; rw [h, List.takeWhile_cons, if_neg (by simp [hp])]; simp
end Go.Eng
