/- What the seat's proofs lean on, part 5: the executor over abstract values, its soundness, and what the program's functions answer (Rat3, Att1, Att2, Att3, Att4, Eng26, Cpy1). -/
import Derived.Test.YtjanagmofpdmnaaDoorEng04
import Derived.Laws.Strings
import Derived.Test.YtjanagmofpdmnaaDoorEng03
set_option linter.all false
set_option linter.unusedVariables false
set_option linter.unusedSimpArgs false
set_option maxRecDepth 100000
set_option linter.unusedVariables false
namespace Go.Eng
open Go Go.Proofs
set_option maxHeartbeats 2000000 in
theorem ref_Index (l : List UInt8) : Fn Tryd.prog 21 [.d (str l)] (.tup [.i (idxOf l).1, .b (idxOf l).2]) := by
  refine Fn_of tt_ok Tryd.func21 rfl (by decide) Tryd.ntmps21 rfl ?_
  have es := str_size l
  refine W_loop (fun μ s => ∃ (k : Nat), k ≤ l.length ∧ μ = l.length - k ∧ (l.dropWhile blankB = (l.drop k).dropWhile blankB) ∧ s = ⟨[(0, .d (str l)), (4, .i k)], 101, [], 0, []⟩) (l.length) ⟨_, ?_, 0, by simp, by simp, ?_, rfl⟩ ?_
  · exact Wk_env (by repeat (first | exact trivial | refine ⟨rfl, ?_⟩))
  · rfl
  rintro μ s1 ⟨k, hk, rfl, hinv, rfl⟩
  refine W_run tt_ok ?_
  refine Len_in (fun hlen => ?_)
  rw [es] at hlen
  by_cases hlt : k < l.length
  · obtain ⟨hyes, hno⟩ := dropWhile_step hinv hlt
    have hi : (⟨l.toArray⟩ : ByteArray).data.toList[(k : Int).toNat]? = some (l[k]) := by simp [hlt]
    have hc := l[k].toNat_lt
    by_cases hb : blankB l[k] = true
    · have hb' := hb
      unfold blankB at hb'
      have hb' := of_decide_eq_true hb'
      repeat' ((conv => whnf); (first
        | (refine Br_true (by assumption) ?_)
        | (refine Br_false (by assumption) ?_)
        | (refine Br_true (beqT (by omega)) ?_)
        | (refine Br_false (beqF (by omega)) ?_)
        | (refine Br_beq (fun h => ?_) (fun h => ?_))
        | (refine Br_true (bneT (by omega)) ?_)
        | (refine Br_false (bneF (by omega)) ?_)
        | (refine Br_bne (fun h => ?_) (fun h => ?_))
        | (refine Br_true (decide_eq_true (by omega)) ?_)
        | (refine Br_false (decide_eq_false (by omega)) ?_)
        | (refine Br_dec (fun h => ?_) (fun h => ?_))
        | (refine Br_not ?_)
        | (refine Len_in (fun hlen => ?_))
        | (refine Byte_in _ hi (by omega) ?_)
        | (refine Back_in _ _ ⟨k + 1, by omega, rfl, ?_, rfl⟩ (by omega) (Wk_env (by repeat (first | exact trivial | refine ⟨rfl, ?_⟩))))
        | (refine Br_split (fun h => ?_) (fun h => ?_))
        | (refine fin0 rfl ?_)
        | (refine ArK_in (wrap_i64 (by omega) (by omega)) ?_)
        | (refine force_in ?_)))
      all_goals exact hyes hb
    · have hb : blankB l[k] = false := by simpa using hb
      have hr := hno hb
      unfold blankB at hb
      have hb := of_decide_eq_false hb
      have hd : l.drop k = l[k] :: l.drop (k + 1) := List.drop_eq_getElem_cons hlt
      by_cases h45 : (l[k]).toNat = 45
      · have h45' : l[k] = 45 := by apply UInt8.toNat_inj.1; rw [h45]; rfl
        have hq : idxOf l = if (l.drop (k + 1)).takeWhile digitB = [] then (0, false) else (mnI (-1 * valD ((l.drop (k + 1)).takeWhile digitB)) 2147483647, true) := by
          simp only [idxOf, hr, hd, signOf, afterSign, h45', List.head?_cons, List.tail_cons, if_true, true_or]
        clear hinv
        rw [hq]
        repeat' ((conv => whnf); (first
          | (refine Br_true (by assumption) ?_)
          | (refine Br_false (by assumption) ?_)
          | (refine Br_true (beqT (by omega)) ?_)
          | (refine Br_false (beqF (by omega)) ?_)
          | (refine Br_beq (fun h => ?_) (fun h => ?_))
          | (refine Br_true (bneT (by omega)) ?_)
          | (refine Br_false (bneF (by omega)) ?_)
          | (refine Br_bne (fun h => ?_) (fun h => ?_))
          | (refine Br_true (decide_eq_true (by omega)) ?_)
          | (refine Br_false (decide_eq_false (by omega)) ?_)
          | (refine Br_dec (fun h => ?_) (fun h => ?_))
          | (refine Br_not ?_)
          | (refine Len_in (fun hlen => ?_))
          | (refine Byte_in _ hi (by omega) ?_)
          | (refine Br_split (fun h => ?_) (fun h => ?_))
          | (refine fin0 rfl ?_)
          | (refine ArK_in (wrap_i64 (by omega) (by omega)) ?_)
          | (refine force_in ?_)))
        clear hq hyes hno hi hb hr hd hc h45 h45'
        refine W_loop (fun μ s => ∃ (j : Nat) (v : Int), j ≤ (l.drop (k + 1)).length ∧ μ = (l.drop (k + 1)).length - j ∧ v = valD ((l.drop (k + 1)).take j) ∧ (∀ c ∈ (l.drop (k + 1)).take j, digitB c = true) ∧ (l.drop (k + 1)).takeWhile digitB = (l.drop (k + 1)).take j ++ ((l.drop (k + 1)).drop j).takeWhile digitB ∧
          s = ⟨[(0, .d (str l)), (4, .i (((k + 1) : Nat) + (j : Int))), (5, .i (-1)), (6, .i ((k + 1) : Nat)), (7, .i v)], 101, [], 0, []⟩) (l.drop (k + 1)).length ⟨_, ?_, 0, 0, by omega, by omega, rfl, by simp, by simp, rfl⟩ ?_
        · exact Wk_env (by repeat (first | exact trivial | refine ⟨rfl, ?_⟩))
        rintro μ s1 ⟨j, v, hj, rfl, hv, hdg, htw, rfl⟩
        have hvb := valD_bd _ hdg
        rw [← hv] at hvb
        have hql : (l.drop (k + 1)).length = l.length - (k + 1) := by simp
        refine W_run tt_ok ?_
        refine Len_in (fun _ => ?_)
        have fin : (l.drop (k + 1)).takeWhile digitB = (l.drop (k + 1)).take j → (if (l.drop (k + 1)).takeWhile digitB = [] then ((0 : Int), false) else (mnI (-1 * valD ((l.drop (k + 1)).takeWhile digitB)) 2147483647, true)) = if j = 0 then (0, false) else (mnI (-1 * v) 2147483647, true) := fun e => by
          rw [e, ← hv]
          by_cases h0 : j = 0
          · subst h0; simp
          · rw [if_neg h0, if_neg]
            intro h
            have := congrArg List.length h
            simp at this
            omega
        by_cases hjl : j < (l.drop (k + 1)).length
        · try (exfalso; omega)
          all_goals obtain ⟨hyes, hno⟩ := takeWhile_step htw hjl
          have hget : (l.drop (k + 1))[j] = l[(k + 1) + j]'(by omega) := by simp
          have hi : (⟨l.toArray⟩ : ByteArray).data.toList[((((k + 1) : Nat) : Int) + (j : Int)).toNat]? = some ((l.drop (k + 1))[j]) := by
            rw [show ((((k + 1) : Nat) : Int) + (j : Int)).toNat = (k + 1) + j by omega, hget]; simp
          have hc := ((l.drop (k + 1))[j]).toNat_lt
          by_cases hb : digitB (l.drop (k + 1))[j] = true
          · have hb' := hb
            unfold digitB at hb'
            have hb' := of_decide_eq_true hb'
            have hnx : valD ((l.drop (k + 1)).take (j + 1)) = mnI (10 * v + (((l.drop (k + 1))[j]).toNat : Int) - 48) 2147483648 := by
              rw [List.take_succ_eq_append_getElem hjl, valD_snoc, ← hv]; unfold valS; congr 1; omega
            have hdg' : ∀ c ∈ (l.drop (k + 1)).take (j + 1), digitB c = true := by
              rw [List.take_succ_eq_append_getElem hjl]
              intro c hc; simp only [List.mem_append, List.mem_singleton] at hc
              rcases hc with hc | rfl
              · exact hdg c hc
              · exact hb
            repeat' ((conv => whnf); (first
              | (refine Br_true (by assumption) ?_)
              | (refine Br_false (by assumption) ?_)
              | (refine Br_true (beqT (by omega)) ?_)
              | (refine Br_false (beqF (by omega)) ?_)
              | (refine Br_beq (fun h => ?_) (fun h => ?_))
              | (refine Br_true (bneT (by omega)) ?_)
              | (refine Br_false (bneF (by omega)) ?_)
              | (refine Br_bne (fun h => ?_) (fun h => ?_))
              | (refine Br_true (decide_eq_true (by omega)) ?_)
              | (refine Br_false (decide_eq_false (by omega)) ?_)
              | (refine Br_dec (fun h => ?_) (fun h => ?_))
              | (refine Br_not ?_)
              | (refine Len_in (fun hlen => ?_))
              | (refine Byte_in _ hi (by omega) ?_)
              | (refine Back_in ⟨[(0, .d (str l)), (4, .i (((k + 1) : Nat) + ((j + 1 : Nat) : Int))), (5, .i (-1)), (6, .i ((k + 1) : Nat)), (7, .i (mnI (10 * v + (((l.drop (k + 1))[j]).toNat : Int) - 48) 2147483648))], 101, [], 0, []⟩ _ ⟨j + 1, _, by omega, rfl, hnx.symm, hdg', hyes hb, rfl⟩ (by omega) (Wk_env (by refine ⟨rfl, ?_, rfl, rfl, rfl, trivial⟩; exact congrArg AV.i (by omega))))
              | (refine Br_split (fun h => ?_) (fun h => ?_))
              | (refine fin0 rfl ?_)
              | (refine ArK_in (wrap_i64 (by omega) (by omega)) ?_)
              | (refine force_in ?_)))
          · have hb : digitB (l.drop (k + 1))[j] = false := by simpa using hb
            rw [fin (hno hb)]
            unfold digitB at hb
            have hb := of_decide_eq_false hb
            by_cases h0 : j = 0
            · try (exfalso; omega)
              all_goals rw [if_pos h0]
              repeat' ((conv => whnf); (first
                | (refine Br_true (by assumption) ?_)
                | (refine Br_false (by assumption) ?_)
                | (refine Br_true (beqT (by omega)) ?_)
                | (refine Br_false (beqF (by omega)) ?_)
                | (refine Br_beq (fun h => ?_) (fun h => ?_))
                | (refine Br_true (bneT (by omega)) ?_)
                | (refine Br_false (bneF (by omega)) ?_)
                | (refine Br_bne (fun h => ?_) (fun h => ?_))
                | (refine Br_true (decide_eq_true (by omega)) ?_)
                | (refine Br_false (decide_eq_false (by omega)) ?_)
                | (refine Br_dec (fun h => ?_) (fun h => ?_))
                | (refine Br_not ?_)
                | (refine Len_in (fun hlen => ?_))
                | (refine Byte_in _ hi (by omega) ?_)
                | (refine Br_split (fun h => ?_) (fun h => ?_))
                | (refine fin0 rfl ?_)
                | (refine ArK_in (wrap_i64 (by omega) (by omega)) ?_)
                | (refine force_in ?_)))
              all_goals rfl
            · try (exfalso; omega)
              all_goals rw [if_neg h0]
              repeat' ((conv => whnf); (first
                | (refine Br_true (by assumption) ?_)
                | (refine Br_false (by assumption) ?_)
                | (refine Br_true (beqT (by omega)) ?_)
                | (refine Br_false (beqF (by omega)) ?_)
                | (refine Br_beq (fun h => ?_) (fun h => ?_))
                | (refine Br_true (bneT (by omega)) ?_)
                | (refine Br_false (bneF (by omega)) ?_)
                | (refine Br_bne (fun h => ?_) (fun h => ?_))
                | (refine Br_true (decide_eq_true (by omega)) ?_)
                | (refine Br_false (decide_eq_false (by omega)) ?_)
                | (refine Br_dec (fun h => ?_) (fun h => ?_))
                | (refine Br_not ?_)
                | (refine Len_in (fun hlen => ?_))
                | (refine Byte_in _ hi (by omega) ?_)
                | (refine Br_split (fun h => ?_) (fun h => ?_))
                | (refine fin0 rfl ?_)
                | (refine ArK_in (wrap_i64 (by omega) (by omega)) ?_)
                | (refine force_in ?_)))
              all_goals rfl
        · have e : (l.drop (k + 1)).takeWhile digitB = (l.drop (k + 1)).take j := by rw [htw, List.drop_eq_nil_of_le (Nat.le_of_not_lt hjl)]; simp
          rw [fin e]
          by_cases h0 : j = 0
          · try (exfalso; omega)
            all_goals rw [if_pos h0]
            repeat' ((conv => whnf); (first
              | (refine Br_true (by assumption) ?_)
              | (refine Br_false (by assumption) ?_)
              | (refine Br_true (beqT (by omega)) ?_)
              | (refine Br_false (beqF (by omega)) ?_)
              | (refine Br_beq (fun h => ?_) (fun h => ?_))
              | (refine Br_true (bneT (by omega)) ?_)
              | (refine Br_false (bneF (by omega)) ?_)
              | (refine Br_bne (fun h => ?_) (fun h => ?_))
              | (refine Br_true (decide_eq_true (by omega)) ?_)
              | (refine Br_false (decide_eq_false (by omega)) ?_)
              | (refine Br_dec (fun h => ?_) (fun h => ?_))
              | (refine Br_not ?_)
              | (refine Len_in (fun hlen => ?_))
              | (refine Br_split (fun h => ?_) (fun h => ?_))
              | (refine fin0 rfl ?_)
              | (refine ArK_in (wrap_i64 (by omega) (by omega)) ?_)
              | (refine force_in ?_)))
            all_goals rfl
          · try (exfalso; omega)
            all_goals rw [if_neg h0]
            repeat' ((conv => whnf); (first
              | (refine Br_true (by assumption) ?_)
              | (refine Br_false (by assumption) ?_)
              | (refine Br_true (beqT (by omega)) ?_)
              | (refine Br_false (beqF (by omega)) ?_)
              | (refine Br_beq (fun h => ?_) (fun h => ?_))
              | (refine Br_true (bneT (by omega)) ?_)
              | (refine Br_false (bneF (by omega)) ?_)
              | (refine Br_bne (fun h => ?_) (fun h => ?_))
              | (refine Br_true (decide_eq_true (by omega)) ?_)
              | (refine Br_false (decide_eq_false (by omega)) ?_)
              | (refine Br_dec (fun h => ?_) (fun h => ?_))
              | (refine Br_not ?_)
              | (refine Len_in (fun hlen => ?_))
              | (refine Br_split (fun h => ?_) (fun h => ?_))
              | (refine fin0 rfl ?_)
              | (refine ArK_in (wrap_i64 (by omega) (by omega)) ?_)
              | (refine force_in ?_)))
            all_goals rfl
      · by_cases h43 : (l[k]).toNat = 43
        · have h43' : l[k] = 43 := by apply UInt8.toNat_inj.1; rw [h43]; rfl
          have hq : idxOf l = if (l.drop (k + 1)).takeWhile digitB = [] then (0, false) else (mnI (1 * valD ((l.drop (k + 1)).takeWhile digitB)) 2147483647, true) := by
            simp [idxOf, hr, hd, signOf, afterSign, h43']
          clear hinv
          rw [hq]
          repeat' ((conv => whnf); (first
            | (refine Br_true (by assumption) ?_)
            | (refine Br_false (by assumption) ?_)
            | (refine Br_true (beqT (by omega)) ?_)
            | (refine Br_false (beqF (by omega)) ?_)
            | (refine Br_beq (fun h => ?_) (fun h => ?_))
            | (refine Br_true (bneT (by omega)) ?_)
            | (refine Br_false (bneF (by omega)) ?_)
            | (refine Br_bne (fun h => ?_) (fun h => ?_))
            | (refine Br_true (decide_eq_true (by omega)) ?_)
            | (refine Br_false (decide_eq_false (by omega)) ?_)
            | (refine Br_dec (fun h => ?_) (fun h => ?_))
            | (refine Br_not ?_)
            | (refine Len_in (fun hlen => ?_))
            | (refine Byte_in _ hi (by omega) ?_)
            | (refine Br_split (fun h => ?_) (fun h => ?_))
            | (refine fin0 rfl ?_)
            | (refine ArK_in (wrap_i64 (by omega) (by omega)) ?_)
            | (refine force_in ?_)))
          clear hq hyes hno hi hb hr hd hc h45 h43 h43'
          refine W_loop (fun μ s => ∃ (j : Nat) (v : Int), j ≤ (l.drop (k + 1)).length ∧ μ = (l.drop (k + 1)).length - j ∧ v = valD ((l.drop (k + 1)).take j) ∧ (∀ c ∈ (l.drop (k + 1)).take j, digitB c = true) ∧ (l.drop (k + 1)).takeWhile digitB = (l.drop (k + 1)).take j ++ ((l.drop (k + 1)).drop j).takeWhile digitB ∧
            s = ⟨[(0, .d (str l)), (4, .i (((k + 1) : Nat) + (j : Int))), (5, .i (1)), (6, .i ((k + 1) : Nat)), (7, .i v)], 101, [], 0, []⟩) (l.drop (k + 1)).length ⟨_, ?_, 0, 0, by omega, by omega, rfl, by simp, by simp, rfl⟩ ?_
          · exact Wk_env (by repeat (first | exact trivial | refine ⟨rfl, ?_⟩))
          rintro μ s1 ⟨j, v, hj, rfl, hv, hdg, htw, rfl⟩
          have hvb := valD_bd _ hdg
          rw [← hv] at hvb
          have hql : (l.drop (k + 1)).length = l.length - (k + 1) := by simp
          refine W_run tt_ok ?_
          refine Len_in (fun _ => ?_)
          have fin : (l.drop (k + 1)).takeWhile digitB = (l.drop (k + 1)).take j → (if (l.drop (k + 1)).takeWhile digitB = [] then ((0 : Int), false) else (mnI (1 * valD ((l.drop (k + 1)).takeWhile digitB)) 2147483647, true)) = if j = 0 then (0, false) else (mnI (1 * v) 2147483647, true) := fun e => by
            rw [e, ← hv]
            by_cases h0 : j = 0
            · subst h0; simp
            · rw [if_neg h0, if_neg]
              intro h
              have := congrArg List.length h
              simp at this
              omega
          by_cases hjl : j < (l.drop (k + 1)).length
          · try (exfalso; omega)
            all_goals obtain ⟨hyes, hno⟩ := takeWhile_step htw hjl
            have hget : (l.drop (k + 1))[j] = l[(k + 1) + j]'(by omega) := by simp
            have hi : (⟨l.toArray⟩ : ByteArray).data.toList[((((k + 1) : Nat) : Int) + (j : Int)).toNat]? = some ((l.drop (k + 1))[j]) := by
              rw [show ((((k + 1) : Nat) : Int) + (j : Int)).toNat = (k + 1) + j by omega, hget]; simp
            have hc := ((l.drop (k + 1))[j]).toNat_lt
            by_cases hb : digitB (l.drop (k + 1))[j] = true
            · have hb' := hb
              unfold digitB at hb'
              have hb' := of_decide_eq_true hb'
              have hnx : valD ((l.drop (k + 1)).take (j + 1)) = mnI (10 * v + (((l.drop (k + 1))[j]).toNat : Int) - 48) 2147483648 := by
                rw [List.take_succ_eq_append_getElem hjl, valD_snoc, ← hv]; unfold valS; congr 1; omega
              have hdg' : ∀ c ∈ (l.drop (k + 1)).take (j + 1), digitB c = true := by
                rw [List.take_succ_eq_append_getElem hjl]
                intro c hc; simp only [List.mem_append, List.mem_singleton] at hc
                rcases hc with hc | rfl
                · exact hdg c hc
                · exact hb
              repeat' ((conv => whnf); (first
                | (refine Br_true (by assumption) ?_)
                | (refine Br_false (by assumption) ?_)
                | (refine Br_true (beqT (by omega)) ?_)
                | (refine Br_false (beqF (by omega)) ?_)
                | (refine Br_beq (fun h => ?_) (fun h => ?_))
                | (refine Br_true (bneT (by omega)) ?_)
                | (refine Br_false (bneF (by omega)) ?_)
                | (refine Br_bne (fun h => ?_) (fun h => ?_))
                | (refine Br_true (decide_eq_true (by omega)) ?_)
                | (refine Br_false (decide_eq_false (by omega)) ?_)
                | (refine Br_dec (fun h => ?_) (fun h => ?_))
                | (refine Br_not ?_)
                | (refine Len_in (fun hlen => ?_))
                | (refine Byte_in _ hi (by omega) ?_)
                | (refine Back_in ⟨[(0, .d (str l)), (4, .i (((k + 1) : Nat) + ((j + 1 : Nat) : Int))), (5, .i (1)), (6, .i ((k + 1) : Nat)), (7, .i (mnI (10 * v + (((l.drop (k + 1))[j]).toNat : Int) - 48) 2147483648))], 101, [], 0, []⟩ _ ⟨j + 1, _, by omega, rfl, hnx.symm, hdg', hyes hb, rfl⟩ (by omega) (Wk_env (by refine ⟨rfl, ?_, rfl, rfl, rfl, trivial⟩; exact congrArg AV.i (by omega))))
                | (refine Br_split (fun h => ?_) (fun h => ?_))
                | (refine fin0 rfl ?_)
                | (refine ArK_in (wrap_i64 (by omega) (by omega)) ?_)
                | (refine force_in ?_)))
            · have hb : digitB (l.drop (k + 1))[j] = false := by simpa using hb
              rw [fin (hno hb)]
              unfold digitB at hb
              have hb := of_decide_eq_false hb
              by_cases h0 : j = 0
              · try (exfalso; omega)
                all_goals rw [if_pos h0]
                repeat' ((conv => whnf); (first
                  | (refine Br_true (by assumption) ?_)
                  | (refine Br_false (by assumption) ?_)
                  | (refine Br_true (beqT (by omega)) ?_)
                  | (refine Br_false (beqF (by omega)) ?_)
                  | (refine Br_beq (fun h => ?_) (fun h => ?_))
                  | (refine Br_true (bneT (by omega)) ?_)
                  | (refine Br_false (bneF (by omega)) ?_)
                  | (refine Br_bne (fun h => ?_) (fun h => ?_))
                  | (refine Br_true (decide_eq_true (by omega)) ?_)
                  | (refine Br_false (decide_eq_false (by omega)) ?_)
                  | (refine Br_dec (fun h => ?_) (fun h => ?_))
                  | (refine Br_not ?_)
                  | (refine Len_in (fun hlen => ?_))
                  | (refine Byte_in _ hi (by omega) ?_)
                  | (refine Br_split (fun h => ?_) (fun h => ?_))
                  | (refine fin0 rfl ?_)
                  | (refine ArK_in (wrap_i64 (by omega) (by omega)) ?_)
                  | (refine force_in ?_)))
                all_goals rfl
              · try (exfalso; omega)
                all_goals rw [if_neg h0]
                repeat' ((conv => whnf); (first
                  | (refine Br_true (by assumption) ?_)
                  | (refine Br_false (by assumption) ?_)
                  | (refine Br_true (beqT (by omega)) ?_)
                  | (refine Br_false (beqF (by omega)) ?_)
                  | (refine Br_beq (fun h => ?_) (fun h => ?_))
                  | (refine Br_true (bneT (by omega)) ?_)
                  | (refine Br_false (bneF (by omega)) ?_)
                  | (refine Br_bne (fun h => ?_) (fun h => ?_))
                  | (refine Br_true (decide_eq_true (by omega)) ?_)
                  | (refine Br_false (decide_eq_false (by omega)) ?_)
                  | (refine Br_dec (fun h => ?_) (fun h => ?_))
                  | (refine Br_not ?_)
                  | (refine Len_in (fun hlen => ?_))
                  | (refine Byte_in _ hi (by omega) ?_)
                  | (refine Br_split (fun h => ?_) (fun h => ?_))
                  | (refine fin0 rfl ?_)
                  | (refine ArK_in (wrap_i64 (by omega) (by omega)) ?_)
                  | (refine force_in ?_)))
                all_goals rfl
          · have e : (l.drop (k + 1)).takeWhile digitB = (l.drop (k + 1)).take j := by rw [htw, List.drop_eq_nil_of_le (Nat.le_of_not_lt hjl)]; simp
            rw [fin e]
            by_cases h0 : j = 0
            · try (exfalso; omega)
              all_goals rw [if_pos h0]
              repeat' ((conv => whnf); (first
                | (refine Br_true (by assumption) ?_)
                | (refine Br_false (by assumption) ?_)
                | (refine Br_true (beqT (by omega)) ?_)
                | (refine Br_false (beqF (by omega)) ?_)
                | (refine Br_beq (fun h => ?_) (fun h => ?_))
                | (refine Br_true (bneT (by omega)) ?_)
                | (refine Br_false (bneF (by omega)) ?_)
                | (refine Br_bne (fun h => ?_) (fun h => ?_))
                | (refine Br_true (decide_eq_true (by omega)) ?_)
                | (refine Br_false (decide_eq_false (by omega)) ?_)
                | (refine Br_dec (fun h => ?_) (fun h => ?_))
                | (refine Br_not ?_)
                | (refine Len_in (fun hlen => ?_))
                | (refine Br_split (fun h => ?_) (fun h => ?_))
                | (refine fin0 rfl ?_)
                | (refine ArK_in (wrap_i64 (by omega) (by omega)) ?_)
                | (refine force_in ?_)))
              all_goals rfl
            · try (exfalso; omega)
              all_goals rw [if_neg h0]
              repeat' ((conv => whnf); (first
                | (refine Br_true (by assumption) ?_)
                | (refine Br_false (by assumption) ?_)
                | (refine Br_true (beqT (by omega)) ?_)
                | (refine Br_false (beqF (by omega)) ?_)
                | (refine Br_beq (fun h => ?_) (fun h => ?_))
                | (refine Br_true (bneT (by omega)) ?_)
                | (refine Br_false (bneF (by omega)) ?_)
                | (refine Br_bne (fun h => ?_) (fun h => ?_))
                | (refine Br_true (decide_eq_true (by omega)) ?_)
                | (refine Br_false (decide_eq_false (by omega)) ?_)
                | (refine Br_dec (fun h => ?_) (fun h => ?_))
                | (refine Br_not ?_)
                | (refine Len_in (fun hlen => ?_))
                | (refine Br_split (fun h => ?_) (fun h => ?_))
                | (refine fin0 rfl ?_)
                | (refine ArK_in (wrap_i64 (by omega) (by omega)) ?_)
                | (refine force_in ?_)))
              all_goals rfl
        · have h45' : l[k] ≠ 45 := fun e => h45 (by rw [e]; rfl)
          have h43' : l[k] ≠ 43 := fun e => h43 (by rw [e]; rfl)
          have hq : idxOf l = if (l.drop k).takeWhile digitB = [] then (0, false) else (mnI (1 * valD ((l.drop k).takeWhile digitB)) 2147483647, true) := by
            simp only [idxOf, hr, signOf, afterSign, hd, List.head?_cons, Option.some.injEq, h45', h43', if_false, or_self]
          clear hinv
          rw [hq]
          repeat' ((conv => whnf); (first
            | (refine Br_true (by assumption) ?_)
            | (refine Br_false (by assumption) ?_)
            | (refine Br_true (beqT (by omega)) ?_)
            | (refine Br_false (beqF (by omega)) ?_)
            | (refine Br_beq (fun h => ?_) (fun h => ?_))
            | (refine Br_true (bneT (by omega)) ?_)
            | (refine Br_false (bneF (by omega)) ?_)
            | (refine Br_bne (fun h => ?_) (fun h => ?_))
            | (refine Br_true (decide_eq_true (by omega)) ?_)
            | (refine Br_false (decide_eq_false (by omega)) ?_)
            | (refine Br_dec (fun h => ?_) (fun h => ?_))
            | (refine Br_not ?_)
            | (refine Len_in (fun hlen => ?_))
            | (refine Byte_in _ hi (by omega) ?_)
            | (refine Br_split (fun h => ?_) (fun h => ?_))
            | (refine fin0 rfl ?_)
            | (refine ArK_in (wrap_i64 (by omega) (by omega)) ?_)
            | (refine force_in ?_)))
          clear hq hyes hno hi hb hr hd hc h45 h43 h43' h45'
          refine W_loop (fun μ s => ∃ (j : Nat) (v : Int), j ≤ (l.drop k).length ∧ μ = (l.drop k).length - j ∧ v = valD ((l.drop k).take j) ∧ (∀ c ∈ (l.drop k).take j, digitB c = true) ∧ (l.drop k).takeWhile digitB = (l.drop k).take j ++ ((l.drop k).drop j).takeWhile digitB ∧
            s = ⟨[(0, .d (str l)), (4, .i ((k : Nat) + (j : Int))), (5, .i (1)), (6, .i (k : Nat)), (7, .i v)], 101, [], 0, []⟩) (l.drop k).length ⟨_, ?_, 0, 0, by omega, by omega, rfl, by simp, by simp, rfl⟩ ?_
          · exact Wk_env (by repeat (first | exact trivial | refine ⟨rfl, ?_⟩))
          rintro μ s1 ⟨j, v, hj, rfl, hv, hdg, htw, rfl⟩
          have hvb := valD_bd _ hdg
          rw [← hv] at hvb
          have hql : (l.drop k).length = l.length - k := by simp
          refine W_run tt_ok ?_
          refine Len_in (fun _ => ?_)
          have fin : (l.drop k).takeWhile digitB = (l.drop k).take j → (if (l.drop k).takeWhile digitB = [] then ((0 : Int), false) else (mnI (1 * valD ((l.drop k).takeWhile digitB)) 2147483647, true)) = if j = 0 then (0, false) else (mnI (1 * v) 2147483647, true) := fun e => by
            rw [e, ← hv]
            by_cases h0 : j = 0
            · subst h0; simp
            · rw [if_neg h0, if_neg]
              intro h
              have := congrArg List.length h
              simp at this
              omega
          by_cases hjl : j < (l.drop k).length
          · try (exfalso; omega)
            all_goals obtain ⟨hyes, hno⟩ := takeWhile_step htw hjl
            have hget : (l.drop k)[j] = l[k + j]'(by omega) := by simp
            have hi : (⟨l.toArray⟩ : ByteArray).data.toList[(((k : Nat) : Int) + (j : Int)).toNat]? = some ((l.drop k)[j]) := by
              rw [show (((k : Nat) : Int) + (j : Int)).toNat = k + j by omega, hget]; simp
            have hc := ((l.drop k)[j]).toNat_lt
            by_cases hb : digitB (l.drop k)[j] = true
            · have hb' := hb
              unfold digitB at hb'
              have hb' := of_decide_eq_true hb'
              have hnx : valD ((l.drop k).take (j + 1)) = mnI (10 * v + (((l.drop k)[j]).toNat : Int) - 48) 2147483648 := by
                rw [List.take_succ_eq_append_getElem hjl, valD_snoc, ← hv]; unfold valS; congr 1; omega
              have hdg' : ∀ c ∈ (l.drop k).take (j + 1), digitB c = true := by
                rw [List.take_succ_eq_append_getElem hjl]
                intro c hc; simp only [List.mem_append, List.mem_singleton] at hc
                rcases hc with hc | rfl
                · exact hdg c hc
                · exact hb
              repeat' ((conv => whnf); (first
                | (refine Br_true (by assumption) ?_)
                | (refine Br_false (by assumption) ?_)
                | (refine Br_true (beqT (by omega)) ?_)
                | (refine Br_false (beqF (by omega)) ?_)
                | (refine Br_beq (fun h => ?_) (fun h => ?_))
                | (refine Br_true (bneT (by omega)) ?_)
                | (refine Br_false (bneF (by omega)) ?_)
                | (refine Br_bne (fun h => ?_) (fun h => ?_))
                | (refine Br_true (decide_eq_true (by omega)) ?_)
                | (refine Br_false (decide_eq_false (by omega)) ?_)
                | (refine Br_dec (fun h => ?_) (fun h => ?_))
                | (refine Br_not ?_)
                | (refine Len_in (fun hlen => ?_))
                | (refine Byte_in _ hi (by omega) ?_)
                | (refine Back_in ⟨[(0, .d (str l)), (4, .i ((k : Nat) + ((j + 1 : Nat) : Int))), (5, .i (1)), (6, .i (k : Nat)), (7, .i (mnI (10 * v + (((l.drop k)[j]).toNat : Int) - 48) 2147483648))], 101, [], 0, []⟩ _ ⟨j + 1, _, by omega, rfl, hnx.symm, hdg', hyes hb, rfl⟩ (by omega) (Wk_env (by refine ⟨rfl, ?_, rfl, rfl, rfl, trivial⟩; exact congrArg AV.i (by omega))))
                | (refine Br_split (fun h => ?_) (fun h => ?_))
                | (refine fin0 rfl ?_)
                | (refine ArK_in (wrap_i64 (by omega) (by omega)) ?_)
                | (refine force_in ?_)))
            · have hb : digitB (l.drop k)[j] = false := by simpa using hb
              rw [fin (hno hb)]
              unfold digitB at hb
              have hb := of_decide_eq_false hb
              by_cases h0 : j = 0
              · try (exfalso; omega)
                all_goals rw [if_pos h0]
                repeat' ((conv => whnf); (first
                  | (refine Br_true (by assumption) ?_)
                  | (refine Br_false (by assumption) ?_)
                  | (refine Br_true (beqT (by omega)) ?_)
                  | (refine Br_false (beqF (by omega)) ?_)
                  | (refine Br_beq (fun h => ?_) (fun h => ?_))
                  | (refine Br_true (bneT (by omega)) ?_)
                  | (refine Br_false (bneF (by omega)) ?_)
                  | (refine Br_bne (fun h => ?_) (fun h => ?_))
                  | (refine Br_true (decide_eq_true (by omega)) ?_)
                  | (refine Br_false (decide_eq_false (by omega)) ?_)
                  | (refine Br_dec (fun h => ?_) (fun h => ?_))
                  | (refine Br_not ?_)
                  | (refine Len_in (fun hlen => ?_))
                  | (refine Byte_in _ hi (by omega) ?_)
                  | (refine Br_split (fun h => ?_) (fun h => ?_))
                  | (refine fin0 rfl ?_)
                  | (refine ArK_in (wrap_i64 (by omega) (by omega)) ?_)
                  | (refine force_in ?_)))
                all_goals rfl
              · try (exfalso; omega)
                all_goals rw [if_neg h0]
                repeat' ((conv => whnf); (first
                  | (refine Br_true (by assumption) ?_)
                  | (refine Br_false (by assumption) ?_)
                  | (refine Br_true (beqT (by omega)) ?_)
                  | (refine Br_false (beqF (by omega)) ?_)
                  | (refine Br_beq (fun h => ?_) (fun h => ?_))
                  | (refine Br_true (bneT (by omega)) ?_)
                  | (refine Br_false (bneF (by omega)) ?_)
                  | (refine Br_bne (fun h => ?_) (fun h => ?_))
                  | (refine Br_true (decide_eq_true (by omega)) ?_)
                  | (refine Br_false (decide_eq_false (by omega)) ?_)
                  | (refine Br_dec (fun h => ?_) (fun h => ?_))
                  | (refine Br_not ?_)
                  | (refine Len_in (fun hlen => ?_))
                  | (refine Byte_in _ hi (by omega) ?_)
                  | (refine Br_split (fun h => ?_) (fun h => ?_))
                  | (refine fin0 rfl ?_)
                  | (refine ArK_in (wrap_i64 (by omega) (by omega)) ?_)
                  | (refine force_in ?_)))
                all_goals rfl
          · have e : (l.drop k).takeWhile digitB = (l.drop k).take j := by rw [htw, List.drop_eq_nil_of_le (Nat.le_of_not_lt hjl)]; simp
            rw [fin e]
            by_cases h0 : j = 0
            · try (exfalso; omega)
              all_goals rw [if_pos h0]
              repeat' ((conv => whnf); (first
                | (refine Br_true (by assumption) ?_)
                | (refine Br_false (by assumption) ?_)
                | (refine Br_true (beqT (by omega)) ?_)
                | (refine Br_false (beqF (by omega)) ?_)
                | (refine Br_beq (fun h => ?_) (fun h => ?_))
                | (refine Br_true (bneT (by omega)) ?_)
                | (refine Br_false (bneF (by omega)) ?_)
                | (refine Br_bne (fun h => ?_) (fun h => ?_))
                | (refine Br_true (decide_eq_true (by omega)) ?_)
                | (refine Br_false (decide_eq_false (by omega)) ?_)
                | (refine Br_dec (fun h => ?_) (fun h => ?_))
                | (refine Br_not ?_)
                | (refine Len_in (fun hlen => ?_))
                | (refine Br_split (fun h => ?_) (fun h => ?_))
                | (refine fin0 rfl ?_)
                | (refine ArK_in (wrap_i64 (by omega) (by omega)) ?_)
                | (refine force_in ?_)))
              all_goals rfl
            · try (exfalso; omega)
              all_goals rw [if_neg h0]
              repeat' ((conv => whnf); (first
                | (refine Br_true (by assumption) ?_)
                | (refine Br_false (by assumption) ?_)
                | (refine Br_true (beqT (by omega)) ?_)
                | (refine Br_false (beqF (by omega)) ?_)
                | (refine Br_beq (fun h => ?_) (fun h => ?_))
                | (refine Br_true (bneT (by omega)) ?_)
                | (refine Br_false (bneF (by omega)) ?_)
                | (refine Br_bne (fun h => ?_) (fun h => ?_))
                | (refine Br_true (decide_eq_true (by omega)) ?_)
                | (refine Br_false (decide_eq_false (by omega)) ?_)
                | (refine Br_dec (fun h => ?_) (fun h => ?_))
                | (refine Br_not ?_)
                | (refine Len_in (fun hlen => ?_))
                | (refine Br_split (fun h => ?_) (fun h => ?_))
                | (refine fin0 rfl ?_)
                | (refine ArK_in (wrap_i64 (by omega) (by omega)) ?_)
                | (refine force_in ?_)))
              all_goals rfl
  · have hd : l.drop k = [] := List.drop_eq_nil_of_le (by omega)
    have hr : l.dropWhile blankB = l.drop k := by rw [hinv, hd]; rfl
    have hq : idxOf l = if (l.drop k).takeWhile digitB = [] then (0, false) else (mnI (1 * valD ((l.drop k).takeWhile digitB)) 2147483647, true) := by
      simp [idxOf, hr, hd, signOf, afterSign]
    clear hinv
    rw [hq]
    repeat' ((conv => whnf); (first
      | (refine Br_true (by assumption) ?_)
      | (refine Br_false (by assumption) ?_)
      | (refine Br_true (beqT (by omega)) ?_)
      | (refine Br_false (beqF (by omega)) ?_)
      | (refine Br_beq (fun h => ?_) (fun h => ?_))
      | (refine Br_true (bneT (by omega)) ?_)
      | (refine Br_false (bneF (by omega)) ?_)
      | (refine Br_bne (fun h => ?_) (fun h => ?_))
      | (refine Br_true (decide_eq_true (by omega)) ?_)
      | (refine Br_false (decide_eq_false (by omega)) ?_)
      | (refine Br_dec (fun h => ?_) (fun h => ?_))
      | (refine Br_not ?_)
      | (refine Len_in (fun hlen => ?_))
      | (refine Byte_in _ hinv (by omega) ?_)
      | (refine Br_split (fun h => ?_) (fun h => ?_))
      | (refine fin0 rfl ?_)
      | (refine ArK_in (wrap_i64 (by omega) (by omega)) ?_)
      | (refine force_in ?_)))
    clear hq hr hd
    refine W_loop (fun μ s => ∃ (j : Nat) (v : Int), j ≤ (l.drop k).length ∧ μ = (l.drop k).length - j ∧ v = valD ((l.drop k).take j) ∧ (∀ c ∈ (l.drop k).take j, digitB c = true) ∧ (l.drop k).takeWhile digitB = (l.drop k).take j ++ ((l.drop k).drop j).takeWhile digitB ∧
      s = ⟨[(0, .d (str l)), (4, .i ((k : Nat) + (j : Int))), (5, .i (1)), (6, .i (k : Nat)), (7, .i v)], 101, [], 0, []⟩) (l.drop k).length ⟨_, ?_, 0, 0, by omega, by omega, rfl, by simp, by simp, rfl⟩ ?_
    · exact Wk_env (by repeat (first | exact trivial | refine ⟨rfl, ?_⟩))
    rintro μ s1 ⟨j, v, hj, rfl, hv, hdg, htw, rfl⟩
    have hvb := valD_bd _ hdg
    rw [← hv] at hvb
    have hql : (l.drop k).length = l.length - k := by simp
    refine W_run tt_ok ?_
    refine Len_in (fun _ => ?_)
    have fin : (l.drop k).takeWhile digitB = (l.drop k).take j → (if (l.drop k).takeWhile digitB = [] then ((0 : Int), false) else (mnI (1 * valD ((l.drop k).takeWhile digitB)) 2147483647, true)) = if j = 0 then (0, false) else (mnI (1 * v) 2147483647, true) := fun e => by
      rw [e, ← hv]
      by_cases h0 : j = 0
      · subst h0; simp
      · rw [if_neg h0, if_neg]
        intro h
        have := congrArg List.length h
        simp at this
        omega
    by_cases hjl : j < (l.drop k).length
    · exfalso; omega
    · have e : (l.drop k).takeWhile digitB = (l.drop k).take j := by rw [htw, List.drop_eq_nil_of_le (Nat.le_of_not_lt hjl)]; simp
      rw [fin e]
      by_cases h0 : j = 0
      · try (exfalso; omega)
        all_goals rw [if_pos h0]
        repeat' ((conv => whnf); (first
          | (refine Br_true (by assumption) ?_)
          | (refine Br_false (by assumption) ?_)
          | (refine Br_true (beqT (by omega)) ?_)
          | (refine Br_false (beqF (by omega)) ?_)
          | (refine Br_beq (fun h => ?_) (fun h => ?_))
          | (refine Br_true (bneT (by omega)) ?_)
          | (refine Br_false (bneF (by omega)) ?_)
          | (refine Br_bne (fun h => ?_) (fun h => ?_))
          | (refine Br_true (decide_eq_true (by omega)) ?_)
          | (refine Br_false (decide_eq_false (by omega)) ?_)
          | (refine Br_dec (fun h => ?_) (fun h => ?_))
          | (refine Br_not ?_)
          | (refine Len_in (fun hlen => ?_))
          | (refine Br_split (fun h => ?_) (fun h => ?_))
          | (refine fin0 rfl ?_)
          | (refine ArK_in (wrap_i64 (by omega) (by omega)) ?_)
          | (refine force_in ?_)))
        all_goals rfl
      · try (exfalso; omega)
        all_goals rw [if_neg h0]
        repeat' ((conv => whnf); (first
          | (refine Br_true (by assumption) ?_)
          | (refine Br_false (by assumption) ?_)
          | (refine Br_true (beqT (by omega)) ?_)
          | (refine Br_false (beqF (by omega)) ?_)
          | (refine Br_beq (fun h => ?_) (fun h => ?_))
          | (refine Br_true (bneT (by omega)) ?_)
          | (refine Br_false (bneF (by omega)) ?_)
          | (refine Br_bne (fun h => ?_) (fun h => ?_))
          | (refine Br_true (decide_eq_true (by omega)) ?_)
          | (refine Br_false (decide_eq_false (by omega)) ?_)
          | (refine Br_dec (fun h => ?_) (fun h => ?_))
          | (refine Br_not ?_)
          | (refine Len_in (fun hlen => ?_))
          | (refine Br_split (fun h => ?_) (fun h => ?_))
          | (refine fin0 rfl ?_)
          | (refine ArK_in (wrap_i64 (by omega) (by omega)) ?_)
          | (refine force_in ?_)))
        all_goals rfl
end Go.Eng
set_option maxRecDepth 100000
set_option linter.unusedVariables false
namespace Go.Eng
open Go Go.Proofs
theorem indexFunc_attr (l : List Attr) (g : FuncId) (fs cs : List AV) (H : Heap) (p : Attr → Bool) (hp : ∀ a ∈ l, Tri Tryd.prog g (fs ++ [aggD a.cs] ++ cs) H fun v H' => v = .b (p a) ∧ H' = H) :
    Tri Tryd.prog 46 [.d (attrsD l), .clos (.func g) fs cs] H fun v H' => v = .i (ix p l) ∧ H' = H := by
  refine Tri_of (m := H.length) tt_ok Tryd.func46 rfl (by decide) Tryd.ntmps46 (by rfl) rfl ?_
  refine Len_in (fun hlen => ?_)
  simp only [List.length_map] at hlen
  refine W_loop (fun μ s => ∃ (k : Nat), k ≤ l.length ∧ μ = l.length - k ∧ (∀ j (h : j < l.length), j < k → p l[j] = false) ∧
      s = ⟨[(0, .d (attrsD l)), (1, .clos (.func g) fs cs), (7, .i (List.map Attr.cs l).length), (8, .i k)], 19, H, H.length, []⟩) l.length
    ⟨_, ?_, 0, by simp, by simp, by simp, rfl⟩ ?_
  · exact Wk_env (by repeat (first | exact trivial | refine ⟨rfl, ?_⟩))
  rintro μ s1 ⟨k, hk, rfl, hno, rfl⟩
  refine W_run tt_ok ?_
  refine Br_dec (fun h => ?_) (fun h => ?_)
  · simp at h
    refine Idx_in (l[k]).cs (by simp [h]) (by omega) rfl ?_
    have hd := ix_drop p l k hno hk
    rw [List.drop_eq_getElem_cons h] at hd
    refine Tri.use (hp l[k] (List.getElem_mem h)) ?_
    refine Br_split (fun hq => ?_) (fun hq => ?_)
    · repeat' ((conv => whnf); (first
      | (refine Br_true (by assumption) ?_)
      | (refine Br_false (by assumption) ?_)
      | (refine Br_true (beqT (by omega)) ?_)
      | (refine Br_false (beqF (by omega)) ?_)
      | (refine Br_beq (fun h => ?_) (fun h => ?_))
      | (refine Br_true (bneT (by omega)) ?_)
      | (refine Br_false (bneF (by omega)) ?_)
      | (refine Br_bne (fun h => ?_) (fun h => ?_))
      | (refine Br_true (decide_eq_true (by omega)) ?_)
      | (refine Br_false (decide_eq_false (by omega)) ?_)
      | (refine Br_dec (fun h => ?_) (fun h => ?_))
      | (refine Br_not ?_)
      | (refine Len_in (fun hlen => ?_))
      | (refine finR ?_)
      | (refine Br_split (fun h => ?_) (fun h => ?_))
      | (refine fin0 rfl ?_)
      | (refine ArK_in (wrap_i64 (by omega) (by omega)) ?_)
      | (refine force_in ?_)))
      simp only [AV.d.injEq, D.int.injEq, true_and, hd, ix]
      simp [hq]
    · repeat' ((conv => whnf); (first
      | (refine Br_true (by assumption) ?_)
      | (refine Br_false (by assumption) ?_)
      | (refine Br_true (beqT (by omega)) ?_)
      | (refine Br_false (beqF (by omega)) ?_)
      | (refine Br_beq (fun h => ?_) (fun h => ?_))
      | (refine Br_true (bneT (by omega)) ?_)
      | (refine Br_false (bneF (by omega)) ?_)
      | (refine Br_bne (fun h => ?_) (fun h => ?_))
      | (refine Br_true (decide_eq_true (by omega)) ?_)
      | (refine Br_false (decide_eq_false (by omega)) ?_)
      | (refine Br_dec (fun h => ?_) (fun h => ?_))
      | (refine Br_not ?_)
      | (refine Len_in (fun hlen => ?_))
      | (refine Back_in _ _ ⟨k + 1, by omega, rfl, ?_, rfl⟩ (by omega) (Wk_env (by repeat (first | exact trivial | refine ⟨rfl, ?_⟩))))
      | (refine Br_split (fun h => ?_) (fun h => ?_))
      | (refine fin0 rfl ?_)
      | (refine ArK_in (wrap_i64 (by omega) (by omega)) ?_)
      | (refine force_in ?_)))
      intro j hj hjk
      rcases Nat.lt_succ_iff_lt_or_eq.1 hjk with h1 | h1
      · exact hno j hj h1
      · subst h1; exact hq
  · simp at h
    have hd := ix_drop p l k hno hk
    rw [List.drop_eq_nil_of_le h] at hd
    repeat' ((conv => whnf); (first
      | (refine Br_true (by assumption) ?_)
      | (refine Br_false (by assumption) ?_)
      | (refine Br_true (beqT (by omega)) ?_)
      | (refine Br_false (beqF (by omega)) ?_)
      | (refine Br_beq (fun h => ?_) (fun h => ?_))
      | (refine Br_true (bneT (by omega)) ?_)
      | (refine Br_false (bneF (by omega)) ?_)
      | (refine Br_bne (fun h => ?_) (fun h => ?_))
      | (refine Br_true (decide_eq_true (by omega)) ?_)
      | (refine Br_false (decide_eq_false (by omega)) ?_)
      | (refine Br_dec (fun h => ?_) (fun h => ?_))
      | (refine Br_not ?_)
      | (refine Len_in (fun hlen => ?_))
      | (refine finR ?_)
      | (refine Br_split (fun h => ?_) (fun h => ?_))
      | (refine fin0 rfl ?_)
      | (refine ArK_in (wrap_i64 (by omega) (by omega)) ?_)
      | (refine force_in ?_)))
    simp [hd, ix]
theorem attr_at1 (x : Node) (a : Attr) (name : Int) : Tri Tryd.prog 47 ([] ++ [aggD a.cs] ++ [.ptr 1 0]) [some (.row (x.cs.map .d)), some (.row [.i name])] fun v H' => v = .b (a.name == name) ∧ H' = [some (.row (x.cs.map .d)), some (.row [.i name])] := by
  refine Tri_of (m := 2) tt_ok Tryd.func47 rfl (by decide) Tryd.ntmps47 (by rfl) rfl ?_
  repeat' ((conv => whnf); (first
    | (refine Br_true (by assumption) ?_)
    | (refine Br_false (by assumption) ?_)
    | (refine Br_true (beqT (by omega)) ?_)
    | (refine Br_false (beqF (by omega)) ?_)
    | (refine Br_beq (fun h => ?_) (fun h => ?_))
    | (refine Br_true (bneT (by omega)) ?_)
    | (refine Br_false (bneF (by omega)) ?_)
    | (refine Br_bne (fun h => ?_) (fun h => ?_))
    | (refine Br_true (decide_eq_true (by omega)) ?_)
    | (refine Br_false (decide_eq_false (by omega)) ?_)
    | (refine Br_dec (fun h => ?_) (fun h => ?_))
    | (refine Br_not ?_)
    | (refine Len_in (fun hlen => ?_))
    | (refine finT rfl rfl (by repeat (first | exact trivial | refine ⟨⟨rfl, rfl⟩, ?_⟩)) ?_)
    | (refine Br_split (fun h => ?_) (fun h => ?_))
    | (refine fin0 rfl ?_)
    | (refine ArK_in (wrap_i64 (by omega) (by omega)) ?_)
    | (refine force_in ?_)))
  rfl
def atV (l : List Attr) (name : Int) : Int := ix (fun a => a.name == name) l
theorem attr_at (x : Node) (name : Int) : Fn Tryd.prog 24 [aggD x.cs, .i name] (.i (atV x.attrs name)) := by
  refine Fn_of tt_ok Tryd.func24 rfl (by decide) Tryd.ntmps24 rfl ?_
  refine Tri.use (indexFunc_attr x.attrs _ [] [.ptr 1 0] _ (fun a => a.name == name) fun a _ => attr_at1 x a name) ?_
  repeat' ((conv => whnf); (first
    | (refine Br_true (by assumption) ?_)
    | (refine Br_false (by assumption) ?_)
    | (refine Br_true (beqT (by omega)) ?_)
    | (refine Br_false (beqF (by omega)) ?_)
    | (refine Br_beq (fun h => ?_) (fun h => ?_))
    | (refine Br_true (bneT (by omega)) ?_)
    | (refine Br_false (bneF (by omega)) ?_)
    | (refine Br_bne (fun h => ?_) (fun h => ?_))
    | (refine Br_true (decide_eq_true (by omega)) ?_)
    | (refine Br_false (decide_eq_false (by omega)) ?_)
    | (refine Br_dec (fun h => ?_) (fun h => ?_))
    | (refine Br_not ?_)
    | (refine Len_in (fun hlen => ?_))
    | (refine Br_split (fun h => ?_) (fun h => ?_))
    | (refine fin0 rfl ?_)
    | (refine ArK_in (wrap_i64 (by omega) (by omega)) ?_)
    | (refine force_in ?_)))
  rfl
theorem attr_node (t : Tree) (n : Int) : Fn Tryd.prog 23 [.d (treeD t), .i n] (.b (mayB t && isN t n)) := by
  refine Fn_of tt_ok Tryd.func23 rfl (by decide) Tryd.ntmps23 rfl ?_
  refine Fn.use (tree_Check t) rfl rfl ?_
  have e : (List.map Node.cs t).length = t.length := by simp
  have hi : isN t n = decide (0 ≤ n ∧ n < t.length) := by unfold isN; rfl
  rw [hi]
  cases hm : mayB t
  · repeat' ((conv => whnf); (first
    | (refine Br_true (by assumption) ?_)
    | (refine Br_false (by assumption) ?_)
    | (refine Br_true (beqT (by omega)) ?_)
    | (refine Br_false (beqF (by omega)) ?_)
    | (refine Br_beq (fun h => ?_) (fun h => ?_))
    | (refine Br_true (bneT (by omega)) ?_)
    | (refine Br_false (bneF (by omega)) ?_)
    | (refine Br_bne (fun h => ?_) (fun h => ?_))
    | (refine Br_true (decide_eq_true (by omega)) ?_)
    | (refine Br_false (decide_eq_false (by omega)) ?_)
    | (refine Br_dec (fun h => ?_) (fun h => ?_))
    | (refine Br_not ?_)
    | (refine Len_in (fun hlen => ?_))
    | (refine Br_split (fun h => ?_) (fun h => ?_))
    | (refine fin0 rfl ?_)
    | (refine ArK_in (wrap_i64 (by omega) (by omega)) ?_)
    | (refine force_in ?_)))
    rfl
  · repeat' ((conv => whnf); (first
    | (refine Br_true (by assumption) ?_)
    | (refine Br_false (by assumption) ?_)
    | (refine Br_true (beqT (by omega)) ?_)
    | (refine Br_false (beqF (by omega)) ?_)
    | (refine Br_beq (fun h => ?_) (fun h => ?_))
    | (refine Br_true (bneT (by omega)) ?_)
    | (refine Br_false (bneF (by omega)) ?_)
    | (refine Br_bne (fun h => ?_) (fun h => ?_))
    | (refine Br_true (decide_eq_true (by omega)) ?_)
    | (refine Br_false (decide_eq_false (by omega)) ?_)
    | (refine Br_dec (fun h => ?_) (fun h => ?_))
    | (refine Br_not ?_)
    | (refine Len_in (fun hlen => ?_))
    | (refine Br_split (fun h => ?_) (fun h => ?_))
    | (refine fin0 rfl ?_)
    | (refine ArK_in (wrap_i64 (by omega) (by omega)) ?_)
    | (refine force_in ?_)))
    all_goals (simp only [AV.d.injEq, D.bool.injEq, Bool.true_and]; grind)
theorem ix_find (l : List Attr) (name : Int) : (ix (fun a => a.name == name) l < 0 → getV l name = (0, false)) ∧
    (0 ≤ ix (fun a => a.name == name) l → ∃ a, l[(ix (fun a => a.name == name) l).toNat]? = some a ∧ getV l name = (a.value, true)) := by
  induction l with
  | nil => simp [ix, getV]
  | cons a r ih =>
    have hl := ix_lo (fun a : Attr => a.name == name) r
    unfold getV at *
    simp only [ix, List.find?_cons]
    by_cases h : (a.name == name) = true
    · simp [h]
    · have h : (a.name == name) = false := by simpa using h
      simp only [h]
      generalize ix (fun a : Attr => a.name == name) r = i at *
      constructor
      · intro h1
        have : i < 0 := by simp at h1; split at h1 <;> omega
        exact ih.1 this
      · intro h1
        have hi : 0 ≤ i := by simp at h1; split at h1 <;> omega
        obtain ⟨b, h2, h3⟩ := ih.2 hi
        refine ⟨b, ?_, h3⟩
        have e : (if (false = true) then (0 : Int) else if i < 0 then -1 else i + 1).toNat = i.toNat + 1 := by
          simp; rw [if_neg (by omega)]; omega
        rw [e, List.getElem?_cons_succ]
        exact h2
def getP (t : Tree) (n name : Int) : Int × Bool := if mayB t && isN t n then getV (nd t n).attrs name else (0, false)
theorem attr_Get (t : Tree) (n name : Int) : Fn Tryd.prog 11 [.d (treeD t), .i n, .i name] (.tup [.i (getP t n name).1, .b (getP t n name).2]) := by
  refine Fn_of tt_ok Tryd.func11 rfl (by decide) Tryd.ntmps11 rfl ?_
  refine Fn.use (attr_node t n) rfl rfl ?_
  refine Br_not (Br_split (fun h => ?_) (fun h => ?_))
  rotate_left
  · have e : getP t n name = (0, false) := by unfold getP; rw [h]; rfl
    rw [e]
    repeat' ((conv => whnf); (first
      | (refine Br_true (by assumption) ?_)
      | (refine Br_false (by assumption) ?_)
      | (refine Br_true (beqT (by omega)) ?_)
      | (refine Br_false (beqF (by omega)) ?_)
      | (refine Br_beq (fun h => ?_) (fun h => ?_))
      | (refine Br_true (bneT (by omega)) ?_)
      | (refine Br_false (bneF (by omega)) ?_)
      | (refine Br_bne (fun h => ?_) (fun h => ?_))
      | (refine Br_true (decide_eq_true (by omega)) ?_)
      | (refine Br_false (decide_eq_false (by omega)) ?_)
      | (refine Br_dec (fun h => ?_) (fun h => ?_))
      | (refine Br_not ?_)
      | (refine Len_in (fun hlen => ?_))
      | (refine Br_split (fun h => ?_) (fun h => ?_))
      | (refine fin0 rfl ?_)
      | (refine ArK_in (wrap_i64 (by omega) (by omega)) ?_)
      | (refine force_in ?_)))
    rfl
  have e : getP t n name = getV (nd t n).attrs name := by unfold getP; rw [h]; rfl
  rw [e]
  have hn : isN t n = true := by simp at h; exact h.2
  obtain ⟨h1, h2⟩ := ix_find (nd t n).attrs name
  have hat : atV (nd t n).attrs name = ix (fun a => a.name == name) (nd t n).attrs := rfl
  by_cases hi : atV (nd t n).attrs name < 0
  · rw [h1 (by rw [← hat]; exact hi)]
    repeat' ((conv => whnf); (first
      | (refine Br_true (by assumption) ?_)
      | (refine Br_false (by assumption) ?_)
      | (refine Br_true (beqT (by omega)) ?_)
      | (refine Br_false (beqF (by omega)) ?_)
      | (refine Br_beq (fun h => ?_) (fun h => ?_))
      | (refine Br_true (bneT (by omega)) ?_)
      | (refine Br_false (bneF (by omega)) ?_)
      | (refine Br_bne (fun h => ?_) (fun h => ?_))
      | (refine Br_true (decide_eq_true (by omega)) ?_)
      | (refine Br_false (decide_eq_false (by omega)) ?_)
      | (refine Br_dec (fun h => ?_) (fun h => ?_))
      | (refine Br_not ?_)
      | (refine Len_in (fun hlen => ?_))
      | (refine Idx_nd hn rfl ?_)
      | (refine Fn.use (attr_at _ _) rfl rfl ?_)
      | (refine CallF_in (attr_at _ _) rfl rfl ?_)
      | (refine Br_split (fun h => ?_) (fun h => ?_))
      | (refine fin0 rfl ?_)
      | (refine ArK_in (wrap_i64 (by omega) (by omega)) ?_)
      | (refine force_in ?_)))
    rfl
  · obtain ⟨a, h3, h4⟩ := h2 (by rw [← hat]; omega)
    rw [h4]
    have hget : (List.map Attr.cs (nd t n).attrs)[(atV (nd t n).attrs name).toNat]? = some a.cs := by rw [hat, List.getElem?_map, h3]; rfl
    repeat' ((conv => whnf); (first
      | (refine Br_true (by assumption) ?_)
      | (refine Br_false (by assumption) ?_)
      | (refine Br_true (beqT (by omega)) ?_)
      | (refine Br_false (beqF (by omega)) ?_)
      | (refine Br_beq (fun h => ?_) (fun h => ?_))
      | (refine Br_true (bneT (by omega)) ?_)
      | (refine Br_false (bneF (by omega)) ?_)
      | (refine Br_bne (fun h => ?_) (fun h => ?_))
      | (refine Br_true (decide_eq_true (by omega)) ?_)
      | (refine Br_false (decide_eq_false (by omega)) ?_)
      | (refine Br_dec (fun h => ?_) (fun h => ?_))
      | (refine Br_not ?_)
      | (refine Len_in (fun hlen => ?_))
      | (refine Idx_nd hn rfl ?_)
      | (refine Fn.use (attr_at _ _) rfl rfl ?_)
      | (refine CallF_in (attr_at _ _) rfl rfl ?_)
      | (refine Idx_in _ hget (by omega) rfl ?_)
      | (refine Br_split (fun h => ?_) (fun h => ?_))
      | (refine fin0 rfl ?_)
      | (refine ArK_in (wrap_i64 (by omega) (by omega)) ?_)
      | (refine force_in ?_)))
    rfl
theorem attr_Has (t : Tree) (n name : Int) : Fn Tryd.prog 18 [.d (treeD t), .i n, .i name] (.b (getP t n name).2) := by
  refine Fn_of tt_ok Tryd.func18 rfl (by decide) Tryd.ntmps18 rfl ?_
  repeat' ((conv => whnf); (first
    | (refine Br_true (by assumption) ?_)
    | (refine Br_false (by assumption) ?_)
    | (refine Br_true (beqT (by omega)) ?_)
    | (refine Br_false (beqF (by omega)) ?_)
    | (refine Br_beq (fun h => ?_) (fun h => ?_))
    | (refine Br_true (bneT (by omega)) ?_)
    | (refine Br_false (bneF (by omega)) ?_)
    | (refine Br_bne (fun h => ?_) (fun h => ?_))
    | (refine Br_true (decide_eq_true (by omega)) ?_)
    | (refine Br_false (decide_eq_false (by omega)) ?_)
    | (refine Br_dec (fun h => ?_) (fun h => ?_))
    | (refine Br_not ?_)
    | (refine Len_in (fun hlen => ?_))
    | (refine Fn.use (attr_Get _ _ _) rfl rfl ?_)
    | (refine CallF_in (attr_Get _ _ _) rfl rfl ?_)
    | (refine Br_split (fun h => ?_) (fun h => ?_))
    | (refine fin0 rfl ?_)
    | (refine ArK_in (wrap_i64 (by omega) (by omega)) ?_)
    | (refine force_in ?_)))
  rfl
def wrongV (t : Tree) (n : Int) : Int := if mayB t then (if isN t n then 0 else 2) else 1
theorem attr_wrong (t : Tree) (n : Int) : Fn Tryd.prog 31 [.d (treeD t), .i n] (.i (wrongV t n)) := by
  refine Fn_of tt_ok Tryd.func31 rfl (by decide) Tryd.ntmps31 rfl ?_
  refine Fn.use (tree_Check t) rfl rfl ?_
  unfold wrongV
  cases hm : mayB t
  · repeat' ((conv => whnf); (first
    | (refine Br_true (by assumption) ?_)
    | (refine Br_false (by assumption) ?_)
    | (refine Br_true (beqT (by omega)) ?_)
    | (refine Br_false (beqF (by omega)) ?_)
    | (refine Br_beq (fun h => ?_) (fun h => ?_))
    | (refine Br_true (bneT (by omega)) ?_)
    | (refine Br_false (bneF (by omega)) ?_)
    | (refine Br_bne (fun h => ?_) (fun h => ?_))
    | (refine Br_true (decide_eq_true (by omega)) ?_)
    | (refine Br_false (decide_eq_false (by omega)) ?_)
    | (refine Br_dec (fun h => ?_) (fun h => ?_))
    | (refine Br_not ?_)
    | (refine Len_in (fun hlen => ?_))
    | (refine Br_split (fun h => ?_) (fun h => ?_))
    | (refine fin0 rfl ?_)
    | (refine ArK_in (wrap_i64 (by omega) (by omega)) ?_)
    | (refine force_in ?_)))
    rfl
  · have hmm : (mayB t && isN t n) = isN t n := by rw [hm]; rfl
    have hnode := attr_node t n
    rw [hmm] at hnode
    cases hi : isN t n <;> rw [hi] at hnode
    · repeat' ((conv => whnf); (first
      | (refine Br_true (by assumption) ?_)
      | (refine Br_false (by assumption) ?_)
      | (refine Br_true (beqT (by omega)) ?_)
      | (refine Br_false (beqF (by omega)) ?_)
      | (refine Br_beq (fun h => ?_) (fun h => ?_))
      | (refine Br_true (bneT (by omega)) ?_)
      | (refine Br_false (bneF (by omega)) ?_)
      | (refine Br_bne (fun h => ?_) (fun h => ?_))
      | (refine Br_true (decide_eq_true (by omega)) ?_)
      | (refine Br_false (decide_eq_false (by omega)) ?_)
      | (refine Br_dec (fun h => ?_) (fun h => ?_))
      | (refine Br_not ?_)
      | (refine Len_in (fun hlen => ?_))
      | (refine Fn.use (hnode) rfl rfl ?_)
      | (refine CallF_in (hnode) rfl rfl ?_)
      | (refine Br_split (fun h => ?_) (fun h => ?_))
      | (refine fin0 rfl ?_)
      | (refine ArK_in (wrap_i64 (by omega) (by omega)) ?_)
      | (refine force_in ?_)))
      rfl
    · repeat' ((conv => whnf); (first
      | (refine Br_true (by assumption) ?_)
      | (refine Br_false (by assumption) ?_)
      | (refine Br_true (beqT (by omega)) ?_)
      | (refine Br_false (beqF (by omega)) ?_)
      | (refine Br_beq (fun h => ?_) (fun h => ?_))
      | (refine Br_true (bneT (by omega)) ?_)
      | (refine Br_false (bneF (by omega)) ?_)
      | (refine Br_bne (fun h => ?_) (fun h => ?_))
      | (refine Br_true (decide_eq_true (by omega)) ?_)
      | (refine Br_false (decide_eq_false (by omega)) ?_)
      | (refine Br_dec (fun h => ?_) (fun h => ?_))
      | (refine Br_not ?_)
      | (refine Len_in (fun hlen => ?_))
      | (refine Fn.use (hnode) rfl rfl ?_)
      | (refine CallF_in (hnode) rfl rfl ?_)
      | (refine Br_split (fun h => ?_) (fun h => ?_))
      | (refine fin0 rfl ?_)
      | (refine ArK_in (wrap_i64 (by omega) (by omega)) ?_)
      | (refine force_in ?_)))
      rfl
theorem attr_kept (t : Tree) (e : Int) (T : Tree) (hT : T = if e = 1 then [] else t) : Fn Tryd.prog 32 [.d (treeD t), .i e] (.tup [.d (treeD T), .i e]) := by
  refine Fn_of tt_ok Tryd.func32 rfl (by decide) Tryd.ntmps32 rfl ?_
  subst hT
  by_cases h : e = 1
  · rw [if_pos h]
    repeat' ((conv => whnf); (first
      | (refine Br_true (by assumption) ?_)
      | (refine Br_false (by assumption) ?_)
      | (refine Br_true (beqT (by omega)) ?_)
      | (refine Br_false (beqF (by omega)) ?_)
      | (refine Br_beq (fun h => ?_) (fun h => ?_))
      | (refine Br_true (bneT (by omega)) ?_)
      | (refine Br_false (bneF (by omega)) ?_)
      | (refine Br_bne (fun h => ?_) (fun h => ?_))
      | (refine Br_true (decide_eq_true (by omega)) ?_)
      | (refine Br_false (decide_eq_false (by omega)) ?_)
      | (refine Br_dec (fun h => ?_) (fun h => ?_))
      | (refine Br_not ?_)
      | (refine Len_in (fun hlen => ?_))
      | (refine finD (F := []) (FV_tup2 .nsl (.same _ rfl)))
      | (refine Br_split (fun h => ?_) (fun h => ?_))
      | (refine fin0 rfl ?_)
      | (refine ArK_in (wrap_i64 (by omega) (by omega)) ?_)
      | (refine force_in ?_)))
  · rw [if_neg h]
    repeat' ((conv => whnf); (first
      | (refine Br_true (by assumption) ?_)
      | (refine Br_false (by assumption) ?_)
      | (refine Br_true (beqT (by omega)) ?_)
      | (refine Br_false (beqF (by omega)) ?_)
      | (refine Br_beq (fun h => ?_) (fun h => ?_))
      | (refine Br_true (bneT (by omega)) ?_)
      | (refine Br_false (bneF (by omega)) ?_)
      | (refine Br_bne (fun h => ?_) (fun h => ?_))
      | (refine Br_true (decide_eq_true (by omega)) ?_)
      | (refine Br_false (decide_eq_false (by omega)) ?_)
      | (refine Br_dec (fun h => ?_) (fun h => ?_))
      | (refine Br_not ?_)
      | (refine Len_in (fun hlen => ?_))
      | (refine finD (F := []) (.same _ rfl))
      | (refine Br_split (fun h => ?_) (fun h => ?_))
      | (refine fin0 rfl ?_)
      | (refine ArK_in (wrap_i64 (by omega) (by omega)) ?_)
      | (refine force_in ?_)))
end Go.Eng
set_option maxRecDepth 100000
set_option linter.unusedVariables false
namespace Go.Eng
open Go Go.Proofs
theorem toList_str (l : List UInt8) : (⟨l.toArray⟩ : ByteArray).toList = l := by
  rw [ByteArray.toList_eq]
theorem streq (a b : List UInt8) : ((⟨a.toArray⟩ : ByteArray).toList == (⟨b.toArray⟩ : ByteArray).toList) = decide (a = b) := by
  rw [toList_str, toList_str]; rw [Bool.eq_iff_iff]; simp
theorem hasPrefix1 (l : List UInt8) (c : UInt8) : Fn Tryd.prog 62 [.d (str l), .d (str [c])] (.b (decide (l.head? = some c))) := by
  refine Fn_of tt_ok Tryd.func62 rfl (by decide) Tryd.ntmps62 rfl ?_
  have e1 := str_size l
  have e2 := str_size [c]
  simp only [List.length_singleton] at e2
  cases l with
  | nil =>
    repeat' ((conv => whnf); (first
      | (refine Br_true (by assumption) ?_)
      | (refine Br_false (by assumption) ?_)
      | (refine Br_true (beqT (by omega)) ?_)
      | (refine Br_false (beqF (by omega)) ?_)
      | (refine Br_beq (fun h => ?_) (fun h => ?_))
      | (refine Br_true (bneT (by omega)) ?_)
      | (refine Br_false (bneF (by omega)) ?_)
      | (refine Br_bne (fun h => ?_) (fun h => ?_))
      | (refine Br_true (decide_eq_true (by omega)) ?_)
      | (refine Br_false (decide_eq_false (by omega)) ?_)
      | (refine Br_dec (fun h => ?_) (fun h => ?_))
      | (refine Br_not ?_)
      | (refine Len_in (fun hlen => ?_))
      | (refine Br_split (fun h => ?_) (fun h => ?_))
      | (refine fin0 rfl ?_)
      | (refine ArK_in (wrap_i64 (by omega) (by omega)) ?_)
      | (refine force_in ?_)))
    rfl
  | cons a r =>
    simp only [List.length_cons] at e1
    have hx : ((⟨(a :: r).toArray⟩ : ByteArray).extract (0 : Int).toNat (((⟨[c].toArray⟩ : ByteArray).size : Nat) : Int).toNat) = ⟨[a].toArray⟩ := by
      rw [e2, str_extract]; rfl
    refine Len_in (fun h1 => ?_)
    refine Len_in (fun h2 => ?_)
    refine Br_true (decide_eq_true (by omega)) ?_
    refine Len_in (fun h3 => ?_)
    refine Need_in ⟨by omega, by omega, by omega⟩ ?_
    rw [hx]
    repeat' ((conv => whnf); (first
      | (refine Br_true (by assumption) ?_)
      | (refine Br_false (by assumption) ?_)
      | (refine Br_true (beqT (by omega)) ?_)
      | (refine Br_false (beqF (by omega)) ?_)
      | (refine Br_beq (fun h => ?_) (fun h => ?_))
      | (refine Br_true (bneT (by omega)) ?_)
      | (refine Br_false (bneF (by omega)) ?_)
      | (refine Br_bne (fun h => ?_) (fun h => ?_))
      | (refine Br_true (decide_eq_true (by omega)) ?_)
      | (refine Br_false (decide_eq_false (by omega)) ?_)
      | (refine Br_dec (fun h => ?_) (fun h => ?_))
      | (refine Br_not ?_)
      | (refine Len_in (fun hlen => ?_))
      | (refine Br_split (fun h => ?_) (fun h => ?_))
      | (refine fin0 rfl ?_)
      | (refine ArK_in (wrap_i64 (by omega) (by omega)) ?_)
      | (refine force_in ?_)))
    simp only [AV.d.injEq, D.bool.injEq]
    rw [streq]
    simp
theorem hasPrefix (l : List UInt8) (c : UInt8) : Fn Tryd.prog 44 [.d (str l), .d (str [c])] (.b (decide (l.head? = some c))) := by
  refine Fn_of tt_ok Tryd.func44 rfl (by decide) Tryd.ntmps44 rfl ?_
  repeat' ((conv => whnf); (first
    | (refine Br_true (by assumption) ?_)
    | (refine Br_false (by assumption) ?_)
    | (refine Br_true (beqT (by omega)) ?_)
    | (refine Br_false (beqF (by omega)) ?_)
    | (refine Br_beq (fun h => ?_) (fun h => ?_))
    | (refine Br_true (bneT (by omega)) ?_)
    | (refine Br_false (bneF (by omega)) ?_)
    | (refine Br_bne (fun h => ?_) (fun h => ?_))
    | (refine Br_true (decide_eq_true (by omega)) ?_)
    | (refine Br_false (decide_eq_false (by omega)) ?_)
    | (refine Br_dec (fun h => ?_) (fun h => ?_))
    | (refine Br_not ?_)
    | (refine Len_in (fun hlen => ?_))
    | (refine Fn.use (hasPrefix1 _ _) rfl rfl ?_)
    | (refine CallF_in (hasPrefix1 _ _) rfl rfl ?_)
    | (refine Br_split (fun h => ?_) (fun h => ?_))
    | (refine fin0 rfl ?_)
    | (refine ArK_in (wrap_i64 (by omega) (by omega)) ?_)
    | (refine force_in ?_)))
  rfl
theorem attr_digit (r : Int) : Fn Tryd.prog 45 [.d (.int .i32 r)] (.b (decide (48 ≤ r ∧ r ≤ 57))) := by
  refine Fn_of tt_ok Tryd.func45 rfl (by decide) Tryd.ntmps45 rfl ?_
  repeat' ((conv => whnf); (first
    | (refine Br_true (by assumption) ?_)
    | (refine Br_false (by assumption) ?_)
    | (refine Br_true (beqT (by omega)) ?_)
    | (refine Br_false (beqF (by omega)) ?_)
    | (refine Br_beq (fun h => ?_) (fun h => ?_))
    | (refine Br_true (bneT (by omega)) ?_)
    | (refine Br_false (bneF (by omega)) ?_)
    | (refine Br_bne (fun h => ?_) (fun h => ?_))
    | (refine Br_true (decide_eq_true (by omega)) ?_)
    | (refine Br_false (decide_eq_false (by omega)) ?_)
    | (refine Br_dec (fun h => ?_) (fun h => ?_))
    | (refine Br_not ?_)
    | (refine Len_in (fun hlen => ?_))
    | (refine Br_split (fun h => ?_) (fun h => ?_))
    | (refine fin0 rfl ?_)
    | (refine ArK_in (wrap_i64 (by omega) (by omega)) ?_)
    | (refine force_in ?_)))
  all_goals (simp only [AV.d.injEq, D.bool.injEq]; grind)
def markC (l : List UInt8) : List AV := l.foldl (fun r c => r.set c.toNat (.d (.bool true))) (List.replicate 256 (.d (.bool false)))
theorem markC_get (l : List UInt8) (c : UInt8) : (markC l)[c.toNat]? = some (.d (.bool (l.any (· == c)))) := by
  unfold markC
  have key : ∀ (l : List UInt8) (r : List AV) (m : UInt8 → Bool), r.length = 256 → (∀ c : UInt8, r[c.toNat]? = some (.d (.bool (m c)))) →
      (l.foldl (fun r c => r.set c.toNat (.d (.bool true))) r)[c.toNat]? = some (.d (.bool (m c || l.any (· == c)))) := by
    intro l
    induction l with
    | nil => intro r m _ h; simp [h c]
    | cons a t ih =>
      intro r m hl h
      simp only [List.foldl_cons, List.any_cons]
      rw [ih (r.set a.toNat (.d (.bool true))) (fun c => m c || (a == c)) (by simp [hl]) fun d => ?_]
      · rw [Bool.or_assoc]
      · rw [List.getElem?_set]
        by_cases e : a = d
        · subst e; simp [hl]; have := a.toNat_lt; omega
        · have : a.toNat ≠ d.toNat := fun e2 => e (UInt8.toNat_inj.1 e2)
          rw [if_neg this, h d]
          simp [e]
  rw [key l _ (fun _ => false) (by simp) fun c => ?_]
  · simp
  · have := c.toNat_lt
    rw [List.getElem?_replicate, if_pos (by omega)]
theorem markC_len (l : List UInt8) : (markC l).length = 256 := by
  unfold markC
  have key : ∀ (l : List UInt8) (r : List AV), r.length = 256 → (l.foldl (fun r c => r.set c.toNat (.d (.bool true))) r).length = 256 := by
    intro l
    induction l with
    | nil => intro r h; exact h
    | cons a t ih => intro r h; exact ih _ (by simp [h])
  exact key l _ (by simp)
theorem ascii_contains (l : List UInt8) (c : UInt8) : Tri Tryd.prog 76 [.ptr 0 0, .d (.int .u8 c.toNat)] [some (.row (markC l))] fun v H => v = .b (l.any (· == c)) ∧ H = [some (.row (markC l))] := by
  refine Tri_of (m := 1) tt_ok Tryd.func76 rfl (by decide) Tryd.ntmps76 (by rfl) rfl ?_
  have hc := c.toNat_lt
  refine Br_true (decide_eq_true (by omega)) ?_
  refine Cell_in _ (by rw [show 0 + ((c.toNat : Nat) : Int).toNat * 1 = c.toNat by omega]; exact markC_get l c) ?_
  repeat' ((conv => whnf); (first
    | (refine Br_true (by assumption) ?_)
    | (refine Br_false (by assumption) ?_)
    | (refine Br_true (beqT (by omega)) ?_)
    | (refine Br_false (beqF (by omega)) ?_)
    | (refine Br_beq (fun h => ?_) (fun h => ?_))
    | (refine Br_true (bneT (by omega)) ?_)
    | (refine Br_false (bneF (by omega)) ?_)
    | (refine Br_bne (fun h => ?_) (fun h => ?_))
    | (refine Br_true (decide_eq_true (by omega)) ?_)
    | (refine Br_false (decide_eq_false (by omega)) ?_)
    | (refine Br_dec (fun h => ?_) (fun h => ?_))
    | (refine Br_not ?_)
    | (refine Len_in (fun hlen => ?_))
    | (refine finR ?_)
    | (refine Br_split (fun h => ?_) (fun h => ?_))
    | (refine fin0 rfl ?_)
    | (refine ArK_in (wrap_i64 (by omega) (by omega)) ?_)
    | (refine force_in ?_)))
  rfl
theorem trimLeftASCII (l : List UInt8) (m : List UInt8) : Tri Tryd.prog 60 [.d (str l), .ptr 0 0] [some (.row (markC m))] fun v H => v = .d (str (l.dropWhile fun c => m.any (· == c))) ∧ H = [some (.row (markC m))] := by
  refine Tri_of (m := 1) tt_ok Tryd.func60 rfl (by decide) Tryd.ntmps60 (by rfl) rfl ?_
  refine W_loop (fun μ s => ∃ (q : List UInt8), μ = q.length ∧ l.dropWhile (fun c => m.any (· == c)) = q.dropWhile (fun c => m.any (· == c)) ∧ s = ⟨[(0, .d (str q)), (1, .ptr 0 0)], 16, [some (.row (markC m))], 1, []⟩) l.length
    ⟨_, ?_, l, rfl, rfl, rfl⟩ ?_
  · exact Wk_env (by repeat (first | exact trivial | refine ⟨rfl, ?_⟩))
  rintro μ s1 ⟨q, rfl, hq, rfl⟩
  refine W_run tt_ok ?_
  have es := str_size q
  refine Len_in (fun hlen => ?_)
  cases q with
  | nil =>
    rw [hq]
    repeat' ((conv => whnf); (first
      | (refine Br_true (by assumption) ?_)
      | (refine Br_false (by assumption) ?_)
      | (refine Br_true (beqT (by omega)) ?_)
      | (refine Br_false (beqF (by omega)) ?_)
      | (refine Br_beq (fun h => ?_) (fun h => ?_))
      | (refine Br_true (bneT (by omega)) ?_)
      | (refine Br_false (bneF (by omega)) ?_)
      | (refine Br_bne (fun h => ?_) (fun h => ?_))
      | (refine Br_true (decide_eq_true (by omega)) ?_)
      | (refine Br_false (decide_eq_false (by omega)) ?_)
      | (refine Br_dec (fun h => ?_) (fun h => ?_))
      | (refine Br_not ?_)
      | (refine Len_in (fun hlen => ?_))
      | (refine finR ?_)
      | (refine Br_split (fun h => ?_) (fun h => ?_))
      | (refine fin0 rfl ?_)
      | (refine ArK_in (wrap_i64 (by omega) (by omega)) ?_)
      | (refine force_in ?_)))
    all_goals rfl
  | cons a r =>
    simp only [List.length_cons] at es
    have hx : ((⟨(a :: r).toArray⟩ : ByteArray).extract (1 : Int).toNat (((⟨(a :: r).toArray⟩ : ByteArray).size : Nat) : Int).toNat) = ⟨r.toArray⟩ := by
      rw [es, str_extract]; simp
    refine Br_true (decide_eq_true (by omega)) ?_
    refine Byte_in a rfl (by omega) ?_
    refine Tri.use (ascii_contains m a) ?_
    refine Br_not (Br_split (fun h => ?_) (fun h => ?_))
    · refine Need_in ⟨by omega, by omega, by omega⟩ ?_
      rw [hx]
      rw [List.dropWhile_cons, if_pos h] at hq
      repeat' ((conv => whnf); (first
        | (refine Br_true (by assumption) ?_)
        | (refine Br_false (by assumption) ?_)
        | (refine Br_true (beqT (by omega)) ?_)
        | (refine Br_false (beqF (by omega)) ?_)
        | (refine Br_beq (fun h => ?_) (fun h => ?_))
        | (refine Br_true (bneT (by omega)) ?_)
        | (refine Br_false (bneF (by omega)) ?_)
        | (refine Br_bne (fun h => ?_) (fun h => ?_))
        | (refine Br_true (decide_eq_true (by omega)) ?_)
        | (refine Br_false (decide_eq_false (by omega)) ?_)
        | (refine Br_dec (fun h => ?_) (fun h => ?_))
        | (refine Br_not ?_)
        | (refine Len_in (fun hlen => ?_))
        | (refine Back_in _ _ ⟨r, rfl, hq, rfl⟩ (by simp) (Wk_env (by repeat (first | exact trivial | refine ⟨rfl, ?_⟩))))
        | (refine Br_split (fun h => ?_) (fun h => ?_))
        | (refine fin0 rfl ?_)
        | (refine ArK_in (wrap_i64 (by omega) (by omega)) ?_)
        | (refine force_in ?_)))
    · rw [List.dropWhile_cons, if_neg (by simp [h])] at hq
      rw [hq]
      repeat' ((conv => whnf); (first
        | (refine Br_true (by assumption) ?_)
        | (refine Br_false (by assumption) ?_)
        | (refine Br_true (beqT (by omega)) ?_)
        | (refine Br_false (beqF (by omega)) ?_)
        | (refine Br_beq (fun h => ?_) (fun h => ?_))
        | (refine Br_true (bneT (by omega)) ?_)
        | (refine Br_false (bneF (by omega)) ?_)
        | (refine Br_bne (fun h => ?_) (fun h => ?_))
        | (refine Br_true (decide_eq_true (by omega)) ?_)
        | (refine Br_false (decide_eq_false (by omega)) ?_)
        | (refine Br_dec (fun h => ?_) (fun h => ?_))
        | (refine Br_not ?_)
        | (refine Len_in (fun hlen => ?_))
        | (refine finR ?_)
        | (refine Br_split (fun h => ?_) (fun h => ?_))
        | (refine fin0 rfl ?_)
        | (refine ArK_in (wrap_i64 (by omega) (by omega)) ?_)
        | (refine force_in ?_)))
      all_goals rfl
attribute [irreducible] markC
end Go.Eng
set_option maxRecDepth 100000
set_option linter.unusedVariables false
namespace Go.Eng
open Go Go.Proofs
theorem forceL_to {vs l : List AV} {K : List AV → Prop} (h : vs = l) (hK : K l) : forceL vs K := by rw [h, forceL_eq]; exact hK
theorem sub_all (w : List AV) (n : Nat) (h : w.length = n) : sub w 0 n = w := by
  unfold sub; rw [List.drop_zero, List.take_of_length_le (by omega)]
theorem splice_all (w : List AV) : splice w 0 w = w := by
  apply List.ext_getElem?
  intro i
  rw [splice_get w w 0 i (by omega)]
  split
  · simp
  · rfl
theorem splice_over (w v : List AV) (h : w.length = v.length) : splice w 0 v = v := by
  apply List.ext_getElem?
  intro i
  rw [splice_get v w 0 i (by omega)]
  split
  · simp
  · rw [List.getElem?_eq_none (by omega), List.getElem?_eq_none (by omega)]
theorem markC_low (m : List UInt8) : low 0 (.agg (markC m)) = true := by
  simp only [low]
  refine lowL_of fun x hx => ?_
  unfold markC at hx
  have key : ∀ (l : List UInt8) (r : List AV), (∀ x ∈ r, low 0 x = true) → ∀ x ∈ l.foldl (fun r c => r.set c.toNat (AV.d (.bool true))) r, low 0 x = true := by
    intro l
    induction l with
    | nil => intro r h; exact h
    | cons a t ih =>
      intro r h
      refine ih _ fun x hx => ?_
      rcases List.mem_or_eq_of_mem_set hx with hx | rfl
      · exact h x hx
      · rfl
  exact key m _ (fun x hx => by rw [List.eq_of_mem_replicate hx]; rfl) x hx
theorem makeASCIISet (m : List UInt8) (hm : ∀ c ∈ m, c.toNat < 128) : Fn Tryd.prog 59 [.d (str m)] (.tup [.agg (markC m), .b true]) := by
  refine Fn_of tt_ok Tryd.func59 rfl (by decide) Tryd.ntmps59 rfl ?_
  have es := str_size m
  refine W_loop (fun μ s => ∃ (k : Nat) (w : List AV), k ≤ m.length ∧ μ = m.length - k ∧ w = markC (m.take k) ∧ s = ⟨[(0, .d (str m)), (2, .ptr 0 0), (4, .i k)], 21, [some (.row w)], 0, []⟩) m.length
    ⟨_, ?_, 0, List.replicate 256 (.d (.bool false)), by omega, by omega, by unfold markC; rfl, rfl⟩ ?_
  · exact Wk_env (by repeat (first | exact trivial | refine ⟨rfl, ?_⟩))
  rintro μ s1 ⟨k, w, hk, rfl, hw, rfl⟩
  have hwl : w.length = 256 := by rw [hw]; exact markC_len _
  refine W_run tt_ok ?_
  refine Len_in (fun hlen => ?_)
  by_cases hlt : k < m.length
  · have hc := hm _ (List.getElem_mem hlt)
    have hi : (⟨m.toArray⟩ : ByteArray).data.toList[(k : Int).toNat]? = some (m[k]) := by simp [hlt]
    have hnx : splice w (0 + (((m[k]).toNat : Nat) : Int).toNat * 1) [.d (.bool true)] = markC (m.take (k + 1)) := by
      rw [List.take_succ_eq_append_getElem hlt, hw]
      simp only [splice, markC, List.foldl_append, List.foldl_cons, List.foldl_nil]
      congr 1
      omega
    repeat' ((conv => whnf); (first
      | (refine Br_true (by assumption) ?_)
      | (refine Br_false (by assumption) ?_)
      | (refine Br_true (beqT (by omega)) ?_)
      | (refine Br_false (beqF (by omega)) ?_)
      | (refine Br_beq (fun h => ?_) (fun h => ?_))
      | (refine Br_true (bneT (by omega)) ?_)
      | (refine Br_false (bneF (by omega)) ?_)
      | (refine Br_bne (fun h => ?_) (fun h => ?_))
      | (refine Br_true (decide_eq_true (by omega)) ?_)
      | (refine Br_false (decide_eq_false (by omega)) ?_)
      | (refine Br_dec (fun h => ?_) (fun h => ?_))
      | (refine Br_not ?_)
      | (refine Len_in (fun hlen => ?_))
      | (refine Byte_in _ hi (by omega) ?_)
      | (refine Br_true (Nat.ble_eq_true_of_le (by rw [hwl]; simp; omega)) ?_)
      | (refine Back_in _ _ ⟨k + 1, _, by omega, rfl, hnx, rfl⟩ (by omega) (Wk_env (by repeat (first | exact trivial | refine ⟨rfl, ?_⟩))))
      | (refine Br_split (fun h => ?_) (fun h => ?_))
      | (refine fin0 rfl ?_)
      | (refine ArK_in (wrap_i64 (by omega) (by omega)) ?_)
      | (refine force_in ?_)))
  · have hw' : w = markC m := by rw [hw, List.take_of_length_le (by omega)]
    subst hw'
    repeat' ((conv => whnf); (first
      | (refine Br_true (Nat.ble_eq_true_of_le (by rw [hwl]; exact Nat.le_refl _)) ?_)
      | (refine Br_true (Nat.ble_eq_true_of_le (by rw [splice_length, hwl]; exact Nat.le_refl _)) ?_)
      | (refine Br_true (by rw [hwl]; rfl) ?_)
      | (refine Br_true (by assumption) ?_)
      | (refine Br_false (by assumption) ?_)
      | (refine Br_true (beqT (by omega)) ?_)
      | (refine Br_false (beqF (by omega)) ?_)
      | (refine Br_beq (fun h => ?_) (fun h => ?_))
      | (refine Br_true (bneT (by omega)) ?_)
      | (refine Br_false (bneF (by omega)) ?_)
      | (refine Br_bne (fun h => ?_) (fun h => ?_))
      | (refine Br_true (decide_eq_true (by omega)) ?_)
      | (refine Br_false (decide_eq_false (by omega)) ?_)
      | (refine Br_dec (fun h => ?_) (fun h => ?_))
      | (refine Br_not ?_)
      | (refine Len_in (fun hlen => ?_))
      | (refine forceL_to (sub_all _ _ hwl) ?_)
      | (refine forceL_to (l := markC m) (by rw [splice_all]; exact sub_all _ _ hwl) ?_)
      | (refine finD (F := []) (FV_tup2 (.same _ (markC_low m)) (.same _ rfl)))
      | (refine Br_split (fun h => ?_) (fun h => ?_))
      | (refine fin0 rfl ?_)
      | (refine ArK_in (wrap_i64 (by omega) (by omega)) ?_)
      | (refine force_in ?_)))
def blks : List UInt8 := [32, 9, 10, 12, 13]
theorem blks_any (c : UInt8) : (blks.any (· == c)) = blankB c := by
  unfold blks blankB
  have h : ∀ d : UInt8, (d == c) = decide (c.toNat = d.toNat) := fun d => by
    rw [Bool.eq_iff_iff]; simp; constructor
    · rintro rfl; rfl
    · intro e; exact UInt8.toNat_inj.1 e.symm
  simp only [List.any_cons, List.any_nil, h, Bool.or_false]
  rw [Bool.eq_iff_iff]
  simp
theorem trimLeftG (l m : List UInt8) (hm : ∀ c ∈ m, c.toNat < 128) (h2 : 2 ≤ m.length) : Fn Tryd.prog 43 [.d (str l), .d (str m)] (.d (str (l.dropWhile fun c => m.any (· == c)))) := by
  refine Fn_of tt_ok Tryd.func43 rfl (by decide) Tryd.ntmps43 rfl ?_
  have e0 : ∀ q : List UInt8, ((⟨q.toArray⟩ : ByteArray).toList == (⟨#[]⟩ : ByteArray).toList) = decide (q = []) := fun q => streq q []
  have e1 : ((⟨m.toArray⟩ : ByteArray).toList == (⟨#[]⟩ : ByteArray).toList) = false := by rw [e0]; exact decide_eq_false (by rintro rfl; simp at h2)
  have hms := makeASCIISet m hm
  have es := str_size m
  by_cases hl : l = []
  · have e2 : ((⟨l.toArray⟩ : ByteArray).toList == (⟨#[]⟩ : ByteArray).toList) = true := by rw [e0]; exact decide_eq_true hl
    repeat' ((conv => whnf); (first
      | (refine Br_true e2 ?_)
      | (refine Br_true (by assumption) ?_)
      | (refine Br_false (by assumption) ?_)
      | (refine Br_true (beqT (by omega)) ?_)
      | (refine Br_false (beqF (by omega)) ?_)
      | (refine Br_beq (fun h => ?_) (fun h => ?_))
      | (refine Br_true (bneT (by omega)) ?_)
      | (refine Br_false (bneF (by omega)) ?_)
      | (refine Br_bne (fun h => ?_) (fun h => ?_))
      | (refine Br_true (decide_eq_true (by omega)) ?_)
      | (refine Br_false (decide_eq_false (by omega)) ?_)
      | (refine Br_dec (fun h => ?_) (fun h => ?_))
      | (refine Br_not ?_)
      | (refine Len_in (fun hlen => ?_))
      | (refine Br_split (fun h => ?_) (fun h => ?_))
      | (refine fin0 rfl ?_)
      | (refine ArK_in (wrap_i64 (by omega) (by omega)) ?_)
      | (refine force_in ?_)))
    rw [hl]; rfl
  · have e2 : ((⟨l.toArray⟩ : ByteArray).toList == (⟨#[]⟩ : ByteArray).toList) = false := by rw [e0]; exact decide_eq_false hl
    have ht := trimLeftASCII l m
    have hwl := markC_len m
    refine Br_false e2 ?_
    refine Br_false e1 ?_
    repeat' ((conv => whnf); (first
      | (refine Br_true (by rw [hwl]; rfl) ?_)
      | (refine Br_true (Nat.ble_eq_true_of_le (by rw [hwl]; exact Nat.le_refl _)) ?_)
      | (refine Br_true (by assumption) ?_)
      | (refine Br_false (by assumption) ?_)
      | (refine Br_true (beqT (by omega)) ?_)
      | (refine Br_false (beqF (by omega)) ?_)
      | (refine Br_beq (fun h => ?_) (fun h => ?_))
      | (refine Br_true (bneT (by omega)) ?_)
      | (refine Br_false (bneF (by omega)) ?_)
      | (refine Br_bne (fun h => ?_) (fun h => ?_))
      | (refine Br_true (decide_eq_true (by omega)) ?_)
      | (refine Br_false (decide_eq_false (by omega)) ?_)
      | (refine Br_dec (fun h => ?_) (fun h => ?_))
      | (refine Br_not ?_)
      | (refine Len_in (fun hlen => ?_))
      | (refine Fn.use hms rfl (by simp [low, lowL]; exact markC_low m) ?_)
      | (refine Br_split (fun h => ?_) (fun h => ?_))
      | (refine fin0 rfl ?_)
      | (refine ArK_in (wrap_i64 (by omega) (by omega)) ?_)
      | (refine force_in ?_)))
    rw [splice_over _ (markC m) (by rw [hwl]; rfl)]
    refine Tri.use ht ?_
    repeat' ((conv => whnf); (first
      | (refine Br_true (by assumption) ?_)
      | (refine Br_false (by assumption) ?_)
      | (refine Br_true (beqT (by omega)) ?_)
      | (refine Br_false (beqF (by omega)) ?_)
      | (refine Br_beq (fun h => ?_) (fun h => ?_))
      | (refine Br_true (bneT (by omega)) ?_)
      | (refine Br_false (bneF (by omega)) ?_)
      | (refine Br_bne (fun h => ?_) (fun h => ?_))
      | (refine Br_true (decide_eq_true (by omega)) ?_)
      | (refine Br_false (decide_eq_false (by omega)) ?_)
      | (refine Br_dec (fun h => ?_) (fun h => ?_))
      | (refine Br_not ?_)
      | (refine Len_in (fun hlen => ?_))
      | (refine finD (F := []) (.same _ rfl))
      | (refine Br_split (fun h => ?_) (fun h => ?_))
      | (refine fin0 rfl ?_)
      | (refine ArK_in (wrap_i64 (by omega) (by omega)) ?_)
      | (refine force_in ?_)))
theorem trimLeft (l : List UInt8) : Fn Tryd.prog 43 [.d (str l), .d (str blks)] (.d (str (l.dropWhile blankB))) := by
  have h := trimLeftG l blks (by decide) (by decide)
  have hbl : (fun c => blks.any (· == c)) = blankB := by funext c; exact blks_any c
  rw [hbl] at h
  exact h
end Go.Eng
set_option maxRecDepth 100000
set_option linter.unusedVariables false
namespace Go.Eng
open Go Go.Proofs
theorem wrap_i32 {e : Int} (h1 : -2147483648 ≤ e) (h2 : e ≤ 2147483647) : IntKind.i32.wrap e = e := by
  rw [IntKind.wrap_i32]; omega
theorem str_tail (a : UInt8) (r : List UInt8) : (⟨(a :: r).toArray⟩ : ByteArray).extract (1 : Int).toNat (((⟨(a :: r).toArray⟩ : ByteArray).size : Nat) : Int).toNat = ⟨r.toArray⟩ := by
  rw [str_size, str_extract]; simp
set_option maxHeartbeats 2000000 in
theorem attr_Index (l : List UInt8) : Fn Tryd.prog 20 [.d (str l)] (.tup [.i (idxOf l).1, .b (idxOf l).2]) := by
  refine Fn_of tt_ok Tryd.func20 rfl (by decide) Tryd.ntmps20 rfl ?_
  have ht := trimLeft l
  refine Fn.use ht rfl rfl ?_
  generalize hr : l.dropWhile blankB = rr at ht ⊢
  by_cases h45 : rr.head? = some 45
  · obtain ⟨r, rfl⟩ : ∃ r, rr = 45 :: r := by cases rr with
      | nil => simp at h45
      | cons a r => simp at h45; exact ⟨r, by rw [h45]⟩
    have esr := str_size (45 :: r)
    simp only [List.length_cons] at esr
    have htl := str_tail 45 r
    have hq : idxOf l = if (r).takeWhile digitB = [] then (0, false) else (mnI (-1 * valD ((r).takeWhile digitB)) 2147483647, true) := by
      simp only [idxOf, hr, signOf, afterSign, List.head?_cons, List.tail_cons, if_true, true_or]
    rw [hq]
    clear hq ht
    have es := str_size (r)
    repeat' ((conv => whnf); (first
      | (refine Br_true (decide_eq_true h45) ?_)
      | (refine Br_true (by assumption) ?_)
      | (refine Br_false (by assumption) ?_)
      | (refine Br_true (beqT (by omega)) ?_)
      | (refine Br_false (beqF (by omega)) ?_)
      | (refine Br_beq (fun h => ?_) (fun h => ?_))
      | (refine Br_true (bneT (by omega)) ?_)
      | (refine Br_false (bneF (by omega)) ?_)
      | (refine Br_bne (fun h => ?_) (fun h => ?_))
      | (refine Br_true (decide_eq_true (by omega)) ?_)
      | (refine Br_false (decide_eq_false (by omega)) ?_)
      | (refine Br_dec (fun h => ?_) (fun h => ?_))
      | (refine Br_not ?_)
      | (refine Len_in (fun hlen => ?_))
      | (refine Fn.use (hasPrefix _ 45) rfl rfl ?_)
      | (refine CallF_in (hasPrefix _ 45) rfl rfl ?_)
      | (refine Fn.use (hasPrefix _ 43) rfl rfl ?_)
      | (refine CallF_in (hasPrefix _ 43) rfl rfl ?_)
      | (refine Br_split (fun h => ?_) (fun h => ?_))
      | (refine fin0 rfl ?_)
      | (refine ArK_in (wrap_i64 (by omega) (by omega)) ?_)
      | (refine force_in ?_)))
    refine Need_in ⟨by omega, by omega, by omega⟩ ?_
    rw [htl]
    repeat' ((conv => whnf); (first
      | (refine Br_true (decide_eq_true h45) ?_)
      | (refine Br_true (by assumption) ?_)
      | (refine Br_false (by assumption) ?_)
      | (refine Br_true (beqT (by omega)) ?_)
      | (refine Br_false (beqF (by omega)) ?_)
      | (refine Br_beq (fun h => ?_) (fun h => ?_))
      | (refine Br_true (bneT (by omega)) ?_)
      | (refine Br_false (bneF (by omega)) ?_)
      | (refine Br_bne (fun h => ?_) (fun h => ?_))
      | (refine Br_true (decide_eq_true (by omega)) ?_)
      | (refine Br_false (decide_eq_false (by omega)) ?_)
      | (refine Br_dec (fun h => ?_) (fun h => ?_))
      | (refine Br_not ?_)
      | (refine Len_in (fun hlen => ?_))
      | (refine Fn.use (hasPrefix _ 45) rfl rfl ?_)
      | (refine CallF_in (hasPrefix _ 45) rfl rfl ?_)
      | (refine Fn.use (hasPrefix _ 43) rfl rfl ?_)
      | (refine CallF_in (hasPrefix _ 43) rfl rfl ?_)
      | (refine Br_split (fun h => ?_) (fun h => ?_))
      | (refine fin0 rfl ?_)
      | (refine ArK_in (wrap_i64 (by omega) (by omega)) ?_)
      | (refine force_in ?_)))
    refine W_loop (fun μ s => ∃ (j : Nat) (v : Int) (is : Bool), j ≤ (r).length ∧ μ = (r).length - j ∧ v = valD ((r).take j) ∧ is = !decide (j = 0) ∧ (∀ c ∈ (r).take j, digitB c = true) ∧ (r).takeWhile digitB = (r).take j ++ ((r).drop j).takeWhile digitB ∧
      s = ⟨[(4, .i (-1)), (5, .i v), (6, .b is), (22, .ptr 0 0)], 42, [some (.iter ⟨(r).toArray⟩ j)], 0, []⟩) (r).length ⟨_, ?_, 0, 0, false, by omega, by omega, rfl, rfl, by simp, by simp, rfl⟩ ?_
    · exact Wk_env (by repeat (first | exact trivial | refine ⟨rfl, ?_⟩))
    rintro μ s1 ⟨j, v, is, hj, rfl, hv, his, hdg, htw, rfl⟩
    have hvb := valD_bd _ hdg
    rw [← hv] at hvb
    refine W_run tt_ok ?_
    have fin : (r).takeWhile digitB = (r).take j → (if (r).takeWhile digitB = [] then ((0 : Int), false) else (mnI (-1 * valD ((r).takeWhile digitB)) 2147483647, true)) = if is = false then (0, false) else (mnI (-1 * v) 2147483647, true) := fun e => by
      rw [e, ← hv, his]
      by_cases h0 : j = 0
      · subst h0; simp
      · have h1 : ¬ (r).take j = [] := fun h => by
          have := congrArg List.length h
          rw [List.length_take] at this
          simp only [List.length_nil] at this
          omega
        rw [if_neg h1, if_neg (show ¬ (!decide (j = 0)) = false by simp [h0])]
    by_cases hjl : j < (r).length
    · obtain ⟨hyes, hno⟩ := takeWhile_step htw hjl
      have hc := ((r)[j]).toNat_lt
      refine Br_true (decide_eq_true (by rw [es]; exact hjl)) ?_
      by_cases hb : digitB (r)[j] = true
      · have hb' := hb
        unfold digitB at hb'
        have hb' := of_decide_eq_true hb'
        rw [dec_lo (r) j hjl (by omega)]
        have hnx : valD ((r).take (j + 1)) = mnI (10 * v + ((((r)[j]).toNat : Int) - 48)) 2147483648 := by
          rw [List.take_succ_eq_append_getElem hjl, valD_snoc, ← hv]; rfl
        have hdg' : ∀ c ∈ (r).take (j + 1), digitB c = true := by
          rw [List.take_succ_eq_append_getElem hjl]
          intro c hc; simp only [List.mem_append, List.mem_singleton] at hc
          rcases hc with hc | rfl
          · exact hdg c hc
          · exact hb
        have his' : true = !decide (j + 1 = 0) := by simp
        have hy := hyes hb
        clear hyes hno fin hdg htw hb his
        generalize (r)[j] = d at hb' hnx hc ⊢
        repeat' ((conv => whnf); (first
          | (refine Br_true (by assumption) ?_)
          | (refine Br_false (by assumption) ?_)
          | (refine Br_true (beqT (by omega)) ?_)
          | (refine Br_false (beqF (by omega)) ?_)
          | (refine Br_beq (fun h => ?_) (fun h => ?_))
          | (refine Br_true (bneT (by omega)) ?_)
          | (refine Br_false (bneF (by omega)) ?_)
          | (refine Br_bne (fun h => ?_) (fun h => ?_))
          | (refine Br_true (decide_eq_true (by omega)) ?_)
          | (refine Br_false (decide_eq_false (by omega)) ?_)
          | (refine Br_dec (fun h => ?_) (fun h => ?_))
          | (refine Br_not ?_)
          | (refine Len_in (fun hlen => ?_))
          | (refine Fn.use (attr_digit _) rfl rfl ?_)
          | (refine CallF_in (attr_digit _) rfl rfl ?_)
          | (refine ArK_in (wrap_i32 (by omega) (by omega)) ?_)
          | (refine Back_in ⟨[(4, .i (-1)), (5, .i (mnI (10 * v + (((d).toNat : Int) - 48)) 2147483648)), (6, .b true), (22, .ptr 0 0)], 42, [some (.iter ⟨(r).toArray⟩ (j + 1))], 0, []⟩ _ ⟨j + 1, _, true, by omega, rfl, hnx.symm, his', hdg', hy, rfl⟩ (by omega) (Wk_env (by repeat (first | exact trivial | refine ⟨rfl, ?_⟩))))
          | (refine Br_split (fun h => ?_) (fun h => ?_))
          | (refine fin0 rfl ?_)
          | (refine ArK_in (wrap_i64 (by omega) (by omega)) ?_)
          | (refine force_in ?_)))
      · have hb : digitB (r)[j] = false := by simpa using hb
        rw [fin (hno hb)]
        unfold digitB at hb
        have hb := of_decide_eq_false hb
        have hdig : decide ((48 : Int) ≤ ((Utf8.decode ⟨(r).toArray⟩ j).1 : Nat) ∧ (((Utf8.decode ⟨(r).toArray⟩ j).1 : Nat) : Int) ≤ 57) = false := by
          apply decide_eq_false
          by_cases h8 : ((r)[j]).toNat < 128
          · rw [dec_lo (r) j hjl h8]; simp only; omega
          · have := dec_hi (r) j hjl (by omega); omega
        clear hyes hno fin hdg htw hb his
        refine Fn.use (attr_digit _) rfl rfl ?_
        refine Br_not (Br_false hdig ?_)
        cases is
        · repeat' ((conv => whnf); (first
          | (refine Br_true (by assumption) ?_)
          | (refine Br_false (by assumption) ?_)
          | (refine Br_true (beqT (by omega)) ?_)
          | (refine Br_false (beqF (by omega)) ?_)
          | (refine Br_beq (fun h => ?_) (fun h => ?_))
          | (refine Br_true (bneT (by omega)) ?_)
          | (refine Br_false (bneF (by omega)) ?_)
          | (refine Br_bne (fun h => ?_) (fun h => ?_))
          | (refine Br_true (decide_eq_true (by omega)) ?_)
          | (refine Br_false (decide_eq_false (by omega)) ?_)
          | (refine Br_dec (fun h => ?_) (fun h => ?_))
          | (refine Br_not ?_)
          | (refine Len_in (fun hlen => ?_))
          | (refine Br_split (fun h => ?_) (fun h => ?_))
          | (refine fin0 rfl ?_)
          | (refine ArK_in (wrap_i64 (by omega) (by omega)) ?_)
          | (refine force_in ?_)))
          all_goals rfl
        · repeat' ((conv => whnf); (first
          | (refine Br_true (by assumption) ?_)
          | (refine Br_false (by assumption) ?_)
          | (refine Br_true (beqT (by omega)) ?_)
          | (refine Br_false (beqF (by omega)) ?_)
          | (refine Br_beq (fun h => ?_) (fun h => ?_))
          | (refine Br_true (bneT (by omega)) ?_)
          | (refine Br_false (bneF (by omega)) ?_)
          | (refine Br_bne (fun h => ?_) (fun h => ?_))
          | (refine Br_true (decide_eq_true (by omega)) ?_)
          | (refine Br_false (decide_eq_false (by omega)) ?_)
          | (refine Br_dec (fun h => ?_) (fun h => ?_))
          | (refine Br_not ?_)
          | (refine Len_in (fun hlen => ?_))
          | (refine Br_split (fun h => ?_) (fun h => ?_))
          | (refine fin0 rfl ?_)
          | (refine ArK_in (wrap_i64 (by omega) (by omega)) ?_)
          | (refine force_in ?_)))
          all_goals rfl
    · have e : (r).takeWhile digitB = (r).take j := by rw [htw, List.drop_eq_nil_of_le (Nat.le_of_not_lt hjl)]; simp
      rw [fin e]
      refine Br_false (decide_eq_false (by rw [es]; exact hjl)) ?_
      cases is
      · repeat' ((conv => whnf); (first
        | (refine Br_true (by assumption) ?_)
        | (refine Br_false (by assumption) ?_)
        | (refine Br_true (beqT (by omega)) ?_)
        | (refine Br_false (beqF (by omega)) ?_)
        | (refine Br_beq (fun h => ?_) (fun h => ?_))
        | (refine Br_true (bneT (by omega)) ?_)
        | (refine Br_false (bneF (by omega)) ?_)
        | (refine Br_bne (fun h => ?_) (fun h => ?_))
        | (refine Br_true (decide_eq_true (by omega)) ?_)
        | (refine Br_false (decide_eq_false (by omega)) ?_)
        | (refine Br_dec (fun h => ?_) (fun h => ?_))
        | (refine Br_not ?_)
        | (refine Len_in (fun hlen => ?_))
        | (refine Br_split (fun h => ?_) (fun h => ?_))
        | (refine fin0 rfl ?_)
        | (refine ArK_in (wrap_i64 (by omega) (by omega)) ?_)
        | (refine force_in ?_)))
        all_goals rfl
      · repeat' ((conv => whnf); (first
        | (refine Br_true (by assumption) ?_)
        | (refine Br_false (by assumption) ?_)
        | (refine Br_true (beqT (by omega)) ?_)
        | (refine Br_false (beqF (by omega)) ?_)
        | (refine Br_beq (fun h => ?_) (fun h => ?_))
        | (refine Br_true (bneT (by omega)) ?_)
        | (refine Br_false (bneF (by omega)) ?_)
        | (refine Br_bne (fun h => ?_) (fun h => ?_))
        | (refine Br_true (decide_eq_true (by omega)) ?_)
        | (refine Br_false (decide_eq_false (by omega)) ?_)
        | (refine Br_dec (fun h => ?_) (fun h => ?_))
        | (refine Br_not ?_)
        | (refine Len_in (fun hlen => ?_))
        | (refine Br_split (fun h => ?_) (fun h => ?_))
        | (refine fin0 rfl ?_)
        | (refine ArK_in (wrap_i64 (by omega) (by omega)) ?_)
        | (refine force_in ?_)))
        all_goals rfl
  · by_cases h43 : rr.head? = some 43
    · obtain ⟨r, rfl⟩ : ∃ r, rr = 43 :: r := by cases rr with
        | nil => simp at h43
        | cons a r => simp at h43; exact ⟨r, by rw [h43]⟩
      have esr := str_size (43 :: r)
      simp only [List.length_cons] at esr
      have htl := str_tail 43 r
      have hq : idxOf l = if (r).takeWhile digitB = [] then (0, false) else (mnI (1 * valD ((r).takeWhile digitB)) 2147483647, true) := by
        simp [idxOf, hr, signOf, afterSign]
      rw [hq]
      clear hq ht
      have es := str_size (r)
      repeat' ((conv => whnf); (first
        | (refine Br_false (decide_eq_false h45) ?_)
        | (refine Br_true (decide_eq_true h43) ?_)
        | (refine Br_true (by assumption) ?_)
        | (refine Br_false (by assumption) ?_)
        | (refine Br_true (beqT (by omega)) ?_)
        | (refine Br_false (beqF (by omega)) ?_)
        | (refine Br_beq (fun h => ?_) (fun h => ?_))
        | (refine Br_true (bneT (by omega)) ?_)
        | (refine Br_false (bneF (by omega)) ?_)
        | (refine Br_bne (fun h => ?_) (fun h => ?_))
        | (refine Br_true (decide_eq_true (by omega)) ?_)
        | (refine Br_false (decide_eq_false (by omega)) ?_)
        | (refine Br_dec (fun h => ?_) (fun h => ?_))
        | (refine Br_not ?_)
        | (refine Len_in (fun hlen => ?_))
        | (refine Fn.use (hasPrefix _ 45) rfl rfl ?_)
        | (refine CallF_in (hasPrefix _ 45) rfl rfl ?_)
        | (refine Fn.use (hasPrefix _ 43) rfl rfl ?_)
        | (refine CallF_in (hasPrefix _ 43) rfl rfl ?_)
        | (refine Br_split (fun h => ?_) (fun h => ?_))
        | (refine fin0 rfl ?_)
        | (refine ArK_in (wrap_i64 (by omega) (by omega)) ?_)
        | (refine force_in ?_)))
      refine Need_in ⟨by omega, by omega, by omega⟩ ?_
      rw [htl]
      repeat' ((conv => whnf); (first
        | (refine Br_false (decide_eq_false h45) ?_)
        | (refine Br_true (decide_eq_true h43) ?_)
        | (refine Br_true (by assumption) ?_)
        | (refine Br_false (by assumption) ?_)
        | (refine Br_true (beqT (by omega)) ?_)
        | (refine Br_false (beqF (by omega)) ?_)
        | (refine Br_beq (fun h => ?_) (fun h => ?_))
        | (refine Br_true (bneT (by omega)) ?_)
        | (refine Br_false (bneF (by omega)) ?_)
        | (refine Br_bne (fun h => ?_) (fun h => ?_))
        | (refine Br_true (decide_eq_true (by omega)) ?_)
        | (refine Br_false (decide_eq_false (by omega)) ?_)
        | (refine Br_dec (fun h => ?_) (fun h => ?_))
        | (refine Br_not ?_)
        | (refine Len_in (fun hlen => ?_))
        | (refine Fn.use (hasPrefix _ 45) rfl rfl ?_)
        | (refine CallF_in (hasPrefix _ 45) rfl rfl ?_)
        | (refine Fn.use (hasPrefix _ 43) rfl rfl ?_)
        | (refine CallF_in (hasPrefix _ 43) rfl rfl ?_)
        | (refine Br_split (fun h => ?_) (fun h => ?_))
        | (refine fin0 rfl ?_)
        | (refine ArK_in (wrap_i64 (by omega) (by omega)) ?_)
        | (refine force_in ?_)))
      refine W_loop (fun μ s => ∃ (j : Nat) (v : Int) (is : Bool), j ≤ (r).length ∧ μ = (r).length - j ∧ v = valD ((r).take j) ∧ is = !decide (j = 0) ∧ (∀ c ∈ (r).take j, digitB c = true) ∧ (r).takeWhile digitB = (r).take j ++ ((r).drop j).takeWhile digitB ∧
        s = ⟨[(4, .i (1)), (5, .i v), (6, .b is), (22, .ptr 0 0)], 42, [some (.iter ⟨(r).toArray⟩ j)], 0, []⟩) (r).length ⟨_, ?_, 0, 0, false, by omega, by omega, rfl, rfl, by simp, by simp, rfl⟩ ?_
      · exact Wk_env (by repeat (first | exact trivial | refine ⟨rfl, ?_⟩))
      rintro μ s1 ⟨j, v, is, hj, rfl, hv, his, hdg, htw, rfl⟩
      have hvb := valD_bd _ hdg
      rw [← hv] at hvb
      refine W_run tt_ok ?_
      have fin : (r).takeWhile digitB = (r).take j → (if (r).takeWhile digitB = [] then ((0 : Int), false) else (mnI (1 * valD ((r).takeWhile digitB)) 2147483647, true)) = if is = false then (0, false) else (mnI (1 * v) 2147483647, true) := fun e => by
        rw [e, ← hv, his]
        by_cases h0 : j = 0
        · subst h0; simp
        · have h1 : ¬ (r).take j = [] := fun h => by
            have := congrArg List.length h
            rw [List.length_take] at this
            simp only [List.length_nil] at this
            omega
          rw [if_neg h1, if_neg (show ¬ (!decide (j = 0)) = false by simp [h0])]
      by_cases hjl : j < (r).length
      · obtain ⟨hyes, hno⟩ := takeWhile_step htw hjl
        have hc := ((r)[j]).toNat_lt
        refine Br_true (decide_eq_true (by rw [es]; exact hjl)) ?_
        by_cases hb : digitB (r)[j] = true
        · have hb' := hb
          unfold digitB at hb'
          have hb' := of_decide_eq_true hb'
          rw [dec_lo (r) j hjl (by omega)]
          have hnx : valD ((r).take (j + 1)) = mnI (10 * v + ((((r)[j]).toNat : Int) - 48)) 2147483648 := by
            rw [List.take_succ_eq_append_getElem hjl, valD_snoc, ← hv]; rfl
          have hdg' : ∀ c ∈ (r).take (j + 1), digitB c = true := by
            rw [List.take_succ_eq_append_getElem hjl]
            intro c hc; simp only [List.mem_append, List.mem_singleton] at hc
            rcases hc with hc | rfl
            · exact hdg c hc
            · exact hb
          have his' : true = !decide (j + 1 = 0) := by simp
          have hy := hyes hb
          clear hyes hno fin hdg htw hb his
          generalize (r)[j] = d at hb' hnx hc ⊢
          repeat' ((conv => whnf); (first
            | (refine Br_true (by assumption) ?_)
            | (refine Br_false (by assumption) ?_)
            | (refine Br_true (beqT (by omega)) ?_)
            | (refine Br_false (beqF (by omega)) ?_)
            | (refine Br_beq (fun h => ?_) (fun h => ?_))
            | (refine Br_true (bneT (by omega)) ?_)
            | (refine Br_false (bneF (by omega)) ?_)
            | (refine Br_bne (fun h => ?_) (fun h => ?_))
            | (refine Br_true (decide_eq_true (by omega)) ?_)
            | (refine Br_false (decide_eq_false (by omega)) ?_)
            | (refine Br_dec (fun h => ?_) (fun h => ?_))
            | (refine Br_not ?_)
            | (refine Len_in (fun hlen => ?_))
            | (refine Fn.use (attr_digit _) rfl rfl ?_)
            | (refine CallF_in (attr_digit _) rfl rfl ?_)
            | (refine ArK_in (wrap_i32 (by omega) (by omega)) ?_)
            | (refine Back_in ⟨[(4, .i (1)), (5, .i (mnI (10 * v + (((d).toNat : Int) - 48)) 2147483648)), (6, .b true), (22, .ptr 0 0)], 42, [some (.iter ⟨(r).toArray⟩ (j + 1))], 0, []⟩ _ ⟨j + 1, _, true, by omega, rfl, hnx.symm, his', hdg', hy, rfl⟩ (by omega) (Wk_env (by repeat (first | exact trivial | refine ⟨rfl, ?_⟩))))
            | (refine Br_split (fun h => ?_) (fun h => ?_))
            | (refine fin0 rfl ?_)
            | (refine ArK_in (wrap_i64 (by omega) (by omega)) ?_)
            | (refine force_in ?_)))
        · have hb : digitB (r)[j] = false := by simpa using hb
          rw [fin (hno hb)]
          unfold digitB at hb
          have hb := of_decide_eq_false hb
          have hdig : decide ((48 : Int) ≤ ((Utf8.decode ⟨(r).toArray⟩ j).1 : Nat) ∧ (((Utf8.decode ⟨(r).toArray⟩ j).1 : Nat) : Int) ≤ 57) = false := by
            apply decide_eq_false
            by_cases h8 : ((r)[j]).toNat < 128
            · rw [dec_lo (r) j hjl h8]; simp only; omega
            · have := dec_hi (r) j hjl (by omega); omega
          clear hyes hno fin hdg htw hb his
          refine Fn.use (attr_digit _) rfl rfl ?_
          refine Br_not (Br_false hdig ?_)
          cases is
          · repeat' ((conv => whnf); (first
            | (refine Br_true (by assumption) ?_)
            | (refine Br_false (by assumption) ?_)
            | (refine Br_true (beqT (by omega)) ?_)
            | (refine Br_false (beqF (by omega)) ?_)
            | (refine Br_beq (fun h => ?_) (fun h => ?_))
            | (refine Br_true (bneT (by omega)) ?_)
            | (refine Br_false (bneF (by omega)) ?_)
            | (refine Br_bne (fun h => ?_) (fun h => ?_))
            | (refine Br_true (decide_eq_true (by omega)) ?_)
            | (refine Br_false (decide_eq_false (by omega)) ?_)
            | (refine Br_dec (fun h => ?_) (fun h => ?_))
            | (refine Br_not ?_)
            | (refine Len_in (fun hlen => ?_))
            | (refine Br_split (fun h => ?_) (fun h => ?_))
            | (refine fin0 rfl ?_)
            | (refine ArK_in (wrap_i64 (by omega) (by omega)) ?_)
            | (refine force_in ?_)))
            all_goals rfl
          · repeat' ((conv => whnf); (first
            | (refine Br_true (by assumption) ?_)
            | (refine Br_false (by assumption) ?_)
            | (refine Br_true (beqT (by omega)) ?_)
            | (refine Br_false (beqF (by omega)) ?_)
            | (refine Br_beq (fun h => ?_) (fun h => ?_))
            | (refine Br_true (bneT (by omega)) ?_)
            | (refine Br_false (bneF (by omega)) ?_)
            | (refine Br_bne (fun h => ?_) (fun h => ?_))
            | (refine Br_true (decide_eq_true (by omega)) ?_)
            | (refine Br_false (decide_eq_false (by omega)) ?_)
            | (refine Br_dec (fun h => ?_) (fun h => ?_))
            | (refine Br_not ?_)
            | (refine Len_in (fun hlen => ?_))
            | (refine Br_split (fun h => ?_) (fun h => ?_))
            | (refine fin0 rfl ?_)
            | (refine ArK_in (wrap_i64 (by omega) (by omega)) ?_)
            | (refine force_in ?_)))
            all_goals rfl
      · have e : (r).takeWhile digitB = (r).take j := by rw [htw, List.drop_eq_nil_of_le (Nat.le_of_not_lt hjl)]; simp
        rw [fin e]
        refine Br_false (decide_eq_false (by rw [es]; exact hjl)) ?_
        cases is
        · repeat' ((conv => whnf); (first
          | (refine Br_true (by assumption) ?_)
          | (refine Br_false (by assumption) ?_)
          | (refine Br_true (beqT (by omega)) ?_)
          | (refine Br_false (beqF (by omega)) ?_)
          | (refine Br_beq (fun h => ?_) (fun h => ?_))
          | (refine Br_true (bneT (by omega)) ?_)
          | (refine Br_false (bneF (by omega)) ?_)
          | (refine Br_bne (fun h => ?_) (fun h => ?_))
          | (refine Br_true (decide_eq_true (by omega)) ?_)
          | (refine Br_false (decide_eq_false (by omega)) ?_)
          | (refine Br_dec (fun h => ?_) (fun h => ?_))
          | (refine Br_not ?_)
          | (refine Len_in (fun hlen => ?_))
          | (refine Br_split (fun h => ?_) (fun h => ?_))
          | (refine fin0 rfl ?_)
          | (refine ArK_in (wrap_i64 (by omega) (by omega)) ?_)
          | (refine force_in ?_)))
          all_goals rfl
        · repeat' ((conv => whnf); (first
          | (refine Br_true (by assumption) ?_)
          | (refine Br_false (by assumption) ?_)
          | (refine Br_true (beqT (by omega)) ?_)
          | (refine Br_false (beqF (by omega)) ?_)
          | (refine Br_beq (fun h => ?_) (fun h => ?_))
          | (refine Br_true (bneT (by omega)) ?_)
          | (refine Br_false (bneF (by omega)) ?_)
          | (refine Br_bne (fun h => ?_) (fun h => ?_))
          | (refine Br_true (decide_eq_true (by omega)) ?_)
          | (refine Br_false (decide_eq_false (by omega)) ?_)
          | (refine Br_dec (fun h => ?_) (fun h => ?_))
          | (refine Br_not ?_)
          | (refine Len_in (fun hlen => ?_))
          | (refine Br_split (fun h => ?_) (fun h => ?_))
          | (refine fin0 rfl ?_)
          | (refine ArK_in (wrap_i64 (by omega) (by omega)) ?_)
          | (refine force_in ?_)))
          all_goals rfl
    · skip
      have hq : idxOf l = if (rr).takeWhile digitB = [] then (0, false) else (mnI (1 * valD ((rr).takeWhile digitB)) 2147483647, true) := by
        simp only [idxOf, hr, signOf, afterSign, h45, h43, if_false, or_self]
      rw [hq]
      clear hq ht
      have es := str_size (rr)
      repeat' ((conv => whnf); (first
        | (refine Br_false (decide_eq_false h45) ?_)
        | (refine Br_false (decide_eq_false h43) ?_)
        | (refine Br_true (by assumption) ?_)
        | (refine Br_false (by assumption) ?_)
        | (refine Br_true (beqT (by omega)) ?_)
        | (refine Br_false (beqF (by omega)) ?_)
        | (refine Br_beq (fun h => ?_) (fun h => ?_))
        | (refine Br_true (bneT (by omega)) ?_)
        | (refine Br_false (bneF (by omega)) ?_)
        | (refine Br_bne (fun h => ?_) (fun h => ?_))
        | (refine Br_true (decide_eq_true (by omega)) ?_)
        | (refine Br_false (decide_eq_false (by omega)) ?_)
        | (refine Br_dec (fun h => ?_) (fun h => ?_))
        | (refine Br_not ?_)
        | (refine Len_in (fun hlen => ?_))
        | (refine Fn.use (hasPrefix _ 45) rfl rfl ?_)
        | (refine CallF_in (hasPrefix _ 45) rfl rfl ?_)
        | (refine Fn.use (hasPrefix _ 43) rfl rfl ?_)
        | (refine CallF_in (hasPrefix _ 43) rfl rfl ?_)
        | (refine Br_split (fun h => ?_) (fun h => ?_))
        | (refine fin0 rfl ?_)
        | (refine ArK_in (wrap_i64 (by omega) (by omega)) ?_)
        | (refine force_in ?_)))
      refine W_loop (fun μ s => ∃ (j : Nat) (v : Int) (is : Bool), j ≤ (rr).length ∧ μ = (rr).length - j ∧ v = valD ((rr).take j) ∧ is = !decide (j = 0) ∧ (∀ c ∈ (rr).take j, digitB c = true) ∧ (rr).takeWhile digitB = (rr).take j ++ ((rr).drop j).takeWhile digitB ∧
        s = ⟨[(4, .i (1)), (5, .i v), (6, .b is), (22, .ptr 0 0)], 42, [some (.iter ⟨(rr).toArray⟩ j)], 0, []⟩) (rr).length ⟨_, ?_, 0, 0, false, by omega, by omega, rfl, rfl, by simp, by simp, rfl⟩ ?_
      · exact Wk_env (by repeat (first | exact trivial | refine ⟨rfl, ?_⟩))
      rintro μ s1 ⟨j, v, is, hj, rfl, hv, his, hdg, htw, rfl⟩
      have hvb := valD_bd _ hdg
      rw [← hv] at hvb
      refine W_run tt_ok ?_
      have fin : (rr).takeWhile digitB = (rr).take j → (if (rr).takeWhile digitB = [] then ((0 : Int), false) else (mnI (1 * valD ((rr).takeWhile digitB)) 2147483647, true)) = if is = false then (0, false) else (mnI (1 * v) 2147483647, true) := fun e => by
        rw [e, ← hv, his]
        by_cases h0 : j = 0
        · subst h0; simp
        · have h1 : ¬ (rr).take j = [] := fun h => by
            have := congrArg List.length h
            rw [List.length_take] at this
            simp only [List.length_nil] at this
            omega
          rw [if_neg h1, if_neg (show ¬ (!decide (j = 0)) = false by simp [h0])]
      by_cases hjl : j < (rr).length
      · obtain ⟨hyes, hno⟩ := takeWhile_step htw hjl
        have hc := ((rr)[j]).toNat_lt
        refine Br_true (decide_eq_true (by rw [es]; exact hjl)) ?_
        by_cases hb : digitB (rr)[j] = true
        · have hb' := hb
          unfold digitB at hb'
          have hb' := of_decide_eq_true hb'
          rw [dec_lo (rr) j hjl (by omega)]
          have hnx : valD ((rr).take (j + 1)) = mnI (10 * v + ((((rr)[j]).toNat : Int) - 48)) 2147483648 := by
            rw [List.take_succ_eq_append_getElem hjl, valD_snoc, ← hv]; rfl
          have hdg' : ∀ c ∈ (rr).take (j + 1), digitB c = true := by
            rw [List.take_succ_eq_append_getElem hjl]
            intro c hc; simp only [List.mem_append, List.mem_singleton] at hc
            rcases hc with hc | rfl
            · exact hdg c hc
            · exact hb
          have his' : true = !decide (j + 1 = 0) := by simp
          have hy := hyes hb
          clear hyes hno fin hdg htw hb his
          generalize (rr)[j] = d at hb' hnx hc ⊢
          repeat' ((conv => whnf); (first
            | (refine Br_true (by assumption) ?_)
            | (refine Br_false (by assumption) ?_)
            | (refine Br_true (beqT (by omega)) ?_)
            | (refine Br_false (beqF (by omega)) ?_)
            | (refine Br_beq (fun h => ?_) (fun h => ?_))
            | (refine Br_true (bneT (by omega)) ?_)
            | (refine Br_false (bneF (by omega)) ?_)
            | (refine Br_bne (fun h => ?_) (fun h => ?_))
            | (refine Br_true (decide_eq_true (by omega)) ?_)
            | (refine Br_false (decide_eq_false (by omega)) ?_)
            | (refine Br_dec (fun h => ?_) (fun h => ?_))
            | (refine Br_not ?_)
            | (refine Len_in (fun hlen => ?_))
            | (refine Fn.use (attr_digit _) rfl rfl ?_)
            | (refine CallF_in (attr_digit _) rfl rfl ?_)
            | (refine ArK_in (wrap_i32 (by omega) (by omega)) ?_)
            | (refine Back_in ⟨[(4, .i (1)), (5, .i (mnI (10 * v + (((d).toNat : Int) - 48)) 2147483648)), (6, .b true), (22, .ptr 0 0)], 42, [some (.iter ⟨(rr).toArray⟩ (j + 1))], 0, []⟩ _ ⟨j + 1, _, true, by omega, rfl, hnx.symm, his', hdg', hy, rfl⟩ (by omega) (Wk_env (by repeat (first | exact trivial | refine ⟨rfl, ?_⟩))))
            | (refine Br_split (fun h => ?_) (fun h => ?_))
            | (refine fin0 rfl ?_)
            | (refine ArK_in (wrap_i64 (by omega) (by omega)) ?_)
            | (refine force_in ?_)))
        · have hb : digitB (rr)[j] = false := by simpa using hb
          rw [fin (hno hb)]
          unfold digitB at hb
          have hb := of_decide_eq_false hb
          have hdig : decide ((48 : Int) ≤ ((Utf8.decode ⟨(rr).toArray⟩ j).1 : Nat) ∧ (((Utf8.decode ⟨(rr).toArray⟩ j).1 : Nat) : Int) ≤ 57) = false := by
            apply decide_eq_false
            by_cases h8 : ((rr)[j]).toNat < 128
            · rw [dec_lo (rr) j hjl h8]; simp only; omega
            · have := dec_hi (rr) j hjl (by omega); omega
          clear hyes hno fin hdg htw hb his
          refine Fn.use (attr_digit _) rfl rfl ?_
          refine Br_not (Br_false hdig ?_)
          cases is
          · repeat' ((conv => whnf); (first
            | (refine Br_true (by assumption) ?_)
            | (refine Br_false (by assumption) ?_)
            | (refine Br_true (beqT (by omega)) ?_)
            | (refine Br_false (beqF (by omega)) ?_)
            | (refine Br_beq (fun h => ?_) (fun h => ?_))
            | (refine Br_true (bneT (by omega)) ?_)
            | (refine Br_false (bneF (by omega)) ?_)
            | (refine Br_bne (fun h => ?_) (fun h => ?_))
            | (refine Br_true (decide_eq_true (by omega)) ?_)
            | (refine Br_false (decide_eq_false (by omega)) ?_)
            | (refine Br_dec (fun h => ?_) (fun h => ?_))
            | (refine Br_not ?_)
            | (refine Len_in (fun hlen => ?_))
            | (refine Br_split (fun h => ?_) (fun h => ?_))
            | (refine fin0 rfl ?_)
            | (refine ArK_in (wrap_i64 (by omega) (by omega)) ?_)
            | (refine force_in ?_)))
            all_goals rfl
          · repeat' ((conv => whnf); (first
            | (refine Br_true (by assumption) ?_)
            | (refine Br_false (by assumption) ?_)
            | (refine Br_true (beqT (by omega)) ?_)
            | (refine Br_false (beqF (by omega)) ?_)
            | (refine Br_beq (fun h => ?_) (fun h => ?_))
            | (refine Br_true (bneT (by omega)) ?_)
            | (refine Br_false (bneF (by omega)) ?_)
            | (refine Br_bne (fun h => ?_) (fun h => ?_))
            | (refine Br_true (decide_eq_true (by omega)) ?_)
            | (refine Br_false (decide_eq_false (by omega)) ?_)
            | (refine Br_dec (fun h => ?_) (fun h => ?_))
            | (refine Br_not ?_)
            | (refine Len_in (fun hlen => ?_))
            | (refine Br_split (fun h => ?_) (fun h => ?_))
            | (refine fin0 rfl ?_)
            | (refine ArK_in (wrap_i64 (by omega) (by omega)) ?_)
            | (refine force_in ?_)))
            all_goals rfl
      · have e : (rr).takeWhile digitB = (rr).take j := by rw [htw, List.drop_eq_nil_of_le (Nat.le_of_not_lt hjl)]; simp
        rw [fin e]
        refine Br_false (decide_eq_false (by rw [es]; exact hjl)) ?_
        cases is
        · repeat' ((conv => whnf); (first
          | (refine Br_true (by assumption) ?_)
          | (refine Br_false (by assumption) ?_)
          | (refine Br_true (beqT (by omega)) ?_)
          | (refine Br_false (beqF (by omega)) ?_)
          | (refine Br_beq (fun h => ?_) (fun h => ?_))
          | (refine Br_true (bneT (by omega)) ?_)
          | (refine Br_false (bneF (by omega)) ?_)
          | (refine Br_bne (fun h => ?_) (fun h => ?_))
          | (refine Br_true (decide_eq_true (by omega)) ?_)
          | (refine Br_false (decide_eq_false (by omega)) ?_)
          | (refine Br_dec (fun h => ?_) (fun h => ?_))
          | (refine Br_not ?_)
          | (refine Len_in (fun hlen => ?_))
          | (refine Br_split (fun h => ?_) (fun h => ?_))
          | (refine fin0 rfl ?_)
          | (refine ArK_in (wrap_i64 (by omega) (by omega)) ?_)
          | (refine force_in ?_)))
          all_goals rfl
        · repeat' ((conv => whnf); (first
          | (refine Br_true (by assumption) ?_)
          | (refine Br_false (by assumption) ?_)
          | (refine Br_true (beqT (by omega)) ?_)
          | (refine Br_false (beqF (by omega)) ?_)
          | (refine Br_beq (fun h => ?_) (fun h => ?_))
          | (refine Br_true (bneT (by omega)) ?_)
          | (refine Br_false (bneF (by omega)) ?_)
          | (refine Br_bne (fun h => ?_) (fun h => ?_))
          | (refine Br_true (decide_eq_true (by omega)) ?_)
          | (refine Br_false (decide_eq_false (by omega)) ?_)
          | (refine Br_dec (fun h => ?_) (fun h => ?_))
          | (refine Br_not ?_)
          | (refine Len_in (fun hlen => ?_))
          | (refine Br_split (fun h => ?_) (fun h => ?_))
          | (refine fin0 rfl ?_)
          | (refine ArK_in (wrap_i64 (by omega) (by omega)) ?_)
          | (refine force_in ?_)))
          all_goals rfl
end Go.Eng
set_option linter.unusedVariables false
set_option linter.unusedSimpArgs false
namespace Go.Eng
open Go
theorem Tri.peek {P : Program} {f : FuncId} {args0 : List AV} {r : AV} (h : Fn P f args0 r) (hp : plain r = true) (F : List Nat) {args : List AV} {H : Heap} {K : AV → Heap → Prop} (hl : args.length = args0.length)
    (hv : ∀ (i : Nat) (x y : AV), args[i]? = some x → args0[i]? = some y → FV [] F H x y) (hK : K r H) : Tri P f args H K := by
  (unfold Fn at *; simp only [Tri_eq] at *)
  refine ⟨h.1, fun p σ w vs hH hs hvs => ?_⟩
  let p' : PQ := ⟨(pfz p σ H F).r, fun b => b < w.heap.size, fun _ => False, fun b hb => by
      rcases hb with hb | ⟨⟨i, cs, h1, h2, h3⟩, h4⟩
      · exact hH.lt b (p.sub b hb)
      · obtain ⟨r', g1, g2, g3, _⟩ := hH.blk i _ h2
        rw [h3] at g1
        injection g1 with g1
        rw [g1]; exact g3, fun b hb => hb.elim, fun b hb => hb.elim⟩
  have hH0 : HRel p' [] [] w := ⟨rfl, fun b hb => hb, fun i k hk => by simp at hk, fun i j r k l hk => by simp at hk⟩
  have hvs' : ∀ (i : Nat) (x : AV) (v : Value), args0[i]? = some x → vs[i]? = some v → VRel p' [] w x v := fun i y v hy hv' => by
    have hi : i < args.length := by rw [hl]; exact (List.getElem?_eq_some_iff.1 hy).1
    have hx : args[i]? = some args[i] := List.getElem?_eq_getElem hi
    have h1 := hvs i _ v hx hv'
    have h2 := VRel.fz hH (g := []) (σ' := []) (fun i j h => by simp at h) (hv i _ y hx hy) v h1
    exact VRel.mono' (p := pfz p σ H F) (p' := p') (σ := []) (σ' := []) (w := w) (w' := w) (fun b hb => hb) (fun _ _ => rfl) (.refl w) (fun _ _ h => h) h2
  refine (h.2 p' [] w vs hH0 (hs.trans hl) hvs').mono ?_
  rintro e w' ⟨v, x, p1, σ1, H1, a, b, c, d, e', rfl, g'⟩
  have hsame : ∀ b, b < w.heap.size → w'.heap[b]? = w.heap[b]? := fun q hq => b.same q hq (fun h => h)
  have hE : Ext p w p w' := .mk1 (fun q hq => hsame q (hH.lt q hq)) b.shape
  refine ⟨v, x, p, σ, H, a, hE, fun _ _ h => h, hH.keep hE ⟨rfl, fun q hq => hsame q (hH.lt q (p.fu q hq))⟩ (fun q hq => Nat.lt_of_lt_of_le (hH.lt q hq) b.shape.1) (fun i k r hk hr => ?_), e'.ofPlain hp, hK⟩
  obtain ⟨r', g1, g2, g3, _⟩ := hH.blk i k hk
  rw [hr] at g1
  injection g1 with g1
  subst g1
  exact ⟨g2, hsame r g3⟩
theorem Nil_in {rows : List (List D)} {K : Bool → Prop} (h : ∀ b : Bool, (rows ≠ [] → b = false) → K b) : NilK rows K := by simp only [NilK_eq]; exact h
theorem App_esl {ei : TI} {H : Heap} {x : AV} {B : Prop} {K : AV → Heap → Prop} (new : List (List D)) (hx : newLen x = some new.length) (hc : newCells H ei.size x = some (new.flatten.map .d))
    (hn : new ≠ []) (hrn : ∀ r ∈ new, r.length = ei.size) (hlim : new.length ≤ 1000000) (hby : ei.bytes ≤ 1000)
    (hK : K (.msl H.length 0 new.length new.length ei.size) (H ++ [some (.row (new.flatten.map .d))])) : ChK (appK ei H .esl x K) B := by
  have hlb : new.length ≤ LB := by unfold LB; omega
  have hB : (new.length + 200) * ei.bytes ≤ 2 ^ 46 := Nat.le_trans (Nat.mul_le_mul (by omega : new.length + 200 ≤ 1000200) hby) (by decide)
  have h0 : 0 < new.length := List.length_pos_iff.2 hn
  have hfn : (new.flatten.map AV.d).length = new.length * ei.size := by rw [List.length_map]; exact flatten_len new hrn
  refine Ch_l ?_
  unfold appK
  rw [hx]
  simp only
  rw [hc]
  simp only
  obtain ⟨m, hm⟩ : ∃ m, new.length = m + 1 := ⟨new.length - 1, by omega⟩
  generalize new.length = q at *
  subst hm
  simp only
  simp only [NeedK_eq]
  rw [pushK_eq]
  exact ⟨⟨h0, hB, hlb, hfn⟩, hK⟩
end Go.Eng
set_option maxRecDepth 100000
set_option linter.unusedVariables false
namespace Go.Eng
open Go Go.Proofs
theorem clone_ints (l : List Int) (hl : l.length ≤ 1000) : Fn Tryd.prog 51 [.d (ints l)] (.d (ints l)) := by
  refine Fn_of tt_ok Tryd.func51 rfl (by decide) Tryd.ntmps51 rfl ?_
  have e : (List.map intCs l).length = l.length := by simp
  refine Nil_in fun b hb => ?_
  cases b
  · repeat' ((conv => whnf); (first
    | (refine Br_true (by assumption) ?_)
    | (refine Br_false (by assumption) ?_)
    | (refine Br_true (beqT (by omega)) ?_)
    | (refine Br_false (beqF (by omega)) ?_)
    | (refine Br_beq (fun h => ?_) (fun h => ?_))
    | (refine Br_true (bneT (by omega)) ?_)
    | (refine Br_false (bneF (by omega)) ?_)
    | (refine Br_bne (fun h => ?_) (fun h => ?_))
    | (refine Br_true (decide_eq_true (by omega)) ?_)
    | (refine Br_false (decide_eq_false (by omega)) ?_)
    | (refine Br_dec (fun h => ?_) (fun h => ?_))
    | (refine Br_not ?_)
    | (refine Len_in (fun hlen => ?_))
    | (refine Br_split (fun h => ?_) (fun h => ?_))
    | (refine fin0 rfl ?_)
    | (refine ArK_in (wrap_i64 (by omega) (by omega)) ?_)
    | (refine force_in ?_)))
    refine Ch_r ?_
    repeat' ((conv => whnf); (first
      | (refine Br_true (by assumption) ?_)
      | (refine Br_false (by assumption) ?_)
      | (refine Br_true (beqT (by omega)) ?_)
      | (refine Br_false (beqF (by omega)) ?_)
      | (refine Br_beq (fun h => ?_) (fun h => ?_))
      | (refine Br_true (bneT (by omega)) ?_)
      | (refine Br_false (bneF (by omega)) ?_)
      | (refine Br_bne (fun h => ?_) (fun h => ?_))
      | (refine Br_true (decide_eq_true (by omega)) ?_)
      | (refine Br_false (decide_eq_false (by omega)) ?_)
      | (refine Br_dec (fun h => ?_) (fun h => ?_))
      | (refine Br_not ?_)
      | (refine Len_in (fun hlen => ?_))
      | (refine Br_split (fun h => ?_) (fun h => ?_))
      | (refine fin0 rfl ?_)
      | (refine ArK_in (wrap_i64 (by omega) (by omega)) ?_)
      | (refine force_in ?_)))
    refine Ch_r (Need_in ⟨Nat.le_trans (Nat.mul_le_mul_right _ (by omega : _ ≤ 1200)) (Nat.le_of_ble_eq_true rfl), by unfold LB; omega, cs1⟩ ?_)
    repeat' ((conv => whnf); (first
      | (refine Br_true (by assumption) ?_)
      | (refine Br_false (by assumption) ?_)
      | (refine Br_true (beqT (by omega)) ?_)
      | (refine Br_false (beqF (by omega)) ?_)
      | (refine Br_beq (fun h => ?_) (fun h => ?_))
      | (refine Br_true (bneT (by omega)) ?_)
      | (refine Br_false (bneF (by omega)) ?_)
      | (refine Br_bne (fun h => ?_) (fun h => ?_))
      | (refine Br_true (decide_eq_true (by omega)) ?_)
      | (refine Br_false (decide_eq_false (by omega)) ?_)
      | (refine Br_dec (fun h => ?_) (fun h => ?_))
      | (refine Br_not ?_)
      | (refine Len_in (fun hlen => ?_))
      | (refine Br_split (fun h => ?_) (fun h => ?_))
      | (refine fin0 rfl ?_)
      | (refine ArK_in (wrap_i64 (by omega) (by omega)) ?_)
      | (refine force_in ?_)))
    rfl
  · have h0 : l = [] := by
      cases l with
      | nil => rfl
      | cons a r => have := hb (by simp); simp at this
    subst h0
    repeat' ((conv => whnf); (first
      | (refine Br_true (by assumption) ?_)
      | (refine Br_false (by assumption) ?_)
      | (refine Br_true (beqT (by omega)) ?_)
      | (refine Br_false (beqF (by omega)) ?_)
      | (refine Br_beq (fun h => ?_) (fun h => ?_))
      | (refine Br_true (bneT (by omega)) ?_)
      | (refine Br_false (bneF (by omega)) ?_)
      | (refine Br_bne (fun h => ?_) (fun h => ?_))
      | (refine Br_true (decide_eq_true (by omega)) ?_)
      | (refine Br_false (decide_eq_false (by omega)) ?_)
      | (refine Br_dec (fun h => ?_) (fun h => ?_))
      | (refine Br_not ?_)
      | (refine Len_in (fun hlen => ?_))
      | (refine finD (F := []) .nsl)
      | (refine Br_split (fun h => ?_) (fun h => ?_))
      | (refine fin0 rfl ?_)
      | (refine ArK_in (wrap_i64 (by omega) (by omega)) ?_)
      | (refine force_in ?_)))
theorem clone_attrs (l : List Attr) (hl : l.length ≤ 1000) : Fn Tryd.prog 52 [.d (attrsD l)] (.d (attrsD l)) := by
  refine Fn_of tt_ok Tryd.func52 rfl (by decide) Tryd.ntmps52 rfl ?_
  have e : (List.map Attr.cs l).length = l.length := by simp
  refine Nil_in fun b hb => ?_
  cases b
  · repeat' ((conv => whnf); (first
    | (refine Br_true (by assumption) ?_)
    | (refine Br_false (by assumption) ?_)
    | (refine Br_true (beqT (by omega)) ?_)
    | (refine Br_false (beqF (by omega)) ?_)
    | (refine Br_beq (fun h => ?_) (fun h => ?_))
    | (refine Br_true (bneT (by omega)) ?_)
    | (refine Br_false (bneF (by omega)) ?_)
    | (refine Br_bne (fun h => ?_) (fun h => ?_))
    | (refine Br_true (decide_eq_true (by omega)) ?_)
    | (refine Br_false (decide_eq_false (by omega)) ?_)
    | (refine Br_dec (fun h => ?_) (fun h => ?_))
    | (refine Br_not ?_)
    | (refine Len_in (fun hlen => ?_))
    | (refine Br_split (fun h => ?_) (fun h => ?_))
    | (refine fin0 rfl ?_)
    | (refine ArK_in (wrap_i64 (by omega) (by omega)) ?_)
    | (refine force_in ?_)))
    refine Ch_r ?_
    repeat' ((conv => whnf); (first
      | (refine Br_true (by assumption) ?_)
      | (refine Br_false (by assumption) ?_)
      | (refine Br_true (beqT (by omega)) ?_)
      | (refine Br_false (beqF (by omega)) ?_)
      | (refine Br_beq (fun h => ?_) (fun h => ?_))
      | (refine Br_true (bneT (by omega)) ?_)
      | (refine Br_false (bneF (by omega)) ?_)
      | (refine Br_bne (fun h => ?_) (fun h => ?_))
      | (refine Br_true (decide_eq_true (by omega)) ?_)
      | (refine Br_false (decide_eq_false (by omega)) ?_)
      | (refine Br_dec (fun h => ?_) (fun h => ?_))
      | (refine Br_not ?_)
      | (refine Len_in (fun hlen => ?_))
      | (refine Br_split (fun h => ?_) (fun h => ?_))
      | (refine fin0 rfl ?_)
      | (refine ArK_in (wrap_i64 (by omega) (by omega)) ?_)
      | (refine force_in ?_)))
    refine Ch_r (Need_in ⟨Nat.le_trans (Nat.mul_le_mul_right _ (by omega : _ ≤ 1200)) (Nat.le_of_ble_eq_true rfl), by unfold LB; omega, csl⟩ ?_)
    repeat' ((conv => whnf); (first
      | (refine Br_true (by assumption) ?_)
      | (refine Br_false (by assumption) ?_)
      | (refine Br_true (beqT (by omega)) ?_)
      | (refine Br_false (beqF (by omega)) ?_)
      | (refine Br_beq (fun h => ?_) (fun h => ?_))
      | (refine Br_true (bneT (by omega)) ?_)
      | (refine Br_false (bneF (by omega)) ?_)
      | (refine Br_bne (fun h => ?_) (fun h => ?_))
      | (refine Br_true (decide_eq_true (by omega)) ?_)
      | (refine Br_false (decide_eq_false (by omega)) ?_)
      | (refine Br_dec (fun h => ?_) (fun h => ?_))
      | (refine Br_not ?_)
      | (refine Len_in (fun hlen => ?_))
      | (refine Br_split (fun h => ?_) (fun h => ?_))
      | (refine fin0 rfl ?_)
      | (refine ArK_in (wrap_i64 (by omega) (by omega)) ?_)
      | (refine force_in ?_)))
    rfl
  · have h0 : l = [] := by
      cases l with
      | nil => rfl
      | cons a r => have := hb (by simp); simp at this
    subst h0
    repeat' ((conv => whnf); (first
      | (refine Br_true (by assumption) ?_)
      | (refine Br_false (by assumption) ?_)
      | (refine Br_true (beqT (by omega)) ?_)
      | (refine Br_false (beqF (by omega)) ?_)
      | (refine Br_beq (fun h => ?_) (fun h => ?_))
      | (refine Br_true (bneT (by omega)) ?_)
      | (refine Br_false (bneF (by omega)) ?_)
      | (refine Br_bne (fun h => ?_) (fun h => ?_))
      | (refine Br_true (decide_eq_true (by omega)) ?_)
      | (refine Br_false (decide_eq_false (by omega)) ?_)
      | (refine Br_dec (fun h => ?_) (fun h => ?_))
      | (refine Br_not ?_)
      | (refine Len_in (fun hlen => ?_))
      | (refine finD (F := []) .nsl)
      | (refine Br_split (fun h => ?_) (fun h => ?_))
      | (refine fin0 rfl ?_)
      | (refine ArK_in (wrap_i64 (by omega) (by omega)) ?_)
      | (refine force_in ?_)))
def atC (l : List Attr) (b : Nat) : AV := if l = [] then .esl else .msl b 0 l.length l.length 2
def atH (l : List Attr) : Heap := if l = [] then [] else [some (.row ((l.map Attr.cs).flatten.map .d))]
theorem clone_own (l : List Attr) (hl : l.length ≤ 1000) : Tri Tryd.prog 52 [.d (attrsD l)] [] fun v H => v = atC l 0 ∧ H = atH l := by
  refine Tri_of (m := 0) tt_ok Tryd.func52 rfl (by decide) Tryd.ntmps52 (by rfl) rfl ?_
  have e : (List.map Attr.cs l).length = l.length := by simp
  refine Nil_in fun b hb => ?_
  cases b
  · repeat' ((conv => whnf); (first
    | (refine Br_true (by assumption) ?_)
    | (refine Br_false (by assumption) ?_)
    | (refine Br_true (beqT (by omega)) ?_)
    | (refine Br_false (beqF (by omega)) ?_)
    | (refine Br_beq (fun h => ?_) (fun h => ?_))
    | (refine Br_true (bneT (by omega)) ?_)
    | (refine Br_false (bneF (by omega)) ?_)
    | (refine Br_bne (fun h => ?_) (fun h => ?_))
    | (refine Br_true (decide_eq_true (by omega)) ?_)
    | (refine Br_false (decide_eq_false (by omega)) ?_)
    | (refine Br_dec (fun h => ?_) (fun h => ?_))
    | (refine Br_not ?_)
    | (refine Len_in (fun hlen => ?_))
    | (refine Br_split (fun h => ?_) (fun h => ?_))
    | (refine fin0 rfl ?_)
    | (refine ArK_in (wrap_i64 (by omega) (by omega)) ?_)
    | (refine force_in ?_)))
    refine Ch_r ?_
    by_cases h0 : l = []
    · subst h0
      repeat' ((conv => whnf); (first
        | (refine Br_true (by assumption) ?_)
        | (refine Br_false (by assumption) ?_)
        | (refine Br_true (beqT (by omega)) ?_)
        | (refine Br_false (beqF (by omega)) ?_)
        | (refine Br_beq (fun h => ?_) (fun h => ?_))
        | (refine Br_true (bneT (by omega)) ?_)
        | (refine Br_false (bneF (by omega)) ?_)
        | (refine Br_bne (fun h => ?_) (fun h => ?_))
        | (refine Br_true (decide_eq_true (by omega)) ?_)
        | (refine Br_false (decide_eq_false (by omega)) ?_)
        | (refine Br_dec (fun h => ?_) (fun h => ?_))
        | (refine Br_not ?_)
        | (refine Len_in (fun hlen => ?_))
        | (refine Br_split (fun h => ?_) (fun h => ?_))
        | (refine fin0 rfl ?_)
        | (refine ArK_in (wrap_i64 (by omega) (by omega)) ?_)
        | (refine force_in ?_)))
      refine Ch_l ?_
      repeat' ((conv => whnf); (first
        | (refine Br_true (by assumption) ?_)
        | (refine Br_false (by assumption) ?_)
        | (refine Br_true (beqT (by omega)) ?_)
        | (refine Br_false (beqF (by omega)) ?_)
        | (refine Br_beq (fun h => ?_) (fun h => ?_))
        | (refine Br_true (bneT (by omega)) ?_)
        | (refine Br_false (bneF (by omega)) ?_)
        | (refine Br_bne (fun h => ?_) (fun h => ?_))
        | (refine Br_true (decide_eq_true (by omega)) ?_)
        | (refine Br_false (decide_eq_false (by omega)) ?_)
        | (refine Br_dec (fun h => ?_) (fun h => ?_))
        | (refine Br_not ?_)
        | (refine Len_in (fun hlen => ?_))
        | (refine Need_in rfl ?_)
        | (refine finQ ⟨rfl, rfl⟩)
        | (refine Br_split (fun h => ?_) (fun h => ?_))
        | (refine fin0 rfl ?_)
        | (refine ArK_in (wrap_i64 (by omega) (by omega)) ?_)
        | (refine force_in ?_)))
    · have hn : l.map Attr.cs ≠ [] := by simpa using h0
      repeat' ((conv => whnf); (first
        | (refine Br_true (by assumption) ?_)
        | (refine Br_false (by assumption) ?_)
        | (refine Br_true (beqT (by omega)) ?_)
        | (refine Br_false (beqF (by omega)) ?_)
        | (refine Br_beq (fun h => ?_) (fun h => ?_))
        | (refine Br_true (bneT (by omega)) ?_)
        | (refine Br_false (bneF (by omega)) ?_)
        | (refine Br_bne (fun h => ?_) (fun h => ?_))
        | (refine Br_true (decide_eq_true (by omega)) ?_)
        | (refine Br_false (decide_eq_false (by omega)) ?_)
        | (refine Br_dec (fun h => ?_) (fun h => ?_))
        | (refine Br_not ?_)
        | (refine Len_in (fun hlen => ?_))
        | (refine Br_split (fun h => ?_) (fun h => ?_))
        | (refine fin0 rfl ?_)
        | (refine ArK_in (wrap_i64 (by omega) (by omega)) ?_)
        | (refine force_in ?_)))
      refine App_esl (l.map Attr.cs) rfl rfl hn csl (by omega) (Nat.le_of_ble_eq_true rfl) ?_
      repeat' ((conv => whnf); (first
        | (refine Br_true (by assumption) ?_)
        | (refine Br_false (by assumption) ?_)
        | (refine Br_true (beqT (by omega)) ?_)
        | (refine Br_false (beqF (by omega)) ?_)
        | (refine Br_beq (fun h => ?_) (fun h => ?_))
        | (refine Br_true (bneT (by omega)) ?_)
        | (refine Br_false (bneF (by omega)) ?_)
        | (refine Br_bne (fun h => ?_) (fun h => ?_))
        | (refine Br_true (decide_eq_true (by omega)) ?_)
        | (refine Br_false (decide_eq_false (by omega)) ?_)
        | (refine Br_dec (fun h => ?_) (fun h => ?_))
        | (refine Br_not ?_)
        | (refine Len_in (fun hlen => ?_))
        | (refine finQ ⟨by unfold atC; rw [if_neg h0, ← e]; rfl, by unfold atH; rw [if_neg h0]; rfl⟩)
        | (refine Br_split (fun h => ?_) (fun h => ?_))
        | (refine fin0 rfl ?_)
        | (refine ArK_in (wrap_i64 (by omega) (by omega)) ?_)
        | (refine force_in ?_)))
  · have h0 : l = [] := by
      cases l with
      | nil => rfl
      | cons a r => have := hb (by simp); simp at this
    subst h0
    repeat' ((conv => whnf); (first
      | (refine Br_true (by assumption) ?_)
      | (refine Br_false (by assumption) ?_)
      | (refine Br_true (beqT (by omega)) ?_)
      | (refine Br_false (beqF (by omega)) ?_)
      | (refine Br_beq (fun h => ?_) (fun h => ?_))
      | (refine Br_true (bneT (by omega)) ?_)
      | (refine Br_false (bneF (by omega)) ?_)
      | (refine Br_bne (fun h => ?_) (fun h => ?_))
      | (refine Br_true (decide_eq_true (by omega)) ?_)
      | (refine Br_false (decide_eq_false (by omega)) ?_)
      | (refine Br_dec (fun h => ?_) (fun h => ?_))
      | (refine Br_not ?_)
      | (refine Len_in (fun hlen => ?_))
      | (refine finW (Fin_all (F := []) .nesl) ⟨rfl, rfl⟩)
      | (refine Br_split (fun h => ?_) (fun h => ?_))
      | (refine fin0 rfl ?_)
      | (refine ArK_in (wrap_i64 (by omega) (by omega)) ?_)
      | (refine force_in ?_)))
theorem clone_tree (t : Tree) (hne : t ≠ []) (hl : t.length ≤ 1000) : Tri Tryd.prog 50 [.d (treeD t)] [] fun v H => v = .msl 0 0 t.length t.length 7 ∧ H = [some (.row ((t.map Node.cs).flatten.map .d))] := by
  refine Tri_of (m := 0) tt_ok Tryd.func50 rfl (by decide) Tryd.ntmps50 (by rfl) rfl ?_
  have e : (List.map Node.cs t).length = t.length := by simp
  have hn : t.map Node.cs ≠ [] := by simpa using hne
  refine Nil_in fun b hb => ?_
  obtain rfl := hb hn
  repeat' ((conv => whnf); (first
    | (refine Br_true (by assumption) ?_)
    | (refine Br_false (by assumption) ?_)
    | (refine Br_true (beqT (by omega)) ?_)
    | (refine Br_false (beqF (by omega)) ?_)
    | (refine Br_beq (fun h => ?_) (fun h => ?_))
    | (refine Br_true (bneT (by omega)) ?_)
    | (refine Br_false (bneF (by omega)) ?_)
    | (refine Br_bne (fun h => ?_) (fun h => ?_))
    | (refine Br_true (decide_eq_true (by omega)) ?_)
    | (refine Br_false (decide_eq_false (by omega)) ?_)
    | (refine Br_dec (fun h => ?_) (fun h => ?_))
    | (refine Br_not ?_)
    | (refine Len_in (fun hlen => ?_))
    | (refine Br_split (fun h => ?_) (fun h => ?_))
    | (refine fin0 rfl ?_)
    | (refine ArK_in (wrap_i64 (by omega) (by omega)) ?_)
    | (refine force_in ?_)))
  refine Ch_r ?_
  repeat' ((conv => whnf); (first
    | (refine Br_true (by assumption) ?_)
    | (refine Br_false (by assumption) ?_)
    | (refine Br_true (beqT (by omega)) ?_)
    | (refine Br_false (beqF (by omega)) ?_)
    | (refine Br_beq (fun h => ?_) (fun h => ?_))
    | (refine Br_true (bneT (by omega)) ?_)
    | (refine Br_false (bneF (by omega)) ?_)
    | (refine Br_bne (fun h => ?_) (fun h => ?_))
    | (refine Br_true (decide_eq_true (by omega)) ?_)
    | (refine Br_false (decide_eq_false (by omega)) ?_)
    | (refine Br_dec (fun h => ?_) (fun h => ?_))
    | (refine Br_not ?_)
    | (refine Len_in (fun hlen => ?_))
    | (refine Br_split (fun h => ?_) (fun h => ?_))
    | (refine fin0 rfl ?_)
    | (refine ArK_in (wrap_i64 (by omega) (by omega)) ?_)
    | (refine force_in ?_)))
  refine App_esl (t.map Node.cs) rfl rfl hn cs7 (by omega) (Nat.le_of_ble_eq_true rfl) ?_
  repeat' ((conv => whnf); (first
    | (refine Br_true (by assumption) ?_)
    | (refine Br_false (by assumption) ?_)
    | (refine Br_true (beqT (by omega)) ?_)
    | (refine Br_false (beqF (by omega)) ?_)
    | (refine Br_beq (fun h => ?_) (fun h => ?_))
    | (refine Br_true (bneT (by omega)) ?_)
    | (refine Br_false (bneF (by omega)) ?_)
    | (refine Br_bne (fun h => ?_) (fun h => ?_))
    | (refine Br_true (decide_eq_true (by omega)) ?_)
    | (refine Br_false (decide_eq_false (by omega)) ?_)
    | (refine Br_dec (fun h => ?_) (fun h => ?_))
    | (refine Br_not ?_)
    | (refine Len_in (fun hlen => ?_))
    | (refine finQ ⟨by rw [← e]; rfl, rfl⟩)
    | (refine Br_split (fun h => ?_) (fun h => ?_))
    | (refine fin0 rfl ?_)
    | (refine ArK_in (wrap_i64 (by omega) (by omega)) ?_)
    | (refine force_in ?_)))
end Go.Eng
