/- What the seat's proofs lean on, part 7: the executor over abstract values, its soundness, and what the program's functions answer (Trf3, Trf4, Tel6, Bld1, Bld2, Bld3, Tel7, Trf5, Eng33, Eng34, Lwt1, Liv23). -/
import Derived.Test.YtdngkocecdikcaaDoorEng06
import Derived.Shelf.Strings.Builder1
import Derived.Lib.UnsafeStr
import Derived.Test.YtdngkocecdikcaaDoorEng05
import Derived.HandedShaped
import Derived.Shelf.Vars
import Derived.MakeChecks
set_option linter.all false
set_option linter.unusedVariables false
set_option linter.unusedSimpArgs false
set_option maxRecDepth 100000
set_option linter.unusedVariables false
set_option linter.unusedSimpArgs false
namespace Go.Eng
open Go Go.Proofs
theorem ints_sz {l : List Int} : ∀ r ∈ l.map intCs, r.length = 1 := by
  intro r hr; obtain ⟨x, _, rfl⟩ := List.mem_map.1 hr; rfl
def numsV (L : List (List UInt8)) : List Int := if numsOk L = true then L.map fun w => (rd1 w).1 else []
set_option maxHeartbeats 1000000 in
theorem ref23_numbers (W : List (List UInt8)) (fr : Nat) (hfr : fr ≤ W.length) (hl : W.length ≤ 100000) (hw : ∀ w ∈ W, w.length ≤ 100000) :
    Fn Tryd.prog 43 [.d (texts W), .i fr] (.tup [.d (ints (numsV (W.drop fr))), .b (numsOk (W.drop fr))]) := by
  refine Fn_of tt_ok Tryd.func43 rfl (by decide) Tryd.ntmps43 rfl ?_
  have hll : (W.map fun l => [str l]).length = W.length := by simp
  have hLl : (W.drop fr).length = W.length - fr := by simp
  refine W_loop (fun μ s => ∃ (j : Nat) (out : List Int), j ≤ W.length - fr ∧ μ = W.length - fr - j ∧ out = ((W.drop fr).take j).map (fun w => (rd1 w).1) ∧ numsOk ((W.drop fr).take j) = true ∧ s = ⟨[(0, .d (texts W)), (6, AccV 0 1 (out.map intCs)), (7, .i (fr + j : Nat))], 32, [AccB (out.map intCs)], 0, []⟩) (W.length - fr)
    ⟨⟨[(0, .d (texts W)), (6, .nsl), (7, .i (fr + 0 : Nat))], 32, [none], 0, []⟩, ?_, 0, [], by omega, by omega, by simp, by simp [numsOk], by simp [AccV_nil, AccB_nil]⟩ ?_
  · exact Wk.trans Wk_pad (Wk_env (by repeat (first | exact trivial | refine ⟨rfl, ?_⟩)))
  rintro μ s1 ⟨j, out, hj, rfl, hout, hok, rfl⟩
  have hol : out.length = j := by rw [hout]; simp; omega
  refine W_run tt_ok ?_
  refine Len_in (fun hlen => ?_)
  refine Br_dec (fun h => ?_) (fun h => ?_)
  · have hlt : j < (W.drop fr).length := by rw [hll] at h; rw [hLl]; omega
    have hi := texts_w (W := W) (i := fr + j) (n := ((fr + j : Nat) : Int)) (by omega) rfl
    have hwk : wAt W (fr + j) = (W.drop fr)[j] := by unfold wAt; simp [List.getD_eq_getElem?_getD, show fr + j < W.length by omega]
    rw [hwk] at hi
    have htk : (W.drop fr).take (j + 1) = (W.drop fr).take j ++ [(W.drop fr)[j]] := List.take_succ_eq_append_getElem hlt
    have hr1 := ref23_Read1 (W.drop fr)[j] (hw _ (List.mem_of_mem_drop (List.getElem_mem hlt)))
    have hok2 : numsOk ((W.drop fr).take (j + 1)) = (rd1 (W.drop fr)[j]).2 := by
      rw [htk]; unfold numsOk at hok ⊢; rw [List.all_append, hok]; simp
    have hall : numsOk (W.drop fr) = true → (rd1 (W.drop fr)[j]).2 = true := fun h => by
      unfold numsOk at h; exact List.all_eq_true.1 h _ (List.getElem_mem hlt)
    have hout2 : out ++ [(rd1 (W.drop fr)[j]).1] = ((W.drop fr).take (j + 1)).map (fun w => (rd1 w).1) := by rw [htk, List.map_append, hout]; rfl
    generalize (W.drop fr)[j] = w at *
    cases hb : (rd1 w).2
    · have hbad : numsOk (W.drop fr) = false := by
        cases hq : numsOk (W.drop fr)
        · rfl
        · rw [hall hq] at hb; simp at hb
      have hv : numsV (W.drop fr) = [] := by unfold numsV; rw [hbad]; rfl
      rw [hb] at hr1
      rw [hbad, hv]
      repeat' ((conv => whnf); (first
        | (refine Br_true (by assumption) ?_)
        | (refine Br_false (by assumption) ?_)
        | (refine Br_true (beqT (by omega)) ?_)
        | (refine Br_false (beqF (by omega)) ?_)
        | (refine Br_beq (fun h => ?_) (fun h => ?_))
        | (refine Br_true (bneT (by omega)) ?_)
        | (refine Br_false (bneF (by omega)) ?_)
        | (refine Br_bne (fun h => ?_) (fun h => ?_))
        | (refine Br_true (decide_eq_true (by omega)) ?_)
        | (refine Br_false (decide_eq_false (by omega)) ?_)
        | (refine Br_dec (fun h => ?_) (fun h => ?_))
        | (refine Br_not ?_)
        | (refine Len_in (fun hlen => ?_))
        | (refine Idx_in _ hi (by omega) rfl ?_)
        | (refine Fn.use (hr1) rfl rfl ?_)
        | (refine CallF_in (hr1) rfl rfl ?_)
        | (refine finD (F := []) (FV_tup2 .nsl (.same _ rfl)))
        | (refine Br_split (fun h => ?_) (fun h => ?_))
        | (refine fin0 rfl ?_)
        | (refine ArK_in (wrap_i64 (by omega) (by omega)) ?_)
        | (refine force_in ?_)))
    · rw [hb] at hr1 hok2
      generalize (rd1 w).1 = v at *
      have ha := Acc_app (b := 0) (sz := 1) (rows := out.map intCs) (new := [[D.i v]]) (by simp)
      repeat' ((conv => whnf); (first
        | (refine Br_true (by assumption) ?_)
        | (refine Br_false (by assumption) ?_)
        | (refine Br_true (beqT (by omega)) ?_)
        | (refine Br_false (beqF (by omega)) ?_)
        | (refine Br_beq (fun h => ?_) (fun h => ?_))
        | (refine Br_true (bneT (by omega)) ?_)
        | (refine Br_false (bneF (by omega)) ?_)
        | (refine Br_bne (fun h => ?_) (fun h => ?_))
        | (refine Br_true (decide_eq_true (by omega)) ?_)
        | (refine Br_false (decide_eq_false (by omega)) ?_)
        | (refine Br_dec (fun h => ?_) (fun h => ?_))
        | (refine Br_not ?_)
        | (refine Len_in (fun hlen => ?_))
        | (refine Idx_in _ hi (by omega) rfl ?_)
        | (refine Fn.use (hr1) rfl rfl ?_)
        | (refine CallF_in (hr1) rfl rfl ?_)
        | (refine Br_split (fun h => ?_) (fun h => ?_))
        | (refine fin0 rfl ?_)
        | (refine ArK_in (wrap_i64 (by omega) (by omega)) ?_)
        | (refine force_in ?_)))
      refine Ch_r ?_
      conv => whnf
      refine App_acc (out.map intCs) [[D.i v]] rfl rfl rfl rfl (by simp) ints_sz (by intro r hr; simp at hr; subst hr; rfl) (by simp only [List.length_map, List.length_cons, List.length_nil]; omega) (Nat.le_of_ble_eq_true rfl) ?_
      repeat' ((conv => whnf); (first
        | (refine Br_true (by assumption) ?_)
        | (refine Br_false (by assumption) ?_)
        | (refine Br_true (beqT (by omega)) ?_)
        | (refine Br_false (beqF (by omega)) ?_)
        | (refine Br_beq (fun h => ?_) (fun h => ?_))
        | (refine Br_true (bneT (by omega)) ?_)
        | (refine Br_false (bneF (by omega)) ?_)
        | (refine Br_bne (fun h => ?_) (fun h => ?_))
        | (refine Br_true (decide_eq_true (by omega)) ?_)
        | (refine Br_false (decide_eq_false (by omega)) ?_)
        | (refine Br_dec (fun h => ?_) (fun h => ?_))
        | (refine Br_not ?_)
        | (refine Len_in (fun hlen => ?_))
        | (refine Back_in ⟨[(0, .d (texts W)), (6, .msl 0 0 ((out.map intCs).length + 1) ((out.map intCs).length + 1) 1), (7, .i (fr + (j + 1) : Nat))], 32, [some (.row ((out.map intCs ++ [[D.i v]]).flatten.map .d))], 0, []⟩ _ ⟨j + 1, out ++ [v], by omega, rfl, hout2, hok2, ?_⟩ (by omega) (Wk_ren [1] rfl rfl ⟨⟨by rw [renB_row]; rfl, lowB_row _ _⟩, trivial⟩ (by repeat (first | exact trivial | refine ⟨⟨rfl, rfl⟩, ?_⟩)) (by decide) (by omega)))
        | (refine Br_split (fun h => ?_) (fun h => ?_))
        | (refine fin0 rfl ?_)
        | (refine ArK_in (wrap_i64 (by omega) (by omega)) ?_)
        | (refine force_in ?_)))
      rw [List.map_append, show List.map intCs [v] = [[D.i v]] from rfl, ha.1, ha.2]
      rfl
  · have hjl : (W.drop fr).length ≤ j := by rw [hll] at h; rw [hLl]; omega
    rw [List.take_of_length_le hjl] at hout hok
    have hv : numsV (W.drop fr) = out := by unfold numsV; rw [if_pos hok, hout]
    rw [hv, hok]
    repeat' ((conv => whnf); (first
      | (refine Br_true (by assumption) ?_)
      | (refine Br_false (by assumption) ?_)
      | (refine Br_true (beqT (by omega)) ?_)
      | (refine Br_false (beqF (by omega)) ?_)
      | (refine Br_beq (fun h => ?_) (fun h => ?_))
      | (refine Br_true (bneT (by omega)) ?_)
      | (refine Br_false (bneF (by omega)) ?_)
      | (refine Br_bne (fun h => ?_) (fun h => ?_))
      | (refine Br_true (decide_eq_true (by omega)) ?_)
      | (refine Br_false (decide_eq_false (by omega)) ?_)
      | (refine Br_dec (fun h => ?_) (fun h => ?_))
      | (refine Br_not ?_)
      | (refine Len_in (fun hlen => ?_))
      | (refine finD (F := [0]) (FV_tup2 (FV_acc _ rfl ints_sz) (.same _ rfl)))
      | (refine Br_split (fun h => ?_) (fun h => ?_))
      | (refine fin0 rfl ?_)
      | (refine ArK_in (wrap_i64 (by omega) (by omega)) ?_)
      | (refine force_in ?_)))
set_option maxHeartbeats 2000000 in
theorem ref23_row_call (w0 w1 w2 w3 w4 w5 w6 : List UInt8) (h0 : w0 = wCall) (hw : ∀ w ∈ [w0, w1, w2, w3, w4, w5, w6], w.length ≤ 100000) :
    Fn Tryd.prog 27 [.d (texts [w0, w1, w2, w3, w4, w5, w6])] (.tup [aggD (docR [w0, w1, w2, w3, w4, w5, w6]).1.cs, .b (docR [w0, w1, w2, w3, w4, w5, w6]).2]) := by
  refine Fn_of tt_ok Tryd.func27 rfl (by decide) Tryd.ntmps27 rfl ?_
  have hn := ref23_numbers [w0, w1, w2, w3, w4, w5, w6] 3 (by simp) (by simp) hw
  have hr1 := ref23_Read1 w1 (hw w1 (by simp))
  have hd : docR [w0, w1, w2, w3, w4, w5, w6] = if numsOk [w3, w4, w5, w6] = true ∧ (rd1 w1).2 = true ∧ 0 ≤ evIx w2 then (⟨0, (rd1 w1).1, evIx w2, (rd1 w3).1, (rd1 w4).1, (rd1 w5).1, (rd1 w6).1, 0⟩, true) else (zeroR, false) := by
    unfold docR
    rw [if_pos ⟨by simpa [wAt] using h0, rfl⟩]
    rfl
  rw [show [w0, w1, w2, w3, w4, w5, w6].drop 3 = [w3, w4, w5, w6] from rfl] at hn
  have hv : numsOk [w3, w4, w5, w6] = true → numsV [w3, w4, w5, w6] = [(rd1 w3).1, (rd1 w4).1, (rd1 w5).1, (rd1 w6).1] := fun h => by unfold numsV; rw [if_pos h]; rfl
  generalize docR [w0, w1, w2, w3, w4, w5, w6] = R at *
  have c0 : ((⟨w0.toArray⟩ : ByteArray).toList == (⟨wCall.toArray⟩ : ByteArray).toList) = true := by rw [str_beq]; exact decide_eq_true h0
  generalize hA : numsOk [w3, w4, w5, w6] = A at *
  generalize numsV [w3, w4, w5, w6] = N at *
  generalize hB : (rd1 w1).2 = B at *
  generalize (rd1 w1).1 = p at *
  generalize (rd1 w3).1 = v3 at *
  generalize (rd1 w4).1 = v4 at *
  generalize (rd1 w5).1 = v5 at *
  generalize (rd1 w6).1 = v6 at *
  refine Idx_in [str w0] rfl (by omega) rfl ?_
  conv => whnf
  refine Br_true c0 ?_
  clear c0
  repeat' ((conv => whnf); (first
    | (refine Br_true (by assumption) ?_)
    | (refine Br_false (by assumption) ?_)
    | (refine Br_true (beqT (by omega)) ?_)
    | (refine Br_false (beqF (by omega)) ?_)
    | (refine Br_beq (fun h => ?_) (fun h => ?_))
    | (refine Br_true (bneT (by omega)) ?_)
    | (refine Br_false (bneF (by omega)) ?_)
    | (refine Br_bne (fun h => ?_) (fun h => ?_))
    | (refine Br_true (decide_eq_true (by omega)) ?_)
    | (refine Br_false (decide_eq_false (by omega)) ?_)
    | (refine Br_dec (fun h => ?_) (fun h => ?_))
    | (refine Br_not ?_)
    | (refine Len_in (fun hlen => ?_))
    | (refine Idx_in [str w1] rfl (by omega) rfl ?_)
    | (refine Len_in (fun _ => ?_))
    | (refine Fn.use (hn) rfl rfl ?_)
    | (refine CallF_in (hn) rfl rfl ?_)
    | (refine Fn.use (hr1) rfl rfl ?_)
    | (refine CallF_in (hr1) rfl rfl ?_)
    | (refine Br_split (fun h => ?_) (fun h => ?_))
    | (refine fin0 rfl ?_)
    | (refine ArK_in (wrap_i64 (by omega) (by omega)) ?_)
    | (refine force_in ?_)))
  refine W_loop (fun μ s => ∃ (k : Nat), k ≤ 9 ∧ μ = 9 - k ∧ (∀ j : Nat, j < k → evL j ≠ w2) ∧ s = ⟨[(0, .d (texts [w0, w1, w2, w3, w4, w5, w6])), (2, .ptr 0 0), (4, .d (ints N)), (5, .b A), (6, .i p), (7, .b B), (8, .i k)], 127, [some (.row [.i 0, .i 0, .i 0, .i 0, .i 0, .i 0, .i 0, .i 0])], 0, []⟩) 9
    ⟨_, ?_, 0, by omega, by omega, fun _ h => by omega, rfl⟩ ?_
  · exact Wk_env (by repeat (first | exact trivial | refine ⟨rfl, ?_⟩))
  rintro μ s1 ⟨k, hk, rfl, hno, rfl⟩
  refine W_run tt_ok ?_
  have hz : aggD zeroR.cs = .agg [.i 0, .i 0, .i 0, .i 0, .i 0, .i 0, .i 0, .i 0] := rfl
  cases A
  · rw [if_neg (by simp)] at hd
    rw [hd]
    repeat' ((conv => whnf); (first
      | (refine Br_true (by assumption) ?_)
      | (refine Br_false (by assumption) ?_)
      | (refine Br_true (beqT (by omega)) ?_)
      | (refine Br_false (beqF (by omega)) ?_)
      | (refine Br_beq (fun h => ?_) (fun h => ?_))
      | (refine Br_true (bneT (by omega)) ?_)
      | (refine Br_false (bneF (by omega)) ?_)
      | (refine Br_bne (fun h => ?_) (fun h => ?_))
      | (refine Br_true (decide_eq_true (by omega)) ?_)
      | (refine Br_false (decide_eq_false (by omega)) ?_)
      | (refine Br_dec (fun h => ?_) (fun h => ?_))
      | (refine Br_not ?_)
      | (refine Len_in (fun hlen => ?_))
      | (refine Br_split (fun h => ?_) (fun h => ?_))
      | (refine fin0 rfl ?_)
      | (refine ArK_in (wrap_i64 (by omega) (by omega)) ?_)
      | (refine force_in ?_)))
    all_goals rfl
  cases B
  · rw [if_neg (by simp)] at hd
    rw [hd]
    repeat' ((conv => whnf); (first
      | (refine Br_true (by assumption) ?_)
      | (refine Br_false (by assumption) ?_)
      | (refine Br_true (beqT (by omega)) ?_)
      | (refine Br_false (beqF (by omega)) ?_)
      | (refine Br_beq (fun h => ?_) (fun h => ?_))
      | (refine Br_true (bneT (by omega)) ?_)
      | (refine Br_false (bneF (by omega)) ?_)
      | (refine Br_bne (fun h => ?_) (fun h => ?_))
      | (refine Br_true (decide_eq_true (by omega)) ?_)
      | (refine Br_false (decide_eq_false (by omega)) ?_)
      | (refine Br_dec (fun h => ?_) (fun h => ?_))
      | (refine Br_not ?_)
      | (refine Len_in (fun hlen => ?_))
      | (refine Br_split (fun h => ?_) (fun h => ?_))
      | (refine fin0 rfl ?_)
      | (refine ArK_in (wrap_i64 (by omega) (by omega)) ?_)
      | (refine force_in ?_)))
    all_goals rfl
  have hv := hv rfl
  subst hv
  by_cases h9 : k < 9
  · have z : decide ((k : Int) < 9) = true := decide_eq_true (by omega)
    have hev := ref23_Event (k : Int)
    have e : evV (k : Int) = evL k := by unfold evV; rw [if_pos (by omega)]; rfl
    rw [e] at hev
    have hek := (ev_more ⟨k, h9⟩).2
    simp only at hek
    have c1 := str_beq (evL k) w2
    by_cases hq : evL k = w2
    · rw [decide_eq_true hq] at c1
      rw [hq] at hek
      rw [hek, if_pos ⟨rfl, rfl, by omega⟩] at hd
      rw [hd]
      generalize evL k = ev at *
      repeat' ((conv => whnf); (first
        | (refine Br_true z ?_)
        | (refine Br_true c1 ?_)
        | (refine Br_true (by assumption) ?_)
        | (refine Br_false (by assumption) ?_)
        | (refine Br_true (beqT (by omega)) ?_)
        | (refine Br_false (beqF (by omega)) ?_)
        | (refine Br_beq (fun h => ?_) (fun h => ?_))
        | (refine Br_true (bneT (by omega)) ?_)
        | (refine Br_false (bneF (by omega)) ?_)
        | (refine Br_bne (fun h => ?_) (fun h => ?_))
        | (refine Br_true (decide_eq_true (by omega)) ?_)
        | (refine Br_false (decide_eq_false (by omega)) ?_)
        | (refine Br_dec (fun h => ?_) (fun h => ?_))
        | (refine Br_not ?_)
        | (refine Len_in (fun hlen => ?_))
        | (refine W_draw 0 tt_ok mixed (by kernel_rfl) ?_)
        | (refine Fn.use (hev) rfl rfl ?_)
        | (refine CallF_in (hev) rfl rfl ?_)
        | (refine Idx_in _ rfl (by omega) rfl ?_)
        | (refine Br_split (fun h => ?_) (fun h => ?_))
        | (refine fin0 rfl ?_)
        | (refine ArK_in (wrap_i64 (by omega) (by omega)) ?_)
        | (refine force_in ?_)))
      rfl
    · rw [decide_eq_false hq] at c1
      have hno2 : ∀ j : Nat, j < k + 1 → evL j ≠ w2 := fun j hj => by
        rcases Nat.lt_succ_iff_lt_or_eq.1 hj with h1 | h1
        · exact hno j h1
        · subst h1; exact hq
      generalize hev0 : evL k = ev at *
      repeat' ((conv => whnf); (first
        | (refine Br_true z ?_)
        | (refine Br_false c1 ?_)
        | (refine Br_true (by assumption) ?_)
        | (refine Br_false (by assumption) ?_)
        | (refine Br_true (beqT (by omega)) ?_)
        | (refine Br_false (beqF (by omega)) ?_)
        | (refine Br_beq (fun h => ?_) (fun h => ?_))
        | (refine Br_true (bneT (by omega)) ?_)
        | (refine Br_false (bneF (by omega)) ?_)
        | (refine Br_bne (fun h => ?_) (fun h => ?_))
        | (refine Br_true (decide_eq_true (by omega)) ?_)
        | (refine Br_false (decide_eq_false (by omega)) ?_)
        | (refine Br_dec (fun h => ?_) (fun h => ?_))
        | (refine Br_not ?_)
        | (refine Len_in (fun hlen => ?_))
        | (refine W_draw 0 tt_ok mixed (by kernel_rfl) ?_)
        | (refine Fn.use (hev) rfl rfl ?_)
        | (refine CallF_in (hev) rfl rfl ?_)
        | (refine Idx_in _ rfl (by omega) rfl ?_)
        | (refine Back_in _ _ ⟨k + 1, by omega, rfl, hno2, rfl⟩ (by omega) (Wk_env (by repeat (first | exact trivial | refine ⟨rfl, ?_⟩))))
        | (refine Br_split (fun h => ?_) (fun h => ?_))
        | (refine fin0 rfl ?_)
        | (refine ArK_in (wrap_i64 (by omega) (by omega)) ?_)
        | (refine force_in ?_)))
  · have z : decide ((k : Int) < 9) = false := decide_eq_false (by omega)
    have hneg : ¬ 0 ≤ evIx w2 := fun h => by
      obtain ⟨e1, e2⟩ := evIx_hit h
      exact hno _ (by omega) e2
    rw [if_neg (by simp [hneg])] at hd
    rw [hd]
    repeat' ((conv => whnf); (first
      | (refine Br_false z ?_)
      | (refine Br_true (by assumption) ?_)
      | (refine Br_false (by assumption) ?_)
      | (refine Br_true (beqT (by omega)) ?_)
      | (refine Br_false (beqF (by omega)) ?_)
      | (refine Br_beq (fun h => ?_) (fun h => ?_))
      | (refine Br_true (bneT (by omega)) ?_)
      | (refine Br_false (bneF (by omega)) ?_)
      | (refine Br_bne (fun h => ?_) (fun h => ?_))
      | (refine Br_true (decide_eq_true (by omega)) ?_)
      | (refine Br_false (decide_eq_false (by omega)) ?_)
      | (refine Br_dec (fun h => ?_) (fun h => ?_))
      | (refine Br_not ?_)
      | (refine Len_in (fun hlen => ?_))
      | (refine Br_split (fun h => ?_) (fun h => ?_))
      | (refine fin0 rfl ?_)
      | (refine ArK_in (wrap_i64 (by omega) (by omega)) ?_)
      | (refine force_in ?_)))
    rfl
end Go.Eng
set_option maxRecDepth 100000
set_option linter.unusedVariables false
set_option linter.unusedSimpArgs false
namespace Go.Eng
open Go Go.Proofs
theorem words7 {W : List (List UInt8)} (h : W.length = 7) : ∃ a b c d e f g, W = [a, b, c, d, e, f, g] := by
  match W, h with
  | [a, b, c, d, e, f, g], _ => exact ⟨a, b, c, d, e, f, g, rfl⟩
theorem words3 {W : List (List UInt8)} (h : W.length = 3) : ∃ a b c, W = [a, b, c] := by
  match W, h with
  | [a, b, c], _ => exact ⟨a, b, c, rfl⟩
theorem words5 {W : List (List UInt8)} (h : W.length = 5) : ∃ a b c d e, W = [a, b, c, d, e] := by
  match W, h with
  | [a, b, c, d, e], _ => exact ⟨a, b, c, d, e, rfl⟩
set_option maxHeartbeats 4000000 in
theorem ref23_row (W : List (List UInt8)) (hne : W ≠ []) (hl : W.length ≤ 100000) (hw : ∀ w ∈ W, w.length ≤ 100000) :
    Fn Tryd.prog 27 [.d (texts W)] (.tup [aggD (docR W).1.cs, .b (docR W).2]) := by
  by_cases h7 : wAt W 0 = wCall ∧ W.length = 7
  · obtain ⟨h0, h7⟩ := h7
    obtain ⟨a, b, c, d, e, f, g, rfl⟩ := words7 h7
    exact ref23_row_call a b c d e f g (by simpa [wAt] using h0) hw
  refine Fn_of tt_ok Tryd.func27 rfl (by decide) Tryd.ntmps27 rfl ?_
  have hl0 : 0 < W.length := List.length_pos_iff.2 hne
  have h0 := texts_w (W := W) (n := 0) hl0 rfl
  have hn := ref23_numbers W 1 (by omega) hl hw
  have hll : (W.map fun l => [str l]).length = W.length := by simp
  have hd : docR W = if numsOk (W.drop 1) = true then
    if wAt W 0 = wStep ∧ W.length = 3 then (⟨1, nAt W 1, 0, 0, 0, 0, 0, nAt W 2⟩, true)
    else if wAt W 0 = wDone ∧ W.length = 3 then (⟨2, nAt W 1, 0, 0, 0, 0, 0, nAt W 2⟩, true)
    else if wAt W 0 = wResult ∧ W.length = 5 then (⟨3, 0, nAt W 1, nAt W 2, nAt W 3, 0, 0, nAt W 4⟩, true)
    else (zeroR, false)
  else (zeroR, false) := by unfold docR; rw [if_neg h7]
  have hvl : numsOk (W.drop 1) = true → (((numsV (W.drop 1)).map intCs).length : Int) = W.length - 1 := fun h => by
    unfold numsV; rw [if_pos h]; simp; omega
  have hv3 : W.length = 3 → numsOk (W.drop 1) = true → numsV (W.drop 1) = [nAt W 1, nAt W 2] := fun h3 h => by
    obtain ⟨a, b, c, rfl⟩ := words3 h3
    unfold numsV; rw [if_pos h]; rfl
  have hv5 : W.length = 5 → numsOk (W.drop 1) = true → numsV (W.drop 1) = [nAt W 1, nAt W 2, nAt W 3, nAt W 4] := fun h3 h => by
    obtain ⟨a, b, c, d, e, rfl⟩ := words5 h3
    unfold numsV; rw [if_pos h]; rfl
  have c1 := str_beq (wAt W 0) wCall
  have c2 := str_beq (wAt W 0) wStep
  have c3 := str_beq (wAt W 0) wDone
  have c4 := str_beq (wAt W 0) wResult
  generalize docR W = R at *
  generalize hA : numsOk (W.drop 1) = A at *
  generalize numsV (W.drop 1) = N at *
  have hz : aggD zeroR.cs = .agg [.i 0, .i 0, .i 0, .i 0, .i 0, .i 0, .i 0, .i 0] := rfl
  obtain ⟨n1, n2, n3, n4, n5, n6⟩ := w_ne
  refine Idx_in _ h0 (by omega) rfl ?_
  conv => whnf
  have first : ∀ (X Y : Prop), (wAt W 0 = wCall → ¬ W.length = 7 → X) → (¬ wAt W 0 = wCall → Y) → Br ((⟨(wAt W 0).toArray⟩ : ByteArray).toList == (⟨wCall.toArray⟩ : ByteArray).toList) X Y := fun X Y hx hy => by
    by_cases e1 : wAt W 0 = wCall
    · rw [decide_eq_true e1] at c1
      exact Br_true c1 (hx e1 fun e => h7 ⟨e1, e⟩)
    · rw [decide_eq_false e1] at c1
      exact Br_false c1 (hy e1)
  clear c1
  cases hAA : A
  · subst hAA
    rw [if_neg (by simp)] at hd
    rw [hd]
    clear c2 c3 c4 hvl hv3 hv5
    refine first _ _ (fun e1 e7 => ?_) (fun e1 => ?_)
    · have z7 : (((W.map fun l => [str l]).length : Int) == 7) = false := by rw [hll]; simp; omega
      repeat' ((conv => whnf); (first
        | (refine Br_false z7 ?_)
        | (refine Br_true (by assumption) ?_)
        | (refine Br_false (by assumption) ?_)
        | (refine Br_true (beqT (by omega)) ?_)
        | (refine Br_false (beqF (by omega)) ?_)
        | (refine Br_beq (fun h => ?_) (fun h => ?_))
        | (refine Br_true (bneT (by omega)) ?_)
        | (refine Br_false (bneF (by omega)) ?_)
        | (refine Br_bne (fun h => ?_) (fun h => ?_))
        | (refine Br_true (decide_eq_true (by omega)) ?_)
        | (refine Br_false (decide_eq_false (by omega)) ?_)
        | (refine Br_dec (fun h => ?_) (fun h => ?_))
        | (refine Br_not ?_)
        | (refine Len_in (fun hlen => ?_))
        | (refine Len_in (fun _ => ?_))
        | (refine Fn.use (hn) rfl rfl ?_)
        | (refine CallF_in (hn) rfl rfl ?_)
        | (refine Br_split (fun h => ?_) (fun h => ?_))
        | (refine fin0 rfl ?_)
        | (refine ArK_in (wrap_i64 (by omega) (by omega)) ?_)
        | (refine force_in ?_)))
      rfl
    · repeat' ((conv => whnf); (first
      | (refine Br_true (by assumption) ?_)
      | (refine Br_false (by assumption) ?_)
      | (refine Br_true (beqT (by omega)) ?_)
      | (refine Br_false (beqF (by omega)) ?_)
      | (refine Br_beq (fun h => ?_) (fun h => ?_))
      | (refine Br_true (bneT (by omega)) ?_)
      | (refine Br_false (bneF (by omega)) ?_)
      | (refine Br_bne (fun h => ?_) (fun h => ?_))
      | (refine Br_true (decide_eq_true (by omega)) ?_)
      | (refine Br_false (decide_eq_false (by omega)) ?_)
      | (refine Br_dec (fun h => ?_) (fun h => ?_))
      | (refine Br_not ?_)
      | (refine Len_in (fun hlen => ?_))
      | (refine Fn.use (hn) rfl rfl ?_)
      | (refine CallF_in (hn) rfl rfl ?_)
      | (refine Br_split (fun h => ?_) (fun h => ?_))
      | (refine fin0 rfl ?_)
      | (refine ArK_in (wrap_i64 (by omega) (by omega)) ?_)
      | (refine force_in ?_)))
      rfl
  subst hAA
  have hvl := hvl rfl
  rw [if_pos rfl] at hd
  by_cases e2 : wAt W 0 = wStep
  · rw [decide_eq_true e2] at c2
    have e1 : ¬ wAt W 0 = wCall := by rw [e2]; exact n1
    have e3 : ¬ wAt W 0 = wDone := by rw [e2]; exact Ne.symm n3
    have e4 : ¬ wAt W 0 = wResult := by rw [e2]; exact Ne.symm n5
    rw [decide_eq_false e3] at c3
    rw [decide_eq_false e4] at c4
    by_cases h3 : W.length = 3
    · have hv := hv3 h3 rfl
      subst hv
      rw [if_pos ⟨e2, h3⟩] at hd
      rw [hd]
      generalize nAt W 1 = m1 at *
      generalize nAt W 2 = m2 at *
      clear c3 c4 hv3 hv5
      refine first _ _ (fun e _ => absurd e e1) (fun _ => ?_)
      clear first
      repeat' ((conv => whnf); (first
        | (refine Br_true c2 ?_)
        | (refine Br_true (by assumption) ?_)
        | (refine Br_false (by assumption) ?_)
        | (refine Br_true (beqT (by omega)) ?_)
        | (refine Br_false (beqF (by omega)) ?_)
        | (refine Br_beq (fun h => ?_) (fun h => ?_))
        | (refine Br_true (bneT (by omega)) ?_)
        | (refine Br_false (bneF (by omega)) ?_)
        | (refine Br_bne (fun h => ?_) (fun h => ?_))
        | (refine Br_true (decide_eq_true (by omega)) ?_)
        | (refine Br_false (decide_eq_false (by omega)) ?_)
        | (refine Br_dec (fun h => ?_) (fun h => ?_))
        | (refine Br_not ?_)
        | (refine Len_in (fun hlen => ?_))
        | (refine Idx_in _ h0 (by omega) rfl ?_)
        | (refine Len_in (fun _ => ?_))
        | (refine W_draw 0 tt_ok mixed (by kernel_rfl) ?_)
        | (refine Fn.use (hn) rfl rfl ?_)
        | (refine CallF_in (hn) rfl rfl ?_)
        | (refine Idx_in _ rfl (by omega) rfl ?_)
        | (refine Br_split (fun h => ?_) (fun h => ?_))
        | (refine fin0 rfl ?_)
        | (refine ArK_in (wrap_i64 (by omega) (by omega)) ?_)
        | (refine force_in ?_)))
      rfl
    · have z : ((((N.map intCs).length : Nat) : Int) == 2) = false := by rw [hvl]; simp; omega
      rw [if_neg (by simp [h3]), if_neg (by simp [h3]), if_neg (by simp [e4])] at hd
      rw [hd]
      clear hv3 hv5
      refine first _ _ (fun e _ => absurd e e1) (fun _ => ?_)
      clear first
      repeat' ((conv => whnf); (first
        | (refine Br_false z ?_)
        | (refine Br_true c2 ?_)
        | (refine Br_false c3 ?_)
        | (refine Br_false c4 ?_)
        | (refine Br_true (by assumption) ?_)
        | (refine Br_false (by assumption) ?_)
        | (refine Br_true (beqT (by omega)) ?_)
        | (refine Br_false (beqF (by omega)) ?_)
        | (refine Br_beq (fun h => ?_) (fun h => ?_))
        | (refine Br_true (bneT (by omega)) ?_)
        | (refine Br_false (bneF (by omega)) ?_)
        | (refine Br_bne (fun h => ?_) (fun h => ?_))
        | (refine Br_true (decide_eq_true (by omega)) ?_)
        | (refine Br_false (decide_eq_false (by omega)) ?_)
        | (refine Br_dec (fun h => ?_) (fun h => ?_))
        | (refine Br_not ?_)
        | (refine Len_in (fun hlen => ?_))
        | (refine Idx_in _ h0 (by omega) rfl ?_)
        | (refine Len_in (fun _ => ?_))
        | (refine W_draw 0 tt_ok mixed (by kernel_rfl) ?_)
        | (refine Fn.use (hn) rfl rfl ?_)
        | (refine CallF_in (hn) rfl rfl ?_)
        | (refine Br_split (fun h => ?_) (fun h => ?_))
        | (refine fin0 rfl ?_)
        | (refine ArK_in (wrap_i64 (by omega) (by omega)) ?_)
        | (refine force_in ?_)))
      rfl
  rw [decide_eq_false e2] at c2
  by_cases e3 : wAt W 0 = wDone
  · rw [decide_eq_true e3] at c3
    have e1 : ¬ wAt W 0 = wCall := by rw [e3]; exact n2
    have e4 : ¬ wAt W 0 = wResult := by rw [e3]; exact Ne.symm n6
    rw [decide_eq_false e4] at c4
    by_cases h3 : W.length = 3
    · have hv := hv3 h3 rfl
      subst hv
      rw [if_neg (by simp [e2]), if_pos ⟨e3, h3⟩] at hd
      rw [hd]
      generalize nAt W 1 = m1 at *
      generalize nAt W 2 = m2 at *
      clear c4 hv3 hv5
      refine first _ _ (fun e _ => absurd e e1) (fun _ => ?_)
      clear first
      repeat' ((conv => whnf); (first
        | (refine Br_false c2 ?_)
        | (refine Br_true c3 ?_)
        | (refine Br_true (by assumption) ?_)
        | (refine Br_false (by assumption) ?_)
        | (refine Br_true (beqT (by omega)) ?_)
        | (refine Br_false (beqF (by omega)) ?_)
        | (refine Br_beq (fun h => ?_) (fun h => ?_))
        | (refine Br_true (bneT (by omega)) ?_)
        | (refine Br_false (bneF (by omega)) ?_)
        | (refine Br_bne (fun h => ?_) (fun h => ?_))
        | (refine Br_true (decide_eq_true (by omega)) ?_)
        | (refine Br_false (decide_eq_false (by omega)) ?_)
        | (refine Br_dec (fun h => ?_) (fun h => ?_))
        | (refine Br_not ?_)
        | (refine Len_in (fun hlen => ?_))
        | (refine Idx_in _ h0 (by omega) rfl ?_)
        | (refine Len_in (fun _ => ?_))
        | (refine W_draw 0 tt_ok mixed (by kernel_rfl) ?_)
        | (refine Fn.use (hn) rfl rfl ?_)
        | (refine CallF_in (hn) rfl rfl ?_)
        | (refine Idx_in _ rfl (by omega) rfl ?_)
        | (refine Br_split (fun h => ?_) (fun h => ?_))
        | (refine fin0 rfl ?_)
        | (refine ArK_in (wrap_i64 (by omega) (by omega)) ?_)
        | (refine force_in ?_)))
      rfl
    · have z : ((((N.map intCs).length : Nat) : Int) == 2) = false := by rw [hvl]; simp; omega
      rw [if_neg (by simp [e2]), if_neg (by simp [h3]), if_neg (by simp [e4])] at hd
      rw [hd]
      clear hv3 hv5
      refine first _ _ (fun e _ => absurd e e1) (fun _ => ?_)
      clear first
      repeat' ((conv => whnf); (first
        | (refine Br_false z ?_)
        | (refine Br_false c2 ?_)
        | (refine Br_true c3 ?_)
        | (refine Br_false c4 ?_)
        | (refine Br_true (by assumption) ?_)
        | (refine Br_false (by assumption) ?_)
        | (refine Br_true (beqT (by omega)) ?_)
        | (refine Br_false (beqF (by omega)) ?_)
        | (refine Br_beq (fun h => ?_) (fun h => ?_))
        | (refine Br_true (bneT (by omega)) ?_)
        | (refine Br_false (bneF (by omega)) ?_)
        | (refine Br_bne (fun h => ?_) (fun h => ?_))
        | (refine Br_true (decide_eq_true (by omega)) ?_)
        | (refine Br_false (decide_eq_false (by omega)) ?_)
        | (refine Br_dec (fun h => ?_) (fun h => ?_))
        | (refine Br_not ?_)
        | (refine Len_in (fun hlen => ?_))
        | (refine Idx_in _ h0 (by omega) rfl ?_)
        | (refine Len_in (fun _ => ?_))
        | (refine W_draw 0 tt_ok mixed (by kernel_rfl) ?_)
        | (refine Fn.use (hn) rfl rfl ?_)
        | (refine CallF_in (hn) rfl rfl ?_)
        | (refine Br_split (fun h => ?_) (fun h => ?_))
        | (refine fin0 rfl ?_)
        | (refine ArK_in (wrap_i64 (by omega) (by omega)) ?_)
        | (refine force_in ?_)))
      rfl
  rw [decide_eq_false e3] at c3
  by_cases e4 : wAt W 0 = wResult
  · rw [decide_eq_true e4] at c4
    have e1 : ¬ wAt W 0 = wCall := by rw [e4]; exact n4
    by_cases h3 : W.length = 5
    · have hv := hv5 h3 rfl
      subst hv
      rw [if_neg (by simp [e2]), if_neg (by simp [e3]), if_pos ⟨e4, h3⟩] at hd
      rw [hd]
      generalize nAt W 1 = m1 at *
      generalize nAt W 2 = m2 at *
      generalize nAt W 3 = m3 at *
      generalize nAt W 4 = m4 at *
      clear hv3 hv5
      refine first _ _ (fun e _ => absurd e e1) (fun _ => ?_)
      clear first
      repeat' ((conv => whnf); (first
        | (refine Br_false c2 ?_)
        | (refine Br_false c3 ?_)
        | (refine Br_true c4 ?_)
        | (refine Br_true (by assumption) ?_)
        | (refine Br_false (by assumption) ?_)
        | (refine Br_true (beqT (by omega)) ?_)
        | (refine Br_false (beqF (by omega)) ?_)
        | (refine Br_beq (fun h => ?_) (fun h => ?_))
        | (refine Br_true (bneT (by omega)) ?_)
        | (refine Br_false (bneF (by omega)) ?_)
        | (refine Br_bne (fun h => ?_) (fun h => ?_))
        | (refine Br_true (decide_eq_true (by omega)) ?_)
        | (refine Br_false (decide_eq_false (by omega)) ?_)
        | (refine Br_dec (fun h => ?_) (fun h => ?_))
        | (refine Br_not ?_)
        | (refine Len_in (fun hlen => ?_))
        | (refine Idx_in _ h0 (by omega) rfl ?_)
        | (refine Len_in (fun _ => ?_))
        | (refine W_draw 0 tt_ok mixed (by kernel_rfl) ?_)
        | (refine Fn.use (hn) rfl rfl ?_)
        | (refine CallF_in (hn) rfl rfl ?_)
        | (refine Idx_in _ rfl (by omega) rfl ?_)
        | (refine Br_split (fun h => ?_) (fun h => ?_))
        | (refine fin0 rfl ?_)
        | (refine ArK_in (wrap_i64 (by omega) (by omega)) ?_)
        | (refine force_in ?_)))
      rfl
    · have z : ((((N.map intCs).length : Nat) : Int) == 4) = false := by rw [hvl]; simp; omega
      rw [if_neg (by simp [e2]), if_neg (by simp [e3]), if_neg (by simp [h3])] at hd
      rw [hd]
      clear hv3 hv5
      refine first _ _ (fun e _ => absurd e e1) (fun _ => ?_)
      clear first
      repeat' ((conv => whnf); (first
        | (refine Br_false z ?_)
        | (refine Br_false c2 ?_)
        | (refine Br_false c3 ?_)
        | (refine Br_true c4 ?_)
        | (refine Br_true (by assumption) ?_)
        | (refine Br_false (by assumption) ?_)
        | (refine Br_true (beqT (by omega)) ?_)
        | (refine Br_false (beqF (by omega)) ?_)
        | (refine Br_beq (fun h => ?_) (fun h => ?_))
        | (refine Br_true (bneT (by omega)) ?_)
        | (refine Br_false (bneF (by omega)) ?_)
        | (refine Br_bne (fun h => ?_) (fun h => ?_))
        | (refine Br_true (decide_eq_true (by omega)) ?_)
        | (refine Br_false (decide_eq_false (by omega)) ?_)
        | (refine Br_dec (fun h => ?_) (fun h => ?_))
        | (refine Br_not ?_)
        | (refine Len_in (fun hlen => ?_))
        | (refine Idx_in _ h0 (by omega) rfl ?_)
        | (refine Len_in (fun _ => ?_))
        | (refine W_draw 0 tt_ok mixed (by kernel_rfl) ?_)
        | (refine Fn.use (hn) rfl rfl ?_)
        | (refine CallF_in (hn) rfl rfl ?_)
        | (refine Br_split (fun h => ?_) (fun h => ?_))
        | (refine fin0 rfl ?_)
        | (refine ArK_in (wrap_i64 (by omega) (by omega)) ?_)
        | (refine force_in ?_)))
      rfl
  rw [decide_eq_false e4] at c4
  rw [if_neg (by simp [e2]), if_neg (by simp [e3]), if_neg (by simp [e4])] at hd
  rw [hd]
  clear hv3 hv5
  refine first _ _ (fun e1 e7 => ?_) (fun e1 => ?_)
  · have z7 : (((W.map fun l => [str l]).length : Int) == 7) = false := by rw [hll]; simp; omega
    clear first
    repeat' ((conv => whnf); (first
      | (refine Br_false z7 ?_)
      | (refine Br_false c2 ?_)
      | (refine Br_false c3 ?_)
      | (refine Br_false c4 ?_)
      | (refine Br_true (by assumption) ?_)
      | (refine Br_false (by assumption) ?_)
      | (refine Br_true (beqT (by omega)) ?_)
      | (refine Br_false (beqF (by omega)) ?_)
      | (refine Br_beq (fun h => ?_) (fun h => ?_))
      | (refine Br_true (bneT (by omega)) ?_)
      | (refine Br_false (bneF (by omega)) ?_)
      | (refine Br_bne (fun h => ?_) (fun h => ?_))
      | (refine Br_true (decide_eq_true (by omega)) ?_)
      | (refine Br_false (decide_eq_false (by omega)) ?_)
      | (refine Br_dec (fun h => ?_) (fun h => ?_))
      | (refine Br_not ?_)
      | (refine Len_in (fun hlen => ?_))
      | (refine Idx_in _ h0 (by omega) rfl ?_)
      | (refine Len_in (fun _ => ?_))
      | (refine Fn.use (hn) rfl rfl ?_)
      | (refine CallF_in (hn) rfl rfl ?_)
      | (refine Br_split (fun h => ?_) (fun h => ?_))
      | (refine fin0 rfl ?_)
      | (refine ArK_in (wrap_i64 (by omega) (by omega)) ?_)
      | (refine force_in ?_)))
    rfl
  · clear first
    repeat' ((conv => whnf); (first
      | (refine Br_false c2 ?_)
      | (refine Br_false c3 ?_)
      | (refine Br_false c4 ?_)
      | (refine Br_true (by assumption) ?_)
      | (refine Br_false (by assumption) ?_)
      | (refine Br_true (beqT (by omega)) ?_)
      | (refine Br_false (beqF (by omega)) ?_)
      | (refine Br_beq (fun h => ?_) (fun h => ?_))
      | (refine Br_true (bneT (by omega)) ?_)
      | (refine Br_false (bneF (by omega)) ?_)
      | (refine Br_bne (fun h => ?_) (fun h => ?_))
      | (refine Br_true (decide_eq_true (by omega)) ?_)
      | (refine Br_false (decide_eq_false (by omega)) ?_)
      | (refine Br_dec (fun h => ?_) (fun h => ?_))
      | (refine Br_not ?_)
      | (refine Len_in (fun hlen => ?_))
      | (refine Idx_in _ h0 (by omega) rfl ?_)
      | (refine Len_in (fun _ => ?_))
      | (refine Fn.use (hn) rfl rfl ?_)
      | (refine CallF_in (hn) rfl rfl ?_)
      | (refine Br_split (fun h => ?_) (fun h => ?_))
      | (refine fin0 rfl ?_)
      | (refine ArK_in (wrap_i64 (by omega) (by omega)) ?_)
      | (refine force_in ?_)))
    rfl
theorem ref23_Read (s : List UInt8) (hs : s.length ≤ 1000) : Fn Tryd.prog 11 [.d (str s)] (.tup [aggD (docV s).1.cs, .i (docV s).2]) := by
  refine Fn_of tt_ok Tryd.func11 rfl (by decide) Tryd.ntmps11 rfl ?_
  have hsp := ref20_Split s 32 (by omega)
  have hsl := split_len 32 s
  have hsm := split_mem_len 32 s
  have hrow := ref23_row (splitL 32 s) (splitL_ne 32 s) (by omega) (fun w hw => by have := hsm w hw; omega)
  have hd : docV s = if (docR (splitL 32 s)).2 = true then ((docR (splitL 32 s)).1, 0) else (zeroR, 13) := by unfold docV; rfl
  generalize docV s = R at *
  generalize splitL 32 s = W at *
  cases hb : (docR W).2 <;> rw [hb] at hrow hd
  · rw [if_neg (by simp)] at hd
    rw [hd]
    repeat' ((conv => whnf); (first
      | (refine Br_true (by assumption) ?_)
      | (refine Br_false (by assumption) ?_)
      | (refine Br_true (beqT (by omega)) ?_)
      | (refine Br_false (beqF (by omega)) ?_)
      | (refine Br_beq (fun h => ?_) (fun h => ?_))
      | (refine Br_true (bneT (by omega)) ?_)
      | (refine Br_false (bneF (by omega)) ?_)
      | (refine Br_bne (fun h => ?_) (fun h => ?_))
      | (refine Br_true (decide_eq_true (by omega)) ?_)
      | (refine Br_false (decide_eq_false (by omega)) ?_)
      | (refine Br_dec (fun h => ?_) (fun h => ?_))
      | (refine Br_not ?_)
      | (refine Len_in (fun hlen => ?_))
      | (refine Fn.use (hsp) rfl rfl ?_)
      | (refine CallF_in (hsp) rfl rfl ?_)
      | (refine Fn.use (hrow) rfl rfl ?_)
      | (refine CallF_in (hrow) rfl rfl ?_)
      | (refine Br_split (fun h => ?_) (fun h => ?_))
      | (refine fin0 rfl ?_)
      | (refine ArK_in (wrap_i64 (by omega) (by omega)) ?_)
      | (refine force_in ?_)))
    rfl
  · rw [if_pos rfl] at hd
    rw [hd]
    generalize (docR W).1 = r at *
    repeat' ((conv => whnf); (first
      | (refine Br_true (by assumption) ?_)
      | (refine Br_false (by assumption) ?_)
      | (refine Br_true (beqT (by omega)) ?_)
      | (refine Br_false (beqF (by omega)) ?_)
      | (refine Br_beq (fun h => ?_) (fun h => ?_))
      | (refine Br_true (bneT (by omega)) ?_)
      | (refine Br_false (bneF (by omega)) ?_)
      | (refine Br_bne (fun h => ?_) (fun h => ?_))
      | (refine Br_true (decide_eq_true (by omega)) ?_)
      | (refine Br_false (decide_eq_false (by omega)) ?_)
      | (refine Br_dec (fun h => ?_) (fun h => ?_))
      | (refine Br_not ?_)
      | (refine Len_in (fun hlen => ?_))
      | (refine Fn.use (hsp) rfl rfl ?_)
      | (refine CallF_in (hsp) rfl rfl ?_)
      | (refine Fn.use (hrow) rfl rfl ?_)
      | (refine CallF_in (hrow) rfl rfl ?_)
      | (refine Br_split (fun h => ?_) (fun h => ?_))
      | (refine fin0 rfl ?_)
      | (refine ArK_in (wrap_i64 (by omega) (by omega)) ?_)
      | (refine force_in ?_)))
    rfl
end Go.Eng
set_option maxRecDepth 100000
set_option linter.unusedVariables false
set_option linter.unusedSimpArgs false
namespace Go.Eng
open Go Go.Proofs
structure TOut where
  number : Int
  err : Int
  focus : Int
  acts : List (Int × Int)
def actC (a : Int × Int) : List D := [.i a.1, .i a.2]
def TOut.cs (o : TOut) : List D := [.i o.number, .i o.err, .i o.focus, .sl (o.acts.map actC)]
def actW (a : Int × Int) : List UInt8 := it a.1 ++ 58 :: it a.2
def outW (o : TOut) : List (List UInt8) := joinL 32 [it o.number, it o.err, it o.focus] :: o.acts.map actW
@[irreducible] def outV (o : TOut) : List UInt8 := joinL 32 (outW o)
structure rngO (o : TOut) : Prop where
  h1 : i64B o.number
  h2 : i64B o.err
  h3 : i64B o.focus
  h4 : ∀ a ∈ o.acts, i64B a.1 ∧ i64B a.2
  h5 : o.acts.length ≤ 1000
theorem actW_len {a : Int × Int} (h : i64B a.1 ∧ i64B a.2) : (actW a).length ≤ 43 := by
  have h1 := it_len h.1
  have h2 := it_len h.2
  unfold actW
  simp only [List.length_append, List.length_cons]
  omega
theorem line3_len {a b c : Int} (ha : i64B a) (hb : i64B b) (hc : i64B c) : (joinL 32 [it a, it b, it c]).length ≤ 65 := by
  have h1 := it_len ha
  have h2 := it_len hb
  have h3 := it_len hc
  simp only [joinL, List.length_append, List.length_cons]
  omega
theorem outW_len {o : TOut} (h : rngO o) : ∀ w ∈ outW o, w.length ≤ 65 := by
  intro w hw
  unfold outW at hw
  rcases List.mem_cons.1 hw with rfl | hw
  · exact line3_len h.h1 h.h2 h.h3
  · obtain ⟨a, ha, rfl⟩ := List.mem_map.1 hw
    have := actW_len (h.h4 a ha)
    omega
theorem outV_len {o : TOut} (h : rngO o) : (outV o).length ≤ 70000 := by
  unfold outV
  have h5 := h.h5
  refine Nat.le_trans (joinL_len' 32 _ 65 (outW_len h)) (Nat.le_trans (Nat.mul_le_mul_right _ (by unfold outW; simp; omega : _ ≤ 1001)) (by omega))
set_option maxHeartbeats 2000000 in
theorem tell_Out (o : TOut) (h : rngO o) : Fn Tryd.prog 17 [aggD o.cs] (.d (str (outV o))) := by
  refine Fn_of tt_ok Tryd.func17 rfl (by decide) Tryd.ntmps17 rfl ?_
  have hi := itoa_any o.number h.h1.1 h.h1.2
  have hil := it_len h.h1
  have hli := tell_line (it o.number) [o.err, o.focus] (by omega) (by simp) (by intro n hn; simp at hn; rcases hn with rfl | rfl <;> first | exact h.h2 | exact h.h3)
  have hwl := outW_len h
  have hlen5 := h.h5
  have hol := outV_len h
  have ho : outV o = joinL 32 (outW o) := by unfold outV; rfl
  rw [ho] at hol ⊢
  have hW : outW o = joinL 32 (it o.number :: [o.err, o.focus].map it) :: o.acts.map actW := rfl
  generalize joinL 32 (it o.number :: [o.err, o.focus].map it) = w0 at *
  have hacl : (o.acts.map actC).length = o.acts.length := by simp
  refine W_draw 3 tt_ok mixed (by kernel_rfl) ?_
  conv => whnf
  refine CallF_in hi rfl rfl ?_
  conv => whnf
  refine Ch_r ?_
  conv => whnf
  refine CallF_in hli rfl rfl ?_
  conv => whnf
  refine Ch_l ?_
  conv => whnf
  refine Len_in (fun hlen => ?_)
  refine W_loop (fun μ s => ∃ (k : Nat) (ws : List (List UInt8)), k ≤ o.acts.length ∧ μ = o.acts.length - k ∧ ws = w0 :: (o.acts.take k).map actW ∧ s = ⟨[(3, AccV 1 1 (ws.map fun x => [str x])), (17, .d (.sl (o.acts.map actC))), (18, .i (o.acts.map actC).length), (19, .i k)], 37, [some (.row (o.cs.map .d)), AccB (ws.map fun x => [str x])], 0, []⟩) o.acts.length
    ⟨⟨[(3, .msl 1 0 1 1 1), (17, .d (.sl (o.acts.map actC))), (18, .i (o.acts.map actC).length), (19, .i 0)], 37, [some (.row (o.cs.map .d)), some (.row [.d (str w0)])], 0, []⟩, ?_, 0, [w0], by omega, by omega, by simp, by rw [AccV_cons (by simp), AccB_cons (by simp)]; rfl⟩ ?_
  · exact Wk_env (by repeat (first | exact trivial | refine ⟨rfl, ?_⟩))
  clear hi hli
  rintro μ s1 ⟨k, ws, hk, rfl, hws, rfl⟩
  have hwsl : ws.length = k + 1 := by rw [hws]; simp; omega
  have hsz : ∀ (v : List (List UInt8)), ∀ r ∈ v.map (fun x => [str x]), r.length = 1 := fun v r hr => by
    obtain ⟨x, _, rfl⟩ := List.mem_map.1 hr; rfl
  refine W_run tt_ok ?_
  refine Br_dec (fun h' => ?_) (fun h' => ?_)
  · have hlt : k < o.acts.length := by rw [hacl] at h'; omega
    have hidx : (o.acts.map actC)[(k : Int).toNat]? = some (actC o.acts[k]) := by simp [hlt]
    have htk : w0 :: (o.acts.take (k + 1)).map actW = ws ++ [actW o.acts[k]] := by rw [hws, List.take_succ_eq_append_getElem hlt, List.map_append]; rfl
    have hb := h.h4 _ (List.getElem_mem hlt)
    generalize o.acts[k] = a at *
    obtain ⟨ar, an⟩ := a
    have hit1 := itoa_any ar hb.1.1 hb.1.2
    have hit2 := itoa_any an hb.2.1 hb.2.2
    have hl1 : (Lib.itoa ar).length ≤ 21 := it_len hb.1
    have hl2 : (Lib.itoa an).length ≤ 21 := it_len hb.2
    have hres : (((⟨(Lib.itoa ar).toArray⟩ : ByteArray) ++ (⟨[58].toArray⟩ : ByteArray)) ++ (⟨(Lib.itoa an).toArray⟩ : ByteArray)) = ⟨(actW (ar, an)).toArray⟩ := by
      rw [str_add, str_add]; unfold actW; simp
    have hmap : (ws ++ [actW (ar, an)]).map (fun x => [str x]) = (ws.map fun x => [str x]) ++ [[D.str (((⟨(Lib.itoa ar).toArray⟩ : ByteArray) ++ (⟨[58].toArray⟩ : ByteArray)) ++ (⟨(Lib.itoa an).toArray⟩ : ByteArray))]] := by rw [hres]; simp [str]
    generalize Lib.itoa ar = x1 at *
    generalize Lib.itoa an = x2 at *
    have ha := Acc_app (b := 1) (sz := 1) (rows := ws.map fun x => [str x]) (new := [[D.str (((⟨x1.toArray⟩ : ByteArray) ++ (⟨[58].toArray⟩ : ByteArray)) ++ (⟨x2.toArray⟩ : ByteArray))]]) (by simp)
    repeat' ((conv => whnf); (first
      | (refine Br_true (by assumption) ?_)
      | (refine Br_false (by assumption) ?_)
      | (refine Br_true (beqT (by omega)) ?_)
      | (refine Br_false (beqF (by omega)) ?_)
      | (refine Br_beq (fun h => ?_) (fun h => ?_))
      | (refine Br_true (bneT (by omega)) ?_)
      | (refine Br_false (bneF (by omega)) ?_)
      | (refine Br_bne (fun h => ?_) (fun h => ?_))
      | (refine Br_true (decide_eq_true (by omega)) ?_)
      | (refine Br_false (decide_eq_false (by omega)) ?_)
      | (refine Br_dec (fun h => ?_) (fun h => ?_))
      | (refine Br_not ?_)
      | (refine Len_in (fun hlen => ?_))
      | (refine Idx_in _ hidx (by omega) rfl ?_)
      | (refine W_draw 0 tt_ok mixed (by kernel_rfl) ?_)
      | (refine Fn.use (hit1) rfl rfl ?_)
      | (refine CallF_in (hit1) rfl rfl ?_)
      | (refine Fn.use (hit2) rfl rfl ?_)
      | (refine CallF_in (hit2) rfl rfl ?_)
      | (refine Need_in (by simp only [str_add, str_size, List.length_append]; unfold LB; simp; omega) ?_)
      | (refine Br_split (fun h => ?_) (fun h => ?_))
      | (refine fin0 rfl ?_)
      | (refine ArK_in (wrap_i64 (by omega) (by omega)) ?_)
      | (refine force_in ?_)))
    conv => whnf
    refine App_acc (ws.map fun x => [str x]) [[D.str (((⟨x1.toArray⟩ : ByteArray) ++ (⟨[58].toArray⟩ : ByteArray)) ++ (⟨x2.toArray⟩ : ByteArray))]] rfl rfl rfl rfl (by simp) (hsz _) (by intro r hr; simp at hr; subst hr; rfl) (by simp only [List.length_map, List.length_cons, List.length_nil]; omega) (Nat.le_of_ble_eq_true rfl) ?_
    repeat' ((conv => whnf); (first
      | (refine Br_true (by assumption) ?_)
      | (refine Br_false (by assumption) ?_)
      | (refine Br_true (beqT (by omega)) ?_)
      | (refine Br_false (beqF (by omega)) ?_)
      | (refine Br_beq (fun h => ?_) (fun h => ?_))
      | (refine Br_true (bneT (by omega)) ?_)
      | (refine Br_false (bneF (by omega)) ?_)
      | (refine Br_bne (fun h => ?_) (fun h => ?_))
      | (refine Br_true (decide_eq_true (by omega)) ?_)
      | (refine Br_false (decide_eq_false (by omega)) ?_)
      | (refine Br_dec (fun h => ?_) (fun h => ?_))
      | (refine Br_not ?_)
      | (refine Len_in (fun hlen => ?_))
      | (refine Back_in ⟨[(3, .msl 1 0 ((ws.map fun x => [str x]).length + 1) ((ws.map fun x => [str x]).length + 1) 1), (17, .d (.sl (o.acts.map actC))), (18, .i (o.acts.map actC).length), (19, .i (k + 1 : Nat))], 37, [some (.row (o.cs.map .d)), some (.row (((ws.map fun x => [str x]) ++ [[D.str (((⟨x1.toArray⟩ : ByteArray) ++ (⟨[58].toArray⟩ : ByteArray)) ++ (⟨x2.toArray⟩ : ByteArray))]]).flatten.map .d))], 0, []⟩ _ ⟨k + 1, ws ++ [actW (ar, an)], by omega, rfl, htk.symm, ?_⟩ (by omega) (Wk_ren [0, 3] rfl rfl ⟨⟨rfl, rfl⟩, ⟨by rw [renB_row]; rfl, lowB_row _ _⟩, trivial⟩ (by repeat (first | exact trivial | refine ⟨⟨rfl, rfl⟩, ?_⟩)) (by decide) (by omega)))
      | (refine Br_split (fun h => ?_) (fun h => ?_))
      | (refine fin0 rfl ?_)
      | (refine ArK_in (wrap_i64 (by omega) (by omega)) ?_)
      | (refine force_in ?_)))
    rw [hmap, ha.1, ha.2]
    rfl
  · have hkl : o.acts.length ≤ k := by rw [hacl] at h'; omega
    rw [List.take_of_length_le hkl] at hws
    rw [hW, ← hws] at hol ⊢
    have hjn := join_c ws 32 (by omega) (by omega)
    unfold texts at hjn
    repeat' ((conv => whnf); (first
      | (refine Br_true (by assumption) ?_)
      | (refine Br_false (by assumption) ?_)
      | (refine Br_true (beqT (by omega)) ?_)
      | (refine Br_false (beqF (by omega)) ?_)
      | (refine Br_beq (fun h => ?_) (fun h => ?_))
      | (refine Br_true (bneT (by omega)) ?_)
      | (refine Br_false (bneF (by omega)) ?_)
      | (refine Br_bne (fun h => ?_) (fun h => ?_))
      | (refine Br_true (decide_eq_true (by omega)) ?_)
      | (refine Br_false (decide_eq_false (by omega)) ?_)
      | (refine Br_dec (fun h => ?_) (fun h => ?_))
      | (refine Br_not ?_)
      | (refine Len_in (fun hlen => ?_))
      | (refine Tri.peek hjn rfl [1] rfl (FV_args2 (FV_acc _ rfl (hsz _)) (.same _ rfl)) ?_)
      | (refine Br_split (fun h => ?_) (fun h => ?_))
      | (refine fin0 rfl ?_)
      | (refine ArK_in (wrap_i64 (by omega) (by omega)) ?_)
      | (refine force_in ?_)))
    rfl
end Go.Eng
set_option maxRecDepth 100000
set_option linter.unusedVariables false
set_option linter.unusedSimpArgs false
namespace Go.Eng
open Go Go.Proofs Go.RowKit
theorem setCell_eq {w : World} {r o : Nat} {c : Array Value} {e : TypeId} {fr : Nat × Nat} (h : w.heap[r]? = some (.cells c e fr)) (v : Value) : w.setCell ⟨r, o, none⟩ v = setW w r (.cells (c.setIfInBounds o v) e fr) := by
  unfold World.setCell setW
  congr 1
  apply Array.ext_getElem?
  intro j
  rw [Array.getElem?_modify, Array.getElem?_setIfInBounds]
  split
  · subst_vars
    rw [if_pos (lt_of_heap h), h]
    rfl
  · rfl
set_option maxHeartbeats 1000000 in
theorem bld_fresh (b : Nat) (w : World) (hb : w.heap[b]? = some (.cells #[.pointer none, .slice none 0 0] 77 (0, 0))) :
    Calls Tryd.prog 48 #[.pointer (some ⟨b, 0, none⟩)] w fun e w' => e = .returned (.tuple #[]) ∧ w' = w.setCell ⟨b, 0, none⟩ (.pointer (some ⟨b, 0, none⟩)) := by
  have h0 : w.cell? ⟨b, 0, none⟩ = some (.pointer none) := by simp [World.cell?, hb]
  have hsh : w.shape? b = some (77, 2) := by simp [World.shape?, hb]
  have hfz : w.frozen? ⟨b, 0, none⟩ = false := by simp [World.frozen?, hb]
  obtain ⟨j, hj, hjs⟩ := Option.map_eq_some_iff.1 (show (Tryd.prog.info? 77).map (·.size) = some 2 by kernel_rfl)
  have hlies : liesAt Tryd.prog Tryd.prog.depth 77 (2 / Tryd.prog.cellsOf 77) 0 77 1 = true := by kernel_rfl
  have mixed := mixed
  have t1 := Tryd.underlying77; have a1 := Tryd.isAgg77; have z1 := Tryd.sizeOf77; have v1 := Tryd.zeroValue77; have u1 := run_underlying t1
  have t2 := Tryd.underlying74; have a2 := Tryd.isAgg74; have z2 := Tryd.sizeOf74; have v2 := Tryd.zeroValue74; have u2 := run_underlying t2
  have t4 := Tryd.underlying4; have a4 := Tryd.isAgg4; have z4 := Tryd.sizeOf4; have v4 := Tryd.zeroValue4; have u4 := run_underlying t4
  have t5 := Tryd.underlying99; have a5 := Tryd.isAgg99; have z5 := Tryd.sizeOf99; have v5 := Tryd.zeroValue99; have u5 := run_underlying t5
  go_enter Tryd.func48, Tryd.ntmps48
  go_wp2
  rw [Lib.run_to_unsafe w ⟨b, 0, none⟩ t2 t5 hj (by rw [hjs]; decide) hsh (Nat.zero_lt_succ 1)]
  simp only [Result.andThen]
  rw [Oper.upon_value]
  go_wp2
  rw [run_callFunc_extern Tryd.func57 (by kernel_rfl) (by kernel_rfl) (by kernel_rfl) (e := Extern.AbiNoEscape.same) (by kernel_rfl)]
  rw [Lib.run_noEscape]
  simp only [Result.andThen]
  rw [Oper.upon_value]
  go_wp2
  rw [Lib.run_from_unsafe w ⟨b, 0, none⟩ t5 t2 hj hsh hlies]
  simp only [Result.andThen]
  rw [Oper.upon_value]
  go_wp2
  go_end0
  exact ⟨rfl, rfl⟩
end Go.Eng
set_option maxRecDepth 100000
set_option linter.unusedVariables false
set_option linter.unusedSimpArgs false
namespace Go.Eng
open Go Go.Proofs Go.RowKit
set_option maxHeartbeats 1000000 in
theorem bld_str (b g cap size : Nat) (l : List UInt8) (w : World) (h0 : l ≠ []) (hcap : cap ≠ 0) (hb : w.cell? ⟨b, 1, none⟩ = some (.slice (some ⟨g, 0, none⟩) l.length cap)) (hsh : w.shape? g = some (5, size))
    (hsz : l.length ≤ size) (hl : l.length ≤ 281474976710656) (hc : ∀ (j : Nat) (x : UInt8), l[j]? = some x → w.cell? ⟨g, j, none⟩ = some (.int .u8 x.toNat)) :
    Calls Tryd.prog 37 #[.pointer (some ⟨b, 0, none⟩)] w fun e w' => e = .returned (.string ⟨l.toArray⟩) ∧ w' = w.drew.freeze ⟨g, 0, none⟩ l.length := by
  have c1 : w.drew.cell? ⟨b, 1, none⟩ = some (.slice (some ⟨g, 0, none⟩) l.length cap) := hb
  have hSD : (Builtin.unsafeSliceData_ #[75] 93 #[.slice (some ⟨g, 0, none⟩) l.length cap]).run Tryd.prog w.drew = .ok (.pointer (some ⟨g, 0, none⟩)) w.drew :=
    Lib.run_unsafeSliceData_row _ _ _ _ _ _ hcap
  have hUS : (Builtin.unsafeString_ #[93, 3] 9 #[.pointer (some ⟨g, 0, none⟩), .int .i64 l.length]).run Tryd.prog w.drew = .ok (.string ⟨l.toArray⟩) (w.drew.freeze ⟨g, 0, none⟩ l.length) := by
    refine Lib.run_unsafeString_row w.drew 93 3 9 5 Tryd.underlying93 (by kernel_rfl) g size hsh l h0 (by omega) (by omega) ?_
    intro j x hx
    have := hc j x hx
    rw [addr_add, Nat.zero_add]
    exact this
  have mixed := mixed
  have t1 := Tryd.underlying77; have a1 := Tryd.isAgg77; have z1 := Tryd.sizeOf77; have v1 := Tryd.zeroValue77; have u1 := run_underlying t1
  have t2 := Tryd.underlying74; have a2 := Tryd.isAgg74; have z2 := Tryd.sizeOf74; have v2 := Tryd.zeroValue74; have u2 := run_underlying t2
  have t3 := Tryd.underlying75; have a3 := Tryd.isAgg75; have z3 := Tryd.sizeOf75; have v3 := Tryd.zeroValue75; have u3 := run_underlying t3
  have t4 := Tryd.underlying93; have a4 := Tryd.isAgg93; have z4 := Tryd.sizeOf93; have v4 := Tryd.zeroValue93; have u4 := run_underlying t4
  have t5 := Tryd.underlying3; have a5 := Tryd.isAgg3; have z5 := Tryd.sizeOf3; have v5 := Tryd.zeroValue3; have u5 := run_underlying t5
  have t6 := Tryd.underlying9; have a6 := Tryd.isAgg9; have z6 := Tryd.sizeOf9; have v6 := Tryd.zeroValue9; have u6 := run_underlying t6
  have t7 := Tryd.underlying5; have a7 := Tryd.isAgg5; have z7 := Tryd.sizeOf5; have v7 := Tryd.zeroValue5; have u7 := run_underlying t7
  go_enter Tryd.func37, Tryd.ntmps37
  go_wp2
  go_region_o
  all_goals (go_wp2; go_ret; exact ⟨rfl, rfl⟩)
set_option maxHeartbeats 1000000 in
theorem bld_str0 (b : Nat) (w : World) (hb : w.cell? ⟨b, 1, none⟩ = some (.slice none 0 0)) :
    Calls Tryd.prog 37 #[.pointer (some ⟨b, 0, none⟩)] w fun e w' => e = .returned (.string ⟨#[]⟩) ∧ w' = w.drew := by
  have c1 : w.drew.cell? ⟨b, 1, none⟩ = some (.slice none 0 0) := hb
  have hSD : (Builtin.unsafeSliceData_ #[75] 93 #[.slice none 0 0]).run Tryd.prog w.drew = .ok (.pointer none) w.drew := rfl
  have hUS : ∀ (W : World) (q : Option Addr), (Builtin.unsafeString_ #[93, 3] 9 #[.pointer q, .int .i64 0]).run Tryd.prog W = .ok (.string .empty) W := fun W q => Lib.run_unsafeString_none W _ _ _ q
  have mixed := mixed
  have t1 := Tryd.underlying77; have a1 := Tryd.isAgg77; have z1 := Tryd.sizeOf77; have v1 := Tryd.zeroValue77; have u1 := run_underlying t1
  have t2 := Tryd.underlying74; have a2 := Tryd.isAgg74; have z2 := Tryd.sizeOf74; have v2 := Tryd.zeroValue74; have u2 := run_underlying t2
  have t3 := Tryd.underlying75; have a3 := Tryd.isAgg75; have z3 := Tryd.sizeOf75; have v3 := Tryd.zeroValue75; have u3 := run_underlying t3
  have t4 := Tryd.underlying93; have a4 := Tryd.isAgg93; have z4 := Tryd.sizeOf93; have v4 := Tryd.zeroValue93; have u4 := run_underlying t4
  have t5 := Tryd.underlying3; have a5 := Tryd.isAgg3; have z5 := Tryd.sizeOf3; have v5 := Tryd.zeroValue3; have u5 := run_underlying t5
  have t6 := Tryd.underlying9; have a6 := Tryd.isAgg9; have z6 := Tryd.sizeOf9; have v6 := Tryd.zeroValue9; have u6 := run_underlying t6
  have t7 := Tryd.underlying5; have a7 := Tryd.isAgg5; have z7 := Tryd.sizeOf5; have v7 := Tryd.zeroValue5; have u7 := run_underlying t7
  go_enter Tryd.func37, Tryd.ntmps37
  go_wp2
  go_region_o
  all_goals (go_wp2; go_ret; exact ⟨rfl, rfl⟩)
end Go.Eng
set_option maxRecDepth 100000
set_option linter.unusedVariables false
set_option linter.unusedSimpArgs false
namespace Go.Eng
open Go Go.Proofs Go.RowKit
def bldZ : Blk := .raw (.cells #[.pointer none, .slice none 0 0] 77 (0, 0))
theorem ptr_arg {p : PQ} {σ : List Nat} {w : World} {args : List AV} {vs : Array Value} (hs : vs.size = args.length) (hv : ∀ (i : Nat) (x : AV) (v : Value), args[i]? = some x → vs[i]? = some v → VRel p σ w x v) {i b o r : Nat} (hi : args[i]? = some (.ptr b o)) (hb : σ[b]? = some r) :
    vs[i]? = some (.pointer (some ⟨r, o, none⟩)) := by
  have hlt : i < vs.size := by rw [hs]; exact (List.getElem?_eq_some_iff.1 hi).1
  have h := hv i _ _ hi (Array.getElem?_eq_getElem hlt)
  generalize hx : vs[i] = x at h
  cases h with
  | ptr _ _ r2 h2 =>
    rw [hb] at h2
    injection h2 with h2
    subst h2
    rw [Array.getElem?_eq_getElem hlt, hx]
theorem tup0 {p : PQ} {σ : List Nat} {w : World} : VRel p σ w (.tup []) (.tuple #[]) := .tup _ _ rfl fun i x v hx hv => by simp at hx
theorem bld_check0 : Tri Tryd.prog 48 [.ptr 0 0] [some bldZ] fun v H' => v = .tup [] ∧ H' = [some (.row [.ptr 0 0, .nsl])] := by
  rw [Tri_eq]
  refine ⟨(Ent_of Tryd.func48 rfl (by decide)), fun p σ w vs hH hs hv => ?_⟩
  obtain ⟨r, g1, g2, g3, g4⟩ := hH.blk 0 _ rfl
  have g4 : w.heap[r]? = some (.cells #[.pointer none, .slice none 0 0] 77 (0, 0)) := g4
  obtain rfl := vs_1 hs (ptr_arg hs hv rfl g1)
  refine (bld_fresh r w g4).mono ?_
  rintro e w' ⟨rfl, rfl⟩
  rw [setCell_eq g4]
  have hsh : Shape w (setW w r (.cells ((#[.pointer none, .slice none 0 0] : Array Value).setIfInBounds 0 (.pointer (some ⟨r, 0, none⟩))) 77 (0, 0))) := .set g4 (by simp)
  refine ⟨.tuple #[], .tup [], p, σ, _, rfl, .set g2 hsh, fun _ _ h => h, hH.set (b := 0) rfl g1 _ hsh (.row [.ptr 0 0, .nsl]) ⟨_, _, _, setW_same g3, by simp, noFreeze_zero _, fun i x v hx hv => ?_⟩, tup0, rfl, rfl⟩
  match i with
  | 0 => simp at hx hv; subst hx hv; exact ⟨.ptr _ _ _ g1, rfl⟩
  | 1 => simp at hx hv; subst hx hv; exact ⟨.nsl, rfl⟩
  | i + 2 => simp at hx
theorem bld_check1 (x : AV) (b : Option Blk) (hb : noY [b] = true) : Tri Tryd.prog 48 [.ptr 0 0] [some (.row [.ptr 0 0, x]), b] fun v H' => v = .tup [] ∧ H' = [some (.row [.ptr 0 0, x]), b] := by
  refine Tri_of (m := 2) tt_ok Tryd.func48 rfl (by decide) Tryd.ntmps48 (by rfl) rfl ?_
  repeat' ((conv => whnf); (first
    | (refine Br_true (by assumption) ?_)
    | (refine Br_false (by assumption) ?_)
    | (refine Br_true (beqT (by omega)) ?_)
    | (refine Br_false (beqF (by omega)) ?_)
    | (refine Br_beq (fun h => ?_) (fun h => ?_))
    | (refine Br_true (bneT (by omega)) ?_)
    | (refine Br_false (bneF (by omega)) ?_)
    | (refine Br_bne (fun h => ?_) (fun h => ?_))
    | (refine Br_true (decide_eq_true (by omega)) ?_)
    | (refine Br_false (decide_eq_false (by omega)) ?_)
    | (refine Br_dec (fun h => ?_) (fun h => ?_))
    | (refine Br_not ?_)
    | (refine Len_in (fun hlen => ?_))
    | (refine finR ?_)
    | (refine Br_split (fun h => ?_) (fun h => ?_))
    | (refine fin0 rfl ?_)
    | (refine ArK_in (wrap_i64 (by omega) (by omega)) ?_)
    | (refine force_in ?_)))
  rfl
set_option maxHeartbeats 1000000 in
theorem bld_write0 (s : List UInt8) (hs : s ≠ []) (hl : s.length ≤ 1000000000) : Tri Tryd.prog 36 [.ptr 0 0, .d (str s)] [some bldZ] fun v H' => v = .tup [.i s.length, .any] ∧ H' = [some (.row [.ptr 0 0, .msl 1 0 s.length s.length 1]), some (.bytes 5 s)] := by
  refine Tri_of (m := 1) tt_ok Tryd.func36 rfl (by decide) Tryd.ntmps36 (by rfl) rfl ?_
  have hsz := str_size s
  have h0 : 0 < s.length := List.length_pos_iff.2 hs
  refine Tri.use bld_check0 ?_
  conv => whnf
  refine Need_in ⟨rfl, by rw [hsz]; exact h0, by rw [hsz]; exact Nat.le_trans (Nat.mul_le_mul_right _ (by omega : _ ≤ 1000000200)) (Nat.le_of_ble_eq_true rfl), by rw [hsz]; unfold LB; omega⟩ ?_
  repeat' ((conv => whnf); (first
    | (refine Br_true (by assumption) ?_)
    | (refine Br_false (by assumption) ?_)
    | (refine Br_true (beqT (by omega)) ?_)
    | (refine Br_false (beqF (by omega)) ?_)
    | (refine Br_beq (fun h => ?_) (fun h => ?_))
    | (refine Br_true (bneT (by omega)) ?_)
    | (refine Br_false (bneF (by omega)) ?_)
    | (refine Br_bne (fun h => ?_) (fun h => ?_))
    | (refine Br_true (decide_eq_true (by omega)) ?_)
    | (refine Br_false (decide_eq_false (by omega)) ?_)
    | (refine Br_dec (fun h => ?_) (fun h => ?_))
    | (refine Br_not ?_)
    | (refine Len_in (fun hlen => ?_))
    | (refine Len_in (fun _ => ?_))
    | (refine finR ?_)
    | (refine Br_split (fun h => ?_) (fun h => ?_))
    | (refine fin0 rfl ?_)
    | (refine ArK_in (wrap_i64 (by omega) (by omega)) ?_)
    | (refine force_in ?_)))
  rw [hsz]
set_option maxHeartbeats 1000000 in
theorem bld_write1 (l s : List UInt8) (hl : l.length ≤ 1000000000) (hs : s.length ≤ 1000000000) : Tri Tryd.prog 36 [.ptr 0 0, .d (str s)] [some (.row [.ptr 0 0, .msl 1 0 l.length l.length 1]), some (.bytes 5 l)] fun v H' => v = .tup [.i s.length, .any] ∧ H' = [some (.row [.ptr 0 0, .msl 2 0 (l ++ s).length (l ++ s).length 1]), none, some (.bytes 5 (l ++ s))] := by
  refine Tri_of (m := 2) tt_ok Tryd.func36 rfl (by decide) Tryd.ntmps36 (by rfl) rfl ?_
  have hsz := str_size s
  have hla : (l ++ s).length = l.length + s.length := by simp
  refine Tri.use (bld_check1 _ _ rfl) ?_
  conv => whnf
  refine Need_in ⟨rfl, rfl, rfl, rfl, rfl, by rw [hsz]; exact Nat.le_trans (Nat.mul_le_mul_right _ (by omega : _ ≤ 2000000200)) (Nat.le_of_ble_eq_true rfl), by rw [hsz]; unfold LB; omega⟩ ?_
  rw [hla]
  repeat' ((conv => whnf); (first
    | (refine Br_true (by assumption) ?_)
    | (refine Br_false (by assumption) ?_)
    | (refine Br_true (beqT (by omega)) ?_)
    | (refine Br_false (beqF (by omega)) ?_)
    | (refine Br_beq (fun h => ?_) (fun h => ?_))
    | (refine Br_true (bneT (by omega)) ?_)
    | (refine Br_false (bneF (by omega)) ?_)
    | (refine Br_bne (fun h => ?_) (fun h => ?_))
    | (refine Br_true (decide_eq_true (by omega)) ?_)
    | (refine Br_false (decide_eq_false (by omega)) ?_)
    | (refine Br_dec (fun h => ?_) (fun h => ?_))
    | (refine Br_not ?_)
    | (refine Len_in (fun hlen => ?_))
    | (refine Len_in (fun _ => ?_))
    | (refine finR ?_)
    | (refine Br_split (fun h => ?_) (fun h => ?_))
    | (refine fin0 rfl ?_)
    | (refine ArK_in (wrap_i64 (by omega) (by omega)) ?_)
    | (refine force_in ?_)))
  rw [hsz]
theorem freeze_same {w : World} {g n k : Nat} (h : k ≠ g) : (w.drew.freeze ⟨g, 0, none⟩ n).heap[k]? = w.heap[k]? := by
  unfold World.freeze
  split
  · rfl
  · simp only [Array.getElem?_modify]
    rw [if_neg (fun e => h e.symm)]
    rfl
theorem freeze_shape (w : World) (g n : Nat) : Shape w (w.drew.freeze ⟨g, 0, none⟩ n) := by
  refine ⟨?_, fun r c e fr h => ?_, ?_, ?_, ?_⟩
  · unfold World.freeze; split <;> first | exact Nat.le_refl _ | (simp only [Array.size_modify]; exact Nat.le_refl _)
  · by_cases hr : r = g
    · subst hr
      unfold World.freeze
      split
      · exact ⟨c, fr, h, rfl⟩
      · simp only [Array.getElem?_modify, if_true]
        have h' : w.drew.heap[r]? = some (.cells c e fr) := h
        rw [h']
        exact ⟨c, _, rfl, rfl⟩
    · exact ⟨c, fr, by rw [freeze_same hr]; exact h, rfl⟩
  all_goals (unfold World.freeze; split <;> rfl)
theorem none_rel {p : PQ} {σ : List Nat} {H : Heap} {w w' : World} (h : HRel p σ H w) (he : Ext p w p w') : HRel p σ (List.replicate H.length none) w' := by
  refine ⟨by rw [h.len]; simp, fun b hb => Nat.lt_of_lt_of_le (h.lt b hb) he.shape.1, fun i k hk => ?_, fun i j r a b ha => ?_, h.gl.ext he⟩
  · rw [List.getElem?_replicate] at hk; split at hk <;> simp at hk
  · rw [List.getElem?_replicate] at ha; split at ha <;> simp at ha
theorem bld_string1 (l : List UInt8) (h0 : l ≠ []) (hl : l.length ≤ 1000000000) : Tri Tryd.prog 37 [.ptr 0 0] [some (.row [.ptr 0 0, .msl 1 0 l.length l.length 1]), some (.bytes 5 l)] fun v H' => v = .d (str l) ∧ H' = [none, none] := by
  rw [Tri_eq]
  refine ⟨(Ent_of Tryd.func37 rfl (by decide)), fun p σ w vs hH hs hv => ?_⟩
  obtain ⟨r, g1, g2, g3, c, e, fr, g4, g5, g6, g7⟩ := hH.blk 0 _ rfl
  obtain ⟨r1, k1, k2, k3, c2, fr2, k4, k5, k6, k7⟩ := hH.blk 1 _ rfl
  obtain rfl := vs_1 hs (ptr_arg hs hv rfl g1)
  have h1 : c[1]? = some (c[1]'(by simp at g5; omega)) := Array.getElem?_eq_getElem _
  have h2 := (g7 1 _ _ rfl h1).1
  generalize hq : c[1]'(by simp at g5; omega) = q at h1 h2
  cases h2 with
  | msl _ _ _ _ _ r2 cap hr hB hc hcl hblk =>
  rw [k1] at hr
  injection hr with hr
  subst hr
  have hpos : 0 < l.length := List.length_pos_iff.2 h0
  refine (bld_str r r1 cap c2.size l w h0 (by omega) (by rw [cell_at g4, h1]) (by simp [World.shape?, k4]) k5 (by omega) fun j x hx => ?_).mono ?_
  · rw [cell_at k4]
    have hj : j < c2.size := by have := (List.getElem?_eq_some_iff.1 hx).1; omega
    have h3 : c2[j]? = some c2[j] := Array.getElem?_eq_getElem hj
    rw [h3, k7 j x _ hx h3]
  · rintro e w' ⟨rfl, rfl⟩
    have he : Ext p w p (w.drew.freeze ⟨r1, 0, none⟩ l.length) := .mk1 (fun b hb => freeze_same fun e => k2 (e ▸ hb)) (freeze_shape w r1 _)
    exact ⟨_, _, p, σ, _, rfl, he, fun _ _ h => h, none_rel hH he, .str _ (by rw [str_size]; unfold LB; omega), rfl, rfl⟩
theorem bld_string0 : Tri Tryd.prog 37 [.ptr 0 0] [some bldZ] fun v H' => v = .d (str []) ∧ H' = [none] := by
  rw [Tri_eq]
  refine ⟨(Ent_of Tryd.func37 rfl (by decide)), fun p σ w vs hH hs hv => ?_⟩
  obtain ⟨r, g1, g2, g3, g4⟩ := hH.blk 0 _ rfl
  have g4 : w.heap[r]? = some (.cells #[.pointer none, .slice none 0 0] 77 (0, 0)) := g4
  obtain rfl := vs_1 hs (ptr_arg hs hv rfl g1)
  refine (bld_str0 r w (by rw [cell_at g4]; rfl)).mono ?_
  rintro e w' ⟨rfl, rfl⟩
  have he : Ext p w p w.drew := .drawn p w _
  exact ⟨_, _, p, σ, _, rfl, he, fun _ _ h => h, none_rel hH he, .str _ (Nat.zero_le _), rfl, rfl⟩
@[irreducible] def bldB (l : List UInt8) : Option Blk := if l = [] then some bldZ else some (.row [.ptr 1 0, .msl 2 0 l.length l.length 1])
@[irreducible] def bldC (l : List UInt8) : Option Blk := if l = [] then none else some (.bytes 5 l)
theorem bldB_nil : bldB [] = some bldZ ∧ bldC [] = none := by unfold bldB bldC; simp
theorem bldB_cons {l : List UInt8} (h : l ≠ []) : bldB l = some (.row [.ptr 1 0, .msl 2 0 l.length l.length 1]) ∧ bldC l = some (.bytes 5 l) := by unfold bldB bldC; simp [h]
theorem bld_write (l s : List UInt8) (hs : s ≠ []) (hl : l.length ≤ 1000000000) (hsl : s.length ≤ 1000000000) (r0 r3 : List D) {K : AV → Heap → Prop}
    (hK : K (.tup [.i s.length, .any]) [some (.row (r0.map .d)), some (.row [.ptr 1 0, .msl 4 0 (l ++ s).length (l ++ s).length 1]), none, some (.row (r3.map .d)), some (.bytes 5 (l ++ s))]) :
    Tri Tryd.prog 36 [.ptr 1 0, .d (str s)] [some (.row (r0.map .d)), bldB l, bldC l, some (.row (r3.map .d))] K := by
  by_cases h : l = []
  · subst h
    rw [bldB_nil.1, bldB_nil.2]
    exact Tri.call (bld_write0 s hs hsl) [1] rfl rfl ⟨⟨rfl, rfl⟩, trivial⟩ rfl rfl rfl rfl rfl rfl hK
  · rw [(bldB_cons h).1, (bldB_cons h).2]
    exact Tri.call (bld_write1 l s hl hsl) [1, 2] rfl rfl ⟨⟨rfl, rfl⟩, ⟨rfl, rfl⟩, trivial⟩ rfl rfl rfl rfl rfl rfl hK
theorem bld_string (l : List UInt8) (hl : l.length ≤ 1000000000) (r0 : List D) {K : AV → Heap → Prop}
    (hK : K (.d (str l)) [some (.row (r0.map .d)), none, none]) :
    Tri Tryd.prog 37 [.ptr 1 0] [some (.row (r0.map .d)), bldB l, bldC l] K := by
  by_cases h : l = []
  · subst h
    rw [bldB_nil.1, bldB_nil.2]
    exact Tri.call bld_string0 [1] rfl rfl ⟨⟨rfl, rfl⟩, trivial⟩ rfl rfl rfl rfl rfl rfl hK
  · rw [(bldB_cons h).1, (bldB_cons h).2]
    exact Tri.call (bld_string1 l h hl) [1, 2] rfl rfl ⟨⟨rfl, rfl⟩, ⟨rfl, rfl⟩, trivial⟩ rfl rfl rfl rfl rfl rfl hK
end Go.Eng
set_option maxRecDepth 100000
set_option linter.unusedVariables false
set_option linter.unusedSimpArgs false
namespace Go.Eng
open Go Go.Proofs
def lineV (v : List UInt8) : List UInt8 := v ++ [10]
@[irreducible] def traceV (outs : List TOut) (rows : List TRow) : List UInt8 := (outs.map fun o => lineV (outV o)).flatten ++ (rows.map fun r => lineV (rowV r)).flatten
theorem lineV_ne (v : List UInt8) : lineV v ≠ [] := by unfold lineV; simp
theorem rowV_len {r : TRow} (h : rngR r) : (rowV r).length ≤ 200 := by
  have h1 := it_len h.h1
  have h2 := it_len h.h2
  have h3 := it_len h.h3
  have h4 := it_len h.h4
  have h5 := it_len h.h5
  have h6 := it_len h.h6
  have h7 := it_len h.h7
  unfold rowV
  split
  · rename_i ht
    have hi := told_iff.1 ht
    unfold wordsR
    by_cases k0 : r.kind = 0
    · rw [if_pos k0]
      have hty : 0 ≤ r.type ∧ r.type ≤ 8 := by rcases hi with h | h | h <;> omega
      have hel := (ev_all ⟨r.type.toNat, by omega⟩).2.2.2.1
      simp only [joinL, List.length_append, List.length_cons, wCall, List.length_nil] at hel ⊢
      omega
    · rw [if_neg k0]
      split
      · simp only [joinL, List.length_append, List.length_cons, wStep, List.length_nil]; omega
      · split
        · simp only [joinL, List.length_append, List.length_cons, wDone, List.length_nil]; omega
        · simp only [joinL, List.length_append, List.length_cons, wResult, List.length_nil]; omega
  · simp
theorem flat_len {α : Type} (l : List α) (f : α → List UInt8) (m : Nat) (h : ∀ a ∈ l, (f a).length ≤ m) : ((l.map f).flatten).length ≤ l.length * m := by
  induction l with
  | nil => simp
  | cons a t ih =>
    have h1 := h a (by simp)
    have h2 := ih fun x hx => h x (by simp [hx])
    simp only [List.map_cons, List.flatten_cons, List.length_append, List.length_cons]
    rw [Nat.succ_mul]
    omega
def traceC (outs : List TOut) (rows : List TRow) : List D := [.sl (outs.map TOut.cs), .sl (rows.map TRow.cs)]
set_option maxHeartbeats 4000000 in
theorem tell_Trace (outs : List TOut) (rows : List TRow) (ho : ∀ o ∈ outs, rngO o) (hr : ∀ r ∈ rows, rngR r) (hol : outs.length ≤ 1000) (hrl : rows.length ≤ 100000) :
    Fn Tryd.prog 19 [aggD (traceC outs rows)] (.d (str (traceV outs rows))) := by
  refine Fn_of tt_ok Tryd.func19 rfl (by decide) Tryd.ntmps19 rfl ?_
  have hcl : (outs.map TOut.cs).length = outs.length := by simp
  have hrcl : (rows.map TRow.cs).length = rows.length := by simp
  have hfo : ∀ l : List TOut, (∀ o ∈ l, rngO o) → l.length ≤ 1000 → ((l.map fun o => lineV (outV o)).flatten).length ≤ 71000000 := fun l h1 h2 =>
    Nat.le_trans (flat_len l _ 70001 fun o ho' => by have := outV_len (h1 o ho'); unfold lineV; simp; omega) (Nat.le_trans (Nat.mul_le_mul_right _ h2) (by decide))
  have hfr : ∀ l : List TRow, (∀ r ∈ l, rngR r) → l.length ≤ 100000 → ((l.map fun r => lineV (rowV r)).flatten).length ≤ 21000000 := fun l h1 h2 =>
    Nat.le_trans (flat_len l _ 201 fun o ho' => by have := rowV_len (h1 o ho'); unfold lineV; simp; omega) (Nat.le_trans (Nat.mul_le_mul_right _ h2) (by decide))
  refine Len_in (fun hlen => ?_)
  refine W_loop (fun μ s => ∃ (k : Nat) (l : List UInt8), k ≤ outs.length ∧ μ = outs.length - k ∧ l = ((outs.take k).map fun o => lineV (outV o)).flatten ∧
      s = ⟨[(1, .ptr 0 0), (3, .ptr 1 0), (9, .d (.sl (outs.map TOut.cs))), (10, .i (outs.map TOut.cs).length), (11, .i k)], 33, [some (.row ((traceC outs rows).map .d)), bldB l, bldC l], 0, []⟩) outs.length
    ⟨⟨[(1, .ptr 0 0), (3, .ptr 1 0), (9, .d (.sl (outs.map TOut.cs))), (10, .i (outs.map TOut.cs).length), (11, .i 0)], 33, [some (.row ((traceC outs rows).map .d)), some bldZ, none], 0, []⟩, ?_, 0, [], by omega, by omega, by simp, by rw [bldB_nil.1, bldB_nil.2]; rfl⟩ ?_
  · exact Wk.trans Wk_pad (Wk_env (by repeat (first | exact trivial | refine ⟨rfl, ?_⟩)))
  rintro μ s1 ⟨k, l, hk, rfl, hl, rfl⟩
  have hll : l.length ≤ 71000000 := by rw [hl]; exact hfo _ (fun o h => ho o (List.mem_of_mem_take h)) (by simp; omega)
  refine W_run tt_ok ?_
  refine Br_dec (fun h => ?_) (fun h => ?_)
  · have hlt : k < outs.length := by rw [hcl] at h; omega
    have hi : (outs.map TOut.cs)[(k : Int).toNat]? = some (outs[k]).cs := by simp [hlt]
    have hro := ho _ (List.getElem_mem hlt)
    have hO := tell_Out outs[k] hro
    have hOl := outV_len hro
    have htk : ((outs.take (k + 1)).map fun o => lineV (outV o)).flatten = l ++ lineV (outV outs[k]) := by rw [List.take_succ_eq_append_getElem hlt, List.map_append, List.flatten_append, hl]; simp
    generalize outs[k] = o at *
    have hla : (⟨(outV o).toArray⟩ : ByteArray) ++ (⟨[10].toArray⟩ : ByteArray) = ⟨(lineV (outV o)).toArray⟩ := str_add _ _
    have hlen2 : (lineV (outV o)).length ≤ 70001 := by unfold lineV; simp; omega
    generalize hv : outV o = v at *
    repeat' ((conv => whnf); (first
      | (refine Br_true (by assumption) ?_)
      | (refine Br_false (by assumption) ?_)
      | (refine Br_true (beqT (by omega)) ?_)
      | (refine Br_false (beqF (by omega)) ?_)
      | (refine Br_beq (fun h => ?_) (fun h => ?_))
      | (refine Br_true (bneT (by omega)) ?_)
      | (refine Br_false (bneF (by omega)) ?_)
      | (refine Br_bne (fun h => ?_) (fun h => ?_))
      | (refine Br_true (decide_eq_true (by omega)) ?_)
      | (refine Br_false (decide_eq_false (by omega)) ?_)
      | (refine Br_dec (fun h => ?_) (fun h => ?_))
      | (refine Br_not ?_)
      | (refine Len_in (fun hlen => ?_))
      | (refine Idx_in _ hi (by omega) rfl ?_)
      | (refine Fn.use (hO) rfl rfl ?_)
      | (refine CallF_in (hO) rfl rfl ?_)
      | (refine Need_in (by simp only [str_add, str_size, List.length_append]; unfold LB; simp; omega) ?_)
      | (refine Br_split (fun h => ?_) (fun h => ?_))
      | (refine fin0 rfl ?_)
      | (refine ArK_in (wrap_i64 (by omega) (by omega)) ?_)
      | (refine force_in ?_)))
    rw [hla]
    have hne := lineV_ne v
    generalize lineV v = s at *
    refine bld_write l s hne (by omega) (by omega) (traceC outs rows) o.cs ?_
    have hln : l ++ s ≠ [] := by simp [hne]
    repeat' ((conv => whnf); (first
      | (refine Br_true (by assumption) ?_)
      | (refine Br_false (by assumption) ?_)
      | (refine Br_true (beqT (by omega)) ?_)
      | (refine Br_false (beqF (by omega)) ?_)
      | (refine Br_beq (fun h => ?_) (fun h => ?_))
      | (refine Br_true (bneT (by omega)) ?_)
      | (refine Br_false (bneF (by omega)) ?_)
      | (refine Br_bne (fun h => ?_) (fun h => ?_))
      | (refine Br_true (decide_eq_true (by omega)) ?_)
      | (refine Br_false (decide_eq_false (by omega)) ?_)
      | (refine Br_dec (fun h => ?_) (fun h => ?_))
      | (refine Br_not ?_)
      | (refine Len_in (fun hlen => ?_))
      | (refine Back_in ⟨[(1, .ptr 0 0), (3, .ptr 1 0), (9, .d (.sl (outs.map TOut.cs))), (10, .i (outs.map TOut.cs).length), (11, .i (k + 1 : Nat))], 33, [some (.row ((traceC outs rows).map .d)), some (.row [.ptr 1 0, .msl 2 0 (l ++ s).length (l ++ s).length 1]), some (.bytes 5 (l ++ s))], 0, []⟩ _ ⟨k + 1, l ++ s, by omega, rfl, htk.symm, by rw [(bldB_cons hln).1, (bldB_cons hln).2]⟩ (by omega) (Wk_ren [0, 1, 4] rfl rfl ⟨⟨rfl, rfl⟩, ⟨rfl, rfl⟩, ⟨rfl, rfl⟩, trivial⟩ (by repeat (first | exact trivial | refine ⟨⟨rfl, rfl⟩, ?_⟩)) (by decide) (by omega)))
      | (refine Br_split (fun h => ?_) (fun h => ?_))
      | (refine fin0 rfl ?_)
      | (refine ArK_in (wrap_i64 (by omega) (by omega)) ?_)
      | (refine force_in ?_)))
  have hkl : outs.length ≤ k := by rw [hcl] at h; omega
  rw [List.take_of_length_le hkl] at hl
  conv => whnf
  refine Len_in (fun hlen2 => ?_)
  refine W_loop (fun μ s => ∃ (j : Nat) (l2 : List UInt8), j ≤ rows.length ∧ μ = rows.length - j ∧ l2 = l ++ ((rows.take j).map fun r => lineV (rowV r)).flatten ∧
      s = ⟨[(1, .ptr 0 0), (3, .ptr 1 0), (21, .d (.sl (rows.map TRow.cs))), (22, .i (rows.map TRow.cs).length), (23, .i j)], 33, [some (.row ((traceC outs rows).map .d)), bldB l2, bldC l2], 0, []⟩) rows.length
    ⟨_, ?_, 0, l, by omega, by omega, by simp, rfl⟩ ?_
  · exact Wk_env (by repeat (first | exact trivial | refine ⟨rfl, ?_⟩))
  rintro μ s1 ⟨j, l2, hj, rfl, hl2, rfl⟩
  have hll2 : l2.length ≤ 100000000 := by
    rw [hl2, List.length_append]
    have := hfr (rows.take j) (fun r h => hr r (List.mem_of_mem_take h)) (by simp; omega)
    omega
  refine W_run tt_ok ?_
  refine Br_dec (fun h2 => ?_) (fun h2 => ?_)
  · have hlt : j < rows.length := by rw [hrcl] at h2; omega
    have hi : (rows.map TRow.cs)[(j : Int).toNat]? = some (rows[j]).cs := by simp [hlt]
    have hro := hr _ (List.getElem_mem hlt)
    have hO := tell_Row rows[j] hro
    have hOl := rowV_len hro
    have htk : l ++ ((rows.take (j + 1)).map fun r => lineV (rowV r)).flatten = l2 ++ lineV (rowV rows[j]) := by rw [List.take_succ_eq_append_getElem hlt, List.map_append, List.flatten_append, hl2]; simp
    generalize rows[j] = r at *
    have hla : (⟨(rowV r).toArray⟩ : ByteArray) ++ (⟨[10].toArray⟩ : ByteArray) = ⟨(lineV (rowV r)).toArray⟩ := str_add _ _
    have hlen2 : (lineV (rowV r)).length ≤ 201 := by unfold lineV; simp; omega
    generalize hv : rowV r = v at *
    repeat' ((conv => whnf); (first
      | (refine Br_true (by assumption) ?_)
      | (refine Br_false (by assumption) ?_)
      | (refine Br_true (beqT (by omega)) ?_)
      | (refine Br_false (beqF (by omega)) ?_)
      | (refine Br_beq (fun h => ?_) (fun h => ?_))
      | (refine Br_true (bneT (by omega)) ?_)
      | (refine Br_false (bneF (by omega)) ?_)
      | (refine Br_bne (fun h => ?_) (fun h => ?_))
      | (refine Br_true (decide_eq_true (by omega)) ?_)
      | (refine Br_false (decide_eq_false (by omega)) ?_)
      | (refine Br_dec (fun h => ?_) (fun h => ?_))
      | (refine Br_not ?_)
      | (refine Len_in (fun hlen => ?_))
      | (refine Idx_in _ hi (by omega) rfl ?_)
      | (refine Fn.use (hO) rfl rfl ?_)
      | (refine CallF_in (hO) rfl rfl ?_)
      | (refine Need_in (by simp only [str_add, str_size, List.length_append]; unfold LB; simp; omega) ?_)
      | (refine Br_split (fun h => ?_) (fun h => ?_))
      | (refine fin0 rfl ?_)
      | (refine ArK_in (wrap_i64 (by omega) (by omega)) ?_)
      | (refine force_in ?_)))
    rw [hla]
    have hne := lineV_ne v
    generalize lineV v = s at *
    refine bld_write l2 s hne (by omega) (by omega) (traceC outs rows) r.cs ?_
    have hln : l2 ++ s ≠ [] := by simp [hne]
    repeat' ((conv => whnf); (first
      | (refine Br_true (by assumption) ?_)
      | (refine Br_false (by assumption) ?_)
      | (refine Br_true (beqT (by omega)) ?_)
      | (refine Br_false (beqF (by omega)) ?_)
      | (refine Br_beq (fun h => ?_) (fun h => ?_))
      | (refine Br_true (bneT (by omega)) ?_)
      | (refine Br_false (bneF (by omega)) ?_)
      | (refine Br_bne (fun h => ?_) (fun h => ?_))
      | (refine Br_true (decide_eq_true (by omega)) ?_)
      | (refine Br_false (decide_eq_false (by omega)) ?_)
      | (refine Br_dec (fun h => ?_) (fun h => ?_))
      | (refine Br_not ?_)
      | (refine Len_in (fun hlen => ?_))
      | (refine Back_in ⟨[(1, .ptr 0 0), (3, .ptr 1 0), (21, .d (.sl (rows.map TRow.cs))), (22, .i (rows.map TRow.cs).length), (23, .i (j + 1 : Nat))], 33, [some (.row ((traceC outs rows).map .d)), some (.row [.ptr 1 0, .msl 2 0 (l2 ++ s).length (l2 ++ s).length 1]), some (.bytes 5 (l2 ++ s))], 0, []⟩ _ ⟨j + 1, l2 ++ s, by omega, rfl, htk.symm, by rw [(bldB_cons hln).1, (bldB_cons hln).2]⟩ (by omega) (Wk_ren [0, 1, 4] rfl rfl ⟨⟨rfl, rfl⟩, ⟨rfl, rfl⟩, ⟨rfl, rfl⟩, trivial⟩ (by repeat (first | exact trivial | refine ⟨⟨rfl, rfl⟩, ?_⟩)) (by decide) (by omega)))
      | (refine Br_split (fun h => ?_) (fun h => ?_))
      | (refine fin0 rfl ?_)
      | (refine ArK_in (wrap_i64 (by omega) (by omega)) ?_)
      | (refine force_in ?_)))
  · have hkl2 : rows.length ≤ j := by rw [hrcl] at h2; omega
    rw [List.take_of_length_le hkl2] at hl2
    have e : traceV outs rows = l2 := by unfold traceV; rw [hl2, hl]
    rw [e]
    conv => whnf
    refine bld_string l2 (by omega) (traceC outs rows) ?_
    repeat' ((conv => whnf); (first
      | (refine Br_true (by assumption) ?_)
      | (refine Br_false (by assumption) ?_)
      | (refine Br_true (beqT (by omega)) ?_)
      | (refine Br_false (beqF (by omega)) ?_)
      | (refine Br_beq (fun h => ?_) (fun h => ?_))
      | (refine Br_true (bneT (by omega)) ?_)
      | (refine Br_false (bneF (by omega)) ?_)
      | (refine Br_bne (fun h => ?_) (fun h => ?_))
      | (refine Br_true (decide_eq_true (by omega)) ?_)
      | (refine Br_false (decide_eq_false (by omega)) ?_)
      | (refine Br_dec (fun h => ?_) (fun h => ?_))
      | (refine Br_not ?_)
      | (refine Len_in (fun hlen => ?_))
      | (refine Br_split (fun h => ?_) (fun h => ?_))
      | (refine fin0 rfl ?_)
      | (refine ArK_in (wrap_i64 (by omega) (by omega)) ?_)
      | (refine force_in ?_)))
    rfl
end Go.Eng
set_option maxRecDepth 100000
set_option linter.unusedVariables false
set_option linter.unusedSimpArgs false
namespace Go.Eng
open Go Go.Proofs
theorem joinL_flat (c : UInt8) : ∀ (ws : List (List UInt8)) (w : List UInt8), joinL c (w :: ws) = w ++ (ws.map fun x => c :: x).flatten := by
  intro ws
  induction ws with
  | nil => intro w; simp [joinL]
  | cons a t ih => intro w; rw [joinL_cons c w (by simp), ih a]; simp
theorem outV_flat (o : TOut) : outV o = (it o.number ++ 32 :: it o.err ++ 32 :: it o.focus) ++ (o.acts.map fun a => 32 :: actW a).flatten := by
  unfold outV outW
  rw [joinL_flat, List.map_map]
  simp [joinL]
  rfl
set_option maxHeartbeats 2000000 in
theorem ref23_Out (o : TOut) (h : rngO o) : Fn Tryd.prog 18 [aggD o.cs] (.d (str (outV o))) := by
  refine Fn_of tt_ok Tryd.func18 rfl (by decide) Tryd.ntmps18 rfl ?_
  have h1 := ref23_Number o.number h.h1
  have h2 := ref23_Number o.err h.h2
  have h3 := ref23_Number o.focus h.h3
  have l1 : (it o.number).length ≤ 21 := it_len h.h1
  have l2 : (it o.err).length ≤ 21 := it_len h.h2
  have l3 : (it o.focus).length ≤ 21 := it_len h.h3
  have hlen5 := h.h5
  have hcl : (o.acts.map actC).length = o.acts.length := by simp
  rw [outV_flat]
  have hw : ((((⟨(it o.number).toArray⟩ : ByteArray) ++ (⟨[32].toArray⟩ : ByteArray)) ++ (⟨(it o.err).toArray⟩ : ByteArray)) ++ (⟨[32].toArray⟩ : ByteArray)) ++ (⟨(it o.focus).toArray⟩ : ByteArray) = ⟨(it o.number ++ 32 :: it o.err ++ 32 :: it o.focus).toArray⟩ := by
    simp only [str_add]; simp
  have hwl : (it o.number ++ 32 :: it o.err ++ 32 :: it o.focus).length ≤ 65 := by simp; omega
  generalize it o.number ++ 32 :: it o.err ++ 32 :: it o.focus = w0 at *
  generalize it o.number = x1 at *
  generalize it o.err = x2 at *
  generalize it o.focus = x3 at *
  have hE : AV.d (D.str (((((⟨x1.toArray⟩ : ByteArray) ++ (⟨[32].toArray⟩ : ByteArray)) ++ (⟨x2.toArray⟩ : ByteArray)) ++ (⟨[32].toArray⟩ : ByteArray)) ++ (⟨x3.toArray⟩ : ByteArray))) = .d (str w0) := by rw [hw]
  repeat' ((conv => whnf); (first
    | (refine Br_true (by assumption) ?_)
    | (refine Br_false (by assumption) ?_)
    | (refine Br_true (beqT (by omega)) ?_)
    | (refine Br_false (beqF (by omega)) ?_)
    | (refine Br_beq (fun h => ?_) (fun h => ?_))
    | (refine Br_true (bneT (by omega)) ?_)
    | (refine Br_false (bneF (by omega)) ?_)
    | (refine Br_bne (fun h => ?_) (fun h => ?_))
    | (refine Br_true (decide_eq_true (by omega)) ?_)
    | (refine Br_false (decide_eq_false (by omega)) ?_)
    | (refine Br_dec (fun h => ?_) (fun h => ?_))
    | (refine Br_not ?_)
    | (refine Len_in (fun hlen => ?_))
    | (refine W_draw 0 tt_ok mixed (by kernel_rfl) ?_)
    | (refine Fn.use (h1) rfl rfl ?_)
    | (refine CallF_in (h1) rfl rfl ?_)
    | (refine Fn.use (h2) rfl rfl ?_)
    | (refine CallF_in (h2) rfl rfl ?_)
    | (refine Fn.use (h3) rfl rfl ?_)
    | (refine CallF_in (h3) rfl rfl ?_)
    | (refine Need_in (by simp only [str_add, str_size, List.length_append]; unfold LB; simp; omega) ?_)
    | (refine Br_split (fun h => ?_) (fun h => ?_))
    | (refine fin0 rfl ?_)
    | (refine ArK_in (wrap_i64 (by omega) (by omega)) ?_)
    | (refine force_in ?_)))
  refine W_loop (fun μ s => ∃ (k : Nat) (p : List UInt8), k ≤ o.acts.length ∧ μ = o.acts.length - k ∧ p = w0 ++ ((o.acts.take k).map fun a => 32 :: actW a).flatten ∧ s = ⟨[(1, .ptr 0 0), (3, .d (str p)), (4, .i k)], 45, [some (.row (o.cs.map .d))], 0, []⟩) o.acts.length
    ⟨_, ?_, 0, w0, by omega, by omega, by simp, rfl⟩ ?_
  · exact Wk_env ⟨rfl, hE, rfl, trivial⟩
  clear h1 h2 h3 hE
  rintro μ s1 ⟨k, p, hk, rfl, hp, rfl⟩
  have hpl : p.length ≤ 65 + 1000 * 44 := by
    rw [hp, List.length_append]
    have := flat_len (o.acts.take k) (fun a => 32 :: actW a) 44 fun a ha => by have := actW_len (h.h4 a (List.mem_of_mem_take ha)); simp; omega
    have h2 : (o.acts.take k).length * 44 ≤ 1000 * 44 := Nat.mul_le_mul_right _ (by simp; omega)
    omega
  refine W_run tt_ok ?_
  refine Len_in (fun hlen => ?_)
  refine Br_dec (fun h' => ?_) (fun h' => ?_)
  · have hlt : k < o.acts.length := by rw [hcl] at h'; omega
    have hidx : (o.acts.map actC)[(k : Int).toNat]? = some (actC o.acts[k]) := by simp [hlt]
    have htk : w0 ++ ((o.acts.take (k + 1)).map fun a => 32 :: actW a).flatten = p ++ 32 :: actW o.acts[k] := by rw [List.take_succ_eq_append_getElem hlt, List.map_append, List.flatten_append, hp]; simp
    have hb := h.h4 _ (List.getElem_mem hlt)
    generalize o.acts[k] = a at *
    obtain ⟨ar, an⟩ := a
    have hit1 := ref23_Number ar hb.1
    have hit2 := ref23_Number an hb.2
    have hl1 : (it ar).length ≤ 21 := it_len hb.1
    have hl2 : (it an).length ≤ 21 := it_len hb.2
    have hres : ((((⟨p.toArray⟩ : ByteArray) ++ (⟨[32].toArray⟩ : ByteArray)) ++ (⟨(it ar).toArray⟩ : ByteArray)) ++ (⟨[58].toArray⟩ : ByteArray)) ++ (⟨(it an).toArray⟩ : ByteArray) = ⟨(p ++ 32 :: actW (ar, an)).toArray⟩ := by
      simp only [str_add]; unfold actW; simp
    generalize it ar = y1 at *
    generalize it an = y2 at *
    have hF : AV.d (D.str (((((⟨p.toArray⟩ : ByteArray) ++ (⟨[32].toArray⟩ : ByteArray)) ++ (⟨y1.toArray⟩ : ByteArray)) ++ (⟨[58].toArray⟩ : ByteArray)) ++ (⟨y2.toArray⟩ : ByteArray))) = .d (str (p ++ 32 :: actW (ar, an))) := by rw [hres]
    repeat' ((conv => whnf); (first
      | (refine Br_true (by assumption) ?_)
      | (refine Br_false (by assumption) ?_)
      | (refine Br_true (beqT (by omega)) ?_)
      | (refine Br_false (beqF (by omega)) ?_)
      | (refine Br_beq (fun h => ?_) (fun h => ?_))
      | (refine Br_true (bneT (by omega)) ?_)
      | (refine Br_false (bneF (by omega)) ?_)
      | (refine Br_bne (fun h => ?_) (fun h => ?_))
      | (refine Br_true (decide_eq_true (by omega)) ?_)
      | (refine Br_false (decide_eq_false (by omega)) ?_)
      | (refine Br_dec (fun h => ?_) (fun h => ?_))
      | (refine Br_not ?_)
      | (refine Len_in (fun hlen => ?_))
      | (refine Idx_in _ hidx (by omega) rfl ?_)
      | (refine W_draw 0 tt_ok mixed (by kernel_rfl) ?_)
      | (refine Fn.use (hit1) rfl rfl ?_)
      | (refine CallF_in (hit1) rfl rfl ?_)
      | (refine Fn.use (hit2) rfl rfl ?_)
      | (refine CallF_in (hit2) rfl rfl ?_)
      | (refine Need_in (by simp only [str_add, str_size, List.length_append]; unfold LB; simp; omega) ?_)
      | (refine Back_in _ _ ⟨k + 1, p ++ 32 :: actW (ar, an), by omega, rfl, htk.symm, rfl⟩ (by omega) (Wk_env ⟨rfl, hF, rfl, trivial⟩))
      | (refine Br_split (fun h => ?_) (fun h => ?_))
      | (refine fin0 rfl ?_)
      | (refine ArK_in (wrap_i64 (by omega) (by omega)) ?_)
      | (refine force_in ?_)))
  · have hkl : o.acts.length ≤ k := by rw [hcl] at h'; omega
    rw [List.take_of_length_le hkl] at hp
    rw [← hp]
    repeat' ((conv => whnf); (first
      | (refine Br_true (by assumption) ?_)
      | (refine Br_false (by assumption) ?_)
      | (refine Br_true (beqT (by omega)) ?_)
      | (refine Br_false (beqF (by omega)) ?_)
      | (refine Br_beq (fun h => ?_) (fun h => ?_))
      | (refine Br_true (bneT (by omega)) ?_)
      | (refine Br_false (bneF (by omega)) ?_)
      | (refine Br_bne (fun h => ?_) (fun h => ?_))
      | (refine Br_true (decide_eq_true (by omega)) ?_)
      | (refine Br_false (decide_eq_false (by omega)) ?_)
      | (refine Br_dec (fun h => ?_) (fun h => ?_))
      | (refine Br_not ?_)
      | (refine Len_in (fun hlen => ?_))
      | (refine Br_split (fun h => ?_) (fun h => ?_))
      | (refine fin0 rfl ?_)
      | (refine ArK_in (wrap_i64 (by omega) (by omega)) ?_)
      | (refine force_in ?_)))
    rfl
set_option maxHeartbeats 2000000 in
theorem ref23_Trace (outs : List TOut) (rows : List TRow) (ho : ∀ o ∈ outs, rngO o) (hr : ∀ r ∈ rows, rngR r) (hol : outs.length ≤ 1000) (hrl : rows.length ≤ 100000) :
    Fn Tryd.prog 20 [.d (.sl (outs.map TOut.cs)), .d (.sl (rows.map TRow.cs))] (.d (str (traceV outs rows))) := by
  refine Fn_of tt_ok Tryd.func20 rfl (by decide) Tryd.ntmps20 rfl ?_
  have hcl : (outs.map TOut.cs).length = outs.length := by simp
  have hrcl : (rows.map TRow.cs).length = rows.length := by simp
  have hfo : ∀ l : List TOut, (∀ o ∈ l, rngO o) → l.length ≤ 1000 → ((l.map fun o => lineV (outV o)).flatten).length ≤ 71000000 := fun l h1 h2 =>
    Nat.le_trans (flat_len l _ 70001 fun o ho' => by have := outV_len (h1 o ho'); unfold lineV; simp; omega) (Nat.le_trans (Nat.mul_le_mul_right _ h2) (by decide))
  have hfr : ∀ l : List TRow, (∀ r ∈ l, rngR r) → l.length ≤ 100000 → ((l.map fun r => lineV (rowV r)).flatten).length ≤ 21000000 := fun l h1 h2 =>
    Nat.le_trans (flat_len l _ 201 fun o ho' => by have := rowV_len (h1 o ho'); unfold lineV; simp; omega) (Nat.le_trans (Nat.mul_le_mul_right _ h2) (by decide))
  refine W_loop (fun μ s => ∃ (k : Nat) (l : List UInt8), k ≤ outs.length ∧ μ = outs.length - k ∧ l = ((outs.take k).map fun o => lineV (outV o)).flatten ∧
      s = ⟨[(0, .d (.sl (outs.map TOut.cs))), (1, .d (.sl (rows.map TRow.cs))), (5, .d (str l)), (6, .i k)], 37, [], 0, []⟩) outs.length
    ⟨_, ?_, 0, [], by omega, by omega, by simp, rfl⟩ ?_
  · exact Wk_env (by repeat (first | exact trivial | refine ⟨rfl, ?_⟩))
  rintro μ s1 ⟨k, l, hk, rfl, hl, rfl⟩
  have hll : l.length ≤ 71000000 := by rw [hl]; exact hfo _ (fun o h => ho o (List.mem_of_mem_take h)) (by simp; omega)
  refine W_run tt_ok ?_
  refine Len_in (fun hlen => ?_)
  refine Br_dec (fun h => ?_) (fun h => ?_)
  · have hlt : k < outs.length := by rw [hcl] at h; omega
    have hi : (outs.map TOut.cs)[(k : Int).toNat]? = some (outs[k]).cs := by simp [hlt]
    have hro := ho _ (List.getElem_mem hlt)
    have hO := ref23_Out outs[k] hro
    have hOl := outV_len hro
    have htk : ((outs.take (k + 1)).map fun o => lineV (outV o)).flatten = l ++ lineV (outV outs[k]) := by rw [List.take_succ_eq_append_getElem hlt, List.map_append, List.flatten_append, hl]; simp
    generalize outs[k] = o at *
    generalize hv : outV o = v at *
    have hF : AV.d (D.str (((⟨l.toArray⟩ : ByteArray) ++ (⟨v.toArray⟩ : ByteArray)) ++ (⟨[10].toArray⟩ : ByteArray))) = .d (str (l ++ lineV v)) := by unfold lineV; simp only [str_add]; simp [str]
    repeat' ((conv => whnf); (first
      | (refine Br_true (by assumption) ?_)
      | (refine Br_false (by assumption) ?_)
      | (refine Br_true (beqT (by omega)) ?_)
      | (refine Br_false (beqF (by omega)) ?_)
      | (refine Br_beq (fun h => ?_) (fun h => ?_))
      | (refine Br_true (bneT (by omega)) ?_)
      | (refine Br_false (bneF (by omega)) ?_)
      | (refine Br_bne (fun h => ?_) (fun h => ?_))
      | (refine Br_true (decide_eq_true (by omega)) ?_)
      | (refine Br_false (decide_eq_false (by omega)) ?_)
      | (refine Br_dec (fun h => ?_) (fun h => ?_))
      | (refine Br_not ?_)
      | (refine Len_in (fun hlen => ?_))
      | (refine W_draw 0 tt_ok mixed (by kernel_rfl) ?_)
      | (refine Idx_in _ hi (by omega) rfl ?_)
      | (refine Fn.use (hO) rfl rfl ?_)
      | (refine CallF_in (hO) rfl rfl ?_)
      | (refine Need_in (by simp only [str_add, str_size, List.length_append]; unfold LB; simp; omega) ?_)
      | (refine Back_in _ _ ⟨k + 1, l ++ lineV v, by omega, rfl, htk.symm, rfl⟩ (by omega) (Wk_env ⟨rfl, rfl, hF, rfl, trivial⟩))
      | (refine Br_split (fun h => ?_) (fun h => ?_))
      | (refine fin0 rfl ?_)
      | (refine ArK_in (wrap_i64 (by omega) (by omega)) ?_)
      | (refine force_in ?_)))
  have hkl : outs.length ≤ k := by rw [hcl] at h; omega
  rw [List.take_of_length_le hkl] at hl
  repeat' ((conv => whnf); (first
    | (refine Br_true (by assumption) ?_)
    | (refine Br_false (by assumption) ?_)
    | (refine Br_true (beqT (by omega)) ?_)
    | (refine Br_false (beqF (by omega)) ?_)
    | (refine Br_beq (fun h => ?_) (fun h => ?_))
    | (refine Br_true (bneT (by omega)) ?_)
    | (refine Br_false (bneF (by omega)) ?_)
    | (refine Br_bne (fun h => ?_) (fun h => ?_))
    | (refine Br_true (decide_eq_true (by omega)) ?_)
    | (refine Br_false (decide_eq_false (by omega)) ?_)
    | (refine Br_dec (fun h => ?_) (fun h => ?_))
    | (refine Br_not ?_)
    | (refine Len_in (fun hlen => ?_))
    | (refine Br_split (fun h => ?_) (fun h => ?_))
    | (refine fin0 rfl ?_)
    | (refine ArK_in (wrap_i64 (by omega) (by omega)) ?_)
    | (refine force_in ?_)))
  refine W_loop (fun μ s => ∃ (j : Nat) (l2 : List UInt8), j ≤ rows.length ∧ μ = rows.length - j ∧ l2 = l ++ ((rows.take j).map fun r => lineV (rowV r)).flatten ∧
      s = ⟨[(1, .d (.sl (rows.map TRow.cs))), (5, .d (str l2)), (7, .i j)], 37, [], 0, []⟩) rows.length
    ⟨_, ?_, 0, l, by omega, by omega, by simp, rfl⟩ ?_
  · exact Wk_env (by repeat (first | exact trivial | refine ⟨rfl, ?_⟩))
  rintro μ s1 ⟨j, l2, hj, rfl, hl2, rfl⟩
  have hll2 : l2.length ≤ 100000000 := by
    rw [hl2, List.length_append]
    have := hfr (rows.take j) (fun r h => hr r (List.mem_of_mem_take h)) (by simp; omega)
    omega
  refine W_run tt_ok ?_
  refine Len_in (fun hlen => ?_)
  refine Br_dec (fun h2 => ?_) (fun h2 => ?_)
  · have hlt : j < rows.length := by rw [hrcl] at h2; omega
    have hi : (rows.map TRow.cs)[(j : Int).toNat]? = some (rows[j]).cs := by simp [hlt]
    have hro := hr _ (List.getElem_mem hlt)
    have hO := ref23_Row rows[j] hro
    have hOl := rowV_len hro
    have htk : l ++ ((rows.take (j + 1)).map fun r => lineV (rowV r)).flatten = l2 ++ lineV (rowV rows[j]) := by rw [List.take_succ_eq_append_getElem hlt, List.map_append, List.flatten_append, hl2]; simp
    generalize rows[j] = r at *
    generalize hv : rowV r = v at *
    have hF : AV.d (D.str (((⟨l2.toArray⟩ : ByteArray) ++ (⟨v.toArray⟩ : ByteArray)) ++ (⟨[10].toArray⟩ : ByteArray))) = .d (str (l2 ++ lineV v)) := by unfold lineV; simp only [str_add]; simp [str]
    repeat' ((conv => whnf); (first
      | (refine Br_true (by assumption) ?_)
      | (refine Br_false (by assumption) ?_)
      | (refine Br_true (beqT (by omega)) ?_)
      | (refine Br_false (beqF (by omega)) ?_)
      | (refine Br_beq (fun h => ?_) (fun h => ?_))
      | (refine Br_true (bneT (by omega)) ?_)
      | (refine Br_false (bneF (by omega)) ?_)
      | (refine Br_bne (fun h => ?_) (fun h => ?_))
      | (refine Br_true (decide_eq_true (by omega)) ?_)
      | (refine Br_false (decide_eq_false (by omega)) ?_)
      | (refine Br_dec (fun h => ?_) (fun h => ?_))
      | (refine Br_not ?_)
      | (refine Len_in (fun hlen => ?_))
      | (refine W_draw 0 tt_ok mixed (by kernel_rfl) ?_)
      | (refine Idx_in _ hi (by omega) rfl ?_)
      | (refine Fn.use (hO) rfl rfl ?_)
      | (refine CallF_in (hO) rfl rfl ?_)
      | (refine Need_in (by simp only [str_add, str_size, List.length_append]; unfold LB; simp; omega) ?_)
      | (refine Back_in _ _ ⟨j + 1, l2 ++ lineV v, by omega, rfl, htk.symm, rfl⟩ (by omega) (Wk_env ⟨rfl, hF, rfl, trivial⟩))
      | (refine Br_split (fun h => ?_) (fun h => ?_))
      | (refine fin0 rfl ?_)
      | (refine ArK_in (wrap_i64 (by omega) (by omega)) ?_)
      | (refine force_in ?_)))
  · have hkl2 : rows.length ≤ j := by rw [hrcl] at h2; omega
    rw [List.take_of_length_le hkl2] at hl2
    have e : traceV outs rows = l2 := by unfold traceV; rw [hl2, hl]
    rw [e]
    repeat' ((conv => whnf); (first
      | (refine Br_true (by assumption) ?_)
      | (refine Br_false (by assumption) ?_)
      | (refine Br_true (beqT (by omega)) ?_)
      | (refine Br_false (beqF (by omega)) ?_)
      | (refine Br_beq (fun h => ?_) (fun h => ?_))
      | (refine Br_true (bneT (by omega)) ?_)
      | (refine Br_false (bneF (by omega)) ?_)
      | (refine Br_bne (fun h => ?_) (fun h => ?_))
      | (refine Br_true (decide_eq_true (by omega)) ?_)
      | (refine Br_false (decide_eq_false (by omega)) ?_)
      | (refine Br_dec (fun h => ?_) (fun h => ?_))
      | (refine Br_not ?_)
      | (refine Len_in (fun hlen => ?_))
      | (refine Br_split (fun h => ?_) (fun h => ?_))
      | (refine fin0 rfl ?_)
      | (refine ArK_in (wrap_i64 (by omega) (by omega)) ?_)
      | (refine force_in ?_)))
    rfl
end Go.Eng
set_option linter.unusedVariables false
namespace Go.Eng
open Go
variable {H : Type} {enc : TypeId × Value → H}
theorem returnsInHanded_andS {a : Assume} {C : Checked} {os : Os} {f : FuncId} {fn : Func} {s : ChangeSpec} {conds : List PathCond} {apart fresh handsOn again : Bool} {X : World → Array Value → Prop}
    (hX : ∀ (w w' : World) (args : Array Value), w.heap = w'.heap → X w args → X w' args)
    (own : ownKnob C.prog.godebug = none) (started : os.Started) (noInit : C.prog.inits.idxOf? f = none) (hfn : C.prog.funcs[f]? = some fn)
    (witness : ∃ (w : World) (tape : Tape) (i : Input), w.os = os ∧ (w.forCall tape i).Shaped C.prog ∧ i.vars = [] ∧ Input.okWide C.prog (w.forCall tape i) .any w.heap.size f i ∧
      ((s.pre enc C.prog fn conds apart (w.forCall tape i).memory i.args ∧ X (w.forCall tape i).memory i.args) ∧ sizedMet enc C.prog fn (OpenSpec.ofChange s) apart (w.forCall tape i).memory i.args) ∧ a.holds C.prog (lone (Frame.enter C.prog f i.args .normal) [] (w.forCall tape i)))
    (contract : ∀ (W : World) (base : Nat) (args : Array Value) (ds gs : List (DataW H)) (before : List MemPlace),
      (∀ (j : Nat) t v, fn.params[j]? = some t → args[j]? = some v → Value.okWide C.prog W .any base t v) →
      DataW.Whole enc C.prog fn.params.toList s.vars apart W args.toList ds gs before →
      (DataW.weightsEach C.prog (fn.params.toList ++ s.plain.varTypes C.prog) (ds ++ gs)).all (· ≤ reachBytes) = true → X W args → W.ShapedOpen C.prog →
      Calls C.prog f args W fun e W' => ∃ v, e = .returned v ∧ s.post enc C.prog fn apart fresh handsOn again W args v W') :
    ReturnsInHanded a C os f .any (fun w args => (s.pre enc C.prog fn conds apart w args ∧ X w args) ∧ sizedMet enc C.prog fn (OpenSpec.ofChange s) apart w args) (s.post enc C.prog fn apart fresh handsOn again) := by
  refine returnsInHanded_of_calls own started noInit witness ?_
  intro w tape i _ hsh _ hok hpre hholds
  obtain ⟨_, _, _, fn', hfn', _, _, _, _, hval⟩ := hok
  have e : fn' = fn := Option.some.inj (hfn'.symm.trans hfn)
  subst e
  obtain ⟨⟨⟨ds, gs, before, hw, hc⟩, hx⟩, hz⟩ := hpre
  have hw' := DataW.Whole.of_heap (w' := w.forCall tape i) (by rfl) hw
  refine (contract (w.forCall tape i) w.heap.size i.args ds gs before hval hw' (hz.weights hw) (hX _ _ _ (by rfl) hx) hsh).mono fun e W' ⟨v, he, hp⟩ => ?_
  subst he
  exact ChangeSpec.post_blind hp
theorem laidVars_iface {P : Program} {w : World} {n name : String} {d : DataW Unit} {g : Nat} {t : TypeId} {ms : Array (String × TypeId)} (hg : P.globalNamed n = some g) (ht : (P.globals[g]?).map (·.type) = some t)
    (hi : P.underlying t = some (.interface ms)) : ∀ (l : List (String × DataW Unit)) (ps : List MemPlace), DataW.LaidVars P w l ps → (n, DataW.iface name d) ∈ l → ∃ u v, w.cell? ⟨g, 0, none⟩ = some (.iface u v) := by
  intro l
  induction l with
  | nil => intro ps _ h; simp at h
  | cons x r ih =>
    intro ps h hm
    obtain ⟨n1, d1⟩ := x
    obtain ⟨g1, t1, cs, fuel, p, q, h1, h2, h3, h4, h5, h6⟩ := h
    rcases List.mem_cons.1 hm with e | hm
    · injection e with e1 e2
      subst e1 e2
      obtain rfl := Option.some.inj (hg.symm.trans h1)
      obtain rfl := Option.some.inj (ht.symm.trans h2)
      obtain ⟨_, u, v, hcs, _, _⟩ := iface_of_trod hi h4
      refine ⟨u, v, ?_⟩
      rw [World.var?_cell h1 h3 0]
      have := congrArg (·[0]?) hcs
      simpa using this
    · exact ih _ h5 hm
theorem laid_iface {P : Program} {l : List (String × DataW Unit)} {w : World} (h : laidMetH P l w) (hp : (l.all fun x => x.2.handleName?.isNone) = true) {n name : String} {d : DataW Unit} (hx : (n, DataW.iface name d) ∈ l) {g : Nat} {t : TypeId} {ms : Array (String × TypeId)}
    (hg : P.globalNamed n = some g) (ht : (P.globals[g]?).map (·.type) = some t) (hi : P.underlying t = some (.interface ms)) : ∃ u v, w.cell? ⟨g, 0, none⟩ = some (.iface u v) := by
  rw [MakeChecks.laidMetH_plain _ _ _ hp] at h
  obtain ⟨ps, hl, _⟩ := h
  exact laidVars_iface hg ht hi l ps hl hx
end Go.Eng
set_option linter.unusedVariables false
set_option linter.unusedSimpArgs false
namespace Go.Eng
open Go
def FVs (g F : List Nat) (H : Heap) : List AV → List AV → Prop
  | [], [] => True
  | x :: xs, y :: ys => FV g F H x y ∧ FVs g F H xs ys
  | _, _ => False
theorem FVs_get {g F : List Nat} {H : Heap} : ∀ {xs ys : List AV}, FVs g F H xs ys → xs.length = ys.length ∧ ∀ (i : Nat) (x y : AV), xs[i]? = some x → ys[i]? = some y → FV g F H x y := by
  intro xs
  induction xs with
  | nil =>
    intro ys h
    cases ys with
    | nil => exact ⟨rfl, fun i x y h => by simp at h⟩
    | cons => exact h.elim
  | cons a t ih =>
    intro ys h
    cases ys with
    | nil => exact h.elim
    | cons b u =>
      obtain ⟨h1, h2⟩ := h
      obtain ⟨g1, g2⟩ := ih h2
      refine ⟨by simp [g1], fun i x y hx hy => ?_⟩
      cases i with
      | zero => simp at hx hy; subst hx hy; exact h1
      | succ i => exact g2 i x y (by simpa using hx) (by simpa using hy)
theorem FV_aggs {g F : List Nat} {H : Heap} {xs ys : List AV} (h : FVs g F H xs ys) : FV g F H (.agg xs) (.agg ys) := .agg xs ys (FVs_get h).1 (FVs_get h).2
theorem FV_tups {g F : List Nat} {H : Heap} {xs ys : List AV} (h : FVs g F H xs ys) : FV g F H (.tup xs) (.tup ys) := .tup xs ys (FVs_get h).1 (FVs_get h).2
theorem FB_rows {g F : List Nat} {H : Heap} {xs ys : List AV} (h : FVs g F H xs ys) : FB g F H (.row xs) (.row ys) := .row xs ys (Nat.le_of_eq (FVs_get h).1.symm) (FVs_get h).2
theorem FV_accF {g F : List Nat} {H : Heap} {b sz : Nat} (rows : List (List D)) (hF : b ∈ F) (hb : H[b]? = some (AccB rows)) (hs : ∀ r ∈ rows, r.length = sz) : FV g F H (AccV b sz rows) (.d (.sl rows)) := by
  by_cases hr : rows = []
  · subst hr; rw [AccV_nil]; exact .nsl
  · rw [AccV_cons hr]
    rw [AccB_cons hr] at hb
    have hfl : rows.flatten.length = rows.length * sz := flatten_len rows hs
    refine .frz b 0 _ _ _ (rows.flatten.map .d) rows hF (by unfold rowOf; rw [hb]) rfl hs (by rw [List.length_map, hfl]; omega) fun i x y _ hx hy => ?_
    rw [Nat.zero_add, List.getElem?_map, hy] at hx
    simp at hx
    subst hx
    exact .same _ rfl
end Go.Eng
set_option maxRecDepth 100000
set_option linter.unusedVariables false
set_option linter.unusedSimpArgs false
namespace Go.Eng
open Go Go.Proofs
theorem actC_sz {l : List (Int × Int)} : ∀ r ∈ l.map actC, r.length = 2 := by
  intro r hr; obtain ⟨x, _, rfl⟩ := List.mem_map.1 hr; rfl
set_option maxHeartbeats 2000000 in
theorem law23_own (o : TOut) (h5 : o.acts.length ≤ 1000) : Fn Tryd.prog 16 [aggD o.cs] (aggD o.cs) := by
  refine Fn_of tt_ok Tryd.func16 rfl (by decide) Tryd.ntmps16 rfl ?_
  have hcl : (o.acts.map actC).length = o.acts.length := by simp
  repeat' ((conv => whnf); (first
    | (refine Br_true (by assumption) ?_)
    | (refine Br_false (by assumption) ?_)
    | (refine Br_true (beqT (by omega)) ?_)
    | (refine Br_false (beqF (by omega)) ?_)
    | (refine Br_beq (fun h => ?_) (fun h => ?_))
    | (refine Br_true (bneT (by omega)) ?_)
    | (refine Br_false (bneF (by omega)) ?_)
    | (refine Br_bne (fun h => ?_) (fun h => ?_))
    | (refine Br_true (decide_eq_true (by omega)) ?_)
    | (refine Br_false (decide_eq_false (by omega)) ?_)
    | (refine Br_dec (fun h => ?_) (fun h => ?_))
    | (refine Br_not ?_)
    | (refine Len_in (fun hlen => ?_))
    | (refine Br_split (fun h => ?_) (fun h => ?_))
    | (refine fin0 rfl ?_)
    | (refine ArK_in (wrap_i64 (by omega) (by omega)) ?_)
    | (refine force_in ?_)))
  refine W_loop (fun μ s => ∃ (k : Nat) (w : List (Int × Int)), k ≤ o.acts.length ∧ μ = o.acts.length - k ∧ w = o.acts.take k ∧
      s = ⟨[(1, .ptr 0 0), (2, .ptr 1 0), (3, .ptr 2 0), (4, .i k)], 30, [some (.row (o.cs.map .d)), some (.row [.i 0, .i 0, .i 0, .nsl]), some (.row [.i o.number, .i o.err, .i o.focus, AccV 3 2 (w.map actC)]), AccB (w.map actC)], 0, []⟩) o.acts.length
    ⟨⟨[(1, .ptr 0 0), (2, .ptr 1 0), (3, .ptr 2 0), (4, .i 0)], 30, [some (.row (o.cs.map .d)), some (.row [.i 0, .i 0, .i 0, .nsl]), some (.row [.i o.number, .i o.err, .i o.focus, .nsl]), none], 0, []⟩, ?_, 0, [], by omega, by omega, by simp, by simp [AccV_nil, AccB_nil]⟩ ?_
  · exact Wk.trans Wk_pad (Wk_env (by repeat (first | exact trivial | refine ⟨rfl, ?_⟩)))
  rintro μ s1 ⟨k, w, hk, rfl, hw, rfl⟩
  have hwl : w.length = k := by rw [hw]; simp; omega
  refine W_run tt_ok ?_
  refine Len_in (fun hlen => ?_)
  refine Br_dec (fun h => ?_) (fun h => ?_)
  · have hlt : k < o.acts.length := by rw [hcl] at h; omega
    have hi : (o.acts.map actC)[(k : Int).toNat]? = some (actC o.acts[k]) := by simp [hlt]
    have htk : o.acts.take (k + 1) = w ++ [o.acts[k]] := by rw [hw]; exact List.take_succ_eq_append_getElem hlt
    generalize o.acts[k] = a at *
    have ha := Acc_app (b := 3) (sz := 2) (rows := w.map actC) (new := [actC a]) (by simp)
    repeat' ((conv => whnf); (first
      | (refine Br_true (by assumption) ?_)
      | (refine Br_false (by assumption) ?_)
      | (refine Br_true (beqT (by omega)) ?_)
      | (refine Br_false (beqF (by omega)) ?_)
      | (refine Br_beq (fun h => ?_) (fun h => ?_))
      | (refine Br_true (bneT (by omega)) ?_)
      | (refine Br_false (bneF (by omega)) ?_)
      | (refine Br_bne (fun h => ?_) (fun h => ?_))
      | (refine Br_true (decide_eq_true (by omega)) ?_)
      | (refine Br_false (decide_eq_false (by omega)) ?_)
      | (refine Br_dec (fun h => ?_) (fun h => ?_))
      | (refine Br_not ?_)
      | (refine Len_in (fun hlen => ?_))
      | (refine W_draw 0 tt_ok mixed (by kernel_rfl) ?_)
      | (refine Idx_in _ hi (by omega) rfl ?_)
      | (refine Cell_in _ rfl (force_in ?_))
      | (refine Br_split (fun h => ?_) (fun h => ?_))
      | (refine fin0 rfl ?_)
      | (refine ArK_in (wrap_i64 (by omega) (by omega)) ?_)
      | (refine force_in ?_)))
    refine App_acc (w.map actC) [actC a] rfl rfl rfl rfl (by simp) actC_sz (by intro r hr; simp at hr; subst hr; rfl) (by simp only [List.length_map, List.length_cons, List.length_nil]; omega) (Nat.le_of_ble_eq_true rfl) ?_
    repeat' ((conv => whnf); (first
      | (refine Br_true (by assumption) ?_)
      | (refine Br_false (by assumption) ?_)
      | (refine Br_true (beqT (by omega)) ?_)
      | (refine Br_false (beqF (by omega)) ?_)
      | (refine Br_beq (fun h => ?_) (fun h => ?_))
      | (refine Br_true (bneT (by omega)) ?_)
      | (refine Br_false (bneF (by omega)) ?_)
      | (refine Br_bne (fun h => ?_) (fun h => ?_))
      | (refine Br_true (decide_eq_true (by omega)) ?_)
      | (refine Br_false (decide_eq_false (by omega)) ?_)
      | (refine Br_dec (fun h => ?_) (fun h => ?_))
      | (refine Br_not ?_)
      | (refine Len_in (fun hlen => ?_))
      | (refine Back_in ⟨[(1, .ptr 0 0), (2, .ptr 1 0), (3, .ptr 2 0), (4, .i (k + 1 : Nat))], 30, [some (.row (o.cs.map .d)), some (.row [.i 0, .i 0, .i 0, .nsl]), some (.row [.i o.number, .i o.err, .i o.focus, .msl 3 0 ((w.map actC).length + 1) ((w.map actC).length + 1) 2]), some (.row ((w.map actC ++ [actC a]).flatten.map .d))], 0, []⟩ _ ⟨k + 1, w ++ [a], by omega, rfl, htk.symm, ?_⟩ (by omega) (Wk_ren [0, 1, 2, 4] rfl rfl ⟨⟨rfl, rfl⟩, ⟨rfl, rfl⟩, ⟨rfl, rfl⟩, ⟨by rw [renB_row]; rfl, lowB_row _ _⟩, trivial⟩ (by repeat (first | exact trivial | refine ⟨⟨rfl, rfl⟩, ?_⟩)) (by decide) (by omega)))
      | (refine Br_split (fun h => ?_) (fun h => ?_))
      | (refine fin0 rfl ?_)
      | (refine ArK_in (wrap_i64 (by omega) (by omega)) ?_)
      | (refine force_in ?_)))
    rw [List.map_append, show [a].map actC = [actC a] from rfl, ha.1, ha.2]
    rfl
  · have hkl : o.acts.length ≤ k := by rw [hcl] at h; omega
    have hw' : w = o.acts := by rw [hw]; exact List.take_of_length_le hkl
    rw [hw']
    repeat' ((conv => whnf); (first
      | (refine Br_true (by assumption) ?_)
      | (refine Br_false (by assumption) ?_)
      | (refine Br_true (beqT (by omega)) ?_)
      | (refine Br_false (beqF (by omega)) ?_)
      | (refine Br_beq (fun h => ?_) (fun h => ?_))
      | (refine Br_true (bneT (by omega)) ?_)
      | (refine Br_false (bneF (by omega)) ?_)
      | (refine Br_bne (fun h => ?_) (fun h => ?_))
      | (refine Br_true (decide_eq_true (by omega)) ?_)
      | (refine Br_false (decide_eq_false (by omega)) ?_)
      | (refine Br_dec (fun h => ?_) (fun h => ?_))
      | (refine Br_not ?_)
      | (refine Len_in (fun hlen => ?_))
      | (refine finD (F := [3]) (FV_aggs ⟨.same _ rfl, .same _ rfl, .same _ rfl, FV_accF _ (by simp) rfl actC_sz, trivial⟩))
      | (refine Br_split (fun h => ?_) (fun h => ?_))
      | (refine fin0 rfl ?_)
      | (refine ArK_in (wrap_i64 (by omega) (by omega)) ?_)
      | (refine force_in ?_)))
theorem sh_iff {n : Int} : sh15 n ↔ ¬ n ≥ 1000000000000000 ∧ ¬ n ≤ -1000000000000000 := by unfold sh15; omega
set_option maxHeartbeats 2000000 in
theorem law23_short (r : TRow) : Fn Tryd.prog 21 [aggD r.cs] (.b (shortB r)) := by
  refine Fn_of tt_ok Tryd.func21 rfl (by decide) Tryd.ntmps21 rfl ?_
  have hs : shortB r = ([r.prog, r.type, r.node, r.target, r.related, r.phase, r.err].all fun n => decide (sh15 n)) := by unfold shortB; simp [Bool.and_assoc]
  rw [hs]
  generalize hL : [r.prog, r.type, r.node, r.target, r.related, r.phase, r.err] = L
  have hLl : L.length = 7 := by rw [← hL]; rfl
  have hE : AV.d (.sl [[.i r.prog], [.i r.type], [.i r.node], [.i r.target], [.i r.related], [.i r.phase], [.i r.err]]) = .d (ints L) := by rw [← hL]; rfl
  repeat' ((conv => whnf); (first
    | (refine Ch_r ?_)
    | (refine Br_true (by assumption) ?_)
    | (refine Br_false (by assumption) ?_)
    | (refine Br_true (beqT (by omega)) ?_)
    | (refine Br_false (beqF (by omega)) ?_)
    | (refine Br_beq (fun h => ?_) (fun h => ?_))
    | (refine Br_true (bneT (by omega)) ?_)
    | (refine Br_false (bneF (by omega)) ?_)
    | (refine Br_bne (fun h => ?_) (fun h => ?_))
    | (refine Br_true (decide_eq_true (by omega)) ?_)
    | (refine Br_false (decide_eq_false (by omega)) ?_)
    | (refine Br_dec (fun h => ?_) (fun h => ?_))
    | (refine Br_not ?_)
    | (refine Len_in (fun hlen => ?_))
    | (refine Br_split (fun h => ?_) (fun h => ?_))
    | (refine fin0 rfl ?_)
    | (refine ArK_in (wrap_i64 (by omega) (by omega)) ?_)
    | (refine force_in ?_)))
  refine W_loop (fun μ s => ∃ (k : Nat), k ≤ 7 ∧ μ = 7 - k ∧ (∀ j (h : j < L.length), j < k → sh15 L[j]) ∧ s = ⟨[(3, .d (ints L)), (4, .i k)], 38, [some (.row (r.cs.map .d))], 0, []⟩) 7
    ⟨_, ?_, 0, by omega, by omega, fun j _ h => by omega, rfl⟩ ?_
  · exact Wk_env ⟨hE, rfl, trivial⟩
  rintro μ s1 ⟨k, hk, rfl, hno, rfl⟩
  refine W_run tt_ok ?_
  have hcl : (L.map intCs).length = 7 := by simp [hLl]
  refine Len_in (fun _ => ?_)
  refine Br_dec (fun h => ?_) (fun h => ?_)
  · have hlt : k < L.length := by rw [hcl] at h; omega
    have hi : (L.map intCs)[(k : Int).toNat]? = some (intCs L[k]) := by simp [hlt]
    have hbad : ¬ sh15 L[k] → (L.all fun n => decide (sh15 n)) = false := fun hn => by
      rw [List.all_eq_false]; exact ⟨L[k], List.getElem_mem hlt, by simpa using hn⟩
    have hgood : sh15 L[k] → ∀ j (h : j < L.length), j < k + 1 → sh15 L[j] := fun hg j hj hjk => by
      rcases Nat.lt_succ_iff_lt_or_eq.1 hjk with h1 | h1
      · exact hno j hj h1
      · subst h1; exact hg
    have hsi := @sh_iff L[k]
    by_cases h1 : L[k] ≥ 1000000000000000
    · rw [hbad (fun hh => (hsi.1 hh).1 h1)]
      have z : decide (L[k] ≥ 1000000000000000) = true := decide_eq_true h1
      repeat' ((conv => whnf); (first
        | (refine Br_true z ?_)
        | (refine Br_true (by assumption) ?_)
        | (refine Br_false (by assumption) ?_)
        | (refine Br_true (beqT (by omega)) ?_)
        | (refine Br_false (beqF (by omega)) ?_)
        | (refine Br_beq (fun h => ?_) (fun h => ?_))
        | (refine Br_true (bneT (by omega)) ?_)
        | (refine Br_false (bneF (by omega)) ?_)
        | (refine Br_bne (fun h => ?_) (fun h => ?_))
        | (refine Br_true (decide_eq_true (by omega)) ?_)
        | (refine Br_false (decide_eq_false (by omega)) ?_)
        | (refine Br_dec (fun h => ?_) (fun h => ?_))
        | (refine Br_not ?_)
        | (refine Len_in (fun hlen => ?_))
        | (refine Idx_in _ hi (by omega) rfl ?_)
        | (refine Br_split (fun h => ?_) (fun h => ?_))
        | (refine fin0 rfl ?_)
        | (refine ArK_in (wrap_i64 (by omega) (by omega)) ?_)
        | (refine force_in ?_)))
      rfl
    have z1 : decide (L[k] ≥ 1000000000000000) = false := decide_eq_false h1
    by_cases h2 : L[k] ≤ -1000000000000000
    · rw [hbad (fun hh => (hsi.1 hh).2 h2)]
      have z : decide (L[k] ≤ -1000000000000000) = true := decide_eq_true h2
      repeat' ((conv => whnf); (first
        | (refine Br_false z1 ?_)
        | (refine Br_true z ?_)
        | (refine Br_true (by assumption) ?_)
        | (refine Br_false (by assumption) ?_)
        | (refine Br_true (beqT (by omega)) ?_)
        | (refine Br_false (beqF (by omega)) ?_)
        | (refine Br_beq (fun h => ?_) (fun h => ?_))
        | (refine Br_true (bneT (by omega)) ?_)
        | (refine Br_false (bneF (by omega)) ?_)
        | (refine Br_bne (fun h => ?_) (fun h => ?_))
        | (refine Br_true (decide_eq_true (by omega)) ?_)
        | (refine Br_false (decide_eq_false (by omega)) ?_)
        | (refine Br_dec (fun h => ?_) (fun h => ?_))
        | (refine Br_not ?_)
        | (refine Len_in (fun hlen => ?_))
        | (refine Idx_in _ hi (by omega) rfl ?_)
        | (refine Br_split (fun h => ?_) (fun h => ?_))
        | (refine fin0 rfl ?_)
        | (refine ArK_in (wrap_i64 (by omega) (by omega)) ?_)
        | (refine force_in ?_)))
      rfl
    have z2 : decide (L[k] ≤ -1000000000000000) = false := decide_eq_false h2
    have hg := hgood (hsi.2 ⟨h1, h2⟩)
    repeat' ((conv => whnf); (first
      | (refine Br_false z1 ?_)
      | (refine Br_false z2 ?_)
      | (refine Br_true (by assumption) ?_)
      | (refine Br_false (by assumption) ?_)
      | (refine Br_true (beqT (by omega)) ?_)
      | (refine Br_false (beqF (by omega)) ?_)
      | (refine Br_beq (fun h => ?_) (fun h => ?_))
      | (refine Br_true (bneT (by omega)) ?_)
      | (refine Br_false (bneF (by omega)) ?_)
      | (refine Br_bne (fun h => ?_) (fun h => ?_))
      | (refine Br_true (decide_eq_true (by omega)) ?_)
      | (refine Br_false (decide_eq_false (by omega)) ?_)
      | (refine Br_dec (fun h => ?_) (fun h => ?_))
      | (refine Br_not ?_)
      | (refine Len_in (fun hlen => ?_))
      | (refine Idx_in _ hi (by omega) rfl ?_)
      | (refine Back_in _ _ ⟨k + 1, by omega, rfl, hg, rfl⟩ (by omega) (Wk_env (by repeat (first | exact trivial | refine ⟨rfl, ?_⟩))))
      | (refine Br_split (fun h => ?_) (fun h => ?_))
      | (refine fin0 rfl ?_)
      | (refine ArK_in (wrap_i64 (by omega) (by omega)) ?_)
      | (refine force_in ?_)))
  · have hall : (L.all fun n => decide (sh15 n)) = true := by
      rw [List.all_eq_true]
      intro n hn
      obtain ⟨i, hi, rfl⟩ := List.mem_iff_getElem.1 hn
      exact decide_eq_true (hno i hi (by rw [hcl] at h; omega))
    rw [hall]
    repeat' ((conv => whnf); (first
      | (refine Br_true (by assumption) ?_)
      | (refine Br_false (by assumption) ?_)
      | (refine Br_true (beqT (by omega)) ?_)
      | (refine Br_false (beqF (by omega)) ?_)
      | (refine Br_beq (fun h => ?_) (fun h => ?_))
      | (refine Br_true (bneT (by omega)) ?_)
      | (refine Br_false (bneF (by omega)) ?_)
      | (refine Br_bne (fun h => ?_) (fun h => ?_))
      | (refine Br_true (decide_eq_true (by omega)) ?_)
      | (refine Br_false (decide_eq_false (by omega)) ?_)
      | (refine Br_dec (fun h => ?_) (fun h => ?_))
      | (refine Br_not ?_)
      | (refine Len_in (fun hlen => ?_))
      | (refine Br_split (fun h => ?_) (fun h => ?_))
      | (refine fin0 rfl ?_)
      | (refine ArK_in (wrap_i64 (by omega) (by omega)) ?_)
      | (refine force_in ?_)))
    rfl
end Go.Eng
set_option maxRecDepth 100000
set_option linter.unusedVariables false
set_option linter.unusedSimpArgs false
namespace Go.Eng
open Go Go.Proofs
def lr1 : TRow := ⟨0, 0, 8, 3, 3, -1, 2, 0⟩
def lr2 : TRow := ⟨1, 0, 0, 1, 0, 0, 0, 0⟩
def lr3 : TRow := ⟨3, 0, 10, 0, 4, 0, 0, 0⟩
def lo1 : TOut := ⟨5, 0, 0, [(2, -1)]⟩
theorem lv23_a : readR [99, 97, 108, 108, 32, 48, 32, 99, 108, 105, 99, 107, 32, 51, 32, 51, 32, 45, 49, 32, 50] = (lr1, 0) := by kernel_rfl
theorem lv23_b : readR [99, 97, 108, 108, 32, 48, 32, 99, 108, 105, 99, 107, 32, 51, 32, 51, 32, 45, 49] = (zeroR, 13) := by kernel_rfl
theorem lv23_c : readR [115, 116, 101, 112, 32, 48, 32, 48, 49] = (zeroR, 13) := by kernel_rfl
theorem lv23_d : rowV lr1 = [99, 97, 108, 108, 32, 48, 32, 99, 108, 105, 99, 107, 32, 51, 32, 51, 32, 45, 49, 32, 50] := by kernel_rfl
theorem lv23_e : evV 3 = [102, 111, 99, 117, 115, 111, 117, 116] := by kernel_rfl
theorem lv23_f : evV 9 = [] := by kernel_rfl
theorem lv23_g : rowV lr2 = [] := by kernel_rfl
theorem lv23_h : outV lo1 = [53, 32, 48, 32, 48, 32, 50, 58, 45, 49] := by kernel_rfl
theorem lv23_i : traceV [] [lr3] = [114, 101, 115, 117, 108, 116, 32, 49, 48, 32, 48, 32, 52, 32, 48, 10] := by kernel_rfl
theorem rng_small (r : TRow) (h : (-1000 ≤ r.prog ∧ r.prog ≤ 1000) ∧ (-1000 ≤ r.type ∧ r.type ≤ 1000) ∧ (-1000 ≤ r.node ∧ r.node ≤ 1000) ∧ (-1000 ≤ r.target ∧ r.target ≤ 1000) ∧ (-1000 ≤ r.related ∧ r.related ≤ 1000) ∧ (-1000 ≤ r.phase ∧ r.phase ≤ 1000) ∧ (-1000 ≤ r.err ∧ r.err ≤ 1000)) : rngR r := by
  refine ⟨?_, ?_, ?_, ?_, ?_, ?_, ?_⟩ <;> unfold i64B <;> omega
theorem live23_facts : ∃ (s1 s2 s3 s4 s5 s6 : ByteArray),
    s1 = ⟨#[99, 97, 108, 108, 32, 48, 32, 99, 108, 105, 99, 107, 32, 51, 32, 51, 32, 45, 49, 32, 50]⟩ ∧ s2 = ⟨#[99, 97, 108, 108, 32, 48, 32, 99, 108, 105, 99, 107, 32, 51, 32, 51, 32, 45, 49]⟩ ∧ s3 = ⟨#[115, 116, 101, 112, 32, 48, 32, 48, 49]⟩ ∧ s4 = ⟨#[102, 111, 99, 117, 115, 111, 117, 116]⟩ ∧ s5 = ⟨#[53, 32, 48, 32, 48, 32, 50, 58, 45, 49]⟩ ∧ s6 = ⟨#[114, 101, 115, 117, 108, 116, 32, 49, 48, 32, 48, 32, 52, 32, 48, 10]⟩ ∧
    Fn Tryd.prog 10 [.d (.str s1)] (.tup [.agg [.i 0, .i 0, .i 8, .i 3, .i 3, .i (-1), .i 2, .i 0], .i 0]) ∧
    Fn Tryd.prog 10 [.d (.str s2)] (.tup [.agg [.i 0, .i 0, .i 0, .i 0, .i 0, .i 0, .i 0, .i 0], .i 13]) ∧
    Fn Tryd.prog 10 [.d (.str s3)] (.tup [.agg [.i 0, .i 0, .i 0, .i 0, .i 0, .i 0, .i 0, .i 0], .i 13]) ∧
    Fn Tryd.prog 12 [.agg [.i 0, .i 0, .i 8, .i 3, .i 3, .i (-1), .i 2, .i 0]] (.d (.str s1)) ∧
    Fn Tryd.prog 14 [.i 3] (.d (.str s4)) ∧
    Fn Tryd.prog 14 [.i 9] (.d (.str ⟨#[]⟩)) ∧
    Fn Tryd.prog 12 [.agg [.i 1, .i 0, .i 0, .i 1, .i 0, .i 0, .i 0, .i 0]] (.d (.str ⟨#[]⟩)) ∧
    Fn Tryd.prog 17 [.agg [.i 5, .i 0, .i 0, .d (.sl [[.i 2, .i (-1)]])]] (.d (.str s5)) ∧
    Fn Tryd.prog 19 [.agg [.d (.sl []), .d (.sl [[.i 3, .i 0, .i 10, .i 0, .i 4, .i 0, .i 0, .i 0]])]] (.d (.str s6)) := by
  refine ⟨_, _, _, _, _, _, rfl, rfl, rfl, rfl, rfl, rfl, ?_, ?_, ?_, ?_, ?_, ?_, ?_, ?_, ?_⟩
  · have := tell_Read [99, 97, 108, 108, 32, 48, 32, 99, 108, 105, 99, 107, 32, 51, 32, 51, 32, 45, 49, 32, 50] (by decide); rw [lv23_a] at this; exact this
  · have := tell_Read [99, 97, 108, 108, 32, 48, 32, 99, 108, 105, 99, 107, 32, 51, 32, 51, 32, 45, 49] (by decide); rw [lv23_b] at this; exact this
  · have := tell_Read [115, 116, 101, 112, 32, 48, 32, 48, 49] (by decide); rw [lv23_c] at this; exact this
  · have := tell_Row lr1 (rng_small _ (by decide)); rw [lv23_d] at this; exact this
  · have := tell_Event 3; rw [lv23_e] at this; exact this
  · have := tell_Event 9; rw [lv23_f] at this; exact this
  · have := tell_Row lr2 (rng_small _ (by decide)); rw [lv23_g] at this; exact this
  · have := tell_Out lo1 ⟨by unfold i64B; decide, by unfold i64B; decide, by unfold i64B; decide, by intro a ha; simp [lo1] at ha; subst ha; unfold i64B; decide, by decide⟩; rw [lv23_h] at this; exact this
  · have := tell_Trace [] [lr3] (by simp) (by intro r hr; simp at hr; subst hr; exact rng_small _ (by decide)) (by simp) (by simp); rw [lv23_i] at this; exact this
set_option maxHeartbeats 4000000 in
theorem live23_true : Fn Tryd.prog 9 [] (.b true) := by
  refine Fn_of tt_ok Tryd.func9 rfl (by decide) Tryd.ntmps9 rfl ?_
  obtain ⟨s1, s2, s3, s4, s5, s6, e1, e2, e3, e4, e5, e6, h1, h2, h3, h4, h5, h6, h7, h8, h9⟩ := live23_facts
  have i1 : [AV.d (.str ⟨#[99, 97, 108, 108, 32, 48, 32, 99, 108, 105, 99, 107, 32, 51, 32, 51, 32, 45, 49, 32, 50]⟩)] = [AV.d (.str s1)] := by rw [e1]
  have i2 : [AV.d (.str ⟨#[99, 97, 108, 108, 32, 48, 32, 99, 108, 105, 99, 107, 32, 51, 32, 51, 32, 45, 49]⟩)] = [AV.d (.str s2)] := by rw [e2]
  have i3 : [AV.d (.str ⟨#[115, 116, 101, 112, 32, 48, 32, 48, 49]⟩)] = [AV.d (.str s3)] := by rw [e3]
  have c1 : (s1.toList == (⟨#[99, 97, 108, 108, 32, 48, 32, 99, 108, 105, 99, 107, 32, 51, 32, 51, 32, 45, 49, 32, 50]⟩ : ByteArray).toList) = true := by rw [e1]; simp
  have c4 : (s4.toList == (⟨#[102, 111, 99, 117, 115, 111, 117, 116]⟩ : ByteArray).toList) = true := by rw [e4]; simp
  have c5 : (s5.toList == (⟨#[53, 32, 48, 32, 48, 32, 50, 58, 45, 49]⟩ : ByteArray).toList) = true := by rw [e5]; simp
  have c6 : (s6.toList == (⟨#[114, 101, 115, 117, 108, 116, 32, 49, 48, 32, 48, 32, 52, 32, 48, 10]⟩ : ByteArray).toList) = true := by rw [e6]; simp
  have c0 : ((⟨#[]⟩ : ByteArray).toList == (⟨#[]⟩ : ByteArray).toList) = true := by simp
  clear e1 e2 e3 e4 e5 e6
  repeat' ((conv => whnf); (first
    | (refine Br_true c1 ?_)
    | (refine Br_true c4 ?_)
    | (refine Br_true c5 ?_)
    | (refine Br_true c0 ?_)
    | (refine Ch_r ?_)
    | (refine Br_true (by assumption) ?_)
    | (refine Br_false (by assumption) ?_)
    | (refine Br_true (beqT (by omega)) ?_)
    | (refine Br_false (beqF (by omega)) ?_)
    | (refine Br_beq (fun h => ?_) (fun h => ?_))
    | (refine Br_true (bneT (by omega)) ?_)
    | (refine Br_false (bneF (by omega)) ?_)
    | (refine Br_bne (fun h => ?_) (fun h => ?_))
    | (refine Br_true (decide_eq_true (by omega)) ?_)
    | (refine Br_false (decide_eq_false (by omega)) ?_)
    | (refine Br_dec (fun h => ?_) (fun h => ?_))
    | (refine Br_not ?_)
    | (refine Len_in (fun hlen => ?_))
    | (refine Fn.useE h1 i1 rfl rfl ?_)
    | (refine Fn.useE h2 i2 rfl rfl ?_)
    | (refine Fn.useE h3 i3 rfl rfl ?_)
    | (refine Fn.use (h4) rfl rfl ?_)
    | (refine CallF_in (h4) rfl rfl ?_)
    | (refine Fn.use (h5) rfl rfl ?_)
    | (refine CallF_in (h5) rfl rfl ?_)
    | (refine Fn.use (h6) rfl rfl ?_)
    | (refine CallF_in (h6) rfl rfl ?_)
    | (refine Fn.use (h7) rfl rfl ?_)
    | (refine CallF_in (h7) rfl rfl ?_)
    | (refine Fn.use (h8) rfl rfl ?_)
    | (refine CallF_in (h8) rfl rfl ?_)
    | (refine Tri.peek h9 rfl [] rfl (FV_args1 (FV_aggs ⟨.nsl, .same _ rfl, trivial⟩)) ?_)
    | (refine Br_split (fun h => ?_) (fun h => ?_))
    | (refine fin0 rfl ?_)
    | (refine ArK_in (wrap_i64 (by omega) (by omega)) ?_)
    | (refine force_in ?_)))
  exact congrArg (fun b => AV.d (D.bool b)) c6
end Go.Eng
