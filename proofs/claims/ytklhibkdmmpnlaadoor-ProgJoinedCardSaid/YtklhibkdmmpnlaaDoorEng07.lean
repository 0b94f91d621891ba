/- What the seat's proofs lean on, part 7: the executor over abstract values, its soundness, and what the program's functions answer (Rst6, Rst7, Liv20, Law21, Law22, Law23, Law24, Eng33, SeatW). -/
import Derived.Test.YtklhibkdmmpnlaaDoorEng06
import Derived.Test.YtklhibkdmmpnlaaDoorEng05
import Derived.HandedShaped
import Derived.Shelf.Vars
import Derived.MakeChecks
import Derived.Test.YtklhibkdmmpnlaaDoorChecked
import Derived.KernelRfl
set_option linter.all false
set_option linter.unusedVariables false
set_option linter.unusedSimpArgs false
set_option maxRecDepth 100000
set_option linter.unusedVariables false
set_option linter.unusedSimpArgs false
namespace Go.Eng
open Go Go.Proofs
set_option maxHeartbeats 2000000 in
theorem ref20_Parse (s : List UInt8) (hs : s.length ≤ 100000) : Fn Tryd.prog 10 [.d (str s)] (.tup [.d (stepsD (parseV s).1), .i (parseV s).2]) := by
  refine Fn_of tt_ok Tryd.func10 rfl (by decide) Tryd.ntmps10 rfl ?_
  by_cases hn : s = []
  · subst hn
    have e : parseV [] = ([], 0) := by unfold parseV; rfl
    rw [e]
    have hb : ((⟨#[]⟩ : ByteArray).toList == (⟨#[]⟩ : ByteArray).toList) = true := by simp
    repeat' ((conv => whnf); (first
      | (refine Br_true hb ?_)
      | (refine Br_true (by assumption) ?_)
      | (refine Br_false (by assumption) ?_)
      | (refine Br_true (beqT (by omega)) ?_)
      | (refine Br_false (beqF (by omega)) ?_)
      | (refine Br_beq (fun h => ?_) (fun h => ?_))
      | (refine Br_true (bneT (by omega)) ?_)
      | (refine Br_false (bneF (by omega)) ?_)
      | (refine Br_bne (fun h => ?_) (fun h => ?_))
      | (refine Br_true (decide_eq_true (by omega)) ?_)
      | (refine Br_false (decide_eq_false (by omega)) ?_)
      | (refine Br_dec (fun h => ?_) (fun h => ?_))
      | (refine Br_not ?_)
      | (refine Len_in (fun hlen => ?_))
      | (refine finD (F := []) (FV_tup2 .nsl (.same _ rfl)))
      | (refine Br_split (fun h => ?_) (fun h => ?_))
      | (refine fin0 rfl ?_)
      | (refine ArK_in (wrap_i64 (by omega) (by omega)) ?_)
      | (refine force_in ?_)))
  have hb : ((⟨s.toArray⟩ : ByteArray).toList == (⟨#[]⟩ : ByteArray).toList) = false := by
    rw [str_toList, show (⟨#[]⟩ : ByteArray).toList = [] from str_toList []]
    simpa using hn
  have hsl := split_mem_len 59 s
  have hsp := ref20_Split s 59 hs
  have hwl := split_len 59 s
  have e : parseV s = if (splitL 59 s).length ≤ 16 ∧ ∀ w ∈ splitL 59 s, (readV w).2 = true then ((splitL 59 s).map fun w => (readV w).1, 0) else ([], 13) := by unfold parseV; rw [if_neg hn]
  generalize splitL 59 s = ws at *
  repeat' ((conv => whnf); (first
    | (refine Br_false hb ?_)
    | (refine Br_true (by assumption) ?_)
    | (refine Br_false (by assumption) ?_)
    | (refine Br_true (beqT (by omega)) ?_)
    | (refine Br_false (beqF (by omega)) ?_)
    | (refine Br_beq (fun h => ?_) (fun h => ?_))
    | (refine Br_true (bneT (by omega)) ?_)
    | (refine Br_false (bneF (by omega)) ?_)
    | (refine Br_bne (fun h => ?_) (fun h => ?_))
    | (refine Br_true (decide_eq_true (by omega)) ?_)
    | (refine Br_false (decide_eq_false (by omega)) ?_)
    | (refine Br_dec (fun h => ?_) (fun h => ?_))
    | (refine Br_not ?_)
    | (refine Len_in (fun hlen => ?_))
    | (refine Fn.use (hsp) rfl rfl ?_)
    | (refine CallF_in (hsp) rfl rfl ?_)
    | (refine Br_split (fun h => ?_) (fun h => ?_))
    | (refine fin0 rfl ?_)
    | (refine ArK_in (wrap_i64 (by omega) (by omega)) ?_)
    | (refine force_in ?_)))
  refine W_loop (fun μ st => ∃ (k : Nat) (w : List Step), k ≤ ws.length ∧ k ≤ 16 ∧ μ = ws.length - k ∧ w = (ws.take k).map (fun x => (readV x).1) ∧ (∀ x ∈ ws.take k, (readV x).2 = true) ∧
      st = ⟨[(4, AccV 0 3 (w.map Step.cs)), (5, .d (texts ws)), (6, .i k)], 39, [AccB (w.map Step.cs)], 0, []⟩) ws.length
    ⟨⟨[(4, .nsl), (5, .d (texts ws)), (6, .i 0)], 39, [none], 0, []⟩, ?_, 0, [], by omega, by omega, by omega, by simp, by simp, by simp [AccV_nil, AccB_nil]⟩ ?_
  · exact Wk.trans Wk_pad (Wk_env (by repeat (first | exact trivial | refine ⟨rfl, ?_⟩)))
  rintro μ s1 ⟨k, w, hk, hk16, rfl, hw, hok, rfl⟩
  have hwk : w.length = k := by rw [hw]; simp; omega
  refine W_run tt_ok ?_
  refine Len_in (fun hlen => ?_)
  refine Br_dec (fun h => ?_) (fun h => ?_)
  · have hlt : k < ws.length := by simp at h; omega
    have hmem := List.getElem_mem hlt
    have hi := texts_at (W := ws) (n := k) hlt rfl
    have hwe : wordAt ws k = ws[k] := by unfold wordAt; simp [List.getD_eq_getElem?_getD, hlt]
    rw [hwe] at hi
    have hln := hsl _ hmem
    have hon := ref20_one ws[k] (by omega)
    obtain ⟨o1, o2⟩ := one_read ws[k]
    have htk : ws.take (k + 1) = ws.take k ++ [ws[k]] := List.take_succ_eq_append_getElem hlt
    have hwn : (ws.take (k + 1)).map (fun x => (readV x).1) = w ++ [(readV ws[k]).1] := by rw [htk, List.map_append, ← hw]; rfl
    have hokn : (readV ws[k]).2 = true → ∀ x ∈ ws.take (k + 1), (readV x).2 = true := fun hq x hx => by
      rw [htk] at hx
      rcases List.mem_append.1 hx with hx | hx
      · exact hok x hx
      · simp at hx; subst hx; exact hq
    have hbad : (readV ws[k]).2 = false ∨ 16 ≤ k → parseV s = ([], 13) := fun hq => by
      rw [e, if_neg]
      rintro ⟨g1, g2⟩
      rcases hq with hq | hq
      · rw [g2 _ hmem] at hq; simp at hq
      · omega
    generalize readV ws[k] = rv at *
    generalize oneV ws[k] = ov at *
    obtain ⟨rx, rb⟩ := rv
    obtain ⟨ox, ob⟩ := ov
    dsimp only at *
    subst o1
    cases ob
    · rw [hbad (.inl rfl)]
      repeat' ((conv => whnf); (first
        | (refine Br_true (by assumption) ?_)
        | (refine Br_false (by assumption) ?_)
        | (refine Br_true (beqT (by omega)) ?_)
        | (refine Br_false (beqF (by omega)) ?_)
        | (refine Br_beq (fun h => ?_) (fun h => ?_))
        | (refine Br_true (bneT (by omega)) ?_)
        | (refine Br_false (bneF (by omega)) ?_)
        | (refine Br_bne (fun h => ?_) (fun h => ?_))
        | (refine Br_true (decide_eq_true (by omega)) ?_)
        | (refine Br_false (decide_eq_false (by omega)) ?_)
        | (refine Br_dec (fun h => ?_) (fun h => ?_))
        | (refine Br_not ?_)
        | (refine Len_in (fun hlen => ?_))
        | (refine Idx_in _ hi (by omega) rfl ?_)
        | (refine Fn.use (hon) rfl rfl ?_)
        | (refine CallF_in (hon) rfl rfl ?_)
        | (refine finD (F := []) (FV_tup2 .nsl (.same _ rfl)))
        | (refine Br_split (fun h => ?_) (fun h => ?_))
        | (refine fin0 rfl ?_)
        | (refine ArK_in (wrap_i64 (by omega) (by omega)) ?_)
        | (refine force_in ?_)))
    · have o3 := o2 rfl
      simp only [Prod.mk.injEq, and_true] at o3
      subst o3
      by_cases h16 : 16 ≤ k
      · rw [hbad (.inr h16)]
        have hc : decide ((k : Int) ≥ 16) = true := decide_eq_true (by omega)
        repeat' ((conv => whnf); (first
          | (refine Br_true hc ?_)
          | (refine Br_true (by assumption) ?_)
          | (refine Br_false (by assumption) ?_)
          | (refine Br_true (beqT (by omega)) ?_)
          | (refine Br_false (beqF (by omega)) ?_)
          | (refine Br_beq (fun h => ?_) (fun h => ?_))
          | (refine Br_true (bneT (by omega)) ?_)
          | (refine Br_false (bneF (by omega)) ?_)
          | (refine Br_bne (fun h => ?_) (fun h => ?_))
          | (refine Br_true (decide_eq_true (by omega)) ?_)
          | (refine Br_false (decide_eq_false (by omega)) ?_)
          | (refine Br_dec (fun h => ?_) (fun h => ?_))
          | (refine Br_not ?_)
          | (refine Len_in (fun hlen => ?_))
          | (refine Idx_in _ hi (by omega) rfl ?_)
          | (refine Fn.use (hon) rfl rfl ?_)
          | (refine CallF_in (hon) rfl rfl ?_)
          | (refine finD (F := []) (FV_tup2 .nsl (.same _ rfl)))
          | (refine Br_split (fun h => ?_) (fun h => ?_))
          | (refine fin0 rfl ?_)
          | (refine ArK_in (wrap_i64 (by omega) (by omega)) ?_)
          | (refine force_in ?_)))
      · have hc : decide ((k : Int) ≥ 16) = false := decide_eq_false (by omega)
        have ha := Acc_app (b := 0) (sz := 3) (rows := w.map Step.cs) (new := [ox.cs]) (by simp)
        repeat' ((conv => whnf); (first
          | (refine Br_false hc ?_)
          | (refine Br_true (by assumption) ?_)
          | (refine Br_false (by assumption) ?_)
          | (refine Br_true (beqT (by omega)) ?_)
          | (refine Br_false (beqF (by omega)) ?_)
          | (refine Br_beq (fun h => ?_) (fun h => ?_))
          | (refine Br_true (bneT (by omega)) ?_)
          | (refine Br_false (bneF (by omega)) ?_)
          | (refine Br_bne (fun h => ?_) (fun h => ?_))
          | (refine Br_true (decide_eq_true (by omega)) ?_)
          | (refine Br_false (decide_eq_false (by omega)) ?_)
          | (refine Br_dec (fun h => ?_) (fun h => ?_))
          | (refine Br_not ?_)
          | (refine Len_in (fun hlen => ?_))
          | (refine Idx_in _ hi (by omega) rfl ?_)
          | (refine Fn.use (hon) rfl rfl ?_)
          | (refine CallF_in (hon) rfl rfl ?_)
          | (refine Br_split (fun h => ?_) (fun h => ?_))
          | (refine fin0 rfl ?_)
          | (refine ArK_in (wrap_i64 (by omega) (by omega)) ?_)
          | (refine force_in ?_)))
        refine Ch_r ?_
        conv => whnf
        refine App_acc (w.map Step.cs) [ox.cs] rfl rfl rfl rfl (by simp) cs3 (by intro r hr; simp at hr; subst hr; rfl) (by simp only [List.length_map, List.length_cons, List.length_nil]; omega) (Nat.le_of_ble_eq_true rfl) ?_
        repeat' ((conv => whnf); (first
          | (refine Br_true (by assumption) ?_)
          | (refine Br_false (by assumption) ?_)
          | (refine Br_true (beqT (by omega)) ?_)
          | (refine Br_false (beqF (by omega)) ?_)
          | (refine Br_beq (fun h => ?_) (fun h => ?_))
          | (refine Br_true (bneT (by omega)) ?_)
          | (refine Br_false (bneF (by omega)) ?_)
          | (refine Br_bne (fun h => ?_) (fun h => ?_))
          | (refine Br_true (decide_eq_true (by omega)) ?_)
          | (refine Br_false (decide_eq_false (by omega)) ?_)
          | (refine Br_dec (fun h => ?_) (fun h => ?_))
          | (refine Br_not ?_)
          | (refine Len_in (fun hlen => ?_))
          | (refine Back_in ⟨[(4, .msl 0 0 ((w.map Step.cs).length + 1) ((w.map Step.cs).length + 1) 3), (5, .d (texts ws)), (6, .i (k + 1 : Nat))], 39, [some (.row ((w.map Step.cs ++ [ox.cs]).flatten.map .d))], 0, []⟩ _ ⟨k + 1, w ++ [ox], by omega, by omega, rfl, hwn.symm, hokn rfl, ?_⟩ (by omega) (Wk_ren [2] rfl rfl ⟨⟨by rw [renB_row]; rfl, lowB_row _ _⟩, trivial⟩ (by repeat (first | exact trivial | refine ⟨⟨rfl, rfl⟩, ?_⟩)) (by decide) (by omega)))
          | (refine Br_split (fun h => ?_) (fun h => ?_))
          | (refine fin0 rfl ?_)
          | (refine ArK_in (wrap_i64 (by omega) (by omega)) ?_)
          | (refine force_in ?_)))
        rw [List.map_append, show List.map Step.cs [ox] = [ox.cs] from rfl, ha.1, ha.2]
        rfl
  · have hkl : ws.length ≤ k := by simp at h; omega
    rw [List.take_of_length_le hkl] at hw hok
    rw [e, if_pos ⟨by omega, hok⟩, ← hw]
    repeat' ((conv => whnf); (first
      | (refine Br_true (by assumption) ?_)
      | (refine Br_false (by assumption) ?_)
      | (refine Br_true (beqT (by omega)) ?_)
      | (refine Br_false (beqF (by omega)) ?_)
      | (refine Br_beq (fun h => ?_) (fun h => ?_))
      | (refine Br_true (bneT (by omega)) ?_)
      | (refine Br_false (bneF (by omega)) ?_)
      | (refine Br_bne (fun h => ?_) (fun h => ?_))
      | (refine Br_true (decide_eq_true (by omega)) ?_)
      | (refine Br_false (decide_eq_false (by omega)) ?_)
      | (refine Br_dec (fun h => ?_) (fun h => ?_))
      | (refine Br_not ?_)
      | (refine Len_in (fun hlen => ?_))
      | (refine finD (F := [0]) (FV_tup2 (FV_acc _ rfl cs3) (.same _ rfl)))
      | (refine Br_split (fun h => ?_) (fun h => ?_))
      | (refine fin0 rfl ?_)
      | (refine ArK_in (wrap_i64 (by omega) (by omega)) ?_)
      | (refine force_in ?_)))
theorem steps_eq : ∀ (a b : List Step), a = b ↔ a.length = b.length ∧ ∀ (i : Nat) (h1 : i < a.length) (h2 : i < b.length), a[i] = b[i] := fun a b =>
  ⟨fun h => by subst h; exact ⟨rfl, fun _ _ _ => rfl⟩, fun ⟨h1, h2⟩ => List.ext_getElem h1 h2⟩
theorem ref20_Same (a b : List Step) : Fn Tryd.prog 16 [.d (stepsD a), .d (stepsD b)] (.b (decide (a = b))) := by
  refine Fn_of tt_ok Tryd.func16 rfl (by decide) Tryd.ntmps16 rfl ?_
  have hal : (List.map Step.cs a).length = a.length := by simp
  have hbl : (List.map Step.cs b).length = b.length := by simp
  by_cases hl : a.length = b.length
  · have hc : (((List.map Step.cs a).length : Int) == ((List.map Step.cs b).length : Int)) = true := by rw [hal, hbl, hl]; simp
    have hc' : (!(((List.map Step.cs a).length : Int) == ((List.map Step.cs b).length : Int))) = false := by rw [hc]; rfl
    repeat' ((conv => whnf); (first
      | (refine Br_false hc' ?_)
      | (refine Br_true hc ?_)
      | (refine Br_true (by assumption) ?_)
      | (refine Br_false (by assumption) ?_)
      | (refine Br_true (beqT (by omega)) ?_)
      | (refine Br_false (beqF (by omega)) ?_)
      | (refine Br_beq (fun h => ?_) (fun h => ?_))
      | (refine Br_true (bneT (by omega)) ?_)
      | (refine Br_false (bneF (by omega)) ?_)
      | (refine Br_bne (fun h => ?_) (fun h => ?_))
      | (refine Br_true (decide_eq_true (by omega)) ?_)
      | (refine Br_false (decide_eq_false (by omega)) ?_)
      | (refine Br_dec (fun h => ?_) (fun h => ?_))
      | (refine Br_not ?_)
      | (refine Len_in (fun hlen => ?_))
      | (refine Len_in (fun hlen => ?_))
      | (refine Br_split (fun h => ?_) (fun h => ?_))
      | (refine fin0 rfl ?_)
      | (refine ArK_in (wrap_i64 (by omega) (by omega)) ?_)
      | (refine force_in ?_)))
    refine W_loop (fun μ st => ∃ (k : Nat), k ≤ a.length ∧ μ = a.length - k ∧ (∀ i (h1 : i < a.length) (h2 : i < b.length), i < k → a[i] = b[i]) ∧
        st = ⟨[(0, .d (stepsD a)), (1, .d (stepsD b)), (5, .i k)], 26, [], 0, []⟩) a.length
      ⟨_, ?_, 0, by omega, by omega, fun i _ _ h => by omega, rfl⟩ ?_
    · exact Wk_env (by repeat (first | exact trivial | refine ⟨rfl, ?_⟩))
    rintro μ s1 ⟨k, hk, rfl, hI, rfl⟩
    refine W_run tt_ok ?_
    refine Len_in (fun hlen => ?_)
    rw [hal] at hlen
    refine Br_dec (fun h => ?_) (fun h => ?_)
    · have ha : k < a.length := by rw [hal] at h; omega
      have hb : k < b.length := by omega
      have hia : (List.map Step.cs a)[(k : Int).toNat]? = some (a[k]).cs := by simp [ha]
      have hib : (List.map Step.cs b)[(k : Int).toNat]? = some (b[k]).cs := by simp [hb]
      by_cases hq : a[k] = b[k]
      · have hn : ∀ i (h1 : i < a.length) (h2 : i < b.length), i < k + 1 → a[i] = b[i] := fun i h1 h2 h3 => by
          rcases Nat.lt_succ_iff_lt_or_eq.1 h3 with h4 | h4
          · exact hI i h1 h2 h4
          · subst h4; exact hq
        have hall : allB [a[k].f == b[k].f, a[k].a == b[k].a, a[k].b == b[k].b] = true := by rw [hq]; simp [allB]
        repeat' ((conv => whnf); (first
          | (refine Br_true hall ?_)
          | (refine Br_true (by assumption) ?_)
          | (refine Br_false (by assumption) ?_)
          | (refine Br_true (beqT (by omega)) ?_)
          | (refine Br_false (beqF (by omega)) ?_)
          | (refine Br_beq (fun h => ?_) (fun h => ?_))
          | (refine Br_true (bneT (by omega)) ?_)
          | (refine Br_false (bneF (by omega)) ?_)
          | (refine Br_bne (fun h => ?_) (fun h => ?_))
          | (refine Br_true (decide_eq_true (by omega)) ?_)
          | (refine Br_false (decide_eq_false (by omega)) ?_)
          | (refine Br_dec (fun h => ?_) (fun h => ?_))
          | (refine Br_not ?_)
          | (refine Len_in (fun hlen => ?_))
          | (refine W_draw 0 tt_ok mixed (by kernel_rfl) ?_)
          | (refine Idx_in _ hia (by omega) rfl ?_)
          | (refine Idx_in _ hib (by omega) rfl ?_)
          | (refine Back_in _ _ ⟨k + 1, by omega, rfl, hn, rfl⟩ (by omega) (Wk_env (by repeat (first | exact trivial | refine ⟨rfl, ?_⟩))))
          | (refine Br_split (fun h => ?_) (fun h => ?_))
          | (refine fin0 rfl ?_)
          | (refine ArK_in (wrap_i64 (by omega) (by omega)) ?_)
          | (refine force_in ?_)))
      · have e : decide (a = b) = false := decide_eq_false fun h => hq ((steps_eq a b).1 h |>.2 k ha hb)
        rw [e]
        have hall : allB [a[k].f == b[k].f, a[k].a == b[k].a, a[k].b == b[k].b] = false := by
          cases hh : allB [a[k].f == b[k].f, a[k].a == b[k].a, a[k].b == b[k].b]
          · rfl
          · simp [allB] at hh
            exact absurd (by
              generalize a[k] = x at *
              generalize b[k] = y at *
              obtain ⟨x1, x2, x3⟩ := x
              obtain ⟨y1, y2, y3⟩ := y
              simp at hh
              obtain ⟨rfl, rfl, rfl⟩ := hh
              rfl) hq
        repeat' ((conv => whnf); (first
          | (refine Br_false hall ?_)
          | (refine Br_true (by assumption) ?_)
          | (refine Br_false (by assumption) ?_)
          | (refine Br_true (beqT (by omega)) ?_)
          | (refine Br_false (beqF (by omega)) ?_)
          | (refine Br_beq (fun h => ?_) (fun h => ?_))
          | (refine Br_true (bneT (by omega)) ?_)
          | (refine Br_false (bneF (by omega)) ?_)
          | (refine Br_bne (fun h => ?_) (fun h => ?_))
          | (refine Br_true (decide_eq_true (by omega)) ?_)
          | (refine Br_false (decide_eq_false (by omega)) ?_)
          | (refine Br_dec (fun h => ?_) (fun h => ?_))
          | (refine Br_not ?_)
          | (refine Len_in (fun hlen => ?_))
          | (refine W_draw 0 tt_ok mixed (by kernel_rfl) ?_)
          | (refine Idx_in _ hia (by omega) rfl ?_)
          | (refine Idx_in _ hib (by omega) rfl ?_)
          | (refine Br_split (fun h => ?_) (fun h => ?_))
          | (refine fin0 rfl ?_)
          | (refine ArK_in (wrap_i64 (by omega) (by omega)) ?_)
          | (refine force_in ?_)))
        rfl
    · have hka : a.length ≤ k := by rw [hal] at h; omega
      have e : decide (a = b) = true := decide_eq_true ((steps_eq a b).2 ⟨hl, fun i h1 h2 => hI i h1 h2 (by omega)⟩)
      rw [e]
      repeat' ((conv => whnf); (first
        | (refine Br_true (by assumption) ?_)
        | (refine Br_false (by assumption) ?_)
        | (refine Br_true (beqT (by omega)) ?_)
        | (refine Br_false (beqF (by omega)) ?_)
        | (refine Br_beq (fun h => ?_) (fun h => ?_))
        | (refine Br_true (bneT (by omega)) ?_)
        | (refine Br_false (bneF (by omega)) ?_)
        | (refine Br_bne (fun h => ?_) (fun h => ?_))
        | (refine Br_true (decide_eq_true (by omega)) ?_)
        | (refine Br_false (decide_eq_false (by omega)) ?_)
        | (refine Br_dec (fun h => ?_) (fun h => ?_))
        | (refine Br_not ?_)
        | (refine Len_in (fun hlen => ?_))
        | (refine Br_split (fun h => ?_) (fun h => ?_))
        | (refine fin0 rfl ?_)
        | (refine ArK_in (wrap_i64 (by omega) (by omega)) ?_)
        | (refine force_in ?_)))
      rfl
  · have hc : (((List.map Step.cs a).length : Int) == ((List.map Step.cs b).length : Int)) = false := by rw [hal, hbl]; simp; omega
    have hc' : (!(((List.map Step.cs a).length : Int) == ((List.map Step.cs b).length : Int))) = true := by rw [hc]; rfl
    have e : decide (a = b) = false := decide_eq_false fun h => hl (by rw [h])
    rw [e]
    repeat' ((conv => whnf); (first
      | (refine Br_true hc' ?_)
      | (refine Br_false hc ?_)
      | (refine Br_true (by assumption) ?_)
      | (refine Br_false (by assumption) ?_)
      | (refine Br_true (beqT (by omega)) ?_)
      | (refine Br_false (beqF (by omega)) ?_)
      | (refine Br_beq (fun h => ?_) (fun h => ?_))
      | (refine Br_true (bneT (by omega)) ?_)
      | (refine Br_false (bneF (by omega)) ?_)
      | (refine Br_bne (fun h => ?_) (fun h => ?_))
      | (refine Br_true (decide_eq_true (by omega)) ?_)
      | (refine Br_false (decide_eq_false (by omega)) ?_)
      | (refine Br_dec (fun h => ?_) (fun h => ?_))
      | (refine Br_not ?_)
      | (refine Len_in (fun hlen => ?_))
      | (refine Len_in (fun hlen => ?_))
      | (refine Br_split (fun h => ?_) (fun h => ?_))
      | (refine fin0 rfl ?_)
      | (refine ArK_in (wrap_i64 (by omega) (by omega)) ?_)
      | (refine force_in ?_)))
    rfl
end Go.Eng
set_option maxRecDepth 100000
set_option linter.unusedVariables false
set_option linter.unusedSimpArgs false
namespace Go.Eng
open Go Go.Proofs
set_option maxHeartbeats 2000000 in
theorem law_own (l : List Step) (hl : l.length ≤ 1000) : Fn Tryd.prog 12 [.d (stepsD l)] (.d (stepsD l)) := by
  refine Fn_of tt_ok Tryd.func12 rfl (by decide) Tryd.ntmps12 rfl ?_
  refine W_loop (fun μ st => ∃ (k : Nat) (w : List Step), k ≤ l.length ∧ μ = l.length - k ∧ w = l.take k ∧ st = ⟨[(0, .d (stepsD l)), (3, AccV 0 3 (w.map Step.cs)), (4, .i k)], 31, [AccB (w.map Step.cs)], 0, []⟩) l.length
    ⟨⟨[(0, .d (stepsD l)), (3, .nsl), (4, .i 0)], 31, [none], 0, []⟩, ?_, 0, [], by omega, by omega, by simp, by simp [AccV_nil, AccB_nil]⟩ ?_
  · exact Wk.trans Wk_pad (Wk_env (by repeat (first | exact trivial | refine ⟨rfl, ?_⟩)))
  rintro μ s1 ⟨k, w, hk, rfl, hw, rfl⟩
  have hwl : w.length = k := by rw [hw]; simp; omega
  refine W_run tt_ok ?_
  refine Len_in (fun hlen => ?_)
  refine Br_dec (fun h => ?_) (fun h => ?_)
  · simp at h
    have hlt := h
    have hi : (List.map Step.cs l)[(k : Int).toNat]? = some (l[k]).cs := by simp [hlt]
    have htk : l.take (k + 1) = w ++ [l[k]] := by rw [hw]; exact List.take_succ_eq_append_getElem hlt
    have ha := Acc_app (b := 0) (sz := 3) (rows := w.map Step.cs) (new := [(l[k]).cs]) (by simp)
    repeat' ((conv => whnf); (first
      | (refine Br_true (by assumption) ?_)
      | (refine Br_false (by assumption) ?_)
      | (refine Br_true (beqT (by omega)) ?_)
      | (refine Br_false (beqF (by omega)) ?_)
      | (refine Br_beq (fun h => ?_) (fun h => ?_))
      | (refine Br_true (bneT (by omega)) ?_)
      | (refine Br_false (bneF (by omega)) ?_)
      | (refine Br_bne (fun h => ?_) (fun h => ?_))
      | (refine Br_true (decide_eq_true (by omega)) ?_)
      | (refine Br_false (decide_eq_false (by omega)) ?_)
      | (refine Br_dec (fun h => ?_) (fun h => ?_))
      | (refine Br_not ?_)
      | (refine Len_in (fun hlen => ?_))
      | (refine W_draw 0 tt_ok mixed (by kernel_rfl) ?_)
      | (refine Idx_in _ hi (by omega) rfl ?_)
      | (refine Br_split (fun h => ?_) (fun h => ?_))
      | (refine fin0 rfl ?_)
      | (refine ArK_in (wrap_i64 (by omega) (by omega)) ?_)
      | (refine force_in ?_)))
    refine App_acc (w.map Step.cs) [(l[k]).cs] rfl rfl rfl rfl (by simp) cs3 (by intro r hr; simp at hr; subst hr; rfl) (by simp only [List.length_map, List.length_cons, List.length_nil]; omega) (Nat.le_of_ble_eq_true rfl) ?_
    repeat' ((conv => whnf); (first
      | (refine Br_true (by assumption) ?_)
      | (refine Br_false (by assumption) ?_)
      | (refine Br_true (beqT (by omega)) ?_)
      | (refine Br_false (beqF (by omega)) ?_)
      | (refine Br_beq (fun h => ?_) (fun h => ?_))
      | (refine Br_true (bneT (by omega)) ?_)
      | (refine Br_false (bneF (by omega)) ?_)
      | (refine Br_bne (fun h => ?_) (fun h => ?_))
      | (refine Br_true (decide_eq_true (by omega)) ?_)
      | (refine Br_false (decide_eq_false (by omega)) ?_)
      | (refine Br_dec (fun h => ?_) (fun h => ?_))
      | (refine Br_not ?_)
      | (refine Len_in (fun hlen => ?_))
      | (refine Back_in ⟨[(0, .d (stepsD l)), (3, .msl 0 0 ((w.map Step.cs).length + 1) ((w.map Step.cs).length + 1) 3), (4, .i (k + 1 : Nat))], 31, [some (.row ((w.map Step.cs ++ [(l[k]).cs]).flatten.map .d))], 0, []⟩ _ ⟨k + 1, w ++ [l[k]], by omega, rfl, htk.symm, ?_⟩ (by omega) (Wk_ren [1] rfl rfl ⟨⟨by rw [renB_row]; rfl, lowB_row _ _⟩, trivial⟩ (by repeat (first | exact trivial | refine ⟨⟨rfl, rfl⟩, ?_⟩)) (by decide) (by omega)))
      | (refine Br_split (fun h => ?_) (fun h => ?_))
      | (refine fin0 rfl ?_)
      | (refine ArK_in (wrap_i64 (by omega) (by omega)) ?_)
      | (refine force_in ?_)))
    rw [List.map_append, show List.map Step.cs [l[k]] = [(l[k]).cs] from rfl, ha.1, ha.2]
    rfl
  · simp at h
    have hw' : w = l := by rw [hw]; exact List.take_of_length_le h
    rw [hw']
    repeat' ((conv => whnf); (first
      | (refine Br_true (by assumption) ?_)
      | (refine Br_false (by assumption) ?_)
      | (refine Br_true (beqT (by omega)) ?_)
      | (refine Br_false (beqF (by omega)) ?_)
      | (refine Br_beq (fun h => ?_) (fun h => ?_))
      | (refine Br_true (bneT (by omega)) ?_)
      | (refine Br_false (bneF (by omega)) ?_)
      | (refine Br_bne (fun h => ?_) (fun h => ?_))
      | (refine Br_true (decide_eq_true (by omega)) ?_)
      | (refine Br_false (decide_eq_false (by omega)) ?_)
      | (refine Br_dec (fun h => ?_) (fun h => ?_))
      | (refine Br_not ?_)
      | (refine Len_in (fun hlen => ?_))
      | (refine finW (Fin_acc (l.map Step.cs) rfl cs3 (Nat.zero_le _) rfl trivial) ⟨rfl, rfl⟩)
      | (refine Br_split (fun h => ?_) (fun h => ?_))
      | (refine fin0 rfl ?_)
      | (refine ArK_in (wrap_i64 (by omega) (by omega)) ?_)
      | (refine force_in ?_)))
set_option maxHeartbeats 2000000 in
theorem law_told (l : List Step) (hl : l.length ≤ 1000) : Fn Tryd.prog 17 [.d (stepsD l)] (.d (stepsD l)) := by
  refine Fn_of tt_ok Tryd.func17 rfl (by decide) Tryd.ntmps17 rfl ?_
  refine W_loop (fun μ st => ∃ (k : Nat) (w : List Step), k ≤ l.length ∧ μ = l.length - k ∧ w = l.take k ∧ st = ⟨[(0, .d (stepsD l)), (3, AccV 0 3 (w.map Step.cs)), (4, .i k)], 31, [AccB (w.map Step.cs)], 0, []⟩) l.length
    ⟨⟨[(0, .d (stepsD l)), (3, .nsl), (4, .i 0)], 31, [none], 0, []⟩, ?_, 0, [], by omega, by omega, by simp, by simp [AccV_nil, AccB_nil]⟩ ?_
  · exact Wk.trans Wk_pad (Wk_env (by repeat (first | exact trivial | refine ⟨rfl, ?_⟩)))
  rintro μ s1 ⟨k, w, hk, rfl, hw, rfl⟩
  have hwl : w.length = k := by rw [hw]; simp; omega
  refine W_run tt_ok ?_
  refine Len_in (fun hlen => ?_)
  refine Br_dec (fun h => ?_) (fun h => ?_)
  · simp at h
    have hlt := h
    have hi : (List.map Step.cs l)[(k : Int).toNat]? = some (l[k]).cs := by simp [hlt]
    have htk : l.take (k + 1) = w ++ [l[k]] := by rw [hw]; exact List.take_succ_eq_append_getElem hlt
    have ha := Acc_app (b := 0) (sz := 3) (rows := w.map Step.cs) (new := [(l[k]).cs]) (by simp)
    repeat' ((conv => whnf); (first
      | (refine Br_true (by assumption) ?_)
      | (refine Br_false (by assumption) ?_)
      | (refine Br_true (beqT (by omega)) ?_)
      | (refine Br_false (beqF (by omega)) ?_)
      | (refine Br_beq (fun h => ?_) (fun h => ?_))
      | (refine Br_true (bneT (by omega)) ?_)
      | (refine Br_false (bneF (by omega)) ?_)
      | (refine Br_bne (fun h => ?_) (fun h => ?_))
      | (refine Br_true (decide_eq_true (by omega)) ?_)
      | (refine Br_false (decide_eq_false (by omega)) ?_)
      | (refine Br_dec (fun h => ?_) (fun h => ?_))
      | (refine Br_not ?_)
      | (refine Len_in (fun hlen => ?_))
      | (refine W_draw 0 tt_ok mixed (by kernel_rfl) ?_)
      | (refine Idx_in _ hi (by omega) rfl ?_)
      | (refine Br_split (fun h => ?_) (fun h => ?_))
      | (refine fin0 rfl ?_)
      | (refine ArK_in (wrap_i64 (by omega) (by omega)) ?_)
      | (refine force_in ?_)))
    refine App_acc (w.map Step.cs) [(l[k]).cs] rfl rfl rfl rfl (by simp) cs3 (by intro r hr; simp at hr; subst hr; rfl) (by simp only [List.length_map, List.length_cons, List.length_nil]; omega) (Nat.le_of_ble_eq_true rfl) ?_
    repeat' ((conv => whnf); (first
      | (refine Br_true (by assumption) ?_)
      | (refine Br_false (by assumption) ?_)
      | (refine Br_true (beqT (by omega)) ?_)
      | (refine Br_false (beqF (by omega)) ?_)
      | (refine Br_beq (fun h => ?_) (fun h => ?_))
      | (refine Br_true (bneT (by omega)) ?_)
      | (refine Br_false (bneF (by omega)) ?_)
      | (refine Br_bne (fun h => ?_) (fun h => ?_))
      | (refine Br_true (decide_eq_true (by omega)) ?_)
      | (refine Br_false (decide_eq_false (by omega)) ?_)
      | (refine Br_dec (fun h => ?_) (fun h => ?_))
      | (refine Br_not ?_)
      | (refine Len_in (fun hlen => ?_))
      | (refine Back_in ⟨[(0, .d (stepsD l)), (3, .msl 0 0 ((w.map Step.cs).length + 1) ((w.map Step.cs).length + 1) 3), (4, .i (k + 1 : Nat))], 31, [some (.row ((w.map Step.cs ++ [(l[k]).cs]).flatten.map .d))], 0, []⟩ _ ⟨k + 1, w ++ [l[k]], by omega, rfl, htk.symm, ?_⟩ (by omega) (Wk_ren [1] rfl rfl ⟨⟨by rw [renB_row]; rfl, lowB_row _ _⟩, trivial⟩ (by repeat (first | exact trivial | refine ⟨⟨rfl, rfl⟩, ?_⟩)) (by decide) (by omega)))
      | (refine Br_split (fun h => ?_) (fun h => ?_))
      | (refine fin0 rfl ?_)
      | (refine ArK_in (wrap_i64 (by omega) (by omega)) ?_)
      | (refine force_in ?_)))
    rw [List.map_append, show List.map Step.cs [l[k]] = [(l[k]).cs] from rfl, ha.1, ha.2]
    rfl
  · simp at h
    have hw' : w = l := by rw [hw]; exact List.take_of_length_le h
    rw [hw']
    repeat' ((conv => whnf); (first
      | (refine Br_true (by assumption) ?_)
      | (refine Br_false (by assumption) ?_)
      | (refine Br_true (beqT (by omega)) ?_)
      | (refine Br_false (beqF (by omega)) ?_)
      | (refine Br_beq (fun h => ?_) (fun h => ?_))
      | (refine Br_true (bneT (by omega)) ?_)
      | (refine Br_false (bneF (by omega)) ?_)
      | (refine Br_bne (fun h => ?_) (fun h => ?_))
      | (refine Br_true (decide_eq_true (by omega)) ?_)
      | (refine Br_false (decide_eq_false (by omega)) ?_)
      | (refine Br_dec (fun h => ?_) (fun h => ?_))
      | (refine Br_not ?_)
      | (refine Len_in (fun hlen => ?_))
      | (refine finW (Fin_acc (l.map Step.cs) rfl cs3 (Nat.zero_le _) rfl trivial) ⟨rfl, rfl⟩)
      | (refine Br_split (fun h => ?_) (fun h => ?_))
      | (refine fin0 rfl ?_)
      | (refine ArK_in (wrap_i64 (by omega) (by omega)) ?_)
      | (refine force_in ?_)))
end Go.Eng
set_option maxRecDepth 100000
set_option linter.unusedVariables false
set_option linter.unusedSimpArgs false
namespace Go.Eng
open Go Go.Proofs
def lv3 : List Step := [⟨0, 3, 0⟩, ⟨2, 1, 20⟩, ⟨11, 0, 0⟩]
def tx3 : List UInt8 := [102, 111, 99, 117, 115, 32, 51, 59, 105, 110, 115, 101, 114, 116, 32, 49, 32, 50, 48, 59, 115, 116, 111, 112]
theorem lv_a : checkB lv3 = true := by kernel_rfl
theorem lv_b : textL lv3 = tx3 := by kernel_rfl
theorem lv_c : parseV [102, 111, 99, 117, 115] = ([], 13) := by kernel_rfl
theorem lv_d : parseV [102, 111, 99, 117, 115, 32, 48, 51] = ([], 13) := by kernel_rfl
theorem lv_e : parseV [] = ([], 0) := by kernel_rfl
theorem lv_f : checkB [⟨11, 1, 0⟩] = false := by kernel_rfl
theorem lv_g : nameV 12 = [115, 116, 111, 112, 110, 111, 119] := by kernel_rfl
theorem lv_h : nameV 15 = [] := by kernel_rfl
def by3 : ByteArray := ⟨#[102, 111, 99, 117, 115, 32, 51, 59, 105, 110, 115, 101, 114, 116, 32, 49, 32, 50, 48, 59, 115, 116, 111, 112]⟩
theorem live20_facts : ∃ (T : List Step) (s3 s1 s2 s4 : ByteArray),
    s3 = ⟨#[102, 111, 99, 117, 115, 32, 51, 59, 105, 110, 115, 101, 114, 116, 32, 49, 32, 50, 48, 59, 115, 116, 111, 112]⟩ ∧ s1 = ⟨#[102, 111, 99, 117, 115]⟩ ∧ s2 = ⟨#[102, 111, 99, 117, 115, 32, 48, 51]⟩ ∧ s4 = ⟨#[115, 116, 111, 112, 110, 111, 119]⟩ ∧
    Fn Tryd.prog 9 [.d (.str s3)] (.tup [.d (stepsD T), .i 0]) ∧
    Fn Tryd.prog 9 [.d (.str s1)] (.tup [.d (.sl []), .i 13]) ∧
    Fn Tryd.prog 9 [.d (.str s2)] (.tup [.d (.sl []), .i 13]) ∧
    Fn Tryd.prog 9 [.d (.str ⟨#[]⟩)] (.tup [.d (.sl []), .i 0]) ∧
    Fn Tryd.prog 14 [.d (stepsD T)] (.d (.str s3)) ∧
    Fn Tryd.prog 11 [.d (stepsD T)] (.i 0) ∧
    Fn Tryd.prog 11 [.d (.sl [[.i 11, .i 1, .i 0]])] (.i 1) ∧
    Fn Tryd.prog 18 [.i 12] (.d (.str s4)) ∧
    Fn Tryd.prog 18 [.i 15] (.d (.str ⟨#[]⟩)) ∧
    (T.map Step.cs).length = 3 ∧ (T.map Step.cs)[(1 : Int).toNat]? = some [.i 2, .i 1, .i 20] := by
  refine ⟨lv3, _, _, _, _, rfl, rfl, rfl, rfl, ?_, ?_, ?_, ?_, ?_, ?_, ?_, ?_, ?_, rfl, rfl⟩
  · have := prog_Parse tx3 (by decide); rw [← lv_b, parse_text lv_a, lv_b] at this; exact this
  · have := prog_Parse [102, 111, 99, 117, 115] (by decide); rw [lv_c] at this; exact this
  · have := prog_Parse [102, 111, 99, 117, 115, 32, 48, 51] (by decide); rw [lv_d] at this; exact this
  · have := prog_Parse [] (by decide); rw [lv_e] at this; exact this
  · have := prog_Text lv3; rw [lv_b] at this; exact this
  · have := prog_Check lv3; rw [lv_a] at this; exact this
  · have := prog_Check [⟨11, 1, 0⟩]; rw [lv_f] at this; exact this
  · have := prog_Name 12; rw [lv_g] at this; exact this
  · have := prog_Name 15; rw [lv_h] at this; exact this
set_option maxHeartbeats 2000000 in
theorem live20_true : Fn Tryd.prog 8 [] (.b true) := by
  refine Fn_of tt_ok Tryd.func8 rfl (by decide) Tryd.ntmps8 rfl ?_
  obtain ⟨T, s3, s1, s2, s4, e3, e1, e2, e4, h1, h2, h3, h4, h5, h6, h7, h8, h9, hl, hi⟩ := live20_facts
  have i3 : [AV.d (.str ⟨#[102, 111, 99, 117, 115, 32, 51, 59, 105, 110, 115, 101, 114, 116, 32, 49, 32, 50, 48, 59, 115, 116, 111, 112]⟩)] = [AV.d (.str s3)] := by rw [e3]
  have i1 : [AV.d (.str ⟨#[102, 111, 99, 117, 115]⟩)] = [AV.d (.str s1)] := by rw [e1]
  have i2 : [AV.d (.str ⟨#[102, 111, 99, 117, 115, 32, 48, 51]⟩)] = [AV.d (.str s2)] := by rw [e2]
  have c3 : (s3.toList == (⟨#[102, 111, 99, 117, 115, 32, 51, 59, 105, 110, 115, 101, 114, 116, 32, 49, 32, 50, 48, 59, 115, 116, 111, 112]⟩ : ByteArray).toList) = true := by rw [e3]; simp
  have c4 : (s4.toList == (⟨#[115, 116, 111, 112, 110, 111, 119]⟩ : ByteArray).toList) = true := by rw [e4]; simp
  have c5 : ((⟨#[]⟩ : ByteArray).toList == (⟨#[]⟩ : ByteArray).toList) = true := by simp
  have z1 : (((List.map Step.cs T).length : Int) == 3) = true := by rw [hl]; rfl
  have z2 : (!(((List.map Step.cs T).length : Int) == 3)) = false := by rw [z1]; rfl
  repeat' ((conv => whnf); (first
    | (refine Br_true z1 ?_)
    | (refine Br_false z2 ?_)
    | (refine Br_true c3 ?_)
    | (refine Br_true c4 ?_)
    | (refine Br_true c5 ?_)
    | (refine Ch_r ?_)
    | (refine Br_true (by assumption) ?_)
    | (refine Br_false (by assumption) ?_)
    | (refine Br_true (beqT (by omega)) ?_)
    | (refine Br_false (beqF (by omega)) ?_)
    | (refine Br_beq (fun h => ?_) (fun h => ?_))
    | (refine Br_true (bneT (by omega)) ?_)
    | (refine Br_false (bneF (by omega)) ?_)
    | (refine Br_bne (fun h => ?_) (fun h => ?_))
    | (refine Br_true (decide_eq_true (by omega)) ?_)
    | (refine Br_false (decide_eq_false (by omega)) ?_)
    | (refine Br_dec (fun h => ?_) (fun h => ?_))
    | (refine Br_not ?_)
    | (refine Len_in (fun hlen => ?_))
    | (refine Len_in (fun _ => ?_))
    | (refine Idx_in _ hi (by omega) rfl ?_)
    | (refine Fn.useE h1 i3 rfl rfl ?_)
    | (refine Fn.useE h2 i1 rfl rfl ?_)
    | (refine Fn.useE h3 i2 rfl rfl ?_)
    | (refine Fn.use (h4) rfl rfl ?_)
    | (refine CallF_in (h4) rfl rfl ?_)
    | (refine Fn.use (h5) rfl rfl ?_)
    | (refine CallF_in (h5) rfl rfl ?_)
    | (refine Fn.use (h6) rfl rfl ?_)
    | (refine CallF_in (h6) rfl rfl ?_)
    | (refine Fn.use (h7) rfl rfl ?_)
    | (refine CallF_in (h7) rfl rfl ?_)
    | (refine Fn.use (h8) rfl rfl ?_)
    | (refine CallF_in (h8) rfl rfl ?_)
    | (refine Fn.use (h9) rfl rfl ?_)
    | (refine CallF_in (h9) rfl rfl ?_)
    | (refine Br_split (fun h => ?_) (fun h => ?_))
    | (refine fin0 rfl ?_)
    | (refine ArK_in (wrap_i64 (by omega) (by omega)) ?_)
    | (refine force_in ?_)))
  exact congrArg (fun b => AV.d (D.bool b)) c5
end Go.Eng
set_option maxRecDepth 100000
set_option linter.unusedVariables false
set_option linter.unusedSimpArgs false
namespace Go.Eng
open Go Go.Proofs
theorem parse_len (s : List UInt8) : (parseV s).1.length ≤ 16 := by
  unfold parseV
  split
  · simp
  · split
    · rename_i h; simp; exact h.1
    · simp
theorem ba_same (b : ByteArray) : (b.toList == b.toList) = true := by simp
theorem int_same (n : Int) : (n == n) = true := by simp
set_option maxHeartbeats 2000000 in
theorem law_ProgTells (l : List Step) (s : List UInt8) : Fn Tryd.prog 3 [.d (stepsD l), .d (str s)] (.b true) := by
  refine Fn_of tt_ok Tryd.func3 rfl (by decide) Tryd.ntmps3 rfl ?_
  have es := str_size s
  have hll : (List.map Step.cs l).length = l.length := by simp
  by_cases g1 : l.length > 30
  · have z : decide (((List.map Step.cs l).length : Int) > 30) = true := decide_eq_true (by rw [hll]; omega)
    repeat' ((conv => whnf); (first
      | (refine Br_true z ?_)
      | (refine Br_true (by assumption) ?_)
      | (refine Br_false (by assumption) ?_)
      | (refine Br_true (beqT (by omega)) ?_)
      | (refine Br_false (beqF (by omega)) ?_)
      | (refine Br_beq (fun h => ?_) (fun h => ?_))
      | (refine Br_true (bneT (by omega)) ?_)
      | (refine Br_false (bneF (by omega)) ?_)
      | (refine Br_bne (fun h => ?_) (fun h => ?_))
      | (refine Br_true (decide_eq_true (by omega)) ?_)
      | (refine Br_false (decide_eq_false (by omega)) ?_)
      | (refine Br_dec (fun h => ?_) (fun h => ?_))
      | (refine Br_not ?_)
      | (refine Len_in (fun hlen => ?_))
      | (refine Len_in (fun _ => ?_))
      | (refine Fn.use (live20_true) rfl rfl ?_)
      | (refine CallF_in (live20_true) rfl rfl ?_)
      | (refine Br_split (fun h => ?_) (fun h => ?_))
      | (refine fin0 rfl ?_)
      | (refine ArK_in (wrap_i64 (by omega) (by omega)) ?_)
      | (refine force_in ?_)))
    all_goals rfl
  have z1 : decide (((List.map Step.cs l).length : Int) > 30) = false := decide_eq_false (by rw [hll]; omega)
  by_cases g2 : s.length > 400
  · have z2 : decide (((⟨s.toArray⟩ : ByteArray).size : Int) > 400) = true := decide_eq_true (by rw [es]; omega)
    repeat' ((conv => whnf); (first
      | (refine Br_false z1 ?_)
      | (refine Br_true z2 ?_)
      | (refine Br_true (by assumption) ?_)
      | (refine Br_false (by assumption) ?_)
      | (refine Br_true (beqT (by omega)) ?_)
      | (refine Br_false (beqF (by omega)) ?_)
      | (refine Br_beq (fun h => ?_) (fun h => ?_))
      | (refine Br_true (bneT (by omega)) ?_)
      | (refine Br_false (bneF (by omega)) ?_)
      | (refine Br_bne (fun h => ?_) (fun h => ?_))
      | (refine Br_true (decide_eq_true (by omega)) ?_)
      | (refine Br_false (decide_eq_false (by omega)) ?_)
      | (refine Br_dec (fun h => ?_) (fun h => ?_))
      | (refine Br_not ?_)
      | (refine Len_in (fun hlen => ?_))
      | (refine Len_in (fun _ => ?_))
      | (refine Fn.use (live20_true) rfl rfl ?_)
      | (refine CallF_in (live20_true) rfl rfl ?_)
      | (refine Br_split (fun h => ?_) (fun h => ?_))
      | (refine fin0 rfl ?_)
      | (refine ArK_in (wrap_i64 (by omega) (by omega)) ?_)
      | (refine force_in ?_)))
    all_goals rfl
  have z2 : decide (((⟨s.toArray⟩ : ByteArray).size : Int) > 400) = false := decide_eq_false (by rw [es]; omega)
  have h1 := prog_Parse s (by omega)
  have h2 := ref20_Parse s (by omega)
  have hpl := parse_len s
  generalize parseV s = pv at *
  obtain ⟨A, E⟩ := pv
  dsimp only at h1 h2 hpl
  have h3 := law_own l (by omega)
  have h4 := prog_Check l
  have h5 := ref20_Check l
  have h6 := prog_Text l
  have h7 := ref20_Text l
  have h8 := law_told A (by omega)
  have h9 := ref20_Same A A
  rw [decide_eq_true rfl] at h9
  generalize textL l = tx at *
  generalize (if checkB l = true then 0 else 1 : Int) = cc at *
  repeat' ((conv => whnf); (first
    | (refine Br_false z1 ?_)
    | (refine Br_false z2 ?_)
    | (refine Br_true (ba_same _) ?_)
    | (refine Br_true (int_same _) ?_)
    | (refine Br_true (by assumption) ?_)
    | (refine Br_false (by assumption) ?_)
    | (refine Br_true (beqT (by omega)) ?_)
    | (refine Br_false (beqF (by omega)) ?_)
    | (refine Br_beq (fun h => ?_) (fun h => ?_))
    | (refine Br_true (bneT (by omega)) ?_)
    | (refine Br_false (bneF (by omega)) ?_)
    | (refine Br_bne (fun h => ?_) (fun h => ?_))
    | (refine Br_true (decide_eq_true (by omega)) ?_)
    | (refine Br_false (decide_eq_false (by omega)) ?_)
    | (refine Br_dec (fun h => ?_) (fun h => ?_))
    | (refine Br_not ?_)
    | (refine Len_in (fun hlen => ?_))
    | (refine Len_in (fun _ => ?_))
    | (refine Fn.use (h1) rfl rfl ?_)
    | (refine CallF_in (h1) rfl rfl ?_)
    | (refine Fn.use (h2) rfl rfl ?_)
    | (refine CallF_in (h2) rfl rfl ?_)
    | (refine Fn.use (h3) rfl rfl ?_)
    | (refine CallF_in (h3) rfl rfl ?_)
    | (refine Fn.use (h4) rfl rfl ?_)
    | (refine CallF_in (h4) rfl rfl ?_)
    | (refine Fn.use (h5) rfl rfl ?_)
    | (refine CallF_in (h5) rfl rfl ?_)
    | (refine Fn.use (h6) rfl rfl ?_)
    | (refine CallF_in (h6) rfl rfl ?_)
    | (refine Fn.use (h7) rfl rfl ?_)
    | (refine CallF_in (h7) rfl rfl ?_)
    | (refine Fn.use (h8) rfl rfl ?_)
    | (refine CallF_in (h8) rfl rfl ?_)
    | (refine Fn.use (h9) rfl rfl ?_)
    | (refine CallF_in (h9) rfl rfl ?_)
    | (refine Fn.use (live20_true) rfl rfl ?_)
    | (refine CallF_in (live20_true) rfl rfl ?_)
    | (refine Br_split (fun h => ?_) (fun h => ?_))
    | (refine fin0 rfl ?_)
    | (refine ArK_in (wrap_i64 (by omega) (by omega)) ?_)
    | (refine force_in ?_)))
  rfl
theorem law_ProgNames (n : Int) : Fn Tryd.prog 4 [.i n] (.b true) := by
  refine Fn_of tt_ok Tryd.func4 rfl (by decide) Tryd.ntmps4 rfl ?_
  have h1 := prog_Name n
  have h2 := ref20_Name n
  generalize nameV n = w at *
  repeat' ((conv => whnf); (first
    | (refine Br_true (ba_same _) ?_)
    | (refine Br_true (by assumption) ?_)
    | (refine Br_false (by assumption) ?_)
    | (refine Br_true (beqT (by omega)) ?_)
    | (refine Br_false (beqF (by omega)) ?_)
    | (refine Br_beq (fun h => ?_) (fun h => ?_))
    | (refine Br_true (bneT (by omega)) ?_)
    | (refine Br_false (bneF (by omega)) ?_)
    | (refine Br_bne (fun h => ?_) (fun h => ?_))
    | (refine Br_true (decide_eq_true (by omega)) ?_)
    | (refine Br_false (decide_eq_false (by omega)) ?_)
    | (refine Br_dec (fun h => ?_) (fun h => ?_))
    | (refine Br_not ?_)
    | (refine Len_in (fun hlen => ?_))
    | (refine Fn.use (h1) rfl rfl ?_)
    | (refine CallF_in (h1) rfl rfl ?_)
    | (refine Fn.use (h2) rfl rfl ?_)
    | (refine CallF_in (h2) rfl rfl ?_)
    | (refine Fn.use (live20_true) rfl rfl ?_)
    | (refine CallF_in (live20_true) rfl rfl ?_)
    | (refine Br_split (fun h => ?_) (fun h => ?_))
    | (refine fin0 rfl ?_)
    | (refine ArK_in (wrap_i64 (by omega) (by omega)) ?_)
    | (refine force_in ?_)))
  rfl
set_option maxHeartbeats 2000000 in
theorem law_ProgBack (l : List Step) (s : List UInt8) : Fn Tryd.prog 5 [.d (stepsD l), .d (str s)] (.b true) := by
  refine Fn_of tt_ok Tryd.func5 rfl (by decide) Tryd.ntmps5 rfl ?_
  have es := str_size s
  have hll : (List.map Step.cs l).length = l.length := by simp
  by_cases g1 : l.length > 30
  · have z : decide (((List.map Step.cs l).length : Int) > 30) = true := decide_eq_true (by rw [hll]; omega)
    repeat' ((conv => whnf); (first
      | (refine Br_true z ?_)
      | (refine Br_true (by assumption) ?_)
      | (refine Br_false (by assumption) ?_)
      | (refine Br_true (beqT (by omega)) ?_)
      | (refine Br_false (beqF (by omega)) ?_)
      | (refine Br_beq (fun h => ?_) (fun h => ?_))
      | (refine Br_true (bneT (by omega)) ?_)
      | (refine Br_false (bneF (by omega)) ?_)
      | (refine Br_bne (fun h => ?_) (fun h => ?_))
      | (refine Br_true (decide_eq_true (by omega)) ?_)
      | (refine Br_false (decide_eq_false (by omega)) ?_)
      | (refine Br_dec (fun h => ?_) (fun h => ?_))
      | (refine Br_not ?_)
      | (refine Len_in (fun hlen => ?_))
      | (refine Len_in (fun _ => ?_))
      | (refine Fn.use (live20_true) rfl rfl ?_)
      | (refine CallF_in (live20_true) rfl rfl ?_)
      | (refine Br_split (fun h => ?_) (fun h => ?_))
      | (refine fin0 rfl ?_)
      | (refine ArK_in (wrap_i64 (by omega) (by omega)) ?_)
      | (refine force_in ?_)))
    all_goals rfl
  have z1 : decide (((List.map Step.cs l).length : Int) > 30) = false := decide_eq_false (by rw [hll]; omega)
  by_cases g2 : s.length > 400
  · have z2 : decide (((⟨s.toArray⟩ : ByteArray).size : Int) > 400) = true := decide_eq_true (by rw [es]; omega)
    repeat' ((conv => whnf); (first
      | (refine Br_false z1 ?_)
      | (refine Br_true z2 ?_)
      | (refine Br_true (by assumption) ?_)
      | (refine Br_false (by assumption) ?_)
      | (refine Br_true (beqT (by omega)) ?_)
      | (refine Br_false (beqF (by omega)) ?_)
      | (refine Br_beq (fun h => ?_) (fun h => ?_))
      | (refine Br_true (bneT (by omega)) ?_)
      | (refine Br_false (bneF (by omega)) ?_)
      | (refine Br_bne (fun h => ?_) (fun h => ?_))
      | (refine Br_true (decide_eq_true (by omega)) ?_)
      | (refine Br_false (decide_eq_false (by omega)) ?_)
      | (refine Br_dec (fun h => ?_) (fun h => ?_))
      | (refine Br_not ?_)
      | (refine Len_in (fun hlen => ?_))
      | (refine Len_in (fun _ => ?_))
      | (refine Fn.use (live20_true) rfl rfl ?_)
      | (refine CallF_in (live20_true) rfl rfl ?_)
      | (refine Br_split (fun h => ?_) (fun h => ?_))
      | (refine fin0 rfl ?_)
      | (refine ArK_in (wrap_i64 (by omega) (by omega)) ?_)
      | (refine force_in ?_)))
    all_goals rfl
  have z2 : decide (((⟨s.toArray⟩ : ByteArray).size : Int) > 400) = false := decide_eq_false (by rw [es]; omega)
  have h1 := law_own l (by omega)
  have h2 := prog_Check l
  have h3 := prog_Text l
  have h5 := law_told l (by omega)
  have h6 := ref20_Same l l
  rw [decide_eq_true rfl] at h6
  have p1 := prog_Parse s (by omega)
  have tl : checkB l = true → (textL l).length ≤ 1000000 := fun hc => by
    obtain ⟨h16, hst⟩ := checkB_iff.1 hc
    unfold textL
    rw [if_pos hc]
    refine Nat.le_trans (joinL_len 59 _ 100 fun w hw => ?_) (Nat.le_trans (Nat.mul_le_mul_right _ (by simp; omega : _ ≤ 16)) (by omega))
    obtain ⟨x, hx, rfl⟩ := List.mem_map.1 hw
    exact textS_len (hst x hx)
  have h4 : checkB l = true → Fn Tryd.prog 9 [.d (str (textL l))] (.tup [.d (stepsD l), .i 0]) := fun hc => by
    have := prog_Parse (textL l) (tl hc)
    rw [parse_text hc] at this
    exact this
  have tp := @text_parse s
  have hpT := prog_Text (parseV s).1
  have hpC := prog_Check (parseV s).1
  generalize parseV s = pv at *
  obtain ⟨A, E⟩ := pv
  dsimp only at *
  generalize textL l = tx at *
  cases hc : checkB l <;> rw [hc] at h2 h4
  · by_cases hE : E = 0
    · subst hE
      obtain ⟨t1, t2⟩ := tp rfl
      rw [t1] at hpC
      rw [t2] at hpT
      repeat' ((conv => whnf); (first
        | (refine Br_false z1 ?_)
        | (refine Br_false z2 ?_)
        | (refine Br_true (ba_same _) ?_)
        | (refine Br_true (by assumption) ?_)
        | (refine Br_false (by assumption) ?_)
        | (refine Br_true (beqT (by omega)) ?_)
        | (refine Br_false (beqF (by omega)) ?_)
        | (refine Br_beq (fun h => ?_) (fun h => ?_))
        | (refine Br_true (bneT (by omega)) ?_)
        | (refine Br_false (bneF (by omega)) ?_)
        | (refine Br_bne (fun h => ?_) (fun h => ?_))
        | (refine Br_true (decide_eq_true (by omega)) ?_)
        | (refine Br_false (decide_eq_false (by omega)) ?_)
        | (refine Br_dec (fun h => ?_) (fun h => ?_))
        | (refine Br_not ?_)
        | (refine Len_in (fun hlen => ?_))
        | (refine Len_in (fun _ => ?_))
        | (refine Fn.use (h1) rfl rfl ?_)
        | (refine CallF_in (h1) rfl rfl ?_)
        | (refine Fn.use (h2) rfl rfl ?_)
        | (refine CallF_in (h2) rfl rfl ?_)
        | (refine Fn.use (p1) rfl rfl ?_)
        | (refine CallF_in (p1) rfl rfl ?_)
        | (refine Fn.use (hpT) rfl rfl ?_)
        | (refine CallF_in (hpT) rfl rfl ?_)
        | (refine Fn.use (hpC) rfl rfl ?_)
        | (refine CallF_in (hpC) rfl rfl ?_)
        | (refine Fn.use (live20_true) rfl rfl ?_)
        | (refine CallF_in (live20_true) rfl rfl ?_)
        | (refine Br_split (fun h => ?_) (fun h => ?_))
        | (refine fin0 rfl ?_)
        | (refine ArK_in (wrap_i64 (by omega) (by omega)) ?_)
        | (refine force_in ?_)))
      all_goals rfl
    · have y1 : (E == 0) = false := by simpa using hE
      have y2 : (!(E == 0)) = true := by rw [y1]; rfl
      repeat' ((conv => whnf); (first
        | (refine Br_false z1 ?_)
        | (refine Br_false z2 ?_)
        | (refine Br_true y2 ?_)
        | (refine Br_false y1 ?_)
        | (refine Br_true (by assumption) ?_)
        | (refine Br_false (by assumption) ?_)
        | (refine Br_true (beqT (by omega)) ?_)
        | (refine Br_false (beqF (by omega)) ?_)
        | (refine Br_beq (fun h => ?_) (fun h => ?_))
        | (refine Br_true (bneT (by omega)) ?_)
        | (refine Br_false (bneF (by omega)) ?_)
        | (refine Br_bne (fun h => ?_) (fun h => ?_))
        | (refine Br_true (decide_eq_true (by omega)) ?_)
        | (refine Br_false (decide_eq_false (by omega)) ?_)
        | (refine Br_dec (fun h => ?_) (fun h => ?_))
        | (refine Br_not ?_)
        | (refine Len_in (fun hlen => ?_))
        | (refine Len_in (fun _ => ?_))
        | (refine Fn.use (h1) rfl rfl ?_)
        | (refine CallF_in (h1) rfl rfl ?_)
        | (refine Fn.use (h2) rfl rfl ?_)
        | (refine CallF_in (h2) rfl rfl ?_)
        | (refine Fn.use (p1) rfl rfl ?_)
        | (refine CallF_in (p1) rfl rfl ?_)
        | (refine Fn.use (live20_true) rfl rfl ?_)
        | (refine CallF_in (live20_true) rfl rfl ?_)
        | (refine Br_split (fun h => ?_) (fun h => ?_))
        | (refine fin0 rfl ?_)
        | (refine ArK_in (wrap_i64 (by omega) (by omega)) ?_)
        | (refine force_in ?_)))
      all_goals rfl
  · have h4 := h4 rfl
    by_cases hE : E = 0
    · subst hE
      obtain ⟨t1, t2⟩ := tp rfl
      rw [t1] at hpC
      rw [t2] at hpT
      repeat' ((conv => whnf); (first
        | (refine Br_false z1 ?_)
        | (refine Br_false z2 ?_)
        | (refine Br_true (ba_same _) ?_)
        | (refine Br_true (by assumption) ?_)
        | (refine Br_false (by assumption) ?_)
        | (refine Br_true (beqT (by omega)) ?_)
        | (refine Br_false (beqF (by omega)) ?_)
        | (refine Br_beq (fun h => ?_) (fun h => ?_))
        | (refine Br_true (bneT (by omega)) ?_)
        | (refine Br_false (bneF (by omega)) ?_)
        | (refine Br_bne (fun h => ?_) (fun h => ?_))
        | (refine Br_true (decide_eq_true (by omega)) ?_)
        | (refine Br_false (decide_eq_false (by omega)) ?_)
        | (refine Br_dec (fun h => ?_) (fun h => ?_))
        | (refine Br_not ?_)
        | (refine Len_in (fun hlen => ?_))
        | (refine Len_in (fun _ => ?_))
        | (refine Fn.use (h1) rfl rfl ?_)
        | (refine CallF_in (h1) rfl rfl ?_)
        | (refine Fn.use (h2) rfl rfl ?_)
        | (refine CallF_in (h2) rfl rfl ?_)
        | (refine Fn.use (h3) rfl rfl ?_)
        | (refine CallF_in (h3) rfl rfl ?_)
        | (refine Fn.use (h4) rfl rfl ?_)
        | (refine CallF_in (h4) rfl rfl ?_)
        | (refine Fn.use (h5) rfl rfl ?_)
        | (refine CallF_in (h5) rfl rfl ?_)
        | (refine Fn.use (h6) rfl rfl ?_)
        | (refine CallF_in (h6) rfl rfl ?_)
        | (refine Fn.use (p1) rfl rfl ?_)
        | (refine CallF_in (p1) rfl rfl ?_)
        | (refine Fn.use (hpT) rfl rfl ?_)
        | (refine CallF_in (hpT) rfl rfl ?_)
        | (refine Fn.use (hpC) rfl rfl ?_)
        | (refine CallF_in (hpC) rfl rfl ?_)
        | (refine Fn.use (live20_true) rfl rfl ?_)
        | (refine CallF_in (live20_true) rfl rfl ?_)
        | (refine Br_split (fun h => ?_) (fun h => ?_))
        | (refine fin0 rfl ?_)
        | (refine ArK_in (wrap_i64 (by omega) (by omega)) ?_)
        | (refine force_in ?_)))
      all_goals rfl
    · have y1 : (E == 0) = false := by simpa using hE
      have y2 : (!(E == 0)) = true := by rw [y1]; rfl
      repeat' ((conv => whnf); (first
        | (refine Br_false z1 ?_)
        | (refine Br_false z2 ?_)
        | (refine Br_true y2 ?_)
        | (refine Br_false y1 ?_)
        | (refine Br_true (by assumption) ?_)
        | (refine Br_false (by assumption) ?_)
        | (refine Br_true (beqT (by omega)) ?_)
        | (refine Br_false (beqF (by omega)) ?_)
        | (refine Br_beq (fun h => ?_) (fun h => ?_))
        | (refine Br_true (bneT (by omega)) ?_)
        | (refine Br_false (bneF (by omega)) ?_)
        | (refine Br_bne (fun h => ?_) (fun h => ?_))
        | (refine Br_true (decide_eq_true (by omega)) ?_)
        | (refine Br_false (decide_eq_false (by omega)) ?_)
        | (refine Br_dec (fun h => ?_) (fun h => ?_))
        | (refine Br_not ?_)
        | (refine Len_in (fun hlen => ?_))
        | (refine Len_in (fun _ => ?_))
        | (refine Fn.use (h1) rfl rfl ?_)
        | (refine CallF_in (h1) rfl rfl ?_)
        | (refine Fn.use (h2) rfl rfl ?_)
        | (refine CallF_in (h2) rfl rfl ?_)
        | (refine Fn.use (h3) rfl rfl ?_)
        | (refine CallF_in (h3) rfl rfl ?_)
        | (refine Fn.use (h4) rfl rfl ?_)
        | (refine CallF_in (h4) rfl rfl ?_)
        | (refine Fn.use (h5) rfl rfl ?_)
        | (refine CallF_in (h5) rfl rfl ?_)
        | (refine Fn.use (h6) rfl rfl ?_)
        | (refine CallF_in (h6) rfl rfl ?_)
        | (refine Fn.use (p1) rfl rfl ?_)
        | (refine CallF_in (p1) rfl rfl ?_)
        | (refine Fn.use (live20_true) rfl rfl ?_)
        | (refine CallF_in (live20_true) rfl rfl ?_)
        | (refine Br_split (fun h => ?_) (fun h => ?_))
        | (refine fin0 rfl ?_)
        | (refine ArK_in (wrap_i64 (by omega) (by omega)) ?_)
        | (refine force_in ?_)))
      all_goals rfl
end Go.Eng
set_option maxRecDepth 100000
set_option linter.unusedVariables false
set_option linter.unusedSimpArgs false
namespace Go.Eng
open Go Go.Proofs
theorem FB_row {g F : List Nat} {H : Heap} (l : List D) : FB g F H (.row (l.map .d)) (.row (l.map .d)) := .row _ _ (Nat.le_refl _) fun i x y hx hy => by
  rw [hx] at hy
  injection hy with hy
  subst hy
  rw [List.getElem?_map] at hx
  cases h : l[i]? with
  | none => rw [h] at hx; simp at hx
  | some d => rw [h] at hx; simp at hx; subst hx; exact .same _ rfl
theorem step_cell {l : List Step} {k : Nat} (h : k < l.length) : ∀ j : Nat, j < 3 → ((l.map Step.cs).flatten.map AV.d)[0 + (k : Int).toNat * 3 + j]? = ((l[k]).cs[j]?).map AV.d := fun j hj => by
  rw [Nat.zero_add, Int.toNat_natCast, List.getElem?_map, flatten_at (l.map Step.cs) cs3 k j hj, List.getElem?_map]
  simp [h]
set_option maxHeartbeats 2000000 in
theorem law_ownB (l : List Step) (hl : l.length ≤ 1000) : Tri Tryd.prog 12 [.msl 0 0 l.length l.length 3] [some (.row ((l.map Step.cs).flatten.map .d))] fun v H => v = .d (stepsD l) ∧ H = [some (.row ((l.map Step.cs).flatten.map .d))] := by
  refine Tri_of (m := 1) tt_ok Tryd.func12 rfl (by decide) Tryd.ntmps12 (by rfl) rfl ?_
  generalize hR : ((l.map Step.cs).flatten.map AV.d) = R at *
  refine W_loop (fun μ st => ∃ (k : Nat) (w : List Step), k ≤ l.length ∧ μ = l.length - k ∧ w = l.take k ∧ st = ⟨[(0, .msl 0 0 l.length l.length 3), (3, AccV 1 3 (w.map Step.cs)), (4, .i k)], 31, [some (.row R), AccB (w.map Step.cs)], 1, []⟩) l.length
    ⟨⟨[(0, .msl 0 0 l.length l.length 3), (3, .nsl), (4, .i 0)], 31, [some (.row R), none], 1, []⟩, ?_, 0, [], by omega, by omega, by simp, by simp [AccV_nil, AccB_nil]⟩ ?_
  · exact Wk.trans Wk_pad (Wk_env (by repeat (first | exact trivial | refine ⟨rfl, ?_⟩)))
  rintro μ s1 ⟨k, w, hk, rfl, hw, rfl⟩
  have hwl : w.length = k := by rw [hw]; simp; omega
  refine W_run tt_ok ?_
  refine Len_in (fun hlen => ?_)
  refine Br_dec (fun h => ?_) (fun h => ?_)
  · have hlt : k < l.length := by omega
    have htk : l.take (k + 1) = w ++ [l[k]] := by rw [hw]; exact List.take_succ_eq_append_getElem hlt
    have ha := Acc_app (b := 1) (sz := 3) (rows := w.map Step.cs) (new := [(l[k]).cs]) (by simp)
    have c0 := step_cell hlt 0 (by omega)
    have c1 := step_cell hlt 1 (by omega)
    have c2 := step_cell hlt 2 (by omega)
    rw [hR] at c0 c1 c2
    have hib : 0 ≤ (k : Int) ∧ (k : Int) < ((l.length : Nat) : Int) := by omega
    repeat' ((conv => whnf); (first
      | (refine Br_true (decide_eq_true hib) ?_)
      | (refine Br_true (by assumption) ?_)
      | (refine Br_false (by assumption) ?_)
      | (refine Br_true (beqT (by omega)) ?_)
      | (refine Br_false (beqF (by omega)) ?_)
      | (refine Br_beq (fun h => ?_) (fun h => ?_))
      | (refine Br_true (bneT (by omega)) ?_)
      | (refine Br_false (bneF (by omega)) ?_)
      | (refine Br_bne (fun h => ?_) (fun h => ?_))
      | (refine Br_true (decide_eq_true (by omega)) ?_)
      | (refine Br_false (decide_eq_false (by omega)) ?_)
      | (refine Br_dec (fun h => ?_) (fun h => ?_))
      | (refine Br_not ?_)
      | (refine Len_in (fun hlen => ?_))
      | (refine W_draw 0 tt_ok mixed (by kernel_rfl) ?_)
      | (refine Cell_in _ c0 (force_in ?_))
      | (refine Cell_in _ c1 (force_in ?_))
      | (refine Cell_in _ c2 (force_in ?_))
      | (refine Br_split (fun h => ?_) (fun h => ?_))
      | (refine fin0 rfl ?_)
      | (refine ArK_in (wrap_i64 (by omega) (by omega)) ?_)
      | (refine force_in ?_)))
    refine App_acc (w.map Step.cs) [(l[k]).cs] rfl rfl rfl rfl (by simp) cs3 (by intro r hr; simp at hr; subst hr; rfl) (by simp only [List.length_map, List.length_cons, List.length_nil]; omega) (Nat.le_of_ble_eq_true rfl) ?_
    repeat' ((conv => whnf); (first
      | (refine Br_true (by assumption) ?_)
      | (refine Br_false (by assumption) ?_)
      | (refine Br_true (beqT (by omega)) ?_)
      | (refine Br_false (beqF (by omega)) ?_)
      | (refine Br_beq (fun h => ?_) (fun h => ?_))
      | (refine Br_true (bneT (by omega)) ?_)
      | (refine Br_false (bneF (by omega)) ?_)
      | (refine Br_bne (fun h => ?_) (fun h => ?_))
      | (refine Br_true (decide_eq_true (by omega)) ?_)
      | (refine Br_false (decide_eq_false (by omega)) ?_)
      | (refine Br_dec (fun h => ?_) (fun h => ?_))
      | (refine Br_not ?_)
      | (refine Len_in (fun hlen => ?_))
      | (refine Back_in ⟨[(0, .msl 0 0 l.length l.length 3), (3, .msl 1 0 ((w.map Step.cs).length + 1) ((w.map Step.cs).length + 1) 3), (4, .i (k + 1 : Nat))], 31, [some (.row R), some (.row ((w.map Step.cs ++ [(l[k]).cs]).flatten.map .d))], 1, []⟩ _ ⟨k + 1, w ++ [l[k]], by omega, rfl, htk.symm, ?_⟩ (by omega) (Wk_ren [0, 2] rfl rfl ⟨⟨by rw [← hR, renB_row]; rfl, by rw [← hR]; exact lowB_row _ _⟩, ⟨by rw [renB_row]; rfl, lowB_row _ _⟩, trivial⟩ (by repeat (first | exact trivial | refine ⟨⟨rfl, rfl⟩, ?_⟩)) (by decide) (by decide)))
      | (refine Br_split (fun h => ?_) (fun h => ?_))
      | (refine fin0 rfl ?_)
      | (refine ArK_in (wrap_i64 (by omega) (by omega)) ?_)
      | (refine force_in ?_)))
    rw [List.map_append, show List.map Step.cs [l[k]] = [(l[k]).cs] from rfl, ha.1, ha.2]
    rfl
  · have hkl : l.length ≤ k := by omega
    have hw' : w = l := by rw [hw]; exact List.take_of_length_le hkl
    rw [hw']
    repeat' ((conv => whnf); (first
      | (refine Br_true (by assumption) ?_)
      | (refine Br_false (by assumption) ?_)
      | (refine Br_true (beqT (by omega)) ?_)
      | (refine Br_false (beqF (by omega)) ?_)
      | (refine Br_beq (fun h => ?_) (fun h => ?_))
      | (refine Br_true (bneT (by omega)) ?_)
      | (refine Br_false (bneF (by omega)) ?_)
      | (refine Br_bne (fun h => ?_) (fun h => ?_))
      | (refine Br_true (decide_eq_true (by omega)) ?_)
      | (refine Br_false (decide_eq_false (by omega)) ?_)
      | (refine Br_dec (fun h => ?_) (fun h => ?_))
      | (refine Br_not ?_)
      | (refine Len_in (fun hlen => ?_))
      | (refine finW (Fin_acc (l.map Step.cs) rfl cs3 (Nat.le_refl _) rfl (by refine ⟨⟨_, rfl, ?_⟩, trivial⟩; rw [← hR]; exact FB_row _)) ⟨rfl, rfl⟩)
      | (refine Br_split (fun h => ?_) (fun h => ?_))
      | (refine fin0 rfl ?_)
      | (refine ArK_in (wrap_i64 (by omega) (by omega)) ?_)
      | (refine force_in ?_)))
end Go.Eng
set_option maxRecDepth 100000
set_option linter.unusedVariables false
set_option linter.unusedSimpArgs false
namespace Go.Eng
open Go Go.Proofs
theorem textL_len (l : List Step) : (textL l).length ≤ 1616 := by
  unfold textL
  split
  · rename_i hc
    obtain ⟨h16, hst⟩ := checkB_iff.1 hc
    refine Nat.le_trans (joinL_len 59 _ 100 fun w hw => ?_) (Nat.le_trans (Nat.mul_le_mul_right _ (by simp; omega : _ ≤ 16)) (by omega))
    obtain ⟨x, hx, rfl⟩ := List.mem_map.1 hw
    exact textS_len (hst x hx)
  · simp
set_option maxHeartbeats 4000000 in
theorem law_ProgJoined (a b : List Step) : Fn Tryd.prog 6 [.d (stepsD a), .d (stepsD b)] (.b true) := by
  refine Fn_of tt_ok Tryd.func6 rfl (by decide) Tryd.ntmps6 rfl ?_
  have hal : (List.map Step.cs a).length = a.length := by simp
  have hbl : (List.map Step.cs b).length = b.length := by simp
  by_cases g1 : a.length > 16
  · have z : decide (((List.map Step.cs a).length : Int) > 16) = true := decide_eq_true (by rw [hal]; omega)
    repeat' ((conv => whnf); (first
      | (refine Br_true z ?_)
      | (refine Br_true (by assumption) ?_)
      | (refine Br_false (by assumption) ?_)
      | (refine Br_true (beqT (by omega)) ?_)
      | (refine Br_false (beqF (by omega)) ?_)
      | (refine Br_beq (fun h => ?_) (fun h => ?_))
      | (refine Br_true (bneT (by omega)) ?_)
      | (refine Br_false (bneF (by omega)) ?_)
      | (refine Br_bne (fun h => ?_) (fun h => ?_))
      | (refine Br_true (decide_eq_true (by omega)) ?_)
      | (refine Br_false (decide_eq_false (by omega)) ?_)
      | (refine Br_dec (fun h => ?_) (fun h => ?_))
      | (refine Br_not ?_)
      | (refine Len_in (fun hlen => ?_))
      | (refine Len_in (fun _ => ?_))
      | (refine Fn.use (live20_true) rfl rfl ?_)
      | (refine CallF_in (live20_true) rfl rfl ?_)
      | (refine Br_split (fun h => ?_) (fun h => ?_))
      | (refine fin0 rfl ?_)
      | (refine ArK_in (wrap_i64 (by omega) (by omega)) ?_)
      | (refine force_in ?_)))
    all_goals rfl
  have z1 : decide (((List.map Step.cs a).length : Int) > 16) = false := decide_eq_false (by rw [hal]; omega)
  by_cases g2 : b.length > 16
  · have z : decide (((List.map Step.cs b).length : Int) > 16) = true := decide_eq_true (by rw [hbl]; omega)
    repeat' ((conv => whnf); (first
      | (refine Br_false z1 ?_)
      | (refine Br_true z ?_)
      | (refine Br_true (by assumption) ?_)
      | (refine Br_false (by assumption) ?_)
      | (refine Br_true (beqT (by omega)) ?_)
      | (refine Br_false (beqF (by omega)) ?_)
      | (refine Br_beq (fun h => ?_) (fun h => ?_))
      | (refine Br_true (bneT (by omega)) ?_)
      | (refine Br_false (bneF (by omega)) ?_)
      | (refine Br_bne (fun h => ?_) (fun h => ?_))
      | (refine Br_true (decide_eq_true (by omega)) ?_)
      | (refine Br_false (decide_eq_false (by omega)) ?_)
      | (refine Br_dec (fun h => ?_) (fun h => ?_))
      | (refine Br_not ?_)
      | (refine Len_in (fun hlen => ?_))
      | (refine Len_in (fun _ => ?_))
      | (refine Fn.use (live20_true) rfl rfl ?_)
      | (refine CallF_in (live20_true) rfl rfl ?_)
      | (refine Br_split (fun h => ?_) (fun h => ?_))
      | (refine fin0 rfl ?_)
      | (refine ArK_in (wrap_i64 (by omega) (by omega)) ?_)
      | (refine force_in ?_)))
    all_goals rfl
  have z2 : decide (((List.map Step.cs b).length : Int) > 16) = false := decide_eq_false (by rw [hbl]; omega)
  by_cases g3 : a = []
  · subst g3
    repeat' ((conv => whnf); (first
      | (refine Br_false z1 ?_)
      | (refine Br_false z2 ?_)
      | (refine Br_true (by assumption) ?_)
      | (refine Br_false (by assumption) ?_)
      | (refine Br_true (beqT (by omega)) ?_)
      | (refine Br_false (beqF (by omega)) ?_)
      | (refine Br_beq (fun h => ?_) (fun h => ?_))
      | (refine Br_true (bneT (by omega)) ?_)
      | (refine Br_false (bneF (by omega)) ?_)
      | (refine Br_bne (fun h => ?_) (fun h => ?_))
      | (refine Br_true (decide_eq_true (by omega)) ?_)
      | (refine Br_false (decide_eq_false (by omega)) ?_)
      | (refine Br_dec (fun h => ?_) (fun h => ?_))
      | (refine Br_not ?_)
      | (refine Len_in (fun hlen => ?_))
      | (refine Len_in (fun _ => ?_))
      | (refine Fn.use (live20_true) rfl rfl ?_)
      | (refine CallF_in (live20_true) rfl rfl ?_)
      | (refine Br_split (fun h => ?_) (fun h => ?_))
      | (refine fin0 rfl ?_)
      | (refine ArK_in (wrap_i64 (by omega) (by omega)) ?_)
      | (refine force_in ?_)))
    all_goals rfl
  have ha0 : a.length ≠ 0 := fun h => g3 (List.length_eq_zero_iff.1 h)
  have z3 : (((List.map Step.cs a).length : Int) == 0) = false := by rw [hal]; simp; exact g3
  by_cases g4 : b = []
  · subst g4
    repeat' ((conv => whnf); (first
      | (refine Br_false z1 ?_)
      | (refine Br_false z2 ?_)
      | (refine Br_false z3 ?_)
      | (refine Br_true (by assumption) ?_)
      | (refine Br_false (by assumption) ?_)
      | (refine Br_true (beqT (by omega)) ?_)
      | (refine Br_false (beqF (by omega)) ?_)
      | (refine Br_beq (fun h => ?_) (fun h => ?_))
      | (refine Br_true (bneT (by omega)) ?_)
      | (refine Br_false (bneF (by omega)) ?_)
      | (refine Br_bne (fun h => ?_) (fun h => ?_))
      | (refine Br_true (decide_eq_true (by omega)) ?_)
      | (refine Br_false (decide_eq_false (by omega)) ?_)
      | (refine Br_dec (fun h => ?_) (fun h => ?_))
      | (refine Br_not ?_)
      | (refine Len_in (fun hlen => ?_))
      | (refine Len_in (fun _ => ?_))
      | (refine Fn.use (live20_true) rfl rfl ?_)
      | (refine CallF_in (live20_true) rfl rfl ?_)
      | (refine Br_split (fun h => ?_) (fun h => ?_))
      | (refine fin0 rfl ?_)
      | (refine ArK_in (wrap_i64 (by omega) (by omega)) ?_)
      | (refine force_in ?_)))
    all_goals rfl
  have hb0 : b.length ≠ 0 := fun h => g4 (List.length_eq_zero_iff.1 h)
  have z4 : (((List.map Step.cs b).length : Int) == 0) = false := by rw [hbl]; simp; exact g4
  have h1 := law_own a (by omega)
  have h2 := law_own b (by omega)
  have h3 := law_ownB (a ++ b) (by simp; omega)
  have h4 := prog_Text a
  have h5 := prog_Text b
  have h6 := prog_Text (a ++ b)
  have h7 := prog_Check (a ++ b)
  have h8 := law_told (a ++ b) (by simp; omega)
  have h9 := ref20_Same (a ++ b) (a ++ b)
  rw [decide_eq_true rfl] at h9
  have hca : ∀ r ∈ List.map Step.cs a, r.length = 3 := cs3
  have hcb : ∀ r ∈ List.map Step.cs b, r.length = 3 := cs3
  have hna : List.map Step.cs a ≠ [] := by simpa using g3
  have hnb : List.map Step.cs b ≠ [] := by simpa using g4
  have hab : List.map Step.cs a ++ List.map Step.cs b = List.map Step.cs (a ++ b) := List.map_append.symm
  have hll : (List.map Step.cs a).length + (List.map Step.cs b).length = (a ++ b).length := by simp
  repeat' ((conv => whnf); (first
    | (refine Br_false z1 ?_)
    | (refine Br_false z2 ?_)
    | (refine Br_false z3 ?_)
    | (refine Br_false z4 ?_)
    | (refine Br_true (by assumption) ?_)
    | (refine Br_false (by assumption) ?_)
    | (refine Br_true (beqT (by omega)) ?_)
    | (refine Br_false (beqF (by omega)) ?_)
    | (refine Br_beq (fun h => ?_) (fun h => ?_))
    | (refine Br_true (bneT (by omega)) ?_)
    | (refine Br_false (bneF (by omega)) ?_)
    | (refine Br_bne (fun h => ?_) (fun h => ?_))
    | (refine Br_true (decide_eq_true (by omega)) ?_)
    | (refine Br_false (decide_eq_false (by omega)) ?_)
    | (refine Br_dec (fun h => ?_) (fun h => ?_))
    | (refine Br_not ?_)
    | (refine Len_in (fun hlen => ?_))
    | (refine Len_in (fun _ => ?_))
    | (refine Br_split (fun h => ?_) (fun h => ?_))
    | (refine fin0 rfl ?_)
    | (refine ArK_in (wrap_i64 (by omega) (by omega)) ?_)
    | (refine force_in ?_)))
  refine App_nsl (List.map Step.cs a) rfl rfl hna hca (by rw [hal]; omega) (Nat.le_of_ble_eq_true rfl) ?_
  repeat' ((conv => whnf); (first
    | (refine Br_true (by assumption) ?_)
    | (refine Br_false (by assumption) ?_)
    | (refine Br_true (beqT (by omega)) ?_)
    | (refine Br_false (beqF (by omega)) ?_)
    | (refine Br_beq (fun h => ?_) (fun h => ?_))
    | (refine Br_true (bneT (by omega)) ?_)
    | (refine Br_false (bneF (by omega)) ?_)
    | (refine Br_bne (fun h => ?_) (fun h => ?_))
    | (refine Br_true (decide_eq_true (by omega)) ?_)
    | (refine Br_false (decide_eq_false (by omega)) ?_)
    | (refine Br_dec (fun h => ?_) (fun h => ?_))
    | (refine Br_not ?_)
    | (refine Len_in (fun hlen => ?_))
    | (refine Br_split (fun h => ?_) (fun h => ?_))
    | (refine fin0 rfl ?_)
    | (refine ArK_in (wrap_i64 (by omega) (by omega)) ?_)
    | (refine force_in ?_)))
  refine App_msr (List.map Step.cs a) (List.map Step.cs b) hna rfl rfl rfl rfl rfl hnb hca hcb (by rw [hal, hbl]; omega) (Nat.le_of_ble_eq_true rfl) ?_
  rw [hab, hll]
  cases hc : checkB (a ++ b) <;> rw [hc] at h7
  · have e : textL (a ++ b) = [] := by unfold textL; rw [hc]; rfl
    rw [e] at h6
    generalize textL a = ta at *
    generalize textL b = tb at *
    repeat' ((conv => whnf); (first
      | (refine Br_true (ba_same _) ?_)
      | (refine Br_true (by assumption) ?_)
      | (refine Br_false (by assumption) ?_)
      | (refine Br_true (beqT (by omega)) ?_)
      | (refine Br_false (beqF (by omega)) ?_)
      | (refine Br_beq (fun h => ?_) (fun h => ?_))
      | (refine Br_true (bneT (by omega)) ?_)
      | (refine Br_false (bneF (by omega)) ?_)
      | (refine Br_bne (fun h => ?_) (fun h => ?_))
      | (refine Br_true (decide_eq_true (by omega)) ?_)
      | (refine Br_false (decide_eq_false (by omega)) ?_)
      | (refine Br_dec (fun h => ?_) (fun h => ?_))
      | (refine Br_not ?_)
      | (refine Len_in (fun hlen => ?_))
      | (refine Fn.use (h1) rfl rfl ?_)
      | (refine CallF_in (h1) rfl rfl ?_)
      | (refine Fn.use (h4) rfl rfl ?_)
      | (refine CallF_in (h4) rfl rfl ?_)
      | (refine Fn.use (h2) rfl rfl ?_)
      | (refine CallF_in (h2) rfl rfl ?_)
      | (refine Fn.use (h5) rfl rfl ?_)
      | (refine CallF_in (h5) rfl rfl ?_)
      | (refine Tri.on h3 rfl rfl rfl rfl ?_)
      | (refine Fn.use (h6) rfl rfl ?_)
      | (refine CallF_in (h6) rfl rfl ?_)
      | (refine Fn.use (h7) rfl rfl ?_)
      | (refine CallF_in (h7) rfl rfl ?_)
      | (refine Fn.use (live20_true) rfl rfl ?_)
      | (refine CallF_in (live20_true) rfl rfl ?_)
      | (refine Br_split (fun h => ?_) (fun h => ?_))
      | (refine fin0 rfl ?_)
      | (refine ArK_in (wrap_i64 (by omega) (by omega)) ?_)
      | (refine force_in ?_)))
    all_goals rfl
  · have hp := parse_text hc
    have ht := textL_app g3 g4 hc
    have l1 := textL_len a
    have l2 := textL_len b
    have hP := prog_Parse (textL (a ++ b)) (Nat.le_trans (textL_len _) (by omega))
    rw [hp, ht] at hP
    rw [ht] at h6
    generalize textL a = x at *
    generalize textL b = y at *
    have hx : D.str (((⟨x.toArray⟩ : ByteArray) ++ ⟨[59].toArray⟩) ++ ⟨y.toArray⟩) = str (x ++ 59 :: y) := by rw [str_app, str_app]; simp [str]
    have hxe : [AV.d (D.str (((⟨x.toArray⟩ : ByteArray) ++ ⟨[59].toArray⟩) ++ ⟨y.toArray⟩))] = [AV.d (str (x ++ 59 :: y))] := by rw [hx]
    have c1 : ((⟨(x ++ 59 :: y).toArray⟩ : ByteArray).toList == (((⟨x.toArray⟩ : ByteArray) ++ ⟨[59].toArray⟩) ++ ⟨y.toArray⟩).toList) = true := by
      have : (((⟨x.toArray⟩ : ByteArray) ++ ⟨[59].toArray⟩) ++ ⟨y.toArray⟩) = ⟨(x ++ 59 :: y).toArray⟩ := by rw [str_app, str_app]; simp
      rw [this]; simp
    generalize hz : x ++ 59 :: y = xy at *
    repeat' ((conv => whnf); (first
      | (refine Br_true c1 ?_)
      | (refine Br_true (by assumption) ?_)
      | (refine Br_false (by assumption) ?_)
      | (refine Br_true (beqT (by omega)) ?_)
      | (refine Br_false (beqF (by omega)) ?_)
      | (refine Br_beq (fun h => ?_) (fun h => ?_))
      | (refine Br_true (bneT (by omega)) ?_)
      | (refine Br_false (bneF (by omega)) ?_)
      | (refine Br_bne (fun h => ?_) (fun h => ?_))
      | (refine Br_true (decide_eq_true (by omega)) ?_)
      | (refine Br_false (decide_eq_false (by omega)) ?_)
      | (refine Br_dec (fun h => ?_) (fun h => ?_))
      | (refine Br_not ?_)
      | (refine Len_in (fun hlen => ?_))
      | (refine Fn.use (h1) rfl rfl ?_)
      | (refine CallF_in (h1) rfl rfl ?_)
      | (refine Fn.use (h4) rfl rfl ?_)
      | (refine CallF_in (h4) rfl rfl ?_)
      | (refine Fn.use (h2) rfl rfl ?_)
      | (refine CallF_in (h2) rfl rfl ?_)
      | (refine Fn.use (h5) rfl rfl ?_)
      | (refine CallF_in (h5) rfl rfl ?_)
      | (refine Tri.on h3 rfl rfl rfl rfl ?_)
      | (refine Fn.use (h6) rfl rfl ?_)
      | (refine CallF_in (h6) rfl rfl ?_)
      | (refine Fn.use (h7) rfl rfl ?_)
      | (refine CallF_in (h7) rfl rfl ?_)
      | (refine Need_in (by unfold LB; simp [ByteArray.size]; omega) ?_)
      | (refine Fn.useE hP hxe rfl rfl ?_)
      | (refine Fn.use (h8) rfl rfl ?_)
      | (refine CallF_in (h8) rfl rfl ?_)
      | (refine Tri.peek h9 rfl [1] rfl (FV_args2 (.same _ rfl) (FV_tab _ rfl rfl (by simp) cs3)) ?_)
      | (refine Fn.use (live20_true) rfl rfl ?_)
      | (refine CallF_in (live20_true) rfl rfl ?_)
      | (refine Br_split (fun h => ?_) (fun h => ?_))
      | (refine fin0 rfl ?_)
      | (refine ArK_in (wrap_i64 (by omega) (by omega)) ?_)
      | (refine force_in ?_)))
    rfl
set_option maxHeartbeats 2000000 in
theorem law_ProgEach (l : List Step) : Fn Tryd.prog 7 [.d (stepsD l)] (.b true) := by
  refine Fn_of tt_ok Tryd.func7 rfl (by decide) Tryd.ntmps7 rfl ?_
  have hll : (List.map Step.cs l).length = l.length := by simp
  by_cases g1 : l.length > 30
  · have z : decide (((List.map Step.cs l).length : Int) > 30) = true := decide_eq_true (by rw [hll]; omega)
    repeat' ((conv => whnf); (first
      | (refine Br_true z ?_)
      | (refine Br_true (by assumption) ?_)
      | (refine Br_false (by assumption) ?_)
      | (refine Br_true (beqT (by omega)) ?_)
      | (refine Br_false (beqF (by omega)) ?_)
      | (refine Br_beq (fun h => ?_) (fun h => ?_))
      | (refine Br_true (bneT (by omega)) ?_)
      | (refine Br_false (bneF (by omega)) ?_)
      | (refine Br_bne (fun h => ?_) (fun h => ?_))
      | (refine Br_true (decide_eq_true (by omega)) ?_)
      | (refine Br_false (decide_eq_false (by omega)) ?_)
      | (refine Br_dec (fun h => ?_) (fun h => ?_))
      | (refine Br_not ?_)
      | (refine Len_in (fun hlen => ?_))
      | (refine Len_in (fun _ => ?_))
      | (refine Fn.use (live20_true) rfl rfl ?_)
      | (refine CallF_in (live20_true) rfl rfl ?_)
      | (refine Br_split (fun h => ?_) (fun h => ?_))
      | (refine fin0 rfl ?_)
      | (refine ArK_in (wrap_i64 (by omega) (by omega)) ?_)
      | (refine force_in ?_)))
    all_goals rfl
  have z1 : decide (((List.map Step.cs l).length : Int) > 30) = false := decide_eq_false (by rw [hll]; omega)
  have z2 : decide (((List.map Step.cs l).length : Int) ≤ 16) = decide (l.length ≤ 16) := by rw [hll, Bool.eq_iff_iff]; simp; omega
  repeat' ((conv => whnf); (first
    | (refine Br_false z1 ?_)
    | (refine Br_true (by assumption) ?_)
    | (refine Br_false (by assumption) ?_)
    | (refine Br_true (beqT (by omega)) ?_)
    | (refine Br_false (beqF (by omega)) ?_)
    | (refine Br_beq (fun h => ?_) (fun h => ?_))
    | (refine Br_true (bneT (by omega)) ?_)
    | (refine Br_false (bneF (by omega)) ?_)
    | (refine Br_bne (fun h => ?_) (fun h => ?_))
    | (refine Br_true (decide_eq_true (by omega)) ?_)
    | (refine Br_false (decide_eq_false (by omega)) ?_)
    | (refine Br_dec (fun h => ?_) (fun h => ?_))
    | (refine Br_not ?_)
    | (refine Len_in (fun hlen => ?_))
    | (refine Len_in (fun _ => ?_))
    | (refine Br_split (fun h => ?_) (fun h => ?_))
    | (refine fin0 rfl ?_)
    | (refine ArK_in (wrap_i64 (by omega) (by omega)) ?_)
    | (refine force_in ?_)))
  refine W_loop (fun μ st => ∃ (k : Nat) (q : Bool), k ≤ l.length ∧ μ = l.length - k ∧ q = (decide (l.length ≤ 16) && (l.take k).all stepB) ∧ st = ⟨[(0, .d (stepsD l)), (3, .b q), (4, .i k)], 38, [], 0, []⟩) l.length
    ⟨⟨[(0, .d (stepsD l)), (3, .b (decide (((List.map Step.cs l).length : Int) ≤ 16))), (4, .i 0)], 38, [], 0, []⟩, ?_, 0, decide (((List.map Step.cs l).length : Int) ≤ 16), by omega, by omega, by rw [z2]; simp, rfl⟩ ?_
  · exact Wk_env (by repeat (first | exact trivial | refine ⟨rfl, ?_⟩))
  rintro μ s1 ⟨k, q, hk, rfl, hq, rfl⟩
  refine W_run tt_ok ?_
  refine Len_in (fun hlen => ?_)
  rw [hll] at hlen
  refine Br_dec (fun h => ?_) (fun h => ?_)
  · have hlt : k < l.length := by rw [hll] at h; omega
    have htk : (l.take (k + 1)).all stepB = ((l.take k).all stepB && stepB l[k]) := by rw [List.take_succ_eq_append_getElem hlt, List.all_append, List.all_cons, List.all_nil, Bool.and_true]
    cases q
    · have hq' : false = (decide (l.length ≤ 16) && (l.take (k + 1)).all stepB) := by rw [htk, ← Bool.and_assoc, ← hq]; rfl
      repeat' ((conv => whnf); (first
        | (refine Br_true (by assumption) ?_)
        | (refine Br_false (by assumption) ?_)
        | (refine Br_true (beqT (by omega)) ?_)
        | (refine Br_false (beqF (by omega)) ?_)
        | (refine Br_beq (fun h => ?_) (fun h => ?_))
        | (refine Br_true (bneT (by omega)) ?_)
        | (refine Br_false (bneF (by omega)) ?_)
        | (refine Br_bne (fun h => ?_) (fun h => ?_))
        | (refine Br_true (decide_eq_true (by omega)) ?_)
        | (refine Br_false (decide_eq_false (by omega)) ?_)
        | (refine Br_dec (fun h => ?_) (fun h => ?_))
        | (refine Br_not ?_)
        | (refine Len_in (fun hlen => ?_))
        | (refine Back_in _ _ ⟨k + 1, false, by omega, rfl, hq', rfl⟩ (by omega) (Wk_env (by repeat (first | exact trivial | refine ⟨rfl, ?_⟩))))
        | (refine Br_split (fun h => ?_) (fun h => ?_))
        | (refine fin0 rfl ?_)
        | (refine ArK_in (wrap_i64 (by omega) (by omega)) ?_)
        | (refine force_in ?_)))
    · have hq' : stepB l[k] = (decide (l.length ≤ 16) && (l.take (k + 1)).all stepB) := by rw [htk, ← Bool.and_assoc, ← hq]; rfl
      have h1 := law_own [l[k]] (by simp)
      have h2 := prog_Check [l[k]]
      rw [check_one] at h2
      have hsl : ∀ (i j : Nat), i = k → j = k + 1 → [AV.d (D.sl (((List.map Step.cs l).take j).drop i))] = [AV.d (stepsD [l[k]])] := fun i j e1 e2 => by
        subst e1 e2
        rw [← List.map_take, List.take_succ_eq_append_getElem hlt, List.map_append, List.drop_left' (by simp; omega)]
        rfl
      rw [hq'] at h2
      cases hc2 : (decide (l.length ≤ 16) && (l.take (k + 1)).all stepB) <;> rw [hc2] at h2
      all_goals
        repeat' ((conv => whnf); (first
          | (refine Br_true (by assumption) ?_)
          | (refine Br_false (by assumption) ?_)
          | (refine Br_true (beqT (by omega)) ?_)
          | (refine Br_false (beqF (by omega)) ?_)
          | (refine Br_beq (fun h => ?_) (fun h => ?_))
          | (refine Br_true (bneT (by omega)) ?_)
          | (refine Br_false (bneF (by omega)) ?_)
          | (refine Br_bne (fun h => ?_) (fun h => ?_))
          | (refine Br_true (decide_eq_true (by omega)) ?_)
          | (refine Br_false (decide_eq_false (by omega)) ?_)
          | (refine Br_dec (fun h => ?_) (fun h => ?_))
          | (refine Br_not ?_)
          | (refine Len_in (fun hlen => ?_))
          | (refine Need_in ⟨by omega, by omega, by rw [hll]; omega, cs3⟩ ?_)
          | (refine Fn.useE h1 (hsl (k : Int).toNat ((k : Int) + 1).toNat (by omega) (by omega)) rfl rfl ?_)
          | (refine Fn.use (h2) rfl rfl ?_)
          | (refine CallF_in (h2) rfl rfl ?_)
          | (refine Back_in _ _ ⟨k + 1, _, by omega, rfl, hc2.symm, rfl⟩ (by omega) (Wk_env (by repeat (first | exact trivial | refine ⟨rfl, ?_⟩))))
          | (refine Br_split (fun h => ?_) (fun h => ?_))
          | (refine fin0 rfl ?_)
          | (refine ArK_in (wrap_i64 (by omega) (by omega)) ?_)
          | (refine force_in ?_)))
  · have hkl : l.length ≤ k := by rw [hll] at h; omega
    rw [List.take_of_length_le hkl] at hq
    have h1 := law_own l (by omega)
    have h2 := prog_Check l
    have e : q = checkB l := by rw [hq]; unfold checkB; rfl
    rw [← e] at h2
    cases q
    all_goals
      repeat' ((conv => whnf); (first
        | (refine Br_true (by assumption) ?_)
        | (refine Br_false (by assumption) ?_)
        | (refine Br_true (beqT (by omega)) ?_)
        | (refine Br_false (beqF (by omega)) ?_)
        | (refine Br_beq (fun h => ?_) (fun h => ?_))
        | (refine Br_true (bneT (by omega)) ?_)
        | (refine Br_false (bneF (by omega)) ?_)
        | (refine Br_bne (fun h => ?_) (fun h => ?_))
        | (refine Br_true (decide_eq_true (by omega)) ?_)
        | (refine Br_false (decide_eq_false (by omega)) ?_)
        | (refine Br_dec (fun h => ?_) (fun h => ?_))
        | (refine Br_not ?_)
        | (refine Len_in (fun hlen => ?_))
        | (refine Fn.use (h1) rfl rfl ?_)
        | (refine CallF_in (h1) rfl rfl ?_)
        | (refine Fn.use (h2) rfl rfl ?_)
        | (refine CallF_in (h2) rfl rfl ?_)
        | (refine Fn.use (live20_true) rfl rfl ?_)
        | (refine CallF_in (live20_true) rfl rfl ?_)
        | (refine Br_split (fun h => ?_) (fun h => ?_))
        | (refine fin0 rfl ?_)
        | (refine ArK_in (wrap_i64 (by omega) (by omega)) ?_)
        | (refine force_in ?_)))
      rfl
end Go.Eng
set_option maxRecDepth 100000
set_option linter.unusedVariables false
set_option linter.unusedSimpArgs false
namespace Go.Eng
open Go Go.Proofs
def stepSh : List Sh := [i64, i64, i64]
theorem row_step {r : List D} (h : Row stepSh r) : ∃ x : Step, r = x.cs := by
  obtain ⟨h1, h2⟩ := h
  match r, h1, h2 with
  | [x0, x1, x2], _, h2 =>
    obtain ⟨n0, rfl⟩ := has_int (h2 0 i64 x0 rfl rfl)
    obtain ⟨n1, rfl⟩ := has_int (h2 1 i64 x1 rfl rfl)
    obtain ⟨n2, rfl⟩ := has_int (h2 2 i64 x2 rfl rfl)
    exact ⟨⟨n0, n1, n2⟩, rfl⟩
def stepsSh : Sh := .sl stepSh
theorem has_steps {d : D} (h : HasSh stepsSh d) : ∃ l : List Step, d = stepsD l := by
  cases h with
  | sl _ rows hl h =>
    obtain ⟨l, rfl⟩ := ex_map Step.cs rows fun r hr => row_step ⟨hl r hr, h r hr⟩
    exact ⟨l, rfl⟩
theorem law_ProgTells_args (xs : List AV) (h : ArgsOk Tryd.prog [22, 9] xs) : Fn Tryd.prog 3 xs (.b true) := by
  obtain ⟨x, y, rfl, h1, h2⟩ := args_2 h
  obtain ⟨d, hd, rfl⟩ := arg_one (s := stepsSh) h1 (by kernel_rfl) (fun _ => by kernel_rfl)
  obtain ⟨d2, hd2, rfl⟩ := arg_one (s := .str) h2 (by kernel_rfl) (fun _ => by kernel_rfl)
  obtain ⟨l, rfl⟩ := has_steps hd
  obtain ⟨s, rfl⟩ := has_str hd2
  exact law_ProgTells l s
theorem law_ProgBack_args (xs : List AV) (h : ArgsOk Tryd.prog [22, 9] xs) : Fn Tryd.prog 5 xs (.b true) := by
  obtain ⟨x, y, rfl, h1, h2⟩ := args_2 h
  obtain ⟨d, hd, rfl⟩ := arg_one (s := stepsSh) h1 (by kernel_rfl) (fun _ => by kernel_rfl)
  obtain ⟨d2, hd2, rfl⟩ := arg_one (s := .str) h2 (by kernel_rfl) (fun _ => by kernel_rfl)
  obtain ⟨l, rfl⟩ := has_steps hd
  obtain ⟨s, rfl⟩ := has_str hd2
  exact law_ProgBack l s
theorem law_ProgNames_args (xs : List AV) (h : ArgsOk Tryd.prog [3] xs) : Fn Tryd.prog 4 xs (.b true) := by
  obtain ⟨x, rfl, h1⟩ := args_1 h
  obtain ⟨d, hd, rfl⟩ := arg_one (s := i64) h1 (by kernel_rfl) (fun _ => by kernel_rfl)
  obtain ⟨n, rfl⟩ := has_int hd
  exact law_ProgNames n
theorem law_ProgJoined_args (xs : List AV) (h : ArgsOk Tryd.prog [22, 22] xs) : Fn Tryd.prog 6 xs (.b true) := by
  obtain ⟨x, y, rfl, h1, h2⟩ := args_2 h
  obtain ⟨d, hd, rfl⟩ := arg_one (s := stepsSh) h1 (by kernel_rfl) (fun _ => by kernel_rfl)
  obtain ⟨d2, hd2, rfl⟩ := arg_one (s := stepsSh) h2 (by kernel_rfl) (fun _ => by kernel_rfl)
  obtain ⟨a, rfl⟩ := has_steps hd
  obtain ⟨b, rfl⟩ := has_steps hd2
  exact law_ProgJoined a b
theorem law_ProgEach_args (xs : List AV) (h : ArgsOk Tryd.prog [22] xs) : Fn Tryd.prog 7 xs (.b true) := by
  obtain ⟨x, rfl, h1⟩ := args_1 h
  obtain ⟨d, hd, rfl⟩ := arg_one (s := stepsSh) h1 (by kernel_rfl) (fun _ => by kernel_rfl)
  obtain ⟨l, rfl⟩ := has_steps hd
  exact law_ProgEach l
end Go.Eng
set_option linter.unusedVariables false
namespace Go.Eng
open Go
variable {H : Type} {enc : TypeId × Value → H}
theorem returnsInHanded_andS {a : Assume} {C : Checked} {os : Os} {f : FuncId} {fn : Func} {s : ChangeSpec} {conds : List PathCond} {apart fresh handsOn again : Bool} {X : World → Array Value → Prop}
    (hX : ∀ (w w' : World) (args : Array Value), w.heap = w'.heap → X w args → X w' args)
    (own : ownKnob C.prog.godebug = none) (started : os.Started) (noInit : C.prog.inits.idxOf? f = none) (hfn : C.prog.funcs[f]? = some fn)
    (witness : ∃ (w : World) (tape : Tape) (i : Input), w.os = os ∧ (w.forCall tape i).Shaped C.prog ∧ i.vars = [] ∧ Input.okWide C.prog (w.forCall tape i) .any w.heap.size f i ∧
      ((s.pre enc C.prog fn conds apart (w.forCall tape i).memory i.args ∧ X (w.forCall tape i).memory i.args) ∧ sizedMet enc C.prog fn (OpenSpec.ofChange s) apart (w.forCall tape i).memory i.args) ∧ a.holds C.prog (lone (Frame.enter C.prog f i.args .normal) [] (w.forCall tape i)))
    (contract : ∀ (W : World) (base : Nat) (args : Array Value) (ds gs : List (DataW H)) (before : List MemPlace),
      (∀ (j : Nat) t v, fn.params[j]? = some t → args[j]? = some v → Value.okWide C.prog W .any base t v) →
      DataW.Whole enc C.prog fn.params.toList s.vars apart W args.toList ds gs before →
      (DataW.weightsEach C.prog (fn.params.toList ++ s.plain.varTypes C.prog) (ds ++ gs)).all (· ≤ reachBytes) = true → X W args → W.ShapedOpen C.prog →
      Calls C.prog f args W fun e W' => ∃ v, e = .returned v ∧ s.post enc C.prog fn apart fresh handsOn again W args v W') :
    ReturnsInHanded a C os f .any (fun w args => (s.pre enc C.prog fn conds apart w args ∧ X w args) ∧ sizedMet enc C.prog fn (OpenSpec.ofChange s) apart w args) (s.post enc C.prog fn apart fresh handsOn again) := by
  refine returnsInHanded_of_calls own started noInit witness ?_
  intro w tape i _ hsh _ hok hpre hholds
  obtain ⟨_, _, _, fn', hfn', _, _, _, _, hval⟩ := hok
  have e : fn' = fn := Option.some.inj (hfn'.symm.trans hfn)
  subst e
  obtain ⟨⟨⟨ds, gs, before, hw, hc⟩, hx⟩, hz⟩ := hpre
  have hw' := DataW.Whole.of_heap (w' := w.forCall tape i) (by rfl) hw
  refine (contract (w.forCall tape i) w.heap.size i.args ds gs before hval hw' (hz.weights hw) (hX _ _ _ (by rfl) hx) hsh).mono fun e W' ⟨v, he, hp⟩ => ?_
  subst he
  exact ChangeSpec.post_blind hp
theorem laidVars_iface {P : Program} {w : World} {n name : String} {d : DataW Unit} {g : Nat} {t : TypeId} {ms : Array (String × TypeId)} (hg : P.globalNamed n = some g) (ht : (P.globals[g]?).map (·.type) = some t)
    (hi : P.underlying t = some (.interface ms)) : ∀ (l : List (String × DataW Unit)) (ps : List MemPlace), DataW.LaidVars P w l ps → (n, DataW.iface name d) ∈ l → ∃ u v, w.cell? ⟨g, 0, none⟩ = some (.iface u v) := by
  intro l
  induction l with
  | nil => intro ps _ h; simp at h
  | cons x r ih =>
    intro ps h hm
    obtain ⟨n1, d1⟩ := x
    obtain ⟨g1, t1, cs, fuel, p, q, h1, h2, h3, h4, h5, h6⟩ := h
    rcases List.mem_cons.1 hm with e | hm
    · injection e with e1 e2
      subst e1 e2
      obtain rfl := Option.some.inj (hg.symm.trans h1)
      obtain rfl := Option.some.inj (ht.symm.trans h2)
      obtain ⟨_, u, v, hcs, _, _⟩ := iface_of_trod hi h4
      refine ⟨u, v, ?_⟩
      rw [World.var?_cell h1 h3 0]
      have := congrArg (·[0]?) hcs
      simpa using this
    · exact ih _ h5 hm
theorem laid_iface {P : Program} {l : List (String × DataW Unit)} {w : World} (h : laidMetH P l w) (hp : (l.all fun x => x.2.handleName?.isNone) = true) {n name : String} {d : DataW Unit} (hx : (n, DataW.iface name d) ∈ l) {g : Nat} {t : TypeId} {ms : Array (String × TypeId)}
    (hg : P.globalNamed n = some g) (ht : (P.globals[g]?).map (·.type) = some t) (hi : P.underlying t = some (.interface ms)) : ∃ u v, w.cell? ⟨g, 0, none⟩ = some (.iface u v) := by
  rw [MakeChecks.laidMetH_plain _ _ _ hp] at h
  obtain ⟨ps, hl, _⟩ := h
  exact laidVars_iface hg ht hi l ps hl hx
end Go.Eng
namespace Go.Eng
open Go Go.Proofs
theorem glob_of {w : World} {l : List (String × DataW Unit)} (h : laidMetH Tryd.prog l w) (hp : (l.all fun x => x.2.handleName?.isNone) = true) (hs : w.ShapedOpen Tryd.prog) {n1 n2 : String} {d1 d2 : DataW Unit}
    (h1 : ("strconv.ErrSyntax", DataW.iface n1 d1) ∈ l) (h2 : ("strconv.ErrRange", DataW.iface n2 d2) ∈ l) : GlobW w :=
  ⟨cell_of_shapedOpen_int (zero := #[.int .i64 0]) (t := 3) hs (by decide +kernel) (by kernel_rfl) rfl (by kernel_rfl) (by kernel_rfl) Tryd.underlying3,
    laid_iface h hp h1 (by kernel_rfl) (by kernel_rfl) Tryd.underlying72, laid_iface h hp h2 (by kernel_rfl) (by kernel_rfl) Tryd.underlying72⟩
end Go.Eng
