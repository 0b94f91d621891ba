/- What the seat's proofs lean on, part 6: the executor over abstract values, its soundness, and what the program's functions answer (Cpy2, Sp4, Srt1, Srt2, Sp5, Eng27, Set1, Set2, Del1, Drp1, Liv1, Eng28, Eng29, Sh1). -/
import Derived.Test.YtjanagmofpdmnaaDoorEng05
import Derived.Test.YtjanagmofpdmnaaDoorEng04
import Derived.Test.YtjanagmofpdmnaaDoorEng02
import Derived.ProofKit
import Derived.OpenShut
import Derived.Carry
import Derived.OpenVars
import Derived.Lay
import Derived.LaidMore
import Derived.SevenTiedAt
import Derived.Stop.Joined
set_option linter.all false
set_option linter.unusedVariables false
set_option linter.unusedSimpArgs false
set_option maxRecDepth 100000
set_option linter.unusedVariables false
namespace Go.Eng
open Go Go.Proofs
theorem own_call (l : List Attr) (hl : l.length ≤ 1000) (H : Heap) (K : AV → Heap → Prop) (hK : K (atC l H.length) (H ++ atH l)) : Tri Tryd.prog 52 [.d (attrsD l)] H K := by
  have h := clone_own l hl
  unfold atC atH at *
  by_cases h0 : l = []
  · simp only [h0, if_true, List.append_nil] at hK
    subst h0
    simp only [if_true] at h
    exact Tri.call h [] rfl rfl trivial rfl rfl rfl rfl rfl (by rw [patch_nil]; simp [renH]) hK
  · simp only [h0, if_false] at hK h
    exact Tri.tab h rfl hK
theorem splice_same {cs : List AV} {o : Nat} {v : AV} (h : cs[o]? = some v) : splice cs o [v] = cs := by
  simp only [splice]
  apply List.ext_getElem?
  intro i
  rw [List.getElem?_set]
  split
  · subst_vars
    rw [if_pos (List.getElem?_eq_some_iff.1 h).1, h]
  · rfl
def tabT (t : Tree) : List AV := (t.map Node.cs).flatten.map .d
theorem tabT_len (t : Tree) : (tabT t).length = t.length * 7 := by
  unfold tabT; rw [List.length_map, flatten_len _ cs7, List.length_map]
theorem tabT_get (t : Tree) (k j : Nat) (hk : k < t.length) (x : D) (hx : (t[k]).cs[j]? = some x) (hj : j < 7) : (tabT t)[k * 7 + j]? = some (.d x) := by
  unfold tabT
  exact cell_flat (t.map Node.cs) k j _ x cs7 (by simp [hk]) hx hj
def tabO (t : Tree) (n : Nat) (c : AV) : List AV := (tabT t).set (n * 7 + 6) c
theorem copy_own (t : Tree) (n : Nat) (hn : n < t.length) (hs : SmallT t) :
    Tri Tryd.prog 33 [.d (treeD t)] [] fun v H => v = .msl 0 0 t.length t.length 7 ∧ H = some (.row (tabO t n (atC (t[n]).attrs 1))) :: atH (t[n]).attrs := by
  refine Tri_of (m := 0) tt_ok Tryd.func33 rfl (by decide) Tryd.ntmps33 (by rfl) rfl ?_
  have hne : t ≠ [] := by rintro rfl; simp at hn
  refine Tri.tab (clone_tree t hne hs.1) rfl ?_
  have hpush : (List.map Node.cs t).flatten.map AV.d = tabT t := rfl
  rw [hpush]
  repeat' ((conv => whnf); (first
    | (refine Br_true (by assumption) ?_)
    | (refine Br_false (by assumption) ?_)
    | (refine Br_true (beqT (by omega)) ?_)
    | (refine Br_false (beqF (by omega)) ?_)
    | (refine Br_beq (fun h => ?_) (fun h => ?_))
    | (refine Br_true (bneT (by omega)) ?_)
    | (refine Br_false (bneF (by omega)) ?_)
    | (refine Br_bne (fun h => ?_) (fun h => ?_))
    | (refine Br_true (decide_eq_true (by omega)) ?_)
    | (refine Br_false (decide_eq_false (by omega)) ?_)
    | (refine Br_dec (fun h => ?_) (fun h => ?_))
    | (refine Br_not ?_)
    | (refine Len_in (fun hlen => ?_))
    | (refine Br_split (fun h => ?_) (fun h => ?_))
    | (refine fin0 rfl ?_)
    | (refine ArK_in (wrap_i64 (by omega) (by omega)) ?_)
    | (refine force_in ?_)))
  have hal := (hs.2 _ (List.getElem_mem hn)).2
  refine W_loop (fun μ s => ∃ (k : Nat) (T : List AV) (rest : Heap), k ≤ t.length ∧ μ = t.length - k ∧ (k ≤ n → T = tabT t ∧ rest = []) ∧ (n < k → T = tabO t n (atC (t[n]).attrs 1) ∧ rest = atH (t[n]).attrs) ∧
      s = ⟨[(3, .msl 0 0 t.length t.length 7), (8, .i t.length), (9, .i k)], 34, some (.row T) :: rest, 0, []⟩) t.length
    ⟨_, ?_, 0, tabT t, [], by omega, by omega, fun _ => ⟨rfl, rfl⟩, fun h => absurd h (Nat.not_lt_zero _), rfl⟩ ?_
  · exact Wk_env (by repeat (first | exact trivial | refine ⟨rfl, ?_⟩))
  rintro μ s1 ⟨k, T, rest, hk, rfl, h1, h2, rfl⟩
  refine W_run tt_ok ?_
  by_cases hlt : k < t.length
  rotate_left
  · obtain ⟨rfl, rfl⟩ := h2 (by omega)
    repeat' ((conv => whnf); (first
      | (refine Br_true (by assumption) ?_)
      | (refine Br_false (by assumption) ?_)
      | (refine Br_true (beqT (by omega)) ?_)
      | (refine Br_false (beqF (by omega)) ?_)
      | (refine Br_beq (fun h => ?_) (fun h => ?_))
      | (refine Br_true (bneT (by omega)) ?_)
      | (refine Br_false (bneF (by omega)) ?_)
      | (refine Br_bne (fun h => ?_) (fun h => ?_))
      | (refine Br_true (decide_eq_true (by omega)) ?_)
      | (refine Br_false (decide_eq_false (by omega)) ?_)
      | (refine Br_dec (fun h => ?_) (fun h => ?_))
      | (refine Br_not ?_)
      | (refine Len_in (fun hlen => ?_))
      | (refine finQ ⟨rfl, rfl⟩)
      | (refine Br_split (fun h => ?_) (fun h => ?_))
      | (refine fin0 rfl ?_)
      | (refine ArK_in (wrap_i64 (by omega) (by omega)) ?_)
      | (refine force_in ?_)))
  have hmk := hs.2 _ (List.getElem_mem hlt)
  have hTl : T.length = t.length * 7 := by
    by_cases h : k ≤ n
    · rw [(h1 h).1, tabT_len]
    · rw [(h2 (by omega)).1]; unfold tabO; rw [List.length_set, tabT_len]
  have g3 : T[0 + (k : Int).toNat * 7 + 3]? = some (.d (ints (t[k]).kids)) := by
    rw [show 0 + (k : Int).toNat * 7 + 3 = k * 7 + 3 by omega]
    have h0 := tabT_get t k 3 hlt _ rfl (by omega)
    by_cases h : k ≤ n
    · rw [(h1 h).1]; exact h0
    · rw [(h2 (by omega)).1]; unfold tabO; rw [List.getElem?_set_ne (by omega)]; exact h0
  by_cases hkn : k = n
  rotate_left
  · have g6 : T[0 + (k : Int).toNat * 7 + 6]? = some (.d (attrsD (t[k]).attrs)) := by
      rw [show 0 + (k : Int).toNat * 7 + 6 = k * 7 + 6 by omega]
      have h0 := tabT_get t k 6 hlt _ rfl (by omega)
      by_cases h : k ≤ n
      · rw [(h1 h).1]; exact h0
      · rw [(h2 (by omega)).1]; unfold tabO; rw [List.getElem?_set_ne (by omega)]; exact h0
    have e : splice (splice T (0 + (k : Int).toNat * 7 + 3) [.d (ints (t[k]).kids)]) (0 + (k : Int).toNat * 7 + 6) [.d (attrsD (t[k]).attrs)] = T := by
      rw [splice_same g3, splice_same g6]
    repeat' ((conv => whnf); (first
      | (refine Br_true (Nat.ble_eq_true_of_le (by rw [hTl]; simp; omega)) ?_)
      | (refine Br_true (Nat.ble_eq_true_of_le (by rw [splice_length, hTl]; simp; omega)) ?_)
      | (refine Br_true (by assumption) ?_)
      | (refine Br_false (by assumption) ?_)
      | (refine Br_true (beqT (by omega)) ?_)
      | (refine Br_false (beqF (by omega)) ?_)
      | (refine Br_beq (fun h => ?_) (fun h => ?_))
      | (refine Br_true (bneT (by omega)) ?_)
      | (refine Br_false (bneF (by omega)) ?_)
      | (refine Br_bne (fun h => ?_) (fun h => ?_))
      | (refine Br_true (decide_eq_true (by omega)) ?_)
      | (refine Br_false (decide_eq_false (by omega)) ?_)
      | (refine Br_dec (fun h => ?_) (fun h => ?_))
      | (refine Br_not ?_)
      | (refine Len_in (fun hlen => ?_))
      | (refine W_draw 0 tt_ok mixed (by kernel_rfl) ?_)
      | (refine Cell_in _ g3 ?_)
      | (refine Cell_in _ g6 ?_)
      | (refine Fn.use (clone_ints _ hmk.1) rfl rfl ?_)
      | (refine CallF_in (clone_ints _ hmk.1) rfl rfl ?_)
      | (refine Fn.use (clone_attrs _ hmk.2) rfl rfl ?_)
      | (refine CallF_in (clone_attrs _ hmk.2) rfl rfl ?_)
      | (refine Back_in _ _ ⟨k + 1, _, rest, by omega, rfl, fun h => ⟨e.trans (h1 (by omega)).1, (h1 (by omega)).2⟩, fun h => ⟨e.trans (h2 (by omega)).1, (h2 (by omega)).2⟩, rfl⟩ (by omega) (Wk_env (by repeat (first | exact trivial | refine ⟨rfl, ?_⟩))))
      | (refine Br_split (fun h => ?_) (fun h => ?_))
      | (refine fin0 rfl ?_)
      | (refine ArK_in (wrap_i64 (by omega) (by omega)) ?_)
      | (refine force_in ?_)))
  · obtain ⟨rfl, rfl⟩ := h1 (by omega)
    subst hkn
    have g6 : (tabT t)[0 + (k : Int).toNat * 7 + 6]? = some (.d (attrsD (t[k]).attrs)) := by
      rw [show 0 + (k : Int).toNat * 7 + 6 = k * 7 + 6 by omega]
      exact tabT_get t k 6 hlt _ rfl (by omega)
    have e : ∀ c : AV, splice (splice (tabT t) (0 + (k : Int).toNat * 7 + 3) [.d (ints (t[k]).kids)]) (0 + (k : Int).toNat * 7 + 6) [c] = tabO t k c := fun c => by
      rw [splice_same g3]
      unfold tabO
      simp only [splice]
      rw [show 0 + (k : Int).toNat * 7 + 6 = k * 7 + 6 by omega]
    have oc := own_call (t[k]).attrs hal
    by_cases h0 : (t[k]).attrs = []
    · have ec : ∀ b, atC (t[k]).attrs b = .esl := fun b => by unfold atC; rw [if_pos h0]
      have eh : atH (t[k]).attrs = [] := by unfold atH; rw [if_pos h0]
      simp only [ec, eh] at oc ⊢
      repeat' ((conv => whnf); (first
        | (refine Br_true (Nat.ble_eq_true_of_le (by rw [hTl]; simp; omega)) ?_)
        | (refine Br_true (Nat.ble_eq_true_of_le (by rw [splice_length, hTl]; simp; omega)) ?_)
        | (refine Br_true (by assumption) ?_)
        | (refine Br_false (by assumption) ?_)
        | (refine Br_true (beqT (by omega)) ?_)
        | (refine Br_false (beqF (by omega)) ?_)
        | (refine Br_beq (fun h => ?_) (fun h => ?_))
        | (refine Br_true (bneT (by omega)) ?_)
        | (refine Br_false (bneF (by omega)) ?_)
        | (refine Br_bne (fun h => ?_) (fun h => ?_))
        | (refine Br_true (decide_eq_true (by omega)) ?_)
        | (refine Br_false (decide_eq_false (by omega)) ?_)
        | (refine Br_dec (fun h => ?_) (fun h => ?_))
        | (refine Br_not ?_)
        | (refine Len_in (fun hlen => ?_))
        | (refine W_draw 1 tt_ok mixed (by kernel_rfl) ?_)
        | (refine Cell_in _ g3 ?_)
        | (refine Cell_in _ g6 ?_)
        | (refine CallP_in [] (fun K' hK' => Fn.use (clone_ints _ hmk.1) rfl rfl hK') ?_)
        | (refine CallP_in [] (fun K' hK' => oc _ K' hK') ?_)
        | (refine Back_in _ _ ⟨k + 1, _, [], by omega, rfl, fun h => by omega, fun h => ⟨e _, rfl⟩, rfl⟩ (by omega) (Wk_env (by repeat (first | exact trivial | refine ⟨rfl, ?_⟩))))
        | (refine Br_split (fun h => ?_) (fun h => ?_))
        | (refine fin0 rfl ?_)
        | (refine ArK_in (wrap_i64 (by omega) (by omega)) ?_)
        | (refine force_in ?_)))
    · have ec : ∀ b, atC (t[k]).attrs b = .msl b 0 (t[k]).attrs.length (t[k]).attrs.length 2 := fun b => by unfold atC; rw [if_neg h0]
      have eh : atH (t[k]).attrs = [some (.row (((t[k]).attrs.map Attr.cs).flatten.map .d))] := by unfold atH; rw [if_neg h0]
      simp only [ec, eh] at oc ⊢
      repeat' ((conv => whnf); (first
        | (refine Br_true (Nat.ble_eq_true_of_le (by rw [hTl]; simp; omega)) ?_)
        | (refine Br_true (Nat.ble_eq_true_of_le (by rw [splice_length, hTl]; simp; omega)) ?_)
        | (refine Br_true (by assumption) ?_)
        | (refine Br_false (by assumption) ?_)
        | (refine Br_true (beqT (by omega)) ?_)
        | (refine Br_false (beqF (by omega)) ?_)
        | (refine Br_beq (fun h => ?_) (fun h => ?_))
        | (refine Br_true (bneT (by omega)) ?_)
        | (refine Br_false (bneF (by omega)) ?_)
        | (refine Br_bne (fun h => ?_) (fun h => ?_))
        | (refine Br_true (decide_eq_true (by omega)) ?_)
        | (refine Br_false (decide_eq_false (by omega)) ?_)
        | (refine Br_dec (fun h => ?_) (fun h => ?_))
        | (refine Br_not ?_)
        | (refine Len_in (fun hlen => ?_))
        | (refine W_draw 1 tt_ok mixed (by kernel_rfl) ?_)
        | (refine Cell_in _ g3 ?_)
        | (refine Cell_in _ g6 ?_)
        | (refine CallP_in [] (fun K' hK' => Fn.use (clone_ints _ hmk.1) rfl rfl hK') ?_)
        | (refine CallP_in _ (fun K' hK' => oc _ K' hK') ?_)
        | (refine Back_in _ _ ⟨k + 1, _, _, by omega, rfl, fun h => by omega, fun h => ⟨e _, rfl⟩, rfl⟩ (by omega) (Wk_env (by repeat (first | exact trivial | refine ⟨rfl, ?_⟩))))
        | (refine Br_split (fun h => ?_) (fun h => ?_))
        | (refine fin0 rfl ?_)
        | (refine ArK_in (wrap_i64 (by omega) (by omega)) ?_)
        | (refine force_in ?_)))
end Go.Eng
namespace Go.Eng
open Go
def ltA (a b : Attr) : Bool := decide (IntKind.i64.wrap (a.name - b.name) < 0)
def swapA (m : List Attr) (j : Nat) : List Attr := (m.set j (m.getD (j - 1) default)).set (j - 1) (m.getD j default)
def downA : Nat → List Attr → List Attr
  | 0, m => m
  | j + 1, m => if ltA (m.getD (j + 1) default) (m.getD j default) then downA j (swapA m (j + 1)) else m
def insTo : Nat → List Attr → List Attr
  | 0, m => m
  | k + 1, m => downA (k + 1) (insTo k m)
def insA (m : List Attr) : List Attr := insTo (m.length - 1) m
theorem swapA_len (m : List Attr) (j : Nat) : (swapA m j).length = m.length := by simp [swapA]
theorem downA_len (j : Nat) : ∀ m, (downA j m).length = m.length := by
  induction j with
  | zero => intro m; rfl
  | succ j ih => intro m; simp only [downA]; split <;> simp [ih, swapA_len]
theorem insTo_len (k : Nat) (m : List Attr) : (insTo k m).length = m.length := by
  induction k with
  | zero => rfl
  | succ k ih => simp [insTo, downA_len, ih]
end Go.Eng
set_option maxRecDepth 100000
set_option linter.unusedVariables false
namespace Go.Eng
open Go Go.Proofs
theorem cmp_attr (a b : Attr) : Fn Tryd.prog 35 [aggD a.cs, aggD b.cs] (.i (IntKind.i64.wrap (a.name - b.name))) := by
  refine Fn_of tt_ok Tryd.func35 rfl (by decide) Tryd.ntmps35 rfl ?_
  refine ArK_any ?_
  repeat' ((conv => whnf); (first
    | (refine Br_true (by assumption) ?_)
    | (refine Br_false (by assumption) ?_)
    | (refine Br_true (beqT (by omega)) ?_)
    | (refine Br_false (beqF (by omega)) ?_)
    | (refine Br_beq (fun h => ?_) (fun h => ?_))
    | (refine Br_true (bneT (by omega)) ?_)
    | (refine Br_false (bneF (by omega)) ?_)
    | (refine Br_bne (fun h => ?_) (fun h => ?_))
    | (refine Br_true (decide_eq_true (by omega)) ?_)
    | (refine Br_false (decide_eq_false (by omega)) ?_)
    | (refine Br_dec (fun h => ?_) (fun h => ?_))
    | (refine Br_not ?_)
    | (refine Len_in (fun hlen => ?_))
    | (refine Br_split (fun h => ?_) (fun h => ?_))
    | (refine fin0 rfl ?_)
    | (refine ArK_in (wrap_i64 (by omega) (by omega)) ?_)
    | (refine force_in ?_)))
  rfl
theorem splice_two (cs : List AV) (o : Nat) (x y : AV) : splice cs o [x, y] = splice (splice cs o [x]) (o + 1) [y] := rfl
def tabA (l : List Attr) : List AV := (l.map Attr.cs).flatten.map .d
theorem tabA_len (l : List Attr) : (tabA l).length = l.length * 2 := by
  unfold tabA; rw [List.length_map, flatten_len _ csl, List.length_map]
theorem tabA_sub (l : List Attr) (i : Nat) (h : i < l.length) : sub (tabA l) (i * 2) 2 = (l.getD i default).cs.map .d := by
  unfold tabA
  exact sub_flat (l.map Attr.cs) i _ csl (by simp [h])
theorem tabA_put (l : List Attr) (i : Nat) (h : i < l.length) (a : Attr) : splice (tabA l) (i * 2) (a.cs.map .d) = tabA (l.set i a) := by
  unfold tabA
  show splice _ _ [.d (.i a.name), .d (.i a.value)] = _
  rw [splice_two]
  have e1 := splice_flat (l.map Attr.cs) i 0 (l[i]).cs (.i a.name) csl (by simp [h]) (by omega)
  rw [Nat.add_zero] at e1
  rw [e1, splice_flat _ i 1 _ (.i a.value) (by
    intro r hr
    rcases List.mem_or_eq_of_mem_set hr with hr | rfl
    · exact csl r hr
    · rfl) (List.getElem?_set_self (by simp [h])) (by omega)]
  rw [List.set_set, List.map_set]
  rfl
theorem insertionSort (l : List Attr) (hl : l.length ≤ 1000) (hne : l ≠ []) :
    Tri Tryd.prog 63 [.msl 0 0 l.length l.length 2, .i 0, .i l.length, .d (.fn 35)] [some (.row (tabA l))] fun v H => v = .tup [] ∧ H = [some (.row (tabA (insA l)))] := by
  refine Tri_of (m := 1) tt_ok Tryd.func63 rfl (by decide) Tryd.ntmps63 (by rfl) rfl ?_
  have hpos : 0 < l.length := List.length_pos_iff.2 hne
  refine ArK_in (wrap_i64 (by omega) (by omega)) ?_
  refine W_loop (fun μ s => ∃ (k : Nat) (m : List Attr), k + 1 ≤ l.length ∧ μ = l.length - (k + 1) ∧ m = insTo k l ∧
      s = ⟨[(0, .msl 0 0 l.length l.length 2), (1, .i 0), (2, .i l.length), (3, .d (.fn 35)), (8, .i (k + 1 : Nat))], 53, [some (.row (tabA m))], 1, []⟩) (l.length - 1)
    ⟨_, ?_, 0, l, by omega, by omega, rfl, rfl⟩ ?_
  · exact Wk_env (by repeat (first | exact trivial | refine ⟨rfl, ?_⟩))
  rintro μ s1 ⟨k, m, hk, rfl, hm, rfl⟩
  have hml : m.length = l.length := by rw [hm, insTo_len]
  refine W_run tt_ok ?_
  refine Br_dec (fun h => ?_) (fun h => ?_)
  · refine W_loop (fun μ s => ∃ (j : Nat) (q : List Attr), j ≤ k + 1 ∧ μ = j ∧ q.length = l.length ∧ insTo (k + 1) l = downA j q ∧
        s = ⟨[(0, .msl 0 0 l.length l.length 2), (1, .i 0), (2, .i l.length), (3, .d (.fn 35)), (8, .i (k + 1 : Nat)), (9, .i j)], 53, [some (.row (tabA q))], 1, []⟩) (k + 1)
      ⟨_, ?_, k + 1, m, by omega, by omega, hml, by rw [hm]; rfl, rfl⟩ ?_
    · exact Wk_env (by repeat (first | exact trivial | refine ⟨rfl, ?_⟩))
    rintro j s1 ⟨_, q, hj, rfl, hql, hd, rfl⟩
    refine W_run tt_ok ?_
    have htl := tabA_len q
    cases j with
    | zero =>
      have hq : q = insTo (k + 1) l := hd.symm
      repeat' ((conv => whnf); (first
        | (refine Br_true (by assumption) ?_)
        | (refine Br_false (by assumption) ?_)
        | (refine Br_true (beqT (by omega)) ?_)
        | (refine Br_false (beqF (by omega)) ?_)
        | (refine Br_beq (fun h => ?_) (fun h => ?_))
        | (refine Br_true (bneT (by omega)) ?_)
        | (refine Br_false (bneF (by omega)) ?_)
        | (refine Br_bne (fun h => ?_) (fun h => ?_))
        | (refine Br_true (decide_eq_true (by omega)) ?_)
        | (refine Br_false (decide_eq_false (by omega)) ?_)
        | (refine Br_dec (fun h => ?_) (fun h => ?_))
        | (refine Br_not ?_)
        | (refine Len_in (fun hlen => ?_))
        | (refine W_draw 0 tt_ok mixed (by kernel_rfl) ?_)
        | (refine Back_in _ _ ⟨k + 1, q, by omega, rfl, hq, rfl⟩ (by omega) (Wk_env (by repeat (first | exact trivial | refine ⟨rfl, ?_⟩))))
        | (refine Br_split (fun h => ?_) (fun h => ?_))
        | (refine fin0 rfl ?_)
        | (refine ArK_in (wrap_i64 (by omega) (by omega)) ?_)
        | (refine force_in ?_)))
    | succ j =>
      have e0 : 0 + (((j + 1 : Nat) : Int)).toNat * 2 = (j + 1) * 2 := by omega
      have e1 : 0 + ((((j + 1 : Nat) : Int)) - 1).toNat * 2 = j * 2 := by omega
      have f0 : sub (tabA q) (0 + (((j + 1 : Nat) : Int)).toNat * 2) 2 = (q.getD (j + 1) default).cs.map .d := by rw [e0]; exact tabA_sub q (j + 1) (by omega)
      have f1 : sub (tabA q) (0 + ((((j + 1 : Nat) : Int)) - 1).toNat * 2) 2 = (q.getD j default).cs.map .d := by rw [e1]; exact tabA_sub q j (by omega)
      have hsp : splice (splice (tabA q) (0 + (((j + 1 : Nat) : Int)).toNat * 2) ((q.getD j default).cs.map .d)) (0 + ((((j + 1 : Nat) : Int)) - 1).toNat * 2) ((q.getD (j + 1) default).cs.map .d) = tabA (swapA q (j + 1)) := by
        rw [e0, e1, tabA_put q (j + 1) (by omega), tabA_put _ j (by rw [List.length_set]; omega)]
        rfl
      have ej : ((j + 1 : Nat) : Int) - 1 = j := by omega
      have c2 : ∀ a : Attr, (a.cs.map AV.d).length = 2 := fun _ => rfl
      have hsl : (swapA q (j + 1)).length = l.length := by rw [swapA_len, hql]
      by_cases hlt : ltA (q.getD (j + 1) default) (q.getD j default) = true
      · have hd' : insTo (k + 1) l = downA j (swapA q (j + 1)) := by rw [hd]; simp only [downA]; rw [if_pos hlt]
        unfold ltA at hlt
        repeat' ((conv => whnf); (first
          | (refine Br_true (Nat.ble_eq_true_of_le (by rw [htl, c2]; omega)) ?_)
          | (refine Br_true (Nat.ble_eq_true_of_le (by rw [htl]; simp; omega)) ?_)
          | (refine Br_true (Nat.ble_eq_true_of_le (by rw [splice_length, htl, c2]; omega)) ?_)
          | (refine Br_true (by assumption) ?_)
          | (refine Br_false (by assumption) ?_)
          | (refine Br_true (beqT (by omega)) ?_)
          | (refine Br_false (beqF (by omega)) ?_)
          | (refine Br_beq (fun h => ?_) (fun h => ?_))
          | (refine Br_true (bneT (by omega)) ?_)
          | (refine Br_false (bneF (by omega)) ?_)
          | (refine Br_bne (fun h => ?_) (fun h => ?_))
          | (refine Br_true (decide_eq_true (by omega)) ?_)
          | (refine Br_false (decide_eq_false (by omega)) ?_)
          | (refine Br_dec (fun h => ?_) (fun h => ?_))
          | (refine Br_not ?_)
          | (refine Len_in (fun hlen => ?_))
          | (refine W_draw 0 tt_ok mixed (by kernel_rfl) ?_)
          | (refine forceL_to f0 ?_)
          | (refine forceL_to f1 ?_)
          | (refine Fn.use (cmp_attr _ _) rfl rfl ?_)
          | (refine CallF_in (cmp_attr _ _) rfl rfl ?_)
          | (refine Back_in _ _ ⟨j, _, by omega, rfl, hsl, hd', rfl⟩ (by omega) (by rw [← hsp, ej]; exact (Wk_env (by repeat (first | exact trivial | refine ⟨rfl, ?_⟩)))))
          | (refine Br_split (fun h => ?_) (fun h => ?_))
          | (refine fin0 rfl ?_)
          | (refine ArK_in (wrap_i64 (by omega) (by omega)) ?_)
          | (refine force_in ?_)))
      · have hd' : insTo (k + 1) l = q := by rw [hd]; simp only [downA]; rw [if_neg hlt]
        have hlt : ltA (q.getD (j + 1) default) (q.getD j default) = false := by simpa using hlt
        unfold ltA at hlt
        repeat' ((conv => whnf); (first
          | (refine Br_true (Nat.ble_eq_true_of_le (by rw [htl, c2]; omega)) ?_)
          | (refine Br_true (Nat.ble_eq_true_of_le (by rw [htl]; simp; omega)) ?_)
          | (refine Br_true (by assumption) ?_)
          | (refine Br_false (by assumption) ?_)
          | (refine Br_true (beqT (by omega)) ?_)
          | (refine Br_false (beqF (by omega)) ?_)
          | (refine Br_beq (fun h => ?_) (fun h => ?_))
          | (refine Br_true (bneT (by omega)) ?_)
          | (refine Br_false (bneF (by omega)) ?_)
          | (refine Br_bne (fun h => ?_) (fun h => ?_))
          | (refine Br_true (decide_eq_true (by omega)) ?_)
          | (refine Br_false (decide_eq_false (by omega)) ?_)
          | (refine Br_dec (fun h => ?_) (fun h => ?_))
          | (refine Br_not ?_)
          | (refine Len_in (fun hlen => ?_))
          | (refine W_draw 0 tt_ok mixed (by kernel_rfl) ?_)
          | (refine forceL_to f0 ?_)
          | (refine forceL_to f1 ?_)
          | (refine Fn.use (cmp_attr _ _) rfl rfl ?_)
          | (refine CallF_in (cmp_attr _ _) rfl rfl ?_)
          | (refine Back_in _ _ ⟨k + 1, q, by omega, rfl, hd'.symm, rfl⟩ (by omega) (Wk_env (by repeat (first | exact trivial | refine ⟨rfl, ?_⟩))))
          | (refine Br_split (fun h => ?_) (fun h => ?_))
          | (refine fin0 rfl ?_)
          | (refine ArK_in (wrap_i64 (by omega) (by omega)) ?_)
          | (refine force_in ?_)))
  · have hk' : k = l.length - 1 := by omega
    have e : insA l = m := by rw [hm, hk']; rfl
    rw [e]
    repeat' ((conv => whnf); (first
      | (refine Br_true (by assumption) ?_)
      | (refine Br_false (by assumption) ?_)
      | (refine Br_true (beqT (by omega)) ?_)
      | (refine Br_false (beqF (by omega)) ?_)
      | (refine Br_beq (fun h => ?_) (fun h => ?_))
      | (refine Br_true (bneT (by omega)) ?_)
      | (refine Br_false (bneF (by omega)) ?_)
      | (refine Br_bne (fun h => ?_) (fun h => ?_))
      | (refine Br_true (decide_eq_true (by omega)) ?_)
      | (refine Br_false (decide_eq_false (by omega)) ?_)
      | (refine Br_dec (fun h => ?_) (fun h => ?_))
      | (refine Br_not ?_)
      | (refine Len_in (fun hlen => ?_))
      | (refine finQ ⟨rfl, rfl⟩)
      | (refine Br_split (fun h => ?_) (fun h => ?_))
      | (refine fin0 rfl ?_)
      | (refine ArK_in (wrap_i64 (by omega) (by omega)) ?_)
      | (refine force_in ?_)))
end Go.Eng
set_option maxRecDepth 100000
set_option linter.unusedVariables false
namespace Go.Eng
open Go Go.Proofs
theorem Fn_any_of {P : Program} {f : FuncId} {args : List AV} (h : Tri P f args [] fun _ H => H = []) : Fn P f args .any := by
  (unfold Fn; simp only [Tri_eq] at *)
  refine ⟨h.1, fun p σ w vs hH hs hv => (h.2 p σ w vs hH hs hv).mono ?_⟩
  rintro e w' ⟨v, x, p', σ', H', a, b, c, d, e', g'⟩
  exact ⟨v, .any, p', σ', H', a, b, c, d, .any v, rfl, g'⟩
theorem byte_ok {s : ByteArray} {n : Int} {K : UInt8 → Prop} {m : Nat} (hm : s.data.toList.length = m) (h0 : 0 ≤ n) (h1 : n < m) (hK : ∀ c, K c) : ByteK s n K :=
  Byte_in (s.data.toList[n.toNat]'(by omega)) (List.getElem?_eq_getElem (by omega)) h0 (hK _)
theorem u8_in (e : Int) : 0 ≤ IntKind.u8.wrap e ∧ IntKind.u8.wrap e < (256 : Nat) := by
  simp only [IntKind.wrap, IntKind.signed, IntKind.bits]; simp; omega
theorem Len64 (n : Int) : Fn Tryd.prog 72 [.d (.int .u64 n)] .any := by
  refine Fn_any_of ?_
  refine Tri_of (m := 0) tt_ok Tryd.func72 rfl (by decide) Tryd.ntmps72 (by rfl) rfl ?_
  repeat' ((conv => whnf); (first
    | (refine Br_dec (fun h => ?_) (fun h => ?_))
    | (refine Need_in (by omega) ?_)
    | (refine byte_ok (m := 256) (by kernel_rfl) (u8_in _).1 (u8_in _).2 (fun c => ?_))
    | (refine ArK_any ?_)
    | (refine finQ rfl)))
theorem bitsLen (n : Int) : Fn Tryd.prog 54 [.d (.int .u64 n)] .any := by
  refine Fn_any_of ?_
  refine Tri_of (m := 0) tt_ok Tryd.func54 rfl (by decide) Tryd.ntmps54 (by rfl) rfl ?_
  repeat' ((conv => whnf); (first
    | (refine Br_true (by assumption) ?_)
    | (refine Br_false (by assumption) ?_)
    | (refine Br_true (beqT (by omega)) ?_)
    | (refine Br_false (beqF (by omega)) ?_)
    | (refine Br_beq (fun h => ?_) (fun h => ?_))
    | (refine Br_true (bneT (by omega)) ?_)
    | (refine Br_false (bneF (by omega)) ?_)
    | (refine Br_bne (fun h => ?_) (fun h => ?_))
    | (refine Br_true (decide_eq_true (by omega)) ?_)
    | (refine Br_false (decide_eq_false (by omega)) ?_)
    | (refine Br_dec (fun h => ?_) (fun h => ?_))
    | (refine Br_not ?_)
    | (refine Len_in (fun hlen => ?_))
    | (refine Fn.use (Len64 _) rfl rfl ?_)
    | (refine CallF_in (Len64 _) rfl rfl ?_)
    | (refine finQ rfl)
    | (refine Br_split (fun h => ?_) (fun h => ?_))
    | (refine fin0 rfl ?_)
    | (refine ArK_in (wrap_i64 (by omega) (by omega)) ?_)
    | (refine force_in ?_)))
theorem pdqsort (l : List Attr) (hl : l.length ≤ 12) (hne : l ≠ []) :
    Tri Tryd.prog 53 [.msl 0 0 l.length l.length 2, .i 0, .i l.length, .any, .d (.fn 35)] [some (.row (tabA l))] fun v H => v = .tup [] ∧ H = [some (.row (tabA (insA l)))] := by
  refine Tri_of (m := 1) tt_ok Tryd.func53 rfl (by decide) Tryd.ntmps53 (by rfl) rfl ?_
  refine W_loop (fun μ s => μ = 0 ∧ s = ⟨[(0, .msl 0 0 l.length l.length 2), (1, .i 0), (2, .i l.length), (3, .any), (4, .d (.fn 35))], 148, [some (.row (tabA l))], 1, []⟩) 0 ⟨_, ?_, rfl, rfl⟩ ?_
  · exact Wk_env (by repeat (first | exact trivial | refine ⟨rfl, ?_⟩))
  rintro μ s1 ⟨rfl, rfl⟩
  refine W_run tt_ok ?_
  refine ArK_in (wrap_i64 (by omega) (by omega)) ?_
  repeat' ((conv => whnf); (first
    | (refine Br_true (by assumption) ?_)
    | (refine Br_false (by assumption) ?_)
    | (refine Br_true (beqT (by omega)) ?_)
    | (refine Br_false (beqF (by omega)) ?_)
    | (refine Br_beq (fun h => ?_) (fun h => ?_))
    | (refine Br_true (bneT (by omega)) ?_)
    | (refine Br_false (bneF (by omega)) ?_)
    | (refine Br_bne (fun h => ?_) (fun h => ?_))
    | (refine Br_true (decide_eq_true (by omega)) ?_)
    | (refine Br_false (decide_eq_false (by omega)) ?_)
    | (refine Br_dec (fun h => ?_) (fun h => ?_))
    | (refine Br_not ?_)
    | (refine Len_in (fun hlen => ?_))
    | (refine Tri.use (insertionSort l (by omega) hne) ?_)
    | (refine finQ ⟨rfl, rfl⟩)
    | (refine Br_split (fun h => ?_) (fun h => ?_))
    | (refine fin0 rfl ?_)
    | (refine ArK_in (wrap_i64 (by omega) (by omega)) ?_)
    | (refine force_in ?_)))
theorem sortFunc (l : List Attr) (hl : l.length ≤ 12) (hne : l ≠ []) :
    Tri Tryd.prog 34 [.msl 0 0 l.length l.length 2, .d (.fn 35)] [some (.row (tabA l))] fun v H => v = .tup [] ∧ H = [some (.row (tabA (insA l)))] := by
  refine Tri_of (m := 1) tt_ok Tryd.func34 rfl (by decide) Tryd.ntmps34 (by rfl) rfl ?_
  repeat' ((conv => whnf); (first
    | (refine Br_true (by assumption) ?_)
    | (refine Br_false (by assumption) ?_)
    | (refine Br_true (beqT (by omega)) ?_)
    | (refine Br_false (beqF (by omega)) ?_)
    | (refine Br_beq (fun h => ?_) (fun h => ?_))
    | (refine Br_true (bneT (by omega)) ?_)
    | (refine Br_false (bneF (by omega)) ?_)
    | (refine Br_bne (fun h => ?_) (fun h => ?_))
    | (refine Br_true (decide_eq_true (by omega)) ?_)
    | (refine Br_false (decide_eq_false (by omega)) ?_)
    | (refine Br_dec (fun h => ?_) (fun h => ?_))
    | (refine Br_not ?_)
    | (refine Len_in (fun hlen => ?_))
    | (refine ArK_any ?_)
    | (refine Fn.use (bitsLen _) rfl rfl ?_)
    | (refine CallF_in (bitsLen _) rfl rfl ?_)
    | (refine Tri.use (pdqsort l hl hne) ?_)
    | (refine finQ ⟨rfl, rfl⟩)
    | (refine Br_split (fun h => ?_) (fun h => ?_))
    | (refine fin0 rfl ?_)
    | (refine ArK_in (wrap_i64 (by omega) (by omega)) ?_)
    | (refine force_in ?_)))
end Go.Eng
namespace Go.Eng
open Go
def lay (l : List Attr) (a : Attr) : List Attr :=
  if 0 ≤ ix (fun b : Attr => b.name == a.name) l then l.set (ix (fun b : Attr => b.name == a.name) l).toNat a else insA (l ++ [a])
def setG (t : Tree) (n : Int) (a : Attr) : Tree × Int :=
  if mayB t = false then ([], 1)
  else if isN t n = false then (t, 2)
  else if (nd t n).kind ≠ 1 ∧ (nd t n).kind ≠ 3 then (t, 3)
  else if mayB (putAttrs t n (lay (nd t n).attrs a)) = false then (t, 7)
  else (putAttrs t n (lay (nd t n).attrs a), 0)
def Rise (l : List Attr) : Prop := l.Pairwise fun a b => a.name < b.name
theorem attrB_name {k : Int} {a : Attr} (h : attrB k a = true) : 0 ≤ a.name ∧ a.name ≤ 9 := by
  unfold attrB at h; simp at h; exact h.1.1
theorem attrsFrom_iff (k : Int) (hk : k = 1 ∨ k = 3) (l : List Attr) : ∀ last : Int, -1 ≤ last → (attrsFrom (decide (k = 3)) last l = true ↔ (∀ a ∈ l, attrB k a = true) ∧ Rise l ∧ ∀ a ∈ l, last < a.name) := by
  induction l with
  | nil => intro last _; simp [attrsFrom, Rise]
  | cons a r ih =>
    intro last hl
    simp only [attrsFrom, Bool.and_eq_true, decide_eq_true_eq, beq_iff_eq]
    constructor
    · rintro ⟨⟨⟨⟨h1, h2⟩, h3⟩, h4⟩, h5⟩
      obtain ⟨g1, g2, g3⟩ := (ih a.name (by omega)).1 h5
      refine ⟨?_, ?_, ?_⟩
      · intro b hb
        rcases List.mem_cons.1 hb with rfl | hb
        · unfold attrB
          rcases hk with rfl | rfl
          · simp at h4 ⊢; exact ⟨⟨by omega, h3⟩, h4⟩
          · simp at h4 ⊢; exact ⟨⟨by omega, h3⟩, h4⟩
        · exact g1 b hb
      · exact List.pairwise_cons.2 ⟨g3, g2⟩
      · intro b hb
        rcases List.mem_cons.1 hb with rfl | hb
        · exact h1
        · have := g3 b hb; omega
    · rintro ⟨h1, h2, h3⟩
      obtain ⟨g1, g2⟩ := List.pairwise_cons.1 h2
      have ha := h1 a (by simp)
      have hn := attrB_name ha
      refine ⟨⟨⟨⟨h3 a (by simp), by omega⟩, ?_⟩, ?_⟩, (ih a.name (by omega)).2 ⟨fun b hb => h1 b (by simp [hb]), g2, g1⟩⟩
      · unfold attrB at ha; simp at ha; exact ha.1.2
      · unfold attrB at ha
        rcases hk with rfl | rfl
        · simp at ha ⊢; exact ha.2
        · simp at ha ⊢; exact ha.2
theorem attrsB_iff (x : Node) (hk : x.kind = 1 ∨ x.kind = 3) : attrsB x = true ↔ (∀ a ∈ x.attrs, attrB x.kind a = true) ∧ Rise x.attrs := by
  unfold attrsB
  rw [Bool.and_eq_true, attrsFrom_iff x.kind hk _ (-1) (by omega)]
  constructor
  · rintro ⟨⟨h1, h2, _⟩, _⟩; exact ⟨h1, h2⟩
  · rintro ⟨h1, h2⟩
    refine ⟨⟨h1, h2, fun a ha => ?_⟩, ?_⟩
    · have := attrB_name (h1 a ha); omega
    · rcases hk with h | h <;> simp [h]
theorem Rise_ext : ∀ {l m : List Attr}, Rise l → Rise m → (∀ a, a ∈ l ↔ a ∈ m) → l = m := by
  intro l
  induction l with
  | nil =>
    intro m _ _ h
    cases m with
    | nil => rfl
    | cons b m => have := (h b).2 (by simp); simp at this
  | cons a l ih =>
    intro m hl hm h
    cases m with
    | nil => have := (h a).1 (by simp); simp at this
    | cons b m =>
      obtain ⟨l1, l2⟩ := List.pairwise_cons.1 hl
      obtain ⟨m1, m2⟩ := List.pairwise_cons.1 hm
      have e : a = b := by
        rcases List.mem_cons.1 ((h a).1 (by simp)) with e | ha
        · exact e
        · rcases List.mem_cons.1 ((h b).2 (by simp)) with e | hb
          · exact e.symm
          · have := m1 a ha; have := l1 b hb; omega
      subst e
      congr 1
      refine ih l2 m2 fun x => ?_
      have hx := h x
      simp only [List.mem_cons] at hx
      constructor
      · intro hxl
        rcases hx.1 (.inr hxl) with rfl | h1
        · have := l1 x hxl; omega
        · exact h1
      · intro hxm
        rcases hx.2 (.inr hxm) with rfl | h1
        · have := m1 x hxm; omega
        · exact h1
theorem withTo_mem (l : List Attr) (a : Attr) (b : Bool) (hl : ∀ x ∈ l, 0 ≤ x.name) (k : Nat) : ∀ x, x ∈ withTo l a b k ↔ (x ∈ l ∧ x.name ≠ a.name ∧ x.name < k) ∨ (b = true ∧ x = a ∧ 0 ≤ a.name ∧ a.name < k) := by
  induction k with
  | zero =>
    intro x
    simp only [withTo, List.not_mem_nil, false_iff]
    rintro (⟨h1, h2, h3⟩ | ⟨h1, h2, h3, h4⟩)
    · have := hl x h1; omega
    · omega
  | succ k ih =>
    intro x
    simp only [withTo, List.mem_append, ih, withAt]
    by_cases hk : (k : Int) = a.name
    · rw [if_pos hk]
      cases b
      · simp
        intro h1 h2
        constructor <;> intro h3 <;> omega
      · simp
        constructor
        · rintro ((⟨h1, h2, h3⟩ | ⟨h1, h2, h3⟩) | h)
          · exact .inl ⟨h1, h2, by omega⟩
          · omega
          · exact .inr ⟨h, by omega, by omega⟩
        · rintro (⟨h1, h2, h3⟩ | ⟨h1, h2, h3⟩)
          · exact .inl (.inl ⟨h1, h2, by omega⟩)
          · exact .inr h1
    · rw [if_neg hk]
      simp
      constructor
      · rintro ((⟨h1, h2, h3⟩ | ⟨h1, h2, h3, h4⟩) | ⟨h1, h2⟩)
        · exact .inl ⟨h1, h2, by omega⟩
        · exact .inr ⟨h1, h2, h3, by omega⟩
        · exact .inl ⟨h1, by omega, by omega⟩
      · rintro (⟨h1, h2, h3⟩ | ⟨h1, h2, h3, h4⟩)
        · by_cases e : x.name = k
          · exact .inr ⟨h1, e⟩
          · exact .inl (.inl ⟨h1, h2, by omega⟩)
        · exact .inl (.inr ⟨h1, h2, h3, by omega⟩)
theorem withTo_rise (l : List Attr) (a : Attr) (b : Bool) (hl : ∀ x ∈ l, 0 ≤ x.name) (hr : Rise l) (k : Nat) : Rise (withTo l a b k) := by
  induction k with
  | zero => simp [withTo, Rise]
  | succ k ih =>
    simp only [withTo]
    refine List.pairwise_append.2 ⟨ih, ?_, ?_⟩
    · unfold withAt
      split
      · split <;> simp
      · exact hr.sublist List.filter_sublist
    · intro x hx y hy
      have h1 := (withTo_mem l a b hl k x).1 hx
      have hxk : x.name < k := by rcases h1 with h | h; exact h.2.2; rw [h.2.1]; exact h.2.2.2
      have hyk : y.name = k := by
        unfold withAt at hy
        split at hy
        · rename_i e
          split at hy
          · simp at hy; rw [hy]; exact e.symm
          · simp at hy
        · simp at hy; exact hy.2
      omega
theorem withL_mem (l : List Attr) (a : Attr) (b : Bool) (hl : ∀ x ∈ l, 0 ≤ x.name ∧ x.name ≤ 9) : ∀ x, x ∈ withL l a b ↔ (x ∈ l ∧ x.name ≠ a.name) ∨ (b = true ∧ x = a ∧ 0 ≤ a.name ∧ a.name ≤ 9) := by
  intro x
  unfold withL
  rw [withTo_mem l a b (fun x hx => (hl x hx).1) 10 x]
  constructor
  · rintro (⟨h1, h2, h3⟩ | ⟨h1, h2, h3, h4⟩)
    · exact .inl ⟨h1, h2⟩
    · exact .inr ⟨h1, h2, h3, by omega⟩
  · rintro (⟨h1, h2⟩ | ⟨h1, h2, h3, h4⟩)
    · exact .inl ⟨h1, h2, by have := (hl x h1).2; omega⟩
    · exact .inr ⟨h1, h2, h3, by omega⟩
theorem withL_rise (l : List Attr) (a : Attr) (b : Bool) (hl : ∀ x ∈ l, 0 ≤ x.name ∧ x.name ≤ 9) (hr : Rise l) : Rise (withL l a b) :=
  withTo_rise l a b (fun x hx => (hl x hx).1) hr 10
theorem swapA_perm (m : List Attr) (j : Nat) (h : j < m.length) : (swapA m j).Perm m := by
  unfold swapA
  have h1 : j - 1 < m.length := by omega
  have e1 : m.getD (j - 1) default = m[j - 1] := by simp [List.getD, h1]
  have e2 : m.getD j default = m[j] := by simp [List.getD, h]
  rw [e1, e2]
  exact List.set_set_perm h h1
theorem downA_perm (j : Nat) : ∀ m : List Attr, j < m.length → (downA j m).Perm m := by
  induction j with
  | zero => intro m _; exact .refl _
  | succ j ih =>
    intro m hj
    simp only [downA]
    split
    · exact (ih _ (by rw [swapA_len]; omega)).trans (swapA_perm m (j + 1) hj)
    · exact .refl _
theorem insTo_perm (k : Nat) (m : List Attr) (h : k < m.length ∨ k = 0) : (insTo k m).Perm m := by
  induction k with
  | zero => exact .refl _
  | succ k ih =>
    simp only [insTo]
    exact (downA_perm _ _ (by rw [insTo_len]; omega)).trans (ih (by omega))
theorem insA_perm (m : List Attr) : (insA m).Perm m := by
  unfold insA
  refine insTo_perm _ _ ?_
  by_cases h : m.length = 0
  · right; omega
  · left; omega
theorem ltA_eq {a b : Attr} (ha : 0 ≤ a.name ∧ a.name ≤ 9) (hb : 0 ≤ b.name ∧ b.name ≤ 9) : ltA a b = decide (a.name < b.name) := by
  unfold ltA
  rw [wrap_i64 (by omega) (by omega)]
  rw [Bool.eq_iff_iff]; simp; omega
def Sorted (l : List Attr) : Prop := l.Pairwise fun a b => a.name ≤ b.name
theorem getD_mid (p : List Attr) (x : Attr) (s : List Attr) (k : Nat) (h : p.length = k) : (p ++ x :: s).getD k default = x := by
  subst h; simp [List.getD]
theorem downA_ins (j : Nat) : ∀ (p : List Attr) (x : Attr) (s : List Attr), p.length = j → Sorted p → (∀ y ∈ x :: p, 0 ≤ y.name ∧ y.name ≤ 9) →
    ∃ q, downA j (p ++ x :: s) = q ++ s ∧ q.Perm (p ++ [x]) ∧ Sorted q := by
  induction j with
  | zero =>
    intro p x s hp hs hn
    have : p = [] := List.length_eq_zero_iff.1 hp
    subst this
    exact ⟨[x], rfl, .refl _, by simp [Sorted]⟩
  | succ j ih =>
    intro p x s hp hs hn
    obtain ⟨p', y, rfl⟩ : ∃ p' y, p = p' ++ [y] := ⟨p.dropLast, p.getLast (by rintro rfl; simp at hp), (List.dropLast_concat_getLast _).symm⟩
    have hp' : p'.length = j := by simpa using hp
    have g1 : ((p' ++ [y]) ++ x :: s).getD (j + 1) default = x := getD_mid _ _ _ _ hp
    have g0 : ((p' ++ [y]) ++ x :: s).getD j default = y := by rw [List.append_assoc]; exact getD_mid p' y _ j hp'
    simp only [downA, g1, g0]
    have hy := hn y (by simp)
    have hx := hn x (by simp)
    rw [ltA_eq hx hy]
    obtain ⟨s1, s2, s3⟩ := List.pairwise_append.1 hs
    by_cases h : x.name < y.name
    · rw [if_pos (by simpa using h)]
      have e : swapA ((p' ++ [y]) ++ x :: s) (j + 1) = p' ++ x :: (y :: s) := by
        unfold swapA
        have g0' : ((p' ++ [y]) ++ x :: s).getD (j + 1 - 1) default = y := g0
        rw [g1, g0']
        simp only [Nat.add_sub_cancel, List.append_assoc, List.singleton_append]
        rw [List.set_append_right _ _ (by omega), List.set_append_right _ _ (by omega)]
        simp only [hp', Nat.sub_self, show j + 1 - j = 1 by omega]
        rfl
      rw [e]
      obtain ⟨q, h1, h2, h3⟩ := ih p' x (y :: s) hp' s1 (fun z hz => hn z (by
        rcases List.mem_cons.1 hz with rfl | hz
        · simp
        · simp [hz]))
      refine ⟨q ++ [y], by rw [h1]; simp, ?_, ?_⟩
      · refine (h2.append_right [y]).trans ?_
        simp only [List.append_assoc]
        refine List.Perm.append_left p' ?_
        exact List.Perm.swap y x []
      · refine List.pairwise_append.2 ⟨h3, by simp, fun a ha b hb => ?_⟩
        simp at hb
        subst hb
        rcases List.mem_append.1 (h2.mem_iff.1 ha) with ha | ha
        · exact s3 a ha b (by simp)
        · simp at ha; subst ha; omega
    · rw [if_neg (by simpa using h)]
      refine ⟨(p' ++ [y]) ++ [x], by simp, .refl _, ?_⟩
      refine List.pairwise_append.2 ⟨hs, by simp, fun a ha b hb => ?_⟩
      simp at hb
      subst hb
      rcases List.mem_append.1 ha with ha | ha
      · have := s3 a ha y (by simp); omega
      · simp at ha; subst ha; omega
theorem insTo_sorted (m : List Attr) (hn : ∀ y ∈ m, 0 ≤ y.name ∧ y.name ≤ 9) (k : Nat) (hk : k < m.length) :
    ∃ q, insTo k m = q ++ m.drop (k + 1) ∧ q.Perm (m.take (k + 1)) ∧ Sorted q := by
  induction k with
  | zero =>
    cases m with
    | nil => simp at hk
    | cons a r => exact ⟨[a], rfl, .refl _, by simp [Sorted]⟩
  | succ k ih =>
    obtain ⟨q, h1, h2, h3⟩ := ih (by omega)
    simp only [insTo]
    rw [h1, List.drop_eq_getElem_cons hk]
    have hql : q.length = k + 1 := by rw [h2.length_eq, List.length_take]; omega
    obtain ⟨q', g1, g2, g3⟩ := downA_ins (k + 1) q m[k + 1] (m.drop (k + 1 + 1)) hql h3 (fun y hy => by
      rcases List.mem_cons.1 hy with rfl | hy
      · exact hn _ (List.getElem_mem _)
      · exact hn y (List.mem_of_mem_take (h2.mem_iff.1 hy)))
    refine ⟨q', g1, g2.trans ?_, g3⟩
    rw [List.take_succ_eq_append_getElem hk]
    exact h2.append_right _
theorem insA_sorted (m : List Attr) (hn : ∀ y ∈ m, 0 ≤ y.name ∧ y.name ≤ 9) : Sorted (insA m) := by
  cases m with
  | nil => simp [insA, insTo, Sorted]
  | cons a r =>
    obtain ⟨q, h1, h2, h3⟩ := insTo_sorted (a :: r) hn ((a :: r).length - 1) (by simp)
    unfold insA
    rw [h1, List.drop_eq_nil_of_le (by simp)]
    simpa using h3
theorem Sorted_rise {l : List Attr} (h : Sorted l) (hd : (l.map Attr.name).Nodup) : Rise l := by
  induction l with
  | nil => simp [Rise]
  | cons a r ih =>
    obtain ⟨h1, h2⟩ := List.pairwise_cons.1 h
    simp only [List.map_cons, List.nodup_cons] at hd
    refine List.pairwise_cons.2 ⟨fun b hb => ?_, ih h2 hd.2⟩
    have := h1 b hb
    have : a.name ≠ b.name := fun e => hd.1 (by rw [e]; exact List.mem_map_of_mem hb)
    omega
theorem Rise_nodup {l : List Attr} (h : Rise l) : (l.map Attr.name).Nodup := by
  induction l with
  | nil => simp
  | cons a r ih =>
    obtain ⟨h1, h2⟩ := List.pairwise_cons.1 h
    simp only [List.map_cons, List.nodup_cons]
    refine ⟨?_, ih h2⟩
    intro hm
    obtain ⟨b, hb, e⟩ := List.mem_map.1 hm
    have := h1 b hb
    omega
theorem ix_lt {l : List Attr} {n : Int} (h : ix (fun b : Attr => b.name == n) l < 0) : ∀ x ∈ l, x.name ≠ n := by
  have := ix_any (fun b : Attr => b.name == n) l
  rw [decide_eq_false (by omega)] at this
  intro x hx e
  have h2 : l.any (fun b : Attr => b.name == n) = true := List.any_eq_true.2 ⟨x, hx, by simp [e]⟩
  rw [← this] at h2
  simp at h2
theorem ix_ge {l : List Attr} {n : Int} (h : 0 ≤ ix (fun b : Attr => b.name == n) l) : ∃ b, l[(ix (fun b : Attr => b.name == n) l).toNat]? = some b ∧ b.name = n := by
  induction l with
  | nil => simp [ix] at h
  | cons a r ih =>
    simp only [ix] at h ⊢
    by_cases e : (a.name == n) = true
    · rw [if_pos e]
      exact ⟨a, rfl, by simpa using e⟩
    · rw [if_neg e] at h ⊢
      by_cases g : ix (fun b : Attr => b.name == n) r < 0
      · simp only [if_pos g] at h; omega
      · simp only [if_neg g] at h ⊢
        obtain ⟨b, h1, h2⟩ := ih (by omega)
        refine ⟨b, ?_, h2⟩
        rw [show (ix (fun b : Attr => b.name == n) r + 1).toNat = (ix (fun b : Attr => b.name == n) r).toNat + 1 by omega]
        exact h1
theorem lay_law (x : Node) (a : Attr) (hk : x.kind = 1 ∨ x.kind = 3) (h : attrsB x = true) :
    attrsB { x with attrs := lay x.attrs a } = attrB x.kind a ∧ (attrB x.kind a = true → lay x.attrs a = withL x.attrs a true) := by
  obtain ⟨h1, h2⟩ := (attrsB_iff x hk).1 h
  have hnm : ∀ y ∈ x.attrs, 0 ≤ y.name ∧ y.name ≤ 9 := fun y hy => attrB_name (h1 y hy)
  have iff2 := attrsB_iff { x with attrs := lay x.attrs a } hk
  simp only at iff2
  by_cases hi : 0 ≤ ix (fun b : Attr => b.name == a.name) x.attrs
  · have el : lay x.attrs a = x.attrs.set (ix (fun b : Attr => b.name == a.name) x.attrs).toNat a := by unfold lay; rw [if_pos hi]
    obtain ⟨b, hb, hbn⟩ := ix_ge hi
    generalize (ix (fun b : Attr => b.name == a.name) x.attrs).toNat = i at *
    have hil : i < x.attrs.length := (List.getElem?_eq_some_iff.1 hb).1
    have hmap : (lay x.attrs a).map Attr.name = x.attrs.map Attr.name := by
      rw [el, List.map_set]
      apply List.ext_getElem?
      intro j
      rw [List.getElem?_set]
      split
      · subst_vars
        rw [if_pos (by simpa using hil), List.getElem?_map, hb]
        simp [hbn]
      · rfl
    have hrise : Rise (lay x.attrs a) := by
      have : ((lay x.attrs a).map Attr.name).Pairwise (· < ·) := by
        rw [hmap]; exact List.pairwise_map.2 h2
      exact List.pairwise_map.1 this
    have hmem : ∀ y, y ∈ lay x.attrs a ↔ (y ∈ x.attrs ∧ y.name ≠ a.name) ∨ y = a := by
      intro y
      rw [el, List.mem_iff_getElem?]
      constructor
      · rintro ⟨j, hj⟩
        rw [List.getElem?_set] at hj
        split at hj
        · injection hj with hj; exact .inr hj.symm
        · rename_i hne
          left
          refine ⟨List.mem_of_getElem? hj, fun e => hne ?_⟩
          obtain ⟨hjl, hj'⟩ := List.getElem?_eq_some_iff.1 hj
          obtain ⟨_, hb'⟩ := List.getElem?_eq_some_iff.1 hb
          rcases Nat.lt_trichotomy i j with g | g | g
          · have := List.pairwise_iff_getElem.1 h2 i j hil hjl g
            rw [hj', hb'] at this; omega
          · exact g
          · have := List.pairwise_iff_getElem.1 h2 j i hjl hil g
            rw [hj', hb'] at this; omega
      · rintro (⟨hy, hne⟩ | rfl)
        · obtain ⟨j, hj⟩ := List.mem_iff_getElem?.1 hy
          refine ⟨j, ?_⟩
          rw [List.getElem?_set_ne, hj]
          rintro rfl
          rw [hb] at hj; injection hj with hj; subst hj; exact hne hbn
        · exact ⟨i, List.getElem?_set_self hil⟩
    refine ⟨?_, fun ha => Rise_ext hrise (withL_rise _ _ _ hnm h2) fun y => ?_⟩
    · rw [Bool.eq_iff_iff, iff2]
      constructor
      · rintro ⟨g, _⟩; exact g a ((hmem a).2 (.inr rfl))
      · intro g
        refine ⟨fun y hy => ?_, hrise⟩
        rcases (hmem y).1 hy with ⟨hy, _⟩ | rfl
        · exact h1 y hy
        · exact g
    · rw [hmem, withL_mem _ _ _ hnm]
      have := attrB_name ha
      simp [this.1, this.2]
  · have el : lay x.attrs a = insA (x.attrs ++ [a]) := by unfold lay; rw [if_neg hi]
    have hno := ix_lt (by omega : ix (fun b : Attr => b.name == a.name) x.attrs < 0)
    have hmem : ∀ y, y ∈ lay x.attrs a ↔ y ∈ x.attrs ∨ y = a := by
      intro y; rw [el, (insA_perm _).mem_iff]; simp
    have hrise : (0 ≤ a.name ∧ a.name ≤ 9) → Rise (lay x.attrs a) := by
      intro han
      rw [el]
      refine Sorted_rise (insA_sorted _ fun y hy => ?_) ?_
      · rcases List.mem_append.1 hy with hy | hy
        · exact hnm y hy
        · simp at hy; subst hy; exact han
      · have hp := (insA_perm (x.attrs ++ [a])).map Attr.name
        refine hp.nodup_iff.2 ?_
        rw [List.map_append, List.nodup_append]
        refine ⟨Rise_nodup h2, by simp, ?_⟩
        intro n hn m hm e
        simp at hm
        obtain ⟨y, hy, rfl⟩ := List.mem_map.1 hn
        exact hno y hy (e.trans hm)
    refine ⟨?_, fun ha => Rise_ext (hrise (attrB_name ha)) (withL_rise _ _ _ hnm h2) fun y => ?_⟩
    · rw [Bool.eq_iff_iff, iff2]
      constructor
      · rintro ⟨g, _⟩; exact g a ((hmem a).2 (.inr rfl))
      · intro g
        refine ⟨fun y hy => ?_, hrise (attrB_name g)⟩
        rcases (hmem y).1 hy with hy | rfl
        · exact h1 y hy
        · exact g
    · rw [hmem, withL_mem _ _ _ hnm]
      have := attrB_name ha
      simp
      constructor
      · rintro (g | g)
        · exact .inl ⟨g, hno y g⟩
        · exact .inr ⟨g, by omega, by omega⟩
      · rintro (g | g)
        · exact .inl g.1
        · exact .inr g.1
theorem put_len (t : Tree) (n : Int) (l : List Attr) : (putAttrs t n l).length = t.length := by unfold putAttrs; simp
theorem put_isN (t : Tree) (n m : Int) (l : List Attr) : isN (putAttrs t n l) m = isN t m := by unfold isN; rw [put_len]
theorem put_nd (t : Tree) (n m : Int) (l : List Attr) (h : isN t n = true) (hm : 0 ≤ m) : nd (putAttrs t n l) m = if m = n then { nd t n with attrs := l } else nd t m := by
  obtain ⟨h1, h2⟩ := nd_get h
  have h0 := nd_pos h
  unfold putAttrs
  show List.getD _ _ _ = _
  rw [List.getD_eq_getElem?_getD, List.getElem?_set]
  by_cases e : m = n
  · subst e; rw [if_pos rfl, if_pos rfl]; simp [h1]
  · rw [if_neg e, if_neg (by omega)]; rfl
structure SameBut (x y : Node) : Prop where
  kind : x.kind = y.kind
  tag : x.tag = y.tag
  parent : x.parent = y.parent
  kids : x.kids = y.kids
  host : x.host = y.host
  root : x.root = y.root
theorem put_same (t : Tree) (n : Int) (l : List Attr) (h : isN t n = true) (m : Int) : SameBut (nd (putAttrs t n l) m) (nd t m) := by
  by_cases hm : 0 ≤ m
  · rw [put_nd t n m l h hm]
    split
    · subst_vars; exact ⟨rfl, rfl, rfl, rfl, rfl, rfl⟩
    · exact ⟨rfl, rfl, rfl, rfl, rfl, rfl⟩
  · have e : nd (putAttrs t n l) m = nd (putAttrs t n l) 0 := by unfold nd; rw [show m.toNat = (0 : Int).toNat by omega]
    have e2 : nd t m = nd t 0 := by unfold nd; rw [show m.toNat = (0 : Int).toNat by omega]
    rw [e, e2, put_nd t n 0 l h (by omega)]
    split
    · subst_vars; exact ⟨rfl, rfl, rfl, rfl, rfl, rfl⟩
    · exact ⟨rfl, rfl, rfl, rfl, rfl, rfl⟩
theorem put_node (t : Tree) (n : Int) (l : List Attr) (h : isN t n = true) (m : Int) (hm : 0 ≤ m) (hB : nodeB t m = true) :
    nodeB (putAttrs t n l) m = if m = n then attrsB { nd t n with attrs := l } else true := by
  have hs := put_same t n l h
  have e1 : kindB (nd (putAttrs t n l) m) m = kindB (nd t m) m := by unfold kindB; rw [(hs m).kind, (hs m).tag]
  have e2 : parB (putAttrs t n l) (nd (putAttrs t n l) m) m = parB t (nd t m) m := by
    unfold parB; rw [(hs m).parent, put_isN, (hs _).kids]
  have e3 : shadowB (putAttrs t n l) m = shadowB t m := by
    unfold shadowB
    simp only [(hs m).kind, (hs m).root, (hs m).parent, (hs m).host, put_isN, (hs (nd t m).host).kind, (hs (nd t m).host).root, (hs (nd t m).root).kind, (hs (nd t m).root).host]
  have e4 : ∀ k, belowB (putAttrs t n l) m k = belowB t m k := by
    intro k; unfold belowB; rw [put_isN, (hs m).kids, (hs k).parent, (hs k).kind]
  have ek : (nd (putAttrs t n l) m).kids.all (belowB (putAttrs t n l) m) = (nd t m).kids.all (belowB t m) := by
    rw [(hs m).kids]; congr 1; funext k; exact e4 k
  unfold nodeB at hB ⊢
  rw [e1, e2, e3, ek, (hs m).kind, (hs m).kids]
  rw [put_nd t n m l h hm]
  simp only [Bool.and_eq_true] at hB
  obtain ⟨⟨⟨⟨⟨h1, h2⟩, h3⟩, h4⟩, h5⟩, h6⟩ := hB
  rw [h1, h2, h3, h5, h6]
  by_cases e : m = n
  · subst e; simp
  · simp [e, h4]
theorem put_may (t : Tree) (n : Int) (l : List Attr) (hB : mayB t = true) (h : isN t n = true) : mayB (putAttrs t n l) = attrsB { nd t n with attrs := l } := by
  have hs := put_same t n l h
  have h0 := nd_pos h
  obtain ⟨hl, _⟩ := nd_get h
  unfold mayB at hB ⊢
  rw [put_len]
  simp only [Bool.and_eq_true, List.all_eq_true, List.mem_range] at hB
  obtain ⟨⟨g1, g2⟩, g3⟩ := hB
  have ends : ∀ (f : Nat) (m : Int), endsF (putAttrs t n l) f m = endsF t f m := by
    intro f
    induction f with
    | zero => intro m; rfl
    | succ f ih => intro m; simp only [endsF]; rw [ih]; unfold upN; rw [(hs m).kind, (hs m).host, (hs m).parent]
  rw [g1]
  rw [Bool.eq_iff_iff]
  simp only [Bool.and_eq_true, Bool.true_and, List.all_eq_true, List.mem_range]
  constructor
  · rintro ⟨k1, _⟩
    have := k1 n.toNat hl
    rw [show ((n.toNat : Nat) : Int) = n by omega, put_node t n l h n h0 (by have := g2 n.toNat hl; rwa [show ((n.toNat : Nat) : Int) = n by omega] at this)] at this
    simpa using this
  · intro k
    refine ⟨fun m hm => ?_, fun m hm => ?_⟩
    · rw [put_node t n l h m (by omega) (g2 m hm)]
      split
      · exact k
      · rfl
    · have := g3 m hm
      unfold endsB at this ⊢
      rw [put_len, ends]
      exact this
theorem may_attrs {t : Tree} {n : Int} (hB : mayB t = true) (h : isN t n = true) : attrsB (nd t n) = true := by
  have h0 := nd_pos h
  obtain ⟨hl, _⟩ := nd_get h
  unfold mayB at hB
  simp only [Bool.and_eq_true, List.all_eq_true, List.mem_range] at hB
  have := hB.1.2 n.toNat hl
  rw [show ((n.toNat : Nat) : Int) = n by omega] at this
  unfold nodeB at this
  simp only [Bool.and_eq_true] at this
  exact this.1.1.2
theorem setG_R (t : Tree) (n : Int) (a : Attr) : setG t n a = setR t n a := by
  unfold setG setR
  by_cases h1 : mayB t = false
  · rw [if_pos h1, if_pos h1]
  · by_cases h2 : isN t n = false
    · rw [if_neg h1, if_neg h1, if_pos h2, if_pos h2]
    · by_cases h3 : (nd t n).kind ≠ 1 ∧ (nd t n).kind ≠ 3
      · rw [if_neg h1, if_neg h1, if_neg h2, if_neg h2, if_pos h3, if_pos h3]
      · rw [if_neg h1, if_neg h1, if_neg h2, if_neg h2, if_neg h3, if_neg h3]
        simp only [Bool.not_eq_false] at h1 h2
        have hk : (nd t n).kind = 1 ∨ (nd t n).kind = 3 := by omega
        obtain ⟨g1, g2⟩ := lay_law (nd t n) a hk (may_attrs h1 h2)
        rw [put_may t n _ h1 h2, g1]
        by_cases h4 : attrB (nd t n).kind a = false
        · rw [if_pos h4, if_pos h4]
        · rw [if_neg h4, if_neg h4, g2 (by simpa using h4)]
theorem may_len {t : Tree} {n : Int} (hB : mayB t = true) (h : isN t n = true) : (nd t n).attrs.length ≤ 10 := by
  have ha := may_attrs hB h
  by_cases hk : (nd t n).kind = 1 ∨ (nd t n).kind = 3
  · obtain ⟨h1, h2⟩ := (attrsB_iff _ hk).1 ha
    have key : ∀ (l : List Attr), Rise l → ∀ (lo : Nat), (∀ a ∈ l, (lo : Int) ≤ a.name ∧ a.name ≤ 9) → l.length + lo ≤ 10 ∨ l = [] := by
      intro l
      induction l with
      | nil => intro _ lo _; exact .inr rfl
      | cons a r ih =>
        intro hr lo hl
        obtain ⟨r1, r2⟩ := List.pairwise_cons.1 hr
        have h0 := hl a (by simp)
        left
        rcases ih r2 (a.name.toNat + 1) (fun b hb => by have := r1 b hb; have := hl b (by simp [hb]); omega) with g | g
        · simp only [List.length_cons]; omega
        · subst g; simp only [List.length_cons, List.length_nil]; omega
    rcases key _ h2 0 (fun a ha => attrB_name (h1 a ha)) with g | g
    · omega
    · rw [g]; simp
  · unfold attrsB at ha
    simp at ha
    rcases ha.2 with (g | g) | g
    · rw [g]; simp
    · exact absurd (.inl g) hk
    · exact absurd (.inr g) hk
end Go.Eng
set_option linter.unusedVariables false
set_option linter.unusedSimpArgs false
namespace Go.Eng
open Go
theorem patch_one (H : Heap) (q : Nat) (hq : q < H.length) (l : List AV) (hl : ∀ f, renB f (.row l) = .row l) : patch [q] H [some (.row l)] = H.set q (some (.row l)) := by
  unfold patch
  simp only [List.drop_succ_cons, List.drop_nil, List.length_cons, List.length_nil, renH, List.append_nil]
  apply List.ext_getElem?
  intro i
  obtain ⟨_, h2⟩ := patch1_get (hmap [q] H.length) [q] [some (.row l)] H 0
  rw [h2, List.getElem?_set]
  simp only [Nat.zero_add]
  by_cases e : q = i
  · subst e
    rw [if_pos rfl, if_pos hq]
    have hp : pos [q] q = some 0 := by
      simp [pos, pos.go]
    rw [hp]
    rw [List.getElem?_eq_getElem hq]
    simp [hl]
  · rw [if_neg e]
    have hp : pos [q] i = none := by
      have : Nat.beq q i = false := beq_ne e
      simp [pos, pos.go, this]
    rw [hp]
    cases H[i]? <;> rfl
theorem Tri.on {P : Program} {f : FuncId} {args0 args : List AV} {r0 r : AV} {l l' : List D} {H : Heap} {q : Nat} {K : AV → Heap → Prop} (h : Tri P f args0 [some (.row (l.map .d))] fun v H => v = r0 ∧ H = [some (.row (l'.map .d))])
    (hq : H[q]? = some (some (.row (l.map .d)))) (hargs : args = renL (gOf [q]) args0) (hl : lowL 1 args0 = true) (hr : Eng.ren (hmap [q] H.length) r0 = r) (hK : K r (H.set q (some (.row (l'.map .d))))) : Tri P f args H K := by
  have hlt : q < H.length := (List.getElem?_eq_some_iff.1 hq).1
  refine Tri.call h [q] ?_ rfl ?_ hargs hl rfl rfl hr (patch_one H q hlt _ fun f => renB_row f l') hK
  · simp only [List.all_cons, List.all_nil, Bool.and_true]; exact Nat.ble_eq_true_of_le hlt
  · exact ⟨⟨by rw [hq, renB_row], lowB_row _ _⟩, trivial⟩
end Go.Eng
namespace Go.Eng
open Go
theorem App_fit {ei : TI} {H : Heap} {b off len cl sz : Nat} {x : AV} {B : Prop} {K : AV → Heap → Prop} (old cs : List AV) (m : Nat) (hb : H[b]? = some (some (.row old))) (hx : newLen x = some m) (hc : newCells H ei.size x = some cs) (hsz : sz = ei.size)
    (hfit : len + m ≤ cl) (h1 : off + (len + m) * sz ≤ old.length) (h2 : cs.length = m * sz) (hlb : len + m ≤ 281474976710656) (hK : K (.msl b off (len + m) cl sz) (H.set b (some (.row (splice old (off + len * sz) cs))))) : ChK (appK ei H (.msl b off len cl sz) x K) B := by
  refine Ch_l ?_
  unfold appK
  rw [hx]
  simp only
  rw [hc]
  simp only
  have hro : rowOf H b = some old := by unfold rowOf; rw [hb]
  simp only [hro]
  refine Br_true (Nat.ble_eq_true_of_le hfit) ?_
  refine Br_true (by rw [hsz]; exact Nat.beq_refl _) ?_
  simp only [NeedK_eq]
  rw [setK_eq]
  exact ⟨⟨h1, h2, by unfold LB; omega⟩, hK⟩
end Go.Eng
namespace Go.Eng
theorem newCells_msl {H : Heap} {b off len c z sz : Nat} {cs : List AV} (h : H[b]? = some (some (.row cs))) (hle : off + len * sz ≤ cs.length) : newCells H sz (.msl b off len c z) = some (sub cs off (len * sz)) := by
  unfold newCells rowOf
  simp only [h]
  rw [Nat.ble_eq_true_of_le hle]
end Go.Eng
set_option maxRecDepth 100000
set_option linter.unusedVariables false
set_option linter.unusedSimpArgs false
namespace Go.Eng
open Go Go.Proofs
theorem App_msl {ei : TI} {H : Heap} {b sz n : Nat} {x : AV} {B : Prop} {K : AV → Heap → Prop} (rows new : List (List D)) (hne : rows ≠ []) (hnl : n = rows.length) (hb : H[b]? = some (some (.row (rows.flatten.map .d)))) (hx : newLen x = some new.length)
    (hc : newCells H ei.size x = some (new.flatten.map .d)) (hsz : sz = ei.size)
    (hn : new ≠ []) (hrs : ∀ r ∈ rows, r.length = ei.size) (hrn : ∀ r ∈ new, r.length = ei.size) (hlim : rows.length + new.length ≤ 1000000) (hby : ei.bytes ≤ 1000)
    (hK : K (.msl H.length 0 (rows.length + new.length) (rows.length + new.length) ei.size) (H.set b none ++ [some (.row ((rows ++ new).flatten.map .d))])) : ChK (appK ei H (.msl b 0 n n sz) x K) B := by
  subst hnl
  have := App_acc (ei := ei) (H := H) (b := b) (sz := sz) (x := x) (B := B) (K := K) rows new (by rw [AccB_cons hne]; exact hb) hx hc hsz hn hrs hrn hlim hby hK
  rwa [AccV_cons hne] at this
theorem map_d_inj : ∀ {a b : List D}, a.map AV.d = b.map AV.d → a = b := by
  intro a
  induction a with
  | nil => intro b h; cases b with
    | nil => rfl
    | cons x y => simp at h
  | cons x r ih => intro b h; cases b with
    | nil => simp at h
    | cons y q =>
      simp only [List.map_cons, List.cons.injEq, AV.d.injEq] at h
      rw [h.1, ih h.2]
theorem tabO_len (t : Tree) (n : Nat) (c : AV) : (tabO t n c).length = t.length * 7 := by unfold tabO; rw [List.length_set, tabT_len]
theorem FV_tabO (t : Tree) (n : Int) (h : isN t n = true) (l : List Attr) {H : Heap} {p q : Nat} (h0 : H[p]? = some (some (.row (tabO t n.toNat (.msl q 0 l.length l.length 2))))) (hq : H[q]? = some (some (.row (tabA l)))) :
    FV [] [p, q] H (.msl p 0 t.length t.length 7) (.d (treeD (putAttrs t n l))) := by
  obtain ⟨hl, hn⟩ := nd_get h
  refine .frz p 0 _ _ 7 (tabO t n.toNat (.msl q 0 l.length l.length 2)) ((putAttrs t n l).map Node.cs) (by simp) (by unfold rowOf; rw [h0]) (by rw [List.length_map, put_len]) cs7 (by rw [tabO_len]; omega) fun i x y hi hx hy => ?_
  rw [← put_cells h] at hy
  have hflat : ((t.map Node.cs).set n.toNat ((nd t n).cs.set 6 (attrsD l))).flatten = ((t.map Node.cs).flatten).set (n.toNat * 7 + 6) (attrsD l) := by
    have := splice_flat (t.map Node.cs) n.toNat 6 (nd t n).cs (attrsD l) cs7 (nd_row h) (by omega)
    simp only [splice] at this
    rw [← List.map_set] at this
    exact (map_d_inj this).symm
  rw [hflat] at hy
  unfold tabO tabT at hx
  rw [Nat.zero_add, List.getElem?_set] at hx
  rw [List.getElem?_set] at hy
  by_cases e : n.toNat * 7 + 6 = i
  · have hlen : i < ((t.map Node.cs).flatten).length := by rw [flatten_len _ cs7, List.length_map]; omega
    subst e
    rw [if_pos rfl, if_pos (by rw [List.length_map]; exact hlen)] at hx
    rw [if_pos rfl, if_pos hlen] at hy
    injection hx with hx
    injection hy with hy
    subst hx hy
    refine .frz q 0 _ _ 2 (tabA l) (l.map Attr.cs) (by simp) (by unfold rowOf; rw [hq]) (by simp) csl (by rw [tabA_len]; omega) fun i x y hi hx hy => ?_
    unfold tabA at hx
    rw [Nat.zero_add, List.getElem?_map, hy] at hx
    simp at hx
    subst hx
    exact .same _ rfl
  · rw [if_neg e] at hx hy
    rw [List.getElem?_map, hy] at hx
    simp at hx
    subst hx
    exact .same _ rfl
theorem renL_set (g : Nat → Nat) : ∀ (l : List AV) (i : Nat) (x : AV), renL g (l.set i x) = (renL g l).set i (ren g x) := by
  intro l
  induction l with
  | nil => intro i x; rfl
  | cons a r ih => intro i x; cases i with
    | zero => rfl
    | succ i => simp [renL, ih]
theorem ren_tabO (g : Nat → Nat) (t : Tree) (n : Nat) (c : AV) : renL g (tabO t n c) = tabO t n (ren g c) := by
  unfold tabO tabT; rw [renL_set, renL_d]
theorem hmap_nil (n i : Nat) : hmap [] n i = n + i := by show i - 0 + n = n + i; omega
theorem copy_call (t : Tree) (n : Int) (h : isN t n = true) (hs : SmallT t) {H : Heap} {K : AV → Heap → Prop}
    (hK : K (.msl H.length 0 t.length t.length 7) (H ++ (some (.row (tabO t n.toNat (atC (nd t n).attrs (H.length + 1)))) :: atH (nd t n).attrs))) : Tri Tryd.prog 33 [.d (treeD t)] H K := by
  obtain ⟨hl, hn⟩ := nd_get h
  have hcopy := copy_own t n.toNat hl hs
  have en : t[n.toNat] = nd t n := by
    obtain ⟨_, e⟩ := List.getElem?_eq_some_iff.1 hn; exact e
  rw [en] at hcopy
  by_cases hnil : (nd t n).attrs = []
  · have ec : ∀ b, atC (nd t n).attrs b = .esl := fun b => by unfold atC; rw [if_pos hnil]
    have eh : atH (nd t n).attrs = [] := by unfold atH; rw [if_pos hnil]
    rw [ec, eh] at hcopy hK
    refine Tri.call hcopy [] rfl rfl trivial rfl rfl rfl rfl (r := .msl H.length 0 t.length t.length 7) (by simp [ren, hmap_nil]) (by rw [patch_nil]; simp only [renH, List.map_cons, List.map_nil, Option.map, renB, ren_tabO, ren]) hK
  · have ec : ∀ b, atC (nd t n).attrs b = .msl b 0 (nd t n).attrs.length (nd t n).attrs.length 2 := fun b => by unfold atC; rw [if_neg hnil]
    have eh : atH (nd t n).attrs = [some (.row (((nd t n).attrs.map Attr.cs).flatten.map .d))] := by unfold atH; rw [if_neg hnil]
    rw [ec, eh] at hcopy hK
    refine Tri.call hcopy [] rfl rfl trivial rfl rfl rfl rfl (r := .msl H.length 0 t.length t.length 7) (by simp [ren, hmap_nil]) (by rw [patch_nil]; simp only [renH, List.map_cons, List.map_nil, Option.map, renB, ren_tabO, ren, hmap_nil, renL_d]) hK
theorem sort_call (l : List Attr) (hl : l.length ≤ 12) (hne : l ≠ []) {H : Heap} {q n : Nat} {K : AV → Heap → Prop} (hn : n = l.length) (hq : H[q]? = some (some (.row (tabA l)))) (hK : K (.tup []) (H.set q (some (.row (tabA (insA l)))))) :
    Tri Tryd.prog 34 [.msl q 0 n n 2, .d (.fn 35)] H K := by
  subst hn
  exact Tri.on (l := (l.map Attr.cs).flatten) (l' := ((insA l).map Attr.cs).flatten) (sortFunc l hl hne) hq rfl rfl rfl hK
theorem check_call (t : Tree) (n : Int) (h : isN t n = true) (l : List Attr) {H : Heap} {p q : Nat} (h0 : H[p]? = some (some (.row (tabO t n.toNat (.msl q 0 l.length l.length 2))))) (hq : H[q]? = some (some (.row (tabA l))))
    {r : Bool} (hr : mayB (putAttrs t n l) = r) {K : AV → Heap → Prop} (hK : K (.i (if r then 0 else 1)) H) : Tri Tryd.prog 36 [.msl p 0 t.length t.length 7] H K :=
  Tri.peek (tree_Check (putAttrs t n l)) rfl [p, q] rfl (fun i x y hx hy => by
    match i with
    | 0 => simp at hx hy; subst hx hy; exact FV_tabO t n h l h0 hq
    | i + 1 => simp at hx) (by rw [hr]; exact hK)
theorem set_fin (t : Tree) (n : Int) (h : isN t n = true) (l : List Attr) {H : Heap} {p q : Nat} (h0 : H[p]? = some (some (.row (tabO t n.toNat (.msl q 0 l.length l.length 2))))) (hq : H[q]? = some (some (.row (tabA l)))) {e : Int} :
    FinK 0 (.tup [.msl p 0 t.length t.length 7, .i e]) H (fun v H => v = .tup [.d (treeD (putAttrs t n l)), .i e] ∧ H = []) :=
  finD (F := [p, q]) (FV_tup2 (FV_tabO t n h l h0 hq) (.same _ rfl))
theorem tabO_set (t : Tree) (n : Nat) (c d : AV) : splice (tabO t n c) (0 + n * 7 + 6) [d] = tabO t n d := by
  unfold tabO
  simp only [splice]
  rw [show 0 + n * 7 + 6 = n * 7 + 6 by omega, List.set_set]
theorem tabO_get (t : Tree) (n : Nat) (c : AV) (h : n < t.length) : (tabO t n c)[0 + n * 7 + 6]? = some c := by
  rw [show 0 + n * 7 + 6 = n * 7 + 6 by omega]
  have := tabO_len t n c
  unfold tabO at this ⊢
  rw [List.length_set] at this
  exact List.getElem?_set_self (by omega)
theorem FV_tabA (l : List Attr) {H : Heap} {q : Nat} (hq : H[q]? = some (some (.row (tabA l)))) : FV [] [q] H (.msl q 0 l.length l.length 2) (.d (attrsD l)) :=
  FV_tab (cs := tabA l) (l.map Attr.cs) (by unfold rowOf; rw [hq]) rfl (by simp) csl
end Go.Eng
set_option maxRecDepth 100000
set_option linter.unusedVariables false
namespace Go.Eng
open Go Go.Proofs
theorem Fn.any1 {P : Program} {f : FuncId} {args : List AV} {r : AV} (h : Fn P f args r) : Fn P f args .any := Fn.any h
def csO (x : Node) (c : AV) : List AV := [.i x.kind, .i x.tag, .i x.parent, .d (ints x.kids), .i x.host, .i x.root, c]
theorem sub_tabO (t : Tree) (n : Int) (h : isN t n = true) (c : AV) : sub (tabO t n.toNat c) (0 + n.toNat * 7) 7 = csO (nd t n) c := by
  obtain ⟨hl, hn⟩ := nd_get h
  have h1 := sub_flat (t.map Node.cs) n.toNat (nd t n).cs cs7 (nd_row h)
  apply List.ext_getElem?
  intro j
  rw [sub_get]
  have h2 : (sub ((t.map Node.cs).flatten.map AV.d) (n.toNat * 7) 7)[j]? = ((nd t n).cs.map AV.d)[j]? := by rw [h1]
  rw [sub_get] at h2
  unfold tabO tabT
  by_cases hj : j < 7
  · rw [if_pos hj] at h2 ⊢
    rw [List.getElem?_set, Nat.zero_add]
    by_cases h6 : j = 6
    · subst h6
      rw [if_pos rfl, if_pos (by rw [List.length_map, flatten_len _ cs7, List.length_map]; omega)]
      rfl
    · rw [if_neg (by omega), h2]
      match j, hj, h6 with
      | 0, _, _ => rfl
      | 1, _, _ => rfl
      | 2, _, _ => rfl
      | 3, _, _ => rfl
      | 4, _, _ => rfl
      | 5, _, _ => rfl
      | 6, _, h => exact absurd rfl h
      | j + 7, hj, _ => omega
  · rw [if_neg hj, List.getElem?_eq_none (by show 7 ≤ j; omega)]
theorem FV_csO (x : Node) {c : AV} {H : Heap} {F : List Nat} (hc : FV [] F H c (.d (attrsD x.attrs))) : FV [] F H (.agg (csO x c)) (aggD x.cs) := by
  refine .agg _ _ rfl fun i a b ha hb => ?_
  match i with
  | 0 => simp [csO, Node.cs] at ha hb; subst ha hb; exact .same _ rfl
  | 1 => simp [csO, Node.cs] at ha hb; subst ha hb; exact .same _ rfl
  | 2 => simp [csO, Node.cs] at ha hb; subst ha hb; exact .same _ rfl
  | 3 => simp [csO, Node.cs] at ha hb; subst ha hb; exact .same _ rfl
  | 4 => simp [csO, Node.cs] at ha hb; subst ha hb; exact .same _ rfl
  | 5 => simp [csO, Node.cs] at ha hb; subst ha hb; exact .same _ rfl
  | 6 => simp [csO, Node.cs] at ha hb; subst ha hb; exact hc
  | i + 7 => simp [csO] at ha
abbrev M2 (l : List Attr) : AV := .msl 2 0 l.length l.length 2
def aggL (a : Attr) : List AV := [.i a.name, .i a.value]
set_option maxHeartbeats 4000000 in
theorem attr_Set (t : Tree) (n : Int) (a : Attr) (hs : SmallT t) : Fn Tryd.prog 14 [.d (treeD t), .i n, aggD a.cs] (.tup [.d (treeD (setG t n a).1), .i (setG t n a).2]) := by
  refine Fn_of tt_ok Tryd.func14 rfl (by decide) Tryd.ntmps14 rfl ?_
  repeat' ((conv => whnf); (first
    | (refine Br_true (by assumption) ?_)
    | (refine Br_false (by assumption) ?_)
    | (refine Br_true (beqT (by omega)) ?_)
    | (refine Br_false (beqF (by omega)) ?_)
    | (refine Br_beq (fun h => ?_) (fun h => ?_))
    | (refine Br_true (bneT (by omega)) ?_)
    | (refine Br_false (bneF (by omega)) ?_)
    | (refine Br_bne (fun h => ?_) (fun h => ?_))
    | (refine Br_true (decide_eq_true (by omega)) ?_)
    | (refine Br_false (decide_eq_false (by omega)) ?_)
    | (refine Br_dec (fun h => ?_) (fun h => ?_))
    | (refine Br_not ?_)
    | (refine Len_in (fun hlen => ?_))
    | (refine Br_split (fun h => ?_) (fun h => ?_))
    | (refine fin0 rfl ?_)
    | (refine ArK_in (wrap_i64 (by omega) (by omega)) ?_)
    | (refine force_in ?_)))
  refine Fn.use (attr_wrong t n) rfl rfl ?_
  by_cases h1 : mayB t = false
  · have e : setG t n a = ([], 1) := by unfold setG; rw [if_pos h1]
    have ew : wrongV t n = 1 := by unfold wrongV; rw [h1]; rfl
    rw [e, ew]
    repeat' ((conv => whnf); (first
      | (refine Br_true (by assumption) ?_)
      | (refine Br_false (by assumption) ?_)
      | (refine Br_true (beqT (by omega)) ?_)
      | (refine Br_false (beqF (by omega)) ?_)
      | (refine Br_beq (fun h => ?_) (fun h => ?_))
      | (refine Br_true (bneT (by omega)) ?_)
      | (refine Br_false (bneF (by omega)) ?_)
      | (refine Br_bne (fun h => ?_) (fun h => ?_))
      | (refine Br_true (decide_eq_true (by omega)) ?_)
      | (refine Br_false (decide_eq_false (by omega)) ?_)
      | (refine Br_dec (fun h => ?_) (fun h => ?_))
      | (refine Br_not ?_)
      | (refine Len_in (fun hlen => ?_))
      | (refine Fn.use (attr_kept t 1 [] rfl) rfl rfl ?_)
      | (refine CallF_in (attr_kept t 1 [] rfl) rfl rfl ?_)
      | (refine Br_split (fun h => ?_) (fun h => ?_))
      | (refine fin0 rfl ?_)
      | (refine ArK_in (wrap_i64 (by omega) (by omega)) ?_)
      | (refine force_in ?_)))
    rfl
  by_cases h2 : isN t n = false
  · have e : setG t n a = (t, 2) := by unfold setG; rw [if_neg h1, if_pos h2]
    have ew : wrongV t n = 2 := by unfold wrongV; simp only [Bool.not_eq_false] at h1; rw [h1, h2]; rfl
    rw [e, ew]
    repeat' ((conv => whnf); (first
      | (refine Br_true (by assumption) ?_)
      | (refine Br_false (by assumption) ?_)
      | (refine Br_true (beqT (by omega)) ?_)
      | (refine Br_false (beqF (by omega)) ?_)
      | (refine Br_beq (fun h => ?_) (fun h => ?_))
      | (refine Br_true (bneT (by omega)) ?_)
      | (refine Br_false (bneF (by omega)) ?_)
      | (refine Br_bne (fun h => ?_) (fun h => ?_))
      | (refine Br_true (decide_eq_true (by omega)) ?_)
      | (refine Br_false (decide_eq_false (by omega)) ?_)
      | (refine Br_dec (fun h => ?_) (fun h => ?_))
      | (refine Br_not ?_)
      | (refine Len_in (fun hlen => ?_))
      | (refine Fn.use (attr_kept t 2 t rfl) rfl rfl ?_)
      | (refine CallF_in (attr_kept t 2 t rfl) rfl rfl ?_)
      | (refine Br_split (fun h => ?_) (fun h => ?_))
      | (refine fin0 rfl ?_)
      | (refine ArK_in (wrap_i64 (by omega) (by omega)) ?_)
      | (refine force_in ?_)))
    rfl
  have eS : setG t n a = if (nd t n).kind ≠ 1 ∧ (nd t n).kind ≠ 3 then (t, 3) else if mayB (putAttrs t n (lay (nd t n).attrs a)) = false then (t, 7) else (putAttrs t n (lay (nd t n).attrs a), 0) := by
    unfold setG; rw [if_neg h1, if_neg h2]
  simp only [Bool.not_eq_false] at h1 h2
  have ew : wrongV t n = 0 := by unfold wrongV; rw [h1, h2]; rfl
  rw [ew]
  by_cases h3 : (nd t n).kind ≠ 1 ∧ (nd t n).kind ≠ 3
  · rw [if_pos h3] at eS
    rw [eS]
    obtain ⟨k1, k2⟩ := h3
    repeat' ((conv => whnf); (first
      | (refine Br_true (by assumption) ?_)
      | (refine Br_false (by assumption) ?_)
      | (refine Br_true (beqT (by omega)) ?_)
      | (refine Br_false (beqF (by omega)) ?_)
      | (refine Br_beq (fun h => ?_) (fun h => ?_))
      | (refine Br_true (bneT (by omega)) ?_)
      | (refine Br_false (bneF (by omega)) ?_)
      | (refine Br_bne (fun h => ?_) (fun h => ?_))
      | (refine Br_true (decide_eq_true (by omega)) ?_)
      | (refine Br_false (decide_eq_false (by omega)) ?_)
      | (refine Br_dec (fun h => ?_) (fun h => ?_))
      | (refine Br_not ?_)
      | (refine Len_in (fun hlen => ?_))
      | (refine Idx_nd h2 rfl ?_)
      | (refine Br_split (fun h => ?_) (fun h => ?_))
      | (refine fin0 rfl ?_)
      | (refine ArK_in (wrap_i64 (by omega) (by omega)) ?_)
      | (refine force_in ?_)))
    rfl
  rw [if_neg h3] at eS
  obtain ⟨hl, hn⟩ := nd_get h2
  have hm := nd_mem h2
  have hne : t ≠ [] := may_ne h1
  have h0 := nd_pos h2
  have hlt : n < (t.length : Int) := by omega
  have hnl : (0 ≤ n ∧ n < (t.length : Int)) := ⟨h0, hlt⟩
  have hat := attr_at (nd t n) a.name
  have ha10 := may_len h1 h2
  have hkk : (nd t n).kind = 1 ∨ (nd t n).kind = 3 := by omega
  have hcp := fun {H : Heap} {K : AV → Heap → Prop} hK => copy_call t n h2 hs (H := H) (K := K) hK
  by_cases hnil : (nd t n).attrs = []
  · have ec : ∀ b, atC (nd t n).attrs b = .esl := fun b => by unfold atC; rw [if_pos hnil]
    have eh : atH (nd t n).attrs = [] := by unfold atH; rw [if_pos hnil]
    rw [eh] at hcp
    simp only [ec] at hcp
    have hsub := sub_tabO t n h2 .esl
    have htl := tabO_len t n.toNat .esl
    have hpeek : ∀ K : AV → Heap → Prop, K (.i (atV (nd t n).attrs a.name)) [some (.row (aggL a)), some (.row (tabO t n.toNat .esl))] → Tri Tryd.prog 24 [.agg (csO (nd t n) .esl), .i a.name] [some (.row (aggL a)), some (.row (tabO t n.toNat .esl))] K := fun K hK =>
      Tri.peek hat rfl [] rfl (fun i x y hx hy => by
        match i with
        | 0 => simp at hx hy; subst hx hy; exact FV_csO _ (by rw [hnil]; exact .esl)
        | 1 => simp at hx hy; subst hx hy; exact .same _ rfl
        | i + 2 => simp at hx) hK
    have hv : atV (nd t n).attrs a.name = -1 := by rw [hnil]; rfl
    rw [hv] at hpeek
    have elay : lay (nd t n).attrs a = [a] := by rw [hnil]; rfl
    rw [elay] at eS
    have g6 := tabO_get t n.toNat .esl hl
    have hsp := fun d => tabO_set t n.toNat .esl d
    have hbl : Nat.ble (0 + n.toNat * 7 + 6 + 1) (tabO t n.toNat .esl).length = true := Nat.ble_eq_true_of_le (by rw [tabO_len]; simp; omega)
    have hb1 := (congrArg (fun x => some (some (Blk.row x))) (hsp (.msl 2 0 [a].length [a].length 2)))
    cases hb : mayB (putAttrs t n [a])
    all_goals
      rw [hb] at eS
      simp only [if_true, Bool.true_eq_false, if_false] at eS
      rw [eS]
      repeat' ((conv => whnf); (first
        | (refine Br_true (Nat.ble_eq_true_of_le (by rw [tabO_len]; simp; omega)) ?_)
        | (refine Br_true (by assumption) ?_)
        | (refine Br_false (by assumption) ?_)
        | (refine Br_true (beqT (by omega)) ?_)
        | (refine Br_false (beqF (by omega)) ?_)
        | (refine Br_beq (fun h => ?_) (fun h => ?_))
        | (refine Br_true (bneT (by omega)) ?_)
        | (refine Br_false (bneF (by omega)) ?_)
        | (refine Br_bne (fun h => ?_) (fun h => ?_))
        | (refine Br_true (decide_eq_true (by omega)) ?_)
        | (refine Br_false (decide_eq_false (by omega)) ?_)
        | (refine Br_dec (fun h => ?_) (fun h => ?_))
        | (refine Br_not ?_)
        | (refine Len_in (fun hlen => ?_))
        | (refine Idx_nd h2 rfl ?_)
        | (refine hcp ?_)
        | (refine Br_true (decide_eq_true hnl) ?_)
        | (refine W_draw 2 tt_ok mixed (by kernel_rfl) ?_)
        | (refine forceL_to hsub ?_)
        | (refine CallH_in _ (Nat.le_refl _) hpeek ?_)
        | (refine Cell_in _ g6 ?_)
        | (refine App_esl [a.cs] rfl rfl (by simp) (by simp [Attr.cs]) (by simp) (Nat.le_of_ble_eq_true rfl) ?_)
        | (refine Cell_in _ (List.getElem?_set_self (by rw [htl]; omega)) ?_)
        | (refine sort_call [a] (by simp) (by simp) rfl rfl ?_)
        | (refine check_call t n h2 [a] (p := 1) (q := 2) hb1 rfl hb ?_)
        | (refine set_fin t n h2 [a] (p := 1) (q := 2) hb1 rfl)
        | (refine Br_split (fun h => ?_) (fun h => ?_))
        | (refine fin0 rfl ?_)
        | (refine ArK_in (wrap_i64 (by omega) (by omega)) ?_)
        | (refine force_in ?_)))
      all_goals rfl
  · have ec : ∀ b, atC (nd t n).attrs b = .msl b 0 (nd t n).attrs.length (nd t n).attrs.length 2 := fun b => by unfold atC; rw [if_neg hnil]
    have eh : atH (nd t n).attrs = [some (.row (tabA (nd t n).attrs))] := by unfold atH; rw [if_neg hnil]; rfl
    rw [eh] at hcp
    simp only [ec] at hcp
    have hsub := sub_tabO t n h2 (M2 (nd t n).attrs)
    have htl := tabO_len t n.toNat (M2 (nd t n).attrs)
    have hal := tabA_len (nd t n).attrs
    have hpeek : ∀ K : AV → Heap → Prop, K (.i (atV (nd t n).attrs a.name)) [some (.row (aggL a)), some (.row (tabO t n.toNat (M2 (nd t n).attrs))), some (.row (tabA (nd t n).attrs))] → Tri Tryd.prog 24 [.agg (csO (nd t n) (M2 (nd t n).attrs)), .i a.name] [some (.row (aggL a)), some (.row (tabO t n.toNat (M2 (nd t n).attrs))), some (.row (tabA (nd t n).attrs))] K := fun K hK =>
      Tri.peek hat rfl [2] rfl (fun i x y hx hy => by
        match i with
        | 0 => simp at hx hy; subst hx hy; exact FV_csO _ (FV_tabA _ rfl)
        | 1 => simp at hx hy; subst hx hy; exact .same _ rfl
        | i + 2 => simp at hx) hK
    have g6 := tabO_get t n.toNat (M2 (nd t n).attrs) hl
    by_cases hi : 0 ≤ atV (nd t n).attrs a.name
    · have elay : lay (nd t n).attrs a = (nd t n).attrs.set (atV (nd t n).attrs a.name).toNat a := by unfold lay; exact if_pos hi
      rw [elay] at eS
      have hib : 0 ≤ atV (nd t n).attrs a.name ∧ atV (nd t n).attrs a.name < ((nd t n).attrs.length : Int) := ⟨hi, (ix_lo _ _).2⟩
      generalize atV (nd t n).attrs a.name = i at *
      have hiN : i.toNat < (nd t n).attrs.length := by omega
      have hb1 : some (some (Blk.row (tabO t n.toNat (M2 (nd t n).attrs)))) = some (some (.row (tabO t n.toNat (.msl 2 0 ((nd t n).attrs.set i.toNat a).length ((nd t n).attrs.set i.toNat a).length 2)))) := by rw [List.length_set]
      have hb2 : some (some (Blk.row (splice (tabA (nd t n).attrs) (0 + i.toNat * 2) (a.cs.map .d)))) = some (some (.row (tabA ((nd t n).attrs.set i.toNat a)))) := by
        rw [Nat.zero_add, tabA_put _ _ hiN]
      cases hb : mayB (putAttrs t n ((nd t n).attrs.set i.toNat a))
      all_goals
        rw [hb] at eS
        simp only [if_true, Bool.true_eq_false, if_false] at eS
        rw [eS]
        repeat' ((conv => whnf); (first
          | (refine Br_true (Nat.ble_eq_true_of_le (by rw [tabO_len]; simp; omega)) ?_)
          | (refine Br_true (Nat.ble_eq_true_of_le (by rw [hal]; simp [Attr.cs]; omega)) ?_)
          | (refine Br_true (by assumption) ?_)
          | (refine Br_false (by assumption) ?_)
          | (refine Br_true (beqT (by omega)) ?_)
          | (refine Br_false (beqF (by omega)) ?_)
          | (refine Br_beq (fun h => ?_) (fun h => ?_))
          | (refine Br_true (bneT (by omega)) ?_)
          | (refine Br_false (bneF (by omega)) ?_)
          | (refine Br_bne (fun h => ?_) (fun h => ?_))
          | (refine Br_true (decide_eq_true (by omega)) ?_)
          | (refine Br_false (decide_eq_false (by omega)) ?_)
          | (refine Br_dec (fun h => ?_) (fun h => ?_))
          | (refine Br_not ?_)
          | (refine Len_in (fun hlen => ?_))
          | (refine Idx_nd h2 rfl ?_)
          | (refine hcp ?_)
          | (refine Br_true (decide_eq_true hnl) ?_)
          | (refine Br_true (decide_eq_true hib) ?_)
          | (refine W_draw 2 tt_ok mixed (by kernel_rfl) ?_)
          | (refine forceL_to hsub ?_)
          | (refine CallH_in _ (Nat.le_refl _) hpeek ?_)
          | (refine Cell_in _ g6 ?_)
          | (refine check_call t n h2 ((nd t n).attrs.set i.toNat a) (p := 1) (q := 2) hb1 hb2 hb ?_)
          | (refine set_fin t n h2 ((nd t n).attrs.set i.toNat a) (p := 1) (q := 2) hb1 hb2)
          | (refine Br_split (fun h => ?_) (fun h => ?_))
          | (refine fin0 rfl ?_)
          | (refine ArK_in (wrap_i64 (by omega) (by omega)) ?_)
          | (refine force_in ?_)))
        all_goals rfl
    · have elay : lay (nd t n).attrs a = insA ((nd t n).attrs ++ [a]) := by unfold lay; exact if_neg hi
      rw [elay] at eS
      have hne1 : (nd t n).attrs.map Attr.cs ≠ [] := by simpa using hnil
      generalize hl1 : insA ((nd t n).attrs ++ [a]) = l1 at *
      have hl1l : l1.length = (nd t n).attrs.length + 1 := by rw [← hl1]; unfold insA; rw [insTo_len]; simp
      have hsp := fun d => tabO_set t n.toNat (M2 (nd t n).attrs) d
      have hq4 : some (some (Blk.row (((nd t n).attrs.map Attr.cs ++ [a.cs]).flatten.map .d))) = some (some (.row (tabA ((nd t n).attrs ++ [a])))) := by unfold tabA; rw [List.map_append]; rfl
      have hb1 : some (some (Blk.row (splice (tabO t n.toNat (M2 (nd t n).attrs)) (0 + n.toNat * 7 + 6) [.msl 3 0 (((nd t n).attrs.map Attr.cs).length + [a.cs].length) (((nd t n).attrs.map Attr.cs).length + [a.cs].length) 2]))) = some (some (.row (tabO t n.toNat (.msl 3 0 l1.length l1.length 2)))) := by
        rw [hsp, hl1l, List.length_map]; rfl
      have hb2 : some (some (Blk.row (tabA (insA ((nd t n).attrs ++ [a]))))) = some (some (.row (tabA l1))) := by rw [hl1]
      have hln : ((nd t n).attrs.map Attr.cs).length + [a.cs].length = ((nd t n).attrs ++ [a]).length := by simp
      have hl12 : ((nd t n).attrs ++ [a]).length ≤ 12 := by simp; omega
      cases hb : mayB (putAttrs t n l1)
      all_goals
        rw [hb] at eS
        simp only [if_true, Bool.true_eq_false, if_false] at eS
        rw [eS]
        repeat' ((conv => whnf); (first
          | (refine Br_true (Nat.ble_eq_true_of_le (by rw [tabO_len]; simp; omega)) ?_)
          | (refine Br_true (by assumption) ?_)
          | (refine Br_false (by assumption) ?_)
          | (refine Br_true (beqT (by omega)) ?_)
          | (refine Br_false (beqF (by omega)) ?_)
          | (refine Br_beq (fun h => ?_) (fun h => ?_))
          | (refine Br_true (bneT (by omega)) ?_)
          | (refine Br_false (bneF (by omega)) ?_)
          | (refine Br_bne (fun h => ?_) (fun h => ?_))
          | (refine Br_true (decide_eq_true (by omega)) ?_)
          | (refine Br_false (decide_eq_false (by omega)) ?_)
          | (refine Br_dec (fun h => ?_) (fun h => ?_))
          | (refine Br_not ?_)
          | (refine Len_in (fun hlen => ?_))
          | (refine Idx_nd h2 rfl ?_)
          | (refine hcp ?_)
          | (refine Br_true (decide_eq_true hnl) ?_)
          | (refine W_draw 2 tt_ok mixed (by kernel_rfl) ?_)
          | (refine forceL_to hsub ?_)
          | (refine CallH_in _ (Nat.le_refl _) hpeek ?_)
          | (refine Cell_in _ g6 ?_)
          | (refine App_msl ((nd t n).attrs.map Attr.cs) [a.cs] hne1 (by simp) rfl rfl rfl rfl (by simp) csl (by simp [Attr.cs]) (by simp; omega) (Nat.le_of_ble_eq_true rfl) ?_)
          | (refine Cell_in _ (List.getElem?_set_self (by rw [tabO_len]; omega)) ?_)
          | (refine sort_call ((nd t n).attrs ++ [a]) hl12 (by simp) hln hq4 ?_)
          | (refine check_call t n h2 l1 (p := 1) (q := 3) hb1 hb2 hb ?_)
          | (refine set_fin t n h2 l1 (p := 1) (q := 3) hb1 hb2)
          | (refine Br_split (fun h => ?_) (fun h => ?_))
          | (refine fin0 rfl ?_)
          | (refine ArK_in (wrap_i64 (by omega) (by omega)) ?_)
          | (refine force_in ?_)))
        all_goals rfl
end Go.Eng
set_option maxRecDepth 100000
set_option linter.unusedVariables false
set_option linter.unusedSimpArgs false
namespace Go.Eng
open Go Go.Proofs
theorem tabA_get (l : List Attr) (q j : Nat) (hj : j < 2) : (tabA l)[q * 2 + j]? = ((l[q]?).bind fun a => a.cs[j]?).map .d := by
  unfold tabA
  rw [List.getElem?_map, flatten_at (l.map Attr.cs) csl q j hj, List.getElem?_map]
  cases l[q]? <;> rfl
def z2 : List AV := [.i 0, .i 0]
theorem erase_tab (l : List Attr) (i : Nat) (hi : i < l.length) :
    splice (splice (tabA l) (0 + i * 2) (sub (tabA l) (0 + (i + 1) * 2) ((l.length - (i + 1)) * 2))) (0 + (l.length - 1) * 2) z2 = tabA (l.eraseIdx i ++ [⟨0, 0⟩]) := by
  have hl := tabA_len l
  have hsl : (sub (tabA l) (0 + (i + 1) * 2) ((l.length - (i + 1)) * 2)).length = (l.length - (i + 1)) * 2 := by unfold sub; simp [hl]; omega
  apply List.ext_getElem?
  intro k
  obtain ⟨q, j, hj, rfl⟩ : ∃ q j, j < 2 ∧ k = q * 2 + j := ⟨k / 2, k % 2, Nat.mod_lt _ (by omega), by omega⟩
  rw [tabA_get _ _ _ hj]
  by_cases hq : q < l.length
  · rw [splice_get _ _ _ _ (by rw [splice_length]; show 0 + _ * 2 + 2 ≤ _; omega)]
    by_cases h1 : q = l.length - 1
    · rw [if_pos (by simp [z2]; omega)]
      have e : (l.eraseIdx i ++ [⟨0, 0⟩])[q]? = some ⟨0, 0⟩ := by
        rw [List.getElem?_append_right (by rw [List.length_eraseIdx, if_pos hi]; omega), List.length_eraseIdx, if_pos hi, h1, Nat.sub_self]; rfl
      rw [e, show q * 2 + j - (0 + (l.length - 1) * 2) = j by omega]
      match j, hj with
      | 0, _ => rfl
      | 1, _ => rfl
    · rw [if_neg (by simp [z2]; omega), splice_get _ _ _ _ (by omega), hsl]
      have e : (l.eraseIdx i ++ [⟨0, 0⟩])[q]? = (l.eraseIdx i)[q]? := List.getElem?_append_left (by rw [List.length_eraseIdx, if_pos hi]; omega)
      rw [e, List.getElem?_eraseIdx]
      by_cases h2 : q < i
      · rw [if_neg (by omega), if_pos h2, tabA_get _ _ _ hj]
      · rw [if_pos (by omega), if_neg h2, sub_get, if_pos (by omega), show 0 + (i + 1) * 2 + (q * 2 + j - (0 + i * 2)) = (q + 1) * 2 + j by omega, tabA_get _ _ _ hj]
  · have e : (l.eraseIdx i ++ [⟨0, 0⟩])[q]? = none := List.getElem?_eq_none (by simp [List.length_eraseIdx, hi]; omega)
    rw [e, List.getElem?_eq_none (by simp only [splice_length]; omega)]
    rfl
theorem delete_attr (l : List Attr) (i : Nat) (hi : i < l.length) (hl : l.length ≤ 1000) :
    Tri Tryd.prog 40 [.msl 0 0 l.length l.length 2, .i i, .i ((i : Int) + 1)] [some (.row (tabA l))]
      fun v H => v = .msl 0 0 (l.length - 1) l.length 2 ∧ H = [some (.row (tabA (l.eraseIdx i ++ [⟨0, 0⟩])))] := by
  refine Tri_of (m := 1) tt_ok Tryd.func40 rfl (by decide) Tryd.ntmps40 (by rfl) rfl ?_
  have htl := tabA_len l
  rw [← erase_tab l i hi]
  have hs1 : ∀ o m, o + m ≤ l.length * 2 → (sub (tabA l) o m).length = m := fun o m h => by unfold sub; simp only [List.length_take, List.length_drop, htl]; omega
  have key : ∀ o1 o2 m2 o3 n3 : Nat, o1 = 0 + i * 2 → o2 = 0 + (i + 1) * 2 → m2 = (l.length - (i + 1)) * 2 → o3 = 0 + (l.length - 1) * 2 → n3 = 1 →
      [some (Blk.row (splice (splice (tabA l) o1 (sub (tabA l) o2 m2)) o3 (repRow z2 n3)))] = [some (.row (splice (splice (tabA l) (0 + i * 2) (sub (tabA l) (0 + (i + 1) * 2) ((l.length - (i + 1)) * 2))) (0 + (l.length - 1) * 2) z2))] := by
    rintro _ _ _ _ _ rfl rfl rfl rfl rfl; rfl
  have key0 : ∀ o1 o3 n3 : Nat, o3 = 0 + (l.length - 1) * 2 → n3 = 1 →
      [some (Blk.row (splice (splice (tabA l) o1 []) o3 (repRow z2 n3)))] = [some (.row (splice (splice (tabA l) (0 + i * 2) []) (0 + (l.length - 1) * 2) z2))] := by
    rintro _ _ _ rfl rfl; rfl
  by_cases hlast : i + 1 < l.length
  · repeat' ((conv => whnf); (first
    | (refine Br_true (by assumption) ?_)
    | (refine Br_false (by assumption) ?_)
    | (refine Br_true (beqT (by omega)) ?_)
    | (refine Br_false (beqF (by omega)) ?_)
    | (refine Br_beq (fun h => ?_) (fun h => ?_))
    | (refine Br_true (bneT (by omega)) ?_)
    | (refine Br_false (bneF (by omega)) ?_)
    | (refine Br_bne (fun h => ?_) (fun h => ?_))
    | (refine Br_true (decide_eq_true (by omega)) ?_)
    | (refine Br_false (decide_eq_false (by omega)) ?_)
    | (refine Br_dec (fun h => ?_) (fun h => ?_))
    | (refine Br_not ?_)
    | (refine Len_in (fun hlen => ?_))
    | (refine Need_in ⟨by omega, by omega, by omega, by omega, rfl, by omega⟩ ?_)
    | (refine W_draw 0 tt_ok mixed (by kernel_rfl) ?_)
    | (refine Ch_l (Need_in ⟨by omega, by omega, by omega, rfl, by omega⟩ ?_))
    | (refine App_fit (tabA l) _ _ rfl rfl (newCells_msl rfl (by rw [htl]; show _ + _ * 2 ≤ _; omega)) rfl (by omega) (by rw [htl]; omega) (hs1 _ _ (by show _ + _ * 2 ≤ _; omega)) (by omega) ?_)
    | (refine Need_in (by rw [splice_length, htl]; omega) ?_)
    | (refine finQ ⟨?_, ?_⟩)
    | (refine Br_split (fun h => ?_) (fun h => ?_))
    | (refine fin0 rfl ?_)
    | (refine ArK_in (wrap_i64 (by omega) (by omega)) ?_)
    | (refine force_in ?_)))
    · show AV.msl 0 (0 + Int.toNat 0 * 2) ((i : Int).toNat - Int.toNat 0 + ((l.length : Int).toNat - ((i : Int) + 1).toNat)) (l.length - Int.toNat 0) 2 = _
      congr 1 <;> omega
    · exact key _ _ _ _ _ (by omega) (by omega) (by show _ * 2 = _; omega) (by omega) (by omega)
  · repeat' ((conv => whnf); (first
    | (refine Br_true (by assumption) ?_)
    | (refine Br_false (by assumption) ?_)
    | (refine Br_true (beqT (by omega)) ?_)
    | (refine Br_false (beqF (by omega)) ?_)
    | (refine Br_beq (fun h => ?_) (fun h => ?_))
    | (refine Br_true (bneT (by omega)) ?_)
    | (refine Br_false (bneF (by omega)) ?_)
    | (refine Br_bne (fun h => ?_) (fun h => ?_))
    | (refine Br_true (decide_eq_true (by omega)) ?_)
    | (refine Br_false (decide_eq_false (by omega)) ?_)
    | (refine Br_dec (fun h => ?_) (fun h => ?_))
    | (refine Br_not ?_)
    | (refine Len_in (fun hlen => ?_))
    | (refine Need_in ⟨by omega, by omega, by omega, by omega, rfl, by omega⟩ ?_)
    | (refine W_draw 0 tt_ok mixed (by kernel_rfl) ?_)
    | (refine Ch_l (Need_in ⟨by omega, by omega, by omega, rfl, by omega⟩ ?_))
    | (refine Ch_r (Need_in ⟨by omega, by omega, by omega⟩ ?_))
    | (refine App_fit (tabA l) [] 0 rfl rfl rfl rfl (by omega) (by rw [htl]; omega) rfl (by omega) ?_)
    | (refine Need_in (by rw [splice_length, htl]; omega) ?_)
    | (refine finQ ⟨?_, ?_⟩)
    | (refine Br_split (fun h => ?_) (fun h => ?_))
    | (refine fin0 rfl ?_)
    | (refine ArK_in (wrap_i64 (by omega) (by omega)) ?_)
    | (refine force_in ?_)))
    · show AV.msl 0 (0 + Int.toNat 0 * 2) ((i : Int).toNat - Int.toNat 0 + 0) (l.length - Int.toNat 0) 2 = _
      congr 1 <;> omega
    · have e0 : (l.length - (i + 1)) * 2 = 0 := by omega
      have es : sub (tabA l) (0 + (i + 1) * 2) 0 = [] := rfl
      rw [e0, es]
      exact key0 _ _ _ (by omega) (by omega)
end Go.Eng
set_option maxRecDepth 100000
set_option linter.unusedVariables false
set_option linter.unusedSimpArgs false
namespace Go.Eng
open Go Go.Proofs
theorem FV_tabX (t : Tree) (n : Int) (h : isN t n = true) (l ex : List Attr) {H : Heap} {p q cl : Nat} (h0 : H[p]? = some (some (.row (tabO t n.toNat (.msl q 0 l.length cl 2))))) (hq : H[q]? = some (some (.row (tabA (l ++ ex))))) :
    FV [] [p, q] H (.msl p 0 t.length t.length 7) (.d (treeD (putAttrs t n l))) := by
  obtain ⟨hl, hn⟩ := nd_get h
  refine .frz p 0 _ _ 7 (tabO t n.toNat (.msl q 0 l.length cl 2)) ((putAttrs t n l).map Node.cs) (by simp) (by unfold rowOf; rw [h0]) (by rw [List.length_map, put_len]) cs7 (by rw [tabO_len]; omega) fun i x y hi hx hy => ?_
  rw [← put_cells h] at hy
  have hflat : ((t.map Node.cs).set n.toNat ((nd t n).cs.set 6 (attrsD l))).flatten = ((t.map Node.cs).flatten).set (n.toNat * 7 + 6) (attrsD l) := by
    have := splice_flat (t.map Node.cs) n.toNat 6 (nd t n).cs (attrsD l) cs7 (nd_row h) (by omega)
    simp only [splice] at this
    rw [← List.map_set] at this
    exact (map_d_inj this).symm
  rw [hflat] at hy
  unfold tabO tabT at hx
  rw [Nat.zero_add, List.getElem?_set] at hx
  rw [List.getElem?_set] at hy
  by_cases e : n.toNat * 7 + 6 = i
  · have hlen : i < ((t.map Node.cs).flatten).length := by rw [flatten_len _ cs7, List.length_map]; omega
    subst e
    rw [if_pos rfl, if_pos (by rw [List.length_map]; exact hlen)] at hx
    rw [if_pos rfl, if_pos hlen] at hy
    injection hx with hx
    injection hy with hy
    subst hx hy
    refine .frz q 0 _ _ 2 (tabA (l ++ ex)) (l.map Attr.cs) (by simp) (by unfold rowOf; rw [hq]) (by simp) csl (by rw [tabA_len]; simp; omega) fun i x y hi hx hy => ?_
    have hx2 : (tabA (l ++ ex))[i]? = ((l.map Attr.cs).flatten[i]?).map .d := by
      unfold tabA
      rw [List.map_append, List.flatten_append, List.map_append, List.getElem?_append_left (by rw [List.length_map, flatten_len _ csl, List.length_map]; omega), List.getElem?_map]
    rw [Nat.zero_add, hx2, hy] at hx
    simp at hx
    subst hx
    exact .same _ rfl
  · rw [if_neg e] at hx hy
    rw [List.getElem?_map, hy] at hx
    simp at hx
    subst hx
    exact .same _ rfl
def dropG (t : Tree) (n : Int) (name : Int) : Tree × Int :=
  if mayB t = false then ([], 1)
  else if isN t n = false then (t, 2)
  else if ix (fun a : Attr => a.name == name) (nd t n).attrs < 0 then (t, 7)
  else (putAttrs t n ((nd t n).attrs.eraseIdx (ix (fun a : Attr => a.name == name) (nd t n).attrs).toNat), 0)
theorem eraseL (l : List Attr) (name : Int) (hr : Rise l) (hn : ∀ y ∈ l, 0 ≤ y.name ∧ y.name ≤ 9) (hi : 0 ≤ ix (fun a : Attr => a.name == name) l) :
    l.eraseIdx (ix (fun a : Attr => a.name == name) l).toNat = withL l ⟨name, 0⟩ false := by
  obtain ⟨b, hb, hbn⟩ := ix_ge hi
  generalize (ix (fun a : Attr => a.name == name) l).toNat = i at *
  obtain ⟨hil, hb'⟩ := List.getElem?_eq_some_iff.1 hb
  refine Rise_ext (hr.sublist (List.eraseIdx_sublist l i)) (withL_rise _ _ _ hn hr) fun y => ?_
  rw [withL_mem _ _ _ hn, List.mem_eraseIdx_iff_getElem?]
  constructor
  · rintro ⟨j, hji, hj⟩
    refine .inl ⟨List.mem_of_getElem? hj, fun e => hji ?_⟩
    obtain ⟨hjl, hj'⟩ := List.getElem?_eq_some_iff.1 hj
    simp only at e
    rcases Nat.lt_trichotomy i j with g | g | g
    · have := List.pairwise_iff_getElem.1 hr i j hil hjl g; rw [hj', hb'] at this; omega
    · exact g.symm
    · have := List.pairwise_iff_getElem.1 hr j i hjl hil g; rw [hj', hb'] at this; omega
  · rintro (⟨hy, hne⟩ | ⟨h, _⟩)
    · obtain ⟨j, hj⟩ := List.mem_iff_getElem?.1 hy
      refine ⟨j, ?_, hj⟩
      rintro rfl
      rw [hb] at hj; injection hj with hj; subst hj; exact hne hbn
    · simp at h
theorem dropG_R (t : Tree) (n name : Int) : dropG t n name = dropR t n name := by
  unfold dropG dropR
  by_cases h1 : mayB t = false
  · rw [if_pos h1, if_pos h1]
  · by_cases h2 : isN t n = false
    · rw [if_neg h1, if_neg h1, if_pos h2, if_pos h2]
    · rw [if_neg h1, if_neg h1, if_neg h2, if_neg h2]
      simp only [Bool.not_eq_false] at h1 h2
      obtain ⟨f1, f2⟩ := ix_find (nd t n).attrs name
      by_cases h3 : ix (fun a : Attr => a.name == name) (nd t n).attrs < 0
      · rw [if_pos h3, f1 h3]; rfl
      · obtain ⟨a, ha, e⟩ := f2 (by omega)
        rw [if_neg h3, e, if_neg (by simp)]
        have hk : (nd t n).kind = 1 ∨ (nd t n).kind = 3 := by
          have hB := may_attrs h1 h2
          unfold attrsB at hB
          simp at hB
          rcases hB.2 with (g | g) | g
          · rw [g] at ha; simp at ha
          · exact .inl g
          · exact .inr g
        obtain ⟨g1, g2⟩ := (attrsB_iff _ hk).1 (may_attrs h1 h2)
        rw [eraseL _ _ g2 (fun y hy => attrB_name (g1 y hy)) (by omega)]
theorem attr_Drop (t : Tree) (n name : Int) (hs : SmallT t) : Fn Tryd.prog 16 [.d (treeD t), .i n, .i name] (.tup [.d (treeD (dropG t n name).1), .i (dropG t n name).2]) := by
  refine Fn_of tt_ok Tryd.func16 rfl (by decide) Tryd.ntmps16 rfl ?_
  repeat' ((conv => whnf); (first
    | (refine Br_true (by assumption) ?_)
    | (refine Br_false (by assumption) ?_)
    | (refine Br_true (beqT (by omega)) ?_)
    | (refine Br_false (beqF (by omega)) ?_)
    | (refine Br_beq (fun h => ?_) (fun h => ?_))
    | (refine Br_true (bneT (by omega)) ?_)
    | (refine Br_false (bneF (by omega)) ?_)
    | (refine Br_bne (fun h => ?_) (fun h => ?_))
    | (refine Br_true (decide_eq_true (by omega)) ?_)
    | (refine Br_false (decide_eq_false (by omega)) ?_)
    | (refine Br_dec (fun h => ?_) (fun h => ?_))
    | (refine Br_not ?_)
    | (refine Len_in (fun hlen => ?_))
    | (refine Br_split (fun h => ?_) (fun h => ?_))
    | (refine fin0 rfl ?_)
    | (refine ArK_in (wrap_i64 (by omega) (by omega)) ?_)
    | (refine force_in ?_)))
  refine Fn.use (attr_wrong t n) rfl rfl ?_
  by_cases h1 : mayB t = false
  · have e : dropG t n name = ([], 1) := by unfold dropG; rw [if_pos h1]
    have ew : wrongV t n = 1 := by unfold wrongV; rw [h1]; rfl
    rw [e, ew]
    repeat' ((conv => whnf); (first
      | (refine Br_true (by assumption) ?_)
      | (refine Br_false (by assumption) ?_)
      | (refine Br_true (beqT (by omega)) ?_)
      | (refine Br_false (beqF (by omega)) ?_)
      | (refine Br_beq (fun h => ?_) (fun h => ?_))
      | (refine Br_true (bneT (by omega)) ?_)
      | (refine Br_false (bneF (by omega)) ?_)
      | (refine Br_bne (fun h => ?_) (fun h => ?_))
      | (refine Br_true (decide_eq_true (by omega)) ?_)
      | (refine Br_false (decide_eq_false (by omega)) ?_)
      | (refine Br_dec (fun h => ?_) (fun h => ?_))
      | (refine Br_not ?_)
      | (refine Len_in (fun hlen => ?_))
      | (refine Fn.use (attr_kept t 1 [] rfl) rfl rfl ?_)
      | (refine CallF_in (attr_kept t 1 [] rfl) rfl rfl ?_)
      | (refine Br_split (fun h => ?_) (fun h => ?_))
      | (refine fin0 rfl ?_)
      | (refine ArK_in (wrap_i64 (by omega) (by omega)) ?_)
      | (refine force_in ?_)))
    rfl
  by_cases h2 : isN t n = false
  · have e : dropG t n name = (t, 2) := by unfold dropG; rw [if_neg h1, if_pos h2]
    have ew : wrongV t n = 2 := by unfold wrongV; simp only [Bool.not_eq_false] at h1; rw [h1, h2]; rfl
    rw [e, ew]
    repeat' ((conv => whnf); (first
      | (refine Br_true (by assumption) ?_)
      | (refine Br_false (by assumption) ?_)
      | (refine Br_true (beqT (by omega)) ?_)
      | (refine Br_false (beqF (by omega)) ?_)
      | (refine Br_beq (fun h => ?_) (fun h => ?_))
      | (refine Br_true (bneT (by omega)) ?_)
      | (refine Br_false (bneF (by omega)) ?_)
      | (refine Br_bne (fun h => ?_) (fun h => ?_))
      | (refine Br_true (decide_eq_true (by omega)) ?_)
      | (refine Br_false (decide_eq_false (by omega)) ?_)
      | (refine Br_dec (fun h => ?_) (fun h => ?_))
      | (refine Br_not ?_)
      | (refine Len_in (fun hlen => ?_))
      | (refine Fn.use (attr_kept t 2 t rfl) rfl rfl ?_)
      | (refine CallF_in (attr_kept t 2 t rfl) rfl rfl ?_)
      | (refine Br_split (fun h => ?_) (fun h => ?_))
      | (refine fin0 rfl ?_)
      | (refine ArK_in (wrap_i64 (by omega) (by omega)) ?_)
      | (refine force_in ?_)))
    rfl
  have eS : dropG t n name = if atV (nd t n).attrs name < 0 then (t, 7) else (putAttrs t n ((nd t n).attrs.eraseIdx (atV (nd t n).attrs name).toNat), 0) := by
    unfold dropG; rw [if_neg h1, if_neg h2]; rfl
  simp only [Bool.not_eq_false] at h1 h2
  have ew : wrongV t n = 0 := by unfold wrongV; rw [h1, h2]; rfl
  rw [ew]
  have hat := attr_at (nd t n) name
  have hlo := ix_lo (fun a : Attr => a.name == name) (nd t n).attrs
  have hv : atV (nd t n).attrs name = ix (fun a : Attr => a.name == name) (nd t n).attrs := rfl
  rw [← hv] at hlo
  clear hv
  by_cases h3 : atV (nd t n).attrs name < 0
  · rw [if_pos h3] at eS
    rw [eS]
    repeat' ((conv => whnf); (first
      | (refine Br_true (by assumption) ?_)
      | (refine Br_false (by assumption) ?_)
      | (refine Br_true (beqT (by omega)) ?_)
      | (refine Br_false (beqF (by omega)) ?_)
      | (refine Br_beq (fun h => ?_) (fun h => ?_))
      | (refine Br_true (bneT (by omega)) ?_)
      | (refine Br_false (bneF (by omega)) ?_)
      | (refine Br_bne (fun h => ?_) (fun h => ?_))
      | (refine Br_true (decide_eq_true (by omega)) ?_)
      | (refine Br_false (decide_eq_false (by omega)) ?_)
      | (refine Br_dec (fun h => ?_) (fun h => ?_))
      | (refine Br_not ?_)
      | (refine Len_in (fun hlen => ?_))
      | (refine Idx_nd h2 rfl ?_)
      | (refine Fn.use (hat) rfl rfl ?_)
      | (refine CallF_in (hat) rfl rfl ?_)
      | (refine Br_split (fun h => ?_) (fun h => ?_))
      | (refine fin0 rfl ?_)
      | (refine ArK_in (wrap_i64 (by omega) (by omega)) ?_)
      | (refine force_in ?_)))
    rfl
  rw [if_neg h3] at eS
  rw [eS]
  obtain ⟨hl, hn⟩ := nd_get h2
  have hm := nd_mem h2
  have h0 := nd_pos h2
  have hnl : (0 ≤ n ∧ n < (t.length : Int)) := ⟨h0, by omega⟩
  have ha10 := may_len h1 h2
  obtain ⟨i, hi⟩ : ∃ i : Nat, atV (nd t n).attrs name = i := ⟨(atV (nd t n).attrs name).toNat, by omega⟩
  rw [hi] at hat hlo h3 ⊢
  have hil : i < (nd t n).attrs.length := by omega
  have hnil : (nd t n).attrs ≠ [] := by intro e; rw [e] at hil; simp at hil
  have ec : ∀ b, atC (nd t n).attrs b = .msl b 0 (nd t n).attrs.length (nd t n).attrs.length 2 := fun b => by unfold atC; rw [if_neg hnil]
  have eh : atH (nd t n).attrs = [some (.row (tabA (nd t n).attrs))] := by unfold atH; rw [if_neg hnil]; rfl
  have hcp := fun {H : Heap} {K : AV → Heap → Prop} hK => copy_call t n h2 hs (H := H) (K := K) hK
  rw [eh] at hcp
  simp only [ec] at hcp
  have g6 := tabO_get t n.toNat (.msl 1 0 (nd t n).attrs.length (nd t n).attrs.length 2) hl
  have hdel : ∀ {H : Heap} {K : AV → Heap → Prop}, H[1]? = some (some (.row (tabA (nd t n).attrs))) → K (.msl 1 0 ((nd t n).attrs.length - 1) (nd t n).attrs.length 2) (H.set 1 (some (.row (tabA ((nd t n).attrs.eraseIdx i ++ [⟨0, 0⟩]))))) →
      Tri Tryd.prog 40 [.msl 1 0 (nd t n).attrs.length (nd t n).attrs.length 2, .i i, .i ((i : Int) + 1)] H K := fun hq hK =>
    Tri.on (l := ((nd t n).attrs.map Attr.cs).flatten) (l' := (((nd t n).attrs.eraseIdx i ++ [(⟨0, 0⟩ : Attr)]).map Attr.cs).flatten) (delete_attr (nd t n).attrs i hil (by omega)) hq rfl rfl rfl hK
  have hb1 : some (some (Blk.row (splice (tabO t n.toNat (.msl 1 0 (nd t n).attrs.length (nd t n).attrs.length 2)) (0 + n.toNat * 7 + 6) [.msl 1 0 ((nd t n).attrs.length - 1) (nd t n).attrs.length 2]))) = some (some (.row (tabO t n.toNat (.msl 1 0 ((nd t n).attrs.eraseIdx i).length (nd t n).attrs.length 2)))) := by
    rw [tabO_set, List.length_eraseIdx, if_pos hil]
  repeat' ((conv => whnf); (first
    | (refine Br_true (Nat.ble_eq_true_of_le (by rw [tabO_len]; simp; omega)) ?_)
    | (refine Br_true (by assumption) ?_)
    | (refine Br_false (by assumption) ?_)
    | (refine Br_true (beqT (by omega)) ?_)
    | (refine Br_false (beqF (by omega)) ?_)
    | (refine Br_beq (fun h => ?_) (fun h => ?_))
    | (refine Br_true (bneT (by omega)) ?_)
    | (refine Br_false (bneF (by omega)) ?_)
    | (refine Br_bne (fun h => ?_) (fun h => ?_))
    | (refine Br_true (decide_eq_true (by omega)) ?_)
    | (refine Br_false (decide_eq_false (by omega)) ?_)
    | (refine Br_dec (fun h => ?_) (fun h => ?_))
    | (refine Br_not ?_)
    | (refine Len_in (fun hlen => ?_))
    | (refine Idx_nd h2 rfl ?_)
    | (refine Fn.use (hat) rfl rfl ?_)
    | (refine CallF_in (hat) rfl rfl ?_)
    | (refine hcp ?_)
    | (refine Br_true (decide_eq_true hnl) ?_)
    | (refine Cell_in _ g6 ?_)
    | (refine hdel rfl ?_)
    | (refine finD (F := [0, 1]) (FV_tup2 (FV_tabX t n h2 ((nd t n).attrs.eraseIdx i) [⟨0, 0⟩] (p := 0) (q := 1) hb1 rfl) (.same _ rfl)))
    | (refine Br_split (fun h => ?_) (fun h => ?_))
    | (refine fin0 rfl ?_)
    | (refine ArK_in (wrap_i64 (by omega) (by omega)) ?_)
    | (refine force_in ?_)))
end Go.Eng
set_option maxRecDepth 100000
set_option linter.unusedVariables false
set_option linter.unusedSimpArgs false
namespace Go.Eng
open Go Go.Proofs
def lvT : Tree := [⟨0, 0, -1, [1], -1, -1, []⟩, ⟨1, 0, 0, [], -1, -1, []⟩]
def lvA : Tree := [⟨0, 0, -1, [1], -1, -1, []⟩, ⟨1, 0, 0, [], -1, -1, [⟨6, 2⟩]⟩]
def lvB : Tree := [⟨0, 0, -1, [1], -1, -1, []⟩, ⟨1, 0, 0, [], -1, -1, [⟨0, -1⟩, ⟨6, 2⟩]⟩]
def lvC : Tree := [⟨0, 0, -1, [1], -1, -1, []⟩, ⟨1, 0, 0, [], -1, -1, [⟨0, -1⟩]⟩]
theorem lv1 : setG lvT 1 ⟨6, 2⟩ = (lvA, 0) := by kernel_rfl
theorem lv2 : setG lvA 1 ⟨0, -1⟩ = (lvB, 0) := by kernel_rfl
theorem lv3 : getP lvB 1 0 = (-1, true) := by kernel_rfl
theorem lv4 : dropG lvB 1 6 = (lvC, 0) := by kernel_rfl
theorem lv5 : setG lvT 1 ⟨7, 0⟩ = (lvT, 7) := by kernel_rfl
theorem lv6 : idxOf [32, 10, 43, 49, 50, 120] = (12, true) := by kernel_rfl
theorem lv7 : idxOf [45, 57, 57, 57, 57, 57, 57, 57, 57, 57, 57, 57] = (-2147483648, true) := by kernel_rfl
theorem lv8 : idxOf [120, 49] = (0, false) := by kernel_rfl
theorem lv9 : getP lvC 1 6 = (0, false) := by kernel_rfl
theorem lv10 : getP lvC 1 0 = (-1, true) := by kernel_rfl
theorem lvS (t : Tree) (h : t = lvT ∨ t = lvA ∨ t = lvB ∨ t = lvC) : SmallT t := by
  rcases h with rfl | rfl | rfl | rfl <;> (unfold SmallT; decide)
theorem live_facts : ∃ (T A B C : Tree) (s6 s7 s8 : ByteArray),
    D.sl [[.i 0, .i 0, .i (-1), .sl [[.i 1]], .i (-1), .i (-1), .sl []], [.i 1, .i 0, .i 0, .sl [], .i (-1), .i (-1), .sl []]] = treeD T ∧
    s6 = ⟨#[32, 10, 43, 49, 50, 120]⟩ ∧ s7 = ⟨#[45, 57, 57, 57, 57, 57, 57, 57, 57, 57, 57, 57]⟩ ∧ s8 = ⟨#[120, 49]⟩ ∧
    Fn Tryd.prog 14 [.d (treeD T), .i 1, .agg [.i 6, .i 2]] (.tup [.d (treeD A), .i 0]) ∧
    Fn Tryd.prog 14 [.d (treeD A), .i 1, .agg [.i 0, .i (-1)]] (.tup [.d (treeD B), .i 0]) ∧
    Fn Tryd.prog 11 [.d (treeD B), .i 1, .i 0] (.tup [.i (-1), .b true]) ∧
    Fn Tryd.prog 16 [.d (treeD B), .i 1, .i 6] (.tup [.d (treeD C), .i 0]) ∧
    Fn Tryd.prog 14 [.d (treeD T), .i 1, .agg [.i 7, .i 0]] (.tup [.d (treeD T), .i 7]) ∧
    Fn Tryd.prog 20 [.d (.str s6)] (.tup [.i 12, .b true]) ∧
    Fn Tryd.prog 20 [.d (.str s7)] (.tup [.i (-2147483648), .b true]) ∧
    Fn Tryd.prog 20 [.d (.str s8)] (.tup [.i 0, .b false]) ∧
    Fn Tryd.prog 18 [.d (treeD C), .i 1, .i 6] (.b false) ∧
    Fn Tryd.prog 18 [.d (treeD C), .i 1, .i 0] (.b true) := by
  refine ⟨lvT, lvA, lvB, lvC, _, _, _, rfl, rfl, rfl, rfl, ?_, ?_, ?_, ?_, ?_, ?_, ?_, ?_, ?_, ?_⟩
  · have := attr_Set lvT 1 ⟨6, 2⟩ (lvS _ (by simp)); rw [lv1] at this; exact this
  · have := attr_Set lvA 1 ⟨0, -1⟩ (lvS _ (by simp)); rw [lv2] at this; exact this
  · have := attr_Get lvB 1 0; rw [lv3] at this; exact this
  · have := attr_Drop lvB 1 6 (lvS _ (by simp)); rw [lv4] at this; exact this
  · have := attr_Set lvT 1 ⟨7, 0⟩ (lvS _ (by simp)); rw [lv5] at this; exact this
  · have := attr_Index [32, 10, 43, 49, 50, 120]; rw [lv6] at this; exact this
  · have := attr_Index [45, 57, 57, 57, 57, 57, 57, 57, 57, 57, 57, 57]; rw [lv7] at this; exact this
  · have := attr_Index [120, 49]; rw [lv8] at this; exact this
  · have := attr_Has lvC 1 6; rw [lv9] at this; exact this
  · have := attr_Has lvC 1 0; rw [lv10] at this; exact this
theorem live_true : Fn Tryd.prog 10 [] (.b true) := by
  refine Fn_of tt_ok Tryd.func10 rfl (by decide) Tryd.ntmps10 rfl ?_
  obtain ⟨T, A, B, C, s6, s7, s8, hT, e6, e7, e8, h1, h2, h3, h4, h5, h6, h7, h8, h9, h10⟩ := live_facts
  have i6 : [AV.d (.str ⟨#[32, 10, 43, 49, 50, 120]⟩)] = [AV.d (.str s6)] := by rw [e6]
  have i7 : [AV.d (.str ⟨#[45, 57, 57, 57, 57, 57, 57, 57, 57, 57, 57, 57]⟩)] = [AV.d (.str s7)] := by rw [e7]
  have i8 : [AV.d (.str ⟨#[120, 49]⟩)] = [AV.d (.str s8)] := by rw [e8]
  repeat' ((conv => whnf); (first
    | (refine Ch_r ?_)
    | (refine Br_true (by assumption) ?_)
    | (refine Br_false (by assumption) ?_)
    | (refine Br_true (beqT (by omega)) ?_)
    | (refine Br_false (beqF (by omega)) ?_)
    | (refine Br_beq (fun h => ?_) (fun h => ?_))
    | (refine Br_true (bneT (by omega)) ?_)
    | (refine Br_false (bneF (by omega)) ?_)
    | (refine Br_bne (fun h => ?_) (fun h => ?_))
    | (refine Br_true (decide_eq_true (by omega)) ?_)
    | (refine Br_false (decide_eq_false (by omega)) ?_)
    | (refine Br_dec (fun h => ?_) (fun h => ?_))
    | (refine Br_not ?_)
    | (refine Len_in (fun hlen => ?_))
    | (refine Fn.useE h1 (congrArg (fun x => [AV.d x, AV.i 1, .agg [.i 6, .i 2]]) hT) rfl rfl ?_)
    | (refine Fn.use (h2) rfl rfl ?_)
    | (refine CallF_in (h2) rfl rfl ?_)
    | (refine Fn.use (h3) rfl rfl ?_)
    | (refine CallF_in (h3) rfl rfl ?_)
    | (refine Fn.use (h4) rfl rfl ?_)
    | (refine CallF_in (h4) rfl rfl ?_)
    | (refine Fn.useE h5 (congrArg (fun x => [AV.d x, AV.i 1, .agg [.i 7, .i 0]]) hT) rfl rfl ?_)
    | (refine Fn.useE h6 i6 rfl rfl ?_)
    | (refine Fn.useE h7 i7 rfl rfl ?_)
    | (refine Fn.useE h8 i8 rfl rfl ?_)
    | (refine Fn.use (h9) rfl rfl ?_)
    | (refine CallF_in (h9) rfl rfl ?_)
    | (refine Fn.use (h10) rfl rfl ?_)
    | (refine CallF_in (h10) rfl rfl ?_)
    | (refine Br_split (fun h => ?_) (fun h => ?_))
    | (refine fin0 rfl ?_)
    | (refine ArK_in (wrap_i64 (by omega) (by omega)) ?_)
    | (refine force_in ?_)))
  all_goals rfl
end Go.Eng
set_option linter.unusedVariables false
set_option linter.unusedSimpArgs false
namespace Go.Eng
open Go Go.RowKit Go.ChangeShapes Go.WideShapes
inductive Sh where
  | int (k : IntKind) | bool | str | sl (row : List Sh)
inductive HasSh : Sh → D → Prop
  | int (k : IntKind) (n : Int) (h : (Lit.int k n).wf = true) : HasSh (.int k) (.int k n)
  | bool (b : Bool) : HasSh .bool (.bool b)
  | str (s : ByteArray) : HasSh .str (.str s)
  | sl (row : List Sh) (rows : List (List D)) (hl : ∀ r ∈ rows, r.length = row.length) (h : ∀ r ∈ rows, ∀ (j : Nat) (s : Sh) (d : D), row[j]? = some s → r[j]? = some d → HasSh s d) : HasSh (.sl row) (.sl rows)
def Row (shs : List Sh) (ds : List D) : Prop := ds.length = shs.length ∧ ∀ (j : Nat) (s : Sh) (d : D), shs[j]? = some s → ds[j]? = some d → HasSh s d
theorem Row.one {s : Sh} {d : D} (h : HasSh s d) : Row [s] [d] := ⟨rfl, fun j s' d' h1 h2 => by
  cases j with
  | zero => simp at h1 h2; subst h1 h2; exact h
  | succ j => simp at h1⟩
def places (P : Program) : List Field → List (List Sh) → Nat → Bool
  | [], [], _ => true
  | f :: fs, r :: rs, o => Nat.beq f.offset o && (Nat.beq (P.cellsOf f.type) r.length && places P fs rs (o + r.length))
  | _, _, _ => false
def flat (P : Program) : Nat → TypeId → Option (List Sh)
  | 0, _ => none
  | n + 1, t => match P.underlying t with
    | some (.int k) => some [.int k]
    | some .bool => some [.bool]
    | some .string => some [.str]
    | some (.slice e) => match flat P n e with
      | some r => if 0 < P.bytesOf e ∧ P.cellsOf e = r.length ∧ 0 < r.length then some [.sl r] else none
      | none => none
    | some (.struct fs) => match fs.toList.mapM fun f => flat P n f.type with
      | some rs => if places P fs.toList rs 0 = true ∧ P.cellsOf t = rs.flatten.length then some rs.flatten else none
      | none => none
    | _ => none
def pAll (w : World) : PQ := ⟨fun b => b < w.heap.size, fun b => b < w.heap.size, fun _ => False, fun _ h => h, fun _ h => h.elim, fun _ h => h.elim⟩
section
variable {H : Type} {enc : TypeId × Value → H} {P : Program} {w : World} {base : Nat} {spare : Nat → Bool} {held : Bool}
theorem ex_list {α : Type} (n : Nat) (Q : Nat → α → Prop) (h : ∀ i, i < n → ∃ x, Q i x) : ∃ l : List α, l.length = n ∧ ∀ i x, l[i]? = some x → Q i x := by
  induction n with
  | zero => exact ⟨[], rfl, fun i x hx => by simp at hx⟩
  | succ n ih =>
    obtain ⟨l, hl, hq⟩ := ih fun i hi => h i (by omega)
    obtain ⟨x, hx⟩ := h n (by omega)
    refine ⟨l ++ [x], by simp [hl], fun i y hy => ?_⟩
    by_cases hi : i < n
    · rw [List.getElem?_append_left (by omega)] at hy; exact hq i y hy
    · have : i = n := by
        have := (List.getElem?_eq_some_iff.1 hy).1
        simp at this; omega
      subst this
      rw [List.getElem?_append_right (by omega)] at hy
      simp [hl] at hy
      subst hy; exact hx
theorem weightsAll_mem {P : Program} {e : TypeId} : ∀ (l : List (DataW H)) (d : DataW H), d ∈ l → ∀ m ∈ d.weights P e, m ∈ DataW.weightsAll P e l := by
  intro l
  induction l with
  | nil => intro d h; simp at h
  | cons a r ih =>
    intro d h m hm
    simp only [DataW.weightsAll, List.mem_append]
    rcases List.mem_cons.1 h with rfl | h
    · exact .inl hm
    · exact .inr (ih d h m hm)
theorem reach_LB {m : Nat} (h : m ≤ reachBytes) : m ≤ LB := by
  unfold reachBytes at h; unfold LB; omega
theorem read_flat (n : Nat) : ∀ (t : TypeId) (shs : List Sh) (fuel : Nat) (cs : List Value) (x : DataW H × List MemPlace), flat P n t = some shs → DataW.trod enc P w base spare held fuel t cs = some x →
    (∀ m ∈ x.1.weights P t, m ≤ reachBytes) → ∃ ds : List D, Row shs ds ∧ cs.length = ds.length ∧ ∀ (j : Nat) (d : D) (v : Value), ds[j]? = some d → cs[j]? = some v → VRel (pAll w) [] w (.d d) v ∧ one v = true := by
  induction n with
  | zero => intro t shs fuel cs x h; simp [flat] at h
  | succ n ih =>
    intro t shs fuel cs x h ht hw
    unfold flat at h
    have single : ∀ (s : Sh) (d : D) (v : Value), shs = [s] → cs = [v] → HasSh s d → VRel (pAll w) [] w (.d d) v → one v = true → ∃ ds : List D, Row shs ds ∧ cs.length = ds.length ∧ ∀ (j : Nat) (d : D) (v : Value), ds[j]? = some d → cs[j]? = some v → VRel (pAll w) [] w (.d d) v ∧ one v = true := by
      rintro s d v rfl rfl h1 h2 h3
      refine ⟨[d], .one h1, rfl, fun j d' v' hd hv => ?_⟩
      cases j with
      | zero => simp at hd hv; subst hd hv; exact ⟨h2, h3⟩
      | succ j => simp at hd
    split at h
    · rename_i k hu
      obtain ⟨z, rfl, rfl, hwf⟩ := DataW.trod_int hu ht
      injection h with h
      exact single _ _ _ h.symm rfl (.int k z hwf) (.int k z) rfl
    · rename_i hu
      obtain ⟨z, rfl, rfl⟩ := DataW.trod_bool hu ht
      injection h with h
      exact single _ _ _ h.symm rfl (.bool z) (.bool z) rfl
    · rename_i hu
      obtain ⟨z, rfl, rfl, hsz⟩ := DataW.trod_string hu ht
      injection h with h
      refine single _ _ _ h.symm rfl (.str z) (.str z ?_) rfl
      have := hw z.size (by simp only [DataW.weights]; exact List.mem_singleton.2 (show z.data.size = z.data.toList.length from Array.length_toList.symm))
      exact reach_LB this
    · rename_i e hu
      split at h
      · rename_i r hr
        split at h
        · rename_i hc
          obtain ⟨hc1, hc2, hc3⟩ := hc
          injection h with h
          rcases DataW.trod_slice hu ht with ⟨rfl, rfl⟩ | ⟨a, len, cap, elems, rest, n', hfu, rfl, rfl, hb, hlc, hcm, hel, hget, _, _⟩
          · exact single _ _ _ h.symm rfl (.sl r [] (fun _ h => by simp at h) (fun _ h => by simp at h)) (.sl [] none 0 0 0 (fun _ _ => undef) rfl (Nat.zero_le _) (Nat.le_refl _) (fun i row h => by simp at h) (fun h => absurd rfl h) (fun i row j x h => by simp at h)) rfl
          · have hel2 : ∀ i, i < len → ∃ y csi, elems[i]? = some y ∧ w.cells? base (a.add (i * P.cellsOf e)) (P.cellsOf e) = some csi ∧ DataW.trod enc P w base spare held n' e csi = some y := by
              intro i hi
              have h1 := hget i hi
              have hy : elems[i]? = some (elems[i]'(by omega)) := List.getElem?_eq_getElem (by omega)
              rw [hy, Option.bind_eq_some_iff] at h1
              obtain ⟨csi, h2, h3⟩ := h1
              exact ⟨_, csi, hy, h2, h3⟩
            obtain ⟨rows, hrl, hrq⟩ := ex_list len (fun i (ds : List D) => Row r ds ∧ ∀ csi, w.cells? base (a.add (i * P.cellsOf e)) (P.cellsOf e) = some csi → csi.length = ds.length ∧ ∀ (j : Nat) (d : D) (v : Value), ds[j]? = some d → csi[j]? = some v → VRel (pAll w) [] w (.d d) v ∧ one v = true) (fun i hi => by
              obtain ⟨y, csi, h1, h2, h3⟩ := hel2 i hi
              obtain ⟨ds, g1, g2, g3⟩ := ih e r n' csi y hr h3 (fun m hm => hw m (by
                simp only [DataW.weights, hu, List.mem_cons, List.mem_append]
                exact .inr (.inl (weightsAll_mem _ y.1 (List.mem_map.2 ⟨y, List.mem_of_getElem? h1, rfl⟩) m hm))))
              exact ⟨ds, g1, fun csi' h' => by rw [h2] at h'; injection h' with h'; subst h'; exact ⟨g2, g3⟩⟩)
            have hlenB : len ≤ LB := by
              have h1 := hw ((elems.length + rest.length) * P.bytesOf e) (by simp [DataW.weights, hu])
              have h2 : elems.length * 1 ≤ (elems.length + rest.length) * P.bytesOf e := Nat.mul_le_mul (by omega) hc1
              exact reach_LB (by omega)
            have hcell : ∀ i j, i < len → j < r.length → ∃ v, w.cell? ((a.add (i * P.cellsOf e)).add j) = some v ∧ ∀ csi, w.cells? base (a.add (i * P.cellsOf e)) (P.cellsOf e) = some csi → csi[j]? = some v := by
              intro i j hi hj
              obtain ⟨y, csi, h1, h2, h3⟩ := hel2 i hi
              obtain ⟨_, k1, k2⟩ := World.cells?_some h2
              refine ⟨csi[j]'(by omega), ?_, fun csi' h' => ?_⟩
              · have := k2 j (by omega)
                rw [this, List.getElem?_eq_getElem (by omega)]
              · rw [h2] at h'; injection h' with h'; subst h'; exact List.getElem?_eq_getElem _
            refine single _ _ _ h.symm rfl (.sl r rows (fun q hq => ?_) (fun q hq => ?_)) ?_ rfl
            · obtain ⟨i, hi⟩ := List.mem_iff_getElem?.1 hq
              exact (hrq i q hi).1.1
            · obtain ⟨i, hi⟩ := List.mem_iff_getElem?.1 hq
              exact (hrq i q hi).1.2
            · by_cases h0 : len = 0
              · have : rows = [] := List.length_eq_zero_iff.1 (by omega)
                subst this
                exact .sl [] _ len cap r.length (fun _ _ => undef) (by omega) hlenB hlc (fun i row h => by simp at h) (fun h => absurd h0 h) (fun i row j x h => by simp at h)
              · have hspot : a.spot = none := by
                  obtain ⟨v, hv, _⟩ := hcell 0 0 (by omega) hc3
                  unfold World.cell? at hv
                  split at hv
                  · split at hv
                    · simp at hv
                    · rename_i hs
                      cases hsp : a.spot with
                      | none => rfl
                      | some z =>
                        exfalso; apply hs
                        unfold Addr.add
                        split <;> split <;> simp_all
                  · simp at hv
                have hadd : ∀ i j : Nat, (a.add (i * P.cellsOf e)).add j = ⟨a.block, a.off + i * r.length + j, none⟩ := by
                  intro i j
                  obtain ⟨ab, ao, sp⟩ := a
                  simp only at hspot
                  subst hspot
                  rw [addr_add, addr_add, hc2]
                have hbl : a.block < w.heap.size := by
                  obtain ⟨v, hv, _⟩ := hcell 0 0 (by omega) hc3
                  rw [hadd] at hv
                  unfold World.cell? at hv
                  split at hv
                  · rename_i hh; exact (Array.getElem?_eq_some_iff.1 hh).1
                  · simp at hv
                refine .sl rows (some a) len cap r.length (fun i j => (w.cell? ⟨a.block, a.off + i * r.length + j, none⟩).getD undef) hrl hlenB hlc (fun i row hi => (hrq i row hi).1.1) (fun _ => ⟨a.block, a.off, by
                  obtain ⟨ab, ao, sp⟩ := a
                  simp only at hspot
                  subst hspot; rfl, hbl, fun i j hi hj => ?_⟩) (fun i row j x hi hx => ?_)
                · obtain ⟨v, hv, _⟩ := hcell i j hi hj
                  rw [hadd] at hv
                  rw [hv]; rfl
                · have hil : i < len := by have := (List.getElem?_eq_some_iff.1 hi).1; omega
                  obtain ⟨g1, g2⟩ := hrq i row hi
                  have hj : j < r.length := by have := (List.getElem?_eq_some_iff.1 hx).1; rw [g1.1] at this; exact this
                  obtain ⟨v, hv, hv2⟩ := hcell i j hil hj
                  obtain ⟨y, csi, h1, h2, h3⟩ := hel2 i hil
                  rw [hadd] at hv
                  rw [hv]
                  exact ((g2 csi h2).2 j x v hx (hv2 csi h2)).1
        · simp at h
      · simp at h
    · rename_i fs hu
      split at h
      · rename_i rs hrs
        split at h
        · rename_i hc
          obtain ⟨hpl, hcells⟩ := hc
          injection h with h
          subst h
          obtain ⟨xs, n', hfu, rfl, hcl, hxl, hget⟩ := DataW.trod_struct hu ht
          simp only [DataW.weights, hu] at hw
          have key : ∀ (fs' : List Field) (rs' : List (List Sh)) (xs' : List (DataW H × List MemPlace)) (o : Nat), places P fs' rs' o = true → (fs'.mapM fun f => flat P n f.type) = some rs' → xs'.length = fs'.length →
              (∀ (i : Nat) (f : Field), fs'[i]? = some f → DataW.trod enc P w base spare held n' f.type ((cs.drop f.offset).take (P.cellsOf f.type)) = xs'[i]?) →
              (∀ m ∈ DataW.weightsEach P (fs'.map (·.type)) (xs'.map (·.1)), m ≤ reachBytes) →
              ∃ ds : List D, Row rs'.flatten ds ∧ ∀ (j : Nat) (d : D) (v : Value), ds[j]? = some d → cs[o + j]? = some v → VRel (pAll w) [] w (.d d) v ∧ one v = true := by
            intro fs'
            induction fs' with
            | nil =>
              intro rs' xs' o hp hm hx hg hw
              simp at hm
              subst hm
              exact ⟨[], ⟨rfl, fun j s d h => by simp at h⟩, fun j d v h => by simp at h⟩
            | cons f fs' ihf =>
              intro rs' xs' o hp hm hx hg hw
              cases xs' with
              | nil => simp at hx
              | cons x0 xs' =>
                cases rs' with
                | nil => simp [places] at hp
                | cons r0 rs' =>
                  simp only [places, Bool.and_eq_true] at hp
                  obtain ⟨p1, p2, p3⟩ := hp
                  have p1 := Nat.eq_of_beq_eq_true p1
                  have p2 := Nat.eq_of_beq_eq_true p2
                  simp only [List.mapM_cons, Option.bind_eq_bind, Option.bind_eq_some_iff, Option.pure_def, Option.some.injEq] at hm
                  obtain ⟨r1, m1, rs1, m2, m3⟩ := hm
                  injection m3 with m3 m4
                  subst m3 m4
                  have h0 := hg 0 f rfl
                  simp only [List.getElem?_cons_zero] at h0
                  simp only [List.map_cons, DataW.weightsEach, List.mem_append] at hw
                  obtain ⟨d0, a1, a2, a3⟩ := ih f.type r1 n' _ x0 m1 h0 (fun m hm => hw m (.inl hm))
                  obtain ⟨d1, b1, b2⟩ := ihf rs1 xs' (o + r1.length) p3 m2 (by simpa using hx) (fun i f' hf' => by have := hg (i + 1) f' (by simpa using hf'); simpa using this) (fun m hm => hw m (.inr hm))
                  have hd0 : d0.length = r1.length := a1.1
                  refine ⟨d0 ++ d1, ⟨by simp [a1.1, b1.1], fun j s d hs hd => ?_⟩, fun j d v hd hv => ?_⟩
                  · simp only [List.flatten_cons] at hs
                    by_cases hj : j < r1.length
                    · rw [List.getElem?_append_left hj] at hs
                      rw [List.getElem?_append_left (by omega)] at hd
                      exact a1.2 j s d hs hd
                    · rw [List.getElem?_append_right (by omega)] at hs
                      rw [List.getElem?_append_right (by omega), hd0] at hd
                      exact b1.2 _ s d hs hd
                  · by_cases hj : j < r1.length
                    · rw [List.getElem?_append_left (by omega)] at hd
                      refine a3 j d v hd ?_
                      rw [List.getElem?_take, if_pos (by omega), List.getElem?_drop, p1]
                      exact hv
                    · rw [List.getElem?_append_right (by omega), hd0] at hd
                      refine b2 _ d v hd ?_
                      rw [show o + r1.length + (j - r1.length) = o + j by omega]
                      exact hv
          obtain ⟨ds, k1, k2⟩ := key fs.toList rs xs 0 hpl hrs (by simpa using hxl) (fun i f hf => hget i f (by simpa using hf)) hw
          refine ⟨ds, k1, by rw [hcl, hcells, k1.1], fun j d v hd hv => k2 j d v hd (by rw [Nat.zero_add]; exact hv)⟩
        · simp at h
      · simp at h
    · simp at h
end
end Go.Eng
set_option linter.unusedVariables false
set_option linter.unusedSimpArgs false
namespace Go.Eng
open Go Go.RowKit Go.ChangeShapes Go.WideShapes
def hd1 : List D → AV
  | d :: _ => .d d
  | [] => .any
def topAV (P : Program) (t : TypeId) (ds : List D) : AV :=
  match P.underlying t with
  | some (.struct _) => .agg (ds.map .d)
  | _ => hd1 ds
def ArgOk (P : Program) (t : TypeId) (x : AV) : Prop := ∃ shs ds, flat P 8 t = some shs ∧ Row shs ds ∧ x = topAV P t ds
def ArgsOk (P : Program) : List TypeId → List AV → Prop
  | [], [] => True
  | t :: ts, x :: xs => ArgOk P t x ∧ ArgsOk P ts xs
  | _, _ => False
section
variable {H : Type} {enc : TypeId × Value → H} {P : Program} {w : World} {base b0 : Nat} {spare : Nat → Bool} {held : Bool}
theorem open_arg {t : TypeId} {v : Value} {d : DataW H} {ps : List MemPlace} (hf : (flat P 8 t).isSome = true) (hval : Value.okWide P w .any b0 t v) (h : DataW.Trod enc P w base spare held t v d ps)
    (hw : ∀ m ∈ d.weights P t, m ≤ reachBytes) : ∃ x, ArgOk P t x ∧ VRel (pAll w) [] w x v := by
  obtain ⟨shs, hshs⟩ := Option.isSome_iff_exists.1 hf
  obtain ⟨fuel, h⟩ := h
  obtain ⟨ds, h1, h2, h3⟩ := read_flat 8 t shs fuel _ _ hshs h hw
  refine ⟨topAV P t ds, ⟨shs, ds, hshs, h1, rfl⟩, ?_⟩
  have hf2 := hshs
  unfold flat at hf2
  unfold topAV
  have lone : ∀ s : Sh, shs = [s] → (∀ cs, v ≠ .agg cs) → VRel (pAll w) [] w (hd1 ds) v := by
    rintro s rfl hna
    have hcells : v.cells.toList = [v] := by cases v <;> first | rfl | exact absurd rfl (hna _)
    rw [hcells] at h2 h3
    match ds, h1.1, h3 with
    | [d0], _, h3 => exact (h3 0 d0 v rfl rfl).1
  unfold Value.okWide at hval
  split at hf2
  · rename_i k hu
    injection hf2 with hf2
    rw [hu] at hval ⊢
    exact lone _ hf2.symm (fun cs e => by subst e; simp [Cell.okWide, Cell.ok, hu] at hval)
  · rename_i hu
    injection hf2 with hf2
    rw [hu] at hval ⊢
    exact lone _ hf2.symm (fun cs e => by subst e; simp [Cell.okWide, Cell.ok, hu] at hval)
  · rename_i hu
    injection hf2 with hf2
    rw [hu] at hval ⊢
    exact lone _ hf2.symm (fun cs e => by subst e; simp [Cell.okWide, Cell.ok, hu] at hval)
  · rename_i e hu
    rw [hu] at hval ⊢
    split at hf2
    · split at hf2
      · injection hf2 with hf2
        exact lone _ hf2.symm (fun cs e => by subst e; simp [Cell.okWide, Cell.ok, hu] at hval)
      · simp at hf2
    · simp at hf2
  · rename_i fs hu
    rw [hu] at hval ⊢
    simp only at hval ⊢
    obtain ⟨cs, rfl, hsz, _⟩ := hval
    refine .agg _ cs (by simpa [Value.cells] using h2) (fun i v hv => ?_) (fun i x v hx hv => ?_)
    · have hi := (Array.getElem?_eq_some_iff.1 hv).1
      have hlt : i < ds.length := by rw [← h2]; simpa [Value.cells] using hi
      exact (h3 i ds[i] v (List.getElem?_eq_getElem hlt) (by simpa [Value.cells] using hv)).2
    · rw [List.getElem?_map] at hx
      cases hd : ds[i]? with
      | none => rw [hd] at hx; simp at hx
      | some d0 =>
        rw [hd] at hx
        simp at hx
        subst hx
        exact (h3 i d0 v hd (by simpa [Value.cells] using hv)).1
  · simp at hf2
theorem open_args : ∀ (ts : List TypeId) (vs : List Value) (ds : List (DataW H)) (ps : List MemPlace), (ts.all fun t => (flat P 8 t).isSome) = true → (∀ (j : Nat) (t : TypeId) (v : Value), ts[j]? = some t → vs[j]? = some v → Value.okWide P w .any b0 t v) →
    DataW.TrodAll enc P w base spare held ts vs ds ps → (∀ m ∈ DataW.weightsEach P ts ds, m ≤ reachBytes) →
    ∃ xs : List AV, ArgsOk P ts xs ∧ vs.length = xs.length ∧ ∀ (i : Nat) (x : AV) (v : Value), xs[i]? = some x → vs[i]? = some v → VRel (pAll w) [] w x v := by
  intro ts
  induction ts with
  | nil =>
    intro vs ds ps _ _ h _
    cases vs with
    | nil => exact ⟨[], trivial, rfl, fun i x v hx => by simp at hx⟩
    | cons v vs => cases ds <;> exact h.elim
  | cons t ts ih =>
    intro vs ds ps hf hval h hw
    cases vs with
    | nil => cases ds <;> exact h.elim
    | cons v vs =>
      cases ds with
      | nil => exact h.elim
      | cons d ds =>
        obtain ⟨p, q, h1, h2, _⟩ := h
        simp only [List.all_cons, Bool.and_eq_true] at hf
        simp only [DataW.weightsEach, List.mem_append] at hw
        obtain ⟨x, x1, x2⟩ := open_arg hf.1 (hval 0 t v rfl rfl) h1 (fun m hm => hw m (.inl hm))
        obtain ⟨xs, y1, y2, y3⟩ := ih vs ds q hf.2 (fun j t v h1 h2 => hval (j + 1) t v (by simpa using h1) (by simpa using h2)) h2 (fun m hm => hw m (.inr hm))
        refine ⟨x :: xs, ⟨x1, y1⟩, by simp [y2], fun i z u hz hu => ?_⟩
        cases i with
        | zero => simp at hz hu; subst hz hu; exact x2
        | succ i => exact y3 i z u (by simpa using hz) (by simpa using hu)
theorem trodAll_stays (hl : laidOutB P = true) {W W' : World} (hb : Below W.heap.size W W') : ∀ (ts : List TypeId) (vs : List Value) (ds : List (DataW H)) (ps : List MemPlace), (ts.all fun t => P.readableRec t && decide (t < P.types.size)) = true →
    DataW.TrodAll enc P W 0 (fun _ => true) true ts vs ds ps → (∀ x ∈ ps, x.block < W.heap.size) → DataW.TrodAll enc P W' 0 (fun b => decide (b < W.heap.size)) true ts vs ds ps := by
  intro ts
  induction ts with
  | nil =>
    intro vs ds ps _ h _
    cases vs with
    | nil => cases ds with
      | nil => exact h
      | cons d ds => exact h.elim
    | cons v vs => cases ds <;> exact h.elim
  | cons t ts ih =>
    intro vs ds ps ht h hlt
    cases vs with
    | nil => cases ds <;> exact h.elim
    | cons v vs =>
      cases ds with
      | nil => exact h.elim
      | cons d ds =>
        obtain ⟨p, q, h1, h2, rfl⟩ := h
        simp only [List.all_cons, Bool.and_eq_true, decide_eq_true_eq] at ht
        exact ⟨p, q, Below.trod hl ht.1.1 ht.1.2 h1 hb (fun x hx => hlt x (by simp [hx])), ih vs ds q ht.2 h2 (fun x hx => hlt x (by simp [hx])), rfl⟩
theorem weightsEach_left (us : List TypeId) (gs : List (DataW H)) : ∀ (ts : List TypeId) (ds : List (DataW H)), ts.length = ds.length → ∀ m ∈ DataW.weightsEach P ts ds, m ∈ DataW.weightsEach P (ts ++ us) (ds ++ gs) := by
  intro ts
  induction ts with
  | nil => intro ds hl m hm; cases ds <;> simp [DataW.weightsEach] at hm
  | cons t ts ih =>
    intro ds hl m hm
    cases ds with
    | nil => simp at hl
    | cons d ds =>
      simp only [List.cons_append, DataW.weightsEach, List.mem_append] at hm ⊢
      rcases hm with hm | hm
      · exact .inl hm
      · exact .inr (ih ds (by simpa using hl) m hm)
theorem Fn_calls {f : FuncId} {xs : List AV} (h : Fn P f xs (.d (.bool true))) {vs : Array Value} {W : World} (hs : vs.size = xs.length) (hv : ∀ (i : Nat) (x : AV) (v : Value), xs[i]? = some x → vs[i]? = some v → VRel (pAll W) [] W x v) :
    Calls P f vs W fun e W' => e = .returned (.bool true) ∧ Below W.heap.size W W' := by
  unfold Fn at h
  rw [Tri_eq] at h
  have hH : HRel (pAll W) [] [] W := ⟨rfl, fun b hb => hb, fun i k hk => by simp at hk, fun i j r k l hk => by simp at hk⟩
  refine (h.2 (pAll W) [] W vs hH hs hv).mono ?_
  rintro e W' ⟨v, x, p', σ', H', rfl, he, _, _, hx, rfl, _⟩
  cases hx
  obtain ⟨s1, s2, s3, s4, s5⟩ := he.shape
  exact ⟨rfl, s3, s4, s5, s1, fun k hk => he.same k hk (fun h => h)⟩
theorem trodAll_len : ∀ (ts : List TypeId) (vs : List Value) (ds : List (DataW H)) (ps : List MemPlace), DataW.TrodAll enc P w base spare held ts vs ds ps → ts.length = ds.length ∧ vs.length = ds.length := by
  intro ts
  induction ts with
  | nil =>
    intro vs ds ps h
    cases vs with
    | nil => cases ds with
      | nil => exact ⟨rfl, rfl⟩
      | cons d ds => exact h.elim
    | cons v vs => cases ds <;> exact h.elim
  | cons t ts ih =>
    intro vs ds ps h
    cases vs with
    | nil => cases ds <;> exact h.elim
    | cons v vs =>
      cases ds with
      | nil => exact h.elim
      | cons d ds =>
        obtain ⟨p, q, _, h2, _⟩ := h
        obtain ⟨a, b⟩ := ih vs ds q h2
        exact ⟨by simp [a], by simp [b]⟩
theorem law_contract {fn : Func} {f : FuncId} {s : ChangeSpec} (hl : laidOutB P = true) (hrd : (fn.params.toList.all fun t => P.readableRec t && decide (t < P.types.size)) = true) (hfl : (fn.params.toList.all fun t => (flat P 8 t).isSome) = true)
    {tb : TypeId} (hres : fn.resultTypes = #[tb]) (hb : P.underlying tb = some .bool) (hvars : s.vars = [])
    (hs : ∀ ds : List (DataW H), ds.length = fn.params.toList.length → s.fn H ds = { results := [.lit (.bool true)], args := ds })
    (law : ∀ xs : List AV, ArgsOk P fn.params.toList xs → Fn P f xs (.d (.bool true))) {W : World} {base : Nat} {args : Array Value} {ds gs : List (DataW H)} {before : List MemPlace} {us : List TypeId}
    (hval : ∀ (j : Nat) t v, fn.params[j]? = some t → args[j]? = some v → Value.okWide P W .any base t v)
    (hW : DataW.Whole enc P fn.params.toList s.vars false W args.toList ds gs before)
    (hw : (DataW.weightsEach P (fn.params.toList ++ us) (ds ++ gs)).all (· ≤ reachBytes) = true) :
    Calls P f args W fun e W' => ∃ v, e = .returned v ∧ s.post enc P fn false true false false W args v W' := by
  have hW' := hW
  obtain ⟨p, q, hA, hV, rfl, hfz, _⟩ := hW
  rw [hvars] at hV
  obtain ⟨rfl, rfl⟩ : gs = [] ∧ q = [] := by
    cases gs with
    | nil => exact ⟨rfl, hV⟩
    | cons g r => exact absurd hV (by intro h; cases h)
  obtain ⟨l1, l2⟩ := trodAll_len _ _ _ _ hA
  simp only [List.append_nil] at hw hW' hfz
  have hww : ∀ m ∈ DataW.weightsEach P fn.params.toList ds, m ≤ reachBytes := fun m hm => by
    have h1 := weightsEach_left (P := P) us ([] : List (DataW H)) fn.params.toList ds l1 m hm
    rw [List.append_nil] at h1
    simpa using List.all_eq_true.1 hw m h1
  obtain ⟨xs, x1, x2, x3⟩ := open_args fn.params.toList args.toList ds p hfl (fun j t v h1 h2 => hval j t v (by simpa using h1) (by simpa using h2)) hA hww
  refine (Fn_calls (law xs x1) (vs := args) (W := W) (by simpa using x2) (fun i x v hx hv => x3 i x v hx (by simpa using hv))).mono ?_
  rintro e W' ⟨rfl, hbw⟩
  have hlt : ∀ x ∈ p, x.block < W.heap.size := fun x hx => hW'.lt x hx
  have hsp := hs ds (by rw [l1])
  refine ⟨_, rfl, ds, [], p, [], p, [], hW', ?_, ?_, ?_, hbw.frame _, fun h => by cases h⟩
  · rw [List.append_nil, hsp, hres]
    exact trodAll_mk1 (shut_bool hb true)
  · rw [List.append_nil, hsp]
    exact trodAll_stays hl hbw _ _ _ _ hrd hA hlt
  · rw [List.append_nil, hsp, hvars]
    rfl
end
end Go.Eng
set_option linter.unusedVariables false
set_option linter.unusedSimpArgs false
namespace Go.Eng
open Go
theorem ex_map {α : Type} (f : α → List D) : ∀ rows : List (List D), (∀ r ∈ rows, ∃ a, r = f a) → ∃ l : List α, rows = l.map f := by
  intro rows
  induction rows with
  | nil => intro _; exact ⟨[], rfl⟩
  | cons r t ih =>
    intro h
    obtain ⟨a, rfl⟩ := h r (by simp)
    obtain ⟨l, rfl⟩ := ih fun r hr => h r (by simp [hr])
    exact ⟨a :: l, rfl⟩
abbrev i64 : Sh := .int .i64
theorem has_int {d : D} (h : HasSh i64 d) : ∃ n : Int, d = .i n := by cases h with | int _ n h => exact ⟨n, rfl⟩
theorem has_int2 {d : D} (h : HasSh i64 d) : ∃ n : Int, d = .i n ∧ -9223372036854775808 ≤ n ∧ n ≤ 9223372036854775807 := by
  cases h with
  | int _ n h =>
    refine ⟨n, rfl, ?_⟩
    simpa [Lit.wf, IntKind.min, IntKind.max, IntKind.signed, IntKind.bits] using h
theorem has_str {d : D} (h : HasSh .str d) : ∃ l : List UInt8, d = str l := by
  cases h with
  | str s => exact ⟨s.data.toList, by show D.str s = .str _; rw [str_of]⟩
def intsSh : Sh := .sl [i64]
theorem has_ints {d : D} (h : HasSh intsSh d) : ∃ l : List Int, d = ints l := by
  cases h with
  | sl _ rows hl h =>
    obtain ⟨l, rfl⟩ := ex_map intCs rows fun r hr => by
      have h1 := hl r hr
      match r, h1 with
      | [x], _ =>
        obtain ⟨n, rfl⟩ := has_int (h [x] hr 0 i64 x rfl rfl)
        exact ⟨n, rfl⟩
    exact ⟨l, rfl⟩
def attrSh : List Sh := [i64, i64]
theorem row_attr {r : List D} (h : Row attrSh r) : ∃ a : Attr, r = a.cs := by
  obtain ⟨h1, h2⟩ := h
  match r, h1, h2 with
  | [x, y], _, h2 =>
    obtain ⟨n, rfl⟩ := has_int (h2 0 i64 x rfl rfl)
    obtain ⟨v, rfl⟩ := has_int (h2 1 i64 y rfl rfl)
    exact ⟨⟨n, v⟩, rfl⟩
def attrsSh : Sh := .sl attrSh
theorem has_attrs {d : D} (h : HasSh attrsSh d) : ∃ l : List Attr, d = attrsD l := by
  cases h with
  | sl _ rows hl h =>
    obtain ⟨l, rfl⟩ := ex_map Attr.cs rows fun r hr => row_attr ⟨hl r hr, h r hr⟩
    exact ⟨l, rfl⟩
def nodeSh : List Sh := [i64, i64, i64, intsSh, i64, i64, attrsSh]
theorem row_node {r : List D} (h : Row nodeSh r) : ∃ x : Node, r = x.cs := by
  obtain ⟨h1, h2⟩ := h
  match r, h1, h2 with
  | [x0, x1, x2, x3, x4, x5, x6], _, h2 =>
    obtain ⟨n0, rfl⟩ := has_int (h2 0 i64 x0 rfl rfl)
    obtain ⟨n1, rfl⟩ := has_int (h2 1 i64 x1 rfl rfl)
    obtain ⟨n2, rfl⟩ := has_int (h2 2 i64 x2 rfl rfl)
    obtain ⟨n3, rfl⟩ := has_ints (h2 3 intsSh x3 rfl rfl)
    obtain ⟨n4, rfl⟩ := has_int (h2 4 i64 x4 rfl rfl)
    obtain ⟨n5, rfl⟩ := has_int (h2 5 i64 x5 rfl rfl)
    obtain ⟨n6, rfl⟩ := has_attrs (h2 6 attrsSh x6 rfl rfl)
    exact ⟨⟨n0, n1, n2, n3, n4, n5, n6⟩, rfl⟩
def treeSh : Sh := .sl nodeSh
theorem has_tree {d : D} (h : HasSh treeSh d) : ∃ t : Tree, d = treeD t := by
  cases h with
  | sl _ rows hl h =>
    obtain ⟨l, rfl⟩ := ex_map Node.cs rows fun r hr => row_node ⟨hl r hr, h r hr⟩
    exact ⟨l, rfl⟩
theorem arg_one {P : Program} {t : TypeId} {s : Sh} {x : AV} (h : ArgOk P t x) (hf : flat P 8 t = some [s]) (hu : ∀ ds, topAV P t ds = hd1 ds) : ∃ d, HasSh s d ∧ x = .d d := by
  obtain ⟨shs, ds, h1, h2, h3⟩ := h
  rw [hf] at h1
  injection h1 with h1
  subst h1
  obtain ⟨g1, g2⟩ := h2
  match ds, g1, g2, h3 with
  | [d], _, g2, h3 => exact ⟨d, g2 0 s d rfl rfl, by rw [h3, hu]; rfl⟩
theorem arg_agg {P : Program} {t : TypeId} {shs : List Sh} {x : AV} (h : ArgOk P t x) (hf : flat P 8 t = some shs) (hu : ∀ ds, topAV P t ds = .agg (ds.map .d)) : ∃ ds, Row shs ds ∧ x = .agg (ds.map .d) := by
  obtain ⟨shs', ds, h1, h2, h3⟩ := h
  rw [hf] at h1
  injection h1 with h1
  subst h1
  exact ⟨ds, h2, by rw [h3, hu]⟩
theorem args_1 {P : Program} {t : TypeId} {xs : List AV} (h : ArgsOk P [t] xs) : ∃ x, xs = [x] ∧ ArgOk P t x := by
  match xs, h with
  | [x], h => exact ⟨x, rfl, h.1⟩
theorem args_2 {P : Program} {t u : TypeId} {xs : List AV} (h : ArgsOk P [t, u] xs) : ∃ x y, xs = [x, y] ∧ ArgOk P t x ∧ ArgOk P u y := by
  match xs, h with
  | [x, y], h => exact ⟨x, y, rfl, h.1, h.2.1⟩
theorem args_3 {P : Program} {t u v : TypeId} {xs : List AV} (h : ArgsOk P [t, u, v] xs) : ∃ x y z, xs = [x, y, z] ∧ ArgOk P t x ∧ ArgOk P u y ∧ ArgOk P v z := by
  match xs, h with
  | [x, y, z], h => exact ⟨x, y, z, rfl, h.1, h.2.1, h.2.2.1⟩
theorem args_4 {P : Program} {t u v w : TypeId} {xs : List AV} (h : ArgsOk P [t, u, v, w] xs) : ∃ x y z q, xs = [x, y, z, q] ∧ ArgOk P t x ∧ ArgOk P u y ∧ ArgOk P v z ∧ ArgOk P w q := by
  match xs, h with
  | [x, y, z, q], h => exact ⟨x, y, z, q, rfl, h.1, h.2.1, h.2.2.1, h.2.2.2.1⟩
end Go.Eng
