/- What the seat's proofs lean on, part 9: the executor over abstract values, its soundness, and what the program's functions answer (Ins2, Ins3, Ins4, Pag8, Pag9, Liv21, Eng44, Lv21, LawPN, Sh1, LawPA, SeatZ). -/
import Derived.Test.YtekooegnkifokaaGreatEng08
import Derived.Test.YtekooegnkifokaaGreatEng05
import Derived.Test.YtekooegnkifokaaGreatEng06
import Derived.Test.YtekooegnkifokaaGreatEng00
import Derived.Test.YtekooegnkifokaaGreatChecked
import Derived.Test.YtekooegnkifokaaGreatRows
import Derived.ProofKit
import Derived.JoinedOf
set_option linter.all false
set_option linter.unusedVariables false
set_option linter.unusedSimpArgs false
set_option maxRecDepth 100000
set_option linter.unusedVariables false
set_option linter.unusedSimpArgs false
namespace Go.Eng
open Go Go.Proofs
theorem renL_i (g : Nat → Nat) (l : List Int) : renL g (l.map AV.i) = l.map AV.i := by
  induction l with
  | nil => rfl
  | cons a r ih => simp only [List.map_cons, renL, ih]; rfl
def kiC (l : List Int) (b : Nat) : AV := if l = [] then .esl else .msl b 0 l.length l.length 1
def kiH (l : List Int) : Heap := if l = [] then [] else [some (.row (l.map AV.i))]
theorem cloneK (l : List Int) (hl : l.length ≤ 1000) : Tri Tryz.prog 75 [.d (ints l)] [] fun v H => v = kiC l 0 ∧ H = kiH l := by
  by_cases h0 : l = []
  rotate_left
  · unfold kiC kiH
    rw [if_neg h0, if_neg h0]
    exact cloneOwn_ints l h0 hl
  subst h0
  refine Tri_of (m := 0) tt_ok Tryz.func75 rfl (by decide) Tryz.ntmps75 (by rfl) rfl ?_
  refine Nil_in fun b hb => ?_
  cases b
  · skip
    refine Ch_r ?_
    skip
    refine Ch_l ?_
    repeat' ((conv => whnf); (first
     | (refine Need_in rfl ?_)
     | (refine finQ ⟨rfl, rfl⟩)))
  · repeat' ((conv => whnf); (first
   | (refine finW (Fin_all (F := []) .nesl) ⟨rfl, rfl⟩)))
theorem ownK_call (l : List Int) (hl : l.length ≤ 1000) (H : Heap) (K : AV → Heap → Prop) (hK : K (kiC l H.length) (H ++ kiH l)) : Tri Tryz.prog 75 [.d (ints l)] H K := by
  have h := cloneK l hl
  unfold kiC kiH at *
  by_cases h0 : l = []
  · simp only [h0, if_true, List.append_nil] at hK
    subst h0
    simp only [if_true] at h
    exact Tri.call h [] rfl rfl trivial rfl rfl rfl rfl rfl (by rw [patch_nil]; simp [renH]) hK
  · simp only [h0, if_false] at hK h
    exact Tri.call h [] rfl rfl trivial rfl rfl rfl rfl (r := .msl H.length 0 l.length l.length 1) (by simp [ren, hmap_nil]) (by rw [patch_nil]; simp only [renH, List.map_cons, List.map_nil, Option.map, renB, renL_i]) hK
def tabK (t : Tree) (n : Nat) (c : AV) : List AV := (tabT t).set (n * 7 + 3) c
theorem tabK_len (t : Tree) (n : Nat) (c : AV) : (tabK t n c).length = t.length * 7 := by unfold tabK; rw [List.length_set, tabT_len]
theorem copy_ownK (t : Tree) (n : Nat) (hn : n < t.length) (hs : SmallT t) :
    Tri Tryz.prog 74 [.d (treeD t)] [] fun v H => v = .msl 0 0 t.length t.length 7 ∧ H = some (.row (tabK t n (kiC (t[n]).kids 1))) :: kiH (t[n]).kids := by
  refine Tri_of (m := 0) tt_ok Tryz.func74 rfl (by decide) Tryz.ntmps74 (by rfl) rfl ?_
  have hne : t ≠ [] := by rintro rfl; simp at hn
  refine Tri.tab (clone_tree t hne hs.1) rfl ?_
  have hpush : (List.map Node.cs t).flatten.map AV.d = tabT t := rfl
  rw [hpush]
  repeat' ((conv => whnf); (first
   | (refine Len_in (fun hlen => ?_))))
  have hal := (hs.2 _ (List.getElem_mem hn)).1
  refine W_loop (fun μ s => ∃ (k : Nat) (T : List AV) (rest : Heap), k ≤ t.length ∧ μ = t.length - k ∧ (k ≤ n → T = tabT t ∧ rest = []) ∧ (n < k → T = tabK t n (kiC (t[n]).kids 1) ∧ rest = kiH (t[n]).kids) ∧
      s = ⟨[(3, .msl 0 0 t.length t.length 7), (8, .i t.length), (9, .i k)], 34, some (.row T) :: rest, 0, []⟩) t.length
    ⟨_, ?_, 0, tabT t, [], by omega, by omega, fun _ => ⟨rfl, rfl⟩, fun h => absurd h (Nat.not_lt_zero _), rfl⟩ ?_
  · exact Wk_env (by repeat (first | exact trivial | refine ⟨rfl, ?_⟩))
  rintro μ s1 ⟨k, T, rest, hk, rfl, h1, h2, rfl⟩
  refine W_run tt_ok ?_
  by_cases hlt : k < t.length
  rotate_left
  · obtain ⟨rfl, rfl⟩ := h2 (by omega)
    repeat' ((conv => whnf); (first
     | (refine Br_false (decide_eq_false (by omega)) ?_)
     | (refine finQ ⟨rfl, rfl⟩)))
  have hmk := hs.2 _ (List.getElem_mem hlt)
  have hTl : T.length = t.length * 7 := by
    by_cases h : k ≤ n
    · rw [(h1 h).1, tabT_len]
    · rw [(h2 (by omega)).1, tabK_len]
  have g6 : T[0 + (k : Int).toNat * 7 + 6]? = some (.d (attrsD (t[k]).attrs)) := by
    rw [show 0 + (k : Int).toNat * 7 + 6 = k * 7 + 6 by omega]
    have h0 := tabT_get t k 6 hlt _ rfl (by omega)
    by_cases h : k ≤ n
    · rw [(h1 h).1]; exact h0
    · rw [(h2 (by omega)).1]; unfold tabK; rw [List.getElem?_set_ne (by omega)]; exact h0
  by_cases hkn : k = n
  rotate_left
  · have g3 : T[0 + (k : Int).toNat * 7 + 3]? = some (.d (ints (t[k]).kids)) := by
      rw [show 0 + (k : Int).toNat * 7 + 3 = k * 7 + 3 by omega]
      have h0 := tabT_get t k 3 hlt _ rfl (by omega)
      by_cases h : k ≤ n
      · rw [(h1 h).1]; exact h0
      · rw [(h2 (by omega)).1]; unfold tabK; rw [List.getElem?_set_ne (by omega)]; exact h0
    have e : splice (splice T (0 + (k : Int).toNat * 7 + 3) [.d (ints (t[k]).kids)]) (0 + (k : Int).toNat * 7 + 6) [.d (attrsD (t[k]).attrs)] = T := by
      rw [splice_same g3, splice_same g6]
    repeat' ((conv => whnf); (first
     | (refine Br_true (Nat.ble_eq_true_of_le (by rw [hTl]; simp; omega)) ?_)
     | (refine Br_true (Nat.ble_eq_true_of_le (by rw [splice_length, hTl]; simp; omega)) ?_)
     | (refine Br_true (decide_eq_true (by omega)) ?_)
     | (refine W_draw 0 tt_ok mixed (by kernel_rfl) ?_)
     | (refine Cell_in _ g3 ?_)
     | (refine Cell_in _ g6 ?_)
     | (refine CallF_in (clone_ints _ hmk.1) rfl rfl ?_)
     | (refine CallF_in (clone_attrs _ hmk.2) rfl rfl ?_)
     | (refine Back_in _ _ ⟨k + 1, _, rest, by omega, rfl, fun h => ⟨e.trans (h1 (by omega)).1, (h1 (by omega)).2⟩, fun h => ⟨e.trans (h2 (by omega)).1, (h2 (by omega)).2⟩, rfl⟩ (by omega) (Wk_env (by repeat (first | exact trivial | refine ⟨rfl, ?_⟩))))
     | (refine ArK_in (wrap_i64 (by omega) (by omega)) ?_)))
  · obtain ⟨rfl, rfl⟩ := h1 (by omega)
    subst hkn
    have g3 : (tabT t)[0 + (k : Int).toNat * 7 + 3]? = some (.d (ints (t[k]).kids)) := by
      rw [show 0 + (k : Int).toNat * 7 + 3 = k * 7 + 3 by omega]
      exact tabT_get t k 3 hlt _ rfl (by omega)
    have e : ∀ c : AV, splice (splice (tabT t) (0 + (k : Int).toNat * 7 + 3) [c]) (0 + (k : Int).toNat * 7 + 6) [.d (attrsD (t[k]).attrs)] = tabK t k c := fun c => by
      rw [splice_same (by rw [show 0 + (k : Int).toNat * 7 + 6 = k * 7 + 6 by omega] at g6 ⊢; simp only [splice]; rw [List.getElem?_set_ne (by omega)]; exact g6)]
      unfold tabK
      simp only [splice]
      rw [show 0 + (k : Int).toNat * 7 + 3 = k * 7 + 3 by omega]
    have oc := ownK_call (t[k]).kids hal
    by_cases h0 : (t[k]).kids = []
    · have ec : ∀ b, kiC (t[k]).kids b = .esl := fun b => by unfold kiC; rw [if_pos h0]
      have eh : kiH (t[k]).kids = [] := by unfold kiH; rw [if_pos h0]
      simp only [ec, eh] at oc ⊢
      repeat' ((conv => whnf); (first
       | (refine Br_true (Nat.ble_eq_true_of_le (by rw [hTl]; simp; omega)) ?_)
       | (refine Br_true (Nat.ble_eq_true_of_le (by rw [splice_length, hTl]; simp; omega)) ?_)
       | (refine Br_true (decide_eq_true (by omega)) ?_)
       | (refine W_draw 1 tt_ok mixed (by kernel_rfl) ?_)
       | (refine Cell_in _ g3 ?_)
       | (refine Cell_in _ g6 ?_)
       | (refine CallP_in [] (fun K' hK' => oc _ K' hK') ?_)
       | (refine CallP_in [] (fun K' hK' => Fn.use (clone_attrs _ hmk.2) rfl rfl hK') ?_)
       | (refine Back_in _ _ ⟨k + 1, _, [], by omega, rfl, fun h => by omega, fun h => ⟨e _, rfl⟩, rfl⟩ (by omega) (Wk_env (by repeat (first | exact trivial | refine ⟨rfl, ?_⟩))))
       | (refine ArK_in (wrap_i64 (by omega) (by omega)) ?_)))
    · have ec : ∀ b, kiC (t[k]).kids b = .msl b 0 (t[k]).kids.length (t[k]).kids.length 1 := fun b => by unfold kiC; rw [if_neg h0]
      have eh : kiH (t[k]).kids = [some (.row ((t[k]).kids.map AV.i))] := by unfold kiH; rw [if_neg h0]
      simp only [ec, eh] at oc ⊢
      repeat' ((conv => whnf); (first
       | (refine Br_true (Nat.ble_eq_true_of_le (by rw [hTl]; simp; omega)) ?_)
       | (refine Br_true (Nat.ble_eq_true_of_le (by rw [splice_length, hTl]; simp; omega)) ?_)
       | (refine Br_true (decide_eq_true (by omega)) ?_)
       | (refine W_draw 1 tt_ok mixed (by kernel_rfl) ?_)
       | (refine Cell_in _ g3 ?_)
       | (refine Cell_in _ g6 ?_)
       | (refine CallP_in _ (fun K' hK' => oc _ K' hK') ?_)
       | (refine CallP_in [] (fun K' hK' => Fn.use (clone_attrs _ hmk.2) rfl rfl hK') ?_)
       | (refine Back_in _ _ ⟨k + 1, _, _, by omega, rfl, fun h => by omega, fun h => ⟨e _, rfl⟩, rfl⟩ (by omega) (Wk_env (by repeat (first | exact trivial | refine ⟨rfl, ?_⟩))))
       | (refine ArK_in (wrap_i64 (by omega) (by omega)) ?_)))
theorem ren_tabK (g : Nat → Nat) (t : Tree) (n : Nat) (c : AV) : renL g (tabK t n c) = tabK t n (ren g c) := by
  unfold tabK tabT; rw [renL_set, renL_d]
theorem copyK_call (t : Tree) (n : Int) (h : isN t n = true) (hs : SmallT t) {H : Heap} {K : AV → Heap → Prop}
    (hK : K (.msl H.length 0 t.length t.length 7) (H ++ (some (.row (tabK t n.toNat (kiC (nd t n).kids (H.length + 1)))) :: kiH (nd t n).kids))) : Tri Tryz.prog 74 [.d (treeD t)] H K := by
  obtain ⟨hl, hn⟩ := nd_get h
  have hcopy := copy_ownK t n.toNat hl hs
  have en : t[n.toNat] = nd t n := by
    obtain ⟨_, e⟩ := List.getElem?_eq_some_iff.1 hn; exact e
  rw [en] at hcopy
  by_cases hnil : (nd t n).kids = []
  · have ec : ∀ b, kiC (nd t n).kids b = .esl := fun b => by unfold kiC; rw [if_pos hnil]
    have eh : kiH (nd t n).kids = [] := by unfold kiH; rw [if_pos hnil]
    rw [ec, eh] at hcopy hK
    refine Tri.call hcopy [] rfl rfl trivial rfl rfl rfl rfl (r := .msl H.length 0 t.length t.length 7) (by simp [ren, hmap_nil]) (by rw [patch_nil]; simp only [renH, List.map_cons, List.map_nil, Option.map, renB, ren_tabK, ren]) hK
  · have ec : ∀ b, kiC (nd t n).kids b = .msl b 0 (nd t n).kids.length (nd t n).kids.length 1 := fun b => by unfold kiC; rw [if_neg hnil]
    have eh : kiH (nd t n).kids = [some (.row ((nd t n).kids.map AV.i))] := by unfold kiH; rw [if_neg hnil]
    rw [ec, eh] at hcopy hK
    refine Tri.call hcopy [] rfl rfl trivial rfl rfl rfl rfl (r := .msl H.length 0 t.length t.length 7) (by simp [ren, hmap_nil]) (by rw [patch_nil]; simp only [renH, List.map_cons, List.map_nil, Option.map, renB, ren_tabK, ren, hmap_nil, renL_i]) hK
end Go.Eng
set_option maxRecDepth 100000
set_option linter.unusedVariables false
set_option linter.unusedSimpArgs false
namespace Go.Eng
open Go Go.Proofs
theorem ins_esl (x : Int) (a b d : Option Blk) (K : AV → Heap → Prop) (hK : K (.msl 3 0 1 1 1) [a, b, d, some (.row ([x].map AV.i))]) :
    Tri Tryz.prog 169 [.esl, .i 0, .d (ints [x])] [a, b, d] K := by
  refine Tri_of (m := 3) tt_ok Tryz.func169 rfl (by decide) Tryz.ntmps169 (by rfl) rfl ?_
  repeat' ((conv => whnf); (first
   | (refine Len_in (fun hlen => ?_))
   | (refine Need_in ⟨rfl, rfl⟩ ?_)
   | (refine App_esl [[.int .i64 x]] rfl rfl (by simp) (by simp) (by simp) (Nat.le_of_ble_eq_true rfl) ?_)
   | (refine finQ ?_)))
  exact hK
theorem ins_own (l : List Int) (x : Int) (hne : l ≠ []) (hl : l.length ≤ 1000) (a b d : Option Blk) (K : AV → Heap → Prop) (hK : K (.msl 4 0 (l.length + 1) (l.length + 1) 1) [a, b, none, d, some (.row ((l ++ [x]).map AV.i))]) :
    Tri Tryz.prog 169 [.msl 2 0 l.length l.length 1, .i l.length, .d (ints [x])] [a, b, some (.row (l.map AV.i)), d] K := by
  refine Tri_of (m := 4) tt_ok Tryz.func169 rfl (by decide) Tryz.ntmps169 (by rfl) rfl ?_
  have e : (l.map intCs).length = l.length := by simp
  have hb : some (some (Blk.row (l.map AV.i))) = some (some (.row ((l.map intCs).flatten.map .d))) := by rw [intsA]
  have hr : ((l.map intCs ++ [[D.int .i64 x]]).flatten).map AV.d = (l ++ [x]).map AV.i := by rw [← intsA]; simp [intCs]
  rw [← hr, ← e] at hK
  repeat' ((conv => whnf); (first
   | (refine App_msl (l.map intCs) [[.int .i64 x]] (by simpa using hne) (by simp) hb rfl rfl rfl (by simp) cs1 (by simp) (by simp; omega) (Nat.le_of_ble_eq_true rfl) ?_)
   | (refine Br_true (beqT (by omega)) ?_)
   | (refine Len_in (fun hlen => ?_))
   | (refine Ch_r (Need_in ⟨by omega, rfl, by omega⟩ ?_))
   | (refine finQ ?_)))
  exact hK
def putKid (t : Tree) (a b : Int) : Tree := (t.set a.toNat { nd t a with kids := (nd t a).kids ++ [b] }).set b.toNat { nd t b with parent := a }
theorem flat_put {t : Tree} {n : Int} (h : isN t n = true) (x : Node) (j : Nat) (d : D) (hj : j < 7) (hx : x.cs = (nd t n).cs.set j d) : ((t.set n.toNat x).map Node.cs).flatten = ((t.map Node.cs).flatten).set (n.toNat * 7 + j) d := by
  have := splice_flat (t.map Node.cs) n.toNat j (nd t n).cs d cs7 (nd_row h) hj
  simp only [splice] at this
  rw [← List.map_set] at this
  rw [List.map_set, hx]
  exact (map_d_inj this).symm
theorem nd_set {t : Tree} {a b : Int} (x : Node) (h : a.toNat ≠ b.toNat) : nd (t.set a.toNat x) b = nd t b := by
  unfold nd
  rw [List.getD_eq_getElem?_getD, List.getD_eq_getElem?_getD, List.getElem?_set_ne h]
theorem isN_set {t : Tree} {a b : Int} (x : Node) : isN (t.set a.toNat x) b = isN t b := by
  unfold isN; rw [List.length_set]
theorem flat_putKid {t : Tree} {a b : Int} (ha : isN t a = true) (hb : isN t b = true) (hab : a ≠ b) :
    ((putKid t a b).map Node.cs).flatten = (((t.map Node.cs).flatten).set (a.toNat * 7 + 3) (ints ((nd t a).kids ++ [b]))).set (b.toNat * 7 + 2) (.int .i64 a) := by
  have h1 := nd_pos ha
  have h2 := nd_pos hb
  unfold putKid
  rw [flat_put (t := t.set a.toNat _) (n := b) (by rw [isN_set]; exact hb) _ 2 (.int .i64 a) (by omega) (by rw [nd_set _ (by omega)]; rfl), flat_put ha _ 3 (ints ((nd t a).kids ++ [b])) (by omega) rfl]
def tabP (t : Tree) (a b : Int) (c : AV) : List AV := splice (tabK t a.toNat c) (0 + b.toNat * 7 + 2) [.i a]
theorem FV_tabP {t : Tree} {a b : Int} (ha : isN t a = true) (hb : isN t b = true) (hab : a ≠ b) {H : Heap} {p q : Nat} (h0 : H[p]? = some (some (.row (tabP t a b (.msl q 0 ((nd t a).kids.length + 1) ((nd t a).kids.length + 1) 1)))))
    (hq : H[q]? = some (some (.row (((nd t a).kids ++ [b]).map AV.i)))) : FV [] [p, q] H (.msl p 0 t.length t.length 7) (.d (treeD (putKid t a b))) := by
  have hlp : (putKid t a b).length = t.length := by unfold putKid; simp
  refine .frz p 0 _ _ 7 (tabP t a b (.msl q 0 ((nd t a).kids.length + 1) ((nd t a).kids.length + 1) 1)) ((putKid t a b).map Node.cs) (by simp) (by unfold rowOf; rw [h0]) (by rw [List.length_map, hlp]) cs7 (by unfold tabP; rw [splice_length, tabK_len]; omega) fun i x y hi hx hy => ?_
  rw [flat_putKid ha hb hab] at hy
  unfold tabP tabK tabT at hx
  simp only [splice] at hx
  simp only [Nat.zero_add] at hx
  rw [List.getElem?_set] at hx hy
  have hll : (((t.map Node.cs).flatten.map AV.d).set (a.toNat * 7 + 3) (.msl q 0 ((nd t a).kids.length + 1) ((nd t a).kids.length + 1) 1)).length = (((t.map Node.cs).flatten).set (a.toNat * 7 + 3) (ints ((nd t a).kids ++ [b]))).length := by rw [List.length_set, List.length_set, List.length_map]
  rw [hll] at hx
  by_cases e2 : b.toNat * 7 + 2 = i
  · rw [if_pos e2] at hx hy
    split at hx
    · rename_i hlt
      rw [if_pos hlt] at hy
      injection hx with hx
      injection hy with hy
      subst hx hy
      exact .same _ rfl
    · simp at hx
  rw [if_neg e2] at hx hy
  rw [List.getElem?_set] at hx hy
  rw [List.length_map] at hx
  by_cases e3 : a.toNat * 7 + 3 = i
  · rw [if_pos e3] at hx hy
    split at hx
    · rename_i hlt
      rw [if_pos hlt] at hy
      injection hx with hx
      injection hy with hy
      subst hx hy
      refine .frz q 0 _ _ 1 (((nd t a).kids ++ [b]).map AV.i) (((nd t a).kids ++ [b]).map intCs) (by simp) (by unfold rowOf; rw [hq]) (by simp) cs1 (by simp) fun i x y hi hx hy => ?_
      rw [Nat.zero_add, ← intsA, List.getElem?_map, hy] at hx
      simp at hx
      subst hx
      exact .same _ rfl
    · simp at hx
  rw [if_neg e3] at hx hy
  rw [List.getElem?_map, hy] at hx
  simp at hx
  subst hx
  exact .same _ rfl
end Go.Eng
set_option maxRecDepth 100000
set_option linter.unusedVariables false
set_option linter.unusedSimpArgs false
namespace Go.Eng
open Go Go.Proofs
def insOk (t : Tree) (a b : Int) : Bool :=
  mayB t && isN t a && isN t b && decide ((nd t a).kind ≠ 2) && decide ((nd t b).kind ≠ 0) && decide ((nd t b).kind ≠ 3) && ((climb t (t.length + 1) a).all fun x => decide (x ≠ b)) && decide ((nd t b).parent = -1) && decide (a ≠ b) && ((nd t a).kids.all fun x => decide (0 ≤ x))
theorem kids_none {l : List Int} (h : ∀ x ∈ l, 0 ≤ x) : ix (· == -1) l = -1 := by
  induction l with
  | nil => rfl
  | cons a r ih =>
    have h1 := h a (by simp)
    have h2 := ih fun x hx => h x (by simp [hx])
    simp only [ix]
    rw [if_neg (by simp; omega), h2]
    rfl
theorem FV_kidsO {l : List Int} {H : Heap} {q : Nat} (hq : H[q]? = some (some (.row (l.map AV.i)))) : FV [] [q] H (.msl q 0 l.length l.length 1) (.d (ints l)) :=
  FV_tab (cs := l.map AV.i) (l.map intCs) (by unfold rowOf; rw [hq]) (intsA l).symm (by simp) cs1
theorem tabK_get3 (t : Tree) (n : Nat) (c : AV) (h : n < t.length) : (tabK t n c)[0 + n * 7 + 3]? = some c := by
  rw [show 0 + n * 7 + 3 = n * 7 + 3 by omega]
  unfold tabK
  exact List.getElem?_set_self (by rw [tabT_len]; omega)
theorem tabK_set (t : Tree) (n : Nat) (c d : AV) : splice (tabK t n c) (0 + n * 7 + 3) [d] = tabK t n d := by
  unfold tabK
  simp only [splice]
  rw [show 0 + n * 7 + 3 = n * 7 + 3 by omega, List.set_set]
theorem tabK_par {t : Tree} {a b : Int} (hb : isN t b = true) (c : AV) : (tabK t a.toNat c)[0 + b.toNat * 7 + 2]? = some (.i (nd t b).parent) := by
  obtain ⟨hl, hn⟩ := nd_get hb
  obtain ⟨_, en⟩ := List.getElem?_eq_some_iff.1 hn
  unfold tabK
  rw [show 0 + b.toNat * 7 + 2 = b.toNat * 7 + 2 by omega, List.getElem?_set_ne (by omega)]
  exact tabT_get t b.toNat 2 hl (.int .i64 (nd t b).parent) (by rw [en]; rfl) (by omega)
theorem tree_Insert (t : Tree) (a b : Int) (hs : SmallT t) (ho : insOk t a b = true) : Fn Tryz.prog 106 [.d (treeD t), aggD [.int .i64 a, .int .i64 b, .int .i64 (-1)]] (.tup [.d (treeD (putKid t a b)), .i 0]) := by
  unfold insOk at ho
  simp only [Bool.and_eq_true, decide_eq_true_eq, List.all_eq_true] at ho
  obtain ⟨⟨⟨⟨⟨⟨⟨⟨⟨hm, ha⟩, hb⟩, k1⟩, k2⟩, k3⟩, hcl⟩, hpar⟩, hab⟩, hkid⟩ := ho
  have hM := tree_may t
  rw [hm] at hM
  have hw := tree_wrong t a b hm ha hb k1 k2 k3 hcl
  obtain ⟨hla, hna⟩ := nd_get ha
  obtain ⟨hlb, hnb⟩ := nd_get hb
  have pa := nd_pos ha
  have pb := nd_pos hb
  have hk1000 := (hs.2 _ (nd_mem ha)).1
  have hix := kids_none hkid
  have hIx := index_int (nd t a).kids (-1)
  rw [hix] at hIx
  have hcp := fun {H : Heap} {K : AV → Heap → Prop} hK => copyK_call t a ha hs (H := H) (K := K) hK
  have ba : 0 ≤ a ∧ a < (t.length : Int) := ⟨pa, by omega⟩
  have bb : 0 ≤ b ∧ b < (t.length : Int) := ⟨pb, by omega⟩
  refine Fn_of tt_ok Tryz.func106 rfl (by decide) Tryz.ntmps106 rfl ?_
  by_cases hnil : (nd t a).kids = []
  · have ec : ∀ x, kiC (nd t a).kids x = .esl := fun x => by unfold kiC; rw [if_pos hnil]
    have eh : kiH (nd t a).kids = [] := by unfold kiH; rw [if_pos hnil]
    rw [eh] at hcp
    simp only [ec] at hcp
    have gp := tabK_par (a := a) hb .esl
    rw [hpar] at gp
    have g3 := tabK_get3 t a.toNat .esl hla
    have hpeek : ∀ (H : Heap) (K : AV → Heap → Prop), K (.i (-1)) H → Tri Tryz.prog 168 [.esl, .i (-1)] H K := fun H K hK =>
      Tri.peek hIx rfl [] rfl (fun i x y hx hy => by
        match i with
        | 0 => simp at hx hy; subst hx hy; rw [hnil]; exact .esl
        | 1 => simp at hx hy; subst hx hy; exact .same _ rfl
        | i + 2 => simp at hx) hK
    have hb1 : some (some (Blk.row (splice (splice (tabK t a.toNat .esl) (0 + a.toNat * 7 + 3) [.msl 3 0 1 1 1]) (0 + b.toNat * 7 + 2) [.i a]))) = some (some (.row (tabP t a b (.msl 3 0 ((nd t a).kids.length + 1) ((nd t a).kids.length + 1) 1)))) := by
      unfold tabP; rw [tabK_set, hnil]; rfl
    have hb2 : some (some (Blk.row ([b].map AV.i))) = some (some (.row (((nd t a).kids ++ [b]).map AV.i))) := by rw [hnil]; rfl
    repeat' ((conv => whnf); (first
     | (refine finD (F := [1, 3]) (FV_tup2 (FV_tabP ha hb hab (p := 1) (q := 3) hb1 hb2) (.same _ rfl)))
     | (refine Br_false (beqF (by omega : (-1 : Int) ≠ b)) ?_)
     | (refine W_float (id := 13) 2 0 3 tt_ok mixed (by kernel_rfl) ?_)
     | (refine And.intro (fun _ => rfl) ?_)
     | (refine Br_true (Nat.ble_eq_true_of_le (by rw [tabK_len]; simp; omega)) ?_)
     | (refine Br_true (Nat.ble_eq_true_of_le (by rw [splice_length, tabK_len]; simp; omega)) ?_)
     | (refine Br_true (decide_eq_true (by omega)) ?_)
     | (refine Fn.use (hM) rfl rfl ?_)
     | (refine Fn.use (hw) rfl rfl ?_)
     | (refine hcp ?_)
     | (refine Cell_in _ gp ?_)
     | (refine Cell_in _ g3 ?_)
     | (refine Tri_of tt_ok Tryz.func167 rfl (by decide) Tryz.ntmps167 rfl rfl ?_)
     | (refine finQ ?_)
     | (refine W_draw 2 tt_ok mixed (by kernel_rfl) ?_)
     | (refine CallH_in _ (Nat.le_refl _) (fun K' hK' => hpeek _ K' hK') ?_)
     | (refine CallH_in _ (Nat.le_of_ble_eq_true rfl) (fun K' hK' => ins_esl b _ _ _ K' hK') ?_)))
  · have ec : ∀ x, kiC (nd t a).kids x = .msl x 0 (nd t a).kids.length (nd t a).kids.length 1 := fun x => by unfold kiC; rw [if_neg hnil]
    have eh : kiH (nd t a).kids = [some (.row ((nd t a).kids.map AV.i))] := by unfold kiH; rw [if_neg hnil]
    rw [eh] at hcp
    simp only [ec] at hcp
    have gp := tabK_par (a := a) hb (.msl 2 0 (nd t a).kids.length (nd t a).kids.length 1)
    rw [hpar] at gp
    have g3 := tabK_get3 t a.toNat (.msl 2 0 (nd t a).kids.length (nd t a).kids.length 1) hla
    have hpeek : ∀ (H : Heap) (K : AV → Heap → Prop), H[2]? = some (some (.row ((nd t a).kids.map AV.i))) → K (.i (-1)) H → Tri Tryz.prog 168 [.msl 2 0 (nd t a).kids.length (nd t a).kids.length 1, .i (-1)] H K := fun H K hH hK =>
      Tri.peek hIx rfl [2] rfl (fun i x y hx hy => by
        match i with
        | 0 => simp at hx hy; subst hx hy; exact FV_kidsO hH
        | 1 => simp at hx hy; subst hx hy; exact .same _ rfl
        | i + 2 => simp at hx) hK
    have hb1 : some (some (Blk.row (splice (splice (tabK t a.toNat (.msl 2 0 (nd t a).kids.length (nd t a).kids.length 1)) (0 + a.toNat * 7 + 3) [.msl 4 0 ((nd t a).kids.length + 1) ((nd t a).kids.length + 1) 1]) (0 + b.toNat * 7 + 2) [.i a]))) = some (some (.row (tabP t a b (.msl 4 0 ((nd t a).kids.length + 1) ((nd t a).kids.length + 1) 1)))) := by
      unfold tabP; rw [tabK_set]
    repeat' ((conv => whnf); (first
     | (refine finD (F := [1, 4]) (FV_tup2 (FV_tabP ha hb hab (p := 1) (q := 4) hb1 rfl) (.same _ rfl)))
     | (refine Br_false (beqF (by omega : (-1 : Int) ≠ b)) ?_)
     | (refine W_float (id := 13) 2 0 3 tt_ok mixed (by kernel_rfl) ?_)
     | (refine And.intro (fun _ => rfl) ?_)
     | (refine Br_true (Nat.ble_eq_true_of_le (by rw [tabK_len]; simp; omega)) ?_)
     | (refine Br_true (Nat.ble_eq_true_of_le (by rw [splice_length, tabK_len]; simp; omega)) ?_)
     | (refine Br_true (decide_eq_true (by omega)) ?_)
     | (refine Len_in (fun hlen => ?_))
     | (refine Fn.use (hM) rfl rfl ?_)
     | (refine Fn.use (hw) rfl rfl ?_)
     | (refine hcp ?_)
     | (refine Cell_in _ gp ?_)
     | (refine Cell_in _ g3 ?_)
     | (refine Tri_of tt_ok Tryz.func167 rfl (by decide) Tryz.ntmps167 rfl rfl ?_)
     | (refine finQ ?_)
     | (refine W_draw 2 tt_ok mixed (by kernel_rfl) ?_)
     | (refine CallH_in _ (Nat.le_refl _) (fun K' hK' => hpeek _ K' rfl hK') ?_)
     | (refine CallH_in _ (Nat.le_of_ble_eq_true rfl) (fun K' hK' => ins_own (nd t a).kids b hnil hk1000 _ _ _ K' hK') ?_)))
end Go.Eng
set_option maxRecDepth 100000
set_option linter.unusedVariables false
set_option linter.unusedSimpArgs false
namespace Go.Eng
open Go Go.Proofs
def lev : Nat → PS → Hear → Option Ans
  | 0 => fun _ _ => none
  | n + 1 => callG (stepG (giveG (toG (fireG (lev n)))))
theorem lev_C : ∀ n, CallC (lev n)
  | 0 => by intro s h s' b1 b2 b3 hs; simp [lev] at hs
  | n + 1 => page_call _ (page_step _ (page_give _ (page_to _ (page_fire _ (lev_C n)))))
def giveN (n : Nat) : PS → Int → Option (PS × Int) := giveG (toG (fireG (lev n)))
theorem giveN_C (n : Nat) : GiveC (giveN n) := page_give _ (page_to _ (page_fire _ (lev_C n)))
theorem page_Rows (s : PS) (hl : s.rows.length ≤ 90000) : Tri Tryz.prog 19 [.ptr 0 0] (pgI s) fun v H => v = .d (.sl (rowsP s)) ∧ H = pgI s := by
  refine Tri_of (m := 3) tt_ok Tryz.func19 rfl (by decide) Tryz.ntmps19 (by rfl) rfl ?_
  have hrl : (rowsP s).length ≤ 90000 := by simpa using hl
  by_cases h0 : rowsP s = []
  · have e1 : AccV 1 8 (rowsP s) = .nsl := by rw [h0, AccV_nil]
    repeat' ((conv => whnf); (first
     | (refine Tri_of tt_ok Tryz.func51 rfl (by decide) Tryz.ntmps51 rfl rfl ?_)
     | (refine force_in ?_)))
    rw [e1]
    repeat' ((conv => whnf); (first
     | (refine finPI [] rfl rfl rfl rfl (by rw [h0]; exact .nsl))
     | (refine finQ ?_)))
  · have e1 : AccV 1 8 (rowsP s) = .msl 1 0 (rowsP s).length (rowsP s).length 8 := AccV_cons h0
    have e2 : AccB (rowsP s) = some (.row ((rowsP s).flatten.map .d)) := AccB_cons h0
    have hfv : ∀ H : Heap, H[3]? = some (some (.row ((rowsP s).flatten.map .d))) → FV [0, 1, 2] [3] H (.msl 3 0 (rowsP s).length (rowsP s).length 8) (.d (.sl (rowsP s))) := fun H hH =>
      .frz 3 0 _ _ 8 ((rowsP s).flatten.map .d) (rowsP s) (by simp) (by unfold rowOf; rw [hH]) rfl cs8p (by have e := flatten_len (rowsP s) cs8p; have e2 : ((rowsP s).flatten.map AV.d).length = (rowsP s).flatten.length := List.length_map _; show 0 + (rowsP s).length * 8 ≤ _; omega) fun i x y hi hx hy => by
        rw [Nat.zero_add, List.getElem?_map, hy] at hx
        simp at hx
        subst hx
        exact .same _ rfl
    repeat' ((conv => whnf); (first
     | (refine Tri_of tt_ok Tryz.func51 rfl (by decide) Tryz.ntmps51 rfl rfl ?_)
     | (refine force_in ?_)))
    rw [e1]
    skip
    refine Ch_r ?_
    skip
    refine App_esl (rowsP s) rfl ?_ h0 cs8p (by omega) (Nat.le_of_ble_eq_true rfl) ?_
    · have hfl : ((rowsP s).flatten.map AV.d).length = (rowsP s).length * 8 := by rw [List.length_map, flatten_len (rowsP s) cs8p]
      refine (newCells_msl (cs := (rowsP s).flatten.map .d) (congrArg some e2) (by rw [hfl]; show 0 + (rowsP s).length * 8 ≤ (rowsP s).length * 8; omega)).trans ?_
      congr 1
      unfold sub
      rw [List.drop_zero]
      exact List.take_of_length_le (by rw [hfl]; exact Nat.le_refl _)
    repeat' ((conv => whnf); (first
     | (refine finPI [3] rfl rfl rfl rfl (hfv _ rfl))
     | (refine finQ ?_)))
theorem op_make (s : PS) (d a b c : Int) (fl : Bool) (p : List Step) (hs : SmallT s.tree) : Tri Tryz.prog 98 [.ptr 0 0, aggD (opC d a b c fl p)] (pgI s) fun v H =>
    v = .tup [.i (madeR s (makeR s.tree a b).1 (makeR s.tree a b).2.1 (makeR s.tree a b).2.2).2.1, .i (madeR s (makeR s.tree a b).1 (makeR s.tree a b).2.1 (makeR s.tree a b).2.2).2.2] ∧ H = pgO (madeR s (makeR s.tree a b).1 (makeR s.tree a b).2.1 (makeR s.tree a b).2.2).1 := by
  refine Tri_of (m := 3) tt_ok Tryz.func98 rfl (by decide) Tryz.ntmps98 (by rfl) rfl ?_
  have h1 := tree_Make s.tree a b hs
  generalize makeR s.tree a b = q at *
  have h2 := page_made s q.1 q.2.1 q.2.2
  have hr : (madeR s q.1 q.2.1 q.2.2).1.rows = s.rows := by unfold madeR; split <;> (try split) <;> rfl
  generalize madeR s q.1 q.2.1 q.2.2 = r at *
  have hA : AccB (rowsP s) = AccB (rowsP r.1) := by unfold rowsP; rw [hr]
  repeat' ((conv => whnf); (first
   | (refine finPO 1 [] (by decide) (by decide) rfl (congrArg some hA) rfl rfl (FV_tups ⟨.same _ rfl, .same _ rfl, trivial⟩))
   | (refine W_draw (100 + 4) tt_ok mixed (by kernel_rfl) ?_)
   | (refine CallF_in h1 rfl rfl ?_)
   | (refine CallH_in [some (.row (pgC r.1 1 2)), AccB (rowsP s), some (.mp [] []), some (.row ((opC d a b c fl p).map .d))] (Nat.le_of_ble_eq_true rfl) (fun K' hK' => Tri.pgS 0 1 2 h2 hr rfl rfl rfl (by decide) (by decide) (by decide) rfl rfl rfl hK') ?_)))
theorem op_insert (s : PS) (d a b : Int) (fl : Bool) (p : List Step) (hs : SmallT s.tree) (ho : insOk s.tree a b = true) (hm : mayB (putKid s.tree a b) = true) (hs2 : SmallT (putKid s.tree a b)) :
    Tri Tryz.prog 104 [.ptr 0 0, aggD (opC d a b (-1) fl p)] (pgI s) fun v H => v = .i 0 ∧ H = pgO { s with tree := putKid s.tree a b } := by
  refine Tri_of (m := 3) tt_ok Tryz.func104 rfl (by decide) Tryz.ntmps104 (by rfl) rfl ?_
  have h1 := tree_Insert s.tree a b hs ho
  have h2 := page_turn s (putKid s.tree a b) 0 (fun _ => hm) (fun _ => hs2)
  have e : turnR s (putKid s.tree a b) 0 = ({ s with tree := putKid s.tree a b }, 0) := rfl
  rw [e] at h2
  generalize putKid s.tree a b = t2 at *
  repeat' ((conv => whnf); (first
   | (refine finPO (s := { s with tree := t2 }) 1 [] (by decide) (by decide) rfl rfl rfl rfl (.same _ rfl))
   | (refine W_draw (106 + 4) tt_ok mixed (by kernel_rfl) ?_)
   | (refine CallF_in h1 rfl rfl ?_)
   | (refine CallH_in [some (.row (pgC { s with tree := t2 } 1 2)), AccB (rowsP s), some (.mp [] []), some (.row ((opC d a b (-1) fl p).map .d))] (Nat.le_of_ble_eq_true rfl) (fun K' hK' => Tri.pgS 0 1 2 h2 rfl rfl rfl rfl (by decide) (by decide) (by decide) rfl rfl rfl hK') ?_)))
theorem op_prog (s : PS) (d a b c : Int) (fl : Bool) (p : List Step) (hp : s.progs = []) : Tri Tryz.prog 113 [.ptr 0 0, aggD (opC d a b c fl p)] (pgI s) fun v H =>
    v = .tup [.i (progR s p).2.1, .i (progR s p).2.2] ∧ H = pgO (progR s p).1 := by
  refine Tri_of (m := 3) tt_ok Tryz.func113 rfl (by decide) Tryz.ntmps113 (by rfl) rfl ?_
  have h2 := page_program s p hp
  have hr : (progR s p).1.rows = s.rows := by unfold progR; split <;> rfl
  generalize progR s p = r at *
  have hA : AccB (rowsP s) = AccB (rowsP r.1) := by unfold rowsP; rw [hr]
  repeat' ((conv => whnf); (first
   | (refine finPO 1 [] (by decide) (by decide) rfl (congrArg some hA) rfl rfl (FV_tups ⟨.same _ rfl, .same _ rfl, trivial⟩))
   | (refine Tri.pgS 0 1 2 h2 hr rfl rfl rfl (by decide) (by decide) (by decide) rfl rfl rfl ?_)))
theorem op_hear (s : PS) (d a b c : Int) (fl : Bool) (p : List Step) (hl : s.hears.length ≤ 1000) (hp : s.progs.length ≤ 64) : Tri Tryz.prog 115 [.ptr 0 0, aggD (opC d a b c fl p)] (pgI s) fun v H =>
    v = .i (hearR s a b c fl).2 ∧ H = pgO (hearR s a b c fl).1 := by
  refine Tri_of (m := 3) tt_ok Tryz.func115 rfl (by decide) Tryz.ntmps115 (by rfl) rfl ?_
  have h2 := page_hear s d a b c fl p hl hp
  have hr : (hearR s a b c fl).1.rows = s.rows := by unfold hearR; split <;> (try split) <;> rfl
  generalize hearR s a b c fl = r at *
  have hA : AccB (rowsP s) = AccB (rowsP r.1) := by unfold rowsP; rw [hr]
  repeat' ((conv => whnf); (first
   | (refine finPO 1 [] (by decide) (by decide) rfl (congrArg some hA) rfl rfl (.same _ rfl))
   | (refine Tri.pgS 0 1 2 h2 hr rfl rfl rfl (by decide) (by decide) (by decide) rfl rfl rfl ?_)))
theorem op_give (n : Nat) (s s' : PS) (d a b c e : Int) (fl : Bool) (p : List Step) (hg : giveN n s a = some (s', e)) : Tri Tryz.prog 121 [.ptr 0 0, aggD (opC d a b c fl p)] (pgI s) fun v H => v = .i e ∧ H = pgO s' := by
  refine Tri_of (m := 3) tt_ok Tryz.func121 rfl (by decide) Tryz.ntmps121 (by rfl) rfl ?_
  have h2 := giveN_C n _ _ _ _ hg
  repeat' ((conv => whnf); (first
   | (refine finPO 4 [] (by decide) (by decide) rfl rfl rfl rfl (.same _ rfl))
   | (refine Tri.pg 0 1 2 4 rfl h2 rfl rfl rfl (by decide) (by decide) (by decide) rfl rfl rfl ?_)))
end Go.Eng
set_option maxRecDepth 100000
set_option linter.unusedVariables false
set_option linter.unusedSimpArgs false
namespace Go.Eng
open Go Go.Proofs
def opsH : Heap := [some (.mp [0, 1, 2, 3, 4, 5, 6, 7, 8, 9, 10, 11, 12, 13, 14, 15, 16, 17, 18, 19, 20, 21] [.d (.fn 98), .d (.fn 101), .clos (.func 163) [] [.ptr 5 0], .clos (.func 163) [] [.ptr 6 0], .clos (.func 163) [] [.ptr 7 0], .clos (.func 163) [] [.ptr 8 0], .d (.fn 113), .clos (.func 163) [] [.ptr 9 0], .clos (.func 163) [] [.ptr 10 0], .clos (.func 163) [] [.ptr 11 0], .clos (.func 163) [] [.ptr 12 0], .clos (.func 163) [] [.ptr 13 0], .clos (.func 163) [] [.ptr 14 0], .d (.fn 127), .clos (.func 163) [] [.ptr 15 0], .clos (.func 163) [] [.ptr 16 0], .clos (.func 163) [] [.ptr 17 0], .clos (.func 163) [] [.ptr 18 0], .clos (.func 163) [] [.ptr 19 0], .clos (.func 163) [] [.ptr 20 0], .d (.fn 141), .clos (.func 163) [] [.ptr 21 0]]), some (.row [.d (.fn 104)]), some (.row [.d (.fn 107)]), some (.row [.d (.fn 109)]), some (.row [.d (.fn 111)]), some (.row [.d (.fn 115)]), some (.row [.d (.fn 118)]), some (.row [.d (.fn 120)]), some (.row [.d (.fn 121)]), some (.row [.d (.fn 123)]), some (.row [.d (.fn 125)]), some (.row [.d (.fn 129)]), some (.row [.d (.fn 131)]), some (.row [.d (.fn 133)]), some (.row [.d (.fn 135)]), some (.row [.d (.fn 137)]), some (.row [.d (.fn 139)]), some (.row [.d (.fn 143)])]
set_option maxHeartbeats 1000000 in
theorem ops_run (A B C D : Option Blk) (K : AV → Heap → Prop) (hK : K (.mp 4) ([A, B, C, D] ++ opsH)) : Tri Tryz.prog 73 [] [A, B, C, D] K := by
  refine Tri_of (m := 4) tt_ok Tryz.func73 rfl (by decide) Tryz.ntmps73 (by rfl) rfl ?_
  repeat' ((conv => whnf); (first
   | (refine Tri_of tt_ok Tryz.func103 rfl (by decide) Tryz.ntmps103 rfl rfl ?_)
   | (refine finQ ?_)))
  refine Eq.mp (?_ : K (.mp 4) ([A, B, C, D] ++ opsH) = _) hK
  kernel_rfl
def smB (t : Tree) : Bool := Nat.ble t.length 1000 && t.all fun x => Nat.ble x.kids.length 1000 && Nat.ble x.attrs.length 1000
theorem smB_of {t : Tree} (h : smB t = true) : SmallT t := by
  unfold smB at h
  simp only [Bool.and_eq_true, List.all_eq_true] at h
  exact ⟨Nat.le_of_ble_eq_true h.1, fun x hx => ⟨Nat.le_of_ble_eq_true (h.2 x hx).1, Nat.le_of_ble_eq_true (h.2 x hx).2⟩⟩
def opG (n : Nat) (s : PS) (d a b c : Int) (fl : Bool) (p : List Step) : Option (PS × Int × Int) :=
  if d = 0 then (if smB s.tree then some (madeR s (makeR s.tree a b).1 (makeR s.tree a b).2.1 (makeR s.tree a b).2.2) else none)
  else if d = 2 then (if decide (c = -1) && smB s.tree && insOk s.tree a b && mayB (putKid s.tree a b) && smB (putKid s.tree a b) then some ({ s with tree := putKid s.tree a b }, 0, 0) else none)
  else if d = 6 then (if s.progs.isEmpty then some (progR s p) else none)
  else if d = 7 then (if Nat.ble s.hears.length 1000 && Nat.ble s.progs.length 64 then some ((hearR s a b c fl).1, 0, (hearR s a b c fl).2) else none)
  else if d = 10 then (giveN n s a).map fun r => (r.1, 0, r.2)
  else if 0 ≤ d ∧ d ≤ 21 then none else some (s, 0, 12)
def resRow (s : PS) (d k e : Int) : PRow := ⟨3, 0, d, k, s.focus, 0, 0, e⟩
def doG (n : Nat) (s : PS) (d a b c : Int) (fl : Bool) (p : List Step) : Option (PS × Int × Int) :=
  match opG n { s with fuel := s.fuelM } d a b c fl p with
  | none => none
  | some (s', k, e) => if Nat.ble s'.rows.length 900000 then some (addRow s' (resRow s' d k e), k, e) else none
theorem lkV_none : ∀ (ks : List Int) (vs : List AV) (d : Int), (∀ k ∈ ks, d ≠ k) → lkV ks vs d = none
  | [], _, _, _ => rfl
  | _ :: _, [], _, _ => rfl
  | k :: t, x :: xs, d, h => by
    simp only [lkV, decide_eq_false (h k (by simp))]
    exact lkV_none t xs d fun k hk => h k (by simp [hk])
theorem ops_no (d : Int) (h : ¬ (0 ≤ d ∧ d ≤ 21)) (vs : List AV) (hv : vs.length = 22) : lkV [0, 1, 2, 3, 4, 5, 6, 7, 8, 9, 10, 11, 12, 13, 14, 15, 16, 17, 18, 19, 20, 21] vs d = none :=
  lkV_none _ _ _ fun k hk e => by
    subst e
    simp only [List.mem_cons, List.not_mem_nil, or_false] at hk
    omega
set_option maxHeartbeats 1000000 in
theorem page_Do (n : Nat) (s s' : PS) (d a b c k e : Int) (fl : Bool) (p : List Step) (hd : doG n s d a b c fl p = some (s', k, e)) :
    Tri Tryz.prog 52 [.ptr 0 0, aggD (opC d a b c fl p)] (pgI s) fun v H => v = .tup [.i k, .i e] ∧ H = pgO s' := by
  unfold doG at hd
  cases ho : opG n { s with fuel := s.fuelM } d a b c fl p with
  | none => rw [ho] at hd; simp at hd
  | some q =>
  obtain ⟨s1, k1, e1⟩ := q
  rw [ho] at hd
  simp only at hd
  split at hd
  rotate_left
  · simp at hd
  rename_i hrb
  have hrb := Nat.le_of_ble_eq_true hrb
  simp only [Option.some.injEq, Prod.mk.injEq] at hd
  obtain ⟨rfl, rfl, rfl⟩ := hd
  have hlim : (rowsP s1).length + [(resRow s1 d k1 e1).cs].length ≤ 1000000 := by simp only [rowsP, List.length_map, List.length_cons, List.length_nil]; omega
  have hops := fun (A B C D : Option Blk) (K : AV → Heap → Prop) hK => ops_run A B C D K hK
  unfold opG at ho
  refine Tri_of (m := 3) tt_ok Tryz.func52 rfl (by decide) Tryz.ntmps52 (by rfl) rfl ?_
  split at ho
  · rename_i hd0
    subst hd0
    split at ho
    rotate_left
    · simp at ho
    rename_i hsm
    injection ho with ho
    have h1 := op_make { s with fuel := s.fuelM } 0 a b c fl p (smB_of hsm)
    rw [ho] at h1
    repeat' ((conv => whnf); (first
     | (refine finPO 23 [] (by decide) (by decide) (congrArg (fun x => some (some (Blk.row x))) (pgC_add s1 (resRow s1 _ k1 e1) 22 23 2)) (by rw [accB_add]; rfl) rfl rfl (FV_tups ⟨.same _ rfl, .same _ rfl, trivial⟩))
     | (refine App_acc (rowsP s1) [(resRow s1 _ k1 e1).cs] rfl rfl rfl rfl (by simp) cs8p (by intro r hr; simp at hr; subst hr; rfl) hlim (Nat.le_of_ble_eq_true rfl) ?_)
     | (refine W_draw 1 tt_ok mixed (by kernel_rfl) ?_)
     | (refine CallP_in opsH (fun K' hK' => hops _ _ _ _ K' hK') ?_)
     | (refine Lk_some _ rfl ?_)
     | (refine Tri.pg 0 1 2 22 rfl h1 rfl rfl rfl (by decide) (by decide) (by decide) rfl rfl rfl ?_)
     | (refine force_in ?_)))
  split at ho
  · rename_i hd2
    subst hd2
    split at ho
    rotate_left
    · simp at ho
    rename_i hsm
    simp only [Bool.and_eq_true, decide_eq_true_eq] at hsm
    obtain ⟨⟨⟨⟨rfl, q1⟩, q2⟩, q3⟩, q4⟩ := hsm
    injection ho with ho
    have h1 := op_insert { s with fuel := s.fuelM } 2 a b fl p (smB_of q1) q2 q3 (smB_of q4)
    simp only [Prod.mk.injEq] at ho
    obtain ⟨rfl, rfl, rfl⟩ := ho
    generalize putKid s.tree a b = t2 at *
    repeat' ((conv => whnf); (first
     | (refine finPO 24 [] (by decide) (by decide) (congrArg (fun x => some (some (Blk.row x))) (pgC_add { s with fuel := s.fuelM, tree := t2 } (resRow { s with fuel := s.fuelM, tree := t2 } _ 0 0) 23 24 2)) (by rw [accB_add]; rfl) rfl rfl (FV_tups ⟨.same _ rfl, .same _ rfl, trivial⟩))
     | (refine App_acc (rowsP { s with fuel := s.fuelM, tree := t2 }) [(resRow { s with fuel := s.fuelM, tree := t2 } _ 0 0).cs] rfl rfl rfl rfl (by simp) cs8p (by intro r hr; simp at hr; subst hr; rfl) hlim (Nat.le_of_ble_eq_true rfl) ?_)
     | (refine W_draw 1 tt_ok mixed (by kernel_rfl) ?_)
     | (refine CallP_in opsH (fun K' hK' => hops _ _ _ _ K' hK') ?_)
     | (refine Lk_some _ rfl ?_)
     | (refine Tri_of tt_ok Tryz.func163 rfl (by decide) Tryz.ntmps163 rfl rfl ?_)
     | (refine Tri.pg 0 1 2 23 rfl h1 rfl rfl rfl (by decide) (by decide) (by decide) rfl rfl rfl ?_)
     | (refine finQ ?_)
     | (refine force_in ?_)))
  split at ho
  · rename_i hd6
    subst hd6
    split at ho
    rotate_left
    · simp at ho
    rename_i hsm
    injection ho with ho
    have h1 := op_prog { s with fuel := s.fuelM } 6 a b c fl p (List.isEmpty_iff.1 hsm)
    rw [ho] at h1
    repeat' ((conv => whnf); (first
     | (refine finPO 23 [] (by decide) (by decide) (congrArg (fun x => some (some (Blk.row x))) (pgC_add s1 (resRow s1 _ k1 e1) 22 23 2)) (by rw [accB_add]; rfl) rfl rfl (FV_tups ⟨.same _ rfl, .same _ rfl, trivial⟩))
     | (refine App_acc (rowsP s1) [(resRow s1 _ k1 e1).cs] rfl rfl rfl rfl (by simp) cs8p (by intro r hr; simp at hr; subst hr; rfl) hlim (Nat.le_of_ble_eq_true rfl) ?_)
     | (refine W_draw 1 tt_ok mixed (by kernel_rfl) ?_)
     | (refine CallP_in opsH (fun K' hK' => hops _ _ _ _ K' hK') ?_)
     | (refine Lk_some _ rfl ?_)
     | (refine Tri.pg 0 1 2 22 rfl h1 rfl rfl rfl (by decide) (by decide) (by decide) rfl rfl rfl ?_)
     | (refine force_in ?_)))
  split at ho
  · rename_i hd7
    subst hd7
    split at ho
    rotate_left
    · simp at ho
    rename_i hsm
    simp only [Bool.and_eq_true] at hsm
    injection ho with ho
    have h1 := op_hear { s with fuel := s.fuelM } 7 a b c fl p (Nat.le_of_ble_eq_true hsm.1) (Nat.le_of_ble_eq_true hsm.2)
    simp only [Prod.mk.injEq] at ho
    obtain ⟨z1, rfl, z3⟩ := ho
    rw [z1, z3] at h1
    repeat' ((conv => whnf); (first
     | (refine finPO 24 [] (by decide) (by decide) (congrArg (fun x => some (some (Blk.row x))) (pgC_add s1 (resRow s1 _ 0 e1) 23 24 2)) (by rw [accB_add]; rfl) rfl rfl (FV_tups ⟨.same _ rfl, .same _ rfl, trivial⟩))
     | (refine App_acc (rowsP s1) [(resRow s1 _ 0 e1).cs] rfl rfl rfl rfl (by simp) cs8p (by intro r hr; simp at hr; subst hr; rfl) hlim (Nat.le_of_ble_eq_true rfl) ?_)
     | (refine W_draw 1 tt_ok mixed (by kernel_rfl) ?_)
     | (refine CallP_in opsH (fun K' hK' => hops _ _ _ _ K' hK') ?_)
     | (refine Lk_some _ rfl ?_)
     | (refine Tri_of tt_ok Tryz.func163 rfl (by decide) Tryz.ntmps163 rfl rfl ?_)
     | (refine Tri.pg 0 1 2 23 rfl h1 rfl rfl rfl (by decide) (by decide) (by decide) rfl rfl rfl ?_)
     | (refine finQ ?_)
     | (refine force_in ?_)))
  split at ho
  · rename_i hd10
    subst hd10
    cases hg : giveN n { s with fuel := s.fuelM } a with
    | none => rw [hg] at ho; simp at ho
    | some q =>
    obtain ⟨z1, z2⟩ := q
    rw [hg] at ho
    simp only [Option.map_some, Option.some.injEq, Prod.mk.injEq] at ho
    obtain ⟨rfl, rfl, rfl⟩ := ho
    have h1 := op_give n _ _ 10 a b c _ fl p hg
    repeat' ((conv => whnf); (first
     | (refine finPO 24 [] (by decide) (by decide) (congrArg (fun x => some (some (Blk.row x))) (pgC_add z1 (resRow z1 _ 0 z2) 23 24 2)) (by rw [accB_add]; rfl) rfl rfl (FV_tups ⟨.same _ rfl, .same _ rfl, trivial⟩))
     | (refine App_acc (rowsP z1) [(resRow z1 _ 0 z2).cs] rfl rfl rfl rfl (by simp) cs8p (by intro r hr; simp at hr; subst hr; rfl) hlim (Nat.le_of_ble_eq_true rfl) ?_)
     | (refine W_draw 1 tt_ok mixed (by kernel_rfl) ?_)
     | (refine CallP_in opsH (fun K' hK' => hops _ _ _ _ K' hK') ?_)
     | (refine Lk_some _ rfl ?_)
     | (refine Tri_of tt_ok Tryz.func163 rfl (by decide) Tryz.ntmps163 rfl rfl ?_)
     | (refine Tri.pg 0 1 2 23 rfl h1 rfl rfl rfl (by decide) (by decide) (by decide) rfl rfl rfl ?_)
     | (refine finQ ?_)
     | (refine force_in ?_)))
  split at ho
  · simp at ho
  rename_i hno
  simp only [Option.some.injEq, Prod.mk.injEq] at ho
  obtain ⟨rfl, rfl, rfl⟩ := ho
  have hlk := ops_no d hno
  repeat' ((conv => whnf); (first
   | (refine finPO 22 [] (by decide) (by decide) (congrArg (fun x => some (some (Blk.row x))) (pgC_add { s with fuel := s.fuelM } (resRow { s with fuel := s.fuelM } _ 0 12) 1 22 2)) (by rw [accB_add]; rfl) rfl rfl (FV_tups ⟨.same _ rfl, .same _ rfl, trivial⟩))
   | (refine App_acc (rowsP { s with fuel := s.fuelM }) [(resRow { s with fuel := s.fuelM } _ 0 12).cs] rfl rfl rfl rfl (by simp) cs8p (by intro r hr; simp at hr; subst hr; rfl) hlim (Nat.le_of_ble_eq_true rfl) ?_)
   | (refine W_draw 1 tt_ok mixed (by kernel_rfl) ?_)
   | (refine CallP_in opsH (fun K' hK' => hops _ _ _ _ K' hK') ?_)
   | (refine Lk_none (hlk _ rfl) ?_)
   | (refine force_in ?_)))
end Go.Eng
set_option maxRecDepth 100000
set_option linter.unusedVariables false
set_option linter.unusedSimpArgs false
namespace Go.Eng
open Go Go.Proofs
theorem cs3L {l : List Step} : ∀ r ∈ l.map Step.cs, r.length = 3 := by intro r hr; obtain ⟨x, _, rfl⟩ := List.mem_map.1 hr; rfl
theorem law21_Do_nil (d a b c : Int) (fl : Bool) (p : List Step) (hp : p.length ≤ 1000) : Fn Tryz.prog 20 [.d .nptr, aggD (opC d a b c fl p)] (aggD [.int .i64 0, .int .i64 1]) := by
  refine Fn_of tt_ok Tryz.func20 rfl (by decide) Tryz.ntmps20 rfl ?_
  have h1 := page_Do_nil d a b c fl p
  have hpl : (p.map Step.cs).length = p.length := by simp
  skip
  refine W_loop (fun μ s => ∃ (j : Nat) (w : List Step), j ≤ p.length ∧ μ = p.length - j ∧ w = p.take j ∧
      s = ⟨[(0, .d .nptr), (3, .ptr 0 0), (4, .ptr 1 0), (5, .ptr 2 0), (6, .i j)], 60, [some (.row ((opC d a b c fl p).map .d)), some (.row [.i 0, .i 0]), some (.row [.i d, .i a, .i b, .i c, .b fl, AccV 3 3 (w.map Step.cs)]), AccB (w.map Step.cs)], 0, []⟩) p.length ⟨_, ?_, 0, [], by omega, by omega, by simp, rfl⟩ ?_
  · rw [List.map_nil, AccV_nil, AccB_nil]
    exact Wk.trans Wk_pad (Wk_env (by repeat (first | exact trivial | refine ⟨rfl, ?_⟩)))
  rintro μ s1 ⟨j, w, hj, rfl, hw, rfl⟩
  have hwl : w.length = j := by rw [hw]; simp; omega
  by_cases hlt : j < p.length
  · refine W_run tt_ok ?_
    have htk : p.take (j + 1) = w ++ [p[j]] := by rw [hw]; exact List.take_succ_eq_append_getElem hlt
    have hidx : (p.map Step.cs)[(j : Int).toNat]? = some (p[j]).cs := by simp [hlt]
    generalize p[j] = x at *
    obtain ⟨xf, xa, xb⟩ := x
    have ha := Acc_app (b := 4) (sz := 3) (rows := w.map Step.cs) (new := [(⟨xf, xa, xb⟩ : Step).cs]) (by simp)
    have hlim : (w.map Step.cs).length + [(⟨xf, xa, xb⟩ : Step).cs].length ≤ 1000000 := by simp only [List.length_map, List.length_cons, List.length_nil]; omega
    repeat' ((conv => whnf); (first
     | (refine W_float 0 0 35 tt_ok mixed (by kernel_rfl) ?_)
     | (refine And.intro (fun _ => rfl) ?_)
     | (refine App_acc (w.map Step.cs) [(⟨xf, xa, xb⟩ : Step).cs] rfl rfl rfl rfl (by simp) cs3L (by intro r hr; simp at hr; subst hr; rfl) hlim (Nat.le_of_ble_eq_true rfl) ?_)
     | (refine Br_true (decide_eq_true (by omega)) ?_)
     | (refine Len_in (fun hlen => ?_))
     | (refine Idx_in _ hidx (by omega) rfl ?_)
     | (refine Back_in _ (p.length - (j + 1)) ⟨j + 1, w ++ [⟨xf, xa, xb⟩], by omega, rfl, htk.symm, rfl⟩ (by omega) ?_)
     | (refine ArK_in (wrap_i64 (by omega) (by omega)) ?_)
     | (refine force_in ?_)))
    refine Wk_H [some (.row ((opC d a b c fl p).map .d)), some (.row [.i 0, .i 0]), some (.row [.i d, .i a, .i b, .i c, .b fl, .msl 4 0 ((w.map Step.cs).length + 1) ((w.map Step.cs).length + 1) 3]), none, some (.row ((w.map Step.cs ++ [(⟨xf, xa, xb⟩ : Step).cs]).flatten.map .d))] (by kernel_rfl) ?_
    refine Wk_H [some (.row ((opC d a b c fl p).map .d)), some (.row [.i 0, .i 0]), some (.row [.i d, .i a, .i b, .i c, .b fl, AccV 4 3 (w.map Step.cs ++ [(⟨xf, xa, xb⟩ : Step).cs])]), none, AccB (w.map Step.cs ++ [(⟨xf, xa, xb⟩ : Step).cs])] (by rw [ha.1, ha.2]; rfl) ?_
    rw [show (w ++ [(⟨xf, xa, xb⟩ : Step)]).map Step.cs = w.map Step.cs ++ [(⟨xf, xa, xb⟩ : Step).cs] by simp]
    refine Wk_fzI [0, 1, 2, 4] [0, 1, 2, 4] [] ?_ ?_ ?_ ?_ ?_ ?_ ?_ ?_ ?_
    all_goals first
      | exact ⟨.inr rfl, .inr rfl, .inr rfl, .inr rfl, trivial⟩
      | exact ⟨⟨_, rfl, FB_dat _⟩, ⟨_, rfl, FB_rows ⟨.same _ rfl, .same _ rfl, trivial⟩⟩, ⟨_, rfl, FB_rows ⟨.same _ rfl, .same _ rfl, .same _ rfl, .same _ rfl, .same _ rfl, FV_accM rfl, trivial⟩⟩, HFz_acc rfl trivial⟩
      | exact ⟨.same _ rfl, .ptr _ _ _ rfl, .ptr _ _ _ rfl, .ptr _ _ _ rfl, .same _ rfl, trivial⟩
      | (show 0 ≤ 4; decide)
      | (intro i hi; omega)
      | rfl
  · have hwp : w = p := by rw [hw]; exact List.take_of_length_le (by omega)
    subst hwp
    refine W_wk (Wk_fz [0, 1, 2] [3] (ρ' := [(0, .d .nptr), (3, .ptr 0 0), (4, .ptr 1 0), (5, .ptr 2 0), (6, .i j)]) (H' := [some (.row ((opC d a b c fl w).map .d)), some (.row [.i 0, .i 0]), some (.row ((opC d a b c fl w).map .d))]) rfl rfl rfl ⟨⟨_, rfl, FB_dat _⟩, ⟨_, rfl, FB_rows ⟨.same _ rfl, .same _ rfl, trivial⟩⟩, ⟨_, rfl, FB_rows ⟨.same _ rfl, .same _ rfl, .same _ rfl, .same _ rfl, .same _ rfl, FV_accF (w.map Step.cs) (by simp) rfl cs3L, trivial⟩⟩, trivial⟩ ⟨.same _ rfl, .ptr _ _ _ rfl, .ptr _ _ _ rfl, .ptr _ _ _ rfl, .same _ rfl, trivial⟩ (by decide) (by intro i hi; omega)) ?_
    refine W_run tt_ok ?_
    repeat' ((conv => whnf); (first
     | (refine Br_false (decide_eq_false (by omega)) ?_)
     | (refine Len_in (fun hlen => ?_))
     | (refine Fn.use (h1) rfl rfl ?_)
     | (refine fin0 rfl ?_)))
    rfl
theorem law21_Do (n : Nat) (s s' : PS) (d a b c k e : Int) (fl : Bool) (p : List Step) (hp : p.length ≤ 1000) (hd : doG n s d a b c fl p = some (s', k, e)) :
    Tri Tryz.prog 20 [.ptr 0 0, aggD (opC d a b c fl p)] (pgI s) fun v H => v = aggD [.int .i64 k, .int .i64 e] ∧ H = pgO s' := by
  refine Tri_of (m := 3) tt_ok Tryz.func20 rfl (by decide) Tryz.ntmps20 (by rfl) rfl ?_
  have h1 := page_Do n s s' d a b c k e fl p hd
  have hpl : (p.map Step.cs).length = p.length := by simp
  skip
  refine W_loop (fun μ st => ∃ (j : Nat) (w : List Step), j ≤ p.length ∧ μ = p.length - j ∧ w = p.take j ∧
      st = ⟨[(0, .ptr 0 0), (3, .ptr 3 0), (4, .ptr 4 0), (5, .ptr 5 0), (6, .i j)], 60, [some (.row (pgC s 1 2)), AccB (rowsP s), some (.mp [] []), some (.row ((opC d a b c fl p).map .d)), some (.row [.i 0, .i 0]), some (.row [.i d, .i a, .i b, .i c, .b fl, AccV 6 3 (w.map Step.cs)]), AccB (w.map Step.cs)], 3, []⟩) p.length ⟨_, ?_, 0, [], by omega, by omega, by simp, rfl⟩ ?_
  · rw [List.map_nil, AccV_nil, AccB_nil]
    exact Wk.trans Wk_pad (Wk_env (by repeat (first | exact trivial | refine ⟨rfl, ?_⟩)))
  rintro μ s1 ⟨j, w, hj, rfl, hw, rfl⟩
  have hwl : w.length = j := by rw [hw]; simp; omega
  by_cases hlt : j < p.length
  · refine W_run tt_ok ?_
    have htk : p.take (j + 1) = w ++ [p[j]] := by rw [hw]; exact List.take_succ_eq_append_getElem hlt
    have hidx : (p.map Step.cs)[(j : Int).toNat]? = some (p[j]).cs := by simp [hlt]
    generalize p[j] = x at *
    obtain ⟨xf, xa, xb⟩ := x
    have ha := Acc_app (b := 7) (sz := 3) (rows := w.map Step.cs) (new := [(⟨xf, xa, xb⟩ : Step).cs]) (by simp)
    have hlim : (w.map Step.cs).length + [(⟨xf, xa, xb⟩ : Step).cs].length ≤ 1000000 := by simp only [List.length_map, List.length_cons, List.length_nil]; omega
    repeat' ((conv => whnf); (first
     | (refine W_float 0 3 35 tt_ok mixed (by kernel_rfl) ?_)
     | (refine And.intro (fun _ => rfl) ?_)
     | (refine App_acc (w.map Step.cs) [(⟨xf, xa, xb⟩ : Step).cs] rfl rfl rfl rfl (by simp) cs3L (by intro r hr; simp at hr; subst hr; rfl) hlim (Nat.le_of_ble_eq_true rfl) ?_)
     | (refine Br_true (decide_eq_true (by omega)) ?_)
     | (refine Len_in (fun hlen => ?_))
     | (refine Idx_in _ hidx (by omega) rfl ?_)
     | (refine Back_in _ (p.length - (j + 1)) ⟨j + 1, w ++ [⟨xf, xa, xb⟩], by omega, rfl, htk.symm, rfl⟩ (by omega) ?_)
     | (refine ArK_in (wrap_i64 (by omega) (by omega)) ?_)
     | (refine force_in ?_)))
    refine Wk_H [some (.row (pgC s 1 2)), AccB (rowsP s), some (.mp [] []), some (.row ((opC d a b c fl p).map .d)), some (.row [.i 0, .i 0]), some (.row [.i d, .i a, .i b, .i c, .b fl, .msl 7 0 ((w.map Step.cs).length + 1) ((w.map Step.cs).length + 1) 3]), none, some (.row ((w.map Step.cs ++ [(⟨xf, xa, xb⟩ : Step).cs]).flatten.map .d))] (by kernel_rfl) ?_
    refine Wk_H [some (.row (pgC s 1 2)), AccB (rowsP s), some (.mp [] []), some (.row ((opC d a b c fl p).map .d)), some (.row [.i 0, .i 0]), some (.row [.i d, .i a, .i b, .i c, .b fl, AccV 7 3 (w.map Step.cs ++ [(⟨xf, xa, xb⟩ : Step).cs])]), none, AccB (w.map Step.cs ++ [(⟨xf, xa, xb⟩ : Step).cs])] (by rw [ha.1, ha.2]; rfl) ?_
    rw [show (w ++ [(⟨xf, xa, xb⟩ : Step)]).map Step.cs = w.map Step.cs ++ [(⟨xf, xa, xb⟩ : Step).cs] by simp]
    refine Wk_fzI [0, 1, 2, 3, 4, 5, 7] [0, 1, 2, 3, 4, 5, 7] [] ?_ ?_ ?_ ?_ ?_ ?_ ?_ ?_ ?_
    all_goals first
      | exact ⟨.inr rfl, .inr rfl, .inr rfl, .inr rfl, .inr rfl, .inr rfl, .inr rfl, trivial⟩
      | exact ⟨⟨_, rfl, FB_pg rfl rfl⟩, HFz_acc rfl ⟨⟨_, rfl, .mp _ _ _ rfl fun i x y h => by simp at h⟩, ⟨_, rfl, FB_dat _⟩, ⟨_, rfl, FB_rows ⟨.same _ rfl, .same _ rfl, trivial⟩⟩, ⟨_, rfl, FB_rows ⟨.same _ rfl, .same _ rfl, .same _ rfl, .same _ rfl, .same _ rfl, FV_accM rfl, trivial⟩⟩, HFz_acc rfl trivial⟩⟩
      | exact ⟨.ptr _ _ _ rfl, .ptr _ _ _ rfl, .ptr _ _ _ rfl, .ptr _ _ _ rfl, .same _ rfl, trivial⟩
      | (show 3 ≤ 7; decide)
      | (intro i hi; match i, hi with | 0, _ => rfl | 1, _ => rfl | 2, _ => rfl)
      | rfl
  · have hwp : w = p := by rw [hw]; exact List.take_of_length_le (by omega)
    subst hwp
    refine W_wk (Wk_fz [0, 1, 2, 3, 4, 5] [6] (ρ' := [(0, .ptr 0 0), (3, .ptr 3 0), (4, .ptr 4 0), (5, .ptr 5 0), (6, .i j)]) (H' := [some (.row (pgC s 1 2)), AccB (rowsP s), some (.mp [] []), some (.row ((opC d a b c fl w).map .d)), some (.row [.i 0, .i 0]), some (.row ((opC d a b c fl w).map .d))]) rfl rfl rfl
      ⟨⟨_, rfl, FB_pg rfl rfl⟩, HFz_acc rfl ⟨⟨_, rfl, .mp _ _ _ rfl fun i x y h => by simp at h⟩, ⟨_, rfl, FB_dat _⟩, ⟨_, rfl, FB_rows ⟨.same _ rfl, .same _ rfl, trivial⟩⟩, ⟨_, rfl, FB_rows ⟨.same _ rfl, .same _ rfl, .same _ rfl, .same _ rfl, .same _ rfl, FV_accF (w.map Step.cs) (by simp) rfl cs3L, trivial⟩⟩, trivial⟩⟩
      ⟨.ptr _ _ _ rfl, .ptr _ _ _ rfl, .ptr _ _ _ rfl, .ptr _ _ _ rfl, .same _ rfl, trivial⟩ (by decide) (by intro i hi; match i, hi with | 0, _ => rfl | 1, _ => rfl | 2, _ => rfl)) ?_
    refine W_run tt_ok ?_
    repeat' ((conv => whnf); (first
     | (refine finPO 6 [] (by decide) (by decide) rfl rfl rfl rfl (FV_aggs ⟨.same _ rfl, .same _ rfl, trivial⟩))
     | (refine Br_false (decide_eq_false (by omega)) ?_)
     | (refine Len_in (fun hlen => ?_))
     | (refine Tri.pg 0 1 2 6 rfl h1 rfl rfl rfl (by decide) (by decide) (by decide) rfl rfl rfl ?_)))
theorem law21_New (cap fuel depth : Int) (h : okC cap fuel depth = true) : Tri Tryz.prog 18 [aggD [.int .i64 cap, .int .i64 fuel, .int .i64 depth]] [] fun v H => v = .ptr 0 0 ∧ H = pgI (ps0 cap fuel depth) := by
  refine Tri_of (m := 0) tt_ok Tryz.func18 rfl (by decide) Tryz.ntmps18 (by rfl) rfl ?_
  have h1 := page_New cap fuel depth h
  have hR : AccB (rowsP (ps0 cap fuel depth)) = none := by show AccB [] = none; exact AccB_nil
  generalize ps0 cap fuel depth = s at *
  repeat' ((conv => whnf); (first
   | (refine finW (v' := .ptr 0 0) (H' := pgI s) (Fin_fz [1, 2, 3] [] rfl rfl rfl ⟨⟨_, rfl, FB_pg rfl rfl⟩, HFz_acc rfl ⟨⟨_, rfl, .mp _ _ _ rfl fun i x y h => by simp at h⟩, trivial⟩⟩ (.ptr _ _ _ rfl) (by decide) (by intro i hi; omega)) ⟨rfl, rfl⟩)
   | (refine Tri.call h1 [] rfl rfl trivial rfl rfl rfl (noY_pgI s) (r := .tup [.ptr 1 0, .i 0]) (H' := [some (.row [.i cap, .i fuel, .i depth]), some (.row (pgC s 2 3)), AccB (rowsP s), some (.mp [] [])]) rfl (by rw [patch_nil, renH_pgI]; rfl) ?_)))
end Go.Eng
set_option linter.unusedVariables false
set_option linter.unusedSimpArgs false
namespace Go.Eng
open Go
theorem Tri.wkA {P : Program} {f : FuncId} {args args0 : List AV} {H : Heap} {Q : AV → Heap → Prop} (h : Tri P f args0 H Q) (hv : FVs (List.range H.length) [] H args args0) : Tri P f args H Q := by
  simp only [Tri_eq] at *
  obtain ⟨hl, hv⟩ := FVs_get hv
  refine ⟨h.1, fun p σ w vs hH hs hvs => h.2 p σ w vs hH (hs.trans hl) fun i y v hy hv' => ?_⟩
  have hi : i < args.length := by rw [hl]; exact (List.getElem?_eq_some_iff.1 hy).1
  have hx : args[i]? = some args[i] := List.getElem?_eq_getElem hi
  have h1 := hvs i _ v hx hv'
  have h2 := VRel.fz hH (g := List.range H.length) (σ' := σ) (fun i j h => by
    obtain ⟨h3, h4⟩ := List.getElem?_eq_some_iff.1 h
    rw [List.getElem_range] at h4
    rw [h4]) (hv i _ y hx hy) v h1
  refine VRel.mono' (p := pfz p σ H []) (p' := p) (σ := σ) (σ' := σ) (w := w) (w' := w) (fun b hb => ?_) (fun _ _ => rfl) (.refl w) (fun _ _ h => h) h2
  rcases hb with hb | ⟨⟨i, cs, g1, _⟩, _⟩
  · exact hb
  · simp at g1
end Go.Eng
set_option maxRecDepth 100000
set_option linter.unusedVariables false
set_option linter.unusedSimpArgs false
namespace Go.Eng
open Go Go.Proofs
def stO (o : Option (PS × Int × Int)) : PS := match o with | some (s, _, _) => s | none => ps0 0 0 0
def z0 : PS := ps0 9 20 2
def z1 : PS := stO (doG 4 z0 0 1 1 0 false [])
def z2 : PS := stO (doG 4 z1 0 1 1 0 false [])
def z3 : PS := stO (doG 4 z2 2 0 1 (-1) false [])
def z4 : PS := stO (doG 4 z3 2 0 2 (-1) false [])
def z5 : PS := stO (doG 4 z4 6 0 0 0 false [⟨0, 1, 0⟩])
def z6 : PS := stO (doG 4 z5 7 0 2 0 false [])
def z7 : PS := stO (doG 4 z6 10 2 0 0 false [])
def z8 : PS := stO (doG 4 z7 10 0 0 0 false [])
def z9 : PS := stO (doG 4 z8 22 0 0 0 false [])
theorem z1_eq : doG 4 z0 0 1 1 0 false [] = some (z1, 1, 0) := by kernel_rfl
theorem z2_eq : doG 4 z1 0 1 1 0 false [] = some (z2, 2, 0) := by kernel_rfl
theorem z3_eq : doG 4 z2 2 0 1 (-1) false [] = some (z3, 0, 0) := by kernel_rfl
theorem z4_eq : doG 4 z3 2 0 2 (-1) false [] = some (z4, 0, 0) := by kernel_rfl
theorem z5_eq : doG 4 z4 6 0 0 0 false [⟨0, 1, 0⟩] = some (z5, 0, 0) := by kernel_rfl
theorem z6_eq : doG 4 z5 7 0 2 0 false [] = some (z6, 0, 0) := by kernel_rfl
theorem z7_eq : doG 4 z6 10 2 0 0 false [] = some (z7, 0, 0) := by kernel_rfl
theorem z8_eq : doG 4 z7 10 0 0 0 false [] = some (z8, 0, 8) := by kernel_rfl
theorem z9_eq : doG 4 z8 22 0 0 0 false [] = some (z9, 0, 12) := by kernel_rfl
theorem z9_len : (rowsP z9).length = 15 := by kernel_rfl
theorem z9_6 : (rowsP z9)[6]? = some [.int .i64 0, .int .i64 0, .int .i64 2, .int .i64 0, .int .i64 2, .int .i64 (-1), .int .i64 3, .int .i64 0] := by kernel_rfl
theorem z9_7 : (rowsP z9)[7]? = some [.int .i64 0, .int .i64 0, .int .i64 2, .int .i64 0, .int .i64 1, .int .i64 2, .int .i64 3, .int .i64 0] := by kernel_rfl
theorem z9_f : z9.focus = 1 := by kernel_rfl
theorem z9_p : z9.progs.length = 1 := by kernel_rfl
theorem z9_h : z9.hears.length = 1 := by kernel_rfl
theorem z9_r : z9.rows.length = 15 := by kernel_rfl
theorem Tri_H {P : Program} {f : FuncId} {args : List AV} {H : Heap} {K : AV → Heap → Prop} (H2 : Heap) (h : H = H2) (hT : Tri P f args H2 K) : Tri P f args H K := by subst h; exact hT
theorem law21_live : Fn Tryz.prog 17 [] (.b true) := by
  obtain ⟨k1, hk1⟩ : ∃ k : Int, k = 1 := ⟨_, rfl⟩
  obtain ⟨e1, he1⟩ : ∃ e : Int, e = 0 := ⟨_, rfl⟩
  obtain ⟨k2, hk2⟩ : ∃ k : Int, k = 2 := ⟨_, rfl⟩
  obtain ⟨e2, he2⟩ : ∃ e : Int, e = 0 := ⟨_, rfl⟩
  obtain ⟨k3, hk3⟩ : ∃ k : Int, k = 0 := ⟨_, rfl⟩
  obtain ⟨e3, he3⟩ : ∃ e : Int, e = 0 := ⟨_, rfl⟩
  obtain ⟨k4, hk4⟩ : ∃ k : Int, k = 0 := ⟨_, rfl⟩
  obtain ⟨e4, he4⟩ : ∃ e : Int, e = 0 := ⟨_, rfl⟩
  obtain ⟨k5, hk5⟩ : ∃ k : Int, k = 0 := ⟨_, rfl⟩
  obtain ⟨e5, he5⟩ : ∃ e : Int, e = 0 := ⟨_, rfl⟩
  obtain ⟨k6, hk6⟩ : ∃ k : Int, k = 0 := ⟨_, rfl⟩
  obtain ⟨e6, he6⟩ : ∃ e : Int, e = 0 := ⟨_, rfl⟩
  obtain ⟨k7, hk7⟩ : ∃ k : Int, k = 0 := ⟨_, rfl⟩
  obtain ⟨e7, he7⟩ : ∃ e : Int, e = 0 := ⟨_, rfl⟩
  obtain ⟨k8, hk8⟩ : ∃ k : Int, k = 0 := ⟨_, rfl⟩
  obtain ⟨e8, he8⟩ : ∃ e : Int, e = 8 := ⟨_, rfl⟩
  obtain ⟨k9, hk9⟩ : ∃ k : Int, k = 0 := ⟨_, rfl⟩
  obtain ⟨e9, he9⟩ : ∃ e : Int, e = 12 := ⟨_, rfl⟩
  have hN := law21_New 9 20 2 rfl
  have e0 : ps0 9 20 2 = z0 := rfl
  rw [e0] at hN
  have d1 := law21_Do 4 z0 z1 0 1 1 0 k1 e1 false [] (by simp) (by rw [hk1, he1]; exact z1_eq)
  have d2 := law21_Do 4 z1 z2 0 1 1 0 k2 e2 false [] (by simp) (by rw [hk2, he2]; exact z2_eq)
  have d3 := law21_Do 4 z2 z3 2 0 1 (-1) k3 e3 false [] (by simp) (by rw [hk3, he3]; exact z3_eq)
  have d4 := law21_Do 4 z3 z4 2 0 2 (-1) k4 e4 false [] (by simp) (by rw [hk4, he4]; exact z4_eq)
  have d5 := law21_Do 4 z4 z5 6 0 0 0 k5 e5 false [⟨0, 1, 0⟩] (by simp) (by rw [hk5, he5]; exact z5_eq)
  have d6 := law21_Do 4 z5 z6 7 0 2 0 k6 e6 false [] (by simp) (by rw [hk6, he6]; exact z6_eq)
  have d7 := law21_Do 4 z6 z7 10 2 0 0 k7 e7 false [] (by simp) (by rw [hk7, he7]; exact z7_eq)
  have d8 := law21_Do 4 z7 z8 10 0 0 0 k8 e8 false [] (by simp) (by rw [hk8, he8]; exact z8_eq)
  have d9 := law21_Do 4 z8 z9 22 0 0 0 k9 e9 false [] (by simp) (by rw [hk9, he9]; exact z9_eq)
  have hR := page_Rows z9 (by rw [z9_r]; decide)
  have hF := page_Focus z9
  have hP := page_Progs z9
  have hH := page_Hears z9 (by rw [z9_h]; decide)
  rw [z9_f] at hF
  rw [z9_p] at hP
  have r6 := z9_6
  have r7 := z9_7
  have rl := z9_len
  have hl := z9_h
  generalize z0 = s0 at *
  generalize z1 = s1 at *
  generalize z2 = s2 at *
  generalize z3 = s3 at *
  generalize z4 = s4 at *
  generalize z5 = s5 at *
  generalize z6 = s6 at *
  generalize z7 = s7 at *
  generalize z8 = s8 at *
  generalize z9 = s9 at *
  obtain ⟨L, hL⟩ : ∃ L, L = rowsP s9 := ⟨_, rfl⟩
  rw [← hL] at r6 r7 rl hR
  clear hL
  have hlt : decide ((L.length : Int) < 10) = false := by rw [rl]; rfl
  refine Fn_of tt_ok Tryz.func17 rfl (by decide) Tryz.ntmps17 rfl ?_
  repeat' ((conv => whnf); (first
   | (refine Br_false hlt ?_)
   | (refine Br_true (by subst_vars; rfl) ?_)
   | (refine Len_in (fun hlen => ?_))
   | (refine Tri.call hN [] rfl rfl trivial rfl rfl rfl (noY_pgI s0) (r := .ptr 0 0) (H' := pgI s0) rfl (by rw [patch_nil, renH_pgI]; rfl) ?_)
   | (refine Tri.wkA (Tri.pg 0 1 2 3 rfl d1 rfl rfl rfl (by decide) (by decide) (by decide) rfl rfl rfl ?_) ⟨.ptr _ _ _ rfl, FV_aggs ⟨.same _ rfl, .same _ rfl, .same _ rfl, .same _ rfl, .same _ rfl, .nsl, trivial⟩, trivial⟩)
   | (refine Tri.wkA (Tri.pg 0 3 2 5 rfl d2 rfl rfl rfl (by decide) (by decide) (by decide) rfl rfl rfl ?_) ⟨.ptr _ _ _ rfl, FV_aggs ⟨.same _ rfl, .same _ rfl, .same _ rfl, .same _ rfl, .same _ rfl, .nsl, trivial⟩, trivial⟩)
   | (refine Tri.wkA (Tri.pg 0 5 2 7 rfl d3 rfl rfl rfl (by decide) (by decide) (by decide) rfl rfl rfl ?_) ⟨.ptr _ _ _ rfl, FV_aggs ⟨.same _ rfl, .same _ rfl, .same _ rfl, .same _ rfl, .same _ rfl, .nsl, trivial⟩, trivial⟩)
   | (refine Tri.wkA (Tri.pg 0 7 2 8 rfl d4 rfl rfl rfl (by decide) (by decide) (by decide) rfl rfl rfl ?_) ⟨.ptr _ _ _ rfl, FV_aggs ⟨.same _ rfl, .same _ rfl, .same _ rfl, .same _ rfl, .same _ rfl, .nsl, trivial⟩, trivial⟩)
   | (refine Tri.wkA (Tri.pg 0 8 2 9 rfl d5 rfl rfl rfl (by decide) (by decide) (by decide) rfl rfl rfl ?_) ⟨.ptr _ _ _ rfl, FV_aggs ⟨.same _ rfl, .same _ rfl, .same _ rfl, .same _ rfl, .same _ rfl, .same _ rfl, trivial⟩, trivial⟩)
   | (refine Tri.wkA (Tri.pg 0 9 2 11 rfl d6 rfl rfl rfl (by decide) (by decide) (by decide) rfl rfl rfl ?_) ⟨.ptr _ _ _ rfl, FV_aggs ⟨.same _ rfl, .same _ rfl, .same _ rfl, .same _ rfl, .same _ rfl, .nsl, trivial⟩, trivial⟩)
   | (refine Tri.wkA (Tri.pg 0 11 2 13 rfl d7 rfl rfl rfl (by decide) (by decide) (by decide) rfl rfl rfl ?_) ⟨.ptr _ _ _ rfl, FV_aggs ⟨.same _ rfl, .same _ rfl, .same _ rfl, .same _ rfl, .same _ rfl, .nsl, trivial⟩, trivial⟩)
   | (refine Tri.wkA (Tri.pg 0 13 2 15 rfl d8 rfl rfl rfl (by decide) (by decide) (by decide) rfl rfl rfl ?_) ⟨.ptr _ _ _ rfl, FV_aggs ⟨.same _ rfl, .same _ rfl, .same _ rfl, .same _ rfl, .same _ rfl, .nsl, trivial⟩, trivial⟩)
   | (refine Tri.wkA (Tri.pg 0 15 2 17 rfl d9 rfl rfl rfl (by decide) (by decide) (by decide) rfl rfl rfl ?_) ⟨.ptr _ _ _ rfl, FV_aggs ⟨.same _ rfl, .same _ rfl, .same _ rfl, .same _ rfl, .same _ rfl, .nsl, trivial⟩, trivial⟩)
   | (refine Tri_H [some (.row (pgC s9 17 2)), none, some (.mp [] []), none, some (.row [.i k1, .i e1]), none, some (.row [.i k2, .i e2]), none, none, none, some (.row [.i k5, .i e5]), none, some (.row [.i k6, .i e6]), none, some (.row [.i k7, .i e7]), none, some (.row [.i k8, .i e8]), AccB (rowsP s9), some (.row [.i k9, .i e9])] (by kernel_rfl) (Tri.pgS 0 17 2 hR rfl rfl rfl rfl (by decide) (by decide) (by decide) rfl rfl rfl ?_))
   | (refine Tri.pgS 0 17 2 hF rfl rfl rfl rfl (by decide) (by decide) (by decide) rfl rfl rfl ?_)
   | (refine Tri.pgS 0 17 2 hP rfl rfl rfl rfl (by decide) (by decide) (by decide) rfl rfl rfl ?_)
   | (refine Tri.pgS 0 17 2 hH rfl rfl rfl rfl (by decide) (by decide) (by decide) rfl rfl rfl ?_)
   | (refine Idx_in _ r6 (by omega) rfl ?_)
   | (refine Idx_in _ r7 (by omega) rfl ?_)
   | (refine Ch_r ?_)
   | (refine fin0 rfl ?_)))
  simp [hl]
end Go.Eng
set_option maxRecDepth 100000
set_option linter.unusedVariables false
set_option linter.unusedSimpArgs false
namespace Go.Eng
open Go Go.Proofs
theorem ref21_Small (d a b c : Int) (fl : Bool) (p : List Step) : Fn Tryz.prog 32 [aggD (opC d a b c fl p)] (.b (decide ((p.length : Int) ≤ 20))) := by
  refine Fn_of tt_ok Tryz.func32 rfl (by decide) Tryz.ntmps32 rfl ?_
  have e : (List.map Step.cs p).length = p.length := by simp
  rw [← e]
  repeat' ((conv => whnf); (first
   | (refine Len_in (fun hlen => ?_))
   | (refine fin0 rfl ?_)))
  rfl
theorem law21_PageNil (d a b c : Int) (fl : Bool) (p : List Step) : Fn Tryz.prog 8 [aggD (opC d a b c fl p)] (.b true) := by
  have hS := ref21_Small d a b c fl p
  have hL := law21_live
  by_cases hp : (p.length : Int) ≤ 20
  · rw [decide_eq_true hp] at hS
    have hD := law21_Do_nil d a b c fl p (by omega)
    refine Fn_of tt_ok Tryz.func8 rfl (by decide) Tryz.ntmps8 rfl ?_
    repeat' ((conv => whnf); (first
     | (refine Len_in (fun hlen => ?_))
     | (refine Fn.use (hS) rfl rfl ?_)
     | (refine Fn.use (hL) rfl rfl ?_)
     | (refine Fn.use (hD) rfl rfl ?_)
     | (refine Fn.use (page_Focus_nil) rfl rfl ?_)
     | (refine Fn.use (page_View_nil) rfl rfl ?_)
     | (refine Fn.use (page_Hears_nil) rfl rfl ?_)
     | (refine Fn.use (page_Progs_nil) rfl rfl ?_)
     | (refine Fn.use (page_Rows_nil) rfl rfl ?_)
     | (refine Fn.use (page_Watch_nil) rfl rfl ?_)
     | (refine fin0 rfl ?_)))
    all_goals rfl
  · rw [decide_eq_false hp] at hS
    refine Fn_of tt_ok Tryz.func8 rfl (by decide) Tryz.ntmps8 rfl ?_
    repeat' ((conv => whnf); (first
     | (refine Fn.use (hS) rfl rfl ?_)
     | (refine Fn.use (hL) rfl rfl ?_)
     | (refine fin0 rfl ?_)))
    all_goals rfl
end Go.Eng
set_option linter.unusedVariables false
set_option linter.unusedSimpArgs false
namespace Go.Eng
open Go
theorem ex_map {α : Type} (f : α → List D) : ∀ rows : List (List D), (∀ r ∈ rows, ∃ a, r = f a) → ∃ l : List α, rows = l.map f := by
  intro rows
  induction rows with
  | nil => intro _; exact ⟨[], rfl⟩
  | cons r t ih =>
    intro h
    obtain ⟨a, rfl⟩ := h r (by simp)
    obtain ⟨l, rfl⟩ := ih fun r hr => h r (by simp [hr])
    exact ⟨a :: l, rfl⟩
abbrev i64 : Sh := .int .i64
theorem has_int {d : D} (h : HasSh i64 d) : ∃ n : Int, d = .i n := by cases h with | int _ n h => exact ⟨n, rfl⟩
def intsSh : Sh := .sl [i64]
def attrSh : List Sh := [i64, i64]
def attrsSh : Sh := .sl attrSh
def nodeSh : List Sh := [i64, i64, i64, intsSh, i64, i64, attrsSh]
def treeSh : Sh := .sl nodeSh
theorem arg_agg {P : Program} {t : TypeId} {shs : List Sh} {x : AV} (h : ArgOk P t x) (hf : flat P 8 t = some shs) (hu : ∀ ds, topAV P t ds = .agg (ds.map .d)) : ∃ ds, Row shs ds ∧ x = .agg (ds.map .d) := by
  obtain ⟨shs', ds, h1, h2, h3⟩ := h
  rw [hf] at h1
  injection h1 with h1
  subst h1
  exact ⟨ds, h2, by rw [h3, hu]⟩
theorem args_1 {P : Program} {t : TypeId} {xs : List AV} (h : ArgsOk P [t] xs) : ∃ x, xs = [x] ∧ ArgOk P t x := by
  match xs, h with
  | [x], h => exact ⟨x, rfl, h.1⟩
end Go.Eng
set_option maxRecDepth 100000
set_option linter.unusedVariables false
set_option linter.unusedSimpArgs false
namespace Go.Eng
open Go Go.Proofs
def stp3Sh : Sh := .sl [i64, i64, i64]
theorem has_stp3 {d : D} (h : HasSh stp3Sh d) : ∃ l : List Step, d = stepsD l := by
  cases h with
  | sl _ rows hl h =>
    obtain ⟨l, rfl⟩ := ex_map Step.cs rows fun r hr => by
      have h1 := hl r hr
      have h2 := h r hr
      match r, h1, h2 with
      | [x0, x1, x2], _, h2 =>
        obtain ⟨n0, rfl⟩ := has_int (h2 0 i64 x0 rfl rfl)
        obtain ⟨n1, rfl⟩ := has_int (h2 1 i64 x1 rfl rfl)
        obtain ⟨n2, rfl⟩ := has_int (h2 2 i64 x2 rfl rfl)
        exact ⟨⟨n0, n1, n2⟩, rfl⟩
    exact ⟨l, rfl⟩
theorem has_bool {d : D} (h : HasSh .bool d) : ∃ b : Bool, d = .bool b := by cases h with | bool b => exact ⟨b, rfl⟩
theorem law_PageNil_args (xs : List AV) (h : ArgsOk Tryz.prog [37] xs) : Fn Tryz.prog 8 xs (.b true) := by
  obtain ⟨x, rfl, h1⟩ := args_1 h
  obtain ⟨ds, hd, rfl⟩ := arg_agg (shs := [i64, i64, i64, i64, .bool, stp3Sh]) h1 (by kernel_rfl) (fun _ => by kernel_rfl)
  obtain ⟨g1, g2⟩ := hd
  match ds, g1, g2 with
  | [x0, x1, x2, x3, x4, x5], _, g2 =>
    obtain ⟨n0, rfl⟩ := has_int (g2 0 i64 x0 rfl rfl)
    obtain ⟨n1, rfl⟩ := has_int (g2 1 i64 x1 rfl rfl)
    obtain ⟨n2, rfl⟩ := has_int (g2 2 i64 x2 rfl rfl)
    obtain ⟨n3, rfl⟩ := has_int (g2 3 i64 x3 rfl rfl)
    obtain ⟨b, rfl⟩ := has_bool (g2 4 .bool x4 rfl rfl)
    obtain ⟨l, rfl⟩ := has_stp3 (g2 5 stp3Sh x5 rfl rfl)
    exact law21_PageNil n0 n1 n2 n3 b l
end Go.Eng
namespace Go.Proofs.YtekooegnkifokaaGreat
open Go Go.ChangeShapes Go.WideShapes Go.ChangeAt Go.RowKit
theorem z_own : ownKnob Tryz.prog.godebug = none := by kernel_rfl
theorem z_laidOut : laidOutB Tryz.prog = true := by kernel_rfl
theorem z_maps : mapsRowed Tryz.prog = true := by kernel_rfl
theorem z_stops : (Tryz.prog.stops == []) = true := by kernel_rfl
theorem z_knobs : (Tryz.prog.stopKnobs == []) = true := by kernel_rfl
theorem z_plain : (Rows.pageNilRow.plainKeys == Tryz.prog.plainKeys) = true := by kernel_rfl
theorem z_heard : Tryz.prog.stopsHeard = true := by kernel_rfl
theorem z_enter : Tryz.prog.mayEnter = true := by kernel_rfl
theorem z_lifted : (Rows.pageNilRow.lifted == Tryz.prog.liftsFinal) = true := by kernel_rfl
theorem z_make : (Tryz.prog.make == some Rows.pageNilRow.make) = true := by kernel_rfl
end Go.Proofs.YtekooegnkifokaaGreat
