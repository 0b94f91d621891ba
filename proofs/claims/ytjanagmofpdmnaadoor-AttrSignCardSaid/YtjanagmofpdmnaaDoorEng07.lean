/- What the seat's proofs lean on, part 7: the executor over abstract values, its soundness, and what the program's functions answer (Law2, Sp6, Law3, Sp7, Law5, Sp8, Law6, Law4). -/
import Derived.Test.YtjanagmofpdmnaaDoorEng06
import Derived.Test.YtjanagmofpdmnaaDoorEng05
import Derived.Test.YtjanagmofpdmnaaDoorEng04
set_option linter.all false
set_option linter.unusedVariables false
set_option linter.unusedSimpArgs false
set_option maxRecDepth 100000
set_option linter.unusedVariables false
set_option linter.unusedSimpArgs false
namespace Go.Eng
open Go Go.Proofs
theorem small_T {t : Tree} (h : smallB t = true) : SmallT t := by
  unfold smallB at h
  simp only [Bool.and_eq_true, List.all_eq_true, decide_eq_true_eq] at h
  exact ⟨by omega, fun x hx => by have := h.2 x hx; omega⟩
theorem same_self (t : Tree) : Fn Tryd.prog 19 [.d (treeD t), .d (treeD t)] (.b true) := by
  have := ref_Same t t
  simpa using this
theorem law_Tells (t : Tree) (n : Int) (a : Attr) : Fn Tryd.prog 3 [.d (treeD t), .i n, aggD a.cs] (.b true) := by
  refine Fn_of tt_ok Tryd.func3 rfl (by decide) Tryd.ntmps3 rfl ?_
  have hsm := ref_Small t
  cases hS : smallB t <;> rw [hS] at hsm
  · repeat' ((conv => whnf); (first
    | (refine Br_true (by assumption) ?_)
    | (refine Br_false (by assumption) ?_)
    | (refine Br_true (beqT (by omega)) ?_)
    | (refine Br_false (beqF (by omega)) ?_)
    | (refine Br_beq (fun h => ?_) (fun h => ?_))
    | (refine Br_true (bneT (by omega)) ?_)
    | (refine Br_false (bneF (by omega)) ?_)
    | (refine Br_bne (fun h => ?_) (fun h => ?_))
    | (refine Br_true (decide_eq_true (by omega)) ?_)
    | (refine Br_false (decide_eq_false (by omega)) ?_)
    | (refine Br_dec (fun h => ?_) (fun h => ?_))
    | (refine Br_not ?_)
    | (refine Len_in (fun hlen => ?_))
    | (refine Fn.use (hsm) rfl rfl ?_)
    | (refine CallF_in (hsm) rfl rfl ?_)
    | (refine Fn.use (live_true) rfl rfl ?_)
    | (refine CallF_in (live_true) rfl rfl ?_)
    | (refine Br_split (fun h => ?_) (fun h => ?_))
    | (refine fin0 rfl ?_)
    | (refine ArK_in (wrap_i64 (by omega) (by omega)) ?_)
    | (refine force_in ?_)))
    all_goals rfl
  have hs := small_T hS
  have hG := attr_Get t n a.name
  have hH := attr_Has t n a.name
  have hR := ref_Get t n a.name
  have hM := ref_May t
  have hS1 := attr_Set t n a hs
  have hS2 := ref_Set t n a hs
  have hD1 := attr_Drop t n a.name hs
  have hD2 := ref_Drop t n a.name hs
  rw [setG_R] at hS1
  rw [dropG_R] at hD1
  have hT1 := same_self (setR t n a).1
  have hT2 := same_self (dropR t n a.name).1
  have eG : mayB t = true → getP t n a.name = getR t n a.name := fun h => by unfold getP getR; rw [h]; rfl
  have eN : mayB t = false → getP t n a.name = (0, false) := fun h => by unfold getP; rw [h]; rfl
  clear hS hs
  cases hm : mayB t <;> rw [hm] at hM
  · rw [eN hm] at hG hH
    generalize setR t n a = r1 at *
    generalize dropR t n a.name = r2 at *
    obtain ⟨T1, e1⟩ := r1
    obtain ⟨T2, e2⟩ := r2
    simp only at hS1 hS2 hD1 hD2 hT1 hT2 hG hH
    clear eG eN hR hm
    repeat' ((conv => whnf); (first
      | (refine Br_true (beq_self_eq_true _) ?_)
      | (refine Br_true (by assumption) ?_)
      | (refine Br_false (by assumption) ?_)
      | (refine Br_true (beqT (by omega)) ?_)
      | (refine Br_false (beqF (by omega)) ?_)
      | (refine Br_beq (fun h => ?_) (fun h => ?_))
      | (refine Br_true (bneT (by omega)) ?_)
      | (refine Br_false (bneF (by omega)) ?_)
      | (refine Br_bne (fun h => ?_) (fun h => ?_))
      | (refine Br_true (decide_eq_true (by omega)) ?_)
      | (refine Br_false (decide_eq_false (by omega)) ?_)
      | (refine Br_dec (fun h => ?_) (fun h => ?_))
      | (refine Br_not ?_)
      | (refine Len_in (fun hlen => ?_))
      | (refine Fn.use (hsm) rfl rfl ?_)
      | (refine CallF_in (hsm) rfl rfl ?_)
      | (refine Fn.use (live_true) rfl rfl ?_)
      | (refine CallF_in (live_true) rfl rfl ?_)
      | (refine Fn.use (hG) rfl rfl ?_)
      | (refine CallF_in (hG) rfl rfl ?_)
      | (refine Fn.use (hM) rfl rfl ?_)
      | (refine CallF_in (hM) rfl rfl ?_)
      | (refine Fn.use (hS1) rfl rfl ?_)
      | (refine CallF_in (hS1) rfl rfl ?_)
      | (refine Fn.use (hS2) rfl rfl ?_)
      | (refine CallF_in (hS2) rfl rfl ?_)
      | (refine Fn.use (hD1) rfl rfl ?_)
      | (refine CallF_in (hD1) rfl rfl ?_)
      | (refine Fn.use (hD2) rfl rfl ?_)
      | (refine CallF_in (hD2) rfl rfl ?_)
      | (refine Fn.use (hH) rfl rfl ?_)
      | (refine CallF_in (hH) rfl rfl ?_)
      | (refine Fn.use (hT1) rfl rfl ?_)
      | (refine CallF_in (hT1) rfl rfl ?_)
      | (refine Fn.use (hT2) rfl rfl ?_)
      | (refine CallF_in (hT2) rfl rfl ?_)
      | (refine Br_split (fun h => ?_) (fun h => ?_))
      | (refine fin0 rfl ?_)
      | (refine ArK_in (wrap_i64 (by omega) (by omega)) ?_)
      | (refine force_in ?_)))
    all_goals rfl
  · rw [eG hm] at hG hH
    generalize setR t n a = r1 at *
    generalize dropR t n a.name = r2 at *
    generalize getR t n a.name = r3 at *
    obtain ⟨T1, e1⟩ := r1
    obtain ⟨T2, e2⟩ := r2
    obtain ⟨v, b⟩ := r3
    simp only at hS1 hS2 hD1 hD2 hT1 hT2 hG hH hR
    clear eG eN hm
    repeat' ((conv => whnf); (first
      | (refine Br_true (beq_self_eq_true _) ?_)
      | (refine Br_true (by assumption) ?_)
      | (refine Br_false (by assumption) ?_)
      | (refine Br_true (beqT (by omega)) ?_)
      | (refine Br_false (beqF (by omega)) ?_)
      | (refine Br_beq (fun h => ?_) (fun h => ?_))
      | (refine Br_true (bneT (by omega)) ?_)
      | (refine Br_false (bneF (by omega)) ?_)
      | (refine Br_bne (fun h => ?_) (fun h => ?_))
      | (refine Br_true (decide_eq_true (by omega)) ?_)
      | (refine Br_false (decide_eq_false (by omega)) ?_)
      | (refine Br_dec (fun h => ?_) (fun h => ?_))
      | (refine Br_not ?_)
      | (refine Len_in (fun hlen => ?_))
      | (refine Fn.use (hsm) rfl rfl ?_)
      | (refine CallF_in (hsm) rfl rfl ?_)
      | (refine Fn.use (live_true) rfl rfl ?_)
      | (refine CallF_in (live_true) rfl rfl ?_)
      | (refine Fn.use (hG) rfl rfl ?_)
      | (refine CallF_in (hG) rfl rfl ?_)
      | (refine Fn.use (hR) rfl rfl ?_)
      | (refine CallF_in (hR) rfl rfl ?_)
      | (refine Fn.use (hM) rfl rfl ?_)
      | (refine CallF_in (hM) rfl rfl ?_)
      | (refine Fn.use (hS1) rfl rfl ?_)
      | (refine CallF_in (hS1) rfl rfl ?_)
      | (refine Fn.use (hS2) rfl rfl ?_)
      | (refine CallF_in (hS2) rfl rfl ?_)
      | (refine Fn.use (hD1) rfl rfl ?_)
      | (refine CallF_in (hD1) rfl rfl ?_)
      | (refine Fn.use (hD2) rfl rfl ?_)
      | (refine CallF_in (hD2) rfl rfl ?_)
      | (refine Fn.use (hH) rfl rfl ?_)
      | (refine CallF_in (hH) rfl rfl ?_)
      | (refine Fn.use (hT1) rfl rfl ?_)
      | (refine CallF_in (hT1) rfl rfl ?_)
      | (refine Fn.use (hT2) rfl rfl ?_)
      | (refine CallF_in (hT2) rfl rfl ?_)
      | (refine Br_split (fun h => ?_) (fun h => ?_))
      | (refine fin0 rfl ?_)
      | (refine ArK_in (wrap_i64 (by omega) (by omega)) ?_)
      | (refine force_in ?_)))
    all_goals rfl
theorem law_Tells_args (xs : List AV) (h : ArgsOk Tryd.prog [23, 3, 25] xs) : Fn Tryd.prog 3 xs (.b true) := by
  obtain ⟨x, y, z, rfl, h1, h2, h3⟩ := args_3 h
  obtain ⟨d, hd, rfl⟩ := arg_one (s := treeSh) h1 (by kernel_rfl) (fun _ => by kernel_rfl)
  obtain ⟨d2, hd2, rfl⟩ := arg_one (s := i64) h2 (by kernel_rfl) (fun _ => by kernel_rfl)
  obtain ⟨ds, hd3, rfl⟩ := arg_agg (shs := attrSh) h3 (by kernel_rfl) (fun _ => by kernel_rfl)
  obtain ⟨t, rfl⟩ := has_tree hd
  obtain ⟨n, rfl⟩ := has_int hd2
  obtain ⟨a, rfl⟩ := row_attr hd3
  exact law_Tells t n a
end Go.Eng
set_option linter.unusedVariables false
set_option linter.unusedSimpArgs false
namespace Go.Eng
open Go
theorem getV_mem {l : List Attr} (h : Rise l) {a : Attr} (ha : a ∈ l) : getV l a.name = (a.value, true) := by
  induction l with
  | nil => simp at ha
  | cons b r ih =>
    obtain ⟨h1, h2⟩ := List.pairwise_cons.1 h
    unfold getV
    simp only [List.find?_cons]
    rcases List.mem_cons.1 ha with rfl | ha
    · simp
    · have := h1 a ha
      have e : (b.name == a.name) = false := by simp; omega
      rw [e]
      exact ih h2 ha
theorem getV_none {l : List Attr} {m : Int} (h : ∀ a ∈ l, a.name ≠ m) : getV l m = (0, false) := by
  unfold getV
  have : l.find? (fun a => a.name == m) = none := List.find?_eq_none.2 fun a ha => by simpa using h a ha
  rw [this]
theorem getV_eq {l q : List Attr} (hl : Rise l) (hq : Rise q) {m : Int} (h : ∀ a : Attr, a.name = m → (a ∈ l ↔ a ∈ q)) : getV l m = getV q m := by
  by_cases he : ∃ a ∈ l, a.name = m
  · obtain ⟨a, ha, rfl⟩ := he
    rw [getV_mem hl ha, getV_mem hq ((h a rfl).1 ha)]
  · have h1 : ∀ a ∈ l, a.name ≠ m := fun a ha e => he ⟨a, ha, e⟩
    rw [getV_none h1, getV_none fun a ha e => h1 a ((h a e).2 ha) e]
theorem setR_err {t : Tree} {n : Int} {a : Attr} (h : (setR t n a).2 ≠ 0) : decide ((setR t n a).1 = t) = ((setR t n a).2 != 1 || t.length == 0) := by
  unfold setR at *
  by_cases h1 : mayB t = false
  · simp only [if_pos h1]
    cases t <;> simp
  · simp only [if_neg h1] at h ⊢
    by_cases h2 : isN t n = false
    · simp [if_pos h2]
    · simp only [if_neg h2] at h ⊢
      by_cases h3 : (nd t n).kind ≠ 1 ∧ (nd t n).kind ≠ 3
      · simp [if_pos h3]
      · simp only [if_neg h3] at h ⊢
        by_cases h4 : attrB (nd t n).kind a = false
        · simp [if_pos h4]
        · simp only [if_neg h4] at h; exact absurd rfl h
structure SetOk (t : Tree) (n : Int) (a : Attr) : Prop where
  may : mayB t = true
  node : isN t n = true
  kind : (nd t n).kind = 1 ∨ (nd t n).kind = 3
  attr : attrB (nd t n).kind a = true
  eq : (setR t n a).1 = putAttrs t n (withL (nd t n).attrs a true)
theorem setR_ok {t : Tree} {n : Int} {a : Attr} (h : (setR t n a).2 = 0) : SetOk t n a := by
  unfold setR at h
  by_cases h1 : mayB t = false
  · rw [if_pos h1] at h; simp at h
  by_cases h2 : isN t n = false
  · rw [if_neg h1, if_pos h2] at h; simp at h
  by_cases h3 : (nd t n).kind ≠ 1 ∧ (nd t n).kind ≠ 3
  · rw [if_neg h1, if_neg h2, if_pos h3] at h; simp at h
  by_cases h4 : attrB (nd t n).kind a = false
  · rw [if_neg h1, if_neg h2, if_neg h3, if_pos h4] at h; simp at h
  exact ⟨by simpa using h1, by simpa using h2, by omega, by simpa using h4, by unfold setR; rw [if_neg h1, if_neg h2, if_neg h3, if_neg h4]⟩
section
variable {t : Tree} {n : Int} {a : Attr}
theorem SetOk.att (h : SetOk t n a) : (∀ x ∈ (nd t n).attrs, attrB (nd t n).kind x = true) ∧ Rise (nd t n).attrs := (attrsB_iff _ h.kind).1 (may_attrs h.may h.node)
theorem SetOk.names (h : SetOk t n a) : ∀ x ∈ (nd t n).attrs, 0 ≤ x.name ∧ x.name ≤ 9 := fun x hx => attrB_name (h.att.1 x hx)
theorem SetOk.rise (h : SetOk t n a) : Rise (withL (nd t n).attrs a true) := withL_rise _ _ _ h.names h.att.2
theorem SetOk.mem (h : SetOk t n a) (x : Attr) : x ∈ withL (nd t n).attrs a true ↔ (x ∈ (nd t n).attrs ∧ x.name ≠ a.name) ∨ x = a := by
  rw [withL_mem _ _ _ h.names]
  have := attrB_name h.attr
  simp [this.1, this.2]
theorem SetOk.may2 (h : SetOk t n a) : mayB (putAttrs t n (withL (nd t n).attrs a true)) = true := by
  rw [put_may t n _ h.may h.node]
  have hk : ({ nd t n with attrs := withL (nd t n).attrs a true } : Node).kind = 1 ∨ ({ nd t n with attrs := withL (nd t n).attrs a true } : Node).kind = 3 := h.kind
  refine (attrsB_iff _ hk).2 ⟨fun x hx => ?_, h.rise⟩
  rcases (h.mem x).1 hx with ⟨hx, _⟩ | rfl
  · exact h.att.1 x hx
  · exact h.attr
theorem SetOk.nd2 (h : SetOk t n a) (l : List Attr) : nd (putAttrs t n l) n = { nd t n with attrs := l } := by
  rw [put_nd t n n l h.node (nd_pos h.node), if_pos rfl]
theorem SetOk.got (h : SetOk t n a) : getV (withL (nd t n).attrs a true) a.name = (a.value, true) := getV_mem h.rise ((h.mem a).2 (.inr rfl))
theorem SetOk.other (h : SetOk t n a) {m : Int} (hm : m ≠ a.name) : getV (withL (nd t n).attrs a true) m = getV (nd t n).attrs m := by
  refine getV_eq h.rise h.att.2 fun x hx => ?_
  rw [h.mem]
  constructor
  · rintro (⟨h1, _⟩ | rfl)
    · exact h1
    · exact absurd hx.symm hm
  · intro h1; exact .inl ⟨h1, by rw [hx]; exact hm⟩
def backT (t : Tree) (n : Int) (a : Attr) : Tree := putAttrs (putAttrs t n (withL (nd t n).attrs a true)) n (withL (withL (nd t n).attrs a true) ⟨a.name, 0⟩ false)
theorem SetOk.names2 (h : SetOk t n a) : ∀ x ∈ withL (nd t n).attrs a true, 0 ≤ x.name ∧ x.name ≤ 9 := fun x hx => by
  rcases (h.mem x).1 hx with ⟨hx, _⟩ | rfl
  · exact h.names x hx
  · exact attrB_name h.attr
theorem SetOk.mem2 (h : SetOk t n a) (x : Attr) : x ∈ withL (withL (nd t n).attrs a true) ⟨a.name, 0⟩ false ↔ x ∈ (nd t n).attrs ∧ x.name ≠ a.name := by
  rw [withL_mem _ _ _ h.names2, h.mem]
  simp only [Bool.false_eq_true, false_and, or_false]
  constructor
  · rintro ⟨h1 | rfl, h2⟩
    · exact ⟨h1.1, h2⟩
    · exact absurd rfl h2
  · rintro ⟨h1, h2⟩; exact ⟨.inl ⟨h1, h2⟩, h2⟩
theorem SetOk.rise2 (h : SetOk t n a) : Rise (withL (withL (nd t n).attrs a true) ⟨a.name, 0⟩ false) := withL_rise _ _ _ h.names2 h.rise
theorem SetOk.isN2 (h : SetOk t n a) (l : List Attr) : isN (putAttrs t n l) n = true := by rw [put_isN]; exact h.node
theorem SetOk.drop (h : SetOk t n a) : dropR (putAttrs t n (withL (nd t n).attrs a true)) n a.name = (backT t n a, 0) := by
  unfold dropR backT
  rw [h.may2, h.isN2, h.nd2]
  simp only [Bool.true_eq_false, if_false, h.got]
theorem SetOk.may3 (h : SetOk t n a) : mayB (backT t n a) = true := by
  unfold backT
  rw [put_may _ n _ h.may2 (h.isN2 _), h.nd2]
  have hk : ({ nd t n with attrs := withL (withL (nd t n).attrs a true) ⟨a.name, 0⟩ false } : Node).kind = 1 ∨ ({ nd t n with attrs := withL (withL (nd t n).attrs a true) ⟨a.name, 0⟩ false } : Node).kind = 3 := h.kind
  exact (attrsB_iff _ hk).2 ⟨fun x hx => h.att.1 x ((h.mem2 x).1 hx).1, h.rise2⟩
theorem SetOk.gone (h : SetOk t n a) : getP (backT t n a) n a.name = (0, false) := by
  unfold getP backT
  have hn : isN (putAttrs (putAttrs t n (withL (nd t n).attrs a true)) n (withL (withL (nd t n).attrs a true) ⟨a.name, 0⟩ false)) n = true := by rw [put_isN, put_isN]; exact h.node
  have hm := h.may3
  unfold backT at hm
  rw [hm, hn, put_nd _ n n _ (h.isN2 _) (nd_pos h.node), if_pos rfl]
  simp only [Bool.and_self, if_true]
  exact getV_none fun x hx => ((h.mem2 x).1 hx).2
theorem SetOk.get1 (h : SetOk t n a) : getP (putAttrs t n (withL (nd t n).attrs a true)) n a.name = (a.value, true) := by
  unfold getP
  rw [h.may2, h.isN2, h.nd2]
  simp only [Bool.and_self, if_true]
  exact h.got
theorem SetOk.get2 (h : SetOk t n a) {m : Int} (hm : m ≠ a.name) : getP (putAttrs t n (withL (nd t n).attrs a true)) n m = getP t n m := by
  unfold getP
  rw [h.may2, h.isN2, h.nd2, h.may, h.node]
  simp only [Bool.and_self, if_true]
  exact h.other hm
theorem withL_count (l : List Attr) (a : Attr) (b : Bool) : (withL l a b).length ≤ 10 * (l.length + 1) := withTo_len l a b 10
theorem put_small {t : Tree} {n : Int} {l : List Attr} (hs : SmallT t) (hl : l.length ≤ 1000) : SmallT (putAttrs t n l) := by
  refine ⟨by rw [put_len]; exact hs.1, fun x hx => ?_⟩
  unfold putAttrs at hx
  rcases List.mem_or_eq_of_mem_set hx with hx | rfl
  · exact hs.2 x hx
  · refine ⟨?_, hl⟩
    by_cases hk : n.toNat < t.length
    · have : nd t n ∈ t := by unfold nd; simp [List.getD, hk]
      exact (hs.2 _ this).1
    · have : nd t n = default := by unfold nd; simp [List.getD, hk]
      simp only [this]
      show ([] : List Int).length ≤ 1000
      simp
end
end Go.Eng
set_option maxRecDepth 100000
set_option linter.unusedVariables false
set_option linter.unusedSimpArgs false
namespace Go.Eng
open Go Go.Proofs
set_option maxHeartbeats 4000000 in
theorem law_Back (t : Tree) (n : Int) (a : Attr) : Fn Tryd.prog 5 [.d (treeD t), .i n, aggD a.cs] (.b true) := by
  refine Fn_of tt_ok Tryd.func5 rfl (by decide) Tryd.ntmps5 rfl ?_
  have hsm := ref_Small t
  cases hS : smallB t <;> rw [hS] at hsm
  · repeat' ((conv => whnf); (first
    | (refine Br_true (by assumption) ?_)
    | (refine Br_false (by assumption) ?_)
    | (refine Br_true (beqT (by omega)) ?_)
    | (refine Br_false (beqF (by omega)) ?_)
    | (refine Br_beq (fun h => ?_) (fun h => ?_))
    | (refine Br_true (bneT (by omega)) ?_)
    | (refine Br_false (bneF (by omega)) ?_)
    | (refine Br_bne (fun h => ?_) (fun h => ?_))
    | (refine Br_true (decide_eq_true (by omega)) ?_)
    | (refine Br_false (decide_eq_false (by omega)) ?_)
    | (refine Br_dec (fun h => ?_) (fun h => ?_))
    | (refine Br_not ?_)
    | (refine Len_in (fun hlen => ?_))
    | (refine Fn.use (hsm) rfl rfl ?_)
    | (refine CallF_in (hsm) rfl rfl ?_)
    | (refine Fn.use (live_true) rfl rfl ?_)
    | (refine CallF_in (live_true) rfl rfl ?_)
    | (refine Br_split (fun h => ?_) (fun h => ?_))
    | (refine fin0 rfl ?_)
    | (refine ArK_in (wrap_i64 (by omega) (by omega)) ?_)
    | (refine force_in ?_)))
    all_goals rfl
  have hs := small_T hS
  have hS1 := attr_Set t n a hs
  rw [setG_R] at hS1
  clear hS
  by_cases he : (setR t n a).2 = 0
  rotate_left
  · have hse := setR_err he
    have hsame := ref_Same (setR t n a).1 t
    generalize setR t n a = r at *
    obtain ⟨B, e⟩ := r
    simp only at hse hsame he hS1
    rw [hse] at hsame
    clear hse
    by_cases he1 : e = 1
    · subst he1
      have e1 : ((1 : Int) != 1 || t.length == 0) = (t.length == 0) := by simp
      rw [e1] at hsame
      by_cases ht : t.length = 0
      · have hcmp : (true == (((List.map Node.cs t).length : Int) == 0)) = true := by simp [ht]
        have e2 : (t.length == 0) = true := by simp [ht]
        rw [e2] at hsame
        repeat' ((conv => whnf); (first
          | (refine Br_true hcmp ?_)
          | (refine Br_true (by assumption) ?_)
          | (refine Br_false (by assumption) ?_)
          | (refine Br_true (beqT (by omega)) ?_)
          | (refine Br_false (beqF (by omega)) ?_)
          | (refine Br_beq (fun h => ?_) (fun h => ?_))
          | (refine Br_true (bneT (by omega)) ?_)
          | (refine Br_false (bneF (by omega)) ?_)
          | (refine Br_bne (fun h => ?_) (fun h => ?_))
          | (refine Br_true (decide_eq_true (by omega)) ?_)
          | (refine Br_false (decide_eq_false (by omega)) ?_)
          | (refine Br_dec (fun h => ?_) (fun h => ?_))
          | (refine Br_not ?_)
          | (refine Len_in (fun hlen => ?_))
          | (refine Fn.use (hsm) rfl rfl ?_)
          | (refine CallF_in (hsm) rfl rfl ?_)
          | (refine Fn.use (live_true) rfl rfl ?_)
          | (refine CallF_in (live_true) rfl rfl ?_)
          | (refine Fn.use (hS1) rfl rfl ?_)
          | (refine CallF_in (hS1) rfl rfl ?_)
          | (refine Fn.use (hsame) rfl rfl ?_)
          | (refine CallF_in (hsame) rfl rfl ?_)
          | (refine Br_split (fun h => ?_) (fun h => ?_))
          | (refine fin0 rfl ?_)
          | (refine ArK_in (wrap_i64 (by omega) (by omega)) ?_)
          | (refine force_in ?_)))
        all_goals rfl
      · have hcmp : (false == (((List.map Node.cs t).length : Int) == 0)) = true := by
          have : ((List.map Node.cs t).length : Int) ≠ 0 := by rw [List.length_map]; omega
          simp [this]
          intro h; subst h; simp at ht
        have e2 : (t.length == 0) = false := by simp; intro h; subst h; simp at ht
        rw [e2] at hsame
        repeat' ((conv => whnf); (first
          | (refine Br_true hcmp ?_)
          | (refine Br_true (by assumption) ?_)
          | (refine Br_false (by assumption) ?_)
          | (refine Br_true (beqT (by omega)) ?_)
          | (refine Br_false (beqF (by omega)) ?_)
          | (refine Br_beq (fun h => ?_) (fun h => ?_))
          | (refine Br_true (bneT (by omega)) ?_)
          | (refine Br_false (bneF (by omega)) ?_)
          | (refine Br_bne (fun h => ?_) (fun h => ?_))
          | (refine Br_true (decide_eq_true (by omega)) ?_)
          | (refine Br_false (decide_eq_false (by omega)) ?_)
          | (refine Br_dec (fun h => ?_) (fun h => ?_))
          | (refine Br_not ?_)
          | (refine Len_in (fun hlen => ?_))
          | (refine Fn.use (hsm) rfl rfl ?_)
          | (refine CallF_in (hsm) rfl rfl ?_)
          | (refine Fn.use (live_true) rfl rfl ?_)
          | (refine CallF_in (live_true) rfl rfl ?_)
          | (refine Fn.use (hS1) rfl rfl ?_)
          | (refine CallF_in (hS1) rfl rfl ?_)
          | (refine Fn.use (hsame) rfl rfl ?_)
          | (refine CallF_in (hsame) rfl rfl ?_)
          | (refine Br_split (fun h => ?_) (fun h => ?_))
          | (refine fin0 rfl ?_)
          | (refine ArK_in (wrap_i64 (by omega) (by omega)) ?_)
          | (refine force_in ?_)))
        all_goals rfl
    · have e1 : (e != 1 || t.length == 0) = true := by simp [he1]
      rw [e1] at hsame
      repeat' ((conv => whnf); (first
        | (refine Br_true (by assumption) ?_)
        | (refine Br_false (by assumption) ?_)
        | (refine Br_true (beqT (by omega)) ?_)
        | (refine Br_false (beqF (by omega)) ?_)
        | (refine Br_beq (fun h => ?_) (fun h => ?_))
        | (refine Br_true (bneT (by omega)) ?_)
        | (refine Br_false (bneF (by omega)) ?_)
        | (refine Br_bne (fun h => ?_) (fun h => ?_))
        | (refine Br_true (decide_eq_true (by omega)) ?_)
        | (refine Br_false (decide_eq_false (by omega)) ?_)
        | (refine Br_dec (fun h => ?_) (fun h => ?_))
        | (refine Br_not ?_)
        | (refine Len_in (fun hlen => ?_))
        | (refine Fn.use (hsm) rfl rfl ?_)
        | (refine CallF_in (hsm) rfl rfl ?_)
        | (refine Fn.use (live_true) rfl rfl ?_)
        | (refine CallF_in (live_true) rfl rfl ?_)
        | (refine Fn.use (hS1) rfl rfl ?_)
        | (refine CallF_in (hS1) rfl rfl ?_)
        | (refine Fn.use (hsame) rfl rfl ?_)
        | (refine CallF_in (hsame) rfl rfl ?_)
        | (refine Br_split (fun h => ?_) (fun h => ?_))
        | (refine fin0 rfl ?_)
        | (refine ArK_in (wrap_i64 (by omega) (by omega)) ?_)
        | (refine force_in ?_)))
      all_goals rfl
  · have ok := setR_ok he
    have hB := ok.eq
    have hl20 := may_len ok.may ok.node
    have hwl := withL_count (nd t n).attrs a true
    have hs2 : SmallT (putAttrs t n (withL (nd t n).attrs a true)) := put_small hs (by omega)
    rw [hB, he] at hS1
    have hG := attr_Get (putAttrs t n (withL (nd t n).attrs a true)) n a.name
    rw [ok.get1] at hG
    have hM1 := ref_May (putAttrs t n (withL (nd t n).attrs a true))
    rw [ok.may2] at hM1
    have hD := attr_Drop (putAttrs t n (withL (nd t n).attrs a true)) n a.name hs2
    rw [dropG_R, ok.drop] at hD
    have hH := attr_Has (backT t n a) n a.name
    rw [ok.gone] at hH
    have hM2 := ref_May (backT t n a)
    rw [ok.may3] at hM2
    have hGm : ∀ m : Int, m ≠ a.name → Fn Tryd.prog 11 [.d (treeD (putAttrs t n (withL (nd t n).attrs a true))), .i n, .i m] (.tup [.i (getP t n m).1, .b (getP t n m).2]) := fun m hm => by
      have := attr_Get (putAttrs t n (withL (nd t n).attrs a true)) n m
      rwa [ok.get2 hm] at this
    have hlen : (putAttrs t n (withL (nd t n).attrs a true)).length = t.length := put_len _ _ _
    have hGa := fun m => attr_Get (putAttrs t n (withL (nd t n).attrs a true)) n m
    clear hB he hs2 hwl hl20 ok
    generalize hBB : putAttrs t n (withL (nd t n).attrs a true) = B at *
    generalize backT t n a = C at *
    simp only at hG hD hH
    repeat' ((conv => whnf); (first
      | (refine Br_true (by assumption) ?_)
      | (refine Br_false (by assumption) ?_)
      | (refine Br_true (beqT (by omega)) ?_)
      | (refine Br_false (beqF (by omega)) ?_)
      | (refine Br_beq (fun h => ?_) (fun h => ?_))
      | (refine Br_true (bneT (by omega)) ?_)
      | (refine Br_false (bneF (by omega)) ?_)
      | (refine Br_bne (fun h => ?_) (fun h => ?_))
      | (refine Br_true (decide_eq_true (by omega)) ?_)
      | (refine Br_false (decide_eq_false (by omega)) ?_)
      | (refine Br_dec (fun h => ?_) (fun h => ?_))
      | (refine Br_not ?_)
      | (refine Len_in (fun hlen => ?_))
      | (refine Fn.use (hsm) rfl rfl ?_)
      | (refine CallF_in (hsm) rfl rfl ?_)
      | (refine Fn.use (hS1) rfl rfl ?_)
      | (refine CallF_in (hS1) rfl rfl ?_)
      | (refine Fn.use (hG) rfl rfl ?_)
      | (refine CallF_in (hG) rfl rfl ?_)
      | (refine Br_split (fun h => ?_) (fun h => ?_))
      | (refine fin0 rfl ?_)
      | (refine ArK_in (wrap_i64 (by omega) (by omega)) ?_)
      | (refine force_in ?_)))
    refine W_loop (fun μ s => ∃ (k : Nat), k ≤ 12 ∧ μ = 12 - k ∧ s = ⟨[(0, .d (treeD t)), (1, .i n), (5, .ptr 0 0), (7, .d (treeD B)), (9, .i a.value), (10, .b true), (11, .i ((k : Int) - 1))], 130, [some (.row [.i a.name, .i a.value])], 0, []⟩) 12
      ⟨_, ?_, 0, by omega, rfl, rfl⟩ ?_
    · exact Wk_env (by repeat (first | exact trivial | refine ⟨rfl, ?_⟩))
    rintro μ s1 ⟨k, hk, rfl, rfl⟩
    refine W_run tt_ok ?_
    have hk1 : ((k : Int) - 1 + 1) = ((k + 1 : Nat) : Int) - 1 := by omega
    by_cases hend : k < 12
    · have h10 : decide ((k : Int) - 1 ≤ 10) = true := decide_eq_true (by omega)
      have hg1 := attr_Get t n ((k : Int) - 1)
      by_cases hn : (k : Int) - 1 = a.name
      · have hg2 := hGa ((k : Int) - 1)
        generalize getP t n ((k : Int) - 1) = r1 at *
        generalize getP B n ((k : Int) - 1) = r2 at *
        repeat' ((conv => whnf); (first
          | (refine Br_true h10 ?_)
          | (refine Br_true (by assumption) ?_)
          | (refine Br_false (by assumption) ?_)
          | (refine Br_true (beqT (by omega)) ?_)
          | (refine Br_false (beqF (by omega)) ?_)
          | (refine Br_beq (fun h => ?_) (fun h => ?_))
          | (refine Br_true (bneT (by omega)) ?_)
          | (refine Br_false (bneF (by omega)) ?_)
          | (refine Br_bne (fun h => ?_) (fun h => ?_))
          | (refine Br_true (decide_eq_true (by omega)) ?_)
          | (refine Br_false (decide_eq_false (by omega)) ?_)
          | (refine Br_dec (fun h => ?_) (fun h => ?_))
          | (refine Br_not ?_)
          | (refine Len_in (fun hlen => ?_))
          | (refine Fn.use (hg1) rfl rfl ?_)
          | (refine CallF_in (hg1) rfl rfl ?_)
          | (refine Fn.use (hg2) rfl rfl ?_)
          | (refine CallF_in (hg2) rfl rfl ?_)
          | (refine Back_in _ _ ⟨k + 1, by omega, rfl, rfl⟩ (by omega) (Wk_env (by rw [← hk1]; repeat (first | exact trivial | refine ⟨rfl, ?_⟩))))
          | (refine Br_split (fun h => ?_) (fun h => ?_))
          | (refine fin0 rfl ?_)
          | (refine ArK_in (wrap_i64 (by omega) (by omega)) ?_)
          | (refine force_in ?_)))
      · have hg2 := hGm ((k : Int) - 1) hn
        generalize getP t n ((k : Int) - 1) = r1 at *
        obtain ⟨v1, b1⟩ := r1
        simp only at hg1 hg2
        have hv : (v1 != v1) = false := by simp
        have hb : (b1 == b1) = true := by simp
        have hb2 : (!(b1 == b1)) = false := by simp
        repeat' ((conv => whnf); (first
          | (refine Br_true h10 ?_)
          | (refine Br_false hv ?_)
          | (refine Br_true hb ?_)
          | (refine Br_false hb2 ?_)
          | (refine Br_true (by assumption) ?_)
          | (refine Br_false (by assumption) ?_)
          | (refine Br_true (beqT (by omega)) ?_)
          | (refine Br_false (beqF (by omega)) ?_)
          | (refine Br_beq (fun h => ?_) (fun h => ?_))
          | (refine Br_true (bneT (by omega)) ?_)
          | (refine Br_false (bneF (by omega)) ?_)
          | (refine Br_bne (fun h => ?_) (fun h => ?_))
          | (refine Br_true (decide_eq_true (by omega)) ?_)
          | (refine Br_false (decide_eq_false (by omega)) ?_)
          | (refine Br_dec (fun h => ?_) (fun h => ?_))
          | (refine Br_not ?_)
          | (refine Len_in (fun hlen => ?_))
          | (refine Fn.use (hg1) rfl rfl ?_)
          | (refine CallF_in (hg1) rfl rfl ?_)
          | (refine Fn.use (hg2) rfl rfl ?_)
          | (refine CallF_in (hg2) rfl rfl ?_)
          | (refine Back_in _ _ ⟨k + 1, by omega, rfl, rfl⟩ (by omega) (Wk_env (by rw [← hk1]; repeat (first | exact trivial | refine ⟨rfl, ?_⟩))))
          | (refine Br_split (fun h => ?_) (fun h => ?_))
          | (refine fin0 rfl ?_)
          | (refine ArK_in (wrap_i64 (by omega) (by omega)) ?_)
          | (refine force_in ?_)))
    · have h10 : decide ((k : Int) - 1 ≤ 10) = false := decide_eq_false (by omega)
      have hvv : (a.value == a.value) = true := by simp
      have hll : ((((List.map Node.cs B).length : Nat) : Int) == ((List.map Node.cs t).length : Nat)) = true := by simp [hlen]
      repeat' ((conv => whnf); (first
        | (refine Br_false h10 ?_)
        | (refine Br_true hvv ?_)
        | (refine Br_true hll ?_)
        | (refine Br_true (by assumption) ?_)
        | (refine Br_false (by assumption) ?_)
        | (refine Br_true (beqT (by omega)) ?_)
        | (refine Br_false (beqF (by omega)) ?_)
        | (refine Br_beq (fun h => ?_) (fun h => ?_))
        | (refine Br_true (bneT (by omega)) ?_)
        | (refine Br_false (bneF (by omega)) ?_)
        | (refine Br_bne (fun h => ?_) (fun h => ?_))
        | (refine Br_true (decide_eq_true (by omega)) ?_)
        | (refine Br_false (decide_eq_false (by omega)) ?_)
        | (refine Br_dec (fun h => ?_) (fun h => ?_))
        | (refine Br_not ?_)
        | (refine Len_in (fun hlen => ?_))
        | (refine Fn.use (hD) rfl rfl ?_)
        | (refine CallF_in (hD) rfl rfl ?_)
        | (refine Fn.use (hH) rfl rfl ?_)
        | (refine CallF_in (hH) rfl rfl ?_)
        | (refine Fn.use (hM1) rfl rfl ?_)
        | (refine CallF_in (hM1) rfl rfl ?_)
        | (refine Fn.use (hM2) rfl rfl ?_)
        | (refine CallF_in (hM2) rfl rfl ?_)
        | (refine Fn.use (live_true) rfl rfl ?_)
        | (refine CallF_in (live_true) rfl rfl ?_)
        | (refine Br_split (fun h => ?_) (fun h => ?_))
        | (refine fin0 rfl ?_)
        | (refine ArK_in (wrap_i64 (by omega) (by omega)) ?_)
        | (refine force_in ?_)))
      all_goals rfl
theorem law_Back_args (xs : List AV) (h : ArgsOk Tryd.prog [23, 3, 25] xs) : Fn Tryd.prog 5 xs (.b true) := by
  obtain ⟨x, y, z, rfl, h1, h2, h3⟩ := args_3 h
  obtain ⟨d, hd, rfl⟩ := arg_one (s := treeSh) h1 (by kernel_rfl) (fun _ => by kernel_rfl)
  obtain ⟨d2, hd2, rfl⟩ := arg_one (s := i64) h2 (by kernel_rfl) (fun _ => by kernel_rfl)
  obtain ⟨ds, hd3, rfl⟩ := arg_agg (shs := attrSh) h3 (by kernel_rfl) (fun _ => by kernel_rfl)
  obtain ⟨t, rfl⟩ := has_tree hd
  obtain ⟨n, rfl⟩ := has_int hd2
  obtain ⟨a, rfl⟩ := row_attr hd3
  exact law_Back t n a
end Go.Eng
set_option linter.unusedVariables false
set_option linter.unusedSimpArgs false
namespace Go.Eng
open Go
theorem digit_blank {c : UInt8} (h : digitB c = true) : blankB c = false := by
  unfold digitB at h; unfold blankB
  simp at h ⊢; omega
theorem take_digits {l : List UInt8} (h : ∀ c ∈ l, digitB c = true) : l.takeWhile digitB = l := by
  induction l with
  | nil => rfl
  | cons a r ih => rw [List.takeWhile_cons, if_pos (h a (by simp)), ih fun c hc => h c (by simp [hc])]
theorem mem_tw {p : UInt8 → Bool} : ∀ {l : List UInt8} {c : UInt8}, c ∈ l.takeWhile p → p c = true := by
  intro l
  induction l with
  | nil => intro c h; simp at h
  | cons a r ih =>
    intro c h
    rw [List.takeWhile_cons] at h
    split at h
    · rename_i hp
      rcases List.mem_cons.1 h with rfl | h
      · exact hp
      · exact ih h
    · simp at h
theorem idx_of (l ds : List UInt8) (sg : Int) (h1 : l.dropWhile blankB = l) (h2 : (afterSign l).takeWhile digitB = ds) (h3 : signOf l = sg) : idxOf l = if ds = [] then (0, false) else (mnI (sg * valD ds) 2147483647, true) := by
  unfold idxOf
  simp only [h1, h2, h3]
theorem drop_head (c : UInt8) (l : List UInt8) (h : blankB c = false) : (c :: l).dropWhile blankB = c :: l := by
  rw [List.dropWhile_cons, if_neg (by simp [h])]
theorem digit_sign {c : UInt8} (h : digitB c = true) : c ≠ 45 ∧ c ≠ 43 := by
  unfold digitB at h
  simp at h
  constructor
  · rintro rfl; revert h; decide
  · rintro rfl; revert h; decide
theorem idx_digits (l : List UInt8) (h : ∀ c ∈ l, digitB c = true) : idxOf l = if l = [] then (0, false) else (mnI (valD l) 2147483647, true) := by
  cases l with
  | nil => rfl
  | cons c r =>
    have hc := h c (by simp)
    obtain ⟨s1, s2⟩ := digit_sign hc
    have := idx_of (c :: r) (c :: r) 1 (drop_head c r (digit_blank hc)) (by
      have : afterSign (c :: r) = c :: r := by unfold afterSign; simp [s1, s2]
      rw [this, take_digits h]) (by unfold signOf; simp [s1])
    rw [this, Int.one_mul]
theorem idx_minus (l : List UInt8) (h : ∀ c ∈ l, digitB c = true) : idxOf (45 :: l) = if l = [] then (0, false) else (mnI (-1 * valD l) 2147483647, true) :=
  idx_of (45 :: l) l (-1) (drop_head 45 l (by unfold blankB; decide)) (by
    have : afterSign (45 :: l) = l := rfl
    rw [this, take_digits h]) rfl
theorem idx_plus (l : List UInt8) (h : ∀ c ∈ l, digitB c = true) : idxOf (43 :: l) = if l = [] then (0, false) else (mnI (valD l) 2147483647, true) := by
  have := idx_of (43 :: l) l 1 (drop_head 43 l (by unfold blankB; decide)) (by
    have : afterSign (43 :: l) = l := rfl
    rw [this, take_digits h]) rfl
  rw [this, Int.one_mul]
theorem valD_zero (l : List UInt8) : valD (48 :: l) = valD l := by
  unfold valD
  simp only [List.foldl_cons]
  rfl
theorem idx_zeros (l : List UInt8) (h : ∀ c ∈ l, digitB c = true) : idxOf (48 :: 48 :: 48 :: l) = (mnI (valD l) 2147483647, true) := by
  have hd : digitB 48 = true := by unfold digitB; decide
  have := idx_digits (48 :: 48 :: 48 :: l) (fun c hc => by
    simp only [List.mem_cons] at hc
    rcases hc with rfl | rfl | rfl | hc
    · exact hd
    · exact hd
    · exact hd
    · exact h c hc)
  rw [this, if_neg (by simp), valD_zero, valD_zero, valD_zero]
theorem str_app (a b : List UInt8) : (⟨a.toArray⟩ : ByteArray) ++ ⟨b.toArray⟩ = ⟨(a ++ b).toArray⟩ := by
  apply ByteArray.ext
  simp [ByteArray.data_append]
def digs : Nat → Nat → List UInt8
  | 0, _ => []
  | f + 1, n => if 10 ≤ n then digs f (n / 10) ++ [UInt8.ofNat (48 + n % 10)] else [UInt8.ofNat (48 + n % 10)]
theorem dig_digit (n : Nat) : digitB (UInt8.ofNat (48 + n % 10)) = true := by
  unfold digitB
  have : (UInt8.ofNat (48 + n % 10)).toNat = 48 + n % 10 := by rw [UInt8.toNat_ofNat']; omega
  rw [this]; simp; omega
theorem digs_digit (f : Nat) : ∀ n, ∀ c ∈ digs f n, digitB c = true := by
  induction f with
  | zero => intro n c h; simp [digs] at h
  | succ f ih =>
    intro n c h
    simp only [digs] at h
    split at h
    · rcases List.mem_append.1 h with h | h
      · exact ih _ c h
      · rw [List.mem_singleton.1 h]; exact dig_digit n
    · rw [List.mem_singleton.1 h]; exact dig_digit n
theorem digs_val (f : Nat) : ∀ n, n < 10 ^ f → n ≤ 2147483648 → 0 < f → valD (digs f n) = n := by
  induction f with
  | zero => intro n _ _ h; omega
  | succ f ih =>
    intro n hn hm _
    have hd : (UInt8.ofNat (48 + n % 10)).toNat = 48 + n % 10 := by rw [UInt8.toNat_ofNat']; omega
    simp only [digs]
    split
    · rename_i h10
      have hf : 0 < f := by
        rcases Nat.eq_zero_or_pos f with h | h
        · subst h; omega
        · exact h
      rw [valD_snoc, ih (n / 10) (by rw [Nat.pow_succ] at hn; omega) (by omega) hf]
      unfold valS mnI
      rw [hd]
      split <;> omega
    · have : valD [UInt8.ofNat (48 + n % 10)] = valS 0 (UInt8.ofNat (48 + n % 10)) := rfl
      rw [this]
      unfold valS mnI
      rw [hd]
      split <;> omega
theorem digs_ne (f n : Nat) (h : 0 < f) : digs f n ≠ [] := by
  cases f with
  | zero => omega
  | succ f => simp only [digs]; split <;> simp
theorem digs_len (f : Nat) : ∀ n, (digs f n).length ≤ f := by
  induction f with
  | zero => intro n; simp [digs]
  | succ f ih => intro n; simp only [digs]; split <;> simp; exact ih _
theorem idx_blank (l : List UInt8) : idxOf (32 :: l) = idxOf l := by
  unfold idxOf
  have : (32 :: l).dropWhile blankB = l.dropWhile blankB := by
    rw [List.dropWhile_cons, if_pos (by unfold blankB; decide)]
  rw [this]
theorem idx_blanks (l : List UInt8) (k : Nat) : idxOf (List.replicate k 32 ++ l) = idxOf l := by
  induction k with
  | zero => rfl
  | succ k ih => rw [List.replicate_succ, List.cons_append, idx_blank, ih]
theorem idx_semi (ds : List UInt8) (h : ∀ c ∈ ds, digitB c = true) (hne : ds ≠ []) : idxOf (ds ++ [59]) = (mnI (valD ds) 2147483647, true) := by
  cases ds with
  | nil => exact absurd rfl hne
  | cons c r =>
    have hc := h c (by simp)
    obtain ⟨s1, s2⟩ := digit_sign hc
    have htw : ∀ q : List UInt8, (∀ c ∈ q, digitB c = true) → (q ++ [59]).takeWhile digitB = q := by
      intro q
      induction q with
      | nil => intro _; rw [List.nil_append, List.takeWhile_cons, if_neg (by unfold digitB; decide)]
      | cons a t ih =>
        intro hq
        rw [List.cons_append, List.takeWhile_cons, if_pos (hq a (by simp)), ih (fun c hc => hq c (by simp [hc]))]
    have := idx_of (c :: r ++ [59]) (c :: r) 1 (drop_head c _ (digit_blank hc)) (by
      have : afterSign (c :: r ++ [59]) = c :: r ++ [59] := by unfold afterSign; simp [s1, s2]
      rw [this, htw _ h]) (by unfold signOf; simp [s1])
    rw [this, Int.one_mul, if_neg (by simp)]
theorem idx_bd (l : List UInt8) : -2147483648 ≤ (idxOf l).1 ∧ (idxOf l).1 ≤ 2147483647 := by
  unfold idxOf
  simp only
  split
  · simp
  · have := valD_bd ((afterSign (l.dropWhile blankB)).takeWhile digitB) (fun c hc => by
      exact mem_tw hc)
    unfold mnI signOf
    split <;> split <;> (try omega) <;> (simp only at *; omega)
end Go.Eng
set_option maxRecDepth 100000
set_option linter.unusedVariables false
set_option linter.unusedSimpArgs false
namespace Go.Eng
open Go Go.Proofs
theorem wrap_u8 {e : Int} (h1 : 0 ≤ e) (h2 : e ≤ 255) : IntKind.u8.wrap e = e := by
  simp only [IntKind.wrap, IntKind.signed, IntKind.bits]; simp; omega
theorem law_digits (f : Nat) : ∀ n : Nat, n < 10 ^ f → 0 < f → n ≤ 2147483648 → f ≤ 20 → Fn Tryd.prog 22 [.i n] (.d (str (digs f n))) := by
  induction f with
  | zero => intro n _ h; omega
  | succ f ih =>
    intro n hn _ hm hf
    refine Fn_of tt_ok Tryd.func22 rfl (by decide) Tryd.ntmps22 rfl ?_
    have e1 : (n : Int).tmod 10 = ((n % 10 : Nat) : Int) := rfl
    have e2 : (n : Int).tdiv 10 = ((n / 10 : Nat) : Int) := rfl
    have w1 : IntKind.i64.wrap (48 + (n : Int).tmod 10) = 48 + (n : Int).tmod 10 := wrap_i64 (by rw [e1]; omega) (by rw [e1]; omega)
    have w2 : IntKind.u8.wrap (48 + (n : Int).tmod 10) = 48 + (n : Int).tmod 10 := wrap_u8 (by rw [e1]; omega) (by rw [e1]; omega)
    have w3 : IntKind.i64.wrap ((n : Int).tdiv 10) = (n : Int).tdiv 10 := wrap_i64 (by rw [e2]; omega) (by rw [e2]; omega)
    have hc : (UInt8.ofNat (48 + n % 10)).toNat = 48 + n % 10 := by rw [UInt8.toNat_ofNat']; omega
    have ht : [[D.int .u8 (48 + (n : Int).tmod 10)]] = [UInt8.ofNat (48 + n % 10)].map (fun c => [D.int .u8 c.toNat]) := by
      rw [e1]; simp only [List.map_cons, List.map_nil, hc]; rfl
    by_cases h10 : 10 ≤ n
    · have hd : digs (f + 1) n = digs f (n / 10) ++ [UInt8.ofNat (48 + n % 10)] := by simp only [digs]; rw [if_pos h10]
      have h1 : decide ((n : Int) ≥ 10) = true := decide_eq_true (by omega)
      have hf0 : 0 < f := by
        rcases Nat.eq_zero_or_pos f with h | h
        · subst h; omega
        · exact h
      have hi := ih (n / 10) (by rw [Nat.pow_succ] at hn; omega) hf0 (by omega) (by omega)
      rw [← e2] at hi
      have hl := digs_len f (n / 10)
      have hsz : (⟨(digs f (n / 10)).toArray⟩ : ByteArray).size + (⟨[UInt8.ofNat (48 + n % 10)].toArray⟩ : ByteArray).size ≤ LB := by
        rw [str_size, str_size]; unfold LB; simp; omega
      have hres : (.d (.str ((⟨(digs f (n / 10)).toArray⟩ : ByteArray) ++ ⟨[UInt8.ofNat (48 + n % 10)].toArray⟩)) : AV) = .d (str (digs (f + 1) n)) := by rw [str_app, hd]
      repeat' ((conv => whnf); (first
        | (refine Br_true h1 ?_)
        | (refine Ch_r ?_)
        | (refine Br_true (by assumption) ?_)
        | (refine Br_false (by assumption) ?_)
        | (refine Br_true (beqT (by omega)) ?_)
        | (refine Br_false (beqF (by omega)) ?_)
        | (refine Br_beq (fun h => ?_) (fun h => ?_))
        | (refine Br_true (bneT (by omega)) ?_)
        | (refine Br_false (bneF (by omega)) ?_)
        | (refine Br_bne (fun h => ?_) (fun h => ?_))
        | (refine Br_true (decide_eq_true (by omega)) ?_)
        | (refine Br_false (decide_eq_false (by omega)) ?_)
        | (refine Br_dec (fun h => ?_) (fun h => ?_))
        | (refine Br_not ?_)
        | (refine Len_in (fun hlen => ?_))
        | (refine Need_in (by omega) ?_)
        | (refine ArK_in w1 ?_)
        | (refine ArK_in w2 ?_)
        | (refine ArK_in w3 ?_)
        | (refine Text_in _ ht ?_)
        | (refine Fn.use (hi) rfl rfl ?_)
        | (refine CallF_in (hi) rfl rfl ?_)
        | (refine Need_in hsz ?_)
        | (refine fin0 rfl hres)
        | (refine Br_split (fun h => ?_) (fun h => ?_))
        | (refine fin0 rfl ?_)
        | (refine ArK_in (wrap_i64 (by omega) (by omega)) ?_)
        | (refine force_in ?_)))
    · have hd : digs (f + 1) n = [UInt8.ofNat (48 + n % 10)] := by simp only [digs]; rw [if_neg h10]
      have h1 : decide ((n : Int) ≥ 10) = false := decide_eq_false (by omega)
      rw [hd]
      repeat' ((conv => whnf); (first
        | (refine Br_false h1 ?_)
        | (refine Ch_r ?_)
        | (refine Br_true (by assumption) ?_)
        | (refine Br_false (by assumption) ?_)
        | (refine Br_true (beqT (by omega)) ?_)
        | (refine Br_false (beqF (by omega)) ?_)
        | (refine Br_beq (fun h => ?_) (fun h => ?_))
        | (refine Br_true (bneT (by omega)) ?_)
        | (refine Br_false (bneF (by omega)) ?_)
        | (refine Br_bne (fun h => ?_) (fun h => ?_))
        | (refine Br_true (decide_eq_true (by omega)) ?_)
        | (refine Br_false (decide_eq_false (by omega)) ?_)
        | (refine Br_dec (fun h => ?_) (fun h => ?_))
        | (refine Br_not ?_)
        | (refine Len_in (fun hlen => ?_))
        | (refine Need_in (by omega) ?_)
        | (refine ArK_in w1 ?_)
        | (refine ArK_in w2 ?_)
        | (refine Text_in _ ht ?_)
        | (refine Br_split (fun h => ?_) (fun h => ?_))
        | (refine fin0 rfl ?_)
        | (refine ArK_in (wrap_i64 (by omega) (by omega)) ?_)
        | (refine force_in ?_)))
      rfl
set_option maxHeartbeats 4000000 in
theorem law_Digits (n b : Int) (l : List UInt8) : Fn Tryd.prog 6 [.i n, .i b, .d (str l)] (.b true) := by
  refine Fn_of tt_ok Tryd.func6 rfl (by decide) Tryd.ntmps6 rfl ?_
  have es := str_size l
  by_cases g1 : n < 0
  · repeat' ((conv => whnf); (first
    | (refine Br_true (by assumption) ?_)
    | (refine Br_false (by assumption) ?_)
    | (refine Br_true (beqT (by omega)) ?_)
    | (refine Br_false (beqF (by omega)) ?_)
    | (refine Br_beq (fun h => ?_) (fun h => ?_))
    | (refine Br_true (bneT (by omega)) ?_)
    | (refine Br_false (bneF (by omega)) ?_)
    | (refine Br_bne (fun h => ?_) (fun h => ?_))
    | (refine Br_true (decide_eq_true (by omega)) ?_)
    | (refine Br_false (decide_eq_false (by omega)) ?_)
    | (refine Br_dec (fun h => ?_) (fun h => ?_))
    | (refine Br_not ?_)
    | (refine Len_in (fun hlen => ?_))
    | (refine Fn.use (live_true) rfl rfl ?_)
    | (refine CallF_in (live_true) rfl rfl ?_)
    | (refine Br_split (fun h => ?_) (fun h => ?_))
    | (refine fin0 rfl ?_)
    | (refine ArK_in (wrap_i64 (by omega) (by omega)) ?_)
    | (refine force_in ?_)))
    all_goals rfl
  by_cases g2 : n > 2147483647
  · repeat' ((conv => whnf); (first
    | (refine Br_true (by assumption) ?_)
    | (refine Br_false (by assumption) ?_)
    | (refine Br_true (beqT (by omega)) ?_)
    | (refine Br_false (beqF (by omega)) ?_)
    | (refine Br_beq (fun h => ?_) (fun h => ?_))
    | (refine Br_true (bneT (by omega)) ?_)
    | (refine Br_false (bneF (by omega)) ?_)
    | (refine Br_bne (fun h => ?_) (fun h => ?_))
    | (refine Br_true (decide_eq_true (by omega)) ?_)
    | (refine Br_false (decide_eq_false (by omega)) ?_)
    | (refine Br_dec (fun h => ?_) (fun h => ?_))
    | (refine Br_not ?_)
    | (refine Len_in (fun hlen => ?_))
    | (refine Fn.use (live_true) rfl rfl ?_)
    | (refine CallF_in (live_true) rfl rfl ?_)
    | (refine Br_split (fun h => ?_) (fun h => ?_))
    | (refine fin0 rfl ?_)
    | (refine ArK_in (wrap_i64 (by omega) (by omega)) ?_)
    | (refine force_in ?_)))
    all_goals rfl
  by_cases g3 : b < 0
  · repeat' ((conv => whnf); (first
    | (refine Br_true (by assumption) ?_)
    | (refine Br_false (by assumption) ?_)
    | (refine Br_true (beqT (by omega)) ?_)
    | (refine Br_false (beqF (by omega)) ?_)
    | (refine Br_beq (fun h => ?_) (fun h => ?_))
    | (refine Br_true (bneT (by omega)) ?_)
    | (refine Br_false (bneF (by omega)) ?_)
    | (refine Br_bne (fun h => ?_) (fun h => ?_))
    | (refine Br_true (decide_eq_true (by omega)) ?_)
    | (refine Br_false (decide_eq_false (by omega)) ?_)
    | (refine Br_dec (fun h => ?_) (fun h => ?_))
    | (refine Br_not ?_)
    | (refine Len_in (fun hlen => ?_))
    | (refine Fn.use (live_true) rfl rfl ?_)
    | (refine CallF_in (live_true) rfl rfl ?_)
    | (refine Br_split (fun h => ?_) (fun h => ?_))
    | (refine fin0 rfl ?_)
    | (refine ArK_in (wrap_i64 (by omega) (by omega)) ?_)
    | (refine force_in ?_)))
    all_goals rfl
  by_cases g4 : b > 20
  · repeat' ((conv => whnf); (first
    | (refine Br_true (by assumption) ?_)
    | (refine Br_false (by assumption) ?_)
    | (refine Br_true (beqT (by omega)) ?_)
    | (refine Br_false (beqF (by omega)) ?_)
    | (refine Br_beq (fun h => ?_) (fun h => ?_))
    | (refine Br_true (bneT (by omega)) ?_)
    | (refine Br_false (bneF (by omega)) ?_)
    | (refine Br_bne (fun h => ?_) (fun h => ?_))
    | (refine Br_true (decide_eq_true (by omega)) ?_)
    | (refine Br_false (decide_eq_false (by omega)) ?_)
    | (refine Br_dec (fun h => ?_) (fun h => ?_))
    | (refine Br_not ?_)
    | (refine Len_in (fun hlen => ?_))
    | (refine Fn.use (live_true) rfl rfl ?_)
    | (refine CallF_in (live_true) rfl rfl ?_)
    | (refine Br_split (fun h => ?_) (fun h => ?_))
    | (refine fin0 rfl ?_)
    | (refine ArK_in (wrap_i64 (by omega) (by omega)) ?_)
    | (refine force_in ?_)))
    all_goals rfl
  by_cases g5 : l.length > 100
  · repeat' ((conv => whnf); (first
    | (refine Br_true (by assumption) ?_)
    | (refine Br_false (by assumption) ?_)
    | (refine Br_true (beqT (by omega)) ?_)
    | (refine Br_false (beqF (by omega)) ?_)
    | (refine Br_beq (fun h => ?_) (fun h => ?_))
    | (refine Br_true (bneT (by omega)) ?_)
    | (refine Br_false (bneF (by omega)) ?_)
    | (refine Br_bne (fun h => ?_) (fun h => ?_))
    | (refine Br_true (decide_eq_true (by omega)) ?_)
    | (refine Br_false (decide_eq_false (by omega)) ?_)
    | (refine Br_dec (fun h => ?_) (fun h => ?_))
    | (refine Br_not ?_)
    | (refine Len_in (fun hlen => ?_))
    | (refine Fn.use (live_true) rfl rfl ?_)
    | (refine CallF_in (live_true) rfl rfl ?_)
    | (refine Br_split (fun h => ?_) (fun h => ?_))
    | (refine fin0 rfl ?_)
    | (refine ArK_in (wrap_i64 (by omega) (by omega)) ?_)
    | (refine force_in ?_)))
    all_goals rfl
  obtain ⟨m, rfl⟩ : ∃ m : Nat, n = m := ⟨n.toNat, by omega⟩
  obtain ⟨q, rfl⟩ : ∃ q : Nat, b = q := ⟨b.toNat, by omega⟩
  have hdg := law_digits 10 m (by omega) (by omega) (by omega) (by omega)
  have hdl := digs_len 10 m
  have hsz : (⟨(digs 10 m).toArray⟩ : ByteArray).size + (⟨[59].toArray⟩ : ByteArray).size ≤ LB := by
    rw [str_size, str_size]; unfold LB; simp; omega
  repeat' ((conv => whnf); (first
    | (refine Br_true (by assumption) ?_)
    | (refine Br_false (by assumption) ?_)
    | (refine Br_true (beqT (by omega)) ?_)
    | (refine Br_false (beqF (by omega)) ?_)
    | (refine Br_beq (fun h => ?_) (fun h => ?_))
    | (refine Br_true (bneT (by omega)) ?_)
    | (refine Br_false (bneF (by omega)) ?_)
    | (refine Br_bne (fun h => ?_) (fun h => ?_))
    | (refine Br_true (decide_eq_true (by omega)) ?_)
    | (refine Br_false (decide_eq_false (by omega)) ?_)
    | (refine Br_dec (fun h => ?_) (fun h => ?_))
    | (refine Br_not ?_)
    | (refine Len_in (fun hlen => ?_))
    | (refine Fn.use (hdg) rfl rfl ?_)
    | (refine CallF_in (hdg) rfl rfl ?_)
    | (refine Need_in hsz ?_)
    | (refine Br_split (fun h => ?_) (fun h => ?_))
    | (refine fin0 rfl ?_)
    | (refine ArK_in (wrap_i64 (by omega) (by omega)) ?_)
    | (refine force_in ?_)))
  have e0 : AV.d (str (List.replicate 0 32 ++ (digs 10 m ++ [59]))) = .d (.str ((⟨(digs 10 m).toArray⟩ : ByteArray) ++ ⟨[59].toArray⟩)) := by rw [str_app]; rfl
  have e1 : ∀ k, AV.d (str (List.replicate (k + 1) 32 ++ (digs 10 m ++ [59]))) = .d (.str ((⟨[32].toArray⟩ : ByteArray) ++ ⟨(List.replicate k 32 ++ (digs 10 m ++ [59])).toArray⟩)) := fun k => by rw [str_app]; rfl
  refine W_loop (fun μ s => ∃ (k : Nat), k ≤ q ∧ μ = q - k ∧ s = ⟨[(0, .i m), (1, .i q), (2, .d (str l)), (7, .d (str (List.replicate k 32 ++ (digs 10 m ++ [59])))), (8, .i k)], 70, [], 0, []⟩) q
      ⟨_, ?_, 0, by omega, rfl, rfl⟩ ?_
  · exact Wk_env (by rw [e0]; repeat (first | exact trivial | refine ⟨rfl, ?_⟩))
  rintro μ s1 ⟨k, hk, rfl, rfl⟩
  refine W_run tt_ok ?_
  by_cases hlt : k < q
  · have hsz2 : (⟨[32].toArray⟩ : ByteArray).size + (⟨(List.replicate k 32 ++ (digs 10 m ++ [59])).toArray⟩ : ByteArray).size ≤ LB := by
      rw [str_size, str_size]; unfold LB; simp; omega
    repeat' ((conv => whnf); (first
      | (refine Br_true (by assumption) ?_)
      | (refine Br_false (by assumption) ?_)
      | (refine Br_true (beqT (by omega)) ?_)
      | (refine Br_false (beqF (by omega)) ?_)
      | (refine Br_beq (fun h => ?_) (fun h => ?_))
      | (refine Br_true (bneT (by omega)) ?_)
      | (refine Br_false (bneF (by omega)) ?_)
      | (refine Br_bne (fun h => ?_) (fun h => ?_))
      | (refine Br_true (decide_eq_true (by omega)) ?_)
      | (refine Br_false (decide_eq_false (by omega)) ?_)
      | (refine Br_dec (fun h => ?_) (fun h => ?_))
      | (refine Br_not ?_)
      | (refine Len_in (fun hlen => ?_))
      | (refine Need_in hsz2 ?_)
      | (refine Back_in _ _ ⟨k + 1, by omega, rfl, rfl⟩ (by omega) (Wk_env (by rw [e1]; repeat (first | exact trivial | refine ⟨rfl, ?_⟩))))
      | (refine Br_split (fun h => ?_) (fun h => ?_))
      | (refine fin0 rfl ?_)
      | (refine ArK_in (wrap_i64 (by omega) (by omega)) ?_)
      | (refine force_in ?_)))
  · have hI := attr_Index (List.replicate k 32 ++ (digs 10 m ++ [59]))
    rw [idx_blanks, idx_semi _ (digs_digit 10 m) (digs_ne 10 m (by omega)), digs_val 10 m (by omega) (by omega) (by omega)] at hI
    have hv : mnI (m : Int) 2147483647 = m := by unfold mnI; rw [if_neg (by omega)]
    rw [hv] at hI
    have hJ := attr_Index l
    have hb := idx_bd l
    generalize idxOf l = r at *
    obtain ⟨x, y⟩ := r
    simp only at hI hJ hb
    have hmm : ((m : Int) == (m : Int)) = true := by simp
    repeat' ((conv => whnf); (first
      | (refine Br_true hmm ?_)
      | (refine Br_true (by assumption) ?_)
      | (refine Br_false (by assumption) ?_)
      | (refine Br_true (beqT (by omega)) ?_)
      | (refine Br_false (beqF (by omega)) ?_)
      | (refine Br_beq (fun h => ?_) (fun h => ?_))
      | (refine Br_true (bneT (by omega)) ?_)
      | (refine Br_false (bneF (by omega)) ?_)
      | (refine Br_bne (fun h => ?_) (fun h => ?_))
      | (refine Br_true (decide_eq_true (by omega)) ?_)
      | (refine Br_false (decide_eq_false (by omega)) ?_)
      | (refine Br_dec (fun h => ?_) (fun h => ?_))
      | (refine Br_not ?_)
      | (refine Len_in (fun hlen => ?_))
      | (refine Fn.use (hI) rfl rfl ?_)
      | (refine CallF_in (hI) rfl rfl ?_)
      | (refine Fn.use (hJ) rfl rfl ?_)
      | (refine CallF_in (hJ) rfl rfl ?_)
      | (refine Fn.use (live_true) rfl rfl ?_)
      | (refine CallF_in (live_true) rfl rfl ?_)
      | (refine Br_split (fun h => ?_) (fun h => ?_))
      | (refine fin0 rfl ?_)
      | (refine ArK_in (wrap_i64 (by omega) (by omega)) ?_)
      | (refine force_in ?_)))
    all_goals rfl
theorem law_Digits_args (xs : List AV) (h : ArgsOk Tryd.prog [3, 3, 9] xs) : Fn Tryd.prog 6 xs (.b true) := by
  obtain ⟨x, y, z, rfl, h1, h2, h3⟩ := args_3 h
  obtain ⟨d, hd, rfl⟩ := arg_one (s := i64) h1 (by kernel_rfl) (fun _ => by kernel_rfl)
  obtain ⟨d2, hd2, rfl⟩ := arg_one (s := i64) h2 (by kernel_rfl) (fun _ => by kernel_rfl)
  obtain ⟨d3, hd3, rfl⟩ := arg_one (s := .str) h3 (by kernel_rfl) (fun _ => by kernel_rfl)
  obtain ⟨n, rfl⟩ := has_int hd
  obtain ⟨b, rfl⟩ := has_int hd2
  obtain ⟨l, rfl⟩ := has_str hd3
  exact law_Digits n b l
end Go.Eng
set_option linter.unusedVariables false
set_option linter.unusedSimpArgs false
namespace Go.Eng
open Go
def oT : Tree := [⟨0, 0, -1, [], -1, -1, []⟩, ⟨1, 0, -1, [], -1, -1, []⟩]
theorem oT_may : mayB oT = true := by kernel_rfl
theorem oT_is : isN oT 1 = true := by kernel_rfl
def treeA (l : List Attr) : Tree := putAttrs oT 1 l
theorem treeA_nil : treeA [] = oT := rfl
theorem treeA_nd (l : List Attr) : nd (treeA l) 1 = ⟨1, 0, -1, [], -1, -1, l⟩ := rfl
def OkA (l : List Attr) : Prop := (∀ x ∈ l, attrB 1 x = true) ∧ Rise l
theorem treeA_may {l : List Attr} (h : OkA l) : mayB (treeA l) = true := by
  unfold treeA
  rw [put_may oT 1 l oT_may oT_is]
  exact (attrsB_iff { nd oT 1 with attrs := l } (.inl rfl)).2 h
theorem treeA_is (l : List Attr) : isN (treeA l) 1 = true := by unfold treeA; rw [put_isN]; exact oT_is
theorem treeA_put (l q : List Attr) : putAttrs (treeA l) 1 q = treeA q := rfl
theorem treeA_set (l : List Attr) (h : OkA l) (x : Attr) : setR (treeA l) 1 x = if attrB 1 x = true then (treeA (withL l x true), 0) else (treeA l, 7) := by
  unfold setR
  rw [treeA_may h, treeA_is, treeA_nd]
  simp only [Bool.true_eq_false, if_false, treeA_put]
  cases attrB 1 x <;> simp
theorem OkA.names {l : List Attr} (h : OkA l) : ∀ x ∈ l, 0 ≤ x.name ∧ x.name ≤ 9 := fun x hx => attrB_name (h.1 x hx)
theorem OkA.mem {l : List Attr} (h : OkA l) {x : Attr} (hx : attrB 1 x = true) (y : Attr) : y ∈ withL l x true ↔ (y ∈ l ∧ y.name ≠ x.name) ∨ y = x := by
  rw [withL_mem _ _ _ h.names]
  have := attrB_name hx
  simp [this.1, this.2]
theorem OkA.set {l : List Attr} (h : OkA l) {x : Attr} (hx : attrB 1 x = true) : OkA (withL l x true) := by
  refine ⟨fun y hy => ?_, withL_rise _ _ _ h.names h.2⟩
  rcases (h.mem hx y).1 hy with ⟨hy, _⟩ | rfl
  · exact h.1 y hy
  · exact hx
theorem OkA.nil : OkA [] := ⟨fun x h => by simp at h, by simp [Rise]⟩
theorem OkA.len {l : List Attr} (h : OkA l) : l.length ≤ 10 := by
  have := may_len (treeA_may h) (treeA_is l)
  rwa [treeA_nd] at this
theorem OkA.small {l : List Attr} (h : OkA l) : SmallT (treeA l) := put_small (by unfold SmallT; decide) (by have := h.len; omega)
theorem OkA.one {l : List Attr} (h : OkA l) {x y : Attr} (hx : x ∈ l) (hy : y ∈ l) (e : x.name = y.name) : x = y := by
  have h1 := getV_mem h.2 hx
  have h2 := getV_mem h.2 hy
  rw [e, h2] at h1
  injection h1 with h1
  cases x; cases y; simp_all
structure Inv1 (l : List Attr) (k : Nat) (A : List Attr) (La : Nat → Int) : Prop where
  ok : OkA A
  nob : ∀ m : Nat, m ≤ 9 → La m = 0 → ∀ x ∈ A, x.name ≠ m
  yes : ∀ m : Nat, m ≤ 9 → La m ≠ 0 → 0 < La m ∧ La m ≤ k ∧ ∃ x, l[(La m - 1).toNat]? = some x ∧ x.name = m ∧ x ∈ A
theorem Inv1.start (l : List Attr) : Inv1 l 0 [] (fun _ => 0) := ⟨.nil, fun m _ _ x hx => by simp at hx, fun m _ h => absurd rfl h⟩
theorem Inv1.skip {l : List Attr} {k : Nat} {A : List Attr} {La : Nat → Int} (h : Inv1 l k A La) : Inv1 l (k + 1) A La :=
  ⟨h.ok, h.nob, fun m hm hl => by obtain ⟨a, b, c⟩ := h.yes m hm hl; exact ⟨a, by omega, c⟩⟩
theorem Inv1.step {l : List Attr} {k : Nat} {A : List Attr} {La : Nat → Int} (h : Inv1 l k A La) {x : Attr} (hx : attrB 1 x = true) (hk : l[k]? = some x) :
    Inv1 l (k + 1) (withL A x true) (fun m => if m = x.name.toNat then (k : Int) + 1 else La m) := by
  have hn := attrB_name hx
  refine ⟨h.ok.set hx, fun m hm hl y hy => ?_, fun m hm hl => ?_⟩
  · by_cases e : m = x.name.toNat
    · simp only [e, if_true] at hl; omega
    · simp only [if_neg e] at hl
      rcases (h.ok.mem hx y).1 hy with ⟨hy, _⟩ | rfl
      · exact h.nob m hm hl y hy
      · omega
  · by_cases e : m = x.name.toNat
    · simp only [e, if_true]
      refine ⟨by omega, by omega, x, ?_, by omega, (h.ok.mem hx x).2 (.inr rfl)⟩
      rw [show ((k : Int) + 1 - 1).toNat = k by omega]; exact hk
    · simp only [if_neg e] at hl ⊢
      obtain ⟨a, b, y, c, d, f⟩ := h.yes m hm hl
      exact ⟨a, by omega, y, c, d, (h.ok.mem hx y).2 (.inl ⟨f, by omega⟩)⟩
structure Inv2 (A B : List Attr) (j : Nat) : Prop where
  ok : OkA B
  mem : ∀ x, x ∈ B ↔ x ∈ A ∧ (j : Int) ≤ x.name
theorem Inv2.start {A : List Attr} (h : OkA A) : Inv2 A [] 10 := ⟨.nil, fun x => ⟨fun h => by simp at h, fun ⟨h1, h2⟩ => by have := h.names x h1; omega⟩⟩
theorem Inv2.skip {A B : List Attr} {j : Nat} (h : Inv2 A B (j + 1)) (hn : ∀ x ∈ A, x.name ≠ j) : Inv2 A B j :=
  ⟨h.ok, fun x => by
    rw [h.mem]
    constructor
    · rintro ⟨a, b⟩; exact ⟨a, by omega⟩
    · rintro ⟨a, b⟩; have := hn x a; exact ⟨a, by omega⟩⟩
theorem Inv2.step {A B : List Attr} {j : Nat} (hA : OkA A) (h : Inv2 A B (j + 1)) {x : Attr} (hx : x ∈ A) (hn : x.name = j) : Inv2 A (withL B x true) j := by
  have hb := hA.1 x hx
  refine ⟨h.ok.set hb, fun y => ?_⟩
  rw [h.ok.mem hb, h.mem]
  constructor
  · rintro (⟨⟨a, b⟩, c⟩ | rfl)
    · exact ⟨a, by omega⟩
    · exact ⟨hx, by omega⟩
  · rintro ⟨a, b⟩
    by_cases e : y.name = x.name
    · exact .inr (hA.one a hx e)
    · exact .inl ⟨⟨a, by omega⟩, e⟩
theorem Inv2.fin {A B : List Attr} (hA : OkA A) (h : Inv2 A B 0) : B = A :=
  Rise_ext h.ok.2 hA.2 fun x => by rw [h.mem]; exact ⟨fun h => h.1, fun h1 => ⟨h1, by have := hA.names x h1; omega⟩⟩
def rowL (La : Nat → Int) : List AV := (List.range 10).map fun j => AV.i (La j)
theorem rowL_len (La : Nat → Int) : (rowL La).length = 10 := by simp [rowL]
theorem rowL_get (La : Nat → Int) (j : Nat) (h : j < 10) : (rowL La)[j]? = some (.i (La j)) := by
  unfold rowL
  rw [List.getElem?_map, List.getElem?_range h]; rfl
theorem rowL_set (La : Nat → Int) (j : Nat) (v : Int) : splice (rowL La) (0 + j * 1) [AV.i v] = rowL (fun m => if m = j then v else La m) := by
  simp only [splice]
  unfold rowL
  apply List.ext_getElem?
  intro i
  rw [List.getElem?_set, Nat.zero_add, Nat.mul_one]
  by_cases hi : i < 10
  · by_cases e : j = i
    · subst e
      rw [if_pos rfl, if_pos (by simpa using hi), List.getElem?_map, List.getElem?_range hi]
      simp
    · rw [if_neg e, List.getElem?_map, List.getElem?_map, List.getElem?_range hi]
      simp [Ne.symm e]
  · rw [List.getElem?_eq_none (l := List.map (fun j_1 => AV.i (if j_1 = j then v else La j_1)) (List.range 10)) (by simp; omega)]
    split
    · rename_i e; subst e; rw [if_neg (by simpa using hi)]
    · exact List.getElem?_eq_none (by simp; omega)
end Go.Eng
set_option maxRecDepth 100000
set_option linter.unusedVariables false
set_option linter.unusedSimpArgs false
namespace Go.Eng
open Go Go.Proofs
theorem set_A (l : List Attr) (h : OkA l) (x : Attr) : (attrB 1 x = true → Fn Tryd.prog 14 [.d (treeD (treeA l)), .i 1, aggD x.cs] (.tup [.d (treeD (treeA (withL l x true))), .i 0])) ∧
    (attrB 1 x = false → Fn Tryd.prog 14 [.d (treeD (treeA l)), .i 1, aggD x.cs] (.tup [.d (treeD (treeA l)), .i 7])) := by
  have := attr_Set (treeA l) 1 x h.small
  rw [setG_R, treeA_set l h x] at this
  constructor
  · intro hx; rw [if_pos hx] at this; exact this
  · intro hx; rw [if_neg (by simp [hx])] at this; exact this
theorem may_A (l : List Attr) (h : OkA l) : Fn Tryd.prog 12 [.d (treeD (treeA l))] (.b true) := by
  have := ref_May (treeA l)
  rwa [treeA_may h] at this
set_option maxHeartbeats 4000000 in
theorem law_Order (l : List Attr) : Fn Tryd.prog 7 [.d (attrsD l)] (.b true) := by
  refine Fn_of tt_ok Tryd.func7 rfl (by decide) Tryd.ntmps7 rfl ?_
  have el : (List.map Attr.cs l).length = l.length := by simp
  by_cases hl : l.length > 20
  · have h1 : decide (((List.map Attr.cs l).length : Int) > 20) = true := decide_eq_true (by omega)
    repeat' ((conv => whnf); (first
      | (refine Br_true h1 ?_)
      | (refine Br_true (by assumption) ?_)
      | (refine Br_false (by assumption) ?_)
      | (refine Br_true (beqT (by omega)) ?_)
      | (refine Br_false (beqF (by omega)) ?_)
      | (refine Br_beq (fun h => ?_) (fun h => ?_))
      | (refine Br_true (bneT (by omega)) ?_)
      | (refine Br_false (bneF (by omega)) ?_)
      | (refine Br_bne (fun h => ?_) (fun h => ?_))
      | (refine Br_true (decide_eq_true (by omega)) ?_)
      | (refine Br_false (decide_eq_false (by omega)) ?_)
      | (refine Br_dec (fun h => ?_) (fun h => ?_))
      | (refine Br_not ?_)
      | (refine Len_in (fun hlen => ?_))
      | (refine Fn.use (live_true) rfl rfl ?_)
      | (refine CallF_in (live_true) rfl rfl ?_)
      | (refine Br_split (fun h => ?_) (fun h => ?_))
      | (refine fin0 rfl ?_)
      | (refine ArK_in (wrap_i64 (by omega) (by omega)) ?_)
      | (refine force_in ?_)))
    all_goals rfl
  have h1 : decide (((List.map Attr.cs l).length : Int) > 20) = false := decide_eq_false (by omega)
  repeat' ((conv => whnf); (first
    | (refine Br_false h1 ?_)
    | (refine Ch_r ?_)
    | (refine Br_true (by assumption) ?_)
    | (refine Br_false (by assumption) ?_)
    | (refine Br_true (beqT (by omega)) ?_)
    | (refine Br_false (beqF (by omega)) ?_)
    | (refine Br_beq (fun h => ?_) (fun h => ?_))
    | (refine Br_true (bneT (by omega)) ?_)
    | (refine Br_false (bneF (by omega)) ?_)
    | (refine Br_bne (fun h => ?_) (fun h => ?_))
    | (refine Br_true (decide_eq_true (by omega)) ?_)
    | (refine Br_false (decide_eq_false (by omega)) ?_)
    | (refine Br_dec (fun h => ?_) (fun h => ?_))
    | (refine Br_not ?_)
    | (refine Len_in (fun hlen => ?_))
    | (refine Br_split (fun h => ?_) (fun h => ?_))
    | (refine fin0 rfl ?_)
    | (refine ArK_in (wrap_i64 (by omega) (by omega)) ?_)
    | (refine force_in ?_)))
  refine W_loop (fun μ s => ∃ (k : Nat) (A : List Attr) (La : Nat → Int) (T : List (List D)), k ≤ l.length ∧ μ = l.length - k ∧ Inv1 l k A La ∧ T = (treeA A).map Node.cs ∧ s = ⟨[(0, .d (attrsD l)), (4, .d (.sl T)), (5, .d (treeD oT)), (6, .ptr 0 0), (7, .i k)], 79, [some (.row (rowL La))], 0, []⟩) l.length
      ⟨_, ?_, 0, [], fun _ => 0, _, by omega, rfl, .start l, rfl, rfl⟩ ?_
  · exact Wk_env (by repeat (first | exact trivial | refine ⟨rfl, ?_⟩))
  rintro μ s1 ⟨k, A, La, T, hk, rfl, hI, rfl, rfl⟩
  refine W_run tt_ok ?_
  by_cases hlt : k < l.length
  · have h2 : decide ((k : Int) < ((List.map Attr.cs l).length : Nat)) = true := decide_eq_true (by omega)
    have hget : (List.map Attr.cs l)[((k : Nat) : Int).toNat]? = some (l[k]).cs := by simp [hlt]
    have hk0 : l[k]? = some l[k] := List.getElem?_eq_getElem hlt
    obtain ⟨s1, s2⟩ := set_A A hI.ok l[k]
    cases hx : attrB 1 l[k]
    · have s2 := s2 hx
      have hI' := hI.skip
      clear s1
      repeat' ((conv => whnf); (first
        | (refine Br_true h2 ?_)
        | (refine Br_true (by assumption) ?_)
        | (refine Br_false (by assumption) ?_)
        | (refine Br_true (beqT (by omega)) ?_)
        | (refine Br_false (beqF (by omega)) ?_)
        | (refine Br_beq (fun h => ?_) (fun h => ?_))
        | (refine Br_true (bneT (by omega)) ?_)
        | (refine Br_false (bneF (by omega)) ?_)
        | (refine Br_bne (fun h => ?_) (fun h => ?_))
        | (refine Br_true (decide_eq_true (by omega)) ?_)
        | (refine Br_false (decide_eq_false (by omega)) ?_)
        | (refine Br_dec (fun h => ?_) (fun h => ?_))
        | (refine Br_not ?_)
        | (refine Len_in (fun hlen => ?_))
        | (refine Idx_in _ hget (by omega) rfl ?_)
        | (refine Fn.use (s2) rfl rfl ?_)
        | (refine CallF_in (s2) rfl rfl ?_)
        | (refine Back_in _ _ ⟨k + 1, A, La, _, by omega, rfl, hI', rfl, rfl⟩ (by omega) (Wk_env (by repeat (first | exact trivial | refine ⟨rfl, ?_⟩))))
        | (refine Br_split (fun h => ?_) (fun h => ?_))
        | (refine fin0 rfl ?_)
        | (refine ArK_in (wrap_i64 (by omega) (by omega)) ?_)
        | (refine force_in ?_)))
    · have s1 := s1 hx
      have hI' := hI.step hx hk0
      have hn := attrB_name hx
      have hnb : 0 ≤ (l[k]).name ∧ (l[k]).name < ((10 : Nat) : Int) := ⟨hn.1, by omega⟩
      have hw : IntKind.i64.wrap ((k : Int) + 1) = (k : Int) + 1 := wrap_i64 (by omega) (by omega)
      have hble : Nat.ble (0 + (l[k]).name.toNat * 1 + 1) (rowL La).length = true := Nat.ble_eq_true_of_le (by rw [rowL_len]; omega)
      have hset := rowL_set La (l[k]).name.toNat ((k : Int) + 1)
      clear s2
      repeat' ((conv => whnf); (first
        | (refine Br_true h2 ?_)
        | (refine Br_true hble ?_)
        | (refine ArK_in hw ?_)
        | (refine Br_true (decide_eq_true hnb) ?_)
        | (refine Br_true (by assumption) ?_)
        | (refine Br_false (by assumption) ?_)
        | (refine Br_true (beqT (by omega)) ?_)
        | (refine Br_false (beqF (by omega)) ?_)
        | (refine Br_beq (fun h => ?_) (fun h => ?_))
        | (refine Br_true (bneT (by omega)) ?_)
        | (refine Br_false (bneF (by omega)) ?_)
        | (refine Br_bne (fun h => ?_) (fun h => ?_))
        | (refine Br_true (decide_eq_true (by omega)) ?_)
        | (refine Br_false (decide_eq_false (by omega)) ?_)
        | (refine Br_dec (fun h => ?_) (fun h => ?_))
        | (refine Br_not ?_)
        | (refine Len_in (fun hlen => ?_))
        | (refine Idx_in _ hget (by omega) rfl ?_)
        | (refine Fn.use (s1) rfl rfl ?_)
        | (refine CallF_in (s1) rfl rfl ?_)
        | (refine Back_in _ _ ⟨k + 1, _, _, _, by omega, rfl, hI', rfl, rfl⟩ (by omega) (by rw [← hset]; exact (Wk_env (by repeat (first | exact trivial | refine ⟨rfl, ?_⟩)))))
        | (refine Br_split (fun h => ?_) (fun h => ?_))
        | (refine fin0 rfl ?_)
        | (refine ArK_in (wrap_i64 (by omega) (by omega)) ?_)
        | (refine force_in ?_)))
  · have h2 : decide ((k : Int) < ((List.map Attr.cs l).length : Nat)) = false := decide_eq_false (by omega)
    repeat' ((conv => whnf); (first
      | (refine Br_false h2 ?_)
      | (refine Br_true (by assumption) ?_)
      | (refine Br_false (by assumption) ?_)
      | (refine Br_true (beqT (by omega)) ?_)
      | (refine Br_false (beqF (by omega)) ?_)
      | (refine Br_beq (fun h => ?_) (fun h => ?_))
      | (refine Br_true (bneT (by omega)) ?_)
      | (refine Br_false (bneF (by omega)) ?_)
      | (refine Br_bne (fun h => ?_) (fun h => ?_))
      | (refine Br_true (decide_eq_true (by omega)) ?_)
      | (refine Br_false (decide_eq_false (by omega)) ?_)
      | (refine Br_dec (fun h => ?_) (fun h => ?_))
      | (refine Br_not ?_)
      | (refine Len_in (fun hlen => ?_))
      | (refine Br_split (fun h => ?_) (fun h => ?_))
      | (refine fin0 rfl ?_)
      | (refine ArK_in (wrap_i64 (by omega) (by omega)) ?_)
      | (refine force_in ?_)))
    refine W_loop (fun μ s => ∃ (j : Nat) (B : List Attr) (T : List (List D)), j ≤ 10 ∧ μ = j ∧ Inv2 A B j ∧ T = (treeA B).map Node.cs ∧ s = ⟨[(0, .d (attrsD l)), (4, .d (.sl ((treeA A).map Node.cs))), (5, .d (.sl T)), (6, .ptr 0 0), (10, .i ((j : Int) - 1))], 79, [some (.row (rowL La))], 0, []⟩) 10
      ⟨_, ?_, 10, [], _, by omega, rfl, .start hI.ok, rfl, rfl⟩ ?_
    · exact Wk_env (by repeat (first | exact trivial | refine ⟨rfl, ?_⟩))
    rintro μ s1 ⟨j, B, T, hj, rfl, hJ, rfl, rfl⟩
    refine W_run tt_ok ?_
    cases μ with
    | zero =>
      have h3 : decide ((((0 : Nat) : Int) - 1) ≥ 0) = false := by decide
      have e := hJ.fin hI.ok
      subst e
      have hm := may_A _ hI.ok
      have hs := same_self (treeA B)
      repeat' ((conv => whnf); (first
        | (refine Br_false h3 ?_)
        | (refine Br_true (by assumption) ?_)
        | (refine Br_false (by assumption) ?_)
        | (refine Br_true (beqT (by omega)) ?_)
        | (refine Br_false (beqF (by omega)) ?_)
        | (refine Br_beq (fun h => ?_) (fun h => ?_))
        | (refine Br_true (bneT (by omega)) ?_)
        | (refine Br_false (bneF (by omega)) ?_)
        | (refine Br_bne (fun h => ?_) (fun h => ?_))
        | (refine Br_true (decide_eq_true (by omega)) ?_)
        | (refine Br_false (decide_eq_false (by omega)) ?_)
        | (refine Br_dec (fun h => ?_) (fun h => ?_))
        | (refine Br_not ?_)
        | (refine Len_in (fun hlen => ?_))
        | (refine Fn.use (hm) rfl rfl ?_)
        | (refine CallF_in (hm) rfl rfl ?_)
        | (refine Fn.use (hs) rfl rfl ?_)
        | (refine CallF_in (hs) rfl rfl ?_)
        | (refine Fn.use (live_true) rfl rfl ?_)
        | (refine CallF_in (live_true) rfl rfl ?_)
        | (refine Br_split (fun h => ?_) (fun h => ?_))
        | (refine fin0 rfl ?_)
        | (refine ArK_in (wrap_i64 (by omega) (by omega)) ?_)
        | (refine force_in ?_)))
      all_goals rfl
    | succ m =>
      have h3 : decide ((((m + 1 : Nat) : Int) - 1) ≥ 0) = true := decide_eq_true (by omega)
      have hib : 0 ≤ (((m + 1 : Nat) : Int) - 1) ∧ (((m + 1 : Nat) : Int) - 1) < ((10 : Nat) : Int) := by omega
      have hg : (rowL La)[0 + (((m + 1 : Nat) : Int) - 1).toNat * 1]? = some (.i (La m)) := by
        rw [show 0 + (((m + 1 : Nat) : Int) - 1).toNat * 1 = m by omega]; exact rowL_get La m (by omega)
      have hk1 : (((m + 1 : Nat) : Int) - 1 - 1) = (m : Int) - 1 := by omega
      by_cases hz : La m = 0
      · have h4 : decide (La m > 0) = false := decide_eq_false (by omega)
        have hJ' := hJ.skip (hI.nob m (by omega) hz)
        repeat' ((conv => whnf); (first
          | (refine Br_true h3 ?_)
          | (refine Br_true (decide_eq_true hib) ?_)
          | (refine Br_false h4 ?_)
          | (refine Br_true (by assumption) ?_)
          | (refine Br_false (by assumption) ?_)
          | (refine Br_true (beqT (by omega)) ?_)
          | (refine Br_false (beqF (by omega)) ?_)
          | (refine Br_beq (fun h => ?_) (fun h => ?_))
          | (refine Br_true (bneT (by omega)) ?_)
          | (refine Br_false (bneF (by omega)) ?_)
          | (refine Br_bne (fun h => ?_) (fun h => ?_))
          | (refine Br_true (decide_eq_true (by omega)) ?_)
          | (refine Br_false (decide_eq_false (by omega)) ?_)
          | (refine Br_dec (fun h => ?_) (fun h => ?_))
          | (refine Br_not ?_)
          | (refine Len_in (fun hlen => ?_))
          | (refine Cell_in _ hg ?_)
          | (refine Back_in _ _ ⟨m, B, _, by omega, rfl, hJ', rfl, rfl⟩ (by omega) (Wk_env (by rw [← hk1]; repeat (first | exact trivial | refine ⟨rfl, ?_⟩))))
          | (refine Br_split (fun h => ?_) (fun h => ?_))
          | (refine fin0 rfl ?_)
          | (refine ArK_in (wrap_i64 (by omega) (by omega)) ?_)
          | (refine force_in ?_)))
      · obtain ⟨p1, p2, x, p3, p4, p5⟩ := hI.yes m (by omega) hz
        have h4 : decide (La m > 0) = true := decide_eq_true p1
        have hJ' := hJ.step hI.ok p5 p4
        have hset := (set_A B hJ.ok x).1 (hI.ok.1 x p5)
        have hget : (List.map Attr.cs l)[(La m - 1).toNat]? = some x.cs := by rw [List.getElem?_map, p3]; rfl
        have hw : IntKind.i64.wrap (La m - 1) = La m - 1 := wrap_i64 (by omega) (by omega)
        repeat' ((conv => whnf); (first
          | (refine Br_true h3 ?_)
          | (refine Br_true (decide_eq_true hib) ?_)
          | (refine Br_true h4 ?_)
          | (refine ArK_in hw ?_)
          | (refine Br_true (by assumption) ?_)
          | (refine Br_false (by assumption) ?_)
          | (refine Br_true (beqT (by omega)) ?_)
          | (refine Br_false (beqF (by omega)) ?_)
          | (refine Br_beq (fun h => ?_) (fun h => ?_))
          | (refine Br_true (bneT (by omega)) ?_)
          | (refine Br_false (bneF (by omega)) ?_)
          | (refine Br_bne (fun h => ?_) (fun h => ?_))
          | (refine Br_true (decide_eq_true (by omega)) ?_)
          | (refine Br_false (decide_eq_false (by omega)) ?_)
          | (refine Br_dec (fun h => ?_) (fun h => ?_))
          | (refine Br_not ?_)
          | (refine Len_in (fun hlen => ?_))
          | (refine Cell_in _ hg ?_)
          | (refine Idx_in _ hget (by omega) rfl ?_)
          | (refine Fn.use (hset) rfl rfl ?_)
          | (refine CallF_in (hset) rfl rfl ?_)
          | (refine Back_in _ _ ⟨m, _, _, by omega, rfl, hJ', rfl, rfl⟩ (by omega) (Wk_env (by rw [← hk1]; repeat (first | exact trivial | refine ⟨rfl, ?_⟩))))
          | (refine Br_split (fun h => ?_) (fun h => ?_))
          | (refine fin0 rfl ?_)
          | (refine ArK_in (wrap_i64 (by omega) (by omega)) ?_)
          | (refine force_in ?_)))
theorem law_Order_args (xs : List AV) (h : ArgsOk Tryd.prog [41] xs) : Fn Tryd.prog 7 xs (.b true) := by
  obtain ⟨x, rfl, h1⟩ := args_1 h
  obtain ⟨d, hd, rfl⟩ := arg_one (s := attrsSh) h1 (by kernel_rfl) (fun _ => by kernel_rfl)
  obtain ⟨l, rfl⟩ := has_attrs hd
  exact law_Order l
end Go.Eng
set_option maxRecDepth 100000
set_option linter.unusedVariables false
set_option linter.unusedSimpArgs false
namespace Go.Eng
open Go Go.Proofs
set_option maxHeartbeats 4000000 in
theorem law_Sign (l : List UInt8) : Fn Tryd.prog 8 [.d (str l)] (.b true) := by
  refine Fn_of tt_ok Tryd.func8 rfl (by decide) Tryd.ntmps8 rfl ?_
  have es := str_size l
  refine Len_in (fun h0 => ?_)
  refine Br_dec (fun hl => ?_) (fun hl => ?_)
  · repeat' ((conv => whnf); (first
    | (refine Br_true (by assumption) ?_)
    | (refine Br_false (by assumption) ?_)
    | (refine Br_true (beqT (by omega)) ?_)
    | (refine Br_false (beqF (by omega)) ?_)
    | (refine Br_beq (fun h => ?_) (fun h => ?_))
    | (refine Br_true (bneT (by omega)) ?_)
    | (refine Br_false (bneF (by omega)) ?_)
    | (refine Br_bne (fun h => ?_) (fun h => ?_))
    | (refine Br_true (decide_eq_true (by omega)) ?_)
    | (refine Br_false (decide_eq_false (by omega)) ?_)
    | (refine Br_dec (fun h => ?_) (fun h => ?_))
    | (refine Br_not ?_)
    | (refine Len_in (fun hlen => ?_))
    | (refine Fn.use (live_true) rfl rfl ?_)
    | (refine CallF_in (live_true) rfl rfl ?_)
    | (refine Br_split (fun h => ?_) (fun h => ?_))
    | (refine fin0 rfl ?_)
    | (refine ArK_in (wrap_i64 (by omega) (by omega)) ?_)
    | (refine force_in ?_)))
    all_goals rfl
  repeat' ((conv => whnf); (first
    | (refine Br_true (by assumption) ?_)
    | (refine Br_false (by assumption) ?_)
    | (refine Br_true (beqT (by omega)) ?_)
    | (refine Br_false (beqF (by omega)) ?_)
    | (refine Br_beq (fun h => ?_) (fun h => ?_))
    | (refine Br_true (bneT (by omega)) ?_)
    | (refine Br_false (bneF (by omega)) ?_)
    | (refine Br_bne (fun h => ?_) (fun h => ?_))
    | (refine Br_true (decide_eq_true (by omega)) ?_)
    | (refine Br_false (decide_eq_false (by omega)) ?_)
    | (refine Br_dec (fun h => ?_) (fun h => ?_))
    | (refine Br_not ?_)
    | (refine Len_in (fun hlen => ?_))
    | (refine Br_split (fun h => ?_) (fun h => ?_))
    | (refine fin0 rfl ?_)
    | (refine ArK_in (wrap_i64 (by omega) (by omega)) ?_)
    | (refine force_in ?_)))
  refine W_loop (fun μ s => ∃ (k : Nat), k ≤ l.length ∧ μ = l.length - k ∧ (∀ (j : Nat) (h : j < l.length), j < k → digitB l[j] = true) ∧ s = ⟨[(0, .d (str l)), (3, .i k)], 103, [], 0, []⟩) l.length
      ⟨_, ?_, 0, by omega, rfl, fun j h hj => absurd hj (Nat.not_lt_zero _), rfl⟩ ?_
  · exact Wk_env (by repeat (first | exact trivial | refine ⟨rfl, ?_⟩))
  rintro μ s1 ⟨k, hk, rfl, hall, rfl⟩
  refine W_run tt_ok ?_
  by_cases hlt : k < l.length
  · have hd : decide ((k : Int) < ((⟨l.toArray⟩ : ByteArray).size : Nat)) = true := decide_eq_true (by omega)
    have hget : (⟨l.toArray⟩ : ByteArray).data.toList[((k : Nat) : Int).toNat]? = some l[k] := by simp [hlt]
    have hnext : ¬ ((l[k]).toNat : Int) < 48 → ¬ ((l[k]).toNat : Int) > 57 → ∀ (j : Nat) (h : j < l.length), j < k + 1 → digitB l[j] = true := fun a b j h hj => by
      by_cases e : j = k
      · subst e; unfold digitB; simp; omega
      · exact hall j h (by omega)
    repeat' ((conv => whnf); (first
      | (refine Br_true hd ?_)
      | (refine Br_true (by assumption) ?_)
      | (refine Br_false (by assumption) ?_)
      | (refine Br_true (beqT (by omega)) ?_)
      | (refine Br_false (beqF (by omega)) ?_)
      | (refine Br_beq (fun h => ?_) (fun h => ?_))
      | (refine Br_true (bneT (by omega)) ?_)
      | (refine Br_false (bneF (by omega)) ?_)
      | (refine Br_bne (fun h => ?_) (fun h => ?_))
      | (refine Br_true (decide_eq_true (by omega)) ?_)
      | (refine Br_false (decide_eq_false (by omega)) ?_)
      | (refine Br_dec (fun h => ?_) (fun h => ?_))
      | (refine Br_not ?_)
      | (refine Len_in (fun hlen => ?_))
      | (refine Byte_in _ hget (by omega) ?_)
      | (refine Fn.use (live_true) rfl rfl ?_)
      | (refine CallF_in (live_true) rfl rfl ?_)
      | (refine Back_in _ _ ⟨k + 1, by omega, rfl, hnext (by assumption) (by assumption), rfl⟩ (by omega) (Wk_env (by repeat (first | exact trivial | refine ⟨rfl, ?_⟩))))
      | (refine Br_split (fun h => ?_) (fun h => ?_))
      | (refine fin0 rfl ?_)
      | (refine ArK_in (wrap_i64 (by omega) (by omega)) ?_)
      | (refine force_in ?_)))
    all_goals rfl
  · have hd : decide ((k : Int) < ((⟨l.toArray⟩ : ByteArray).size : Nat)) = false := decide_eq_false (by omega)
    have hdig : ∀ c ∈ l, digitB c = true := fun c hc => by
      obtain ⟨j, hj, rfl⟩ := List.getElem_of_mem hc
      exact hall j hj (by omega)
    have hA := attr_Index l
    have hB := attr_Index (45 :: l)
    have hC := attr_Index (43 :: l)
    have hD := attr_Index (48 :: 48 :: 48 :: l)
    rw [idx_digits l hdig] at hA
    rw [idx_minus l hdig] at hB
    rw [idx_plus l hdig] at hC
    rw [idx_zeros l hdig] at hD
    obtain ⟨v1, v2⟩ := valD_bd l hdig
    have a1 : [AV.d (.str ((⟨[45].toArray⟩ : ByteArray) ++ ⟨l.toArray⟩))] = [AV.d (str (45 :: l))] := by rw [str_app]; rfl
    have a2 : [AV.d (.str ((⟨[43].toArray⟩ : ByteArray) ++ ⟨l.toArray⟩))] = [AV.d (str (43 :: l))] := by rw [str_app]; rfl
    have a3 : [AV.d (.str ((⟨[48, 48, 48].toArray⟩ : ByteArray) ++ ⟨l.toArray⟩))] = [AV.d (str (48 :: 48 :: 48 :: l))] := by rw [str_app]; rfl
    have n1 : 1 + (⟨l.toArray⟩ : ByteArray).size ≤ LB := by unfold LB; omega
    have n3 : 3 + (⟨l.toArray⟩ : ByteArray).size ≤ LB := by unfold LB; omega
    have hq := streq l []
    by_cases hl0 : l = []
    · rw [if_pos hl0] at hA hB hC
      have hv0 : valD l = 0 := by rw [hl0]; rfl
      have hm : mnI (valD l) 2147483647 = 0 := by rw [hv0]; rfl
      rw [hm] at hD
      rw [decide_eq_true hl0] at hq
      have q1 : (false != (!((⟨l.toArray⟩ : ByteArray).toList == (⟨[].toArray⟩ : ByteArray).toList))) = false := by rw [hq]; rfl
      repeat' ((conv => whnf); (first
        | (refine Br_false hd ?_)
        | (refine Br_false q1 ?_)
        | (refine Br_true hq ?_)
        | (refine Br_true (by assumption) ?_)
        | (refine Br_false (by assumption) ?_)
        | (refine Br_true (beqT (by omega)) ?_)
        | (refine Br_false (beqF (by omega)) ?_)
        | (refine Br_beq (fun h => ?_) (fun h => ?_))
        | (refine Br_true (bneT (by omega)) ?_)
        | (refine Br_false (bneF (by omega)) ?_)
        | (refine Br_bne (fun h => ?_) (fun h => ?_))
        | (refine Br_true (decide_eq_true (by omega)) ?_)
        | (refine Br_false (decide_eq_false (by omega)) ?_)
        | (refine Br_dec (fun h => ?_) (fun h => ?_))
        | (refine Br_not ?_)
        | (refine Len_in (fun hlen => ?_))
        | (refine Fn.use (live_true) rfl rfl ?_)
        | (refine CallF_in (live_true) rfl rfl ?_)
        | (refine Fn.use (hA) rfl rfl ?_)
        | (refine CallF_in (hA) rfl rfl ?_)
        | (refine Fn.useE hB a1 rfl rfl ?_)
        | (refine Fn.useE hC a2 rfl rfl ?_)
        | (refine Fn.useE hD a3 rfl rfl ?_)
        | (refine Need_in n1 ?_)
        | (refine Need_in n3 ?_)
        | (refine Br_split (fun h => ?_) (fun h => ?_))
        | (refine fin0 rfl ?_)
        | (refine ArK_in (wrap_i64 (by omega) (by omega)) ?_)
        | (refine force_in ?_)))
      all_goals rfl
    · rw [if_neg hl0] at hA hB hC
      have hrel : (mnI (-1 * valD l) 2147483647 = - mnI (valD l) 2147483647 ∨ (mnI (valD l) 2147483647 = 2147483647 ∧ mnI (-1 * valD l) 2147483647 = -2147483648)) ∧ -2147483648 ≤ mnI (valD l) 2147483647 ∧ mnI (valD l) 2147483647 ≤ 2147483647 := by
        unfold mnI
        split <;> split <;> omega
      generalize mnI (valD l) 2147483647 = x at *
      generalize mnI (-1 * valD l) 2147483647 = y at *
      obtain ⟨hr, hx1, hx2⟩ := hrel
      rw [decide_eq_false hl0] at hq
      have q1 : (true != (!((⟨l.toArray⟩ : ByteArray).toList == (⟨[].toArray⟩ : ByteArray).toList))) = false := by rw [hq]; rfl
      have hxx : (x == x) = true := by simp
      rcases hr with hr | ⟨hr1, hr2⟩
      · have hyx : (y == 0 - x) = true := beqT (by omega)
        repeat' ((conv => whnf); (first
          | (refine Br_false hd ?_)
          | (refine Br_false q1 ?_)
          | (refine Br_false hq ?_)
          | (refine Br_true hxx ?_)
          | (refine Br_true hyx ?_)
          | (refine Br_true (by assumption) ?_)
          | (refine Br_false (by assumption) ?_)
          | (refine Br_true (beqT (by omega)) ?_)
          | (refine Br_false (beqF (by omega)) ?_)
          | (refine Br_beq (fun h => ?_) (fun h => ?_))
          | (refine Br_true (bneT (by omega)) ?_)
          | (refine Br_false (bneF (by omega)) ?_)
          | (refine Br_bne (fun h => ?_) (fun h => ?_))
          | (refine Br_true (decide_eq_true (by omega)) ?_)
          | (refine Br_false (decide_eq_false (by omega)) ?_)
          | (refine Br_dec (fun h => ?_) (fun h => ?_))
          | (refine Br_not ?_)
          | (refine Len_in (fun hlen => ?_))
          | (refine Fn.use (live_true) rfl rfl ?_)
          | (refine CallF_in (live_true) rfl rfl ?_)
          | (refine Fn.use (hA) rfl rfl ?_)
          | (refine CallF_in (hA) rfl rfl ?_)
          | (refine Fn.useE hB a1 rfl rfl ?_)
          | (refine Fn.useE hC a2 rfl rfl ?_)
          | (refine Fn.useE hD a3 rfl rfl ?_)
          | (refine Need_in n1 ?_)
          | (refine Need_in n3 ?_)
          | (refine Br_split (fun h => ?_) (fun h => ?_))
          | (refine fin0 rfl ?_)
          | (refine ArK_in (wrap_i64 (by omega) (by omega)) ?_)
          | (refine force_in ?_)))
        all_goals rfl
      · have hyx : (y == 0 - x) = false := beqF (by omega)
        have h5 : (x == 2147483647) = true := beqT hr1
        have h6 : (y == -2147483648) = true := beqT hr2
        repeat' ((conv => whnf); (first
          | (refine Br_false hd ?_)
          | (refine Br_false q1 ?_)
          | (refine Br_false hq ?_)
          | (refine Br_true hxx ?_)
          | (refine Br_false hyx ?_)
          | (refine Br_true h5 ?_)
          | (refine Br_true h6 ?_)
          | (refine Br_true (by assumption) ?_)
          | (refine Br_false (by assumption) ?_)
          | (refine Br_true (beqT (by omega)) ?_)
          | (refine Br_false (beqF (by omega)) ?_)
          | (refine Br_beq (fun h => ?_) (fun h => ?_))
          | (refine Br_true (bneT (by omega)) ?_)
          | (refine Br_false (bneF (by omega)) ?_)
          | (refine Br_bne (fun h => ?_) (fun h => ?_))
          | (refine Br_true (decide_eq_true (by omega)) ?_)
          | (refine Br_false (decide_eq_false (by omega)) ?_)
          | (refine Br_dec (fun h => ?_) (fun h => ?_))
          | (refine Br_not ?_)
          | (refine Len_in (fun hlen => ?_))
          | (refine Fn.use (live_true) rfl rfl ?_)
          | (refine CallF_in (live_true) rfl rfl ?_)
          | (refine Fn.use (hA) rfl rfl ?_)
          | (refine CallF_in (hA) rfl rfl ?_)
          | (refine Fn.useE hB a1 rfl rfl ?_)
          | (refine Fn.useE hC a2 rfl rfl ?_)
          | (refine Fn.useE hD a3 rfl rfl ?_)
          | (refine Need_in n1 ?_)
          | (refine Need_in n3 ?_)
          | (refine Br_split (fun h => ?_) (fun h => ?_))
          | (refine fin0 rfl ?_)
          | (refine ArK_in (wrap_i64 (by omega) (by omega)) ?_)
          | (refine force_in ?_)))
        all_goals rfl
theorem law_Sign_args (xs : List AV) (h : ArgsOk Tryd.prog [9] xs) : Fn Tryd.prog 8 xs (.b true) := by
  obtain ⟨x, rfl, h1⟩ := args_1 h
  obtain ⟨d, hd, rfl⟩ := arg_one (s := .str) h1 (by kernel_rfl) (fun _ => by kernel_rfl)
  obtain ⟨l, rfl⟩ := has_str hd
  exact law_Sign l
end Go.Eng
